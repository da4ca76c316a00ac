/- Parts. -/
import Derived.Test.YtcoaokdoecgcbaaGreatDoorM00
import Derived.Calls
import Derived.Test.YtcoaokdoecgcbaaGreatDoorChecked
import Derived.Orders
import Derived.Laws.CopyRow
set_option maxHeartbeats 4000000
namespace Go.Proofs.YtcoaokdoecgcbaaGreatDoor.Hx
variable{β α:Type}{y:β}{i l:Nat}
theorem Hi:type_of% @Result.andThen_ok:=@Result.andThen_ok
theorem DO:type_of% @Sem.run_bind:=@Sem.run_bind
theorem UE:type_of% @Sem.run_pure:=@Sem.run_pure
inductive V where
 |bool (b:Bool)
 |int (k:IntKind) (n:Int)
 |str (s:List UInt8)
 |nilPtr
 |ptr (l off:Nat)
 |ed
 |slice (l off len:Nat)
 |nA
 |map (l:Nat)
 |nilFunc
 |func (f:Nat) (first a:List V)
 |nilIface
 |iface (t:Nat) (v:V)
 |agg (cs:List V)
 |tuple (vs:List V)
 |anyI (k:IntKind)
 deriving Inhabited
def V.undef:V:= .tuple []
mutual
def V.beq:V->V->Bool
 | .bool a,.bool b=>a == b
 | .int j a,.int k b=>j == k&&a == b
 | .str a,.str b=>a == b
 | .nilPtr,.nilPtr=>true
 | .ptr l o,.ptr l' o'=>l == l'&&o == o'
 | .ed,.ed=>true
 | .slice l o n,.slice l' o' n'=>l == l'&&o == o'&&n == n'
 | .nA,.nA=>true
 | .map l,.map l'=>l == l'
 | .nilFunc,.nilFunc=>true
 | .func f a c,.func f' a' c'=>f == f'&&V.O4 a a'&&V.O4 c c'
 | .nilIface,.nilIface=>true
 | .iface t v,.iface t' v'=>t == t'&&V.beq v v'
 | .agg a,.agg b=>V.O4 a b
 | .tuple a,.tuple b=>V.O4 a b
 | .anyI j,.anyI k=>j == k
 |_,_=>false
def V.O4:List V->List V->Bool
 |[],[]=>true
 |a::x,b::y=>V.beq a b&&V.O4 x y
 |_,_=>false
end
mutual
theorem V.eq_of_beq:∀(a b:V),V.beq a b=true->a=b
 | .bool a,b,h=>by cases b <;> simp_all[V.beq]
 | .int j a,b,h=>by cases b <;> simp_all[V.beq]
 | .str a,b,h=>by cases b <;> simp_all[V.beq]
 | .nilPtr,b,h=>by grind[V.beq]
 | .ptr l o,b,h=>by cases b <;> simp_all[V.beq]
 | .ed,b,h=>by grind[V.beq]
 | .slice l o n,b,h=>by cases b <;> simp_all[V.beq]
 | .nA,b,h=>by grind[V.beq]
 | .map l,b,h=>by cases b <;> simp_all[V.beq]
 | .nilFunc,b,h=>by grind[V.beq]
 | .func f a c,b,h=>by
   cases b <;> simp_all[V.beq]
   exact⟨V.yx _ _ h.1.2,V.yx _ _ h.2⟩
 | .nilIface,b,h=>by grind[V.beq]
 | .iface t v,b,h=>by
   cases b <;> simp_all[V.beq]
   exact V.eq_of_beq _ _ h.2
 | .agg a,b,h=>by
   cases b <;> simp_all[V.beq]
   exact V.yx _ _ h
 | .tuple a,b,h=>by
   cases b <;> simp_all[V.beq]
   exact V.yx _ _ h
 | .anyI j,b,h=>by cases b <;> simp_all[V.beq]
theorem V.yx:∀(a b:List V),V.O4 a b=true->a=b
 |[],b,h=>by grind[V.O4]
 | a::x,b,h=>by
   cases b <;> simp_all[V.O4];exact⟨V.eq_of_beq _ _ h.1,V.yx _ _ h.2⟩
end
mutual
theorem V.Et:∀(a:V),V.beq a a=true
 | .bool a=>by simp[V.beq]
 | .int j a=>by simp[V.beq]
 | .str a=>by simp[V.beq]
 | .nilPtr=>by rfl
 | .ptr l o=>by simp[V.beq]
 | .ed=>by rfl
 | .slice l o n=>by simp[V.beq]
 | .nA=>by rfl
 | .map l=>by simp[V.beq]
 | .nilFunc=>by rfl
 | .func f a c=>by simp[V.beq,V.AY a,V.AY c]
 | .nilIface=>by rfl
 | .iface t v=>by simp[V.beq,V.Et v]
 | .agg a=>by simp[V.beq,V.AY a]
 | .tuple a=>by simp[V.beq,V.AY a]
 | .anyI j=>by simp[V.beq]
theorem V.AY:∀(a:List V),V.O4 a a=true
 |[]=>by rfl
 |a::x=>by simp[V.O4,V.Et a,V.AY x]
end
def V.cells:V->List V
 | .agg cs=>cs
 |v=>[v]
def V.one:V->Bool
 | .agg _| .tuple _=>false
 |_=>true
def ni:Nat->Value->Option V
 |_,.bool b=>some (.bool b)
 |_,.int k n=>some (.int k n)
 |_,.string s=>some (.str s.data.toList)
 |_,.pointer none=>some .nilPtr
 |_,.slice none 0 0=>some .ed
 |_,.map none=>some .nA
 |_,.nilFunc=>some .nilFunc
 |_,.nilIface=>some .nilIface
 | n+1,.iface t v=>match ni n v with
   |some v=>some (.iface t v)
   |none=>none
 | n+1,.agg cs=>match cs.toList.mapM (ni n)with
   |some l=>some (.agg l)
   |none=>none
 | n+1,.tuple cs=>match cs.toList.mapM (ni n)with
   |some l=>some (.tuple l)
   |none=>none
 |_,_=>none
inductive To (α:Type) where
 |leaf
 |node (l:To α) (v:Option α) (r:To α)
noncomputable def To.get (t:To α):Nat->Option α:=To.rec (λ_=>none) (λ_ v _ gl gr n=>Bool.rec (Bool.rec (gr (Nat.sub (Nat.div n 2) 1)) (gl (Nat.div n 2)) (Nat.beq (Nat.mod n 2) 1)) v (Nat.beq n 0)) t
theorem To.ze(n:Nat):(To.leaf:To α).get n=none:=rfl
theorem To.Bb (l:To α) (v:Option α) (r:To α) (n:Nat):(To.node l v r).get n =
  match Nat.beq n 0 with
  |true=>v
  | false=>match Nat.beq (n % 2) 1 with
    |true=>l.get (n / 2)
    |false=>r.get (n / 2-1):=by
 show Bool.rec (motive:=λ_=>Option α) (Bool.rec (r.get (n / 2-1)) (l.get (n / 2)) (Nat.beq (n % 2) 1)) v (Nat.beq n 0)=_;cases Nat.beq n 0 <;> cases Nat.beq (n % 2) 1 <;> rfl
def To.TG:Nat->To α->Nat->α->To α
 |0,t,_,_=>t
 | f + 1,.leaf,n,x=>
   match Nat.beq n 0 with
   |true=> .node .leaf (some x) .leaf
   | false=>match Nat.beq (n % 2) 1 with
     |true=> .node (To.TG f .leaf (n / 2) x) none .leaf
     |false=> .node .leaf none (To.TG f .leaf (n / 2-1) x)
 | f + 1,.node l v r,n,x=>
   match Nat.beq n 0 with
   |true=> .node l (some x) r
   | false=>match Nat.beq (n % 2) 1 with
     |true=> .node (To.TG f l (n / 2) x) v r
     |false=> .node l v (To.TG f r (n / 2-1) x)
noncomputable def To.set (t:To α):Nat->α->To α:=To.rec (λn x=>Bool.rec (To.TG (Nat.succ n) .leaf n x) (.node .leaf (some x) .leaf) (Nat.beq n 0)) (λl v r sl a n x=>Bool.rec (Bool.rec (.node l v (a (Nat.sub (Nat.div n 2) 1) x)) (.node (sl (Nat.div n 2) x) v r) (Nat.beq (Nat.mod n 2) 1)) (.node l (some x) r) (Nat.beq n 0)) t
theorem To.VD (x:α):∀f (t:To α) n m,n<f->(t.TG f n x).get m=if n=m then some x else t.get m:=by
 intro f
 induction f with
 |zero=>omega
 | succ f g =>
   intro t n m h
   cases t with
   | leaf =>
     unfold To.TG
     cases h0:Nat.beq n 0 with
     | true=>
       have e:=DG h0;subst e
       cases m with
       |zero=>rfl
       | succ m=>
         have e1:Nat.beq (m+1) 0=false:=rfl
         grind[To.ze,To.Bb]
     | false =>
       have i:n≠0:=λe=>by simp_all
       cases b:Nat.beq (n % 2) 1 with
       | true=>
         have e1:=DG b;simp[To.ze,To.Bb]
         cases c:Nat.beq m 0 with
         | true=>
           simp_all
         | false=>
           have d:m≠0:=λe=>by simp_all
           cases a:Nat.beq (m % 2) 1 with
           | true=>
             have e2:=DG a;simp[g .leaf (n / 2) (m / 2) (by omega),To.ze]
             grind
           | false=>
             grind
       | false=>
         have e1:n % 2≠1:=λe=>by simp_all
         simp[To.ze,To.Bb]
         cases c:Nat.beq m 0 with
         | true=>
           simp_all
         | false=>
           have d:m≠0:=λe=>by simp_all
           cases a:Nat.beq (m % 2) 1 with
           | true=>
             grind
           | false=>
             have e2:m % 2≠1:=λe=>by simp_all
             simp[g .leaf (n / 2-1) (m / 2-1) (by omega),To.ze]
             grind
   | node l v r=>
     unfold To.TG
     cases h0:Nat.beq n 0 with
     | true=>
       have e:=DG h0;subst e
       cases m with
       |zero=>rfl
       | succ m=>
         rfl
     | false =>
       have i:n≠0:=λe=>by simp_all
       cases b:Nat.beq (n % 2) 1 with
       | true=>
         have e1:=DG b;simp[ To.Bb]
         cases c:Nat.beq m 0 with
         | true=>
           simp_all
         | false=>
           have d:m≠0:=λe=>by simp_all
           cases a:Nat.beq (m % 2) 1 with
           | true=>
             have e2:=DG a
             grind
           | false=>
             grind
       | false=>
         have e1:n % 2≠1:=λe=>by simp_all
         simp[ To.Bb]
         cases c:Nat.beq m 0 with
         | true=>
           simp_all
         | false=>
           have d:m≠0:=λe=>by simp_all
           cases a:Nat.beq (m % 2) 1 with
           | true=>
             grind
           | false=>
             have e2:m % 2≠1:=λe=>by simp_all
             grind
theorem To.MN (t:To α) (n m:Nat) (x:α):(t.set n x).get m=if n=m then some x else t.get m:=by
 induction t generalizing n m with
 | leaf=>
   show(Bool.rec (motive:=λ_=>To α) (To.TG (Nat.succ n) .leaf n x) (.node .leaf (some x) .leaf) (Nat.beq n 0)).get m=_
   cases h0:Nat.beq n 0 with
   | true=>
     have e:=DG h0;subst e;have:=To.VD x 1 .leaf 0 m (by omega)
     exact this
   |false=>grind[To.VD]
 | node l v r b c=>
   show(Bool.rec (motive:=λ_=>To α) (Bool.rec (.node l v (r.set (n / 2-1) x)) (.node (l.set (n / 2) x) v r) (Nat.beq (n % 2) 1)) (.node l (some x) r) (Nat.beq n 0)).get m=_
   cases h0:Nat.beq n 0 with
   | true=>
     have e:=DG h0;subst e
     cases m with
     |zero=>rfl
     | succ m=>
       rfl
   | false =>
     have h:n≠0:=λe=>by simp_all
     cases d:Nat.beq (n % 2) 1 with
     | true=>
       have e1:=DG d;simp[To.Bb]
       cases f:Nat.beq m 0 with
       | true=>
         simp_all
       | false=>
         have g:m≠0:=λe=>by simp_all
         cases a:Nat.beq (m % 2) 1 with
         | true=>
           have e2:=DG a
           grind
         | false=>
           grind
     | false=>
       have e1:n % 2≠1:=λe=>by simp_all
       simp[To.Bb]
       cases f:Nat.beq m 0 with
       | true=>
         simp_all
       | false=>
         have g:m≠0:=λe=>by simp_all
         cases a:Nat.beq (m % 2) 1 with
         | true=>
           grind
         | false=>
           have e2:m % 2≠1:=λe=>by simp_all
           grind
structure Q4 (α:Type) where
 a:α
 b:α
 c:α
 d:α
def QT(α:Type)(n:Nat):Type:=Nat.rec (To α) (λ_ a=>Q4 a) n
structure QG (α β:Type) where
 f:α->β
structure QU (α β:Type) where
 f:β->α->α
noncomputable def sel(i:Nat)(w x y z:β):β:=Bool.rec (Bool.rec (Bool.rec z y (Nat.beq (Nat.mod i 4) 2)) x (Nat.beq (Nat.mod i 4) 1)) w (Nat.beq (Nat.mod i 4) 0)
theorem zgc(h:i % 4=0)(w x y z:β):sel i w x y z=w:=by unfold sel;rw[show Nat.mod i 4=0 from h];rfl
theorem zf4(h:i % 4=1)(w x y z:β):sel i w x y z=x:=by unfold sel;rw[show Nat.mod i 4=1 from h];rfl
theorem zfV(h:i % 4=2)(w x y z:β):sel i w x y z=y:=by unfold sel;rw[show Nat.mod i 4=2 from h];rfl
theorem zfL(h:i % 4=3)(w x y z:β):sel i w x y z=z:=by unfold sel;rw[show Nat.mod i 4=3 from h];rfl
noncomputable def qg(α:Type) (n:Nat):Nat->QG (QT α n) (Option α):=Nat.rec (λi=>⟨λx=>To.get x i⟩) (λ_ e i=>sel i ⟨λq=>Q4.rec (motive:=λ_=>Option α) (λa _ _ _=>(e (Nat.div i 4)).f a) q⟩ ⟨λq=>Q4.rec (motive:=λ_=>Option α) (λ_ b _ _=>(e (Nat.div i 4)).f b) q⟩ ⟨λq=>Q4.rec (motive:=λ_=>Option α) (λ_ _ c _=>(e (Nat.div i 4)).f c) q⟩ ⟨λq=>Q4.rec (motive:=λ_=>Option α) (λ_ _ _ d=>(e (Nat.div i 4)).f d) q⟩) n
noncomputable def qs(α:Type) (n:Nat):Nat->QU (QT α n) α:=Nat.rec (λi=>⟨λv x=>To.set x i v⟩) (λn e i=>sel i ⟨λv q=>Q4.rec (motive:=λ_=>Q4 (QT α n)) (λa b c d=>⟨(e (Nat.div i 4)).f v a,b,c,d⟩) q⟩ ⟨λv q=>Q4.rec (motive:=λ_=>Q4 (QT α n)) (λa b c d=>⟨a,(e (Nat.div i 4)).f v b,c,d⟩) q⟩ ⟨λv q=>Q4.rec (motive:=λ_=>Q4 (QT α n)) (λa b c d=>⟨a,b,(e (Nat.div i 4)).f v c,d⟩) q⟩ ⟨λv q=>Q4.rec (motive:=λ_=>Q4 (QT α n)) (λa b c d=>⟨a,b,c,(e (Nat.div i 4)).f v d⟩) q⟩) n
noncomputable def q0(α:Type)(n:Nat):QT α n:=Nat.rec (To.leaf:To α) (λ_ a=>(⟨a,a,a,a⟩:Q4 _)) n
theorem Zj(α:Type) (n i:Nat):qg α (n+1) i=sel i
   ⟨λq=>Q4.rec (motive:=λ_=>Option α) (λa _ _ _=>(qg α n (i / 4)).f a) q⟩
   ⟨λq=>Q4.rec (motive:=λ_=>Option α) (λ_ b _ _=>(qg α n (i / 4)).f b) q⟩
   ⟨λq=>Q4.rec (motive:=λ_=>Option α) (λ_ _ c _=>(qg α n (i / 4)).f c) q⟩
   ⟨λq=>Q4.rec (motive:=λ_=>Option α) (λ_ _ _ d=>(qg α n (i / 4)).f d) q⟩:=rfl
theorem zdY(α:Type) (n i:Nat):qs α (n+1) i=sel i
   ⟨λv q=>Q4.rec (motive:=λ_=>Q4 (QT α n)) (λa b c d=>⟨(qs α n (i / 4)).f v a,b,c,d⟩) q⟩
   ⟨λv q=>Q4.rec (motive:=λ_=>Q4 (QT α n)) (λa b c d=>⟨a,(qs α n (i / 4)).f v b,c,d⟩) q⟩
   ⟨λv q=>Q4.rec (motive:=λ_=>Q4 (QT α n)) (λa b c d=>⟨a,b,(qs α n (i / 4)).f v c,d⟩) q⟩
   ⟨λv q=>Q4.rec (motive:=λ_=>Q4 (QT α n)) (λa b c d=>⟨a,b,c,(qs α n (i / 4)).f v d⟩) q⟩:=rfl
theorem UP(α:Type):∀n i,(qg α n i).f (q0 α n)=none
 |0,i=>rfl
 | n+1,i=>by
   rw[Zj];have h:i % 4=0\/i % 4=1\/i % 4=2\/i % 4=3:=by omega
   rcases h with h|h|h|h
   ·rw[zgc h];exact UP α n (i / 4)
   ·rw[zf4 h];exact UP α n (i / 4)
   ·rw[zfV h];exact UP α n (i / 4)
   ·rw[zfL h];exact UP α n (i / 4)
theorem zfp(α:Type) (v:α):∀n i j q,(qg α n j).f ((qs α n i).f v q)=if i=j then some v else(qg α n j).f q
 |0,i,j,q=>To.MN q i j v
 | n + 1,i,j,q=>by
   let⟨a,b,c,d⟩:=(q:Q4 (QT α n))
   have hi:i % 4=0\/i % 4=1\/i % 4=2\/i % 4=3:=by omega
   have e:j % 4=0\/j % 4=1\/j % 4=2\/j % 4=3:=by omega
   have g:=λq=>zfp α v n (i / 4) (j / 4) q;rw[Zj,zdY];rcases hi with hi|hi|hi|hi <;> rcases e with e|e|e|e
   all_goals first
     |rw[zgc hi]|rw[zf4 hi]|rw[zfV hi]|rw[zfL hi]
   all_goals first
     |rw[zgc e]|rw[zf4 e]|rw[zfV e]|rw[zfL e]
   all_goals grind
def Tr(α:Type):Type:=QT α 4
noncomputable def Tr.leaf:Tr α:=q0 α 4
noncomputable def Tr.get(t:Tr α)(n:Nat):Option α:=(qg α 4 n).f t
noncomputable def Tr.set(t:Tr α)(n:Nat)(x:α):Tr α:=(qs α 4 n).f x t
theorem Tr.ze(n:Nat):(Tr.leaf:Tr α).get n=none:=UP α 4 n
theorem Tr.MN(t:Tr α)(n m:Nat)(x:α):(t.set n x).get m=if n=m then some x else t.get m:=zfp α x 4 n m t
inductive O where
 |cells (e sz:Nat) (live ro:Bool) (cs:List V)
 |map (es:List (V×V×Nat)) (a:Nat)
 |iter (m:Option Nat) (since:Nat) (seen:List Nat) (last:Nat)
 |Rt (k:IntKind) (ks:List Int)
 |gone
 deriving Inhabited
structure Hp where
 next:Nat
 tr:Tr O
noncomputable def Hp.get(h:Hp)(l:Nat):Option O:=Bool.rec none (h.tr.get l) (Nat.blt l h.next)
theorem Hp.get_eq(h:Hp) (l:Nat):h.get l=if l<h.next then h.tr.get l else none:=by
 show Bool.rec (motive:=λ_=>Option O) none (h.tr.get l) (Nat.blt l h.next)=_
 cases hb:Nat.blt l h.next with
 |true=>simp_all
 |false=>rw[if_neg (by grind[Yh])]
theorem Hp.Dg{h:Hp}  {o:O} (a:h.get l=some o):l<h.next:=by
 grind[Hp.get_eq]
noncomputable def Hp.put(h:Hp)(l:Nat)(o:O):Hp:={h with tr:=h.tr.set l o}
noncomputable def Hp.new(h:Hp)(o:O):Hp:={next:=h.next+1,tr:=h.tr.set h.next o}
noncomputable def Vz:List V->Nat->Tr V->Tr V
 |[],_,t=>t
 |v::vs,i,t=>Vz vs (i+1) (t.set i v)
inductive Tm where
 |tree (t:Tr V) (ds:List (Nat×List V))
 |fn (f:Nat->V) (ds:List (Nat×List V))
noncomputable def ij(t:Tm) (i:Nat):V:=Tm.rec (λt _=>Option.rec V.undef (λv=>v) (t.get i)) (λf _=>f i) t
noncomputable def nG(f:Nat->V)(d:Nat)(v:V):Nat->V:=λi=>Bool.rec (f i) v (Nat.beq i d)
noncomputable def Tm.set(t:Tm) (d:Nat) (v:V):Tm:=Tm.rec (λt ds=> .tree (t.set d v) ds) (λf ds=> .fn (nG f d v) ds) t
def Tm.ds:Tm->List (Nat×List V)
 | .tree _ ds=>ds
 | .fn _ ds=>ds
def Tm.push(x:Nat×List V):Tm->Tm
 | .tree t ds=> .tree t (x::ds)
 | .fn f ds=> .fn f (x::ds)
theorem iz(t:Tm) (d i:Nat) (v:V):ij (t.set d v) i=if d=i then v else ij t i:=by
 cases t with
 | tree t ds=>
   show Option.rec (motive:=λ_=>V) V.undef (λv=>v) ((t.set d v).get i)=_;rw[Tr.MN];by_cases h:d=i
   ·simp_all
   ·rw[if_neg h,if_neg h];rfl
 | fn f ds=>
   show Bool.rec (motive:=λ_=>V) (f i) v (Nat.beq i d)=_
   cases hb:Nat.beq i d with
   |true=>simp_all
   |false=>rw[if_neg (by grind[wBh])];rfl
theorem Tm.FD(t:Tm)(d:Nat)(v:V):(t.set d v).ds=t.ds:=by cases t <;> rfl
noncomputable def Xd(args:List V):Tm:= .tree (Vz args 0 .leaf) []
def Df(args:List V):Tm:= .fn (λi=>(args[i]?).getD .undef) []
noncomputable def P0:Program:=Tryz.prog
attribute [irreducible] P0
def zgX:List (Nat×Array Value):=[]
noncomputable section ops
def oB(x:Option α)(k:α->Option β):Option β:=Option.rec none k x
def bB(c:Bool)(k:Option β):Option β:=Bool.rec none k c
def vZ (v:V) (k:Nat->Nat->Option β):Option β:=match v with
 | .ptr l o=>k l o
 |_=>none
def asNat (v:V) (k:Nat->Option β):Option β:=match v with
 | .int _ (.ofNat n)=>k n
 |_=>none
def Dr(t:Nat):Option Nat:=oB (P0.info? t) λi=>some i.size
def zdO(t:Nat):Option Nat:=oB (P0.info? t) λi=>some i.bytes
def UR(t:Nat):Option Bool:=match P0.underlying t with
 |some (.struct _)=>some true
 |some (.array _ _)=>some true
 |some _=>some false
 |none=>none
def zeroV(t:Nat):Option V:=oB (P0.info? t) λi=>oB i.zero λz=>ni 8 z
def takeN:Nat->List V->Option (List V)
 |0,_=>some []
 |_+1,[]=>none
 |n+1,v::vs=>oB (takeN n vs) λl=>some (v::l)
def sub(cs:List V)(off n:Nat):Option (List V):=takeN n (cs.drop off)
def NN(cs:List V)(off:Nat):Option V:=(cs.drop off).head?
def over:List V->List V->Option (List V)
 |[],cs=>some cs
 |_::_,[]=>none
 |n::ns,_::cs=>oB (over ns cs) λl=>some (n::l)
def sV:Nat->List V->List V->Option (List V)
 |0,cs,new=>over new cs
 |_+1,[],_=>none
 |k+1,c::cs,new=>oB (sV k cs new) λl=>some (c::l)
def gi:List V->Bool
 |[]=>true
 |v::vs=>Bool.rec false (gi vs) v.one
def kR (h:Hp) (l:Nat) (k:Nat->Nat->Bool->Bool->List V->Option β):Option β:=oB (h.get l) λo=>match o with
 | .cells e sz live ro cs=>k e sz live ro cs
 |_=>none
def BA (h:Hp) (l:Nat) (k:List (V×V×Nat)->Nat->Option β):Option β:=oB (h.get l) λo=>match o with
 | .map es c=>k es c
 |_=>none
def zU (h:Hp) (l:Nat) (k:List (V×V×Nat)->Nat->Option β) (kb:IntKind->List Int->Option β):Option β:=oB (h.get l) λo=>match o with
 | .map es c=>k es c
 | .Rt a ks=>kb a ks
 |_=>none
def Mb(h:Hp)(l off n:Nat):Option (List V):=kR h l λ_ _ live _ cs=>bB live (sub cs off n)
def ld1(h:Hp)(l off:Nat):Option V:=kR h l λ_ _ live _ cs=>bB live (NN cs off)
def LX(h:Hp) (l off:Nat) (new:List V):Option Hp:=kR h l λe sz live ro cs=>bB live (bB (!ro) (bB (gi new) (oB (sV off cs new) λuD=>some (h.put l (.cells e sz true false uD)))))
structure PF where
 f:Tm->Hp->Option V
structure NF where
 f:Tm->Option V
structure AF where
 f:Tm->Option (O×(Nat->V))
def Rq:Operand->NF
 | .tmp i=>⟨λt=>some (ij t i)⟩
 | .const v=>match ni 8 v with
   |some v=>⟨λ_=>some v⟩
   |none=>⟨λ_=>none⟩
 | .global _=>⟨λ_=>none⟩
 | .func f=>⟨λ_=>some (.func f [] [])⟩
def yL(x:Operand):PF:=match x with
 | .global g=>match Nat.blt g P0.globals.size with
   |true=>⟨λ_ h=>oB (h.get g) λ_=>some (.ptr g 0)⟩
   |false=>⟨λ_ _=>none⟩
 |x=>⟨λt _=>(Rq x).f t⟩
def NX(t:Tm):List Operand->Option (List V)
 |[]=>some []
 |x::xs=>oB ((Rq x).f t) λv=>oB (NX t xs) λvs=>some (v::vs)
def vA(t:Tm):List (Nat×Operand)->Option (List (Nat×V))
 |[]=>some []
 |x::xs=>oB ((Rq x.2).f t) λv=>oB (vA t xs) λvs=>some ((x.1,v)::vs)
def Kx(t:Nat) (a:PF):PF:=match UR t with
 | some true=>match Dr t with
   |some n=>⟨λt h=>oB (a.f t h) λa=>vZ a λl off=>oB (Mb h l off n) λcs=>some (.agg cs)⟩
   |none=>⟨λ_ _=>none⟩
 |some false=>⟨λt h=>oB (a.f t h) λa=>vZ a λl off=>ld1 h l off⟩
 |none=>⟨λ_ _=>none⟩
def placesOf:List Field->Option (List (Nat×Nat))
 |[]=>some []
 |f::fs=>oB (Dr f.type) λn=>oB (placesOf fs) λl=>some ((f.offset,n)::l)
def yd(place:Nat->Option (Nat×Nat)):List V->List (Nat×V)->Option (List V)
 |cells,[]=>some cells
 |cells,x::rest=>oB (place x.1) λp=>bB (Nat.beq x.2.cells.length p.2) (oB (sV p.1 cells x.2.cells) λcs=>yd place cs rest)
def DD:Nat->List V->List V
 |0,_=>[]
 |n+1,z=>z++DD n z
def Lj(t:Nat) (a:List (Nat×Operand)):PF:=match zeroV t with
 | some z=>match P0.underlying t with
   | some (.struct fields)=>match placesOf fields.toList with
     |some b=>⟨λt _=>oB (vA t a) λc=>oB (yd (λi=>b[i]?) z.cells c) λcs=>some (.agg cs)⟩
     |none=>⟨λ_ _=>none⟩
   | some (.array _ elem)=>match Dr elem with
     |some size=>⟨λt _=>oB (vA t a) λc=>oB (yd (λi=>some (Nat.mul i size,size)) z.cells c) λcs=>some (.agg cs)⟩
     |none=>⟨λ_ _=>none⟩
   |_=>⟨λ_ _=>none⟩
 |none=>⟨λ_ _=>none⟩
def jo(k:IntKind) (n:Int):Int:=match n with
 | .ofNat m=>match Nat.blt m (match k with| .i8=>128| .u8=>256| .i16=>32768| .u16=>65536| .i32=>2147483648| .u32=>4294967296| .i64=>9223372036854775808| .u64=>18446744073709551616)with
   |true=> .ofNat m
   |false=>k.wrap (.ofNat m)
 | .negSucc m=>k.wrap (.negSucc m)
def hint(op:BinOp) (k:IntKind) (x y:Int):Option V:=match op with
 | .add=>some (.int k (jo k (x+y)))
 | .sub=>some (.int k (jo k (x-y)))
 | .mul=>some (.int k (jo k (x*y)))
 | .quo=>match x,y with
   |_,.ofNat 0=>none
   |x,y=>some (.int k (jo k (x.tdiv y)))
 | .rem=>match x,y with
   |_,.ofNat 0=>none
   |x,y=>some (.int k (x.tmod y))
 | .or=>some (.int k (k.wrap ((BitVec.ofInt k.bits x |||BitVec.ofInt k.bits y).toNat)))
 | .eql=>some (.bool (x == y))
 | .neq=>some (.bool (x != y))
 | .lss=>some (.bool (x<y))
 | .leq=>some (.bool (x<=y))
 | .gtr=>some (.bool (x>y))
 | .geq=>some (.bool (x>=y))
 |_=>none
def Yi(op:BinOp) (k:IntKind) (x y:Int):Option V:=match y with
 | .negSucc _=>none
 | .ofNat m=>match op with
   | .shl=>some (.int k (k.wrap (x*2 ^ (min m k.bits))))
   | .shr=>some (.int k (x.fdiv (2 ^ (min m k.bits))))
   |_=>none
def zfC(op:BinOp) (x y:List UInt8):Option V:=match op with
 | .eql=>some (.bool (x == y))
 | .neq=>some (.bool (!(x == y)))
 |_=>none
def zgb(d:TypeDesc) (x y:V):Option Bool:=match d,x,y with
 | .bool,.bool a,.bool b=>some (a == b)
 |_,_,_=>none
def LH:IntKind->IntKind->Bool
 | .i8,.i8| .i16,.i16| .i32,.i32| .i64,.i64| .u8,.u8| .u16,.u16| .u32,.u32| .u64,.u64=>true
 |_,_=>false
def zce(t:Nat) (x y:V):Option Bool:=match P0.underlying t with
 |some d=>zgb d x y
 |none=>none
def zfY(t:Nat)(x y:V):Option Bool:=zce t x y
def zaL(t:Nat)(a:Bool)(x y:V):Option V:=oB (zfY t x y) λb=>some (.bool (Bool.rec b (!b) a))
def YH:BinOp->Bool
 | .shl| .shr=>true
 |_=>false
def ef(op:BinOp) (t:Nat) (x y:V):Option V:=match x,y with
 | .int k a,.int k' b=>match YH op with
   |true=>Yi op k a b
   |false=>bB (LH k k') (hint op k a b)
 | .str a,.str b=>zfC op a b
 | x,y=>match op with
   | .eql=>zaL t false x y
   | .neq=>zaL t true x y
   |_=>none
def wI(op:UnOp) (x:V):Option V:=match op,x with
 | .neg,.int k n=>some (.int k (jo k (Int.sub 0 n)))
 | .not,.bool b=>some (.bool !b)
 |_,_=>none
def Qo(a dst:Nat) (x:PF):PF:=match P0.underlying a,P0.underlying dst with
 | some (.int _),some (.int k)=>⟨λt h=>oB (x.f t h) λx=>match x with
   | .int _ n=>some (.int k (jo k n))
   |_=>none⟩
 |_,_=>⟨λ_ _=>none⟩
def zdd(t:Nat):List V->Nat->Option V:=match UR t with
 | some true=>match Dr t with
   |some n=>λcs off=>oB (sub cs off n) λl=>some (.agg l)
   |none=>λ_ _=>none
 |some false=>λcs off=>NN cs off
 |none=>λ_ _=>none
def TT(s f:Nat):Option Field:=match P0.underlying s with
 |some (.struct fields)=>fields.toList[f]?
 |_=>none
def sr(s:Nat) (x:PF) (f:Nat):PF:=match TT s f with
 | some a=>match Dr a.type with
   |some (_+1)=>⟨λt h=>oB (x.f t h) λx=>vZ x λl off=>some (.ptr l (Nat.add off a.offset))⟩
   |_=>⟨λ_ _=>none⟩
 |none=>⟨λ_ _=>none⟩
def sG(t:Nat) (x i:PF):PF:=match P0.underlying t with
 | some (.slice elem)=>match Dr elem with
   | some n=>⟨λt h=>oB (x.f t h) λx=>oB (i.f t h) λi=>asNat i λi=>match x with
     | .slice l off len=>bB (Nat.blt i len) (some (.ptr l (Nat.add off (Nat.mul i n))))
     |_=>none⟩
   |none=>⟨λ_ _=>none⟩
 | some (.array len elem)=>match Dr elem with
   |some n=>⟨λt h=>oB (x.f t h) λx=>oB (i.f t h) λi=>asNat i λi=>vZ x λl off=>bB (Nat.blt i len) (some (.ptr l (Nat.add off (Nat.mul i n))))⟩
   |none=>⟨λ_ _=>none⟩
 |_=>⟨λ_ _=>none⟩
def K0(t:Nat) (x i:PF):PF:=match P0.underlying t with
 | some .string=>⟨λt h=>oB (x.f t h) λx=>oB (i.f t h) λi=>asNat i λi=>match x with
   | .str s=>oB ((s.drop i).head?) λb=>some (.int .u8 (.ofNat b.toNat))
   |_=>none⟩
 |_=>⟨λ_ _=>none⟩
def hbound(d:Nat):Option V->Option Nat
 |none=>some d
 |some (.int _ (.ofNat n))=>some n
 |some _=>none
def jw(size:Nat) (x:V) (lo hi:Option V) (h:Hp):Option V:=match x with
 | .slice lc off len=>kR h lc λ_ sz _ _ cs=>bB (Nat.beq size sz) (oB (hbound 0 lo) λl=>oB (hbound len hi) λu=>
   bB (Nat.ble l u) (bB (Nat.ble u len ||Nat.ble (Nat.add off (Nat.mul u size)) cs.length) (some (.slice lc (Nat.add off (Nat.mul l size)) (Nat.sub u l)))))
 | .ed=>oB (hbound 0 lo) λl=>oB (hbound 0 hi) λu=>bB (Nat.beq l 0) (bB (Nat.beq u 0) (some .ed))
 |_=>none
def TJ(x:V) (lo hi:Option V):Option V:=match x with
 | .str s=>oB (hbound 0 lo) λl=>oB (hbound s.length hi) λu=>bB (Nat.ble l u) (bB (Nat.ble u s.length) (some (.str ((s.drop l).take (Nat.sub u l)))))
 |_=>none
def LL(x:Option Operand) (t:Tm) (h:Hp):Option (Option V):=match x with
 |none=>some none
 |some x=>oB ((yL x).f t h) λv=>some (some v)
def NR(t:Nat) (x:PF) (lo hi:Option Operand):PF:=match P0.underlying t with
 |some .string=>⟨λt h=>oB (x.f t h) λx=>oB (LL lo t h) λl=>oB (LL hi t h) λu=>TJ x l u⟩
 | some (.slice elem)=>match Dr elem with
   |some (n+1)=>⟨λt h=>oB (x.f t h) λx=>oB (LL lo t h) λl=>oB (LL hi t h) λu=>jw (Nat.succ n) x l u h⟩
   |_=>⟨λ_ _=>none⟩
 |_=>⟨λ_ _=>none⟩
def LM:V->Bool
 | .int _ _| .str _| .bool _=>true
 |_=>false
def Nk:V->Bool
 | .agg cs=>cs.all LM
 |v=>LM v
def I8(t:Nat) (a b:V):Option Bool:=match P0.underlying t with
 | some (.int _)=>match a,b with
   | .int k a,.int k' b=>bB (LH k k') (some (a == b))
   |_,_=>none
 | some .string=>match a,b with
   | .str a,.str b=>some (a == b)
   |_,_=>none
 | some .bool=>match a,b with
   | .bool a,.bool b=>some (a == b)
   |_,_=>none
 |_=>none
def Gz(t:Nat):Bool:=match P0.underlying t with
 |some (.int _)|some .string|some .bool=>true
 |_=>false
def Wn:List Field->List V->List V->Option Bool
 |[],_,_=>some true
 |f::fs,x,y=>oB (NN x f.offset) λa=>oB (NN y f.offset) λb=>oB (I8 f.type a b) λe=>Bool.rec (some false) (Wn fs x y) e
def LC(t:Nat):Option (Option (List Field)):=match P0.underlying t with
 |some (.int _)|some .string|some .bool=>some none
 | some (.struct fs)=>match !P0.stoodInHeld t&&fs.toList.all (λf=>Gz f.type&&f.name != "_")with
   |true=>some (some fs.toList)
   |false=>none
 |_=>none
def L0(t:Nat) (d:Option (List Field)) (a b:V):Option Bool:=match d with
 |none=>I8 t a b
 | some fs=>match a,b with
   | .agg x,.agg y=>Wn fs x y
   |_,_=>none
def KY(d:Option (List Field)) (k:V):Bool:=match d with
 |none=>true
 | some fs=>match k with
   | .agg x=>fs.all λf=>(NN x f.offset).isSome
   |_=>false
def oU(t:Nat) (d:Option (List Field)) (k:V):List (V×V×Nat)->Nat->Option (Option (Nat×V))
 |[],_=>some none
 |e::es,i=>oB (L0 t d k e.1) λb=>Bool.rec (oU t d k es (Nat.succ i)) (some (some (i,e.2.1))) b
def found(z:V) (ok:Bool) (r:Option (Nat×V)):V:=match r,ok with
 |some (_,v),true=> .tuple [v,.bool true]
 |some (_,v),false=>v
 |none,true=> .tuple [z,.bool false]
 |none,false=>z
def Ht(t:Nat):Bool:=match P0.underlying t with
 |some (.int _)=>true
 |_=>false
def IE(ks:List Int)(n:Int):Bool:=ks.any λm=>m == n
def Pk(t:Nat) (d:Option (List Field)) (z:V) (ok:Bool) (k:V) (a:IntKind) (ks:List Int):Option V:=match d,k with
 |none,.int k' n=>bB (Ht t) (bB (LH k' a) (some (found z ok (Bool.rec none (some (0,.bool true)) (IE ks n)))))
 |_,_=>none
def Jm(a:Nat) (m k:PF) (ok:Bool):PF:=match P0.underlying a with
 | some (.map kt et)=>match LC kt,zeroV et with
   |some d,some z=>⟨λt h=>oB (m.f t h) λm=>oB (k.f t h) λk=>bB (KY d k) (match m with
      | .nA=>some (found z ok none)
      | .map l=>zU h l (λes _=>oB (oU kt d k es 0) λr=>some (found z ok r)) (Pk kt d z ok k)
      |_=>none)⟩
   |_,_=>⟨λ_ _=>none⟩
 |_=>⟨λ_ _=>none⟩
def hlen(t:Nat) (x:PF):PF:=match P0.underlying t with
 | some .string=>⟨λt h=>oB (x.f t h) λx=>match x with
   | .str s=>some (.int .i64 (.ofNat s.length))
   |_=>none⟩
 | some (.slice _)=>⟨λt h=>oB (x.f t h) λx=>match x with
   | .slice _ _ n=>some (.int .i64 (.ofNat n))
   | .ed=>some (.int .i64 (.ofNat 0))
   |_=>none⟩
 |_=>⟨λ_ _=>none⟩
def T4(c:Bool):V->List V->Option V
 |x,[]=>some x
 | .int k a,.int _ b::r=>T4 c (.int k (if c then(if b>a then b else a) else(if b<a then b else a))) r
 |_,_=>none
def isIface(t:Nat):Option Bool:=match P0.underlying t with
 |some (.interface _)=>some true
 |some _=>some false
 |none=>none
def Jq(x:PF) (a:Nat) (ok:Bool):PF:=match isIface a,ok with
 | some false,false=>⟨λt h=>oB (x.f t h) λx=>match x with
   | .iface t v=>bB (Nat.beq t a) (some v)
   |_=>none⟩
 |_,_=>⟨λ_ _=>none⟩
def OJ(c a b:PF):PF:=⟨λt h=>oB (c.f t h) λc=>match c with
 | .bool x=>Bool.rec (b.f t h) (a.f t h) x
 |_=>none⟩
def AZ(x:PF):PF:=⟨λt h=>oB (x.f t h) λx=>match x with
 | .ptr l off=>some (.ptr l off)
 | .func f a c=>some (.func f a c)
 | .iface u v=>some (.iface u v)
 |_=>none⟩
def Iz(x:PF) (i:Nat):PF:=⟨λt h=>oB (x.f t h) λx=>match x with
 | .tuple vs=>NN vs i
 |_=>none⟩
def zdG:PF:=⟨λ_ _=>none⟩
def iJ(o:Oper):PF:=match o.op with
 | .move x=>yL x
 | .assign x=>yL x
 | .pick c a b=>OJ (yL c) (yL a) (yL b)
 | .load ty a=>Kx ty (yL a)
 | .nilCheck x=>AZ (yL x)
 | .binOp op j x y _=>⟨λt h=>oB ((yL x).f t h) λa=>oB ((yL y).f t h) λb=>ef op j a b⟩
 | .unOp op _ x=>⟨λt h=>oB ((yL x).f t h) λa=>wI op a⟩
 | .convert g dst x=>Qo g dst (yL x)
 | .build ty e=>Lj ty e.toList
 | .makeFunc (.func f) first caps=>⟨λt _=>oB (NX t first.toList) λa=>oB (NX t caps.toList) λc=>some (.func f a c)⟩
 | .slice ty x lo hi none=>NR ty (yL x) lo hi
 | .fieldAddr s x f=>sr s (yL x) f
 | .indexAddr ty x i=>sG ty (yL x) (yL i)
 | .index ty x i=>K0 ty (yL x) (yL i)
 | .lookup ty m k ok=>Jm ty (yL m) (yL k) ok
 | .extract x i=>Iz (yL x) i
 | .makeInterface ty x=>match isIface ty with
   |some false=>⟨λt h=>oB ((yL x).f t h) λv=>some (.iface ty v)⟩
   |_=>zdG
 | .typeAssert x _ d ok=>Jq (yL x) d ok
 | .call c=>match c.callee with
   | .builtin .len=>match c.args.toList,c.argTypes.toList with
     |[x],ty::_=>hlen ty (yL x)
     |_,_=>zdG
   | .builtin .min=>⟨λt _=>oB (NX t c.args.toList) λl=>match l with
     |x::r=>T4 false x r
     |[]=>none⟩
   | .builtin .max=>⟨λt _=>oB (NX t c.args.toList) λl=>match l with
     |x::r=>T4 true x r
     |[]=>none⟩
   |_=>zdG
 |_=>zdG
def kZ(e:Nat)(v:V):Option (O×(Nat->V)):=bB (gi v.cells) (some (.cells e 1 true false v.cells,λl=> .ptr l 0))
def HA(b size len:Nat) (z:V) (a:List (Nat×Operand)) (t:Tm):Option (O×(Nat->V)):=oB (vA t a) λc=>oB (yd (λi=>some (Nat.mul i size,size)) (DD len z.cells) c) λcs=>bB (gi cs) (some (.cells b size true false cs,λl=> .slice l 0 len))
def jy(a size iU:Nat) (z:V) (n c:V):Option (O×(Nat->V)):=match n,c with
 | .int .i64 (.ofNat n),.int .i64 (.ofNat c)=>bB (Nat.ble n c) (bB (Nat.ble (Nat.mul c iU) 281474976710656) (bB (Nat.ble c 1099511627776)
   (some (.cells a size true false (DD c z.cells),λl=> .slice l 0 n))))
 |_,_=>none
def elemOf(a:Nat):Option (Nat×Nat×V):=oB (Dr a) λsize=>oB (zdO a) λiU=>oB (zeroV a) λz=>bB (Nat.blt 0 size) (bB (Nat.beq z.cells.length size) (bB (gi z.cells) (some (size,iU,z))))
def MQ(t:Nat):Option Nat:=match P0.underlying t with
 |some (.slice e)=>some e
 |_=>none
def U1:AF:=⟨λ_=>none⟩
def sY(o:Oper):AF:=match o.op with
 | .alloc e=>match zeroV e with
   |some z=>⟨λ_=>kZ e z⟩
   |none=>U1
 | .box e x=>⟨λt=>oB ((Rq x).f t) λv=>kZ e v⟩
 | .buildSlice ty len b=>match MQ ty with
   | some a=>match elemOf a with
     | some (size,_,z)=>match Nat.ble (Nat.mul len size) 16777216 with
       |true=>⟨λt=>HA a size len z b.toList t⟩
       |false=>U1
     |none=>U1
   |none=>U1
 | .makeSlice ty n c=>match MQ ty with
   | some a=>match elemOf a with
     |some (size,iU,z)=>⟨λt=>oB ((Rq n).f t) λn=>oB ((Rq c).f t) λc=>jy a size iU z n c⟩
     |none=>U1
   |none=>U1
 | .makeMap ty none=>match P0.underlying ty with
   |some (.map _ _)=>⟨λ_=>some (.map [] 0,λl=> .map l)⟩
   |_=>U1
 |_=>U1
inductive R where
 |val (v:V) (h:Hp)
 |call (f:Nat) (args:List V)
structure WF where
 f:Tm->Hp->Option R
def mV(h:Hp) (size:Nat):V->Option (Nat×List V)
 | .ed=>some (0,[])
 | .slice _ _ 0=>some (0,[])
 | .slice l off (n+1)=>oB (Mb h l off (Nat.mul (Nat.succ n) size)) λcs=>some (Nat.succ n,cs)
 |_=>none
def fg(a size iU:Nat) (s x:V) (h:Hp):Option R:=oB (mV h size x) λnx=>
 Bool.rec
  (bB (gi nx.2) (match s with
   | .ed=>bB (Nat.ble (Nat.mul nx.1 iU) 70368744177664) (bB (Nat.ble nx.1 70368744177664)
     (some (.val (.slice h.next 0 nx.1) (h.new (.cells a size true false nx.2)))))
   | .slice l off len=>kR h l λe sz live ro cs=>bB live (bB (!ro) (bB (Nat.beq sz size)
     (Bool.rec
      (oB (sub cs off (Nat.mul len size)) λyK=>bB (gi yK) (bB (Nat.ble (Nat.mul (Nat.add len nx.1) iU) 70368744177664) (bB (Nat.ble (Nat.add len nx.1) 70368744177664)
       (some (.val (.slice h.next 0 (Nat.add len nx.1)) ((h.put l (.cells e sz false false cs)).new (.cells a size true false (yK++nx.2))))))))
      (oB (sV (Nat.add off (Nat.mul len size)) cs nx.2) λuD=>some (.val (.slice l off (Nat.add len nx.1)) (h.put l (.cells e sz true false uD))))
      (Nat.ble (Nat.add off (Nat.mul (Nat.add len nx.1) size)) cs.length))))
   |_=>none))
  (match s with
   | .ed=>some (.val .ed h)
   | .slice l off len=>some (.val (.slice l off len) h)
   |_=>none)
  (Nat.beq nx.1 0)
def BG(t:Nat) (d:Option (List Field)) (es:List (V×V×Nat)) (a:Nat) (k v:V):Option O:=oB (oU t d k es 0) λr=>match r with
 |some (i,_)=>oB es[i]? λe=>bB (V.beq e.1 k) (bB (Nk k) (some (.map (es.set i (k,v,e.2.2)) a)))
 |none=>some (.map (es++[(k,v,a)]) (Nat.succ a))
def WX(t:Nat) (d:Option (List Field)) (k v:V) (l:Nat) (h:Hp) (a:IntKind) (ks:List Int):Option R:=match d,k,v with
 |none,.int k' n,.bool true=>bB (Ht t) (bB (LH k' a) (some (.val .undef (h.put l (.Rt a (n::ks))))))
 |_,_,_=>none
def xN(t:Nat) (d:Option (List Field)) (m k v:V) (h:Hp):Option R:=bB (KY d k) (match m with
 | .map l=>zU h l (λes c=>oB (BG t d es c k v) λo=>some (.val .undef (h.put l o))) (WX t d k v l h)
 |_=>none)
def Cg(t:Nat) (d:Option (List Field)) (m k:V) (h:Hp):Option R:=bB (KY d k) (match m with
 | .nA=>some (.val (.tuple []) h)
 | .map l=>BA h l λes c=>oB (oU t d k es 0) λr=>match r with
   |some (i,_)=>some (.val (.tuple []) (h.put l (.map (es.eraseIdx i) c)))
   |none=>some (.val (.tuple []) h)
 |_=>none)
def gh(f:V) (args:List V):Option R:=match f with
 | .func f first a=>some (.call f (first++(args++a)))
 |_=>none
def methodOf(t:Nat) (a:String):Option (Nat×Option Nat):=oB (P0.info? t) λi=>match i.methods.toList.find? (λm=>m.name == a)with
 | some m=>match m.path.toList,m.func,P0.underlying t with
   |[],some (f,true),some (.pointer _)=>some (f,none)
   |[],some (f,false),some (.pointer e)=>some (f,some e)
   |[],some (f,false),some _=>some (f,none)
   |_,_,_=>none
 |none=>none
def kh(a:String) (r:V) (args:List V) (h:Hp):Option R:=match r with
 | .iface t v=>match methodOf t a with
   |some (f,none)=>some (.call f (v::args))
   |some (f,some e)=>oB ((Kx e ⟨λ_ _=>some v⟩).f (.tree .leaf []) h) λx=>some (.call f (x::args))
   |none=>none
 |_=>none
def ND(m:V) (h:Hp):Option R:=match m with
 | .map l=>BA h l λ_ c=>some (.val (.ptr h.next 0) (h.new (.iter (some l) c [] c)))
 |_=>none
def NJ(it:V) (h:Hp):Option R:=vZ it λr off=>bB (Nat.beq off 0) (oB (h.get r) λo=>match o with
 | .iter (some m) _ seen last=>BA h m λes a=>bB (Nat.beq a last) (oB seen.getLast? λst=>oB (es.find? λe=>Nat.beq e.2.2 st) λe=>some (.val (.tuple [e.1,e.2.1]) h))
 |_=>none)
def OZ:WF:=⟨λ_ _=>none⟩
def j5(o:Oper):WF:=match o.op with
 | .store ty a x=>match Dr ty with
   |some n=>⟨λt h=>oB ((yL a).f t h) λa=>oB ((yL x).f t h) λv=>vZ a λl off=>
      bB (Nat.beq v.cells.length n) (oB (LX h l off v.cells) λh=>some (.val .undef h))⟩
   |none=>OZ
 | .mapUpdate ty m k x=>match P0.underlying ty with
   | some (.map kt _)=>match LC kt with
     |some d=>⟨λt h=>oB ((yL m).f t h) λm=>oB ((yL k).f t h) λk=>oB ((yL x).f t h) λv=>xN kt d m k v h⟩
     |none=>OZ
   |_=>OZ
 | .range ty x=>match P0.underlying ty with
   |some (.map _ _)=>⟨λt h=>oB ((yL x).f t h) λm=>ND m h⟩
   |_=>OZ
 | .entry x=>⟨λt h=>oB ((yL x).f t h) λm=>NJ m h⟩
 | .call c=>match c.callee with
   | .builtin .append=>match c.args.toList,c.argTypes.toList with
     | [s,x],[sT,xT]=>match MQ sT,P0.underlying xT with
       | some elem,some (.slice _)=>match elemOf elem with
         |some (size,iU,_)=>⟨λt h=>oB ((yL s).f t h) λs=>oB ((yL x).f t h) λx=>fg elem size iU s x h⟩
         |none=>OZ
       |_,_=>OZ
     |_,_=>OZ
   | .builtin .delete=>match c.args.toList,c.argTypes.toList with
     | [m,k],mT::_=>match P0.underlying mT with
       | some (.map kt _)=>match LC kt with
         |some d=>⟨λt h=>oB ((yL m).f t h) λm=>oB ((yL k).f t h) λk=>Cg kt d m k h⟩
         |none=>OZ
       |_=>OZ
     |_,_=>OZ
   | .value f=>⟨λt h=>oB ((yL f).f t h) λf=>oB (NX t c.args.toList) λargs=>gh f args⟩
   | .invoke r b=>⟨λt h=>oB ((yL r).f t h) λr=>oB (NX t c.args.toList) λargs=>kh b r args h⟩
   |_=>OZ
 |_=>OZ
def cls(o:Oper):Nat:=match o.op with
 | .alloc _| .box _ _| .buildSlice _ _ _| .makeSlice _ _ _| .makeMap _ _=>1
 | .move _| .assign _| .pick _ _ _| .load _ _| .nilCheck _| .binOp _ _ _ _ _| .unOp _ _ _| .build _ _| .makeFunc _ _ _| .slice _ _ _ _ _
 | .fieldAddr _ _ _| .indexAddr _ _ _| .index _ _ _| .lookup _ _ _ _| .extract _ _| .makeInterface _ _| .typeAssert _ _ _ _=>0
 | .call c=>match c.callee with
   | .builtin .len| .builtin .min| .builtin .max=>0
   |_=>2
 | .convert a dst _=>match P0.underlying a,P0.underlying dst with
   |some (.int _),some (.int _)=>0
   |_,_=>2
 |_=>2
abbrev Call:=Nat->List V->Hp->Option (V×Hp)
structure RF where
 f:Call->Tm->Hp->Option (V×Hp)
def EV(o:Oper):RF:=match cls o with
 |0=>⟨λ_ t h=>oB ((iJ o).f t h) λv=>some (v,h)⟩
 |1=>⟨λ_ t h=>oB ((sY o).f t) λr=>some (r.2 h.next,h.new r.1)⟩
 | _=>⟨λcall t h=>oB ((j5 o).f t h) λr=>match r with
   | .val v h=>some (v,h)
   | .call f args=>call f args h⟩
structure GF where
 f:Tm->Option Bool
def kE(n:Nat) (ops:List Oper) (o:Oper):Option GF:=match o.guard with
 |none=>none
 | some (j,w)=>match ops[j]? with
   | some a=>match a.dst with
     | some d=>match Nat.blt d n with
       | true=>some ⟨λt=>match ij t d with
         | .bool b=>some (Bool.rec (!w) w b)
         | .tuple []=>some false
         |_=>none⟩
       |false=>some ⟨λ_=>none⟩
     |none=>some ⟨λ_=>some false⟩
   |none=>some ⟨λ_=>some false⟩
structure DF where
 f:Tm->V->Tm
def xK(n:Nat) (o:Oper):Option DF:=match o.dst with
 |none=>some ⟨λt _=>t⟩
 | some d=>match Nat.blt d n with
   |true=>some ⟨λt v=>t.set d v⟩
   |false=>none
structure SF where
 f:Call->Tm->Hp->Option (Tm×Hp)
def zg1:SF:=⟨λ_ _ _=>none⟩
structure QF where
 f:Tm->Hp->Option Tm
def Ie(n:Nat) (all:List Oper) (o:Oper) (a:SF):SF:=match xK n o with
 |none=>zg1
 | some d=>match kE n all o with
   |none=>⟨λcall t h=>oB ((EV o).f call t h) λr=>a.f call (d.f t r.1) r.2⟩
   |some g=>⟨λcall t h=>oB (g.f t) λb=>Bool.rec (a.f call (d.f t .undef) h)
      (oB ((EV o).f call t h) λr=>a.f call (d.f t r.1) r.2) b⟩
def lU(n:Nat) (all:List Oper):List Oper->SF
 |[]=>⟨λ_ t h=>some (t,h)⟩
 |o::os=>Ie n all o (lU n all os)
structure It where
 i:Nat
 o:Oper
 b:Nat
def Qt(e:Edge):Bool:=match e.ground with
 | .textOnly _| .gcOnly _=>false
 |_=>true
def Rk(a:List Nat):List Edge->Nat->Nat
 |[],m=>m
 | e::es,m=>match Qt e with
   |true=>Rk a es (m |||(2 ^ e.on |||a[e.on]?.getD 0))
   |false=>Rk a es m
def items:List Oper->Nat->List Nat->List It
 |[],_,_=>[]
 |o::os,i,acc=>{i,o,b:=Rk acc o.after.toList 0}::items os (i+1) (acc++[Rk acc o.after.toList 0])
def DB:List Operand->List Nat
 |[]=>[]
 | .tmp t::xs=>t::DB xs
 |_::xs=>DB xs
def tA(o:Oper):List Nat:=o.dst.toList++DB o.op.operands.toList
def writes(o:Oper) (l:List Nat):Bool:=match o.dst with
 |some d=>l.contains d
 |none=>false
def Up(a b:It):Bool:=(!(writes a.o (tA b.o))&&!(writes b.o (tA a.o))) ||b.b.testBit a.i
def tw:List It->Bool
 |[]=>true
 |a::l=>l.all (Up a)&&tw l
def FM(kr:List It) (a:It):Bool:=match a.o.guard with
 |none=>true
 | some (j,_)=>match kr[j]? with
   | some g=>match g.o.dst with
     |some d=>a.b.testBit j&&kr.all (λx=>x.i == j || !(x.o.dst == some d))
     |none=>false
   |none=>false
def Cw(a:It):Bool:=a.o.after.toList.all λe=>!Qt e ||Nat.blt e.on a.i
def Js:List It->Bool
 |a::b::l=>b.b.testBit a.i&&Js (b::l)
 |_=>true
def T6(kr ws:List It):Bool:=tw kr&&kr.all (FM kr)&&kr.all Cw&&Js ws
def early(ws:List It)(a:It):Nat:=(ws.filter λw=>a.b.testBit w.i).length
def late:List It->It->Nat
 |[],_=>0
 | w::ws,a=>match w.b.testBit a.i with
   |true=>0
   |false=>late ws a+1
def O.beq:O->O->Bool
 | .cells e s a r cs,.cells e' s' a' r' uD=>e == e'&&s == s'&&a == a'&&r == r'&&V.O4 cs uD
 | .map [] c,.map [] c'=>c == c'
 |_,_=>false
structure Rec where
 it:It
 t:Tm
 v:V
 made:Option (Nat×O)
 last:Nat
def AN(h:Hp) (r:Rec):Bool:=match r.made with
 | none=>match (iJ r.it.o).f r.t h with
   |some v=>V.beq v r.v
   |none=>false
 | some (l,ob)=>match h.get l with
   |some a=>O.beq a ob
   |none=>false
def rz(n:Nat) (all:List Oper) (o:Oper) (t:Tm):Option Bool:=match kE n all o with
 |none=>some true
 |some g=>g.f t
def CR(k:Nat)(h:Hp)(rs:List Rec):Bool:=rs.all λr=>Nat.blt r.last k ||AN h r
def ZN(kr ws:List It)(k:Nat):List It:=kr.filter λa=>!(Nat.beq (cls a.o) 2)&&Nat.beq (early ws a) k
def order(kr ws:List It):List It->Nat->List It
 |[],k=>ZN kr ws k
 |w::todo,k=>ZN kr ws k++w::order kr ws todo (Nat.succ k)
def Pr(ws:List It) (a:It):Nat->Bool
 |0=>true
 | k+1=>match ws[k]? with
   |some w=>a.b.testBit w.i
   |none=>false
def isW(ws:List It) (a:It) (k:Nat):Bool:=match ws[k]? with
 |some w=>Nat.beq w.i a.i
 |none=>false
def xy(kr ws:List It):List It->Nat->Nat->Bool
 |[],m,k=>kr.all (λa=>m.testBit a.i)&&Nat.beq k ws.length
 | a::l,m,k=>!m.testBit a.i&&(kr.all (λx=>!a.b.testBit x.i ||m.testBit x.i)&&(match Nat.beq (cls a.o) 2 with
   |true=>isW ws a k&&xy kr ws l (m |||2 ^ a.i) (Nat.succ k)
   |false=>Pr ws a k&&xy kr ws l (m |||2 ^ a.i) k))
structure LF where
 f:Call->Tm->Hp->List Rec->Option (Tm×Hp)
def KH(n:Nat) (all:List Oper) (ws:List It) (a:It) (d:DF) (c:LF):LF:=⟨λcall t h rs=>oB (rz n all a.o t) λb=>Bool.rec (c.f call (d.f t .undef) h rs) (oB ((iJ a.o).f t h) λv=>c.f call (d.f t v) h ({it:=a,t,v,made:=none,last:=late ws a}::rs)) b⟩
def IB(n:Nat) (all:List Oper) (ws:List It) (a:It) (d:DF) (c:LF):LF:=⟨λcall t h rs=>oB (rz n all a.o t) λb=>Bool.rec (c.f call (d.f t .undef) h rs) (oB ((sY a.o).f t) λr=>c.f call (d.f t (r.2 h.next)) (h.new r.1) ({it:=a,t,v:=r.2 h.next,made:=some (h.next,r.1),last:=late ws a}::rs)) b⟩
def Dc(n:Nat) (all:List Oper) (k:Nat) (a:It) (d:DF) (c:LF):LF:=⟨λcall t h rs=>bB (CR k h rs) (oB (rz n all a.o t) λb=>Bool.rec (c.f call (d.f t .undef) h rs) (oB ((EV a.o).f call t h) λx=>bB (Nat.ble h.next x.2.next) (c.f call (d.f t x.1) x.2 rs)) b)⟩
def yA(n:Nat) (all:List Oper) (ws:List It):List It->Nat->LF
 |[],k=>⟨λ_ t h rs=>bB (CR k h rs) (some (t,h))⟩
 | a ::l,k=>match xK n a.o with
   |none=>⟨λ_ _ _ _=>none⟩
   | some d=>match cls a.o with
     |0=>KH n all ws a d (yA n all ws l k)
     |1=>IB n all ws a d (yA n all ws l k)
     |_=>Dc n all k a d (yA n all ws l (Nat.succ k))
def hH(kr:List It):List It:=kr.filter λa=>Nat.beq (cls a.o) 2
def Uq:Operand->Bool
 | .global _=>false
 |_=>true
def storeAt(o:Oper):Option Nat:=match o.op with
 | .store _ (.tmp d) x=>match o.guard,o.dst,Uq x with
   |none,none,true=>some d
   |_,_,_=>none
 |_=>none
def Mj(o:Oper):Bool:=match o.op with
 | .move x| .nilCheck x| .fieldAddr _ x _=>Uq x
 | .indexAddr _ x i=>Uq x&&Uq i
 |_=>false
def Pz:List It->Option (It×It)
 |[]=>none
 |[_]=>none
 |[a,b]=>some (a,b)
 |_::b::c::l=>Pz (b::c::l)
def Li:List It->Bool
 | a::b::c::l=>b.b.testBit a.i&&(match l with
   |[]=>c.b.testBit a.i
   |_=>true)&&Li (b::c::l)
 |_=>true
def fixed(kr:List It)(a:It):Bool:=(DB a.o.op.operands.toList).all λd=>kr.all λx=>!(writes x.o [d]) ||a.b.testBit x.i
def T1(kr:List It) (a b:It):Bool:=kr.all λx=>Nat.beq x.i a.i ||Nat.beq x.i b.i ||(a.b.testBit x.i&&b.b.testBit x.i) || (Nat.beq (cls x.o) 0&&Mj x.o&&x.o.guard.isNone&&!x.b.testBit a.i&&!x.b.testBit b.i)
def Ml(kr ws:List It):Option (It×It×Nat×Nat):=match Pz ws with
 | some (a,b)=>match storeAt a.o,storeAt b.o with
   | some da,some db=>match fixed kr a&&fixed kr b&&T1 kr a b&&Li ws with
     |true=>some (a,b,da,db)
     |false=>none
   |_,_=>none
 |none=>none
def zcN:V->V->Bool
 | .ptr l _,.ptr l' _=>!(Nat.beq l l')
 |_,_=>false
def Uv(kr:List It):Bool:=tw kr&&kr.all (FM kr)&&kr.all Cw
def Rj(n:Nat) (all:List Oper):SF:=
 match T6 (items all 0 []) (hH (items all 0 []))&&xy (items all 0 []) (hH (items all 0 [])) (order (items all 0 []) (hH (items all 0 [])) (hH (items all 0 [])) 0) 0 0 with
 |true=>⟨λcall t h=>(yA n all (hH (items all 0 [])) (order (items all 0 []) (hH (items all 0 [])) (hH (items all 0 [])) 0) 0).f call t h []⟩
 | false=>match Ml (items all 0 []) (hH (items all 0 [])),Uv (items all 0 [])&&xy (items all 0 []) (hH (items all 0 [])) (order (items all 0 []) (hH (items all 0 [])) (hH (items all 0 [])) 0) 0 0 with
   |some p,true=>⟨λcall t h=>oB ((yA n all (hH (items all 0 [])) (order (items all 0 []) (hH (items all 0 [])) (hH (items all 0 [])) 0) 0).f call t h []) λr=>
      bB (zcN (ij r.1 p.2.2.1) (ij r.1 p.2.2.2)) (some r)⟩
   |_,_=>zg1
inductive X where
 |normal
 |exit (id:Nat)
 |ret
structure CF where
 f:Call->Nat->Tm->Hp->Option (X×Tm×Hp)
def K4(r:Option (X×Tm×Hp)) (k:Tm->Hp->Option (X×Tm×Hp)):Option (X×Tm×Hp):=match r with
 |some (.normal,t,h)=>k t h
 |r=>r
def Nh(id:Nat) (r:Option (X×Tm×Hp)):Option (X×Tm×Hp):=match r with
 |some (.exit id',t,h)=>Bool.rec (some (.exit id',t,h)) (some (.normal,t,h)) (Nat.beq id' id)
 |r=>r
def Oy(body:Tm->Hp->Option (X×Tm×Hp)) (m:Nat):Tm->Hp->Option (X×Tm×Hp):=Nat.rec (λ_ _=>none) (λ_ a t h=>K4 (body t h) a) m
structure nC where
 it:Nat
 a:Nat
 c:Nat
 e0:Nat
 e1:Nat
 e2:Nat
 m0:Nat
 m1:Nat
 u:Nat
 x:Nat
 ty:Nat
 kt:Nat
 k:IntKind
def Uw:List Nat->Bool
 |[]=>true
 |a::l=>l.all (λb=>!(Nat.beq a b))&&Uw l
def nC.all(F:nC):List Nat:=[F.it,F.u,F.a,F.c,F.e0,F.e1,F.e2,F.m0,F.m1]
def nC.ok(n:Nat) (F:nC):Bool:=F.all.all (λd=>Nat.blt d n)&&Uw F.all&&(match P0.underlying F.ty with
 |some (.map kt _)=>Nat.beq kt F.kt
 |_=>false)&&(match P0.underlying F.kt with
 |some (.int k)=>LH k F.k
 |_=>false)
def nC.r0(F:nC) (b o2:Oper):Bool:=match b.op,b.dst,b.guard,o2.op,o2.dst,o2.guard with
 | .next (.tmp it) false,some a,none,.extract (.tmp a') 0,some c,none=>Nat.beq it F.it&&Nat.beq a F.a&&Nat.beq a' F.a&&Nat.beq c F.c
 |_,_,_,_,_,_=>false
def nC.r1(F:nC) (a o2 b:Oper):Bool:=match a.op,a.dst,a.guard,o2.op,o2.dst,o2.guard,b.op,b.dst,b.guard with
 | .entry (.tmp it),some e0,none,.extract (.tmp c) 0,some e1,none,.assign (.tmp d),some e2,none=>
   Nat.beq it F.it&&Nat.beq e0 F.e0&&Nat.beq c F.e0&&Nat.beq e1 F.e1&&Nat.beq d F.e1&&Nat.beq e2 F.e2
 |_,_,_,_,_,_,_,_,_=>false
def nC.r2(F:nC) (a o2 b:Oper):Bool:=match a.op,a.dst,a.guard,o2.op,o2.dst,o2.guard,b.op,b.dst,b.guard with
 | .move (.tmp u),some m0,none,.move (.tmp e2),some m1,none,.mapUpdate ty (.tmp c) (.tmp d) (.const (.bool true)),none,none=>
   Nat.beq u F.u&&Nat.beq m0 F.m0&&Nat.beq e2 F.e2&&Nat.beq m1 F.m1&&Nat.beq ty F.ty&&Nat.beq c F.m0&&Nat.beq d F.m1
 |_,_,_,_,_,_,_,_,_=>false
def nC.of(c x:Nat) (b o2 p1 p2 p3 d e f:Oper):Option nC:=match b.op,b.dst,p1.dst,p2.dst,p3.dst,d.dst,e.dst,d.op,f.op with
 | .next (.tmp it) _,some a,some e0,some e1,some e2,some m0,some m1,.move (.tmp u),.mapUpdate ty _ _ _=>match P0.underlying ty with
   | some (.map kt _)=>match P0.underlying kt with
     |some (.int k)=>some ⟨it,a,c,e0,e1,e2,m0,m1,u,x,ty,kt,k⟩
     |_=>none
   |_=>none
 |_,_,_,_,_,_,_,_,_=>none
def zG(n:Nat) (c:Code):Option nC:=match c with
 | .seq (.region _ r0 false) (.seq (.cond (.tmp c) .skip (.exit x)) (.block _ (.seq (.region _ r1 false) (.region _ r2 false))))=>match r0.toList,r1.toList,r2.toList with
   | [a,o2],[p1,p2,p3],[b,d,e]=>match nC.of c x a o2 p1 p2 p3 b d e with
     | some F=>match F.ok n&&F.r0 a o2&&F.r1 p1 p2 p3&&F.r2 b d e&&Nat.beq F.c c&&Nat.beq F.x x with
       |true=>some F
       |false=>none
     |none=>none
   |_,_,_=>none
 |_=>none
def zfv(k:IntKind):V×V×Nat->Option Int
 |(.int k' n,.bool true,_)=>bB (LH k' k) (some n)
 |_=>none
def Oe(k:IntKind):List (V×V×Nat)->Option (List Int)
 |[]=>some []
 |e::es=>oB (zfv k e) λn=>oB (Oe k es) λns=>some (n::ns)
noncomputable def nC.t(F:nC)(u:Nat)(none:Bool)(t:Tm):Tm:=((Bool.rec (motive:=λ_=>Tm) (((((t.set F.e0 (.tuple [.anyI F.k,.bool true])).set F.e1 (.anyI F.k)).set F.e2 (.anyI F.k)).set F.m0 (.map u)).set F.m1 (.anyI F.k)) t none).set F.a (.tuple [.bool false])).set F.c (.bool false)
def SA(F:nC) (t:Tm) (h:Hp):Option (X×Tm×Hp):=vZ (ij t F.it) λr off=>bB (Nat.beq off 0) (oB (h.get r) λo=>match o with
 | .iter (some m) since [] last=>BA h m λes a=>bB (Nat.beq since a&&Nat.beq last a) (oB (Oe F.k es) λks=>match ij t F.u with
   | .map u=>bB (!(Nat.beq u m)) (BA h u λus _=>bB us.isEmpty (some (.exit F.x,F.t u es.isEmpty t,(h.put r .gone).put u (.Rt F.k ks))))
   |_=>none)
 |_=>none)
def zh0:CF:=⟨λ_ _ _ _=>none⟩
def jc(n:Nat):Code->CF
 | .skip=>⟨λ_ _ t h=>some (.normal,t,h)⟩
 | .seq a b=>⟨λcall m t h=>K4 ((jc n a).f call m t h) λt h=>(jc n b).f call m t h⟩
 | .cond c a b=>⟨λcall m t h=>oB ((yL c).f t h) λv=>match v with
   | .bool x=>Bool.rec ((jc n b).f call m t h) ((jc n a).f call m t h) x
   |_=>none⟩
 | .block id c=>⟨λcall m t h=>Nh id ((jc n c).f call m t h)⟩
 | .loop c=>match zG n c with
   |some F=>⟨λ_ _ t h=>SA F t h⟩
   |none=>⟨λcall m t h=>Oy (λt h=>(jc n c).f call m t h) m t h⟩
 | .exit id=>⟨λ_ _ t h=>some (.exit id,t,h)⟩
 | .ret=>⟨λ_ _ t h=>some (.ret,t,h)⟩
 | .region _ ops false=>⟨λcall _ t h=>oB ((lU n ops.toList ops.toList).f call t h) λr=>some (.normal,r.1,r.2)⟩
 | .region _ ops true=>⟨λcall _ t h=>oB ((Rj n ops.toList).f call t h) λr=>some (.normal,r.1,r.2)⟩
 |_=>zh0
inductive Ext where
 |none
 |countByte
 |indexByte
def P9(c:Nat):List UInt8->Nat->Nat
 |[],n=>n
 |b::l,n=>P9 c l (Bool.rec n (Nat.succ n) (Nat.beq b.toNat c))
def Tj(c:Nat):List UInt8->Nat->Option Nat
 |[],_=>none
 |b::l,n=>Bool.rec (Tj c l (Nat.succ n)) (some n) (Nat.beq b.toNat c)
def XU:Ext->List V->Option V
 | .countByte,[.str s,.int .u8 (.ofNat c)]=>bB (Nat.blt c 256) (some (.int .i64 (.ofNat (P9 c s 0))))
 | .indexByte,[.str s,.int .u8 (.ofNat c)]=>bB (Nat.blt c 256) (match Tj c s 0 with
   |some i=>some (.int .i64 (.ofNat i))
   |none=>some (.int .i64 (-1)))
 |_,_=>none
def zer:ResultVar->PF
 | .tmp i=>⟨λt _=>some (ij t i)⟩
 | .cell a ty=>Kx ty ⟨λt _=>some (ij t a)⟩
def EW(t:Tm) (h:Hp):List ResultVar->Option (List V)
 |[]=>some []
 |r::rs=>oB ((zer r).f t h) λv=>oB (EW t h rs) λvs=>some (v::vs)
def Gc(vs:List V):V:=match vs with
 |[v]=>v
 |vs=> .tuple vs
structure FF where
 f:Call->Nat->List V->Hp->Option (V×Hp)
structure mh where
 start:List V->Tm
 ext:Nat->Ext
 K:Nat->List V->Hp->Option V
def V.flat:V->Bool
 | .bool _| .int _ _| .str _| .nilPtr| .ed| .nA| .nilFunc| .nilIface=>true
 |_=>false
def Vn(l:List V):Bool:=l.all V.flat
def orB(x:Option α)(k:α->Option β)(e:Option β):Option β:=Option.rec e k x
def zdK:List (Nat×List V)->Hp->Option Hp
 |[],h=>some h
 |_::_,_=>none
def IJ(C:mh) (f:Nat):FF:=match P0.funcs[f]? with
 | some fn=>match fn.body with
   | some c=>⟨λcall m args h=>orB (C.K f args h) (λv=>bB (Vn args&&v.flat) (some (v,h))) (bB (Nat.ble args.length fn.ntmps) (oB ((jc fn.ntmps c).f call m (C.start args) h) λr=>match r.1 with
     | .exit _=>none
     |_=>oB (zdK r.2.1.ds r.2.2) λh=>oB (EW r.2.1 h fn.results.toList) λvs=>some (Gc vs,h)))⟩
   |none=>⟨λ_ _ args h=>oB (XU (C.ext f) args) λv=>some (v,h)⟩
 |none=>⟨λ_ _ _ _=>none⟩
def lN(C:mh) (m:Nat) (d:Nat):Call:=Nat.rec (λ_ _ _=>none) (λ_ call f args h=>(IJ C f).f call m args h) d
end ops
theorem fD{α:Type} {x:Option α} {k:α->Option β} :oB x k=some y↔∃v,x=some v/\k v=some y:=by
 cases x with
 |none=>grind[oB]
 |some v=>exact⟨λh=>⟨v,rfl,h⟩,λ⟨_,h,h'⟩=>by grind[oB]⟩
theorem ik {c:Bool} {k:Option β} :bB c k=some y↔c=true/\k=some y:=by
 cases c with
 |false=>grind[bB]
 |true=>exact⟨λh=>⟨rfl,h⟩,λ⟨_,h⟩=>h⟩
theorem uJ {v:V} {k:Nat->Nat->Option β} :vZ v k=some y↔∃l o,v = .ptr l o/\k l o=some y:=by
 constructor
 ·intro h;unfold vZ at h
  grind
 ·rintro⟨l,o,rfl,h⟩;exact h
theorem Qv {v:V} {k:Nat->Option β} :asNat v k=some y↔∃a n,v = .int a (.ofNat n)/\k n=some y:=by
 constructor
 ·intro h;unfold asNat at h;split at h
  ·grind
  ·cases h
 ·rintro⟨a,n,rfl,h⟩;exact h
theorem mO {h:Hp}  {k:Nat->Nat->Bool->Bool->List V->Option β}  :
  kR h l k=some y↔∃e sz live ro cs,h.get l=some (.cells e sz live ro cs)/\k e sz live ro cs=some y:=by
 grind[kR,fD]
theorem BJ {h:Hp}  {k:List (V×V×Nat)->Nat->Option β}  :
  BA h l k=some y↔∃es c,h.get l=some (.map es c)/\k es c=some y:=by
 grind[BA,fD]
theorem RO {h:Hp}  {k:List (V×V×Nat)->Nat->Option β} {kb:IntKind->List Int->Option β}  :
  zU h l k kb=some y↔(∃es c,h.get l=some (.map es c)/\k es c=some y)\/∃b ks,h.get l=some (.Rt b ks)/\kb b ks=some y:=by
 simp only[zU,fD];constructor
 ·rintro⟨o,d,a⟩
  cases o with
  |map es c=>exact .inl ⟨es,c,d,a⟩
  |Rt b ks=>exact .inr ⟨b,ks,d,a⟩
  |_=>cases a
 ·rintro(⟨es,c,d,a⟩|⟨b,ks,d,a⟩) <;> exact⟨_,d,a⟩
theorem zef(c:Bool)(x y:β):Bool.rec (motive:=λ_=>β) x y c=if c=true then y else x:=by cases c <;> rfl
theorem zcp{n:Nat} {cs l:List V} (h:takeN n cs=some l):l.length=n/\∀i,i<n->l[i]? =cs[i]?:=by
 induction n generalizing cs l with
 |zero=>simp[takeN]at h;simp_all
 | succ n a=>
   cases cs <;> grind[takeN,fD]
theorem sub_eq{cs l:List V} {off n:Nat} (h:sub cs off n=some l):l.length=n/\∀i,i<n->l[i]? =cs[off+i]?:=by
 grind[zcp,sub]
theorem XR{cs:List V} {off:Nat} {v:V} (h:NN cs off=some v):cs[off]? =some v:=by
 grind[NN,List.head?_drop]
theorem zeJ{new cs l:List V} (h:over new cs=some l):l.length=cs.length/\new.length<=cs.length/\∀i,l[i]? =if i<new.length then new[i]? else cs[i]?:=by
 induction new generalizing cs l with
 |nil=>simp[over]at h;simp_all
 | cons n ns a=>
   cases cs <;> grind[over,fD]
theorem NW{k:Nat} {cs new l:List V} (h:sV k cs new=some l):l.length=cs.length/\k+new.length<=cs.length/\
  ∀i,l[i]? =if k<=i/\i<k+new.length then new[i-k]? else cs[i]?:=by
 induction k generalizing cs l with
 | zero=>
   grind[zeJ,sV]
 | succ k a=>
   cases cs with
   |nil=>grind[sV]
   | cons c cs=>
     simp only[sV,fD]at h
     grind
theorem ZO{l:List V} (h:gi l=true):∀v∈l,v.one=true:=by
 induction l <;> grind[gi,zef]
structure D where
 b:Nat
 base:Nat
 sz:Nat
 n:Nat
 asz:Nat
 ro:Bool
 kind:Nat
abbrev Env:=Nat->Option D
def Env.le(Δ a:Env):Prop:=∀l d,Δ l=some d->a l=some d
theorem Env.le_refl(Δ:Env):Δ.le Δ:=λ_ _ h=>h
theorem Env.le_trans{Δ b a:Env}(h:Δ.le b)(h':b.le a):Δ.le a:=λl d hl=>h' l d (h l d hl)
mutual
inductive fV (Δ:Env):V->Value->Prop
 |bool (b:Bool):fV Δ (.bool b) (.bool b)
 |int (k:IntKind) (n:Int):fV Δ (.int k n) (.int k n)
 |str (s:ByteArray):fV Δ (.str s.data.toList) (.string s)
 |nilPtr:fV Δ .nilPtr (.pointer none)
 |ptr (l off:Nat) (d:D) (h:Δ l=some d):fV Δ (.ptr l off) (.pointer (some ⟨d.b,d.base+off,none⟩))
 |ed:fV Δ .ed (.slice none 0 0)
 | slice (l off len cap o:Nat) (d:D) (h:Δ l=some d) (j:d.kind=0) (hl:len<=cap)
   (m:(o=d.base+off/\d.n<=off+cap*d.sz/\d.base+off+cap*d.sz<=d.asz)\/(cap=0/\d.n<=off)) :
   fV Δ (.slice l off len) (.slice (some ⟨d.b,o,none⟩) len cap)
 |wild (l off:Nat) (a:Addr) (d:D) (h:Δ l=some d) (j:d.kind=0) (p:d.ro=true) (q:d.n<=off):fV Δ (.slice l off 0) (.slice (some a) 0 0)
 |nA:fV Δ .nA (.map none)
 |map (l:Nat) (d:D) (h:Δ l=some d):fV Δ (.map l) (.map (some d.b))
 |nilFunc:fV Δ .nilFunc .nilFunc
 |func (f:Nat) (a c:List V) (i c':Array Value) (r:gR Δ a i.toList) (hc:gR Δ c c'.toList):fV Δ (.func f a c) (.func (.func f) i c')
 |nilIface:fV Δ .nilIface .nilIface
 |iface (t:Nat) (v:V) (e:Value) (h:fV Δ v e):fV Δ (.iface t v) (.iface t e)
 |agg (cs:List V) (uD:Array Value) (h:gR Δ cs uD.toList):fV Δ (.agg cs) (.agg uD)
 |tuple (cs:List V) (uD:Array Value) (h:gR Δ cs uD.toList):fV Δ (.tuple cs) (.tuple uD)
 |anyI (k:IntKind) (n:Int):fV Δ (.anyI k) (.int k n)
inductive gR (Δ:Env):List V->List Value->Prop
 |nil:gR Δ [] []
 |cons (v:V) (e:Value) (vs:List V) (g:List Value) (h:fV Δ v e) (hs:gR Δ vs g):gR Δ (v::vs) (e::g)
end
mutual
theorem fV.mono {Δ i:Env} (e:Δ.le i):∀{v:V} {g:Value},fV Δ v g->fV i v g
 |_,_,.bool b=> .bool b
 |_,_,.int k n=> .int k n
 |_,_,.str s=> .str s
 |_,_,.nilPtr=> .nilPtr
 |_,_,.ptr l off d h=> .ptr l off d (e _ _ h)
 |_,_,.ed=> .ed
 |_,_,.slice l off len cap o d h hk hl ho=> .slice l off len cap o d (e _ _ h) hk hl ho
 |_,_,.wild l off a d h hk hr hn=> .wild l off a d (e _ _ h) hk hr hn
 |_,_,.nA=> .nA
 |_,_,.map l d h=> .map l d (e _ _ h)
 |_,_,.nilFunc=> .nilFunc
 |_,_,.func f a c a' c' ha hc=> .func f a c a' c' (gR.mono e ha) (gR.mono e hc)
 |_,_,.nilIface=> .nilIface
 |_,_,.iface t v g h=> .iface t v g (fV.mono e h)
 |_,_,.agg cs uD h=> .agg cs uD (gR.mono e h)
 |_,_,.tuple cs uD h=> .tuple cs uD (gR.mono e h)
 |_,_,.anyI k n=> .anyI k n
theorem gR.mono {Δ i:Env} (e:Δ.le i):∀{v:List V} {g:List Value},gR Δ v g->gR i v g
 |_,_,.nil=> .nil
 |_,_,.cons v g vs vs' h hs=> .cons v g vs vs' (fV.mono e h) (gR.mono e hs)
end
theorem gR.length{Δ:Env} {vs:List V} {a:List Value} (h:gR Δ vs a):vs.length=a.length:=by
 induction vs generalizing a with
 |nil=>cases h;rfl
 |cons v vs b=>cases h <;> grind
theorem gR.get{Δ:Env} {vs:List V} {b:List Value} (h:gR Δ vs b) (i:Nat) (v:V) (hi:vs[i]? =some v):∃c,b[i]? =some c/\fV Δ v c:=by
 induction vs generalizing b i with
 |nil=>simp_all
 | cons a vs d=>
   cases h <;> grind
theorem gR.Uf{Δ:Env} {vs:List V} {b:List Value} (hl:vs.length=b.length) (h:∀(i:Nat) (v:V),vs[i]? =some v->∃c,b[i]? =some c/\fV Δ v c):gR Δ vs b:=by
 induction vs generalizing b with
 | nil=>cases b with
   |nil=>exact .nil
   |cons _ _=>simp_all
 | cons a vs e=>cases b with
   |nil=>simp_all
   | cons g b=>
     obtain⟨x,d,f⟩:=h 0 a rfl;simp at d;subst d;exact .cons _ _ _ _ f (e (by simp_all) λi v hi=>by simpa using h (i+1) v (by simp_all))
theorem gR.append{Δ:Env} {a b:List V} {c d:List Value} (h:gR Δ a c) (h':gR Δ b d):gR Δ (a++b) (c++d):=by
 induction a generalizing c with
 |nil=>cases h;exact h'
 |cons x a e=>cases h with|cons _ _ _ _ hx hs=>exact .cons _ _ _ _ hx (e hs)
theorem gR.one{Δ:Env}{v:V}{a:Value}(h:fV Δ v a):gR Δ [v] [a]:= .cons _ _ _ _ h .nil
theorem fV.undef(Δ:Env):fV Δ V.undef undef:= .tuple [] #[] .nil
theorem fV.cells{Δ:Env} {v:V} {e:Value} (h:fV Δ v e):gR Δ v.cells e.cells.toList:=by
 cases h with
 |agg cs uD h=>exact h
 |bool b=>exact .one (.bool b)
 |int k n=>exact .one (.int k n)
 |str s=>exact .one (.str s)
 |nilPtr=>exact .one .nilPtr
 |ptr l off d h=>exact .one (.ptr l off d h)
 |ed=>exact .one .ed
 |slice l off len cap o d h g hl i=>exact .one (.slice l off len cap o d h g hl i)
 |wild l off a d h g j m=>exact .one (.wild l off a d h g j m)
 |nA=>exact .one .nA
 |map l d h=>exact .one (.map l d h)
 |nilFunc=>exact .one .nilFunc
 |func f a c p c' q hc=>exact .one (.func f a c p c' q hc)
 |nilIface=>exact .one .nilIface
 |iface t v e h=>exact .one (.iface t v e h)
 |tuple cs uD h=>exact .one (.tuple cs uD h)
 |anyI k n=>exact .one (.anyI k n)
theorem fV.zhX{Δ:Env} {v:V} {a:Value} (h:fV Δ v a) (b:v.one=true):a.oneCell' = true:=by
 cases h <;> first|rfl|grind[V.one]
theorem gR.zbB{Δ:Env} {vs:List V} {a:List Value} (h:gR Δ vs a) (e:gi vs=true):∀x∈a,x.oneCell' = true:=by
 intro x b;obtain⟨i,hi,rfl⟩:=wBp.1 b;have c:i<vs.length:=by rw[h.length];exact hi
 obtain⟨x,b,d⟩:=h.get i vs[i] (by simp_all);rw[hZ hi]at b;cases b;exact d.zhX (by grind[ZO,AL])
mutual
theorem JJ (Δ:Env):∀(n:Nat) (v:Value) (x:V),ni n v=some x->fV Δ x v
 |_,.bool b,x,h=>by simp[ni]at h;subst h;exact .bool b
 |_,.int k n,x,h=>by simp[ni]at h;subst h;exact .int k n
 |_,.string s,x,h=>by simp[ni]at h;subst h;exact .str s
 |_,.pointer none,x,h=>by simp[ni]at h;subst h;exact .nilPtr
 |_,.pointer (some _),x,h=>by grind[ni]
 |_,.slice none 0 0,x,h=>by simp[ni]at h;subst h;exact .ed
 |_,.slice none 0 (_+1),x,h=>by grind[ni]
 |_,.slice none (_+1) _,x,h=>by grind[ni]
 |_,.slice (some _) _ _,x,h=>by grind[ni]
 |_,.map none,x,h=>by simp[ni]at h;subst h;exact .nA
 |_,.map (some _),x,h=>by grind[ni]
 |_,.nilFunc,x,h=>by simp[ni]at h;subst h;exact .nilFunc
 |_,.nilIface,x,h=>by simp[ni]at h;subst h;exact .nilIface
 |0,.iface _ _,x,h=>by simp_all[ni]
 |0,.agg _,x,h=>by simp_all[ni]
 |0,.tuple _,x,h=>by simp_all[ni]
 | n+1,.iface t v,x,h=>by
   simp only[ni]at h;split at h
   ·rename_i y a;cases h;exact .iface t _ _ (JJ Δ n v _ a)
   ·cases h
 | n+1,.agg cs,x,h=>by
   simp only[ni]at h;split at h
   ·rename_i y a;cases h;exact .agg _ _ (KL Δ n _ _ a)
   ·cases h
 | n+1,.tuple cs,x,h=>by
   simp only[ni]at h;split at h
   ·rename_i y a;cases h;exact .tuple _ _ (KL Δ n _ _ a)
   ·cases h
 |_,.float _ _,x,h=>by grind[ni]
 |_,.complex _ _ _,x,h=>by grind[ni]
 |_,.chan _,x,h=>by grind[ni]
 |_,.func _ _ _,x,h=>by grind[ni]
theorem KL (Δ:Env):∀(n:Nat) (v:List Value) (x:List V),v.mapM (ni n)=some x->gR Δ x v
 |_,[],x,h=>by simp at h;subst h;exact .nil
 | n,v::vs,x,h=>by
   simp only[List.mapM_cons,Option.bind_eq_bind,wBf,Option.pure_def,Option.some.injEq]at h;obtain⟨y,a,ys,c,rfl⟩:=h;exact .cons _ _ _ _ (JJ Δ n v y a) (KL Δ n vs ys c)
end
@[match_pattern] abbrev _root_.Go.Proofs.YtcoaokdoecgcbaaGreatDoor.Hx.V.I (n:Int):Go.Proofs.YtcoaokdoecgcbaaGreatDoor.Hx.V:=.int .i64 n
