/- Parts. -/
import Derived.Test.YtbdcpiokodljaaaGreatDoorM00
import Derived.Calls
import Derived.Test.YtbdcpiokodljaaaGreatDoorChecked
import Derived.Orders
import Derived.Laws.CopyRow
set_option maxHeartbeats 4000000
namespace Go.Proofs.YtbdcpiokodljaaaGreatDoor.Hx
theorem wT:type_of% @Result.andThen_ok:=@Result.andThen_ok
theorem yo:type_of% @Sem.run_bind:=@Sem.run_bind
theorem L9:type_of% @Sem.run_pure:=@Sem.run_pure
inductive V where
 |bool (b:Bool)
 |int (k:IntKind) (n:Int)
 |str (s:List UInt8)
 |nilPtr
 |ptr (l off:Nat)
 |ee
 |slice (l off len:Nat)
 |mJ
 |map (l:Nat)
 |nilFunc
 |func (f:Nat) (first a:List V)
 |nilIface
 |iface (t:Nat) (v:V)
 |agg (cs:List V)
 |tuple (vs:List V)
 deriving Inhabited
def V.undef:V:= .tuple []
mutual
def V.beq:V->V->Bool
 | .bool a,.bool b=>a == b
 | .int j a,.int k b=>j == k&&a == b
 | .str a,.str b=>a == b
 | .nilPtr,.nilPtr=>true
 | .ptr l o,.ptr l' o'=>l == l'&&o == o'
 | .ee,.ee=>true
 | .slice l o n,.slice l' o' n'=>l == l'&&o == o'&&n == n'
 | .mJ,.mJ=>true
 | .map l,.map l'=>l == l'
 | .nilFunc,.nilFunc=>true
 | .func f a c,.func f' a' c'=>f == f'&&V.N1 a a'&&V.N1 c c'
 | .nilIface,.nilIface=>true
 | .iface t v,.iface t' v'=>t == t'&&V.beq v v'
 | .agg a,.agg b=>V.N1 a b
 | .tuple a,.tuple b=>V.N1 a b
 |_,_=>false
def V.N1:List V->List V->Bool
 |[],[]=>true
 |a::x,b::y=>V.beq a b&&V.N1 x y
 |_,_=>false
end
mutual
theorem V.eq_of_beq:∀(a b:V),V.beq a b=true->a=b
 | .bool a,b,h=>by cases b <;> simp_all[V.beq]
 | .int j a,b,h=>by cases b <;> simp_all[V.beq]
 | .str a,b,h=>by cases b <;> simp_all[V.beq]
 | .nilPtr,b,h=>by grind[V.beq]
 | .ptr l o,b,h=>by cases b <;> simp_all[V.beq]
 | .ee,b,h=>by grind[V.beq]
 | .slice l o n,b,h=>by cases b <;> simp_all[V.beq]
 | .mJ,b,h=>by grind[V.beq]
 | .map l,b,h=>by cases b <;> simp_all[V.beq]
 | .nilFunc,b,h=>by grind[V.beq]
 | .func f a c,b,h=>by
   cases b <;> simp_all[V.beq]
   exact⟨V.zd _ _ h.1.2,V.zd _ _ h.2⟩
 | .nilIface,b,h=>by grind[V.beq]
 | .iface t v,b,h=>by
   cases b <;> simp_all[V.beq]
   exact V.eq_of_beq _ _ h.2
 | .agg a,b,h=>by
   cases b <;> simp_all[V.beq]
   exact V.zd _ _ h
 | .tuple a,b,h=>by
   cases b <;> simp_all[V.beq];exact V.zd _ _ h
theorem V.zd:∀(a b:List V),V.N1 a b=true->a=b
 |[],b,h=>by grind[V.N1]
 | a::x,b,h=>by
   cases b <;> simp_all[V.N1];exact⟨V.eq_of_beq _ _ h.1,V.zd _ _ h.2⟩
end
mutual
theorem V.OO:∀(a:V),V.beq a a=true
 | .bool a=>by simp[V.beq]
 | .int j a=>by simp[V.beq]
 | .str a=>by simp[V.beq]
 | .nilPtr=>by rfl
 | .ptr l o=>by simp[V.beq]
 | .ee=>by rfl
 | .slice l o n=>by simp[V.beq]
 | .mJ=>by rfl
 | .map l=>by simp[V.beq]
 | .nilFunc=>by rfl
 | .func f a c=>by simp[V.beq,V.AM a,V.AM c]
 | .nilIface=>by rfl
 | .iface t v=>by simp[V.beq,V.OO v]
 | .agg a=>by simp[V.beq,V.AM a]
 | .tuple a=>by simp[V.beq,V.AM a]
theorem V.AM:∀(a:List V),V.N1 a a=true
 |[]=>by rfl
 |a::x=>by simp[V.N1,V.OO a,V.AM x]
end
def V.cells:V->List V
 | .agg cs=>cs
 |v=>[v]
def V.one:V->Bool
 | .agg _| .tuple _=>false
 |_=>true
def nP:Nat->Value->Option V
 |_,.bool b=>some (.bool b)
 |_,.int k n=>some (.int k n)
 |_,.string s=>some (.str s.data.toList)
 |_,.pointer none=>some .nilPtr
 |_,.slice none 0 0=>some .ee
 |_,.map none=>some .mJ
 |_,.nilFunc=>some .nilFunc
 |_,.nilIface=>some .nilIface
 | n+1,.iface t v=>match nP n v with
   |some v=>some (.iface t v)
   |none=>none
 | n+1,.agg cs=>match cs.toList.mapM (nP n)with
   |some l=>some (.agg l)
   |none=>none
 | n+1,.tuple cs=>match cs.toList.mapM (nP n)with
   |some l=>some (.tuple l)
   |none=>none
 |_,_=>none
inductive To (α:Type) where
 |leaf
 |node (l:To α) (v:Option α) (r:To α)
noncomputable def To.get{α:Type} (t:To α):Nat->Option α:=To.rec (motive:=λ_=>Nat->Option α) (λ_=>none) (λ_ v _ gl gr n=>Bool.rec (motive:=λ_=>Option α) (Bool.rec (motive:=λ_=>Option α) (gr (Nat.sub (Nat.div n 2) 1)) (gl (Nat.div n 2)) (Nat.beq (Nat.mod n 2) 1)) v (Nat.beq n 0)) t
theorem To.um{α:Type}(n:Nat):(To.leaf:To α).get n=none:=rfl
theorem To.xR{α:Type} (l:To α) (v:Option α) (r:To α) (n:Nat):(To.node l v r).get n =
  match Nat.beq n 0 with
  |true=>v
  | false=>match Nat.beq (n % 2) 1 with
    |true=>l.get (n / 2)
    |false=>r.get (n / 2-1):=by
 show Bool.rec (motive:=λ_=>Option α) (Bool.rec (motive:=λ_=>Option α) (r.get (n / 2-1)) (l.get (n / 2)) (Nat.beq (n % 2) 1)) v (Nat.beq n 0)=_;cases Nat.beq n 0 <;> cases Nat.beq (n % 2) 1 <;> rfl
def To.QX{α:Type}:Nat->To α->Nat->α->To α
 |0,t,_,_=>t
 | f + 1,.leaf,n,x=>
   match Nat.beq n 0 with
   |true=> .node .leaf (some x) .leaf
   | false=>match Nat.beq (n % 2) 1 with
     |true=> .node (To.QX f .leaf (n / 2) x) none .leaf
     |false=> .node .leaf none (To.QX f .leaf (n / 2-1) x)
 | f + 1,.node l v r,n,x=>
   match Nat.beq n 0 with
   |true=> .node l (some x) r
   | false=>match Nat.beq (n % 2) 1 with
     |true=> .node (To.QX f l (n / 2) x) v r
     |false=> .node l v (To.QX f r (n / 2-1) x)
noncomputable def To.set{α:Type} (t:To α):Nat->α->To α:=To.rec (motive:=λ_=>Nat->α->To α) (λn x=>Bool.rec (motive:=λ_=>To α) (To.QX (Nat.succ n) .leaf n x) (.node .leaf (some x) .leaf) (Nat.beq n 0)) (λl v r a b n x=>Bool.rec (motive:=λ_=>To α) (Bool.rec (motive:=λ_=>To α) (.node l v (b (Nat.sub (Nat.div n 2) 1) x)) (.node (a (Nat.div n 2) x) v r) (Nat.beq (Nat.mod n 2) 1)) (.node l (some x) r) (Nat.beq n 0)) t
theorem To.Su{α:Type} (x:α):∀(f:Nat) (t:To α) (n m:Nat),n<f->(t.QX f n x).get m=if n=m then some x else t.get m:=by
 intro f
 induction f with
 |zero=>omega
 | succ f j =>
   intro t n m h
   cases t with
   | leaf =>
     unfold To.QX
     cases h0:Nat.beq n 0 with
     | true=>
       have e:n=0:=CI h0;subst e
       cases m with
       |zero=>rfl
       | succ m=>
         have b:Nat.beq (m+1) 0=false:=rfl
         grind[To.um,To.xR,Nat.beq]
     | false =>
       have k:n≠0:=λe=>by simp_all
       cases c:Nat.beq (n % 2) 1 with
       | true=>
         have b:n % 2=1:=CI c;simp only[To.um,To.xR]
         cases d:Nat.beq m 0 with
         | true=>
           simp_all
         | false=>
           have g:m≠0:=λe=>by simp_all
           cases a:Nat.beq (m % 2) 1 with
           | true=>
             have i:m % 2=1:=CI a;simp only[j .leaf (n / 2) (m / 2) (by omega),To.um,To.xR]
             grind
           | false=>
             grind
       | false=>
         have b:n % 2≠1:=λe=>by simp_all
         simp only[To.um,To.xR]
         cases d:Nat.beq m 0 with
         | true=>
           simp_all
         | false=>
           have g:m≠0:=λe=>by simp_all
           cases a:Nat.beq (m % 2) 1 with
           | true=>
             grind
           | false=>
             have i:m % 2≠1:=λe=>by simp_all
             simp only[j .leaf (n / 2-1) (m / 2-1) (by omega),To.um,To.xR]
             grind
   | node l v r=>
     unfold To.QX
     cases h0:Nat.beq n 0 with
     | true=>
       have e:n=0:=CI h0;subst e
       cases m with
       |zero=>rfl
       | succ m=>
         rfl
     | false =>
       have k:n≠0:=λe=>by simp_all
       cases c:Nat.beq (n % 2) 1 with
       | true=>
         have b:n % 2=1:=CI c;simp only[To.um,To.xR]
         cases d:Nat.beq m 0 with
         | true=>
           simp_all
         | false=>
           have g:m≠0:=λe=>by simp_all
           cases a:Nat.beq (m % 2) 1 with
           | true=>
             have i:m % 2=1:=CI a
             grind
           | false=>
             grind
       | false=>
         have b:n % 2≠1:=λe=>by simp_all
         simp only[To.um,To.xR]
         cases d:Nat.beq m 0 with
         | true=>
           simp_all
         | false=>
           have g:m≠0:=λe=>by simp_all
           cases a:Nat.beq (m % 2) 1 with
           | true=>
             grind
           | false=>
             have i:m % 2≠1:=λe=>by simp_all
             grind
theorem To.Kz{α:Type} (t:To α) (n m:Nat) (x:α):(t.set n x).get m=if n=m then some x else t.get m:=by
 induction t generalizing n m with
 | leaf=>
   show(Bool.rec (motive:=λ_=>To α) (To.QX (Nat.succ n) .leaf n x) (.node .leaf (some x) .leaf) (Nat.beq n 0)).get m=_
   cases h0:Nat.beq n 0 with
   | true=>
     have e:n=0:=CI h0;subst e;have:=To.Su x 1 .leaf 0 m (by omega)
     exact this
   |false=>grind[To.Su]
 | node l v r b c=>
   show(Bool.rec (motive:=λ_=>To α) (Bool.rec (motive:=λ_=>To α) (.node l v (r.set (n / 2-1) x)) (.node (l.set (n / 2) x) v r) (Nat.beq (n % 2) 1)) (.node l (some x) r) (Nat.beq n 0)).get m=_
   cases h0:Nat.beq n 0 with
   | true=>
     have e:n=0:=CI h0;subst e
     cases m with
     |zero=>rfl
     | succ m=>
       rfl
   | false =>
     have j:n≠0:=λe=>by simp_all
     cases d:Nat.beq (n % 2) 1 with
     | true=>
       have f:n % 2=1:=CI d;simp only[To.xR]
       cases g:Nat.beq m 0 with
       | true=>
         simp_all
       | false=>
         have h:m≠0:=λe=>by simp_all
         cases a:Nat.beq (m % 2) 1 with
         | true=>
           have i:m % 2=1:=CI a
           grind
         | false=>
           grind
     | false=>
       have f:n % 2≠1:=λe=>by simp_all
       simp only[To.xR]
       cases g:Nat.beq m 0 with
       | true=>
         simp_all
       | false=>
         have h:m≠0:=λe=>by simp_all
         cases a:Nat.beq (m % 2) 1 with
         | true=>
           grind
         | false=>
           have i:m % 2≠1:=λe=>by simp_all
           grind
structure Q4 (α:Type) where
 a:α
 b:α
 c:α
 d:α
def QT(α:Type)(n:Nat):Type:=Nat.rec (motive:=λ_=>Type) (To α) (λ_ a=>Q4 a) n
structure QG (α β:Type) where
 f:α->β
structure QU (α β:Type) where
 f:β->α->α
noncomputable def Yp{β:Type}(i:Nat)(w x y z:β):β:=Bool.rec (motive:=λ_=>β) (Bool.rec (motive:=λ_=>β) (Bool.rec (motive:=λ_=>β) z y (Nat.beq (Nat.mod i 4) 2)) x (Nat.beq (Nat.mod i 4) 1)) w (Nat.beq (Nat.mod i 4) 0)
theorem zdF{β:Type}{i:Nat}(h:i % 4=0)(w x y z:β):Yp i w x y z=w:=by unfold Yp;rw[show Nat.mod i 4=0 from h];rfl
theorem zdM{β:Type}{i:Nat}(h:i % 4=1)(w x y z:β):Yp i w x y z=x:=by unfold Yp;rw[show Nat.mod i 4=1 from h];rfl
theorem zdf{β:Type}{i:Nat}(h:i % 4=2)(w x y z:β):Yp i w x y z=y:=by unfold Yp;rw[show Nat.mod i 4=2 from h];rfl
theorem zdd{β:Type}{i:Nat}(h:i % 4=3)(w x y z:β):Yp i w x y z=z:=by unfold Yp;rw[show Nat.mod i 4=3 from h];rfl
noncomputable def qg(α:Type) (n:Nat):Nat->QG (QT α n) (Option α):=Nat.rec (motive:=λn=>Nat->QG (QT α n) (Option α)) (λi=>⟨λx=>To.get x i⟩) (λ_ e i=>Yp i ⟨λq=>Q4.rec (motive:=λ_=>Option α) (λa _ _ _=>(e (Nat.div i 4)).f a) q⟩ ⟨λq=>Q4.rec (motive:=λ_=>Option α) (λ_ b _ _=>(e (Nat.div i 4)).f b) q⟩ ⟨λq=>Q4.rec (motive:=λ_=>Option α) (λ_ _ c _=>(e (Nat.div i 4)).f c) q⟩ ⟨λq=>Q4.rec (motive:=λ_=>Option α) (λ_ _ _ d=>(e (Nat.div i 4)).f d) q⟩) n
noncomputable def qs(α:Type) (n:Nat):Nat->QU (QT α n) α:=Nat.rec (motive:=λn=>Nat->QU (QT α n) α) (λi=>⟨λv x=>To.set x i v⟩) (λn e i=>Yp i ⟨λv q=>Q4.rec (motive:=λ_=>Q4 (QT α n)) (λa b c d=>⟨(e (Nat.div i 4)).f v a,b,c,d⟩) q⟩ ⟨λv q=>Q4.rec (motive:=λ_=>Q4 (QT α n)) (λa b c d=>⟨a,(e (Nat.div i 4)).f v b,c,d⟩) q⟩ ⟨λv q=>Q4.rec (motive:=λ_=>Q4 (QT α n)) (λa b c d=>⟨a,b,(e (Nat.div i 4)).f v c,d⟩) q⟩ ⟨λv q=>Q4.rec (motive:=λ_=>Q4 (QT α n)) (λa b c d=>⟨a,b,c,(e (Nat.div i 4)).f v d⟩) q⟩) n
noncomputable def q0(α:Type)(n:Nat):QT α n:=Nat.rec (motive:=λn=>QT α n) (To.leaf:To α) (λ_ a=>(⟨a,a,a,a⟩:Q4 _)) n
theorem WO(α:Type) (n i:Nat):qg α (n+1) i=Yp i
   ⟨λq=>Q4.rec (motive:=λ_=>Option α) (λa _ _ _=>(qg α n (i / 4)).f a) q⟩
   ⟨λq=>Q4.rec (motive:=λ_=>Option α) (λ_ b _ _=>(qg α n (i / 4)).f b) q⟩
   ⟨λq=>Q4.rec (motive:=λ_=>Option α) (λ_ _ c _=>(qg α n (i / 4)).f c) q⟩
   ⟨λq=>Q4.rec (motive:=λ_=>Option α) (λ_ _ _ d=>(qg α n (i / 4)).f d) q⟩:=rfl
theorem zb2(α:Type) (n i:Nat):qs α (n+1) i=Yp i
   ⟨λv q=>Q4.rec (motive:=λ_=>Q4 (QT α n)) (λa b c d=>⟨(qs α n (i / 4)).f v a,b,c,d⟩) q⟩
   ⟨λv q=>Q4.rec (motive:=λ_=>Q4 (QT α n)) (λa b c d=>⟨a,(qs α n (i / 4)).f v b,c,d⟩) q⟩
   ⟨λv q=>Q4.rec (motive:=λ_=>Q4 (QT α n)) (λa b c d=>⟨a,b,(qs α n (i / 4)).f v c,d⟩) q⟩
   ⟨λv q=>Q4.rec (motive:=λ_=>Q4 (QT α n)) (λa b c d=>⟨a,b,c,(qs α n (i / 4)).f v d⟩) q⟩:=rfl
theorem SL(α:Type):∀(n i:Nat),(qg α n i).f (q0 α n)=none
 |0,i=>rfl
 | n+1,i=>by
   rw[WO];have h:i % 4=0\/i % 4=1\/i % 4=2\/i % 4=3:=by omega
   rcases h with h|h|h|h
   ·rw[zdF h];exact SL α n (i / 4)
   ·rw[zdM h];exact SL α n (i / 4)
   ·rw[zdf h];exact SL α n (i / 4)
   ·rw[zdd h];exact SL α n (i / 4)
theorem zcw(α:Type) (v:α):∀(n i j:Nat) (q:QT α n),(qg α n j).f ((qs α n i).f v q)=if i=j then some v else(qg α n j).f q
 |0,i,j,q=>To.Kz q i j v
 | n + 1,i,j,q=>by
   obtain⟨a,b,c,d⟩:=(q:Q4 (QT α n))
   have hi:i % 4=0\/i % 4=1\/i % 4=2\/i % 4=3:=by omega
   have e:j % 4=0\/j % 4=1\/j % 4=2\/j % 4=3:=by omega
   have g:=λq=>zcw α v n (i / 4) (j / 4) q;rw[WO,zb2];rcases hi with hi|hi|hi|hi <;> rcases e with e|e|e|e
   all_goals first
     |rw[zdF hi]|rw[zdM hi]|rw[zdf hi]|rw[zdd hi]
   all_goals first
     |rw[zdF e]|rw[zdM e]|rw[zdf e]|rw[zdd e]
   all_goals grind
def Tr(α:Type):Type:=QT α 4
noncomputable def Tr.leaf{α:Type}:Tr α:=q0 α 4
noncomputable def Tr.get{α:Type}(t:Tr α)(n:Nat):Option α:=(qg α 4 n).f t
noncomputable def Tr.set{α:Type}(t:Tr α)(n:Nat)(x:α):Tr α:=(qs α 4 n).f x t
theorem Tr.um{α:Type}(n:Nat):(Tr.leaf:Tr α).get n=none:=SL α 4 n
theorem Tr.Kz{α:Type}(t:Tr α)(n m:Nat)(x:α):(t.set n x).get m=if n=m then some x else t.get m:=zcw α x 4 n m t
inductive O where
 |cells (e sz:Nat) (live ro:Bool) (cs:List V)
 |map (b:List (V×V×Nat)) (a:Nat)
 |iter (m:Option Nat) (since:Nat) (seen:List Nat) (last:Nat)
 deriving Inhabited
structure Hp where
 next:Nat
 tr:Tr O
noncomputable def Hp.get(h:Hp)(l:Nat):Option O:=Bool.rec (motive:=λ_=>Option O) none (h.tr.get l) (Nat.blt l h.next)
theorem Hp.get_eq(h:Hp) (l:Nat):h.get l=if l<h.next then h.tr.get l else none:=by
 show Bool.rec (motive:=λ_=>Option O) none (h.tr.get l) (Nat.blt l h.next)=_
 cases hb:Nat.blt l h.next with
 |true=>simp_all
 |false=>rw[if_neg (by grind[Q8])]
theorem Hp.N0{h:Hp} {l:Nat} {o:O} (a:h.get l=some o):l<h.next:=by
 grind[Hp.get_eq]
noncomputable def Hp.put(h:Hp)(l:Nat)(o:O):Hp:={h with tr:=h.tr.set l o}
noncomputable def Hp.new(h:Hp)(o:O):Hp:={next:=h.next+1,tr:=h.tr.set h.next o}
noncomputable def SV:List V->Nat->Tr V->Tr V
 |[],_,t=>t
 |v::vs,i,t=>SV vs (i+1) (t.set i v)
inductive Tm where
 |tree (t:Tr V) (ds:List (Nat×List V))
 |fn (f:Nat->V) (ds:List (Nat×List V))
noncomputable def ki(t:Tm) (i:Nat):V:=Tm.rec (motive:=λ_=>V) (λt _=>Option.rec (motive:=λ_=>V) V.undef (λv=>v) (t.get i)) (λf _=>f i) t
noncomputable def fq(f:Nat->V)(d:Nat)(v:V):Nat->V:=λi=>Bool.rec (motive:=λ_=>V) (f i) v (Nat.beq i d)
noncomputable def Tm.set(t:Tm) (d:Nat) (v:V):Tm:=Tm.rec (motive:=λ_=>Tm) (λt ds=> .tree (t.set d v) ds) (λf ds=> .fn (fq f d v) ds) t
def Tm.ds:Tm->List (Nat×List V)
 | .tree _ ds=>ds
 | .fn _ ds=>ds
def Tm.push(x:Nat×List V):Tm->Tm
 | .tree t ds=> .tree t (x::ds)
 | .fn f ds=> .fn f (x::ds)
theorem OQ(t:Tm) (d i:Nat) (v:V):ki (t.set d v) i=if d=i then v else ki t i:=by
 cases t with
 | tree t ds=>
   show Option.rec (motive:=λ_=>V) V.undef (λv=>v) ((t.set d v).get i)=_;rw[Tr.Kz];by_cases h:d=i
   ·simp_all
   ·rw[if_neg h,if_neg h];rfl
 | fn f ds=>
   show Bool.rec (motive:=λ_=>V) (f i) v (Nat.beq i d)=_
   cases hb:Nat.beq i d with
   |true=>simp_all
   |false=>rw[if_neg (by grind[Xn])];rfl
theorem Tm.YM(t:Tm)(d:Nat)(v:V):(t.set d v).ds=t.ds:=by cases t <;> rfl
theorem Tm.zbQ(t:Tm)(x:Nat×List V):(t.push x).ds=x::t.ds:=by cases t <;> rfl
theorem W4(t:Tm)(x:Nat×List V)(i:Nat):ki (t.push x) i=ki t i:=by cases t <;> rfl
noncomputable def Vg(args:List V):Tm:= .tree (SV args 0 .leaf) []
def fG(args:List V):Tm:= .fn (λi=>(args[i]?).getD .undef) []
noncomputable def P0:Program:=Tryz.prog
attribute [irreducible] P0
def zeB:List (Nat×Array Value):=[]
noncomputable section ops
def oB{α β:Type}(x:Option α)(k:α->Option β):Option β:=Option.rec (motive:=λ_=>Option β) none k x
def bB{β:Type}(c:Bool)(k:Option β):Option β:=Bool.rec (motive:=λ_=>Option β) none k c
def Ae{β:Type} (v:V) (k:Nat->Nat->Option β):Option β:=match v with
 | .ptr l o=>k l o
 |_=>none
def asNat{β:Type} (v:V) (k:Nat->Option β):Option β:=match v with
 | .int _ (.ofNat n)=>k n
 |_=>none
def zR(t:Nat):Option Nat:=oB (P0.info? t) λi=>some i.size
def zb3(t:Nat):Option Nat:=oB (P0.info? t) λi=>some i.bytes
def OM(t:Nat):Option Bool:=match P0.underlying t with
 |some (.struct _)=>some true
 |some (.array _ _)=>some true
 |some _=>some false
 |none=>none
def zeroV(t:Nat):Option V:=oB (P0.info? t) λi=>oB i.zero λz=>nP 8 z
def takeN:Nat->List V->Option (List V)
 |0,_=>some []
 |_+1,[]=>none
 |n+1,v::vs=>oB (takeN n vs) λl=>some (v::l)
def sub(cs:List V)(off n:Nat):Option (List V):=takeN n (cs.drop off)
def FU(cs:List V)(off:Nat):Option V:=(cs.drop off).head?
def over:List V->List V->Option (List V)
 |[],cs=>some cs
 |_::_,[]=>none
 |n::ns,_::cs=>oB (over ns cs) λl=>some (n::l)
def qw:Nat->List V->List V->Option (List V)
 |0,cs,new=>over new cs
 |_+1,[],_=>none
 |k+1,c::cs,new=>oB (qw k cs new) λl=>some (c::l)
def gv:List V->Bool
 |[]=>true
 |v::vs=>Bool.rec (motive:=λ_=>Bool) false (gv vs) v.one
def kI{β:Type} (h:Hp) (l:Nat) (k:Nat->Nat->Bool->Bool->List V->Option β):Option β:=oB (h.get l) λo=>match o with
 | .cells e sz live ro cs=>k e sz live ro cs
 |_=>none
def Gc{β:Type} (h:Hp) (l:Nat) (k:List (V×V×Nat)->Nat->Option β):Option β:=oB (h.get l) λo=>match o with
 | .map a c=>k a c
 |_=>none
def IS(h:Hp)(l off n:Nat):Option (List V):=kI h l λ_ _ live _ cs=>bB live (sub cs off n)
def ld1(h:Hp)(l off:Nat):Option V:=kI h l λ_ _ live _ cs=>bB live (FU cs off)
def Gk(h:Hp) (l off:Nat) (new:List V):Option Hp:=kI h l λe sz live ro cs=>bB live (bB (!ro) (bB (gv new) (oB (qw off cs new) λqj=>some (h.put l (.cells e sz true false qj)))))
structure PF where
 f:Tm->Hp->Option V
structure NF where
 f:Tm->Option V
structure AF where
 f:Tm->Option (O×(Nat->V))
def OY:Operand->NF
 | .tmp i=>⟨λt=>some (ki t i)⟩
 | .const v=>match nP 8 v with
   |some v=>⟨λ_=>some v⟩
   |none=>⟨λ_=>none⟩
 | .global _=>⟨λ_=>none⟩
 | .func f=>⟨λ_=>some (.func f [] [])⟩
def uf(x:Operand):PF:=match x with
 | .global g=>match Nat.blt g P0.globals.size with
   |true=>⟨λ_ h=>oB (h.get g) λ_=>some (.ptr g 0)⟩
   |false=>⟨λ_ _=>none⟩
 |x=>⟨λt _=>(OY x).f t⟩
def KA(t:Tm):List Operand->Option (List V)
 |[]=>some []
 |x::xs=>oB ((OY x).f t) λv=>oB (KA t xs) λvs=>some (v::vs)
def ve(t:Tm):List (Nat×Operand)->Option (List (Nat×V))
 |[]=>some []
 |x::xs=>oB ((OY x.2).f t) λv=>oB (ve t xs) λvs=>some ((x.1,v)::vs)
def Mh(t:Nat) (a:PF):PF:=match OM t with
 | some true=>match zR t with
   |some n=>⟨λt h=>oB (a.f t h) λa=>Ae a λl off=>oB (IS h l off n) λcs=>some (.agg cs)⟩
   |none=>⟨λ_ _=>none⟩
 |some false=>⟨λt h=>oB (a.f t h) λa=>Ae a λl off=>ld1 h l off⟩
 |none=>⟨λ_ _=>none⟩
def placesOf:List Field->Option (List (Nat×Nat))
 |[]=>some []
 |f::fs=>oB (zR f.type) λn=>oB (placesOf fs) λl=>some ((f.offset,n)::l)
def Ef(place:Nat->Option (Nat×Nat)):List V->List (Nat×V)->Option (List V)
 |cells,[]=>some cells
 |cells,x::rest=>oB (place x.1) λp=>bB (Nat.beq x.2.cells.length p.2) (oB (qw p.1 cells x.2.cells) λcs=>Ef place cs rest)
def De:Nat->List V->List V
 |0,_=>[]
 |n+1,z=>z++De n z
def JS(t:Nat) (parts:List (Nat×Operand)):PF:=match zeroV t with
 | some z=>match P0.underlying t with
   | some (.struct fields)=>match placesOf fields.toList with
     |some a=>⟨λt _=>oB (ve t parts) λps=>oB (Ef (λi=>a[i]?) z.cells ps) λcs=>some (.agg cs)⟩
     |none=>⟨λ_ _=>none⟩
   | some (.array _ elem)=>match zR elem with
     |some size=>⟨λt _=>oB (ve t parts) λps=>oB (Ef (λi=>some (Nat.mul i size,size)) z.cells ps) λcs=>some (.agg cs)⟩
     |none=>⟨λ_ _=>none⟩
   |_=>⟨λ_ _=>none⟩
 |none=>⟨λ_ _=>none⟩
def mq(k:IntKind) (n:Int):Int:=match n with
 | .ofNat m=>match Nat.blt m (match k with| .i8=>128| .u8=>256| .i16=>32768| .u16=>65536| .i32=>2147483648| .u32=>4294967296| .i64=>9223372036854775808| .u64=>18446744073709551616)with
   |true=> .ofNat m
   |false=>k.wrap (.ofNat m)
 | .negSucc m=>k.wrap (.negSucc m)
def hint(op:BinOp) (k:IntKind) (x y:Int):Option V:=match op with
 | .add=>some (.int k (mq k (x+y)))
 | .sub=>some (.int k (mq k (x-y)))
 | .mul=>some (.int k (mq k (x*y)))
 | .quo=>match x,y with
   |_,.ofNat 0=>none
   |x,y=>some (.int k (mq k (x.tdiv y)))
 | .rem=>match x,y with
   |_,.ofNat 0=>none
   |x,y=>some (.int k (x.tmod y))
 | .and=>some (.int k (k.wrap ((BitVec.ofInt k.bits x&&&BitVec.ofInt k.bits y).toNat)))
 | .or=>some (.int k (k.wrap ((BitVec.ofInt k.bits x |||BitVec.ofInt k.bits y).toNat)))
 | .xor=>some (.int k (k.wrap ((BitVec.ofInt k.bits x ^^^ BitVec.ofInt k.bits y).toNat)))
 | .andNot=>some (.int k (k.wrap ((BitVec.ofInt k.bits x&&&~~~ BitVec.ofInt k.bits y).toNat)))
 | .eql=>some (.bool (x == y))
 | .neq=>some (.bool (x != y))
 | .lss=>some (.bool (x<y))
 | .leq=>some (.bool (x<=y))
 | .gtr=>some (.bool (x>y))
 | .geq=>some (.bool (x>=y))
 |_=>none
def U0(op:BinOp) (k:IntKind) (x y:Int):Option V:=match y with
 | .negSucc _=>none
 | .ofNat m=>match op with
   | .shl=>some (.int k (k.wrap (x*2 ^ (min m k.bits))))
   | .shr=>some (.int k (x.fdiv (2 ^ (min m k.bits))))
   |_=>none
def zdK(op:BinOp) (x y:List UInt8):Option V:=match op with
 | .add=>match Nat.ble (x.length+y.length) 4611686018427387904 with
   |true=>some (.str (x++y))
   |false=>none
 | .eql=>some (.bool (x == y))
 | .neq=>some (.bool (!(x == y)))
 | .lss=>some (.bool (Op.bytesLess x y))
 | .leq=>some (.bool (Op.bytesLess x y ||x == y))
 | .gtr=>some (.bool (!(Op.bytesLess x y ||x == y)))
 | .geq=>some (.bool (!(Op.bytesLess x y)))
 |_=>none
def Ze(d:TypeDesc) (x y:V):Option Bool:=match d,x,y with
 | .bool,.bool a,.bool b=>some (a == b)
 | .pointer _,.nilPtr,.nilPtr=>some true
 | .pointer _,.nilPtr,.ptr _ _=>some false
 | .pointer _,.ptr _ _,.nilPtr=>some false
 | .slice _,.ee,.ee=>some true
 | .slice _,.ee,.slice _ _ _=>some false
 | .slice _,.slice _ _ _,.ee=>some false
 | .map _ _,.mJ,.mJ=>some true
 | .map _ _,.mJ,.map _=>some false
 | .map _ _,.map _,.mJ=>some false
 | .func _ _ _,.nilFunc,.nilFunc=>some true
 | .func _ _ _,.nilFunc,.func _ _ _=>some false
 | .func _ _ _,.func _ _ _,.nilFunc=>some false
 | .interface ms,.nilIface,.nilIface=>bB ms.isEmpty (some true)
 | .interface _,.nilIface,.iface _ _=>some false
 | .interface _,.iface _ _,.nilIface=>some false
 |_,_,_=>none
def Rq:IntKind->IntKind->Bool
 | .i8,.i8| .i16,.i16| .i32,.i32| .i64,.i64| .u8,.u8| .u16,.u16| .u32,.u32| .u64,.u64=>true
 |_,_=>false
def Z1(t:Nat) (x y:V):Option Bool:=match P0.underlying t with
 |some d=>Ze d x y
 |none=>none
def eq1(d:Option TypeDesc) (x y:V):Option Bool:=match d,x,y with
 |some .bool,.bool a,.bool b=>some (a == b)
 |some (.int _),.int k a,.int k' b=>bB (Rq k k') (some (a == b))
 |some .string,.str a,.str b=>some (a == b)
 |_,_,_=>none
def MY:List Field->List V->List V->Option Bool
 |[],_,_=>some true
 |f::fs,xs,ys=>bB (!(f.name == "_")) (oB (FU xs f.offset) λx=>oB (FU ys f.offset) λy=>oB (eq1 (P0.underlying f.type) x y) λb=>Bool.rec (motive:=λ_=>Option Bool) (some false) (MY fs xs ys) b)
def Zh(t:Nat) (xs ys:List V):Option Bool:=match P0.underlying t with
 |some (.struct fs)=>bB (!(P0.stoodInHeld t)) (bB (!(P0.eqGuardType P0.depth t)) (MY fs.toList xs ys))
 |_=>none
def zdG(t:Nat) (x y:V):Option Bool:=match x,y with
 | .agg xs,.agg ys=>Zh t xs ys
 |_,_=>Z1 t x y
def XU(t:Nat)(a:Bool)(x y:V):Option V:=oB (zdG t x y) λb=>some (.bool (Bool.rec (motive:=λ_=>Bool) b (!b) a))
def Ww:BinOp->Bool
 | .shl| .shr=>true
 |_=>false
def en(op:BinOp) (t:Nat) (x y:V):Option V:=match x,y with
 | .int k a,.int k' b=>match Ww op with
   |true=>U0 op k a b
   |false=>bB (Rq k k') (hint op k a b)
 | .str a,.str b=>zdK op a b
 | x,y=>match op with
   | .eql=>XU t false x y
   | .neq=>XU t true x y
   |_=>none
def pA(op:UnOp) (x:V):Option V:=match op,x with
 | .neg,.int k n=>some (.int k (mq k (Int.sub 0 n)))
 | .not,.bool b=>some (.bool !b)
 | .xor,.int k n=>hint .xor k (if k.signed then -1 else k.max) n
 |_,_=>none
def byteOf:V->Option UInt8
 | .int .u8 (.ofNat m)=>bB (Nat.blt m 256) (some (UInt8.ofNat m))
 |_=>none
def bytesOf:List V->Option (List UInt8)
 |[]=>some []
 |v::vs=>oB (byteOf v) λb=>oB (bytesOf vs) λl=>some (b::l)
def Mu(src dst:Nat) (x:PF):PF:=match P0.underlying src,P0.underlying dst with
 | some (.int _),some (.int k)=>⟨λt h=>oB (x.f t h) λx=>match x with
   | .int _ n=>some (.int k (mq k n))
   |_=>none⟩
 | some .string,some .string=>⟨λt h=>oB (x.f t h) λx=>match x with
   | .str s=>some (.str s)
   |_=>none⟩
 | some (.slice e),some .string=>match P0.underlying e with
   | some (.int .u8)=>⟨λt h=>oB (x.f t h) λx=>match x with
     | .ee=>some (.str [])
     | .slice l off n=>oB (IS h l off n) λcs=>oB (bytesOf cs) λs=>some (.str s)
     |_=>none⟩
   |_=>⟨λ_ _=>none⟩
 |_,_=>⟨λ_ _=>none⟩
def Sr(t:Nat):List V->Nat->Option V:=match OM t with
 | some true=>match zR t with
   |some n=>λcs off=>oB (sub cs off n) λl=>some (.agg l)
   |none=>λ_ _=>none
 |some false=>λcs off=>FU cs off
 |none=>λ_ _=>none
def MX(s f:Nat):Option Field:=match P0.underlying s with
 |some (.struct fields)=>fields.toList[f]?
 |_=>none
def rk(s:Nat) (x:PF) (f:Nat):PF:=match MX s f with
 | some a=>match zR a.type with
   |some (_+1)=>⟨λt h=>oB (x.f t h) λx=>Ae x λl off=>some (.ptr l (Nat.add off a.offset))⟩
   |_=>⟨λ_ _=>none⟩
 |none=>⟨λ_ _=>none⟩
def JB(s:Nat) (x:PF) (f:Nat):PF:=match MX s f with
 | some a=>⟨λt h=>oB (x.f t h) λx=>match x with
   | .agg cs=>Sr a.type cs a.offset
   |_=>none⟩
 |none=>⟨λ_ _=>none⟩
def rG(t:Nat) (x i:PF):PF:=match P0.underlying t with
 | some (.slice elem)=>match zR elem with
   | some n=>⟨λt h=>oB (x.f t h) λx=>oB (i.f t h) λi=>asNat i λi=>match x with
     | .slice l off len=>bB (Nat.blt i len) (some (.ptr l (Nat.add off (Nat.mul i n))))
     |_=>none⟩
   |none=>⟨λ_ _=>none⟩
 | some (.array len elem)=>match zR elem with
   |some n=>⟨λt h=>oB (x.f t h) λx=>oB (i.f t h) λi=>asNat i λi=>Ae x λl off=>bB (Nat.blt i len) (some (.ptr l (Nat.add off (Nat.mul i n))))⟩
   |none=>⟨λ_ _=>none⟩
 |_=>⟨λ_ _=>none⟩
def JO(t:Nat) (x i:PF):PF:=match P0.underlying t with
 | some (.array len elem)=>match zR elem with
   | some n=>⟨λt h=>oB (x.f t h) λx=>oB (i.f t h) λi=>asNat i λi=>match x with
     | .agg cs=>bB (Nat.blt i len) (Sr elem cs (Nat.mul i n))
     |_=>none⟩
   |none=>⟨λ_ _=>none⟩
 | some .string=>⟨λt h=>oB (x.f t h) λx=>oB (i.f t h) λi=>asNat i λi=>match x with
   | .str s=>oB ((s.drop i).head?) λb=>some (.int .u8 (.ofNat b.toNat))
   |_=>none⟩
 |_=>⟨λ_ _=>none⟩
def hbound(d:Nat):Option V->Option Nat
 |none=>some d
 |some (.int _ (.ofNat n))=>some n
 |some _=>none
def jz(size:Nat) (x:V) (lo hi:Option V) (h:Hp):Option V:=match x with
 | .slice lc off len=>kI h lc λ_ sz _ _ cs=>bB (Nat.beq size sz) (oB (hbound 0 lo) λl=>oB (hbound len hi) λu=>
   bB (Nat.ble l u) (bB (Nat.ble u len ||Nat.ble (Nat.add off (Nat.mul u size)) cs.length) (some (.slice lc (Nat.add off (Nat.mul l size)) (Nat.sub u l)))))
 | .ee=>oB (hbound 0 lo) λl=>oB (hbound 0 hi) λu=>bB (Nat.beq l 0) (bB (Nat.beq u 0) (some .ee))
 |_=>none
def QD(x:V) (lo hi:Option V):Option V:=match x with
 | .str s=>oB (hbound 0 lo) λl=>oB (hbound s.length hi) λu=>bB (Nat.ble l u) (bB (Nat.ble u s.length) (some (.str ((s.drop l).take (Nat.sub u l)))))
 |_=>none
def KB(x:Option Operand) (t:Tm) (h:Hp):Option (Option V):=match x with
 |none=>some none
 |some x=>oB ((uf x).f t h) λv=>some (some v)
def Lm(t:Nat) (x:PF) (lo hi:Option Operand):PF:=match P0.underlying t with
 |some .string=>⟨λt h=>oB (x.f t h) λx=>oB (KB lo t h) λl=>oB (KB hi t h) λu=>QD x l u⟩
 | some (.slice elem)=>match zR elem with
   |some (n+1)=>⟨λt h=>oB (x.f t h) λx=>oB (KB lo t h) λl=>oB (KB hi t h) λu=>jz (Nat.succ n) x l u h⟩
   |_=>⟨λ_ _=>none⟩
 |_=>⟨λ_ _=>none⟩
def Ki:V->Bool
 | .int _ _| .str _| .bool _=>true
 |_=>false
def LY:V->Bool
 | .agg cs=>cs.all Ki
 |v=>Ki v
def Lv(t:Nat) (a b:V):Option Bool:=match P0.underlying t with
 | some (.int _)=>match a,b with
   | .int k a,.int k' b=>bB (Rq k k') (some (a == b))
   |_,_=>none
 | some .string=>match a,b with
   | .str a,.str b=>some (a == b)
   |_,_=>none
 | some .bool=>match a,b with
   | .bool a,.bool b=>some (a == b)
   |_,_=>none
 |_=>none
def Gb(t:Nat):Bool:=match P0.underlying t with
 |some (.int _)|some .string|some .bool=>true
 |_=>false
def SH:List Field->List V->List V->Option Bool
 |[],_,_=>some true
 |f::fs,x,y=>oB (FU x f.offset) λa=>oB (FU y f.offset) λb=>oB (Lv f.type a b) λe=>Bool.rec (motive:=λ_=>Option Bool) (some false) (SH fs x y) e
def KM(t:Nat):Option (Option (List Field)):=match P0.underlying t with
 |some (.int _)|some .string|some .bool=>some none
 | some (.struct fs)=>match !P0.stoodInHeld t&&fs.toList.all (λf=>Gb f.type&&f.name != "_")with
   |true=>some (some fs.toList)
   |false=>none
 |_=>none
def Tl(t:Nat) (d:Option (List Field)) (a b:V):Option Bool:=match d with
 |none=>Lv t a b
 | some fs=>match a,b with
   | .agg x,.agg y=>SH fs x y
   |_,_=>none
def LW(d:Option (List Field)) (k:V):Bool:=match d with
 |none=>true
 | some fs=>match k with
   | .agg x=>fs.all λf=>(FU x f.offset).isSome
   |_=>false
def yN(t:Nat) (d:Option (List Field)) (k:V):List (V×V×Nat)->Nat->Option (Option (Nat×V))
 |[],_=>some none
 |e::es,i=>oB (Tl t d k e.1) λb=>Bool.rec (motive:=λ_=>Option (Option (Nat×V))) (yN t d k es (Nat.succ i)) (some (some (i,e.2.1))) b
def found(z:V) (ok:Bool) (r:Option (Nat×V)):V:=match r,ok with
 |some (_,v),true=> .tuple [v,.bool true]
 |some (_,v),false=>v
 |none,true=> .tuple [z,.bool false]
 |none,false=>z
def Ih(a:Nat) (m k:PF) (ok:Bool):PF:=match P0.underlying a with
 | some (.map kt et)=>match KM kt,zeroV et with
   |some d,some z=>⟨λt h=>oB (m.f t h) λm=>oB (k.f t h) λk=>bB (LW d k) (match m with
      | .mJ=>some (found z ok none)
      | .map l=>Gc h l λb _=>oB (yN kt d k b 0) λr=>some (found z ok r)
      |_=>none)⟩
   |_,_=>⟨λ_ _=>none⟩
 |_=>⟨λ_ _=>none⟩
def hlen(t:Nat) (x:PF):PF:=match P0.underlying t with
 | some .string=>⟨λt h=>oB (x.f t h) λx=>match x with
   | .str s=>some (.int .i64 (.ofNat s.length))
   |_=>none⟩
 | some (.slice _)=>⟨λt h=>oB (x.f t h) λx=>match x with
   | .slice _ _ n=>some (.int .i64 (.ofNat n))
   | .ee=>some (.int .i64 (.ofNat 0))
   |_=>none⟩
 |some (.array n _)=>⟨λt h=>oB (x.f t h) λ_=>some (.int .i64 (.ofNat n))⟩
 | some (.map _ _)=>⟨λt h=>oB (x.f t h) λx=>match x with
   | .mJ=>some (.int .i64 (.ofNat 0))
   | .map l=>Gc h l λa _=>some (.int .i64 (.ofNat a.length))
   |_=>none⟩
 |_=>⟨λ_ _=>none⟩
def SO(c:Bool):V->List V->Option V
 |x,[]=>some x
 | .int k a,.int _ b::r=>SO c (.int k (if c then(if b>a then b else a) else(if b<a then b else a))) r
 |_,_=>none
def isIface(t:Nat):Option Bool:=match P0.underlying t with
 |some (.interface _)=>some true
 |some _=>some false
 |none=>none
def HY(x:PF) (a:Nat) (ok:Bool):PF:=match isIface a,zeroV a with
 | some false,some z=>⟨λt h=>oB (x.f t h) λx=>match x,ok with
   | .iface t v,true=>some (Bool.rec (motive:=λ_=>V) (.tuple [z,.bool false]) (.tuple [v,.bool true]) (Nat.beq t a))
   | .iface t v,false=>bB (Nat.beq t a) (some v)
   | .nilIface,true=>some (.tuple [z,.bool false])
   |_,_=>none⟩
 |_,_=>⟨λ_ _=>none⟩
def Mf(c a b:PF):PF:=⟨λt h=>oB (c.f t h) λc=>match c with
 | .bool x=>Bool.rec (motive:=λ_=>Option V) (b.f t h) (a.f t h) x
 |_=>none⟩
def AS(x:PF):PF:=⟨λt h=>oB (x.f t h) λx=>match x with
 | .ptr l off=>some (.ptr l off)
 | .func f a c=>some (.func f a c)
 | .iface u v=>some (.iface u v)
 |_=>none⟩
def Hn(x:PF) (i:Nat):PF:=⟨λt h=>oB (x.f t h) λx=>match x with
 | .tuple vs=>FU vs i
 |_=>none⟩
def zbU:PF:=⟨λ_ _=>none⟩
def iY(o:Oper):PF:=match o.op with
 | .move x=>uf x
 | .assign x=>uf x
 | .pick c a b=>Mf (uf c) (uf a) (uf b)
 | .load ty a=>Mh ty (uf a)
 | .nilCheck x=>AS (uf x)
 | .binOp op e x y _=>⟨λt h=>oB ((uf x).f t h) λa=>oB ((uf y).f t h) λb=>en op e a b⟩
 | .unOp op _ x=>⟨λt h=>oB ((uf x).f t h) λa=>pA op a⟩
 | .convert src dst x=>Mu src dst (uf x)
 | .build ty parts=>JS ty parts.toList
 | .makeFunc (.func f) first caps=>⟨λt _=>oB (KA t first.toList) λa=>oB (KA t caps.toList) λc=>some (.func f a c)⟩
 | .slice ty x lo hi none=>Lm ty (uf x) lo hi
 | .fieldAddr s x f=>rk s (uf x) f
 | .field s x f=>JB s (uf x) f
 | .indexAddr ty x i=>rG ty (uf x) (uf i)
 | .index ty x i=>JO ty (uf x) (uf i)
 | .lookup ty m k ok=>Ih ty (uf m) (uf k) ok
 | .extract x i=>Hn (uf x) i
 | .makeInterface ty x=>match isIface ty with
   |some false=>⟨λt h=>oB ((uf x).f t h) λv=>some (.iface ty v)⟩
   |_=>zbU
 | .typeAssert x _ d ok=>HY (uf x) d ok
 | .call c=>match c.callee with
   | .builtin .len=>match c.args.toList,c.argTypes.toList with
     |[x],ty::_=>hlen ty (uf x)
     |_,_=>zbU
   | .builtin .min=>⟨λt _=>oB (KA t c.args.toList) λl=>match l with
     |x::r=>SO false x r
     |[]=>none⟩
   | .builtin .max=>⟨λt _=>oB (KA t c.args.toList) λl=>match l with
     |x::r=>SO true x r
     |[]=>none⟩
   |_=>zbU
 |_=>zbU
def mn(e:Nat)(v:V):Option (O×(Nat->V)):=bB (gv v.cells) (some (.cells e 1 true false v.cells,λl=> .ptr l 0))
def Ho(a size len:Nat) (z:V) (parts:List (Nat×Operand)) (t:Tm):Option (O×(Nat->V)):=oB (ve t parts) λps=>oB (Ef (λi=>some (Nat.mul i size,size)) (De len z.cells) ps) λcs=>bB (gv cs) (some (.cells a size true false cs,λl=> .slice l 0 len))
def iB(a size kL:Nat) (z:V) (n c:V):Option (O×(Nat->V)):=match n,c with
 | .int .i64 (.ofNat n),.int .i64 (.ofNat c)=>bB (Nat.ble n c) (bB (Nat.ble (Nat.mul c kL) 281474976710656) (bB (Nat.ble c 1099511627776)
   (some (.cells a size true false (De c z.cells),λl=> .slice l 0 n))))
 |_,_=>none
def elemOf(a:Nat):Option (Nat×Nat×V):=oB (zR a) λsize=>oB (zb3 a) λkL=>oB (zeroV a) λz=>bB (Nat.blt 0 size) (bB (Nat.beq z.cells.length size) (bB (gv z.cells) (some (size,kL,z))))
def Ie(t:Nat):Option Nat:=match P0.underlying t with
 |some (.slice e)=>some e
 |_=>none
def SQ:AF:=⟨λ_=>none⟩
def qQ(o:Oper):AF:=match o.op with
 | .alloc e=>match zeroV e with
   |some z=>⟨λ_=>mn e z⟩
   |none=>SQ
 | .box e x=>⟨λt=>oB ((OY x).f t) λv=>mn e v⟩
 | .buildSlice ty len parts=>match Ie ty with
   | some a=>match elemOf a with
     | some (size,_,z)=>match Nat.ble (Nat.mul len size) 16777216 with
       |true=>⟨λt=>Ho a size len z parts.toList t⟩
       |false=>SQ
     |none=>SQ
   |none=>SQ
 | .makeSlice ty n c=>match Ie ty with
   | some a=>match elemOf a with
     |some (size,kL,z)=>⟨λt=>oB ((OY n).f t) λn=>oB ((OY c).f t) λc=>iB a size kL z n c⟩
     |none=>SQ
   |none=>SQ
 | .makeMap ty none=>match P0.underlying ty with
   |some (.map _ _)=>⟨λ_=>some (.map [] 0,λl=> .map l)⟩
   |_=>SQ
 |_=>SQ
inductive R where
 |val (v:V) (h:Hp)
 |call (f:Nat) (args:List V)
structure WF where
 f:Tm->Hp->Option R
def Bz(s:List UInt8):List V:=s.map λb=> .int .u8 (.ofNat b.toNat)
def ml(h:Hp) (size:Nat):V->Option (Nat×List V)
 | .ee=>some (0,[])
 | .slice _ _ 0=>some (0,[])
 | .slice l off (n+1)=>oB (IS h l off (Nat.mul (Nat.succ n) size)) λcs=>some (Nat.succ n,cs)
 | .str s=>bB (Nat.beq size 1) (some (s.length,Bz s))
 |_=>none
def eR(a size kL:Nat) (s x:V) (h:Hp):Option R:=oB (ml h size x) λnx=>
 Bool.rec (motive:=λ_=>Option R)
   (bB (gv nx.2) (match s with
     | .ee=>bB (Nat.ble (Nat.mul nx.1 kL) 70368744177664) (bB (Nat.ble nx.1 70368744177664)
         (some (.val (.slice h.next 0 nx.1) (h.new (.cells a size true false nx.2)))))
     | .slice l off len=>kI h l λe sz live ro cs=>bB live (bB (!ro) (bB (Nat.beq sz size)
         (Bool.rec (motive:=λ_=>Option R)
           (oB (sub cs off (Nat.mul len size)) λAK=>bB (gv AK) (bB (Nat.ble (Nat.mul (Nat.add len nx.1) kL) 70368744177664) (bB (Nat.ble (Nat.add len nx.1) 70368744177664)
             (some (.val (.slice h.next 0 (Nat.add len nx.1)) ((h.put l (.cells e sz false false cs)).new (.cells a size true false (AK++nx.2))))))))
           (oB (qw (Nat.add off (Nat.mul len size)) cs nx.2) λqj=>some (.val (.slice l off (Nat.add len nx.1)) (h.put l (.cells e sz true false qj))))
           (Nat.ble (Nat.add off (Nat.mul (Nat.add len nx.1) size)) cs.length))))
     |_=>none))
   (match s with
     | .ee=>some (.val .ee h)
     | .slice l off len=>some (.val (.slice l off len) h)
     |_=>none)
   (Nat.beq nx.1 0)
def zaa(size:Nat) (d s:V) (h:Hp):Option R:=match d with
 | .ee=>match s with
   | .ee| .slice _ _ _| .str _=>some (.val (.int .i64 (.ofNat 0)) h)
   |_=>none
 | .slice l off len=>match s with
   | .ee=>some (.val (.int .i64 (.ofNat 0)) h)
   | .slice c a FD=>Bool.rec (motive:=λ_=>Option R)
       (oB (IS h c a (Nat.mul (min FD len) size)) λcs=>oB (Gk h l off cs) λh=>some (.val (.int .i64 (.ofNat (min FD len))) h))
       (some (.val (.int .i64 (.ofNat 0)) h)) (Nat.beq (min FD len) 0)
   | .str b=>bB (Nat.beq size 1) (Bool.rec (motive:=λ_=>Option R)
       (oB (Gk h l off (Bz (b.take (min b.length len)))) λh=>some (.val (.int .i64 (.ofNat (min b.length len))) h))
       (some (.val (.int .i64 (.ofNat 0)) h)) (Nat.beq (min b.length len) 0))
   |_=>none
 |_=>none
def QV(t:Nat) (d:Option (List Field)) (b:List (V×V×Nat)) (a:Nat) (k v:V):Option O:=oB (yN t d k b 0) λr=>match r with
 |some (i,_)=>oB b[i]? λe=>bB (V.beq e.1 k) (bB (LY k) (some (.map (b.set i (k,v,e.2.2)) a)))
 |none=>some (.map (b++[(k,v,a)]) (Nat.succ a))
def Pk(t:Nat) (d:Option (List Field)) (m k v:V) (h:Hp):Option R:=bB (LW d k) (match m with
 | .map l=>Gc h l λa c=>oB (QV t d a c k v) λo=>some (.val .undef (h.put l o))
 |_=>none)
def Q2(t:Nat) (d:Option (List Field)) (m k:V) (h:Hp):Option R:=bB (LW d k) (match m with
 | .mJ=>some (.val (.tuple []) h)
 | .map l=>Gc h l λa c=>oB (yN t d k a 0) λr=>match r with
   |some (i,_)=>some (.val (.tuple []) (h.put l (.map (a.eraseIdx i) c)))
   |none=>some (.val (.tuple []) h)
 |_=>none)
def Zy(x:V) (h:Hp):Option R:=match x with
 | .slice l off n=>kI h l λe sz live ro cs=>bB live (bB (!ro) (some (.val (.slice l off n) (h.put l (.cells e sz true false cs)))))
 |_=>none
def gi(f:V) (args:List V):Option R:=match f with
 | .func f first a=>some (.call f (first++(args++a)))
 |_=>none
def methodOf(t:Nat) (a:String):Option (Nat×Option Nat):=oB (P0.info? t) λi=>match i.methods.toList.find? (λm=>m.name == a)with
 | some m=>match m.path.toList,m.func,P0.underlying t with
   |[],some (f,true),some (.pointer _)=>some (f,none)
   |[],some (f,false),some (.pointer e)=>some (f,some e)
   |[],some (f,false),some _=>some (f,none)
   |_,_,_=>none
 |none=>none
def RG(a:String) (r:V) (args:List V) (h:Hp):Option R:=match r with
 | .iface t v=>match methodOf t a with
   |some (f,none)=>some (.call f (v::args))
   |some (f,some e)=>oB ((Mh e ⟨λ_ _=>some v⟩).f (.tree .leaf []) h) λx=>some (.call f (x::args))
   |none=>none
 |_=>none
def NK(m:V) (h:Hp):Option R:=match m with
 | .mJ=>some (.val (.ptr h.next 0) (h.new (.iter none 0 [] 0)))
 | .map l=>Gc h l λ_ c=>some (.val (.ptr h.next 0) (h.new (.iter (some l) c [] c)))
 |_=>none
def Ez(it:V) (h:Hp):Option R:=Ae it λr off=>bB (Nat.beq off 0) (oB (h.get r) λo=>match o with
 | .iter none _ _ _=>some (.val (.tuple [.bool false]) h)
 | .iter (some m) since seen last=>Gc h m λb a=>
   bB (!(!seen.isEmpty&&!b.isEmpty&&b.all (λe=>Nat.ble last e.2.2)))
     (match b.filter (λe=>!seen.contains e.2.2)with
       |[]=>some (.val (.tuple [.bool false]) h)
       |[e]=>bB (Nat.blt e.2.2 since) (some (.val (.tuple [.bool true,e.1,e.2.1]) (h.put r (.iter (some m) since (seen++[e.2.2]) a))))
       |_=>none)
 |_=>none)
def Ur(it:V) (h:Hp):Option R:=Ae it λr off=>bB (Nat.beq off 0) (oB (h.get r) λo=>match o with
 | .iter (some m) _ seen last=>Gc h m λb a=>bB (Nat.beq a last) (oB seen.getLast? λst=>oB (b.find? λe=>Nat.beq e.2.2 st) λe=>some (.val (.tuple [e.1,e.2.1]) h))
 |_=>none)
def Dn:WF:=⟨λ_ _=>none⟩
def kJ(o:Oper):WF:=match o.op with
 | .store ty a x=>match zR ty with
   |some n=>⟨λt h=>oB ((uf a).f t h) λa=>oB ((uf x).f t h) λv=>Ae a λl off=>
      bB (Nat.beq v.cells.length n) (oB (Gk h l off v.cells) λh=>some (.val .undef h))⟩
   |none=>Dn
 | .mapUpdate ty m k x=>match P0.underlying ty with
   | some (.map kt _)=>match KM kt with
     |some d=>⟨λt h=>oB ((uf m).f t h) λm=>oB ((uf k).f t h) λk=>oB ((uf x).f t h) λv=>Pk kt d m k v h⟩
     |none=>Dn
   |_=>Dn
 | .insert ty m k x=>match P0.underlying ty with
   | some (.map kt _)=>match KM kt with
     |some d=>⟨λt h=>oB ((uf m).f t h) λm=>oB ((uf k).f t h) λk=>oB ((uf x).f t h) λv=>Pk kt d m k v h⟩
     |none=>Dn
   |_=>Dn
 | .range ty x=>match P0.underlying ty with
   |some (.map _ _)=>⟨λt h=>oB ((uf x).f t h) λm=>NK m h⟩
   |_=>Dn
 | .next x false=>⟨λt h=>oB ((uf x).f t h) λm=>Ez m h⟩
 | .entry x=>⟨λt h=>oB ((uf x).f t h) λm=>Ur m h⟩
 | .convert src dst x=>match P0.underlying src,P0.underlying dst with
   | some .string,some (.slice e)=>match P0.underlying e,zR e with
     | some (.int .u8),some 1=>⟨λt h=>oB ((uf x).f t h) λx=>match x with
       | .str s=>some (.val (.slice h.next 0 s.length) (h.new (.cells e 1 true false (Bz s))))
       |_=>none⟩
     |_,_=>Dn
   | some (.slice _),some (.slice e)=>match P0.underlying e,Nat.beq src dst with
     |some (.int .u8),true=>⟨λt h=>oB ((uf x).f t h) λx=>Zy x h⟩
     |_,_=>Dn
   |_,_=>Dn
 | .call c=>match c.callee with
   | .builtin .append=>match c.args.toList,c.argTypes.toList with
     | [s,x],[sT,xT]=>match Ie sT,P0.underlying xT with
       | some b,some (.slice _)=>match elemOf b with
         |some (size,kL,_)=>⟨λt h=>oB ((uf s).f t h) λs=>oB ((uf x).f t h) λx=>eR b size kL s x h⟩
         |none=>Dn
       | some b,some .string=>match elemOf b with
         |some (size,kL,_)=>⟨λt h=>oB ((uf s).f t h) λs=>oB ((uf x).f t h) λx=>eR b size kL s x h⟩
         |none=>Dn
       |_,_=>Dn
     |_,_=>Dn
   | .builtin .copy=>match c.args.toList,c.argTypes.toList with
     | [d,s],dT::_=>match Ie dT with
       | some b=>match zR b with
         |some size=>⟨λt h=>oB ((uf d).f t h) λd=>oB ((uf s).f t h) λs=>zaa size d s h⟩
         |none=>Dn
       |none=>Dn
     |_,_=>Dn
   | .builtin .delete=>match c.args.toList,c.argTypes.toList with
     | [m,k],mT::_=>match P0.underlying mT with
       | some (.map kt _)=>match KM kt with
         |some d=>⟨λt h=>oB ((uf m).f t h) λm=>oB ((uf k).f t h) λk=>Q2 kt d m k h⟩
         |none=>Dn
       |_=>Dn
     |_,_=>Dn
   | .value f=>⟨λt h=>oB ((uf f).f t h) λf=>oB (KA t c.args.toList) λargs=>gi f args⟩
   | .invoke r g=>⟨λt h=>oB ((uf r).f t h) λr=>oB (KA t c.args.toList) λargs=>RG g r args h⟩
   |_=>Dn
 |_=>Dn
def cls(o:Oper):Nat:=match o.op with
 | .alloc _| .box _ _| .buildSlice _ _ _| .makeSlice _ _ _| .makeMap _ _=>1
 | .move _| .assign _| .pick _ _ _| .load _ _| .nilCheck _| .binOp _ _ _ _ _| .unOp _ _ _| .build _ _| .makeFunc _ _ _| .slice _ _ _ _ _
 | .fieldAddr _ _ _| .field _ _ _| .indexAddr _ _ _| .index _ _ _| .lookup _ _ _ _| .extract _ _| .makeInterface _ _| .typeAssert _ _ _ _=>0
 | .call c=>match c.callee with
   | .builtin .len| .builtin .min| .builtin .max=>0
   |_=>2
 | .convert src dst _=>match P0.underlying src,P0.underlying dst with
   |some (.int _),some (.int _)=>0
   |some .string,some .string=>0
   |some (.slice _),some .string=>0
   |_,_=>2
 |_=>2
abbrev Call:=Nat->List V->Hp->Option (V×Hp)
structure RF where
 f:Call->Tm->Hp->Option (V×Hp)
def JE(o:Oper):RF:=match cls o with
 |0=>⟨λ_ t h=>oB ((iY o).f t h) λv=>some (v,h)⟩
 |1=>⟨λ_ t h=>oB ((qQ o).f t) λr=>some (r.2 h.next,h.new r.1)⟩
 | _=>⟨λcall t h=>oB ((kJ o).f t h) λr=>match r with
   | .val v h=>some (v,h)
   | .call f args=>call f args h⟩
structure GF where
 f:Tm->Option Bool
def lL(n:Nat) (ops:List Oper) (o:Oper):Option GF:=match o.guard with
 |none=>none
 | some (j,w)=>match ops[j]? with
   | some a=>match a.dst with
     | some d=>match Nat.blt d n with
       | true=>some ⟨λt=>match ki t d with
         | .bool b=>some (Bool.rec (motive:=λ_=>Bool) (!w) w b)
         | .tuple []=>some false
         |_=>none⟩
       |false=>some ⟨λ_=>none⟩
     |none=>some ⟨λ_=>some false⟩
   |none=>some ⟨λ_=>some false⟩
structure DF where
 f:Tm->V->Tm
def zL(n:Nat) (o:Oper):Option DF:=match o.dst with
 |none=>some ⟨λt _=>t⟩
 | some d=>match Nat.blt d n with
   |true=>some ⟨λt v=>t.set d v⟩
   |false=>none
structure SF where
 f:Call->Tm->Hp->Option (Tm×Hp)
def zec:SF:=⟨λ_ _ _=>none⟩
structure QF where
 f:Tm->Hp->Option Tm
def Yu(b:V) (args:List V) (t:Tm):Option Tm:=match b with
 | .func g first a=>some (t.push (g,first++(args++a)))
 |_=>none
def A2(o:Oper):Option QF:=match o.op with
 | .defer c=>match c.callee with
   | .value f=>some ⟨λt h=>oB ((uf f).f t h) λa=>oB (KA t c.args.toList) λargs=>Yu a args t⟩
   |_=>none
 |_=>none
def KK(n:Nat) (all:List Oper) (o:Oper) (a:SF):SF:=match zL n o with
 |none=>zec
 | some d=>match lL n all o with
   | none=>match A2 o with
     |some q=>⟨λcall t h=>oB (q.f t h) λt=>a.f call (d.f t .undef) h⟩
     |none=>⟨λcall t h=>oB ((JE o).f call t h) λr=>a.f call (d.f t r.1) r.2⟩
   |some g=>⟨λcall t h=>oB (g.f t) λb=>Bool.rec (motive:=λ_=>Option (Tm×Hp)) (a.f call (d.f t .undef) h)
      (oB ((JE o).f call t h) λr=>a.f call (d.f t r.1) r.2) b⟩
def uX(n:Nat) (all:List Oper):List Oper->SF
 |[]=>⟨λ_ t h=>some (t,h)⟩
 |o::os=>KK n all o (uX n all os)
structure It where
 i:Nat
 o:Oper
 b:Nat
def Oy(e:Edge):Bool:=match e.ground with
 | .textOnly _| .gcOnly _=>false
 |_=>true
def Ob(a:List Nat):List Edge->Nat->Nat
 |[],m=>m
 | e::es,m=>match Oy e with
   |true=>Ob a es (m |||(2 ^ e.on |||a[e.on]?.getD 0))
   |false=>Ob a es m
def items:List Oper->Nat->List Nat->List It
 |[],_,_=>[]
 |o::os,i,acc=>{i,o,b:=Ob acc o.after.toList 0}::items os (i+1) (acc++[Ob acc o.after.toList 0])
def CU:List Operand->List Nat
 |[]=>[]
 | .tmp t::xs=>t::CU xs
 |_::xs=>CU xs
def qI(o:Oper):List Nat:=o.dst.toList++CU o.op.operands.toList
def writes(o:Oper) (l:List Nat):Bool:=match o.dst with
 |some d=>l.contains d
 |none=>false
def Rm(a b:It):Bool:=(!(writes a.o (qI b.o))&&!(writes b.o (qI a.o))) ||b.b.testBit a.i
def rY:List It->Bool
 |[]=>true
 |a::l=>l.all (Rm a)&&rY l
def EP(kM:List It) (a:It):Bool:=match a.o.guard with
 |none=>true
 | some (j,_)=>match kM[j]? with
   | some g=>match g.o.dst with
     |some d=>a.b.testBit j&&kM.all (λx=>x.i == j || !(x.o.dst == some d))
     |none=>false
   |none=>false
def Cv(a:It):Bool:=a.o.after.toList.all λe=>!Oy e ||Nat.blt e.on a.i
def HU:List It->Bool
 |a::b::l=>b.b.testBit a.i&&HU (b::l)
 |_=>true
def QH(kM ws:List It):Bool:=rY kM&&kM.all (EP kM)&&kM.all Cv&&HU ws
def early(ws:List It)(a:It):Nat:=(ws.filter λw=>a.b.testBit w.i).length
def late:List It->It->Nat
 |[],_=>0
 | w::ws,a=>match w.b.testBit a.i with
   |true=>0
   |false=>late ws a+1
def O.beq:O->O->Bool
 | .cells e s a r cs,.cells e' s' a' r' qj=>e == e'&&s == s'&&a == a'&&r == r'&&V.N1 cs qj
 | .map [] c,.map [] c'=>c == c'
 |_,_=>false
structure Rec where
 it:It
 t:Tm
 v:V
 made:Option (Nat×O)
 last:Nat
def AI(h:Hp) (r:Rec):Bool:=match r.made with
 | none=>match (iY r.it.o).f r.t h with
   |some v=>V.beq v r.v
   |none=>false
 | some (l,ob)=>match h.get l with
   |some a=>O.beq a ob
   |none=>false
def qz(n:Nat) (all:List Oper) (o:Oper) (t:Tm):Option Bool:=match lL n all o with
 |none=>some true
 |some g=>g.f t
def CY(k:Nat)(h:Hp)(rs:List Rec):Bool:=rs.all λr=>Nat.blt r.last k ||AI h r
def WC(kM ws:List It)(k:Nat):List It:=kM.filter λa=>!(Nat.beq (cls a.o) 2)&&Nat.beq (early ws a) k
def order(kM ws:List It):List It->Nat->List It
 |[],k=>WC kM ws k
 |w::todo,k=>WC kM ws k++w::order kM ws todo (Nat.succ k)
def Na(ws:List It) (a:It):Nat->Bool
 |0=>true
 | k+1=>match ws[k]? with
   |some w=>a.b.testBit w.i
   |none=>false
def isW(ws:List It) (a:It) (k:Nat):Bool:=match ws[k]? with
 |some w=>Nat.beq w.i a.i
 |none=>false
def xK(kM ws:List It):List It->Nat->Nat->Bool
 |[],m,k=>kM.all (λa=>m.testBit a.i)&&Nat.beq k ws.length
 | a::l,m,k=>!m.testBit a.i&&(kM.all (λx=>!a.b.testBit x.i ||m.testBit x.i)&&(match Nat.beq (cls a.o) 2 with
   |true=>isW ws a k&&xK kM ws l (m |||2 ^ a.i) (Nat.succ k)
   |false=>Na ws a k&&xK kM ws l (m |||2 ^ a.i) k))
structure LF where
 f:Call->Tm->Hp->List Rec->Option (Tm×Hp)
def Jo(n:Nat) (all:List Oper) (ws:List It) (a:It) (d:DF) (c:LF):LF:=⟨λcall t h rs=>oB (qz n all a.o t) λb=>Bool.rec (motive:=λ_=>Option (Tm×Hp)) (c.f call (d.f t .undef) h rs) (oB ((iY a.o).f t h) λv=>c.f call (d.f t v) h ({it:=a,t,v,made:=none,last:=late ws a}::rs)) b⟩
def Hf(n:Nat) (all:List Oper) (ws:List It) (a:It) (d:DF) (c:LF):LF:=⟨λcall t h rs=>oB (qz n all a.o t) λb=>Bool.rec (motive:=λ_=>Option (Tm×Hp)) (c.f call (d.f t .undef) h rs) (oB ((qQ a.o).f t) λr=>c.f call (d.f t (r.2 h.next)) (h.new r.1) ({it:=a,t,v:=r.2 h.next,made:=some (h.next,r.1),last:=late ws a}::rs)) b⟩
def C0(n:Nat) (all:List Oper) (k:Nat) (a:It) (d:DF) (c:LF):LF:=⟨λcall t h rs=>bB (CY k h rs) (oB (qz n all a.o t) λb=>Bool.rec (motive:=λ_=>Option (Tm×Hp)) (c.f call (d.f t .undef) h rs) (oB ((JE a.o).f call t h) λx=>bB (Nat.ble h.next x.2.next) (c.f call (d.f t x.1) x.2 rs)) b)⟩
def yX(n:Nat) (all:List Oper) (ws:List It):List It->Nat->LF
 |[],k=>⟨λ_ t h rs=>bB (CY k h rs) (some (t,h))⟩
 | a ::l,k=>match zL n a.o with
   |none=>⟨λ_ _ _ _=>none⟩
   | some d=>match cls a.o with
     |0=>Jo n all ws a d (yX n all ws l k)
     |1=>Hf n all ws a d (yX n all ws l k)
     |_=>C0 n all k a d (yX n all ws l (Nat.succ k))
def gY(kM:List It):List It:=kM.filter λa=>Nat.beq (cls a.o) 2
def RI:Operand->Bool
 | .global _=>false
 |_=>true
def storeAt(o:Oper):Option Nat:=match o.op with
 | .store _ (.tmp d) x=>match o.guard,o.dst,RI x with
   |none,none,true=>some d
   |_,_,_=>none
 |_=>none
def G4(o:Oper):Bool:=match o.op with
 | .move x| .nilCheck x| .fieldAddr _ x _=>RI x
 | .indexAddr _ x i=>RI x&&RI i
 |_=>false
def M8:List It->Option (It×It)
 |[]=>none
 |[_]=>none
 |[a,b]=>some (a,b)
 |_::b::c::l=>M8 (b::c::l)
def JP:List It->Bool
 | a::b::c::l=>b.b.testBit a.i&&(match l with
   |[]=>c.b.testBit a.i
   |_=>true)&&JP (b::c::l)
 |_=>true
def fixed(kM:List It)(a:It):Bool:=(CU a.o.op.operands.toList).all λd=>kM.all λx=>!(writes x.o [d]) ||a.b.testBit x.i
def Rf(kM:List It) (a b:It):Bool:=kM.all λx=>Nat.beq x.i a.i ||Nat.beq x.i b.i ||(a.b.testBit x.i&&b.b.testBit x.i) || (Nat.beq (cls x.o) 0&&G4 x.o&&x.o.guard.isNone&&!x.b.testBit a.i&&!x.b.testBit b.i)
def K3(kM ws:List It):Option (It×It×Nat×Nat):=match M8 ws with
 | some (a,b)=>match storeAt a.o,storeAt b.o with
   | some da,some db=>match fixed kM a&&fixed kM b&&Rf kM a b&&JP ws with
     |true=>some (a,b,da,db)
     |false=>none
   |_,_=>none
 |none=>none
def Zq:V->V->Bool
 | .ptr l _,.ptr l' _=>!(Nat.beq l l')
 |_,_=>false
def QM(kM:List It):Bool:=rY kM&&kM.all (EP kM)&&kM.all Cv
def OJ(n:Nat) (all:List Oper):SF:=
 match QH (items all 0 []) (gY (items all 0 []))&&xK (items all 0 []) (gY (items all 0 [])) (order (items all 0 []) (gY (items all 0 [])) (gY (items all 0 [])) 0) 0 0 with
 |true=>⟨λcall t h=>(yX n all (gY (items all 0 [])) (order (items all 0 []) (gY (items all 0 [])) (gY (items all 0 [])) 0) 0).f call t h []⟩
 | false=>match K3 (items all 0 []) (gY (items all 0 [])),QM (items all 0 [])&&xK (items all 0 []) (gY (items all 0 [])) (order (items all 0 []) (gY (items all 0 [])) (gY (items all 0 [])) 0) 0 0 with
   |some p,true=>⟨λcall t h=>oB ((yX n all (gY (items all 0 [])) (order (items all 0 []) (gY (items all 0 [])) (gY (items all 0 [])) 0) 0).f call t h []) λr=>
      bB (Zq (ki r.1 p.2.2.1) (ki r.1 p.2.2.2)) (some r)⟩
   |_,_=>zec
inductive X where
 |normal
 |exit (id:Nat)
 |ret
structure CF where
 f:Call->Nat->Tm->Hp->Option (X×Tm×Hp)
def GC(r:Option (X×Tm×Hp)) (k:Tm->Hp->Option (X×Tm×Hp)):Option (X×Tm×Hp):=match r with
 |some (.normal,t,h)=>k t h
 |r=>r
def LG(id:Nat) (r:Option (X×Tm×Hp)):Option (X×Tm×Hp):=match r with
 |some (.exit id',t,h)=>Bool.rec (motive:=λ_=>Option (X×Tm×Hp)) (some (.exit id',t,h)) (some (.normal,t,h)) (Nat.beq id' id)
 |r=>r
def GM(body:Tm->Hp->Option (X×Tm×Hp)) (m:Nat):Tm->Hp->Option (X×Tm×Hp):=Nat.rec (motive:=λ_=>Tm->Hp->Option (X×Tm×Hp)) (λ_ _=>none) (λ_ a t h=>GC (body t h) a) m
def zf9:CF:=⟨λ_ _ _ _=>none⟩
def iK(n:Nat):Code->CF
 | .skip=>⟨λ_ _ t h=>some (.normal,t,h)⟩
 | .seq a b=>⟨λcall m t h=>GC ((iK n a).f call m t h) λt h=>(iK n b).f call m t h⟩
 | .cond c a b=>⟨λcall m t h=>oB ((uf c).f t h) λv=>match v with
   | .bool x=>Bool.rec (motive:=λ_=>Option (X×Tm×Hp)) ((iK n b).f call m t h) ((iK n a).f call m t h) x
   |_=>none⟩
 | .block id c=>⟨λcall m t h=>LG id ((iK n c).f call m t h)⟩
 | .loop c=>⟨λcall m t h=>GM (λt h=>(iK n c).f call m t h) m t h⟩
 | .exit id=>⟨λ_ _ t h=>some (.exit id,t,h)⟩
 | .ret=>⟨λ_ _ t h=>some (.ret,t,h)⟩
 | .region _ ops false=>⟨λcall _ t h=>oB ((uX n ops.toList ops.toList).f call t h) λr=>some (.normal,r.1,r.2)⟩
 | .region _ ops true=>⟨λcall _ t h=>oB ((OJ n ops.toList).f call t h) λr=>some (.normal,r.1,r.2)⟩
 |_=>zf9
inductive Ext where
 |none
 |countByte
 |indexByte
def Om(c:Nat):List UInt8->Nat->Nat
 |[],n=>n
 |b::l,n=>Om c l (Bool.rec (motive:=λ_=>Nat) n (Nat.succ n) (Nat.beq b.toNat c))
def RJ(c:Nat):List UInt8->Nat->Option Nat
 |[],_=>none
 |b::l,n=>Bool.rec (motive:=λ_=>Option Nat) (RJ c l (Nat.succ n)) (some n) (Nat.beq b.toNat c)
def Uh:Ext->List V->Option V
 | .countByte,[.str s,.int .u8 (.ofNat c)]=>bB (Nat.blt c 256) (some (.int .i64 (.ofNat (Om c s 0))))
 | .indexByte,[.str s,.int .u8 (.ofNat c)]=>bB (Nat.blt c 256) (match RJ c s 0 with
   |some i=>some (.int .i64 (.ofNat i))
   |none=>some (.int .i64 (-1)))
 |_,_=>none
def Xv:ResultVar->PF
 | .tmp i=>⟨λt _=>some (ki t i)⟩
 | .cell a ty=>Mh ty ⟨λt _=>some (ki t a)⟩
def BB(t:Tm) (h:Hp):List ResultVar->Option (List V)
 |[]=>some []
 |r::rs=>oB ((Xv r).f t h) λv=>oB (BB t h rs) λvs=>some (v::vs)
def AG(vs:List V):V:=match vs with
 |[v]=>v
 |vs=> .tuple vs
structure FF where
 f:Call->Nat->List V->Hp->Option (V×Hp)
structure fk where
 start:List V->Tm
 ext:Nat->Ext
 K:Nat->List V->Hp->Option V
def V.flat:V->Bool
 | .bool _| .int _ _| .str _| .nilPtr| .ee| .mJ| .nilFunc| .nilIface=>true
 |_=>false
def TG(l:List V):Bool:=l.all V.flat
def orB{α β:Type}(x:Option α)(k:α->Option β)(e:Option β):Option β:=Option.rec (motive:=λ_=>Option β) e k x
def Wv(c:Code):Option (Nat×Code):=match c with
 | .seq (.region _ ops false) rest=>match ops.toList with
   | [o]=>match o.op with
     | .call a=>match a.callee,o.guard,o.dst with
       | .builtin .recover,none,some d=>some (d,rest)
       |_,_,_=>none
     |_=>none
   |_=>none
 |_=>none
def zae(fn:Func) (r:X×Tm×Hp):Option (V×Hp):=match r.1 with
 | .exit _=>none
 | _=>match r.2.1.ds with
   |[]=>oB (BB r.2.1 r.2.2 fn.results.toList) λvs=>some (AG vs,r.2.2)
   |_::_=>none
def L5(C:fk) (f:Nat):FF:=match P0.funcs[f]? with
 | some fn=>match fn.body with
   | some c=>match Wv c with
     |some (d,rest)=>⟨λcall m args h=>bB (Nat.ble args.length fn.ntmps) (bB (Nat.blt d fn.ntmps) (oB ((iK fn.ntmps rest).f call m ((C.start args).set d .nilIface) h) λr=>zae fn r))⟩
     |none=>⟨λcall m args h=>bB (Nat.ble args.length fn.ntmps) (oB ((iK fn.ntmps c).f call m (C.start args) h) λr=>zae fn r)⟩
   |none=>⟨λ_ _ _ _=>none⟩
 |none=>⟨λ_ _ _ _=>none⟩
def Pe(C:fk) (call:Call) (m:Nat):List (Nat×List V)->Hp->Option Hp
 |[],h=>some h
 |x::l,h=>oB ((L5 C x.1).f call m x.2 h) λr=>Pe C call m l r.2
def FY(C:fk) (f:Nat):FF:=match P0.funcs[f]? with
 | some fn=>match fn.body with
   | some c=>⟨λcall m args h=>orB (C.K f args h) (λv=>bB (TG args&&v.flat) (some (v,h))) (bB (Nat.ble args.length fn.ntmps) (oB ((iK fn.ntmps c).f call m (C.start args) h) λr=>match r.1 with
     | .exit _=>none
     |_=>oB (Pe C call m r.2.1.ds r.2.2) λh=>oB (BB r.2.1 h fn.results.toList) λvs=>some (AG vs,h)))⟩
   |none=>⟨λ_ _ args h=>oB (Uh (C.ext f) args) λv=>some (v,h)⟩
 |none=>⟨λ_ _ _ _=>none⟩
def kU(C:fk) (m:Nat) (d:Nat):Call:=Nat.rec (motive:=λ_=>Call) (λ_ _ _=>none) (λ_ call f args h=>(FY C f).f call m args h) d
end ops
theorem ft{α β:Type} {x:Option α} {k:α->Option β} {y:β}:oB x k=some y↔∃v,x=some v/\k v=some y:=by
 cases x with
 |none=>grind[oB]
 |some v=>exact⟨λh=>⟨v,rfl,h⟩,λ⟨_,h,h'⟩=>by grind[oB]⟩
theorem hK{β:Type} {c:Bool} {k:Option β} {y:β}:bB c k=some y↔c=true/\k=some y:=by
 cases c with
 |false=>grind[bB]
 |true=>exact⟨λh=>⟨rfl,h⟩,λ⟨_,h⟩=>h⟩
theorem yf{β:Type} {v:V} {k:Nat->Nat->Option β} {y:β}:Ae v k=some y↔∃l o,v = .ptr l o/\k l o=some y:=by
 constructor
 ·intro h;unfold Ae at h
  grind
 ·rintro⟨l,o,rfl,h⟩;exact h
theorem Kh{β:Type} {v:V} {k:Nat->Option β} {y:β}:asNat v k=some y↔∃kd n,v = .int kd (.ofNat n)/\k n=some y:=by
 constructor
 ·intro h;unfold asNat at h;split at h
  ·grind
  ·cases h
 ·rintro⟨kd,n,rfl,h⟩;exact h
theorem lW{β:Type} {h:Hp} {l:Nat} {k:Nat->Nat->Bool->Bool->List V->Option β} {y:β} :
  kI h l k=some y↔∃e sz live ro cs,h.get l=some (.cells e sz live ro cs)/\k e sz live ro cs=some y:=by
 grind[kI,ft]
theorem AW{β:Type} {h:Hp} {l:Nat} {k:List (V×V×Nat)->Nat->Option β} {y:β} :
  Gc h l k=some y↔∃a c,h.get l=some (.map a c)/\k a c=some y:=by
 grind[Gc,ft]
theorem VK{β:Type}(c:Bool)(x y:β):Bool.rec (motive:=λ_=>β) x y c=if c=true then y else x:=by cases c <;> rfl
theorem zaq{n:Nat} {cs l:List V} (h:takeN n cs=some l):l.length=n/\∀i,i<n->l[i]? =cs[i]?:=by
 induction n generalizing cs l with
 |zero=>simp[takeN]at h;simp_all
 | succ n a=>
   cases cs <;> grind[takeN,ft]
theorem sub_eq{cs l:List V} {off n:Nat} (h:sub cs off n=some l):l.length=n/\∀i,i<n->l[i]? =cs[off+i]?:=by
 grind[zaq,sub]
theorem OL{cs:List V} {off:Nat} {v:V} (h:FU cs off=some v):cs[off]? =some v:=by
 grind[FU,List.head?_drop]
theorem zbE{new cs l:List V} (h:over new cs=some l):l.length=cs.length/\new.length<=cs.length/\∀i,l[i]? =if i<new.length then new[i]? else cs[i]?:=by
 induction new generalizing cs l with
 |nil=>simp[over]at h;simp_all
 | cons n ns a=>
   cases cs <;> grind[over,ft]
theorem Lo{k:Nat} {cs new l:List V} (h:qw k cs new=some l):l.length=cs.length/\k+new.length<=cs.length/\
  ∀i,l[i]? =if k<=i/\i<k+new.length then new[i-k]? else cs[i]?:=by
 induction k generalizing cs l with
 | zero=>
   grind[zbE,qw]
 | succ k a=>
   cases cs with
   |nil=>grind[qw]
   | cons c cs=>
     simp only[qw,ft]at h
     grind
theorem Xa{l:List V} (h:gv l=true):∀v∈l,v.one=true:=by
 induction l <;> grind[gv,VK]
structure D where
 b:Nat
 base:Nat
 sz:Nat
 n:Nat
 XG:Nat
 ro:Bool
 kind:Nat
abbrev Env:=Nat->Option D
def Env.le(Δ a:Env):Prop:=∀l d,Δ l=some d->a l=some d
theorem Env.le_refl(Δ:Env):Δ.le Δ:=λ_ _ h=>h
theorem Env.le_trans{Δ b a:Env}(h:Δ.le b)(h':b.le a):Δ.le a:=λl d c=>h' l d (h l d c)
mutual
inductive fO (Δ:Env):V->Value->Prop
 |bool (b:Bool):fO Δ (.bool b) (.bool b)
 |int (k:IntKind) (n:Int):fO Δ (.int k n) (.int k n)
 |str (s:ByteArray):fO Δ (.str s.data.toList) (.string s)
 |nilPtr:fO Δ .nilPtr (.pointer none)
 |ptr (l off:Nat) (d:D) (h:Δ l=some d):fO Δ (.ptr l off) (.pointer (some ⟨d.b,d.base+off,none⟩))
 |ee:fO Δ .ee (.slice none 0 0)
 | slice (l off len cap o:Nat) (d:D) (h:Δ l=some d) (hk:d.kind=0) (i:len<=cap)
   (j:(o=d.base+off/\d.n<=off+cap*d.sz/\d.base+off+cap*d.sz<=d.XG)\/(cap=0/\d.n<=off)) :
   fO Δ (.slice l off len) (.slice (some ⟨d.b,o,none⟩) len cap)
 |mJ:fO Δ .mJ (.map none)
 |map (l:Nat) (d:D) (h:Δ l=some d):fO Δ (.map l) (.map (some d.b))
 |nilFunc:fO Δ .nilFunc .nilFunc
 |func (f:Nat) (a c:List V) (a' c':Array Value) (m:gN Δ a a'.toList) (hc:gN Δ c c'.toList):fO Δ (.func f a c) (.func (.func f) a' c')
 |nilIface:fO Δ .nilIface .nilIface
 |iface (t:Nat) (v:V) (e:Value) (h:fO Δ v e):fO Δ (.iface t v) (.iface t e)
 |agg (cs:List V) (qj:Array Value) (h:gN Δ cs qj.toList):fO Δ (.agg cs) (.agg qj)
 |tuple (cs:List V) (qj:Array Value) (h:gN Δ cs qj.toList):fO Δ (.tuple cs) (.tuple qj)
inductive gN (Δ:Env):List V->List Value->Prop
 |nil:gN Δ [] []
 |cons (v:V) (e:Value) (vs:List V) (g:List Value) (h:fO Δ v e) (hs:gN Δ vs g):gN Δ (v::vs) (e::g)
end
mutual
theorem fO.mono {Δ i:Env} (e:Δ.le i):∀{v:V} {g:Value},fO Δ v g->fO i v g
 |_,_,.bool b=> .bool b
 |_,_,.int k n=> .int k n
 |_,_,.str s=> .str s
 |_,_,.nilPtr=> .nilPtr
 |_,_,.ptr l off d h=> .ptr l off d (e _ _ h)
 |_,_,.ee=> .ee
 |_,_,.slice l off len cap o d h hk hl ho=> .slice l off len cap o d (e _ _ h) hk hl ho
 |_,_,.mJ=> .mJ
 |_,_,.map l d h=> .map l d (e _ _ h)
 |_,_,.nilFunc=> .nilFunc
 |_,_,.func f a c a' c' ha hc=> .func f a c a' c' (gN.mono e ha) (gN.mono e hc)
 |_,_,.nilIface=> .nilIface
 |_,_,.iface t v g h=> .iface t v g (fO.mono e h)
 |_,_,.agg cs qj h=> .agg cs qj (gN.mono e h)
 |_,_,.tuple cs qj h=> .tuple cs qj (gN.mono e h)
theorem gN.mono {Δ i:Env} (e:Δ.le i):∀{v:List V} {g:List Value},gN Δ v g->gN i v g
 |_,_,.nil=> .nil
 |_,_,.cons v g vs vs' h hs=> .cons v g vs vs' (fO.mono e h) (gN.mono e hs)
end
theorem gN.length{Δ:Env} {vs:List V} {a:List Value} (h:gN Δ vs a):vs.length=a.length:=by
 induction vs generalizing a with
 |nil=>cases h;rfl
 |cons v vs b=>cases h <;> grind
theorem gN.get{Δ:Env} {vs:List V} {b:List Value} (h:gN Δ vs b) (i:Nat) (v:V) (hi:vs[i]? =some v):∃c,b[i]? =some c/\fO Δ v c:=by
 induction vs generalizing b i with
 |nil=>simp_all
 | cons a vs d=>
   cases h <;> grind
theorem gN.RL{Δ:Env} {vs:List V} {b:List Value} (g:vs.length=b.length) (h:∀(i:Nat) (v:V),vs[i]? =some v->∃c,b[i]? =some c/\fO Δ v c):gN Δ vs b:=by
 induction vs generalizing b with
 | nil=>cases b with
   |nil=>exact .nil
   |cons _ _=>simp_all
 | cons a vs e=>cases b with
   |nil=>simp_all
   | cons a' b=>
     obtain⟨x,d,f⟩:=h 0 a rfl;simp at d;subst d;exact .cons _ _ _ _ f (e (by simp_all) λi v hi=>by simpa using h (i+1) v (by simp_all))
theorem gN.append{Δ:Env} {a b:List V} {a' b':List Value} (h:gN Δ a a') (h':gN Δ b b'):gN Δ (a++b) (a'++b'):=by
 induction a generalizing a' with
 |nil=>cases h;exact h'
 |cons x a c=>cases h with|cons _ _ _ _ hx hs=>exact .cons _ _ _ _ hx (c hs)
theorem gN.one{Δ:Env}{v:V}{a:Value}(h:fO Δ v a):gN Δ [v] [a]:= .cons _ _ _ _ h .nil
theorem fO.undef(Δ:Env):fO Δ V.undef undef:= .tuple [] #[] .nil
theorem fO.cells{Δ:Env} {v:V} {e:Value} (h:fO Δ v e):gN Δ v.cells e.cells.toList:=by
 cases h with
 |agg cs qj h=>exact h
 |bool b=>exact .one (.bool b)
 |int k n=>exact .one (.int k n)
 |str s=>exact .one (.str s)
 |nilPtr=>exact .one .nilPtr
 |ptr l off d h=>exact .one (.ptr l off d h)
 |ee=>exact .one .ee
 |slice l off len cap o d h hk g i=>exact .one (.slice l off len cap o d h hk g i)
 |mJ=>exact .one .mJ
 |map l d h=>exact .one (.map l d h)
 |nilFunc=>exact .one .nilFunc
 |func f a c a' c' j hc=>exact .one (.func f a c a' c' j hc)
 |nilIface=>exact .one .nilIface
 |iface t v e h=>exact .one (.iface t v e h)
 |tuple cs qj h=>exact .one (.tuple cs qj h)
theorem fO.Xe{Δ:Env} {v:V} {a:Value} (h:fO Δ v a) (b:v.one=true):a.oneCell' = true:=by
 cases h <;> first|rfl|grind[V.one]
theorem gN.zeN{Δ:Env} {vs:List V} {a:List Value} (h:gN Δ vs a) (e:gv vs=true):∀x∈a,x.oneCell' = true:=by
 intro x b;obtain⟨i,hi,rfl⟩:=List.mem_iff_getElem.1 b;have c:i<vs.length:=by rw[h.length];exact hi
 obtain⟨x,b,d⟩:=h.get i vs[i] (by simp_all);rw[hO hi]at b;cases b;exact d.Xe (by grind[Xa,AU])
mutual
theorem Ig (Δ:Env):∀(n:Nat) (v:Value) (x:V),nP n v=some x->fO Δ x v
 |_,.bool b,x,h=>by simp[nP]at h;subst h;exact .bool b
 |_,.int k n,x,h=>by simp[nP]at h;subst h;exact .int k n
 |_,.string s,x,h=>by simp[nP]at h;subst h;exact .str s
 |_,.pointer none,x,h=>by simp[nP]at h;subst h;exact .nilPtr
 |_,.pointer (some _),x,h=>by grind[nP]
 |_,.slice none 0 0,x,h=>by simp[nP]at h;subst h;exact .ee
 |_,.slice none 0 (_+1),x,h=>by grind[nP]
 |_,.slice none (_+1) _,x,h=>by grind[nP]
 |_,.slice (some _) _ _,x,h=>by grind[nP]
 |_,.map none,x,h=>by simp[nP]at h;subst h;exact .mJ
 |_,.map (some _),x,h=>by grind[nP]
 |_,.nilFunc,x,h=>by simp[nP]at h;subst h;exact .nilFunc
 |_,.nilIface,x,h=>by simp[nP]at h;subst h;exact .nilIface
 |0,.iface _ _,x,h=>by simp_all[nP]
 |0,.agg _,x,h=>by simp_all[nP]
 |0,.tuple _,x,h=>by simp_all[nP]
 | n+1,.iface t v,x,h=>by
   simp only[nP]at h;split at h
   ·rename_i y a;cases h;exact .iface t _ _ (Ig Δ n v _ a)
   ·cases h
 | n+1,.agg cs,x,h=>by
   simp only[nP]at h;split at h
   ·rename_i y a;cases h;exact .agg _ _ (Jw Δ n _ _ a)
   ·cases h
 | n+1,.tuple cs,x,h=>by
   simp only[nP]at h;split at h
   ·rename_i y a;cases h;exact .tuple _ _ (Jw Δ n _ _ a)
   ·cases h
 |_,.float _ _,x,h=>by grind[nP]
 |_,.complex _ _ _,x,h=>by grind[nP]
 |_,.chan _,x,h=>by grind[nP]
 |_,.func _ _ _,x,h=>by grind[nP]
theorem Jw (Δ:Env):∀(n:Nat) (v:List Value) (x:List V),v.mapM (nP n)=some x->gN Δ x v
 |_,[],x,h=>by simp at h;subst h;exact .nil
 | n,v::vs,x,h=>by
   simp only[List.mapM_cons,Option.bind_eq_bind,wBx,Option.pure_def,Option.some.injEq]at h;obtain⟨y,a,ys,c,rfl⟩:=h;exact .cons _ _ _ _ (Ig Δ n v y a) (Jw Δ n vs ys c)
end
@[match_pattern] abbrev _root_.Go.Proofs.YtbdcpiokodljaaaGreatDoor.Hx.V.I (n:Int):Go.Proofs.YtbdcpiokodljaaaGreatDoor.Hx.V:=.int .i64 n
