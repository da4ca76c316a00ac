/- Parts of the proof. -/
import Derived.Test.YtiepamfpilhcjaaDoorM08
import Derived.KernelRfl
namespace Go.Proofs.YtiepamfpilhcjaaDoor.Hx
def _root_.Go.Code.l:Code→Code
 | .seq a _=>a
 | .cond _ a _=>a
 | .block _ c=>c
 | .loop c=>c
 | _=> .skip
def _root_.Go.Code.r:Code→Code
 | .seq _ b=>b
 | .cond _ _ b=>b
 | _=> .skip
def bodyOf (fn:Func):Code:=match fn.body with
 | some c=>c
 | none=> .skip
noncomputable section
def pLd (a:V) (h:Hp):Option V:=asPtr a fun l off=>ld1 h l off
def pLdA (n:Nat) (a:V) (h:Hp):Option V:=asPtr a fun l off=>oB (ldAt h l off n) fun cs=>some (.agg cs)
def pFA (k:Nat) (x:V):Option V:=asPtr x fun l off=>some (.ptr l (Nat.add off k))
def pIx (n:Nat) (x i:V):Option V:=asNat i fun i=>match x with
 | .slice l off len=>bB (Nat.blt i len) (some (.ptr l (Nat.add off (Nat.mul i n))))
 | _=>none
def pFld (k:Nat) (x:V):Option V:=match x with
 | .agg cs=>at1 cs k
 | _=>none
def pPick (c a b:V):Option V:=match c with
 | .bool x=>Bool.rec (motive:=fun _=>Option V) (some b) (some a) x
 | _=>none
def pNil (x:V):Option V:=match x with
 | .ptr l off=>some (.ptr l off)
 | .func f a c=>some (.func f a c)
 | .iface u v=>some (.iface u v)
 | _=>none
def pConv (k:IntKind) (x:V):Option V:=match x with
 | .int _ n=>some (.int k (wrapF k n))
 | _=>none
def pBuild (z:List V) (places:List (Nat×Nat)) (ps:List (Nat×V)):Option V:=oB (fillV (fun i=>places[i]?) z ps) fun cs=>some (.agg cs)
def pExt (i:Nat) (x:V):Option V:=match x with
 | .tuple vs=>at1 vs i
 | _=>none
def pLenS (x:V):Option V:=match x with
 | .str s=>some (.int .i64 (.ofNat s.length))
 | _=>none
def pLen (x:V):Option V:=match x with
 | .slice _ _ n=>some (.int .i64 (.ofNat n))
 | .nilSlice=>some (.int .i64 (.ofNat 0))
 | _=>none
def pLook (kt:Nat) (d:Option (List Field)) (z:V) (ok:Bool) (m k:V) (h:Hp):Option V:=bB (keyHas d k) (match m with
 | .nilMap=>some (found z ok none)
 | .map l=>mapAt h l fun es _=>oB (findV kt d k es 0) fun r=>some (found z ok r)
 | _=>none)
def pBS (elem size len:Nat) (z:V) (ps:List (Nat×V)):Option (O×(Nat→V)):=
 oB (fillV (fun i=>some (Nat.mul i size,size)) (repl len z.cells) ps) fun cs=>bB (allOne cs) (some (.cells elem size true false cs,fun l=> .slice l 0 len))
def pSt (n:Nat) (a v:V) (h:Hp):Option R:=asPtr a fun l off=>bB (Nat.beq v.cells.length n) (oB (stAt h l off v.cells) fun h=>some (.val .undef h))
end
noncomputable section
def valP (x:Option R) (K:V→Hp→Prop):Prop:=oP (oB x valOf) fun y=>K y.1 y.2
def calP (C:Cfg) (x:Option R) (h:Hp) (K:V→Hp→Prop):Prop:=oP (oB x callOf) fun y=>cP C y.1 y.2 h K
def dcP (C:Cfg) (f:Nat) (l:List V) (h:Hp) (K:V→Hp→Prop):Prop:=oP (some (f,l)) fun y=>cP C y.1 y.2 h K
def alP (x:Option (O×(Nat→V))) (h:Hp) (K:V→Hp→Prop):Prop:=oP x fun r=>K (r.2 h.next) (h.new r.1)
def alO (x:Option (O×(Nat→V))) (h:Hp) (K:O→V→Hp→Prop):Prop:=oP x fun r=>K r.1 (r.2 h.next) (h.new r.1)
def ghP (b:Bool) (h:Hp) (x:Option (V×Hp)) (K:V→Hp→Prop):Prop:=oP (gH b h x) fun y=>K y.1 y.2
def gT (b:Bool) (p:Prop):Prop:=Bool.rec (motive:=fun _=>Prop) True p b
def pGd (w:Bool) (x:V):Option Bool:=match x with
 | .bool b=>some (Bool.rec (motive:=fun _=>Bool) (!w) w b)
 | .tuple []=>some false
 | _=>none
end
theorem rset_self (f:Nat→V) (d:Nat) (v:V):rset f d v d=v:=by
 unfold rset;rw [Nat.beq_refl]
theorem rset_ne (f:Nat→V) {d i:Nat} (v:V) (h:i≠d):rset f d v i=f i:=by
 unfold rset
 cases hb:Nat.beq i d with
 | true=>exact absurd (Nat.eq_of_beq_eq_true hb) h
 | false=>rfl
@[simp] theorem oB_some' {α β:Type} (a:α) (k:α→Option β):oB (some a) k=k a:=rfl
@[simp] theorem oB_none' {α β:Type} (k:α→Option β):oB (none:Option α) k=none:=rfl
@[simp] theorem bB_true' {β:Type} (k:Option β):bB true k=k:=rfl
@[simp] theorem bB_false' {β:Type} (k:Option β):bB false k=none:=rfl
theorem bB_of {β:Type} {c:Bool} (k:Option β) (h:c=true):bB c k=k:=by subst h;rfl
@[simp] theorem asPtr_ptr {β:Type} (l o:Nat) (k:Nat→Nat→Option β):asPtr (.ptr l o) k=k l o:=rfl
@[simp] theorem asNat_ofNat {β:Type} (kd:IntKind) (n:Nat) (k:Nat→Option β):asNat (.int kd (.ofNat n)) k=k n:=rfl
@[simp] theorem asNat_cast {β:Type} (kd:IntKind) (n:Nat) (k:Nat→Option β):asNat (.int kd (n:Int)) k=k n:=rfl
@[simp] theorem asNat_lit {β:Type} (kd:IntKind) (n:Nat) (k:Nat→Option β):asNat (.int kd (OfNat.ofNat n:Int)) k=k n:=rfl
@[simp] theorem asNat_zero {β:Type} (kd:IntKind) (k:Nat→Option β):asNat (.int kd 0) k=k 0:=rfl
@[simp] theorem asNat_one {β:Type} (kd:IntKind) (k:Nat→Option β):asNat (.int kd 1) k=k 1:=rfl
@[simp] theorem pFA_ptr (k l o:Nat):pFA k (.ptr l o)=some (.ptr l (o+k)):=rfl
@[simp] theorem pNil_ptr (l o:Nat):pNil (.ptr l o)=some (.ptr l o):=rfl
@[simp] theorem pNil_func (f:Nat) (a c:List V):pNil (.func f a c)=some (.func f a c):=rfl
@[simp] theorem pLen_slice (l o n:Nat):pLen (.slice l o n)=some (.int .i64 n):=rfl
@[simp] theorem pLen_nil:pLen .nilSlice=some (.int .i64 0):=rfl
@[simp] theorem pLenS_str (s:List UInt8):pLenS (.str s)=some (.int .i64 s.length):=rfl
@[simp] theorem pPick_bool (x:Bool) (a b:V):pPick (.bool x) a b=some (if x=true then a else b):=by cases x <;> rfl
@[simp] theorem pConv_int (k k' : IntKind) (n:Int):pConv k (.int k' n)=some (.int k (wrapF k n)):=rfl
@[simp] theorem pExt_tuple (i:Nat) (vs:List V):pExt i (.tuple vs)=at1 vs i:=rfl
@[simp] theorem pFld_agg (k:Nat) (cs:List V):pFld k (.agg cs)=at1 cs k:=rfl
@[simp] theorem alP_some (o:O) (f:Nat→V) (h:Hp) (K:V→Hp→Prop):alP (some (o,f)) h K=K (f h.next) (h.new o):=rfl
@[simp] theorem alO_some (o:O) (f:Nat→V) (h:Hp) (K:O→V→Hp→Prop):alO (some (o,f)) h K=K o (f h.next) (h.new o):=rfl
@[simp] theorem valP_some (v:V) (h:Hp) (K:V→Hp→Prop):valP (some (.val v h)) K=K v h:=rfl
@[simp] theorem calP_some (C:Cfg) (f:Nat) (l:List V) (h:Hp) (K:V→Hp→Prop):calP C (some (.call f l)) h K=cP C f l h K:=rfl
@[simp] theorem dcP_eq (C:Cfg) (f:Nat) (l:List V) (h:Hp) (K:V→Hp→Prop):dcP C f l h K=cP C f l h K:=rfl
@[simp] theorem hcall_func (f:Nat) (a c l:List V):hcall (.func f a c) l=some (.call f (a++(l++c))):=rfl
@[simp] theorem pGd_bool (w b:Bool):pGd w (.bool b)=some (b == w):=by cases w <;> cases b <;> rfl
@[simp] theorem gV_true (x:Option V):gV true x=x:=rfl
@[simp] theorem gV_false (x:Option V):gV false x=some .undef:=rfl
@[simp] theorem gC_true (x:Option (Nat×List V)):gC true x=oB x fun y=>some (some y):=rfl
@[simp] theorem gC_false (x:Option (Nat×List V)):gC false x=some none:=rfl
@[simp] theorem gT_true (p:Prop):gT true p=p:=rfl
@[simp] theorem gT_false (p:Prop):gT false p=True:=rfl
@[simp] theorem cgP_some (C:Cfg) (y:Nat×List V) (h:Hp) (K:V→Hp→Prop):cgP C (some y) h K=cP C y.1 y.2 h K:=rfl
@[simp] theorem cgP_none (C:Cfg) (h:Hp) (K:V→Hp→Prop):cgP C none h K=K .undef h:=rfl
theorem pIx_slice (n l o len i:Nat) (kd:IntKind) (h:i<len):pIx n (.slice l o len) (.int kd i)=some (.ptr l (o+i * n)):=by
 show bB (Nat.blt i len) _=_
 rw [bB_of _ (by rw [Nat.blt_eq];exact h)]
 rfl
theorem pLd_ptr {l o e sz:Nat} {ro:Bool} {cs:List V} {h:Hp} (hg:h.get l=some (.cells e sz true ro cs)):pLd (.ptr l o) h=at1 cs o:=by
 unfold pLd ld1 cellsAt
 simp only [asPtr_ptr,hg,oB_some',bB_true']
theorem pLdA_ptr {n l o e sz:Nat} {ro:Bool} {cs:List V} {h:Hp} (hg:h.get l=some (.cells e sz true ro cs)):pLdA n (.ptr l o) h=oB (sub cs o n) fun cs=>some (.agg cs):=by
 unfold pLdA ldAt cellsAt
 simp only [asPtr_ptr,hg,oB_some',bB_true']
@[simp] theorem at1_zero (v:V) (l:List V):at1 (v::l) 0=some v:=rfl
@[simp] theorem at1_succ (v:V) (l:List V) (n:Nat):at1 (v::l) (n+1)=at1 l n:=rfl
theorem at1_get (l:List V) (n:Nat):at1 l n=l[n]?:=by unfold at1;rw [List.head?_drop]
@[simp] theorem takeN_zero (l:List V):takeN 0 l=some []:=by cases l <;> rfl
@[simp] theorem takeN_succ (n:Nat) (v:V) (l:List V):takeN (n+1) (v::l)=oB (takeN n l) fun r=>some (v::r):=rfl
theorem takeN_of:∀(n:Nat) (l:List V),n≤l.length→takeN n l=some (l.take n)
 | 0,l,_=>by cases l <;> rfl
 | n+1,[],h=>by simp at h
 | n+1,v::l,h=>by simp only [takeN,takeN_of n l (by simpa using h),oB_some',List.take_succ_cons]
theorem sub_of {l:List V} {o n:Nat} (h:o+n≤l.length):sub l o n=some ((l.drop o).take n):=by
 unfold sub
 exact takeN_of _ _ (by simp;omega)
@[simp] theorem oP_some' {α:Type} (a:α) (k:α→Prop):oP (some a) k=k a:=rfl
@[simp] theorem bP_bool' (x:Bool) (a b:Prop):bP (.bool x) a b=if x=true then a else b:=bP_bool x a b
@[simp] theorem valOf_val (v:V) (h:Hp):valOf (.val v h)=some (v,h):=rfl
@[simp] theorem callOf_call (f:Nat) (l:List V):callOf (.call f l)=some (f,l):=rfl
end Go.Proofs.YtiepamfpilhcjaaDoor.Hx
namespace Go.Proofs.YtiepamfpilhcjaaDoor.Hx
section
variable {C:Cfg} {n:Nat} {Q:X→Rho→Hp→Prop} {ρ:Rho} {h:Hp}
theorem Wp.of {c:Code} {P:Prop} (e:codeR C n c Q ρ h=P) (hp:P):Wp C n c Q ρ h:=Wp.code c (e.mpr hp)
theorem oSm {α:Type} {a:α} {k:α→Prop} (h:k a):oP (some a) k:=h
theorem oM {α:Type} {x:Option α} {k k' : α→Prop} (h:oP x k) (f:∀a,x=some a→k a→k' a):oP x k':=by
 obtain ⟨a,h1,h2⟩:=oP_eq.1 h
 exact oP_mk h1 (f a h1 h2)
theorem bM {v:V} {a b a' b' : Prop} (h:bP v a b) (f:a→a') (g:b→b'):bP v a' b':=by
 unfold bP at h ⊢
 split at h
 ·rename_i x
  cases x with
  | true=>exact f h
  | false=>exact g h
 ·exact h.elim
theorem dcM {f:Nat} {l:List V} {k k' : V→Hp→Prop} (h' : cP C f l h k) (F:∀v h',k v h'→k' v h'):dcP C f l h k':=by
 show cP C f l h k'
 exact h'.mono F
theorem cgM {x:Option (Nat×List V)} {k k' : V→Hp→Prop} (h' : cgP C x h k) (F:∀v h',k v h'→k' v h'):cgP C x h k':=by
 cases x with
 | none=>exact F _ _ h'
 | some y=>exact cP.mono h' F
theorem alM {x:Option (O×(Nat→V))} {k k' : V→Hp→Prop} (h' : alP x h k) (F:∀v h',k v h'→k' v h'):alP x h k':=
 oM h' fun _ _ H=>F _ _ H
theorem valM {x:Option R} {k k' : V→Hp→Prop} (h' : valP x k) (F:∀v h',k v h'→k' v h'):valP x k':=
 oM h' fun _ _ H=>F _ _ H
end
theorem anM {a b c:Prop} (h:c∧a) (f:a→b):c∧b:=⟨h.1,f h.2⟩
@[simp] theorem O.beq_cells (e sz:Nat) (a r:Bool) (cs:List V):O.beq (.cells e sz a r cs) (.cells e sz a r cs)=true:=by
 simp [O.beq,V.beqs_self]
@[simp] theorem O.beq_map (c:Nat):O.beq (.map [] c) (.map [] c)=true:=by simp [O.beq]
def pOr (c:V) (X:Option V):Option V:=match c with
 | .bool true=>some (.bool true)
 | .bool false=>X
 | _=>none
def pAnd (c:V) (X:Option V):Option V:=match c with
 | .bool false=>some (.bool false)
 | .bool true=>X
 | _=>none
@[simp] theorem pOr_true (X:Option V):pOr (.bool true) X=some (.bool true):=rfl
@[simp] theorem pOr_false (X:Option V):pOr (.bool false) X=X:=rfl
@[simp] theorem pAnd_true (X:Option V):pAnd (.bool true) X=X:=rfl
@[simp] theorem pAnd_false (X:Option V):pAnd (.bool false) X=some (.bool false):=rfl
@[simp] theorem pOr_bool (c d:Bool):pOr (.bool c) (some (.bool d))=some (.bool (c || d)):=by cases c <;> rfl
@[simp] theorem pAnd_bool (c d:Bool):pAnd (.bool c) (some (.bool d))=some (.bool (c&&d)):=by cases c <;> rfl
theorem thn {A B:Prop} (a:A) (f:A→B):B:=f a
section
variable {c c' Xc:V} {X X' : Option V} {K:V→Prop} {f:V→Option V} {w b0:Bool}
theorem or_open (H:oP (pOr c X) K):oP (pGd false c) fun b=>oP (gV b X) fun v=>oP (pPick c (.bool true) v) K:=by
 unfold pOr at H
 split at H
 ·exact H
 ·exact H
 ·exact H.elim
theorem and_open (H:oP (pAnd c X) K):oP (pGd true c) fun b=>oP (gV b X) fun v=>oP (pPick c v (.bool false)) K:=by
 unfold pAnd at H
 split at H
 ·exact H
 ·exact H
 ·exact H.elim
theorem sG1 {R:Bool→V→Prop} (H:oP (pGd w c) fun b=>oP (gV b (oB X f)) K) (F:∀b,pGd w c=some b→∀v,gV b X=some v→(oP (pGd w c) fun b=>oP (gV b (f v)) K)→R b v):oP (pGd w c) fun b=>oP (gV b X) fun v=>R b v:=by
 obtain ⟨b,h1,h2⟩:=oP_eq.1 H
 refine oP_mk h1 ?_
 cases b with
 | true =>
   obtain ⟨v, h3, h4⟩ := oP_eq.1 h2
   obtain ⟨x, h5, h6⟩ := oB_eq.1 (show oB X f = some v from h3)
   exact oP_mk (show gV true X = some x from h5) (F true h1 x h5 (oP_mk h1 (oP_mk (show gV true (f x) = some v from h6) h4)))
 | false=>exact F false h1 .undef rfl (oP_mk h1 h2)
theorem gT_of {b:Bool} {v:V} (E:gV b X=some v):gT b (X=some v):=by
 cases b with
 | true=>exact E
 | false=>trivial
end
end Go.Proofs.YtiepamfpilhcjaaDoor.Hx
namespace Go.Proofs.YtiepamfpilhcjaaDoor.Hx
structure Chg (S:Nat→Prop) (h h' : Hp):Prop where
 next:h.next≤h'.next
 keep:∀l,l<h.next→¬S l→h'.get l=h.get l
abbrev Grows (h h' : Hp):Prop:=Chg (fun _=>False) h h'
theorem Chg.refl (S:Nat→Prop) (h:Hp):Chg S h h:=⟨Nat.le_refl _,fun _ _ _=>rfl⟩
theorem Chg.trans' {S S' : Nat→Prop} {h h' h'' : Hp} (a:Chg S h h') (b:Chg S' h' h'') (hs:∀l,l<h.next→S' l→S l):Chg S h h'':=
 ⟨Nat.le_trans a.next b.next,fun l hl hn=>by rw [b.keep l (Nat.lt_of_lt_of_le hl a.next) (fun h=>hn (hs l hl h)),a.keep l hl hn]⟩
theorem Chg.trans {S:Nat→Prop} {h h' h'' : Hp} (a:Chg S h h') (b:Chg S h' h''):Chg S h h'':=a.trans' b fun _ _ h=>h
theorem Chg.weak {S S' : Nat→Prop} {h h' : Hp} (a:Chg S h h') (hs:∀l,l<h.next→S l→S' l):Chg S' h h':=
 ⟨a.next,fun l hl hn=>a.keep l hl fun h=>hn (hs l hl h)⟩
theorem Grows.weak {S:Nat→Prop} {h h' : Hp} (a:Grows h h'):Chg S h h':=Chg.weak a fun _ _ h=>h.elim
theorem Chg.new {S:Nat→Prop} (h:Hp) (o:O):Chg S h (h.new o):=
 ⟨Nat.le_succ _,fun l hl _=>by rw [get_new,if_neg (by omega)]⟩
theorem Chg.put {S:Nat→Prop} {h:Hp} {l:Nat} (o:O) (hs:S l) (hl:l<h.next):Chg S h (h.put l o):=
 ⟨Nat.le_refl _,fun m _ hn=>by rw [get_put _ _ hl,if_neg (fun e=>hn (by rw [←e];exact hs))]⟩
theorem get_new_self (h:Hp) (o:O):(h.new o).get h.next=some o:=by rw [get_new,if_pos rfl]
theorem get_new_lt {h:Hp} (o:O) {l:Nat} (hl:l<h.next):(h.new o).get l=h.get l:=by rw [get_new,if_neg (by omega)]
theorem get_put_self {h:Hp} {l:Nat} (o:O) (hl:l<h.next):(h.put l o).get l=some o:=by rw [get_put _ _ hl,if_pos rfl]
theorem get_put_ne {h:Hp} {l m:Nat} (o:O) (hl:l<h.next) (hm:l≠m):(h.put l o).get m=h.get m:=by rw [get_put _ _ hl,if_neg hm]
@[simp] theorem next_new (h:Hp) (o:O):(h.new o).next=h.next+1:=rfl
@[simp] theorem next_put (h:Hp) (l:Nat) (o:O):(h.put l o).next=h.next:=rfl
structure Enc (α:Type) where
 sz:Nat
 rel:(Nat→Prop)→Hp→α→List V→Prop
 len:∀{b h x cs},rel b h x cs→cs.length=sz
 one:∀{b h x cs},rel b h x cs→allOne cs=true
 keep:∀{b h h' x cs},(∀l,b l→h'.get l=h.get l)→rel b h x cs→rel b h' x cs
 mono:∀{b b' h x cs},(∀l,b l→b' l)→rel b h x cs→rel b' h x cs
def lo (b:Nat):Nat→Prop:=fun l=>l<b
theorem lo_mono {b b' : Nat} (h:b≤b'):∀l,lo b l→lo b' l:=fun _ hl=>Nat.lt_of_lt_of_le hl h
theorem allOne_append:∀(a b:List V),allOne (a++b)=(allOne a&&allOne b)
 | [],b=>by simp [allOne]
 | v :: a, b => by
   simp only [List.cons_append, allOne, allOne_append a b]
   cases v.one <;> simp
@[simp] theorem allOne_nil:allOne []=true:=rfl
@[simp] theorem allOne_cons (v:V) (l:List V):allOne (v::l)=(v.one&&allOne l):=by
 simp only [allOne];cases v.one <;> rfl
def inK:IntKind→Int→Prop
 | .i8,n=>-128≤n∧n≤127
 | .i16,n=>-32768≤n∧n≤32767
 | .i32,n=>-2147483648≤n∧n≤2147483647
 | .i64,n=>-9223372036854775808≤n∧n≤9223372036854775807
 | .u8,n=>0≤n∧n≤255
 | .u16,n=>0≤n∧n≤65535
 | .u32,n=>0≤n∧n≤4294967295
 | .u64,n=>0≤n∧n≤18446744073709551615
def eI (k:IntKind):Enc Int where
 sz:=1
 rel _ _ n cs:=cs=[.int k n]∧inK k n
 len h:=by rw [h.1];rfl
 one h:=by rw [h.1];rfl
 keep _ h:=h
 mono _ h:=h
def eB:Enc Bool where
 sz:=1
 rel _ _ n cs:=cs=[.bool n]
 len h:=by subst h;rfl
 one h:=by subst h;rfl
 keep _ h:=h
 mono _ h:=h
def eS:Enc (List UInt8) where
 sz:=1
 rel _ _ n cs:=cs=[.str n]
 len h:=by subst h;rfl
 one h:=by subst h;rfl
 keep _ h:=h
 mono _ h:=h
def eP {α β:Type} (e:Enc α) (f:Enc β):Enc (α×β) where
 sz:=e.sz+f.sz
 rel b h x cs:=∃p q,cs=p++q∧e.rel b h x.1 p∧f.rel b h x.2 q
 len:=fun ⟨_,_,h,h1,h2⟩=>by subst h;simp [e.len h1,f.len h2]
 one:=fun ⟨_,_,h,h1,h2⟩=>by subst h;simp [allOne_append,e.one h1,f.one h2]
 keep:=fun hk ⟨p,q,h,h1,h2⟩=>⟨p,q,h,e.keep hk h1,f.keep hk h2⟩
 mono:=fun hb ⟨p,q,h,h1,h2⟩=>⟨p,q,h,e.mono hb h1,f.mono hb h2⟩
def eM {α β:Type} (g:β→α) (e:Enc α):Enc β where
 sz:=e.sz
 rel b h x cs:=e.rel b h (g x) cs
 len h:=e.len h
 one h:=e.one h
 keep hk h:=e.keep hk h
 mono hb h:=e.mono hb h
def Win {α:Type} (e:Enc α) (b:Nat→Prop) (h:Hp):List V→List α→Prop
 | _,[]=>True
 | cs,x::xs=>∃w r,cs=w++r∧e.rel b h x w∧Win e b h r xs
section
variable {α:Type} {e:Enc α} {b:Nat→Prop} {h h' : Hp}
theorem Win.keep (hk:∀l,b l→h'.get l=h.get l):∀{xs:List α} {cs:List V},Win e b h cs xs→Win e b h' cs xs
 | [],_,_=>trivial
 | _::_,_,⟨w,r,h1,h2,h3⟩=>⟨w,r,h1,e.keep hk h2,Win.keep hk h3⟩
theorem Win.mono {b' : Nat→Prop} (hb:∀l,b l→b' l):∀{xs:List α} {cs:List V},Win e b h cs xs→Win e b' h cs xs
 | [],_,_=>trivial
 | _::_,_,⟨w,r,h1,h2,h3⟩=>⟨w,r,h1,e.mono hb h2,Win.mono hb h3⟩
theorem Win.length:∀{xs:List α} {cs:List V},Win e b h cs xs→xs.length * e.sz≤cs.length
 | [],_,_=>by simp
 | _ :: xs, _, ⟨w, r, h1, h2, h3⟩ => by
   have := Win.length h3
   have hl := e.len h2
   subst h1
   simp only [List.length_append, List.length_cons, Nat.add_mul, Nat.one_mul]
   omega
theorem Win.get:∀{xs:List α} {cs:List V},Win e b h cs xs→∀{i:Nat} {x:α},xs[i]? = some x→∃w,(cs.drop (i * e.sz)).take e.sz=w∧i * e.sz+e.sz≤cs.length∧e.rel b h x w
 | [],_,_,i,x,hx=>by simp at hx
 | y :: xs, _, ⟨w, r, h1, h2, h3⟩, i, x, hx => by
   have hl := e.len h2
   subst h1
   cases i with
   | zero =>
     simp at hx; subst hx
     exact ⟨w, by simp [← hl], by simp only [List.length_append]; omega, h2⟩
   | succ i =>
     obtain ⟨w', g1, g2, g3⟩ := Win.get h3 (i := i) (x := x) (by simpa using hx)
     refine ⟨w', ?_, ?_, g3⟩
     · rw [← g1, Nat.add_mul, Nat.one_mul, Nat.add_comm, ← hl, ← List.drop_drop]; simp
     · simp only [List.length_append, Nat.add_mul, Nat.one_mul]; omega
theorem Win.append {ys:List α} : ∀{xs:List α} {cs ds:List V},Win e b h cs xs→cs.length=xs.length * e.sz→Win e b h ds ys→Win e b h (cs++ds) (xs++ys)
 | [], cs, ds, _, hl, h2 => by
   have : cs = [] := by cases cs <;> simp_all
   subst this; exact h2
 | x :: xs, _, ds, ⟨w, r, h1, h2, h3⟩, hl, h4 => by
   subst h1
   have hw := e.len h2
   refine ⟨w, r ++ ds, by simp, h2, Win.append h3 ?_ h4⟩
   simp only [List.length_append, List.length_cons, Nat.add_mul, Nat.one_mul] at hl
   omega
theorem Win.take:∀{xs:List α} {cs:List V},Win e b h cs xs→Win e b h (cs.take (xs.length * e.sz)) xs
 | [],_,_=>trivial
 | _ :: xs, _, ⟨w, r, h1, h2, h3⟩ => by
   have hw := e.len h2
   subst h1
   refine ⟨w, r.take (xs.length * e.sz), ?_, h2, Win.take h3⟩
   rw [List.take_append, List.take_of_length_le (by simp only [List.length_cons, Nat.add_mul, Nat.one_mul]; omega)]
   congr 2
   simp only [List.length_cons, Nat.add_mul, Nat.one_mul]; omega
theorem Win.more {ds:List V} : ∀{xs:List α} {cs:List V},Win e b h cs xs→Win e b h (cs++ds) xs
 | [],_,_=>trivial
 | _::_,_,⟨w,r,h1,h2,h3⟩=>⟨w,r++ds,by rw [h1,List.append_assoc],h2,Win.more h3⟩
theorem Win.set:∀{xs:List α} {cs:List V},Win e b h cs xs→∀{i:Nat} {y:α} {w:List V},i<xs.length→e.rel b h y w→Win e b h (cs.take (i * e.sz)++w++cs.drop (i * e.sz+e.sz)) (xs.set i y)
 | [],_,_,i,y,w,hi,_=>by simp at hi
 | x :: xs, _, ⟨u, r, h1, h2, h3⟩, i, y, w, hi, hw => by
   have hu := e.len h2
   have hwl := e.len hw
   subst h1
   cases i with
   | zero =>
     refine ⟨w, r, ?_, hw, h3⟩
     simp [← hu]
   | succ i =>
     refine ⟨u, _, ?_, h2, Win.set h3 (i := i) (y := y) (w := w) (by simpa using hi) hw⟩
     have e1 : (i + 1) * e.sz = u.length + i * e.sz := by rw [Nat.add_mul, Nat.one_mul, hu]; omega
     have e2 : (i + 1) * e.sz + e.sz = u.length + (i * e.sz + e.sz) := by omega
     rw [e2, e1, List.take_length_add_append, ← List.drop_drop, List.drop_left]
     simp only [List.append_assoc]
end
def SlR {α:Type} (e:Enc α) (b:Nat→Prop) (h:Hp) (xs:List α) (v:V):Prop:=
 (v = .nilSlice∧xs=[])∨∃l off ty live ro cs,v = .slice l off xs.length∧b l∧h.get l=some (.cells ty e.sz live ro cs)∧(xs=[]∨live=true)∧off≤cs.length∧Win e b h (cs.drop off) xs
section
variable {α:Type} {e:Enc α} {b:Nat→Prop} {h h' : Hp} {xs:List α} {v:V}
theorem SlR.keep (hk:∀l,b l→h'.get l=h.get l) (hs:SlR e b h xs v):SlR e b h' xs v:=by
 rcases hs with hs | ⟨l,off,ty,live,ro,cs,h1,h2,h3,h6,h4,h5⟩
 ·exact .inl hs
 ·exact .inr ⟨l,off,ty,live,ro,cs,h1,h2,by rw [hk l h2];exact h3,h6,h4,h5.keep hk⟩
theorem SlR.mono {b' : Nat→Prop} (hb:∀l,b l→b' l) (hs:SlR e b h xs v):SlR e b' h xs v:=by
 rcases hs with hs | ⟨l,off,ty,live,ro,cs,h1,h2,h3,h6,h4,h5⟩
 ·exact .inl hs
 ·exact .inr ⟨l,off,ty,live,ro,cs,h1,hb l h2,h3,h6,h4,h5.mono hb⟩
theorem SlR.one (hs:SlR e b h xs v):v.one=true:=by
 rcases hs with ⟨rfl,_⟩ | ⟨l,off,ty,live,ro,cs,rfl,_⟩ <;> rfl
end
def eL {α:Type} (e:Enc α):Enc (List α) where
 sz:=1
 rel b h xs cs:=∃v,cs=[v]∧SlR e b h xs v
 len:=fun ⟨_,h,_⟩=>by subst h;rfl
 one:=fun ⟨_,h,hs⟩=>by subst h;simp [hs.one]
 keep:=fun hk ⟨v,h,hs⟩=>⟨v,h,hs.keep hk⟩
 mono:=fun hb ⟨v,h,hs⟩=>⟨v,h,hs.mono hb⟩
section
variable {α:Type} {e:Enc α} {b:Nat→Prop} {h h' : Hp} {xs:List α} {v:V}
theorem SlR.ext (he:Grows h h') (hb:∀l,b l→l<h.next) (hs:SlR e b h xs v):SlR e b h' xs v:=
 hs.keep fun l hl=>he.keep l (hb l hl) (fun h=>h)
theorem SlR.len (hs:SlR e b h xs v):pLen v=some (.int .i64 xs.length):=by
 rcases hs with ⟨rfl,rfl⟩ | ⟨l,off,ty,live,ro,cs,rfl,_⟩ <;> rfl
theorem SlR.nil:SlR e b h [] .nilSlice:= .inl ⟨rfl,rfl⟩
theorem SlR.ix (hs:SlR e b h xs v) {i:Nat} (hi:i<xs.length) (kd:IntKind) :
  ∃l o w,b l∧pIx e.sz v (.int kd i)=some (.ptr l o)∧pLdA e.sz (.ptr l o) h=some (.agg w)∧e.rel b h xs[i] w∧∀k u,w[k]? = some u→pLd (.ptr l (o+k)) h=some u:=by
 rcases hs with ⟨_,rfl⟩ | ⟨l,off,ty,live,ro,cs,rfl,h2,h3,h6,h4,h5⟩
 ·simp at hi
 ·obtain rfl:live=true:=h6.resolve_left (fun e=>by subst e;simp at hi)
  obtain ⟨w,g1,g2,g3⟩:=h5.get (i:=i) (x:=xs[i]) (List.getElem?_eq_getElem hi)
  rw [List.length_drop] at g2
  have hd:(cs.drop (off+i * e.sz)).take e.sz=w:=by rw [←g1,List.drop_drop]
  refine ⟨l,off+i * e.sz,w,h2,pIx_slice _ _ _ _ _ _ hi,?_,g3,fun k u hu=>?_⟩
  ·rw [pLdA_ptr h3,sub_of (by omega),hd];rfl
  ·rw [pLd_ptr h3,at1_get]
   have hk:k<e.sz:=by rw [←e.len g3];exact (List.getElem?_eq_some_iff.1 hu).1
   rw [←hd,List.getElem?_take_of_lt hk,List.getElem?_drop] at hu
   exact hu
theorem SlR.ix1 (hs:SlR e b h xs v) {i:Nat} (hi:i<xs.length) (kd:IntKind) (he:e.sz=1) :
  ∃l o u,b l∧pIx 1 v (.int kd i)=some (.ptr l o)∧pLd (.ptr l o) h=some u∧e.rel b h xs[i] [u]:=by
 obtain ⟨l,o,w,h0,h1,_,h3,h4⟩:=hs.ix hi kd
 rw [he] at h1
 have hl:=e.len h3
 rw [he] at hl
 obtain ⟨u,rfl⟩:∃u,w=[u]:=by
  match w,hl with
  | [u],_=>exact ⟨u,rfl⟩
 exact ⟨l,o,u,h0,h1,h4 0 u rfl,h3⟩
theorem SlR.new' {b' : Nat→Prop} {ty:Nat} {ro:Bool} {cs:List V} (hw:Win e b h cs xs) (hb:∀l,b l→l<h.next) (hb' : ∀l,b l→b' l) (hn:b' h.next):SlR e b' (h.new (.cells ty e.sz true ro cs)) xs (.slice h.next 0 xs.length):=
 .inr ⟨h.next,0,ty,true,ro,cs,rfl,hn,get_new_self _ _, .inr rfl,Nat.zero_le _,(hw.keep fun l hl=>get_new_lt _ (hb l hl)).mono hb'⟩
theorem SlR.new {ty:Nat} {ro:Bool} {cs:List V} {n:Nat} (hw:Win e (lo n) h cs xs) (hb:n≤h.next):SlR e (lo (h.next+1)) (h.new (.cells ty e.sz true ro cs)) xs (.slice h.next 0 xs.length):=
 .new' hw (fun _ hl=>Nat.lt_of_lt_of_le hl hb) (fun _ hl=>Nat.lt_succ_of_lt (Nat.lt_of_lt_of_le hl hb)) (Nat.lt_succ_self _)
end
end Go.Proofs.YtiepamfpilhcjaaDoor.Hx
namespace Go.Proofs.YtiepamfpilhcjaaDoor.Hx
section
variable (t:Nat) (k:IntKind) (a b:Int)
@[simp] theorem hbin_add:hbin .add t (.int k a) (.int k b)=some (.int k (wrapF k (a+b))):=by cases k <;> rfl
@[simp] theorem hbin_sub:hbin .sub t (.int k a) (.int k b)=some (.int k (wrapF k (a - b))):=by cases k <;> rfl
@[simp] theorem hbin_mul:hbin .mul t (.int k a) (.int k b)=some (.int k (wrapF k (a * b))):=by cases k <;> rfl
@[simp] theorem hbin_lss:hbin .lss t (.int k a) (.int k b)=some (.bool (decide (a<b))):=by cases k <;> rfl
@[simp] theorem hbin_leq:hbin .leq t (.int k a) (.int k b)=some (.bool (decide (a≤b))):=by cases k <;> rfl
@[simp] theorem hbin_gtr:hbin .gtr t (.int k a) (.int k b)=some (.bool (decide (b<a))):=by cases k <;> rfl
@[simp] theorem hbin_geq:hbin .geq t (.int k a) (.int k b)=some (.bool (decide (b≤a))):=by cases k <;> rfl
@[simp] theorem hbin_eql:hbin .eql t (.int k a) (.int k b)=some (.bool (a == b)):=by cases k <;> rfl
@[simp] theorem hbin_neq:hbin .neq t (.int k a) (.int k b)=some (.bool (a != b)):=by cases k <;> rfl
@[simp] theorem hbin_eqlS (x y:List UInt8):hbin .eql t (.str x) (.str y)=some (.bool (x == y)):=rfl
@[simp] theorem hbin_neqS (x y:List UInt8):hbin .neq t (.str x) (.str y)=some (.bool (!(x == y))):=rfl
@[simp] theorem hun_not (x:Bool):hun .not (.bool x)=some (.bool !x):=rfl
@[simp] theorem hun_neg:hun .neg (.int k a)=some (.int k (wrapF k (0 - a))):=rfl
theorem wrapF_in {k:IntKind} {n:Int} (h:inK k n):wrapF k n=n:=by
 rw [wrapF_eq]
 cases k <;> simp only [inK] at h <;> simp only [IntKind.wrap,IntKind.signed,IntKind.bits,Bool.true_and,Bool.false_and,decide_eq_true_eq,Bool.false_eq_true,if_false,Nat.reduceSub,Int.reducePow,ge_iff_le] <;> (try split) <;> omega
@[simp] theorem wrapF_nat {n:Nat} (h:n<9223372036854775808):wrapF .i64 (n:Int)=n:=wrapF_in (by simp only [inK];omega)
@[simp] theorem hmin_one (g:Bool):hmin g (.int k a) [.int k b]=some (.int k (if g then max a b else min a b)):=by
 cases g
 ·show some (V.int k (if b<a then b else a))=_
  simp only [Bool.false_eq_true,if_false]
  congr 2
  omega
 ·show some (V.int k (if b>a then b else a))=_
  simp only [if_true]
  congr 2
  omega
end
theorem repl_one (n:Nat) (z:V):repl n [z]=List.replicate n z:=by
 induction n with
 | zero=>rfl
 | succ n ih=>simp only [repl,ih];rfl
theorem hmakeSlice_of {e sz by_ n:Nat} {z:V} (h1:n * by_≤281474976710656) (h2:n≤1099511627776) :
  hmakeSlice e sz by_ z (.int .i64 (n:Int)) (.int .i64 (n:Int))=some (O.cells e sz true false (repl n z.cells),fun l=>V.slice l 0 n):=by
 show bB (Nat.ble n n) (bB (Nat.ble (n * by_) 281474976710656) (bB (Nat.ble n 1099511627776) (some (O.cells e sz true false (repl n z.cells),fun l=>V.slice l 0 n))))=_
 rw [bB_of _ (Nat.ble_eq_true_of_le (Nat.le_refl _)),bB_of _ (Nat.ble_eq_true_of_le h1),bB_of _ (Nat.ble_eq_true_of_le h2)]
end Go.Proofs.YtiepamfpilhcjaaDoor.Hx
namespace Go.Proofs.YtiepamfpilhcjaaDoor.Hx
theorem splice_set {cs:List V} {v:V} : ∀{o:Nat},o<cs.length→splice o cs [v]=some (cs.set o v):=by
 induction cs with
 | nil=>intro o h;simp at h
 | cons c cs ih =>
   intro o h
   cases o with
   | zero => rfl
   | succ o =>
     have := ih (o := o) (by simpa using h)
     simp only [splice, this, oB_some', List.set_cons_succ]
theorem over_of:∀{ws cs:List V},ws.length≤cs.length→over ws cs=some (ws++cs.drop ws.length)
 | [],_,_=>rfl
 | w::ws,[],h=>by simp at h
 | w :: ws, c :: cs, h => by
   have := over_of (ws := ws) (cs := cs) (by simpa using h)
   simp only [over, this, oB_some', List.length_cons, List.drop_succ_cons, List.cons_append]
theorem splice_of:∀{o:Nat} {cs ws:List V},o+ws.length≤cs.length→splice o cs ws=some (cs.take o++ws++cs.drop (o+ws.length))
 | 0,cs,ws,h=>by simp only [splice,over_of (by simpa using h),List.take_zero,List.nil_append,Nat.zero_add]
 | o+1,[],ws,h=>by simp at h
 | o + 1, c :: cs, ws, h => by
   have := splice_of (o := o) (cs := cs) (ws := ws) (by simp at h; omega)
   simp only [splice, this, oB_some', List.take_succ_cons, List.cons_append]
   rw [show o + 1 + ws.length = (o + ws.length) + 1 by omega, List.drop_succ_cons]
theorem cells_one {v:V} (h:v.one=true):v.cells=[v]:=by
 cases v <;> first | rfl | cases h
section
variable {l o e sz:Nat} {cs:List V} {h:Hp} {v:V}
theorem pSt_at (hg:h.get l=some (.cells e sz true false cs)) (ho:o<cs.length) (hv:v.one=true):pSt 1 (.ptr l o) v h=some (.val .undef (h.put l (.cells e sz true false (cs.set o v)))):=by
 unfold pSt stAt cellsAt
 simp only [asPtr_ptr,cells_one hv,List.length_cons,List.length_nil,hg,oB_some',bB_true',Bool.not_false,allOne_cons,hv,allOne_nil,Bool.and_self,splice_set ho]
 rfl
theorem pSt_all {ws:List V} {n:Nat} (hg:h.get l=some (.cells e sz true false cs)) (hn:ws.length=n) (hc:cs.length=n) (hv:allOne ws=true):pSt n (.ptr l 0) (.agg ws) h=some (.val .undef (h.put l (.cells e sz true false ws))):=by
 unfold pSt stAt cellsAt
 have hs:splice 0 cs ws=some ws:=by
  rw [splice_of (by omega),List.take_zero,List.nil_append,Nat.zero_add,List.drop_of_length_le (by omega),List.append_nil]
 simp only [asPtr_ptr,V.cells,hg,oB_some',bB_true',Bool.not_false,hv,hs]
 rw [bB_of _ (by rw [hn];exact Nat.beq_refl n)]
theorem pLd_get {u:V} {ro:Bool} (hg:h.get l=some (.cells e sz true ro cs)) (hu:cs[o]? = some u):pLd (.ptr l o) h=some u:=by rw [pLd_ptr hg,at1_get,hu]
theorem pLdA_all {n:Nat} {ro:Bool} (hg:h.get l=some (.cells e sz true ro cs)) (hn:cs.length=n):pLdA n (.ptr l 0) h=some (.agg cs):=by
 rw [pLdA_ptr hg,sub_of (by omega),List.drop_zero,List.take_of_length_le (by omega)];rfl
end
section
variable {α:Type} {e:Enc α} {b:Nat→Prop} {h:Hp}
theorem Win.drop:∀{xs:List α} {cs:List V} (n:Nat),Win e b h cs xs→n≤xs.length→Win e b h (cs.drop (n * e.sz)) (xs.drop n)
 | xs,cs,0,hw,_=>by simpa using hw
 | [],cs,n+1,_,hn=>by simp at hn
 | x :: xs, cs, n + 1, ⟨w, r, h1, h2, h3⟩, hn => by
   have := Win.drop n h3 (by simpa using hn)
   have hl := e.len h2
   subst h1
   rw [List.drop_succ_cons, Nat.add_mul, Nat.one_mul, Nat.add_comm, ← List.drop_drop, ← hl, List.drop_left]
   rw [hl]
   exact this
theorem Win.taken:∀{xs:List α} {cs:List V} (n:Nat),Win e b h cs xs→Win e b h cs (xs.take n)
 | xs,cs,0,_=>by simp only [List.take_zero];trivial
 | [],cs,n+1,_=>by simp only [List.take_nil];trivial
 | x::xs,cs,n+1,⟨w,r,h1,h2,h3⟩=>⟨w,r,h1,h2,Win.taken n h3⟩
theorem hbound_at (z:Nat) (k:IntKind) (n:Nat):hbound z (some (.int k n))=some n:=by
 unfold hbound;simp only [asNat_cast]
theorem hbound_none (z:Nat):hbound z none=some z:=rfl
theorem SlR.cut {xs:List α} {v:V} (hs:SlR e b h xs v) {lo hi:Option V} {m n:Nat} (hlo:hbound 0 lo=some m) (hhi:hbound xs.length hi=some n) (h1:m≤n) (h2:n≤xs.length) :
  ∃v',hsliceV e.sz v lo hi h=some v'∧SlR e b h ((xs.take n).drop m) v':=by
 rcases hs with ⟨rfl,rfl⟩ | ⟨l,off,ty,live,ro,cs,rfl,h3,h4,h5,h6,h7⟩
 ·simp at h2
  subst h2
  obtain rfl:m=0:=by omega
  refine ⟨.nilSlice,?_, .inl ⟨rfl,by simp⟩⟩
  unfold hsliceV
  simp only [hlo,oB_some']
  rw [show hbound 0 hi=some 0 from hhi]
  rfl
 ·have hw:=h7.length
  have hmul:m * e.sz≤n * e.sz:=Nat.mul_le_mul_right _ h1
  have hmul2:n * e.sz≤xs.length * e.sz:=Nat.mul_le_mul_right _ h2
  rw [List.length_drop] at hw
  refine ⟨.slice l (off+m * e.sz) (n - m),?_,?_⟩
  ·unfold hsliceV cellsAt
   simp only [h4,oB_some',hlo,hhi]
   rw [bB_of _ (Nat.beq_refl _),bB_of _ (Nat.ble_eq_true_of_le h1),bB_of _ (by rw [Nat.ble_eq_true_of_le h2];rfl)]
   rfl
  ·have hlen:((xs.take n).drop m).length=n - m:=by rw [List.length_drop,List.length_take];omega
   refine .inr ⟨l,off+m * e.sz,ty,live,ro,cs,by rw [hlen],h3,h4,?_,by omega,?_⟩
   ·rcases h5 with h5 | h5
    ·left;subst h5;simp
    ·exact .inr h5
   ·rw [←List.drop_drop]
    exact (h7.taken n).drop m (by rw [List.length_take];omega)
end
def Own (e sz a:Nat) (h:Hp) (cs:List V) (n:Nat) (v:V):Prop:=
 (v = .nilSlice∧cs=[]∧n=0)∨∃t,v = .slice t 0 n∧a≤t∧t<h.next∧h.get t=some (.cells e sz true false cs)∧cs.length=n * sz
section
variable {e sz a n:Nat} {h h' : Hp} {cs:List V} {v:V}
theorem Own.nil:Own e sz a h [] 0 .nilSlice:= .inl ⟨rfl,rfl,rfl⟩
theorem Own.len (ho:Own e sz a h cs n v):pLen v=some (.int .i64 n):=by
 rcases ho with ⟨rfl,rfl,rfl⟩ | ⟨t,rfl,_⟩ <;> rfl
theorem Own.size (ho:Own e sz a h cs n v):cs.length=n * sz:=by
 rcases ho with ⟨rfl,rfl,rfl⟩ | ⟨t,rfl,_,_,_,h1⟩
 ·simp
 ·exact h1
theorem Own.one (ho:Own e sz a h cs n v):v.one=true:=by
 rcases ho with ⟨rfl,rfl,rfl⟩ | ⟨t,rfl,_⟩ <;> rfl
theorem Own.low {a' : Nat} (ha:a'≤a) (ho:Own e sz a h cs n v):Own e sz a' h cs n v:=by
 rcases ho with ho | ⟨t,h1,h2,h3⟩
 ·exact .inl ho
 ·exact .inr ⟨t,h1,Nat.le_trans ha h2,h3⟩
theorem Own.append {by_ k:Nat} {x:V} {new:List V} (ho:Own e sz a h cs n v) (hx:xcells h sz x=some (k,new)) (hk:0<k) (hl:new.length=k * sz) (h1:allOne cs=true) (h2:allOne new=true) (ha:a≤h.next)
  (hb:(n+k) * by_≤70368744177664) (hb2:n+k≤70368744177664) (hz:0<sz) :
  ∃v' h',happend e sz by_ v x h=some (.val v' h')∧Own e sz a h' (cs++new) (n+k) v'∧Chg (fun l=>v = .slice l 0 n) h h'∧h'.next=h.next+1∧v' = .slice h.next 0 (n+k):=by
 have hk0:Nat.beq k 0=false:=by cases k with
  | zero=>omega
  | succ k=>rfl
 rcases ho with ⟨rfl,rfl,rfl⟩ | ⟨t,rfl,h3,h4,h5,h6⟩
 ·refine ⟨.slice h.next 0 k,h.new (.cells e sz true false new),?_, .inr ⟨h.next,by rw [Nat.zero_add],ha,Nat.lt_succ_self _,by rw [List.nil_append];exact get_new_self _ _,by simp [hl]⟩,Chg.new _ _,rfl,by rw [Nat.zero_add]⟩
  unfold happend
  simp only [hx,oB_some',hk0,h2,bB_true']
  rw [bB_of _ (Nat.ble_eq_true_of_le (by simpa using hb)),bB_of _ (Nat.ble_eq_true_of_le (by simpa using hb2))]
 ·refine ⟨.slice h.next 0 (n+k),(h.put t (.cells e sz false false cs)).new (.cells e sz true false (cs++new)),?_, .inr ⟨h.next,rfl,ha,Nat.lt_succ_self _,get_new_self (h.put t _) _,by rw [List.length_append,h6,hl,Nat.add_mul]⟩,?_,rfl,rfl⟩
  ·unfold happend cellsAt
   have hroom:Nat.ble (Nat.add 0 (Nat.mul (Nat.add n k) sz)) cs.length=false:=by
    rw [←Bool.not_eq_true,Nat.ble_eq]
    show ¬(0+(n+k) * sz≤cs.length)
    rw [h6,Nat.add_mul]
    have:0<k * sz:=Nat.mul_pos hk hz
    omega
   have hsub:sub cs 0 (Nat.mul n sz)=some cs:=by
    show sub cs 0 (n * sz)=some cs
    rw [sub_of (show 0+n * sz≤cs.length by omega),List.drop_zero,List.take_of_length_le (show cs.length≤n * sz by omega)]
   simp only [hx,oB_some',hk0,h2,bB_true',h5,Bool.not_false,hroom,hsub,h1]
   rw [bB_of _ (Nat.beq_refl _),bB_of _ (show Nat.ble (Nat.mul (Nat.add n k) by_) 70368744177664=true from Nat.ble_eq_true_of_le hb),bB_of _ (show Nat.ble (Nat.add n k) 70368744177664=true from Nat.ble_eq_true_of_le hb2)]
   rfl
  ·exact (Chg.put (S:=fun l=>V.slice t 0 n = .slice l 0 n) (.cells e sz false false cs) rfl h4).trans (Chg.new _ _)
theorem xcells_new {e sz k:Nat} {h:Hp} {cs:List V} {ro:Bool} (hl:cs.length=(k+1) * sz):xcells (h.new (.cells e sz true ro cs)) sz (.slice h.next 0 (k+1))=some (k+1,cs):=by
 unfold xcells ldAt cellsAt
 have:sub cs 0 (Nat.mul (Nat.succ k) sz)=some cs:=by
  show sub cs 0 ((k+1) * sz)=some cs
  rw [sub_of (show 0+(k+1) * sz≤cs.length by omega),List.drop_zero,List.take_of_length_le (show cs.length≤(k+1) * sz by omega)]
 simp only [get_new_self,oB_some',bB_true',this]
theorem Own.slR {α:Type} {E:Enc α} {xs:List α} (ho:Own e E.sz a h cs xs.length v) {b:Nat→Prop} (hb:∀t,v = .slice t 0 xs.length→b t) (hw:Win E b h cs xs):SlR E b h xs v:=by
 rcases ho with ⟨rfl,rfl,h0⟩ | ⟨t,rfl,_,h3,h4,h5⟩
 ·exact .inl ⟨rfl,List.eq_nil_of_length_eq_zero h0⟩
 ·exact .inr ⟨t,0,e,true,false,cs,rfl,hb t rfl,h4, .inr rfl,Nat.zero_le _,by simpa using hw⟩
end
end Go.Proofs.YtiepamfpilhcjaaDoor.Hx
