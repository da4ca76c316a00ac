/- Parts. -/
import Derived.Test.YtpnddokajmjpbaaDoorM08
import Derived.KernelRfl
namespace Go.Proofs.YtpnddokajmjpbaaDoor.Hx
def _root_.Go.Code.l:Code->Code
 | .seq a _=>a
 | .cond _ a _=>a
 | .block _ c=>c
 | .loop c=>c
 |_=> .skip
def _root_.Go.Code.r:Code->Code
 | .seq _ b=>b
 | .cond _ _ b=>b
 |_=> .skip
def bodyOf (fn:Func):Code:=match fn.body with
 |some c=>c
 |none=> .skip
noncomputable section
def pLd (a:V)(h:Hp):Option V:=asPtr a λl off=>ld1 h l off
def pLdA (n:Nat)(a:V)(h:Hp):Option V:=asPtr a λl off=>oB (ldAt h l off n) λcs=>some (.agg cs)
def pFA (k:Nat)(x:V):Option V:=asPtr x λl off=>some (.ptr l (Nat.add off k))
def pIx (n:Nat) (x i:V):Option V:=asNat i λi=>match x with
 | .slice l off len=>bB (Nat.blt i len) (some (.ptr l (Nat.add off (Nat.mul i n))))
 |_=>none
def pIxA (len n:Nat)(x i:V):Option V:=asNat i λi=>asPtr x λl off=>bB (Nat.blt i len) (some (.ptr l (Nat.add off (Nat.mul i n))))
def pFld (k:Nat) (x:V):Option V:=match x with
 | .agg cs=>at1 cs k
 |_=>none
def pPick (c a b:V):Option V:=match c with
 | .bool x=>Bool.rec (motive:=λ_=>Option V) (some b) (some a) x
 |_=>none
def pNil (x:V):Option V:=match x with
 | .ptr l off=>some (.ptr l off)
 | .func f a c=>some (.func f a c)
 | .iface u v=>some (.iface u v)
 |_=>none
def pConv (k:IntKind) (x:V):Option V:=match x with
 | .int _ n=>some (.int k (wrapF k n))
 |_=>none
def pBuild (z:List V)(a:List (Nat×Nat))(ps:List (Nat×V)):Option V:=oB (fillV (λi=>a[i]?) z ps) λcs=>some (.agg cs)
def pExt (i:Nat) (x:V):Option V:=match x with
 | .tuple vs=>at1 vs i
 |_=>none
def pLenS (x:V):Option V:=match x with
 | .str s=>some (.int .i64 (.ofNat s.length))
 |_=>none
def pLen (x:V):Option V:=match x with
 | .slice _ _ n=>some (.int .i64 (.ofNat n))
 | .nilSlice=>some (.int .i64 (.ofNat 0))
 |_=>none
def pLook (a:Nat) (d:Option (List Field)) (z:V) (ok:Bool) (m k:V) (h:Hp):Option V:=bB (keyHas d k) (match m with
 | .nilMap=>some (found z ok none)
 | .map l=>mapAt h l λb _=>oB (findV a d k b 0) λr=>some (found z ok r)
 |_=>none)
def pBS (a size len:Nat) (z:V) (ps:List (Nat×V)):Option (O×(Nat->V)):=
 oB (fillV (λi=>some (Nat.mul i size,size)) (repl len z.cells) ps) λcs=>bB (allOne cs) (some (.cells a size true false cs,λl=> .slice l 0 len))
def pSt (n:Nat)(a v:V)(h:Hp):Option R:=asPtr a λl off=>bB (Nat.beq v.cells.length n) (oB (stAt h l off v.cells) λh=>some (.val .undef h))
end
noncomputable section
def valP (x:Option R)(K:V->Hp->Prop):Prop:=oP (oB x valOf) λy=>K y.1 y.2
def calP (C:Cfg)(x:Option R)(h:Hp)(K:V->Hp->Prop):Prop:=oP (oB x callOf) λy=>cP C y.1 y.2 h K
def dcP (C:Cfg)(f:Nat)(l:List V)(h:Hp)(K:V->Hp->Prop):Prop:=oP (some (f,l)) λy=>cP C y.1 y.2 h K
def alP (x:Option (O×(Nat->V)))(h:Hp)(K:V->Hp->Prop):Prop:=oP x λr=>K (r.2 h.next) (h.new r.1)
def alO (x:Option (O×(Nat->V)))(h:Hp)(K:O->V->Hp->Prop):Prop:=oP x λr=>K r.1 (r.2 h.next) (h.new r.1)
def ghP (b:Bool)(h:Hp)(x:Option (V×Hp))(K:V->Hp->Prop):Prop:=oP (gH b h x) λy=>K y.1 y.2
def gT (b:Bool)(p:Prop):Prop:=Bool.rec (motive:=λ_=>Prop) True p b
def pGd (w:Bool) (x:V):Option Bool:=match x with
 | .bool b=>some (Bool.rec (motive:=λ_=>Bool) (!w) w b)
 | .tuple []=>some false
 |_=>none
end
theorem Gk (f:Nat->V) (d:Nat) (v:V):rset f d v d=v:=by
 unfold rset;rw[wBG]
theorem I0 (f:Nat->V) {d i:Nat} (v:V) (h:i≠d):rset f d v i=f i:=by
 unfold rset
 cases hb:Nat.beq i d with
 |true=>exact absurd (wAG hb) h
 |false=>rfl
@[simp] theorem en {α β:Type} (a:α) (k:α->Option β):oB (some a) k=k a:=rfl
@[simp] theorem Ky {α β:Type} (k:α->Option β):oB (none:Option α) k=none:=rfl
@[simp] theorem j6 {β:Type} (k:Option β):bB true k=k:=rfl
@[simp] theorem J9 {β:Type} (k:Option β):bB false k=none:=rfl
theorem go{β:Type}{c:Bool}(k:Option β)(h:c=true):bB c k=k:=by subst h;rfl
@[simp] theorem rW {β:Type} (l o:Nat) (k:Nat->Nat->Option β):asPtr (.ptr l o) k=k l o:=rfl
@[simp] theorem Jy {β:Type} (kd:IntKind) (n:Nat) (k:Nat->Option β):asNat (.int kd (.ofNat n)) k=k n:=rfl
@[simp] theorem Fh {β:Type} (kd:IntKind) (n:Nat) (k:Nat->Option β):asNat (.int kd (n:Int)) k=k n:=rfl
@[simp] theorem J6 {β:Type} (kd:IntKind) (n:Nat) (k:Nat->Option β):asNat (.int kd (OfNat.ofNat n:Int)) k=k n:=rfl
@[simp] theorem JO {β:Type} (kd:IntKind) (k:Nat->Option β):asNat (.int kd 0) k=k 0:=rfl
@[simp] theorem J4 {β:Type} (kd:IntKind) (k:Nat->Option β):asNat (.int kd 1) k=k 1:=rfl
@[simp] theorem ed (k l o:Nat):pFA k (.ptr l o)=some (.ptr l (o+k)):=rfl
@[simp] theorem fc (l o:Nat):pNil (.ptr l o)=some (.ptr l o):=rfl
@[simp] theorem J7 (f:Nat) (a c:List V):pNil (.func f a c)=some (.func f a c):=rfl
@[simp] theorem JL (l o n:Nat):pLen (.slice l o n)=some (.int .i64 n):=rfl
@[simp] theorem KA:pLen .nilSlice=some (.int .i64 0):=rfl
@[simp] theorem J5 (s:List UInt8):pLenS (.str s)=some (.int .i64 s.length):=rfl
@[simp] theorem JR (x:Bool) (a b:V):pPick (.bool x) a b=some (if x=true then a else b):=by cases x <;> rfl
@[simp] theorem Ka (k k':IntKind) (n:Int):pConv k (.int k' n)=some (.int k (wrapF k n)):=rfl
@[simp] theorem vJ (i:Nat) (vs:List V):pExt i (.tuple vs)=at1 vs i:=rfl
@[simp] theorem Kb (k:Nat) (cs:List V):pFld k (.agg cs)=at1 cs k:=rfl
@[simp] theorem ev (o:O) (f:Nat->V) (h:Hp) (K:V->Hp->Prop):alP (some (o,f)) h K=K (f h.next) (h.new o):=rfl
@[simp] theorem fD (o:O) (f:Nat->V) (h:Hp) (K:O->V->Hp->Prop):alO (some (o,f)) h K=K o (f h.next) (h.new o):=rfl
@[simp] theorem ec (v:V) (h:Hp) (K:V->Hp->Prop):valP (some (.val v h)) K=K v h:=rfl
@[simp] theorem lE (C:Cfg) (f:Nat) (l:List V) (h:Hp) (K:V->Hp->Prop):calP C (some (.call f l)) h K=cP C f l h K:=rfl
@[simp] theorem KJ (C:Cfg) (f:Nat) (l:List V) (h:Hp) (K:V->Hp->Prop):dcP C f l h K=cP C f l h K:=rfl
@[simp] theorem jS (f:Nat) (a c l:List V):hcall (.func f a c) l=some (.call f (a++(l++c))):=rfl
@[simp] theorem Kh (w b:Bool):pGd w (.bool b)=some (b == w):=by cases w <;> cases b <;> rfl
@[simp] theorem KC (x:Option V):gV true x=x:=rfl
@[simp] theorem Kr (x:Option V):gV false x=some .undef:=rfl
@[simp] theorem KG (x:Option (Nat×List V)):gC true x=oB x λy=>some (some y):=rfl
@[simp] theorem Kz (x:Option (Nat×List V)):gC false x=some none:=rfl
@[simp] theorem KI (p:Prop):gT true p=p:=rfl
@[simp] theorem Kg (p:Prop):gT false p=True:=rfl
@[simp] theorem Kj (C:Cfg) (y:Nat×List V) (h:Hp) (K:V->Hp->Prop):cgP C (some y) h K=cP C y.1 y.2 h K:=rfl
@[simp] theorem Kf (C:Cfg) (h:Hp) (K:V->Hp->Prop):cgP C none h K=K .undef h:=rfl
theorem uD (n l o len i:Nat) (kd:IntKind) (h:i<len):pIx n (.slice l o len) (.int kd i)=some (.ptr l (o+i*n)):=by
 show bB (Nat.blt i len) _=_;rw[go _ (by rw[wBV];exact h)];rfl
theorem Fo {l o e sz:Nat} {ro:Bool} {cs:List V} {h:Hp} (a:h.get l=some (.cells e sz true ro cs)):pLd (.ptr l o) h=at1 cs o:=by
 unfold pLd ld1 cellsAt;simp only[rW,a,en,j6]
theorem wK {n l o e sz:Nat} {ro:Bool} {cs:List V} {h:Hp} (a:h.get l=some (.cells e sz true ro cs)):pLdA n (.ptr l o) h=oB (sub cs o n) λcs=>some (.agg cs):=by
 unfold pLdA ldAt cellsAt;simp only[rW,a,en,j6]
@[simp] theorem Kk (v:V) (l:List V):at1 (v::l) 0=some v:=rfl
@[simp] theorem Kc (v:V) (l:List V) (n:Nat):at1 (v::l) (n+1)=at1 l n:=rfl
theorem FN (l:List V)(n:Nat):at1 l n=l[n]?:=by unfold at1;rw[List.head?_drop]
@[simp] theorem JJ (l:List V):takeN 0 l=some []:=by cases l <;> rfl
@[simp] theorem JN (n:Nat) (v:V) (l:List V):takeN (n+1) (v::l)=oB (takeN n l) λr=>some (v::r):=rfl
theorem D1:∀(n:Nat) (l:List V),n<=l.length->takeN n l=some (l.take n)
 |0,l,_=>by cases l <;> rfl
 |n+1,[],h=>by simp at h
 |n+1,v::l,h=>by simp only[takeN,D1 n l (by simpa using h),en,List.take_succ_cons]
theorem ve {l:List V} {o n:Nat} (h:o+n<=l.length):sub l o n=some ((l.drop o).take n):=by
 unfold sub;exact D1 _ _ (by simp;omega)
@[simp] theorem fj {α:Type} (a:α) (k:α->Prop):oP (some a) k=k a:=rfl
@[simp] theorem qD (x:Bool) (a b:Prop):bP (.bool x) a b=if x=true then a else b:=fw x a b
@[simp] theorem J8 (v:V) (h:Hp):valOf (.val v h)=some (v,h):=rfl
@[simp] theorem JB (f:Nat) (l:List V):callOf (.call f l)=some (f,l):=rfl
section
variable{C:Cfg}{n:Nat}{Q:X->Rho->Hp->Prop}{ρ:Rho}{h:Hp}
theorem Wp.of{c:Code}{P:Prop}(e:codeR C n c Q ρ h=P)(a:P):Wp C n c Q ρ h:=Wp.code c (e.mpr a)
theorem oSm{α:Type}{a:α}{k:α->Prop}(h:k a):oP (some a) k:=h
theorem oM {α:Type} {x:Option α} {k k':α->Prop} (h:oP x k) (f:∀a,x=some a->k a->k' a):oP x k':=by
 obtain⟨a,b,c⟩:=gz.1 h;exact d9 b (f a b c)
theorem bM {v:V} {a b c d:Prop} (h:bP v a b) (f:a->c) (g:b->d):bP v c d:=by
 unfold bP at h⊢;split at h
 ·rename_i x
  cases x with
  |true=>exact f h
  |false=>exact g h
 ·exact h.elim
theorem dcM {f:Nat} {l:List V} {k k':V->Hp->Prop} (h':cP C f l h k) (F:∀v h',k v h'->k' v h'):dcP C f l h k':=by
 show cP C f l h k';exact h'.mono F
theorem cgM {x:Option (Nat×List V)} {k k':V->Hp->Prop} (h':cgP C x h k) (F:∀v h',k v h'->k' v h'):cgP C x h k':=by
 cases x with
 |none=>exact F _ _ h'
 |some y=>exact cP.mono h' F
theorem alM {x:Option (O×(Nat->V))} {k k':V->Hp->Prop} (h':alP x h k) (F:∀v h',k v h'->k' v h'):alP x h k':=
 oM h' λ_ _ H=>F _ _ H
theorem valM {x:Option R} {k k':V->Hp->Prop} (h':valP x k) (F:∀v h',k v h'->k' v h'):valP x k':=
 oM h' λ_ _ H=>F _ _ H
end
theorem anM{a b c:Prop}(h:c/\a)(f:a->b):c/\b:=⟨h.1,f h.2⟩
@[simp] theorem O.beq_cells (e sz:Nat) (a r:Bool) (cs:List V):O.beq (.cells e sz a r cs) (.cells e sz a r cs)=true:=by
 simp[O.beq,V.beqs_self]
@[simp] theorem O.beq_map (c:Nat):O.beq (.map [] c) (.map [] c)=true:=by simp[O.beq]
def pOr (c:V) (X:Option V):Option V:=match c with
 | .bool true=>some (.bool true)
 | .bool false=>X
 |_=>none
def pAnd (c:V) (X:Option V):Option V:=match c with
 | .bool false=>some (.bool false)
 | .bool true=>X
 |_=>none
@[simp] theorem Kq (X:Option V):pOr (.bool true) X=some (.bool true):=rfl
@[simp] theorem jC (X:Option V):pOr (.bool false) X=X:=rfl
@[simp] theorem rX (X:Option V):pAnd (.bool true) X=X:=rfl
@[simp] theorem E8 (X:Option V):pAnd (.bool false) X=some (.bool false):=rfl
@[simp] theorem sU (c d:Bool):pOr (.bool c) (some (.bool d))=some (.bool (c ||d)):=by cases c <;> rfl
@[simp] theorem gv (c d:Bool):pAnd (.bool c) (some (.bool d))=some (.bool (c&&d)):=by cases c <;> rfl
theorem thn{A B:Prop}(a:A)(f:A->B):B:=f a
section
variable{c c' Xc:V}{X X':Option V}{K:V->Prop}{f:V->Option V}{w b0:Bool}
theorem FD (H:oP (pOr c X) K):oP (pGd false c) λb=>oP (gV b X) λv=>oP (pPick c (.bool true) v) K:=by
 unfold pOr at H;split at H
 ·exact H
 ·exact H
 ·exact H.elim
theorem Dz (H:oP (pAnd c X) K):oP (pGd true c) λb=>oP (gV b X) λv=>oP (pPick c v (.bool false)) K:=by
 unfold pAnd at H;split at H
 ·exact H
 ·exact H
 ·exact H.elim
theorem sG1 {R:Bool->V->Prop} (H:oP (pGd w c) λb=>oP (gV b (oB X f)) K) (F:∀b,pGd w c=some b->∀v,gV b X=some v->(oP (pGd w c) λb=>oP (gV b (f v)) K)->R b v):oP (pGd w c) λb=>oP (gV b X) λv=>R b v:=by
 obtain⟨b,a,d⟩:=gz.1 H;refine d9 a ?_
 cases b with
 | true=>
   obtain⟨v,g,h⟩:=gz.1 d;obtain⟨x,e,i⟩:=ei.1 (show oB X f=some v from g)
   exact d9 (show gV true X=some x from e) (F true a x e (d9 a (d9 (show gV true (f x)=some v from i) h)))
 |false=>exact F false a .undef rfl (d9 a d)
theorem qE {b:Bool} {v:V} (E:gV b X=some v):gT b (X=some v):=by
 cases b with
 |true=>exact E
 |false=>trivial
end
structure Chg (S:Nat->Prop) (h h':Hp):Prop where
 next:h.next<=h'.next
 keep:∀l,l<h.next->¬S l->h'.get l=h.get l
abbrev Grows (h h':Hp):Prop:=Chg (λ_=>False) h h'
theorem Chg.refl (S:Nat->Prop)(h:Hp):Chg S h h:=⟨wAF _,λ_ _ _=>rfl⟩
theorem Chg.trans' {S S':Nat->Prop} {h h' c:Hp} (a:Chg S h h') (b:Chg S' h' c) (hs:∀l,l<h.next->S' l->S l):Chg S h c:=
 ⟨wAq a.next b.next,λl d e=>by rw[b.keep l (wAO d a.next) (λh=>e (hs l d h)),a.keep l d e]⟩
theorem Chg.trans{S:Nat->Prop}{h h' c:Hp}(a:Chg S h h')(b:Chg S h' c):Chg S h c:=a.trans' b λ_ _ h=>h
theorem Chg.weak {S S':Nat->Prop} {h h':Hp} (a:Chg S h h') (hs:∀l,l<h.next->S l->S' l):Chg S' h h':=
 ⟨a.next,λl b c=>a.keep l b λh=>c (hs l b h)⟩
theorem Grows.weak{S:Nat->Prop}{h h':Hp}(a:Grows h h'):Chg S h h':=Chg.weak a λ_ _ h=>h.elim
theorem Chg.new {S:Nat->Prop} (h:Hp) (o:O):Chg S h (h.new o):=
 ⟨wBZ _,λl a _=>by rw[pQ,if_neg (by omega)]⟩
theorem Chg.put {S:Nat->Prop} {h:Hp} {l:Nat} (o:O) (hs:S l) (a:l<h.next):Chg S h (h.put l o):=
 ⟨wAF _,λm _ b=>by rw[kw _ _ a,if_neg (λe=>b (by rw[<-e];exact hs))]⟩
theorem ef (h:Hp)(o:O):(h.new o).get h.next=some o:=by rw[pQ,if_pos rfl]
theorem er{h:Hp}(o:O){l:Nat}(a:l<h.next):(h.new o).get l=h.get l:=by rw[pQ,if_neg (by omega)]
theorem fd{h:Hp}{l:Nat}(o:O)(a:l<h.next):(h.put l o).get l=some o:=by rw[kw _ _ a,if_pos rfl]
theorem fg{h:Hp}{l m:Nat}(o:O)(a:l<h.next)(b:l≠m):(h.put l o).get m=h.get m:=by rw[kw _ _ a,if_neg b]
@[simp] theorem Kd (h:Hp) (o:O):(h.new o).next=h.next+1:=rfl
@[simp] theorem Kv (h:Hp) (l:Nat) (o:O):(h.put l o).next=h.next:=rfl
structure Enc (α:Type) where
 sz:Nat
 rel:(Nat->Prop)->Hp->α->List V->Prop
 len:∀{b h x cs},rel b h x cs->cs.length=sz
 one:∀{b h x cs},rel b h x cs->allOne cs=true
 keep:∀{b h h' x cs},(∀l,b l->h'.get l=h.get l)->rel b h x cs->rel b h' x cs
 mono:∀{b b' h x cs},(∀l,b l->b' l)->rel b h x cs->rel b' h x cs
def lo (b:Nat):Nat->Prop:=λl=>l<b
theorem Fu{b a:Nat}(h:b<=a):∀l,lo b l->lo a l:=λ_ c=>wAO c h
theorem jd:∀(a b:List V),allOne (a++b)=(allOne a&&allOne b)
 |[],b=>by simp[allOne]
 | v::a,b=>by
   simp only[wBC,allOne,jd a b];cases v.one <;> simp
@[simp] theorem EL:allOne []=true:=rfl
@[simp] theorem ee (v:V) (l:List V):allOne (v::l)=(v.one&&allOne l):=by
 simp only[allOne];cases v.one <;> rfl
def inK:IntKind->Int->Prop
 | .i8,n=>-128<=n/\n<=127
 | .i16,n=>-32768<=n/\n<=32767
 | .i32,n=>-2147483648<=n/\n<=2147483647
 | .i64,n=>-9223372036854775808<=n/\n<=9223372036854775807
 | .u8,n=>0<=n/\n<=255
 | .u16,n=>0<=n/\n<=65535
 | .u32,n=>0<=n/\n<=4294967295
 | .u64,n=>0<=n/\n<=18446744073709551615
def eI (k:IntKind):Enc Int where
 sz:=1
 rel _ _ n cs:=cs=[.int k n]/\inK k n
 len h:=by rw[h.1];rfl
 one h:=by rw[h.1];rfl
 keep _ h:=h
 mono _ h:=h
def eB:Enc Bool where
 sz:=1
 rel _ _ n cs:=cs=[.bool n]
 len h:=by subst h;rfl
 one h:=by subst h;rfl
 keep _ h:=h
 mono _ h:=h
def eS:Enc (List UInt8) where
 sz:=1
 rel _ _ n cs:=cs=[.str n]
 len h:=by subst h;rfl
 one h:=by subst h;rfl
 keep _ h:=h
 mono _ h:=h
def eP {α β:Type} (e:Enc α) (f:Enc β):Enc (α×β) where
 sz:=e.sz+f.sz
 rel b h x cs:=∃p q,cs=p++q/\e.rel b h x.1 p/\f.rel b h x.2 q
 len:=λ⟨_,_,h,a,c⟩=>by subst h;simp[e.len a,f.len c]
 one:=λ⟨_,_,h,a,c⟩=>by subst h;simp[jd,e.one a,f.one c]
 keep:=λd ⟨p,q,h,a,c⟩=>⟨p,q,h,e.keep d a,f.keep d c⟩
 mono:=λg ⟨p,q,h,a,c⟩=>⟨p,q,h,e.mono g a,f.mono g c⟩
def eM {α β:Type} (g:β->α) (e:Enc α):Enc β where
 sz:=e.sz
 rel b h x cs:=e.rel b h (g x) cs
 len h:=e.len h
 one h:=e.one h
 keep hk h:=e.keep hk h
 mono hb h:=e.mono hb h
def Win {α:Type} (e:Enc α) (b:Nat->Prop) (h:Hp):List V->List α->Prop
 |_,[]=>True
 |cs,x::xs=>∃w r,cs=w++r/\e.rel b h x w/\Win e b h r xs
section
variable{α:Type}{e:Enc α}{b:Nat->Prop}{h h':Hp}
theorem Win.keep (a:∀l,b l->h'.get l=h.get l):∀{xs:List α} {cs:List V},Win e b h cs xs->Win e b h' cs xs
 |[],_,_=>trivial
 |_::_,_,⟨w,r,c,d,f⟩=>⟨w,r,c,e.keep a d,Win.keep a f⟩
theorem Win.mono {a:Nat->Prop} (c:∀l,b l->a l):∀{xs:List α} {cs:List V},Win e b h cs xs->Win e a h cs xs
 |[],_,_=>trivial
 |_::_,_,⟨w,r,d,f,g⟩=>⟨w,r,d,e.mono c f,Win.mono c g⟩
theorem Win.length:∀{xs:List α} {cs:List V},Win e b h cs xs->xs.length*e.sz<=cs.length
 |[],_,_=>by simp
 | _::xs,_,⟨w,r,a,c,d⟩=>by
   have:=Win.length d;have f:=e.len c;subst a;simp only[wAM,wAX,wBB,wCI];omega
theorem Win.get:∀{xs:List α} {cs:List V},Win e b h cs xs->∀{i:Nat} {x:α},xs[i]? =some x->∃w,(cs.drop (i*e.sz)).take e.sz=w/\i*e.sz+e.sz<=cs.length/\e.rel b h x w
 |[],_,_,i,x,hx=>by simp at hx
 | y ::xs,_,⟨w,r,d,a,f⟩,i,x,hx=>by
   have c:=e.len a;subst d
   cases i with
   | zero=>
     simp at hx;subst hx
     exact⟨w,by simp[<-c],by simp only[wAM];omega,a⟩
   | succ i=>
     obtain⟨w',g,k,j⟩:=Win.get f (i:=i) (x:=x) (by simpa using hx);refine⟨w',?_,?_,j⟩
     ·rw[<-g,wBB,wCI,Nat.add_comm,<-c,<-wBp];simp
     ·simp only[wAM,wBB,wCI];omega
theorem Win.append {ys:List α}:∀{xs:List α} {cs ds:List V},Win e b h cs xs->cs.length=xs.length*e.sz->Win e b h ds ys->Win e b h (cs++ds) (xs++ys)
 | [],cs,ds,_,hl,a=>by
   have:cs=[]:=by cases cs <;> simp_all
   subst this;exact a
 | x::xs,_,ds,⟨w,r,c,a,d⟩,hl,f=>by
   subst c;have g:=e.len a;refine⟨w,r++ds,by simp,a,Win.append d ?_ f⟩;simp only[wAM,wAX,wBB,wCI]at hl;omega
theorem Win.take:∀{xs:List α} {cs:List V},Win e b h cs xs->Win e b h (cs.take (xs.length*e.sz)) xs
 |[],_,_=>trivial
 | _::xs,_,⟨w,r,c,a,d⟩=>by
   have f:=e.len a;subst c;refine⟨w,r.take (xs.length*e.sz),?_,a,Win.take d⟩;rw[List.take_append,wA1 (by simp only[wAX,wBB,wCI];omega)];congr 2;simp only[wAX,wBB,wCI];omega
theorem Win.more {ds:List V}:∀{xs:List α} {cs:List V},Win e b h cs xs->Win e b h (cs++ds) xs
 |[],_,_=>trivial
 |_::_,_,⟨w,r,a,c,d⟩=>⟨w,r++ds,by rw[a,wAU],c,Win.more d⟩
theorem Win.set:∀{xs:List α} {cs:List V},Win e b h cs xs->∀{i:Nat} {y:α} {w:List V},i<xs.length->e.rel b h y w->Win e b h (cs.take (i*e.sz)++w++cs.drop (i*e.sz+e.sz)) (xs.set i y)
 |[],_,_,i,y,w,hi,_=>by simp at hi
 | x ::xs,_,⟨u,r,f,a,c⟩,i,y,w,hi,hw=>by
   have d:=e.len a;have g:=e.len hw;subst f
   cases i with
   | zero=>
     refine⟨w,r,?_,hw,c⟩
     simp[<-d]
   | succ i=>
     refine⟨u,_,?_,a,Win.set c (i:=i) (y:=y) (w:=w) (by simpa using hi) hw⟩;have j:(i+1)*e.sz=u.length+i*e.sz:=by rw[wBB,wCI,d];omega
     have k:(i+1)*e.sz+e.sz=u.length+(i*e.sz+e.sz):=by omega
     rw[k,j,List.take_length_add_append,<-wBp,List.drop_left];simp only[wAU]
end
def SlR {α:Type} (e:Enc α) (b:Nat->Prop) (h:Hp) (xs:List α) (v:V):Prop:=
 (v = .nilSlice/\xs=[])\/∃l off ty live ro cs,v = .slice l off xs.length/\b l/\h.get l=some (.cells ty e.sz live ro cs)/\(xs=[]\/live=true)/\off<=cs.length/\Win e b h (cs.drop off) xs
section
variable{α:Type}{e:Enc α}{b:Nat->Prop}{h h':Hp}{xs:List α}{v:V}
theorem SlR.keep (a:∀l,b l->h'.get l=h.get l) (hs:SlR e b h xs v):SlR e b h' xs v:=by
 rcases hs with hs|⟨l,off,ty,live,ro,cs,d,c,f,g,i,j⟩
 ·exact .inl hs
 ·exact .inr ⟨l,off,ty,live,ro,cs,d,c,by rw[a l c];exact f,g,i,j.keep a⟩
theorem SlR.mono {a:Nat->Prop} (c:∀l,b l->a l) (hs:SlR e b h xs v):SlR e a h xs v:=by
 rcases hs with hs|⟨l,off,ty,live,ro,cs,d,f,g,i,j,k⟩
 ·exact .inl hs
 ·exact .inr ⟨l,off,ty,live,ro,cs,d,c l f,g,i,j,k.mono c⟩
theorem SlR.one (hs:SlR e b h xs v):v.one=true:=by
 rcases hs with⟨rfl,_⟩|⟨l,off,ty,live,ro,cs,rfl,_⟩ <;> rfl
end
def eL {α:Type} (e:Enc α):Enc (List α) where
 sz:=1
 rel b h xs cs:=∃v,cs=[v]/\SlR e b h xs v
 len:=λ⟨_,h,_⟩=>by subst h;rfl
 one:=λ⟨_,h,hs⟩=>by subst h;simp[hs.one]
 keep:=λa ⟨v,h,hs⟩=>⟨v,h,hs.keep a⟩
 mono:=λc ⟨v,h,hs⟩=>⟨v,h,hs.mono c⟩
section
variable{α:Type}{e:Enc α}{b:Nat->Prop}{h h':Hp}{xs:List α}{v:V}
theorem SlR.ext (a:Grows h h') (c:∀l,b l->l<h.next) (hs:SlR e b h xs v):SlR e b h' xs v:=
 hs.keep λl d=>a.keep l (c l d) (λh=>h)
theorem SlR.len (hs:SlR e b h xs v):pLen v=some (.int .i64 xs.length):=by
 rcases hs with⟨rfl,rfl⟩|⟨l,off,ty,live,ro,cs,rfl,_⟩ <;> rfl
theorem SlR.nil:SlR e b h [] .nilSlice:= .inl ⟨rfl,rfl⟩
theorem SlR.ix (hs:SlR e b h xs v) {i:Nat} (hi:i<xs.length) (kd:IntKind) :
  ∃l o w,b l/\pIx e.sz v (.int kd i)=some (.ptr l o)/\pLdA e.sz (.ptr l o) h=some (.agg w)/\e.rel b h xs[i] w/\∀k u,w[k]? =some u->pLd (.ptr l (o+k)) h=some u:=by
 rcases hs with⟨_,rfl⟩|⟨l,off,ty,live,ro,cs,rfl,g,c,j,r,m⟩
 ·simp at hi
 ·obtain rfl:live=true:=j.resolve_left (λe=>by subst e;simp at hi);obtain⟨w,n,p,d⟩:=m.get (i:=i) (x:=xs[i]) (wAA hi);rw[wBy]at p;have f:(cs.drop (off+i*e.sz)).take e.sz=w:=by rw[<-n,wBp]
  refine⟨l,off+i*e.sz,w,g,uD _ _ _ _ _ _ hi,?_,d,λk u a=>?_⟩
  ·rw[wK c,ve (by omega),f];rfl
  ·rw[Fo c,FN];have q:k<e.sz:=by rw[<-e.len d];exact(wAB.1 a).1
   rw[<-f,wBA q,wBI]at a;exact a
theorem SlR.ix1 (hs:SlR e b h xs v) {i:Nat} (hi:i<xs.length) (kd:IntKind) (a:e.sz=1) :
  ∃l o u,b l/\pIx 1 v (.int kd i)=some (.ptr l o)/\pLd (.ptr l o) h=some u/\e.rel b h xs[i] [u]:=by
 obtain ⟨l,o,w,h0,c,_,d,g⟩:=hs.ix hi kd;rw[a]at c;have f:=e.len d;rw[a]at f;obtain⟨u,rfl⟩:∃u,w=[u]:=by
  match w,f with
  |[u],_=>exact⟨u,rfl⟩
 exact⟨l,o,u,h0,c,g 0 u rfl,d⟩
theorem SlR.new' {a:Nat->Prop} {ty:Nat} {ro:Bool} {cs:List V} (d:Win e b h cs xs) (f:∀l,b l->l<h.next) (c:∀l,b l->a l) (g:a h.next):SlR e a (h.new (.cells ty e.sz true ro cs)) xs (.slice h.next 0 xs.length):=
 .inr ⟨h.next,0,ty,true,ro,cs,rfl,g,ef _ _,.inr rfl,wA5 _,(d.keep λl i=>er _ (f l i)).mono c⟩
theorem SlR.new {ty:Nat} {ro:Bool} {cs:List V} {n:Nat} (c:Win e (lo n) h cs xs) (b:n<=h.next):SlR e (lo (h.next+1)) (h.new (.cells ty e.sz true ro cs)) xs (.slice h.next 0 xs.length):=
 .new' c (λ_ a=>wAO a b) (λ_ a=>wB6 (wAO a b)) (wAk _)
end
section
variable (t:Nat)(k:IntKind)(a b:Int)
@[simp] theorem BP:hbin .add t (.int k a) (.int k b)=some (.int k (wrapF k (a+b))):=by cases k <;> rfl
@[simp] theorem oV:hbin .sub t (.int k a) (.int k b)=some (.int k (wrapF k (a-b))):=by cases k <;> rfl
@[simp] theorem Kx:hbin .mul t (.int k a) (.int k b)=some (.int k (wrapF k (a*b))):=by cases k <;> rfl
@[simp] theorem j4:hbin .lss t (.int k a) (.int k b)=some (.bool (decide (a<b))):=by cases k <;> rfl
@[simp] theorem Hu:hbin .leq t (.int k a) (.int k b)=some (.bool (decide (a<=b))):=by cases k <;> rfl
@[simp] theorem kK:hbin .gtr t (.int k a) (.int k b)=some (.bool (decide (b<a))):=by cases k <;> rfl
@[simp] theorem kX:hbin .geq t (.int k a) (.int k b)=some (.bool (decide (b<=a))):=by cases k <;> rfl
@[simp] theorem fF:hbin .eql t (.int k a) (.int k b)=some (.bool (a == b)):=by cases k <;> rfl
@[simp] theorem ut:hbin .neq t (.int k a) (.int k b)=some (.bool (a != b)):=by cases k <;> rfl
@[simp] theorem FZ (x y:List UInt8):hbin .eql t (.str x) (.str y)=some (.bool (x == y)):=rfl
@[simp] theorem J1 (x y:List UInt8):hbin .neq t (.str x) (.str y)=some (.bool (!(x == y))):=rfl
@[simp] theorem Jd (x:Bool):hun .not (.bool x)=some (.bool !x):=rfl
@[simp] theorem KH:hun .neg (.int k a)=some (.int k (wrapF k (0-a))):=rfl
theorem sj {k:IntKind} {n:Int} (h:inK k n):wrapF k n=n:=by
 rw[sY];cases k <;> simp only[inK]at h <;> simp only[IntKind.wrap,IntKind.signed,IntKind.bits,Bool.true_and,Bool.false_and,wAe,wAo,if_false,Nat.reduceSub,Int.reducePow,ge_iff_le] <;> (try split) <;> omega
@[simp] theorem J3 {n:Nat} (h:n<9223372036854775808):wrapF .i64 (n:Int)=n:=sj (by simp only[inK];omega)
@[simp] theorem Hh (g:Bool):hmin g (.int k a) [.int k b]=some (.int k (if g then max a b else min a b)):=by
 cases g
 ·show some (V.int k (if b<a then b else a))=_;simp only[wAo,if_false];congr 2;omega
 ·show some (V.int k (if b>a then b else a))=_;simp only[if_true];congr 2;omega
end
theorem Hf (n:Nat) (z:V):repl n [z]=List.replicate n z:=by
 induction n with
 |zero=>rfl
 |succ n a=>simp only[repl,a];rfl
theorem B0 {e sz by_ n:Nat} {z:V} (a:n*by_<=281474976710656) (b:n<=1099511627776) :
  hmakeSlice e sz by_ z (.int .i64 (n:Int)) (.int .i64 (n:Int))=some (O.cells e sz true false (repl n z.cells),λl=>V.slice l 0 n):=by
 show bB (Nat.ble n n) (bB (Nat.ble (n*by_) 281474976710656) (bB (Nat.ble n 1099511627776) (some (O.cells e sz true false (repl n z.cells),λl=>V.slice l 0 n))))=_;rw[go _ (wAS (wAF _)),go _ (wAS a),go _ (wAS b)]
theorem E4 {cs:List V} {v:V}:∀{o:Nat},o<cs.length->splice o cs [v]=some (cs.set o v):=by
 induction cs with
 |nil=>intro o h;simp at h
 | cons c cs a=>
   intro o h
   cases o with
   |zero=>rfl
   | succ o=>
     have:=a (o:=o) (by simpa using h);simp only[splice,this,en,wAE]
theorem Fx:∀{ws cs:List V},ws.length<=cs.length->over ws cs=some (ws++cs.drop ws.length)
 |[],_,_=>rfl
 |w::ws,[],h=>by simp at h
 | w::ws,c::cs,h=>by
   have:=Fx (ws:=ws) (cs:=cs) (by simpa using h);simp only[over,this,en,wAX,List.drop_succ_cons,wBC]
theorem uu:∀{o:Nat} {cs ws:List V},o+ws.length<=cs.length->splice o cs ws=some (cs.take o++ws++cs.drop (o+ws.length))
 |0,cs,ws,h=>by simp only[splice,Fx (by simpa using h),wBU,wAl,wAY]
 |o+1,[],ws,h=>by simp at h
 | o+1,c::cs,ws,h=>by
   have:=uu (o:=o) (cs:=cs) (ws:=ws) (by simp at h;omega);simp only[splice,this,en,List.take_succ_cons,wBC];rw[show o+1+ws.length=(o+ws.length)+1 by omega,List.drop_succ_cons]
theorem Cv {v:V} (h:v.one=true):v.cells=[v]:=by
 cases v <;> first|rfl|cases h
section
variable{l o e sz:Nat}{cs:List V}{h:Hp}{v:V}
theorem BQ (b:h.get l=some (.cells e sz true false cs)) (c:o<cs.length) (a:v.one=true):pSt 1 (.ptr l o) v h=some (.val .undef (h.put l (.cells e sz true false (cs.set o v)))):=by
 unfold pSt stAt cellsAt;simp only[rW,Cv a,wAX,wBe,b,en,j6,wBd,ee,a,EL,Bool.and_self,E4 c];rfl
theorem xL {ws:List V} {n:Nat} (a:h.get l=some (.cells e sz true false cs)) (b:ws.length=n) (hc:cs.length=n) (c:allOne ws=true):pSt n (.ptr l 0) (.agg ws) h=some (.val .undef (h.put l (.cells e sz true false ws))):=by
 unfold pSt stAt cellsAt;have hs:splice 0 cs ws=some ws:=by
  rw[uu (by omega),wBU,wAl,wAY,List.drop_of_length_le (by omega),wAa]
 simp only[rW,V.cells,a,en,j6,wBd,c,hs];rw[go _ (by rw[b];exact wBG n)]
theorem gZ{u:V}{ro:Bool}(a:h.get l=some (.cells e sz true ro cs))(b:cs[o]? =some u):pLd (.ptr l o) h=some u:=by rw[Fo a,FN,b]
theorem uL {n:Nat} {ro:Bool} (a:h.get l=some (.cells e sz true ro cs)) (b:cs.length=n):pLdA n (.ptr l 0) h=some (.agg cs):=by
 rw[wK a,ve (by omega),wBT,wA1 (by omega)];rfl
end
section
variable{α:Type}{e:Enc α}{b:Nat->Prop}{h:Hp}
theorem Win.drop:∀{xs:List α} {cs:List V} (n:Nat),Win e b h cs xs->n<=xs.length->Win e b h (cs.drop (n*e.sz)) (xs.drop n)
 |xs,cs,0,hw,_=>by simpa using hw
 |[],cs,n+1,_,hn=>by simp at hn
 | x::xs,cs,n+1,⟨w,r,c,d,f⟩,hn=>by
   have:=Win.drop n f (by simpa using hn);have a:=e.len d;subst c;rw[List.drop_succ_cons,wBB,wCI,Nat.add_comm,<-wBp,<-a,List.drop_left];rw[a];exact this
theorem Win.taken:∀{xs:List α} {cs:List V} (n:Nat),Win e b h cs xs->Win e b h cs (xs.take n)
 |xs,cs,0,_=>by simp only[wBU];trivial
 |[],cs,n+1,_=>by simp only[List.take_nil];trivial
 |x::xs,cs,n+1,⟨w,r,a,c,d⟩=>⟨w,r,a,c,Win.taken n d⟩
theorem xI (z:Nat) (k:IntKind) (n:Nat):hbound z (some (.int k n))=some n:=by
 unfold hbound;simp only[Fh]
theorem wP (z:Nat):hbound z none=some z:=rfl
theorem SlR.cut {xs:List α} {v:V} (hs:SlR e b h xs v) {lo hi:Option V} {m n:Nat} (a:hbound 0 lo=some m) (c:hbound xs.length hi=some n) (i:m<=n) (f:n<=xs.length) :
  ∃j,hsliceV e.sz v lo hi h=some j/\SlR e b h ((xs.take n).drop m) j:=by
 rcases hs with⟨rfl,rfl⟩|⟨l,off,ty,live,ro,cs,rfl,q,k,d,s,o⟩
 ·simp at f;subst f;obtain rfl:m=0:=by omega
  refine⟨.nilSlice,?_,.inl ⟨rfl,by simp⟩⟩;unfold hsliceV;simp only[a,en];rw[show hbound 0 hi=some 0 from c];rfl
 ·have r:=o.length;have p:m*e.sz<=n*e.sz:=wB3 _ i;have g:n*e.sz<=xs.length*e.sz:=wB3 _ f;rw[wBy]at r;refine⟨.slice l (off+m*e.sz) (n-m),?_,?_⟩
  ·unfold hsliceV cellsAt;simp only[k,en,a,c];rw[go _ (wBG _),go _ (wAS i),go _ (by rw[wAS f];rfl)];rfl
  ·have hlen:((xs.take n).drop m).length=n-m:=by rw[wBy,wAc];omega
   refine .inr ⟨l,off+m*e.sz,ty,live,ro,cs,by rw[hlen],q,k,?_,by omega,?_⟩
   ·rcases d with d|d
    ·left;subst d;simp
    ·exact .inr d
   ·rw[<-wBp];exact(o.taken n).drop m (by rw[wAc];omega)
end
def Own (e sz a:Nat) (h:Hp) (cs:List V) (n:Nat) (v:V):Prop:=
 (v = .nilSlice/\cs=[]/\n=0)\/∃t,v = .slice t 0 n/\a<=t/\t<h.next/\h.get t=some (.cells e sz true false cs)/\cs.length=n*sz
section
variable{e sz a n:Nat}{h h':Hp}{cs:List V}{v:V}
theorem Own.nil:Own e sz a h [] 0 .nilSlice:= .inl ⟨rfl,rfl,rfl⟩
theorem Own.len (b:Own e sz a h cs n v):pLen v=some (.int .i64 n):=by
 rcases b with⟨rfl,rfl,rfl⟩|⟨t,rfl,_⟩ <;> rfl
theorem Own.size (b:Own e sz a h cs n v):cs.length=n*sz:=by
 rcases b with⟨rfl,rfl,rfl⟩|⟨t,rfl,_,_,_,c⟩
 ·simp
 ·exact c
theorem Own.one (b:Own e sz a h cs n v):v.one=true:=by
 rcases b with⟨rfl,rfl,rfl⟩|⟨t,rfl,_⟩ <;> rfl
theorem Own.low {c:Nat} (d:c<=a) (b:Own e sz a h cs n v):Own e sz c h cs n v:=by
 rcases b with b|⟨t,f,g,i⟩
 ·exact .inl b
 ·exact .inr ⟨t,f,wAq d g,i⟩
theorem Own.append {by_ k:Nat} {x:V} {new:List V} (r:Own e sz a h cs n v) (i:xcells h sz x=some (k,new)) (s:0<k) (j:new.length=k*sz) (u:allOne cs=true) (m:allOne new=true) (o:a<=h.next)
  (p:(n+k)*by_<=70368744177664) (c:n+k<=70368744177664) (w:0<sz) :
  ∃g h',happend e sz by_ v x h=some (.val g h')/\Own e sz a h' (cs++new) (n+k) g/\Chg (λl=>v = .slice l 0 n) h h'/\h'.next=h.next+1/\g = .slice h.next 0 (n+k):=by
 have d:Nat.beq k 0=false:=by cases k with
  |zero=>omega
  |succ k=>rfl
 rcases r with⟨rfl,rfl,rfl⟩|⟨t,rfl,A,y,z,q⟩
 ·refine⟨.slice h.next 0 k,h.new (.cells e sz true false new),?_,.inr ⟨h.next,by rw[wAY],o,wAk _,by rw[wAl];exact ef _ _,by simp[j]⟩,Chg.new _ _,rfl,by rw[wAY]⟩;unfold happend;simp only[i,en,d,m,j6];rw[go _ (wAS (by simpa using p)),go _ (wAS (by simpa using c))]
 ·refine ⟨.slice h.next 0 (n+k),(h.put t (.cells e sz false false cs)).new (.cells e sz true false (cs++new)),?_,.inr ⟨h.next,rfl,o,wAk _,ef (h.put t _) _,by rw[wAM,q,j,wBB]⟩,?_,rfl,rfl⟩
  ·unfold happend cellsAt;have b:Nat.ble (Nat.add 0 (Nat.mul (Nat.add n k) sz)) cs.length=false:=by
    rw[<-Bool.not_eq_true,Nat.ble_eq];show ¬(0+(n+k)*sz<=cs.length);rw[q,wBB];have:0<k*sz:=Nat.mul_pos s w;omega
   have f:sub cs 0 (Nat.mul n sz)=some cs:=by
    show sub cs 0 (n*sz)=some cs;rw[ve (show 0+n*sz<=cs.length by omega),wBT,wA1 (show cs.length<=n*sz by omega)]
   simp only[i,en,d,m,j6,z,wBd,b,f,u];rw[go _ (wBG _),go _ (show Nat.ble (Nat.mul (Nat.add n k) by_) 70368744177664=true from wAS p),go _ (show Nat.ble (Nat.add n k) 70368744177664=true from wAS c)];rfl
  ·exact(Chg.put (S:=λl=>V.slice t 0 n = .slice l 0 n) (.cells e sz false false cs) rfl y).trans (Chg.new _ _)
theorem jl {e sz k:Nat} {h:Hp} {cs:List V} {ro:Bool} (a:cs.length=(k+1)*sz):xcells (h.new (.cells e sz true ro cs)) sz (.slice h.next 0 (k+1))=some (k+1,cs):=by
 unfold xcells ldAt cellsAt;have:sub cs 0 (Nat.mul (Nat.succ k) sz)=some cs:=by
  show sub cs 0 ((k+1)*sz)=some cs;rw[ve (show 0+(k+1)*sz<=cs.length by omega),wBT,wA1 (show cs.length<=(k+1)*sz by omega)]
 simp only[ef,en,j6,this]
theorem Own.slR {α:Type} {E:Enc α} {xs:List α} (c:Own e E.sz a h cs xs.length v) {b:Nat->Prop} (d:∀t,v = .slice t 0 xs.length->b t) (f:Win E b h cs xs):SlR E b h xs v:=by
 rcases c with⟨rfl,rfl,h0⟩|⟨t,rfl,_,i,g,j⟩
 ·exact .inl ⟨rfl,wAf h0⟩
 ·exact .inr ⟨t,0,e,true,false,cs,rfl,d t rfl,g,.inr rfl,wA5 _,by simpa using f⟩
end
