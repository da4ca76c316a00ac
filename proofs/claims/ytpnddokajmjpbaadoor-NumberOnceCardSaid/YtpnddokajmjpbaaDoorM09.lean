/- Parts. -/
import Derived.Test.YtpnddokajmjpbaaDoorM08
import Derived.KernelRfl
namespace Go.Proofs.YtpnddokajmjpbaaDoor.Hx
def _root_.Go.Code.l:Code->Code
 | .seq a _=>a
 | .cond _ a _=>a
 | .block _ c=>c
 | .loop c=>c
 |_=> .skip
def _root_.Go.Code.r:Code->Code
 | .seq _ b=>b
 | .cond _ _ b=>b
 |_=> .skip
def Mu (fn:Func):Code:=match fn.body with
 |some c=>c
 |none=> .skip
noncomputable section
def ev (a:V)(h:Hp):Option V:=xJ a λl off=>ZR h l off
def gg (n:Nat)(a:V)(h:Hp):Option V:=xJ a λl off=>oB (Ey h l off n) λcs=>some (.agg cs)
def fH (k:Nat)(x:V):Option V:=xJ x λl off=>some (.ptr l (Nat.add off k))
def gD (n:Nat) (x i:V):Option V:=asNat i λi=>match x with
 | .slice l off len=>bB (Nat.blt i len) (some (.ptr l (Nat.add off (Nat.mul i n))))
 |_=>none
def Ys (len n:Nat)(x i:V):Option V:=asNat i λi=>xJ x λl off=>bB (Nat.blt i len) (some (.ptr l (Nat.add off (Nat.mul i n))))
def zbn (k:Nat) (x:V):Option V:=match x with
 | .agg cs=>AB cs k
 |_=>none
def lJ (c a b:V):Option V:=match c with
 | .bool x=>Bool.rec (motive:=λ_=>Option V) (some b) (some a) x
 |_=>none
def iq (x:V):Option V:=match x with
 | .ptr l off=>some (.ptr l off)
 | .func f a c=>some (.func f a c)
 | .iface u v=>some (.iface u v)
 |_=>none
def zae (k:IntKind) (x:V):Option V:=match x with
 | .int _ n=>some (.int k (mO k n))
 |_=>none
def fN (z:List V)(a:List (Nat×Nat))(ps:List (Nat×V)):Option V:=oB (Bn (λi=>a[i]?) z ps) λcs=>some (.agg cs)
def My (i:Nat) (x:V):Option V:=match x with
 | .tuple vs=>AB vs i
 |_=>none
def zaq (x:V):Option V:=match x with
 | .str s=>some (.int .i64 (.ofNat s.length))
 |_=>none
def fD (x:V):Option V:=match x with
 | .slice _ _ n=>some (.int .i64 (.ofNat n))
 | .ec=>some (.int .i64 (.ofNat 0))
 |_=>none
def Iq (a:Nat) (d:Option (List Field)) (z:V) (ok:Bool) (m k:V) (h:Hp):Option V:=bB (Fu d k) (match m with
 | .j9=>some (found z ok none)
 | .map l=>xh h l λb _=>oB (oJ a d k b 0) λr=>some (found z ok r)
 |_=>none)
def iZ (a size len:Nat) (z:V) (ps:List (Nat×V)):Option (O×(Nat->V)):=
 oB (Bn (λi=>some (Nat.mul i size,size)) (yT len z.cells) ps) λcs=>bB (fV cs) (some (.cells a size true false cs,λl=> .slice l 0 len))
def gB (n:Nat)(a v:V)(h:Hp):Option R:=xJ a λl off=>bB (Nat.beq v.cells.length n) (oB (CB h l off v.cells) λh=>some (.val .undef h))
end
noncomputable section
def fm (x:Option R)(K:V->Hp->Prop):Prop:=oP (oB x valOf) λy=>K y.1 y.2
def gU (C:fu)(x:Option R)(h:Hp)(K:V->Hp->Prop):Prop:=oP (oB x Fq) λy=>cP C y.1 y.2 h K
def dcP (C:fu)(f:Nat)(l:List V)(h:Hp)(K:V->Hp->Prop):Prop:=oP (some (f,l)) λy=>cP C y.1 y.2 h K
def ij (x:Option (O×(Nat->V)))(h:Hp)(K:V->Hp->Prop):Prop:=oP x λr=>K (r.2 h.next) (h.new r.1)
def wS (x:Option (O×(Nat->V)))(h:Hp)(K:O->V->Hp->Prop):Prop:=oP x λr=>K r.1 (r.2 h.next) (h.new r.1)
def ghP (b:Bool)(h:Hp)(x:Option (V×Hp))(K:V->Hp->Prop):Prop:=oP (gH b h x) λy=>K y.1 y.2
def gT (b:Bool)(p:Prop):Prop:=Bool.rec (motive:=λ_=>Prop) True p b
def fO (w:Bool) (x:V):Option Bool:=match x with
 | .bool b=>some (Bool.rec (motive:=λ_=>Bool) (!w) w b)
 | .tuple []=>some false
 |_=>none
end
theorem St (f:Nat->V) (d:Nat) (v:V):gv f d v d=v:=by
 unfold gv;rw[MV]
theorem Xw (f:Nat->V) {d i:Nat} (v:V) (h:i≠d):gv f d v i=f i:=by
 unfold gv
 cases hb:Nat.beq i d with
 |true=>exact absurd (tU hb) h
 |false=>rfl
@[simp] theorem fh {α β:Type} (a:α) (k:α->Option β):oB (some a) k=k a:=rfl
@[simp] theorem zaI {α β:Type} (k:α->Option β):oB (none:Option α) k=none:=rfl
@[simp] theorem kI {β:Type} (k:Option β):bB true k=k:=rfl
@[simp] theorem ZS {β:Type} (k:Option β):bB false k=none:=rfl
theorem jm{β:Type}{c:Bool}(k:Option β)(h:c=true):bB c k=k:=by subst h;rfl
@[simp] theorem vT {β:Type} (l o:Nat) (k:Nat->Nat->Option β):xJ (.ptr l o) k=k l o:=rfl
@[simp] theorem XS {β:Type} (kd:IntKind) (n:Nat) (k:Nat->Option β):asNat (.int kd (.ofNat n)) k=k n:=rfl
@[simp] theorem Ql {β:Type} (kd:IntKind) (n:Nat) (k:Nat->Option β):asNat (.int kd (n:Int)) k=k n:=rfl
@[simp] theorem ZG {β:Type} (kd:IntKind) (n:Nat) (k:Nat->Option β):asNat (.int kd (OfNat.ofNat n:Int)) k=k n:=rfl
@[simp] theorem YT {β:Type} (kd:IntKind) (k:Nat->Option β):asNat (.int kd 0) k=k 0:=rfl
@[simp] theorem ZD {β:Type} (kd:IntKind) (k:Nat->Option β):asNat (.int kd 1) k=k 1:=rfl
@[simp] theorem ez (k l o:Nat):fH k (.ptr l o)=some (.ptr l (o+k)):=rfl
@[simp] theorem fT (l o:Nat):iq (.ptr l o)=some (.ptr l o):=rfl
@[simp] theorem ZE (f:Nat) (a c:List V):iq (.func f a c)=some (.func f a c):=rfl
@[simp] theorem YH (l o n:Nat):fD (.slice l o n)=some (.int .i64 n):=rfl
@[simp] theorem zaN:fD .ec=some (.int .i64 0):=rfl
@[simp] theorem ZH (s:List UInt8):zaq (.str s)=some (.int .i64 s.length):=rfl
@[simp] theorem JG (x:Bool) (a b:V):lJ (.bool x) a b=some (if x=true then a else b):=by cases x <;> rfl
@[simp] theorem ZW (k k':IntKind) (n:Int):zae k (.int k' n)=some (.int k (mO k n)):=rfl
@[simp] theorem BJ (i:Nat) (vs:List V):My i (.tuple vs)=AB vs i:=rfl
@[simp] theorem zai (k:Nat) (cs:List V):zbn k (.agg cs)=AB cs k:=rfl
@[simp] theorem fq (o:O) (f:Nat->V) (h:Hp) (K:V->Hp->Prop):ij (some (o,f)) h K=K (f h.next) (h.new o):=rfl
@[simp] theorem gY (o:O) (f:Nat->V) (h:Hp) (K:O->V->Hp->Prop):wS (some (o,f)) h K=K o (f h.next) (h.new o):=rfl
@[simp] theorem ef (v:V) (h:Hp) (K:V->Hp->Prop):fm (some (.val v h)) K=K v h:=rfl
@[simp] theorem L5 (C:fu) (f:Nat) (l:List V) (h:Hp) (K:V->Hp->Prop):gU C (some (.call f l)) h K=cP C f l h K:=rfl
@[simp] theorem zbo (C:fu) (f:Nat) (l:List V) (h:Hp) (K:V->Hp->Prop):dcP C f l h K=cP C f l h K:=rfl
@[simp] theorem JI (f:Nat) (a c l:List V):fU (.func f a c) l=some (.call f (a++(l++c))):=rfl
@[simp] theorem zac (w b:Bool):fO w (.bool b)=some (b == w):=by cases w <;> cases b <;> rfl
@[simp] theorem za8 (x:Option V):gV true x=x:=rfl
@[simp] theorem zaw (x:Option V):gV false x=some .undef:=rfl
@[simp] theorem za7 (x:Option (Nat×List V)):gC true x=oB x λy=>some (some y):=rfl
@[simp] theorem zaR (x:Option (Nat×List V)):gC false x=some none:=rfl
@[simp] theorem za9 (p:Prop):gT true p=p:=rfl
@[simp] theorem zax (p:Prop):gT false p=True:=rfl
@[simp] theorem zaE (C:fu) (y:Nat×List V) (h:Hp) (K:V->Hp->Prop):wR C (some y) h K=cP C y.1 y.2 h K:=rfl
@[simp] theorem zao (C:fu) (h:Hp) (K:V->Hp->Prop):wR C none h K=K .undef h:=rfl
theorem vL (n l o len i:Nat) (kd:IntKind) (h:i<len):gD n (.slice l o len) (.int kd i)=some (.ptr l (o+i*n)):=by
 show bB (Nat.blt i len) _=_;rw[jm _ (by rw[LS];exact h)];rfl
theorem Mo {l o e sz:Nat} {ro:Bool} {cs:List V} {h:Hp} (a:h.get l=some (.cells e sz true ro cs)):ev (.ptr l o) h=AB cs o:=by
 unfold ev ZR jq;simp only[vT,a,fh,kI]
theorem yW {n l o e sz:Nat} {ro:Bool} {cs:List V} {h:Hp} (a:h.get l=some (.cells e sz true ro cs)):gg n (.ptr l o) h=oB (sub cs o n) λcs=>some (.agg cs):=by
 unfold gg Ey jq;simp only[vT,a,fh,kI]
@[simp] theorem zaz (v:V) (l:List V):AB (v::l) 0=some v:=rfl
@[simp] theorem za2 (v:V) (l:List V) (n:Nat):AB (v::l) (n+1)=AB l n:=rfl
theorem Mw (l:List V)(n:Nat):AB l n=l[n]?:=by unfold AB;rw[List.head?_drop]
@[simp] theorem YL (l:List V):takeN 0 l=some []:=by cases l <;> rfl
@[simp] theorem Zh (n:Nat) (v:V) (l:List V):takeN (n+1) (v::l)=oB (takeN n l) λr=>some (v::r):=rfl
theorem Oz:∀(n:Nat) (l:List V),n<=l.length->takeN n l=some (l.take n)
 |0,l,_=>by cases l <;> rfl
 |n+1,[],h=>by simp at h
 |n+1,v::l,h=>by simp only[takeN,Oz n l (by simpa using h),fh,List.take_succ_cons]
theorem AE {l:List V} {o n:Nat} (h:o+n<=l.length):sub l o n=some ((l.drop o).take n):=by
 unfold sub;exact Oz _ _ (by simp;omega)
@[simp] theorem gI {α:Type} (a:α) (k:α->Prop):oP (some a) k=k a:=rfl
@[simp] theorem wE (x:Bool) (a b:Prop):bP (.bool x) a b=if x=true then a else b:=gW x a b
@[simp] theorem ZN (v:V) (h:Hp):valOf (.val v h)=some (v,h):=rfl
@[simp] theorem Yc (f:Nat) (l:List V):Fq (.call f l)=some (f,l):=rfl
section
variable{C:fu}{n:Nat}{Q:X->fZ->Hp->Prop}{ρ:fZ}{h:Hp}
theorem Wp.of{c:Code}{P:Prop}(e:vz C n c Q ρ h=P)(a:P):Wp C n c Q ρ h:=Wp.code c (e.mpr a)
theorem K4{α:Type}{a:α}{k:α->Prop}(h:k a):oP (some a) k:=h
theorem oM {α:Type} {x:Option α} {k k':α->Prop} (h:oP x k) (f:∀a,x=some a->k a->k' a):oP x k':=by
 obtain⟨a,b,c⟩:=jC.1 h;exact ed b (f a b c)
theorem bM {v:V} {a b c d:Prop} (h:bP v a b) (f:a->c) (g:b->d):bP v c d:=by
 unfold bP at h⊢;split at h
 ·rename_i x
  cases x with
  |true=>exact f h
  |false=>exact g h
 ·exact h.elim
theorem dcM {f:Nat} {l:List V} {k k':V->Hp->Prop} (h':cP C f l h k) (F:∀v h',k v h'->k' v h'):dcP C f l h k':=by
 show cP C f l h k';exact h'.mono F
theorem cgM {x:Option (Nat×List V)} {k k':V->Hp->Prop} (h':wR C x h k) (F:∀v h',k v h'->k' v h'):wR C x h k':=by
 cases x with
 |none=>exact F _ _ h'
 |some y=>exact cP.mono h' F
theorem alM {x:Option (O×(Nat->V))} {k k':V->Hp->Prop} (h':ij x h k) (F:∀v h',k v h'->k' v h'):ij x h k':=
 oM h' λ_ _ H=>F _ _ H
theorem zba {x:Option R} {k k':V->Hp->Prop} (h':fm x k) (F:∀v h',k v h'->k' v h'):fm x k':=
 oM h' λ_ _ H=>F _ _ H
end
theorem anM{a b c:Prop}(h:c/\a)(f:a->b):c/\b:=⟨h.1,f h.2⟩
@[simp] theorem O.gL (e sz:Nat) (a r:Bool) (cs:List V):O.beq (.cells e sz a r cs) (.cells e sz a r cs)=true:=by
 simp[O.beq,V.yi]
@[simp] theorem O.MP (c:Nat):O.beq (.map [] c) (.map [] c)=true:=by simp[O.beq]
def pN (c:V) (X:Option V):Option V:=match c with
 | .bool true=>some (.bool true)
 | .bool false=>X
 |_=>none
def jK (c:V) (X:Option V):Option V:=match c with
 | .bool false=>some (.bool false)
 | .bool true=>X
 |_=>none
@[simp] theorem zab (X:Option V):pN (.bool true) X=some (.bool true):=rfl
@[simp] theorem nq (X:Option V):pN (.bool false) X=X:=rfl
@[simp] theorem vD (X:Option V):jK (.bool true) X=X:=rfl
@[simp] theorem FM (X:Option V):jK (.bool false) X=some (.bool false):=rfl
@[simp] theorem wM (c d:Bool):pN (.bool c) (some (.bool d))=some (.bool (c ||d)):=by cases c <;> rfl
@[simp] theorem ji (c d:Bool):jK (.bool c) (some (.bool d))=some (.bool (c&&d)):=by cases c <;> rfl
theorem thn{A B:Prop}(a:A)(f:A->B):B:=f a
section
variable{c c' Xc:V}{X X':Option V}{K:V->Prop}{f:V->Option V}{w b0:Bool}
theorem QQ (H:oP (pN c X) K):oP (fO false c) λb=>oP (gV b X) λv=>oP (lJ c (.bool true) v) K:=by
 unfold pN at H;split at H
 ·exact H
 ·exact H
 ·exact H.elim
theorem On (H:oP (jK c X) K):oP (fO true c) λb=>oP (gV b X) λv=>oP (lJ c v (.bool false)) K:=by
 unfold jK at H;split at H
 ·exact H
 ·exact H
 ·exact H.elim
theorem sG1 {R:Bool->V->Prop} (H:oP (fO w c) λb=>oP (gV b (oB X f)) K) (F:∀b,fO w c=some b->∀v,gV b X=some v->(oP (fO w c) λb=>oP (gV b (f v)) K)->R b v):oP (fO w c) λb=>oP (gV b X) λv=>R b v:=by
 obtain⟨b,a,d⟩:=jC.1 H;refine ed a ?_
 cases b with
 | true=>
   obtain⟨v,g,h⟩:=jC.1 d;obtain⟨x,e,i⟩:=fj.1 (show oB X f=some v from g)
   exact ed (show gV true X=some x from e) (F true a x e (ed a (ed (show gV true (f x)=some v from i) h)))
 |false=>exact F false a .undef rfl (ed a d)
theorem wB {b:Bool} {v:V} (E:gV b X=some v):gT b (X=some v):=by
 cases b with
 |true=>exact E
 |false=>trivial
end
structure jZ (S:Nat->Prop) (h h':Hp):Prop where
 next:h.next<=h'.next
 fc:∀l,l<h.next->¬S l->h'.get l=h.get l
abbrev Cq (h h':Hp):Prop:=jZ (λ_=>False) h h'
theorem jZ.refl (S:Nat->Prop)(h:Hp):jZ S h h:=⟨iW _,λ_ _ _=>rfl⟩
theorem jZ.trans' {S S':Nat->Prop} {h h' c:Hp} (a:jZ S h h') (b:jZ S' h' c) (hs:∀l,l<h.next->S' l->S l):jZ S h c:=
 ⟨Ez a.next b.next,λl d e=>by rw[b.fc l (Ac d a.next) (λh=>e (hs l d h)),a.fc l d e]⟩
theorem jZ.trans{S:Nat->Prop}{h h' c:Hp}(a:jZ S h h')(b:jZ S h' c):jZ S h c:=a.trans' b λ_ _ h=>h
theorem jZ.N2 {S S':Nat->Prop} {h h':Hp} (a:jZ S h h') (hs:∀l,l<h.next->S l->S' l):jZ S' h h':=
 ⟨a.next,λl b c=>a.fc l b λh=>c (hs l b h)⟩
theorem Cq.N2{S:Nat->Prop}{h h':Hp}(a:Cq h h'):jZ S h h':=jZ.N2 a λ_ _ h=>h.elim
theorem jZ.new {S:Nat->Prop} (h:Hp) (o:O):jZ S h (h.new o):=
 ⟨Nv _,λl a _=>by rw[uE,if_neg (by omega)]⟩
theorem jZ.put {S:Nat->Prop} {h:Hp} {l:Nat} (o:O) (hs:S l) (a:l<h.next):jZ S h (h.put l o):=
 ⟨iW _,λm _ b=>by rw[oE _ _ a,if_neg (λe=>b (by rw[<-e];exact hs))]⟩
theorem fg (h:Hp)(o:O):(h.new o).get h.next=some o:=by rw[uE,if_pos rfl]
theorem fk{h:Hp}(o:O){l:Nat}(a:l<h.next):(h.new o).get l=h.get l:=by rw[uE,if_neg (by omega)]
theorem fP{h:Hp}{l:Nat}(o:O)(a:l<h.next):(h.put l o).get l=some o:=by rw[oE _ _ a,if_pos rfl]
theorem gf{h:Hp}{l m:Nat}(o:O)(a:l<h.next)(b:l≠m):(h.put l o).get m=h.get m:=by rw[oE _ _ a,if_neg b]
@[simp] theorem zaW (h:Hp) (o:O):(h.new o).next=h.next+1:=rfl
@[simp] theorem zam (h:Hp) (l:Nat) (o:O):(h.put l o).next=h.next:=rfl
structure nQ (α:Type) where
 sz:Nat
 rel:(Nat->Prop)->Hp->α->List V->Prop
 len:∀{b h x cs},rel b h x cs->cs.length=sz
 one:∀{b h x cs},rel b h x cs->fV cs=true
 fc:∀{b h h' x cs},(∀l,b l->h'.get l=h.get l)->rel b h x cs->rel b h' x cs
 mono:∀{b b' h x cs},(∀l,b l->b' l)->rel b h x cs->rel b' h x cs
def lo (b:Nat):Nat->Prop:=λl=>l<b
theorem Q5{b a:Nat}(h:b<=a):∀l,lo b l->lo a l:=λ_ c=>Ac c h
theorem mD:∀(a b:List V),fV (a++b)=(fV a&&fV b)
 |[],b=>by simp[fV]
 | v::a,b=>by
   simp only[YO,fV,mD a b];cases v.one <;> simp
@[simp] theorem Py:fV []=true:=rfl
@[simp] theorem eJ (v:V) (l:List V):fV (v::l)=(v.one&&fV l):=by
 simp only[fV];cases v.one <;> rfl
def Ux:IntKind->Int->Prop
 | .i8,n=>-128<=n/\n<=127
 | .i16,n=>-32768<=n/\n<=32767
 | .i32,n=>-2147483648<=n/\n<=2147483647
 | .i64,n=>-9223372036854775808<=n/\n<=9223372036854775807
 | .u8,n=>0<=n/\n<=255
 | .u16,n=>0<=n/\n<=65535
 | .u32,n=>0<=n/\n<=4294967295
 | .u64,n=>0<=n/\n<=18446744073709551615
def eI (k:IntKind):nQ Int where
 sz:=1
 rel _ _ n cs:=cs=[.int k n]/\Ux k n
 len h:=by rw[h.1];rfl
 one h:=by rw[h.1];rfl
 fc _ h:=h
 mono _ h:=h
def eB:nQ Bool where
 sz:=1
 rel _ _ n cs:=cs=[.bool n]
 len h:=by subst h;rfl
 one h:=by subst h;rfl
 fc _ h:=h
 mono _ h:=h
def eS:nQ (List UInt8) where
 sz:=1
 rel _ _ n cs:=cs=[.str n]
 len h:=by subst h;rfl
 one h:=by subst h;rfl
 fc _ h:=h
 mono _ h:=h
def eP {α β:Type} (e:nQ α) (f:nQ β):nQ (α×β) where
 sz:=e.sz+f.sz
 rel b h x cs:=∃p q,cs=p++q/\e.rel b h x.1 p/\f.rel b h x.2 q
 len:=λ⟨_,_,h,a,c⟩=>by subst h;simp[e.len a,f.len c]
 one:=λ⟨_,_,h,a,c⟩=>by subst h;simp[mD,e.one a,f.one c]
 fc:=λd ⟨p,q,h,a,c⟩=>⟨p,q,h,e.fc d a,f.fc d c⟩
 mono:=λhb ⟨p,q,h,a,c⟩=>⟨p,q,h,e.mono hb a,f.mono hb c⟩
def eM {α β:Type} (g:β->α) (e:nQ α):nQ β where
 sz:=e.sz
 rel b h x cs:=e.rel b h (g x) cs
 len h:=e.len h
 one h:=e.one h
 fc hk h:=e.fc hk h
 mono hb h:=e.mono hb h
def oU {α:Type} (e:nQ α) (b:Nat->Prop) (h:Hp):List V->List α->Prop
 |_,[]=>True
 |cs,x::xs=>∃w r,cs=w++r/\e.rel b h x w/\oU e b h r xs
section
variable{α:Type}{e:nQ α}{b:Nat->Prop}{h h':Hp}
theorem oU.fc (a:∀l,b l->h'.get l=h.get l):∀{xs:List α} {cs:List V},oU e b h cs xs->oU e b h' cs xs
 |[],_,_=>trivial
 |_::_,_,⟨w,r,c,d,f⟩=>⟨w,r,c,e.fc a d,oU.fc a f⟩
theorem oU.mono {a:Nat->Prop} (hb:∀l,b l->a l):∀{xs:List α} {cs:List V},oU e b h cs xs->oU e a h cs xs
 |[],_,_=>trivial
 |_::_,_,⟨w,r,c,d,f⟩=>⟨w,r,c,e.mono hb d,oU.mono hb f⟩
theorem oU.length:∀{xs:List α} {cs:List V},oU e b h cs xs->xs.length*e.sz<=cs.length
 |[],_,_=>by simp
 | _::xs,_,⟨w,r,a,c,d⟩=>by
   have:=oU.length d;have f:=e.len c;subst a;simp only[zL,CM,JJ,Xr];omega
theorem oU.get:∀{xs:List α} {cs:List V},oU e b h cs xs->∀{i:Nat} {x:α},xs[i]? =some x->∃w,(cs.drop (i*e.sz)).take e.sz=w/\i*e.sz+e.sz<=cs.length/\e.rel b h x w
 |[],_,_,i,x,hx=>by simp at hx
 | y ::xs,_,⟨w,r,d,a,f⟩,i,x,hx=>by
   have c:=e.len a;subst d
   cases i with
   | zero=>
     simp at hx;subst hx
     exact⟨w,by simp[<-c],by simp only[zL];omega,a⟩
   | succ i=>
     obtain⟨w',g,k,j⟩:=oU.get f (i:=i) (x:=x) (by simpa using hx);refine⟨w',?_,?_,j⟩
     ·rw[<-g,JJ,Xr,Nat.add_comm,<-c,<-V7];simp
     ·simp only[zL,JJ,Xr];omega
theorem oU.append {ys:List α}:∀{xs:List α} {cs ds:List V},oU e b h cs xs->cs.length=xs.length*e.sz->oU e b h ds ys->oU e b h (cs++ds) (xs++ys)
 | [],cs,ds,_,hl,a=>by
   have:cs=[]:=by cases cs <;> simp_all
   subst this;exact a
 | x::xs,_,ds,⟨w,r,c,a,d⟩,hl,f=>by
   subst c;have g:=e.len a;refine⟨w,r++ds,by simp,a,oU.append d ?_ f⟩;simp only[zL,CM,JJ,Xr]at hl;omega
theorem oU.take:∀{xs:List α} {cs:List V},oU e b h cs xs->oU e b h (cs.take (xs.length*e.sz)) xs
 |[],_,_=>trivial
 | _::xs,_,⟨w,r,c,a,d⟩=>by
   have f:=e.len a;subst c;refine⟨w,r.take (xs.length*e.sz),?_,a,oU.take d⟩;rw[List.take_append,VE (by simp only[CM,JJ,Xr];omega)];congr 2;simp only[CM,JJ,Xr];omega
theorem oU.more {ds:List V}:∀{xs:List α} {cs:List V},oU e b h cs xs->oU e b h (cs++ds) xs
 |[],_,_=>trivial
 |_::_,_,⟨w,r,a,c,d⟩=>⟨w,r++ds,by rw[a,Cy],c,oU.more d⟩
theorem oU.set:∀{xs:List α} {cs:List V},oU e b h cs xs->∀{i:Nat} {y:α} {w:List V},i<xs.length->e.rel b h y w->oU e b h (cs.take (i*e.sz)++w++cs.drop (i*e.sz+e.sz)) (xs.set i y)
 |[],_,_,i,y,w,hi,_=>by simp at hi
 | x ::xs,_,⟨u,r,f,a,c⟩,i,y,w,hi,hw=>by
   have d:=e.len a;have g:=e.len hw;subst f
   cases i with
   | zero=>
     refine⟨w,r,?_,hw,c⟩
     simp[<-d]
   | succ i=>
     refine⟨u,_,?_,a,oU.set c (i:=i) (y:=y) (w:=w) (by simpa using hi) hw⟩;have j:(i+1)*e.sz=u.length+i*e.sz:=by rw[JJ,Xr,d];omega
     have k:(i+1)*e.sz+e.sz=u.length+(i*e.sz+e.sz):=by omega
     rw[k,j,List.take_length_add_append,<-V7,List.drop_left];simp only[Cy]
end
def ik {α:Type} (e:nQ α) (b:Nat->Prop) (h:Hp) (xs:List α) (v:V):Prop:=
 (v = .ec/\xs=[])\/∃l off ty live ro cs,v = .slice l off xs.length/\b l/\h.get l=some (.cells ty e.sz live ro cs)/\(xs=[]\/live=true)/\off<=cs.length/\oU e b h (cs.drop off) xs
section
variable{α:Type}{e:nQ α}{b:Nat->Prop}{h h':Hp}{xs:List α}{v:V}
theorem ik.fc (a:∀l,b l->h'.get l=h.get l) (hs:ik e b h xs v):ik e b h' xs v:=by
 rcases hs with hs|⟨l,off,ty,live,ro,cs,d,c,f,g,i,j⟩
 ·exact .inl hs
 ·exact .inr ⟨l,off,ty,live,ro,cs,d,c,by rw[a l c];exact f,g,i,j.fc a⟩
theorem ik.mono {a:Nat->Prop} (hb:∀l,b l->a l) (hs:ik e b h xs v):ik e a h xs v:=by
 rcases hs with hs|⟨l,off,ty,live,ro,cs,c,d,f,g,i,j⟩
 ·exact .inl hs
 ·exact .inr ⟨l,off,ty,live,ro,cs,c,hb l d,f,g,i,j.mono hb⟩
theorem ik.one (hs:ik e b h xs v):v.one=true:=by
 rcases hs with⟨rfl,_⟩|⟨l,off,ty,live,ro,cs,rfl,_⟩ <;> rfl
end
def eL {α:Type} (e:nQ α):nQ (List α) where
 sz:=1
 rel b h xs cs:=∃v,cs=[v]/\ik e b h xs v
 len:=λ⟨_,h,_⟩=>by subst h;rfl
 one:=λ⟨_,h,hs⟩=>by subst h;simp[hs.one]
 fc:=λa ⟨v,h,hs⟩=>⟨v,h,hs.fc a⟩
 mono:=λhb ⟨v,h,hs⟩=>⟨v,h,hs.mono hb⟩
section
variable{α:Type}{e:nQ α}{b:Nat->Prop}{h h':Hp}{xs:List α}{v:V}
theorem ik.ext (a:Cq h h') (hb:∀l,b l->l<h.next) (hs:ik e b h xs v):ik e b h' xs v:=
 hs.fc λl c=>a.fc l (hb l c) (λh=>h)
theorem ik.len (hs:ik e b h xs v):fD v=some (.int .i64 xs.length):=by
 rcases hs with⟨rfl,rfl⟩|⟨l,off,ty,live,ro,cs,rfl,_⟩ <;> rfl
theorem ik.nil:ik e b h [] .ec:= .inl ⟨rfl,rfl⟩
theorem ik.ix (hs:ik e b h xs v) {i:Nat} (hi:i<xs.length) (kd:IntKind) :
  ∃l o w,b l/\gD e.sz v (.int kd i)=some (.ptr l o)/\gg e.sz (.ptr l o) h=some (.agg w)/\e.rel b h xs[i] w/\∀k u,w[k]? =some u->ev (.ptr l (o+k)) h=some u:=by
 rcases hs with⟨_,rfl⟩|⟨l,off,ty,live,ro,cs,rfl,g,c,j,r,m⟩
 ·simp at hi
 ·obtain rfl:live=true:=j.resolve_left (λe=>by subst e;simp at hi);obtain⟨w,n,p,d⟩:=m.get (i:=i) (x:=xs[i]) (gQ hi);rw[YD]at p;have f:(cs.drop (off+i*e.sz)).take e.sz=w:=by rw[<-n,V7]
  refine⟨l,off+i*e.sz,w,g,vL _ _ _ _ _ _ hi,?_,d,λk u a=>?_⟩
  ·rw[yW c,AE (by omega),f];rfl
  ·rw[Mo c,Mw];have q:k<e.sz:=by rw[<-e.len d];exact(iB.1 a).1
   rw[<-f,VF q,Tj]at a;exact a
theorem ik.Ts (hs:ik e b h xs v) {i:Nat} (hi:i<xs.length) (kd:IntKind) (a:e.sz=1) :
  ∃l o u,b l/\gD 1 v (.int kd i)=some (.ptr l o)/\ev (.ptr l o) h=some u/\e.rel b h xs[i] [u]:=by
 obtain ⟨l,o,w,h0,c,_,d,g⟩:=hs.ix hi kd;rw[a]at c;have f:=e.len d;rw[a]at f;obtain⟨u,rfl⟩:∃u,w=[u]:=by
  match w,f with
  |[u],_=>exact⟨u,rfl⟩
 exact⟨l,o,u,h0,c,g 0 u rfl,d⟩
theorem ik.Oi {a:Nat->Prop} {ty:Nat} {ro:Bool} {cs:List V} (d:oU e b h cs xs) (hb:∀l,b l->l<h.next) (c:∀l,b l->a l) (f:a h.next):ik e a (h.new (.cells ty e.sz true ro cs)) xs (.slice h.next 0 xs.length):=
 .inr ⟨h.next,0,ty,true,ro,cs,rfl,f,fg _ _,.inr rfl,Gl _,(d.fc λl g=>fk _ (hb l g)).mono c⟩
theorem ik.new {ty:Nat} {ro:Bool} {cs:List V} {n:Nat} (b:oU e (lo n) h cs xs) (hb:n<=h.next):ik e (lo (h.next+1)) (h.new (.cells ty e.sz true ro cs)) xs (.slice h.next 0 xs.length):=
 .Oi b (λ_ a=>Ac a hb) (λ_ a=>YZ (Ac a hb)) (IS _)
end
section
variable (t:Nat)(k:IntKind)(a b:Int)
@[simp] theorem JN:er .add t (.int k a) (.int k b)=some (.int k (mO k (a+b))):=by cases k <;> rfl
@[simp] theorem uh:er .sub t (.int k a) (.int k b)=some (.int k (mO k (a-b))):=by cases k <;> rfl
@[simp] theorem za1:er .mul t (.int k a) (.int k b)=some (.int k (mO k (a*b))):=by cases k <;> rfl
@[simp] theorem om:er .lss t (.int k a) (.int k b)=some (.bool (decide (a<b))):=by cases k <;> rfl
@[simp] theorem Kk:er .leq t (.int k a) (.int k b)=some (.bool (decide (a<=b))):=by cases k <;> rfl
@[simp] theorem pU:er .gtr t (.int k a) (.int k b)=some (.bool (decide (b<a))):=by cases k <;> rfl
@[simp] theorem mY:er .geq t (.int k a) (.int k b)=some (.bool (decide (b<=a))):=by cases k <;> rfl
@[simp] theorem iA:er .eql t (.int k a) (.int k b)=some (.bool (a == b)):=by cases k <;> rfl
@[simp] theorem tX:er .neq t (.int k a) (.int k b)=some (.bool (a != b)):=by cases k <;> rfl
@[simp] theorem Tg (x y:List UInt8):er .eql t (.str x) (.str y)=some (.bool (x == y)):=rfl
@[simp] theorem ZM (x y:List UInt8):er .neq t (.str x) (.str y)=some (.bool (!(x == y))):=rfl
@[simp] theorem Wd (x:Bool):sr .not (.bool x)=some (.bool !x):=rfl
@[simp] theorem za6:sr .neg (.int k a)=some (.int k (mO k (0-a))):=rfl
theorem yo {k:IntKind} {n:Int} (h:Ux k n):mO k n=n:=by
 rw[yq];cases k <;> simp only[Ux]at h <;> simp only[IntKind.wrap,IntKind.signed,IntKind.bits,YY,Bool.false_and,DY,Li,if_false,Nat.reduceSub,Int.reducePow,ge_iff_le] <;> (try split) <;> omega
@[simp] theorem ZZ {n:Nat} (h:n<9223372036854775808):mO .i64 (n:Int)=n:=yo (by simp only[Ux];omega)
@[simp] theorem Ut (g:Bool):OW g (.int k a) [.int k b]=some (.int k (if g then max a b else min a b)):=by
 cases g
 ·show some (V.int k (if b<a then b else a))=_;simp only[Li,if_false];congr 2;omega
 ·show some (V.int k (if b>a then b else a))=_;simp only[if_true];congr 2;omega
end
theorem U4 (n:Nat) (z:V):yT n [z]=List.replicate n z:=by
 induction n with
 |zero=>rfl
 |succ n a=>simp only[yT,a];rfl
theorem Lp {e sz jr n:Nat} {z:V} (a:n*jr<=281474976710656) (b:n<=1099511627776) :
  gR e sz jr z (.int .i64 (n:Int)) (.int .i64 (n:Int))=some (O.cells e sz true false (yT n z.cells),λl=>V.slice l 0 n):=by
 show bB (Nat.ble n n) (bB (Nat.ble (n*jr) 281474976710656) (bB (Nat.ble n 1099511627776) (some (O.cells e sz true false (yT n z.cells),λl=>V.slice l 0 n))))=_;rw[jm _ (I8 (iW _)),jm _ (I8 a),jm _ (I8 b)]
theorem PZ {cs:List V} {v:V}:∀{o:Nat},o<cs.length->pC o cs [v]=some (cs.set o v):=by
 induction cs with
 |nil=>intro o h;simp at h
 | cons c cs a=>
   intro o h
   cases o with
   |zero=>rfl
   | succ o=>
     have:=a (o:=o) (by simpa using h);simp only[pC,this,fh,kZ]
theorem Rk:∀{ws cs:List V},ws.length<=cs.length->over ws cs=some (ws++cs.drop ws.length)
 |[],_,_=>rfl
 |w::ws,[],h=>by simp at h
 | w::ws,c::cs,h=>by
   have:=Rk (ws:=ws) (cs:=cs) (by simpa using h);simp only[over,this,fh,CM,List.drop_succ_cons,YO]
theorem yk:∀{o:Nat} {cs ws:List V},o+ws.length<=cs.length->pC o cs ws=some (cs.take o++ws++cs.drop (o+ws.length))
 |0,cs,ws,h=>by simp only[pC,Rk (by simpa using h),YI,LG,vI]
 |o+1,[],ws,h=>by simp at h
 | o+1,c::cs,ws,h=>by
   have:=yk (o:=o) (cs:=cs) (ws:=ws) (by simp at h;omega);simp only[pC,this,fh,List.take_succ_cons,YO];rw[show o+1+ws.length=(o+ws.length)+1 by omega,List.drop_succ_cons]
theorem Lw {v:V} (h:v.one=true):v.cells=[v]:=by
 cases v <;> first|rfl|cases h
section
variable{l o e sz:Nat}{cs:List V}{h:Hp}{v:V}
theorem Ku (a:h.get l=some (.cells e sz true false cs)) (b:o<cs.length) (hv:v.one=true):gB 1 (.ptr l o) v h=some (.val .undef (h.put l (.cells e sz true false (cs.set o v)))):=by
 unfold gB CB jq;simp only[vT,Lw hv,CM,VR,a,fh,kI,U0,eJ,hv,Py,Bool.and_self,PZ b];rfl
theorem D0 {ws:List V} {n:Nat} (a:h.get l=some (.cells e sz true false cs)) (b:ws.length=n) (hc:cs.length=n) (hv:fV ws=true):gB n (.ptr l 0) (.agg ws) h=some (.val .undef (h.put l (.cells e sz true false ws))):=by
 unfold gB CB jq;have hs:pC 0 cs ws=some ws:=by
  rw[yk (by omega),YI,LG,vI,List.drop_of_length_le (by omega),Co]
 simp only[vT,V.cells,a,fh,kI,U0,hv,hs];rw[jm _ (by rw[b];exact MV n)]
theorem Zt {ws:List V} {n:Nat} (b:h.get l=some (.cells e sz true false cs)) (a:ws.length=n) (hc:o+n<=cs.length) (hv:fV ws=true) :
  gB n (.ptr l o) (.agg ws) h=some (.val .undef (h.put l (.cells e sz true false (cs.take o++ws++cs.drop (o+n))))):=by
 unfold gB CB jq;simp only[vT,V.cells,b,fh,kI,U0,hv,yk (show o+ws.length<=cs.length by omega)];rw[jm _ (by rw[a];exact MV n),a]
theorem jR{u:V}{ro:Bool}(a:h.get l=some (.cells e sz true ro cs))(b:cs[o]? =some u):ev (.ptr l o) h=some u:=by rw[Mo a,Mw,b]
theorem Bg {n:Nat} {ro:Bool} (a:h.get l=some (.cells e sz true ro cs)) (b:cs.length=n):gg n (.ptr l 0) h=some (.agg cs):=by
 rw[yW a,AE (by omega),Ss,VE (by omega)];rfl
end
section
variable{α:Type}{e:nQ α}{b:Nat->Prop}{h:Hp}
theorem oU.drop:∀{xs:List α} {cs:List V} (n:Nat),oU e b h cs xs->n<=xs.length->oU e b h (cs.drop (n*e.sz)) (xs.drop n)
 |xs,cs,0,hw,_=>by simpa using hw
 |[],cs,n+1,_,hn=>by simp at hn
 | x::xs,cs,n+1,⟨w,r,c,d,f⟩,hn=>by
   have:=oU.drop n f (by simpa using hn);have a:=e.len d;subst c;rw[List.drop_succ_cons,JJ,Xr,Nat.add_comm,<-V7,<-a,List.drop_left];rw[a];exact this
theorem oU.taken:∀{xs:List α} {cs:List V} (n:Nat),oU e b h cs xs->oU e b h cs (xs.take n)
 |xs,cs,0,_=>by simp only[YI];trivial
 |[],cs,n+1,_=>by simp only[List.take_nil];trivial
 |x::xs,cs,n+1,⟨w,r,a,c,d⟩=>⟨w,r,a,c,oU.taken n d⟩
theorem Eg (z:Nat) (k:IntKind) (n:Nat):hbound z (some (.int k n))=some n:=by
 unfold hbound;simp only[Ql]
theorem CU (z:Nat):hbound z none=some z:=rfl
theorem ik.cut {xs:List α} {v:V} (hs:ik e b h xs v) {lo hi:Option V} {m n:Nat} (a:hbound 0 lo=some m) (c:hbound xs.length hi=some n) (i:m<=n) (f:n<=xs.length) :
  ∃j,iJ e.sz v lo hi h=some j/\ik e b h ((xs.take n).drop m) j:=by
 rcases hs with⟨rfl,rfl⟩|⟨l,off,ty,live,ro,cs,rfl,q,k,d,s,o⟩
 ·simp at f;subst f;obtain rfl:m=0:=by omega
  refine⟨.ec,?_,.inl ⟨rfl,by simp⟩⟩;unfold iJ;simp only[a,fh];rw[show hbound 0 hi=some 0 from c];rfl
 ·have r:=o.length;have p:m*e.sz<=n*e.sz:=wB6 _ i;have g:n*e.sz<=xs.length*e.sz:=wB6 _ f;rw[YD]at r;refine⟨.slice l (off+m*e.sz) (n-m),?_,?_⟩
  ·unfold iJ jq;simp only[k,fh,a,c];rw[jm _ (MV _),jm _ (I8 i),jm _ (by rw[I8 f];rfl)];rfl
  ·have hlen:((xs.take n).drop m).length=n-m:=by rw[YD,FY];omega
   refine .inr ⟨l,off+m*e.sz,ty,live,ro,cs,by rw[hlen],q,k,?_,by omega,?_⟩
   ·rcases d with d|d
    ·left;subst d;simp
    ·exact .inr d
   ·rw[<-V7];exact(o.taken n).drop m (by rw[FY];omega)
end
def Ph (e sz a:Nat) (h:Hp) (cs:List V) (n:Nat) (v:V):Prop:=
 (v = .ec/\cs=[]/\n=0)\/∃t,v = .slice t 0 n/\a<=t/\t<h.next/\h.get t=some (.cells e sz true false cs)/\cs.length=n*sz
section
variable{e sz a n:Nat}{h h':Hp}{cs:List V}{v:V}
theorem Ph.nil:Ph e sz a h [] 0 .ec:= .inl ⟨rfl,rfl,rfl⟩
theorem Ph.len (b:Ph e sz a h cs n v):fD v=some (.int .i64 n):=by
 rcases b with⟨rfl,rfl,rfl⟩|⟨t,rfl,_⟩ <;> rfl
theorem Ph.size (b:Ph e sz a h cs n v):cs.length=n*sz:=by
 rcases b with⟨rfl,rfl,rfl⟩|⟨t,rfl,_,_,_,c⟩
 ·simp
 ·exact c
theorem Ph.one (b:Ph e sz a h cs n v):v.one=true:=by
 rcases b with⟨rfl,rfl,rfl⟩|⟨t,rfl,_⟩ <;> rfl
theorem Ph.low {c:Nat} (d:c<=a) (b:Ph e sz a h cs n v):Ph e sz c h cs n v:=by
 rcases b with b|⟨t,f,g,i⟩
 ·exact .inl b
 ·exact .inr ⟨t,f,Ez d g,i⟩
theorem Ph.append {jr k:Nat} {x:V} {new:List V} (p:Ph e sz a h cs n v) (hx:jM h sz x=some (k,new)) (q:0<k) (i:new.length=k*sz) (r:fV cs=true) (j:fV new=true) (m:a<=h.next)
  (hb:(n+k)*jr<=70368744177664) (c:n+k<=70368744177664) (s:0<sz) :
  ∃g h',eR e sz jr v x h=some (.val g h')/\Ph e sz a h' (cs++new) (n+k) g/\jZ (λl=>v = .slice l 0 n) h h'/\h'.next=h.next+1/\g = .slice h.next 0 (n+k):=by
 have d:Nat.beq k 0=false:=by cases k with
  |zero=>omega
  |succ k=>rfl
 rcases p with⟨rfl,rfl,rfl⟩|⟨t,rfl,y,u,w,o⟩
 ·refine⟨.slice h.next 0 k,h.new (.cells e sz true false new),?_,.inr ⟨h.next,by rw[vI],m,IS _,by rw[LG];exact fg _ _,by simp[i]⟩,jZ.new _ _,rfl,by rw[vI]⟩;unfold eR;simp only[hx,fh,d,j,kI];rw[jm _ (I8 (by simpa using hb)),jm _ (I8 (by simpa using c))]
 ·refine ⟨.slice h.next 0 (n+k),(h.put t (.cells e sz false false cs)).new (.cells e sz true false (cs++new)),?_,.inr ⟨h.next,rfl,m,IS _,fg (h.put t _) _,by rw[zL,o,i,JJ]⟩,?_,rfl,rfl⟩
  ·unfold eR jq;have b:Nat.ble (Nat.add 0 (Nat.mul (Nat.add n k) sz)) cs.length=false:=by
    rw[<-Bool.not_eq_true,Nat.ble_eq];show ¬(0+(n+k)*sz<=cs.length);rw[o,JJ];have:0<k*sz:=Nat.mul_pos q s;omega
   have f:sub cs 0 (Nat.mul n sz)=some cs:=by
    show sub cs 0 (n*sz)=some cs;rw[AE (show 0+n*sz<=cs.length by omega),Ss,VE (show cs.length<=n*sz by omega)]
   simp only[hx,fh,d,j,kI,w,U0,b,f,r];rw[jm _ (MV _),jm _ (show Nat.ble (Nat.mul (Nat.add n k) jr) 70368744177664=true from I8 hb),jm _ (show Nat.ble (Nat.add n k) 70368744177664=true from I8 c)];rfl
  ·exact(jZ.put (S:=λl=>V.slice t 0 n = .slice l 0 n) (.cells e sz false false cs) rfl u).trans (jZ.new _ _)
theorem lP {e sz k:Nat} {h:Hp} {cs:List V} {ro:Bool} (a:cs.length=(k+1)*sz):jM (h.new (.cells e sz true ro cs)) sz (.slice h.next 0 (k+1))=some (k+1,cs):=by
 unfold jM Ey jq;have:sub cs 0 (Nat.mul (Nat.succ k) sz)=some cs:=by
  show sub cs 0 ((k+1)*sz)=some cs;rw[AE (show 0+(k+1)*sz<=cs.length by omega),Ss,VE (show cs.length<=(k+1)*sz by omega)]
 simp only[fg,fh,kI,this]
theorem Ph.VG {α:Type} {E:nQ α} {xs:List α} (c:Ph e E.sz a h cs xs.length v) {b:Nat->Prop} (hb:∀t,v = .slice t 0 xs.length->b t) (d:oU E b h cs xs):ik E b h xs v:=by
 rcases c with⟨rfl,rfl,h0⟩|⟨t,rfl,_,g,f,i⟩
 ·exact .inl ⟨rfl,Rf h0⟩
 ·exact .inr ⟨t,0,e,true,false,cs,rfl,hb t rfl,f,.inr rfl,Gl _,by simpa using d⟩
end
