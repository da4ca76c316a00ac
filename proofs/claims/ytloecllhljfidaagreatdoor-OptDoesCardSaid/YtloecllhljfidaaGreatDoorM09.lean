/- Parts. -/
import Derived.Test.YtloecllhljfidaaGreatDoorM08
import Derived.KernelRfl
set_option maxHeartbeats 4000000
namespace Go.Proofs.YtloecllhljfidaaGreatDoor.Hx
def _root_.Go.Code.l:Code->Code
 | .seq a _=>a
 | .cond _ a _=>a
 | .block _ c=>c
 | .loop c=>c
 |_=> .skip
def _root_.Go.Code.r:Code->Code
 | .seq _ b=>b
 | .cond _ _ b=>b
 |_=> .skip
def JP(fn:Func):Code:=match fn.body with
 |some c=>c
 |none=> .skip
noncomputable section
def fe(a:V)(h:Hp):Option V:=B2 a λl off=>ld1 h l off
def fO(n:Nat)(a:V)(h:Hp):Option V:=B2 a λl off=>oB (Lo h l off n) λcs=>some (.agg cs)
def fI(k:Nat)(x:V):Option V:=B2 x λl off=>some (.ptr l (Nat.add off k))
def gB(n:Nat) (x i:V):Option V:=asNat i λi=>match x with
 | .slice l off len=>bB (Nat.blt i len) (some (.ptr l (Nat.add off (Nat.mul i n))))
 |_=>none
def zdJ(len n:Nat)(x i:V):Option V:=asNat i λi=>B2 x λl off=>bB (Nat.blt i len) (some (.ptr l (Nat.add off (Nat.mul i n))))
def jA(c a b:V):Option V:=match c with
 | .bool x=>Bool.rec (some b) (some a) x
 |_=>none
def gP(x:V):Option V:=match x with
 | .ptr l off=>some (.ptr l off)
 | .func f a c=>some (.func f a c)
 |_=>none
def pq(k:IntKind) (x:V):Option V:=match x with
 | .int _ n=>some (.int k (lO k n))
 |_=>none
def fT(z:List V)(a:List (Nat×Nat))(b:List (Nat×V)):Option V:=oB (FT (λi=>a[i]?) z b) λcs=>some (.agg cs)
def CA(i:Nat) (x:V):Option V:=match x with
 | .tuple vs=>B6 vs i
 |_=>none
def zfa(x:V):Option V:=match x with
 | .str s=>some (.int .i64 (.ofNat s.length))
 |_=>none
def fE(x:V):Option V:=match x with
 | .slice _ _ n=>some (.int .i64 (.ofNat n))
 | .ei=>some (.int .i64 (.ofNat 0))
 |_=>none
def MG(a:Nat) (d:Option (List Field)) (z:V) (ok:Bool) (m k:V) (h:Hp):Option V:=bB (JF d k) (match m with
 | .oH=>some (found z ok none)
 | .map l=>FP h l λb _=>oB (ri a d k b 0) λr=>some (found z ok r)
 |_=>none)
def iS(a size len:Nat) (z:V) (b:List (Nat×V)):Option (O×(Nat->V)):=oB (FT (λi=>some (Nat.mul i size,size)) (CU len z.cells) b) λcs=>bB (gj cs) (some (.cells a size true false cs,λl=> .slice l 0 len))
def gq(n:Nat)(a v:V)(h:Hp):Option R:=B2 a λl off=>bB (Nat.beq v.cells.length n) (oB (Ky h l off v.cells) λh=>some (.val .undef h))
end
noncomputable section
def fj(x:Option R)(K:V->Hp->Prop):Prop:=oP (oB x valOf) λy=>K y.1 y.2
def gY(C:kW)(x:Option R)(h:Hp)(K:V->Hp->Prop):Prop:=oP (oB x J8) λy=>cP C y.1 y.2 h K
def dcP(C:kW)(f:Nat)(l:List V)(h:Hp)(K:V->Hp->Prop):Prop:=oP (some (f,l)) λy=>cP C y.1 y.2 h K
def gS(x:Option (O×(Nat->V)))(h:Hp)(K:V->Hp->Prop):Prop:=oP x λr=>K (r.2 h.next) (h.new r.1)
def xB(x:Option (O×(Nat->V)))(h:Hp)(K:O->V->Hp->Prop):Prop:=oP x λr=>K r.1 (r.2 h.next) (h.new r.1)
def ghP(b:Bool)(h:Hp)(x:Option (V×Hp))(K:V->Hp->Prop):Prop:=oP (gH b h x) λy=>K y.1 y.2
def gT(b:Bool)(p:Prop):Prop:=Bool.rec True p b
def fH(w:Bool) (x:V):Option Bool:=match x with
 | .bool b=>some (Bool.rec (!w) w b)
 | .tuple []=>some false
 |_=>none
end
theorem XK(f:Nat->V) (d:Nat) (v:V):fx f d v d=v:=by
 simp_all[fx,YH]
theorem za1(f:Nat->V) {d i:Nat} (v:V) (h:i≠d):fx f d v i=f i:=by
 unfold fx;cases hb:Nat.beq i d <;> simp_all
@[simp] theorem ft {α β:Type} (a:α) (k:α->Option β):oB (some a) k=k a:=rfl
@[simp] theorem ze6 {α β:Type} (k:α->Option β):oB (none:Option α) k=none:=rfl
@[simp] theorem G2 {β:Type} (k:Option β):bB true k=k:=rfl
@[simp] theorem zer {β:Type} (k:Option β):bB false k=none:=rfl
theorem mI{β:Type}{c:Bool}(k:Option β)(h:c=true):bB c k=k:=by simp_all
@[simp] theorem HW {β:Type} (l o:Nat) (k:Nat->Nat->Option β):B2 (.ptr l o) k=k l o:=rfl
@[simp] theorem zcz {β:Type} (kd:IntKind) (n:Nat) (k:Nat->Option β):asNat (.int kd (.ofNat n)) k=k n:=rfl
@[simp] theorem zdx {β:Type} (kd:IntKind) (n:Nat) (k:Nat->Option β):asNat (.int kd (n:Int)) k=k n:=rfl
@[simp] theorem zeo {β:Type} (kd:IntKind) (n:Nat) (k:Nat->Option β):asNat (.int kd (OfNat.ofNat n:Int)) k=k n:=rfl
@[simp] theorem zdB {β:Type} (kd:IntKind) (k:Nat->Option β):asNat (.int kd 0) k=k 0:=rfl
@[simp] theorem zev {β:Type} (kd:IntKind) (k:Nat->Option β):asNat (.int kd 1) k=k 1:=rfl
@[simp] theorem gf (k l o:Nat):fI k (.ptr l o)=some (.ptr l (o+k)):=rfl
@[simp] theorem fS (l o:Nat):gP (.ptr l o)=some (.ptr l o):=rfl
@[simp] theorem zeu (f:Nat) (a c:List V):gP (.func f a c)=some (.func f a c):=rfl
@[simp] theorem zel (l o n:Nat):fE (.slice l o n)=some (.int .i64 n):=rfl
@[simp] theorem zfe:fE .ei=some (.int .i64 0):=rfl
@[simp] theorem zep (s:List UInt8):zfa (.str s)=some (.int .i64 s.length):=rfl
@[simp] theorem JB (x:Bool) (a b:V):jA (.bool x) a b=some (if x=true then a else b):=by cases x <;> rfl
@[simp] theorem iz (k k':IntKind) (n:Int):pq k (.int k' n)=some (.int k (lO k n)):=rfl
@[simp] theorem Fz (i:Nat) (vs:List V):CA i (.tuple vs)=B6 vs i:=rfl
@[simp] theorem fu (o:O) (f:Nat->V) (h:Hp) (K:V->Hp->Prop):gS (some (o,f)) h K=K (f h.next) (h.new o):=rfl
@[simp] theorem gO (o:O) (f:Nat->V) (h:Hp) (K:O->V->Hp->Prop):xB (some (o,f)) h K=K o (f h.next) (h.new o):=rfl
@[simp] theorem en (v:V) (h:Hp) (K:V->Hp->Prop):fj (some (.val v h)) K=K v h:=rfl
@[simp] theorem Mh (C:kW) (f:Nat) (l:List V) (h:Hp) (K:V->Hp->Prop):gY C (some (.call f l)) h K=cP C f l h K:=rfl
@[simp] theorem zgz (C:kW) (f:Nat) (l:List V) (h:Hp) (K:V->Hp->Prop):dcP C f l h K=cP C f l h K:=rfl
@[simp] theorem JA (f:Nat) (a c l:List V):gi (.func f a c) l=some (.call f (a++(l++c))):=rfl
@[simp] theorem zfE (w b:Bool):fH w (.bool b)=some (b == w):=by cases w <;> cases b <;> rfl
@[simp] theorem zga (x:Option V):gV true x=x:=rfl
@[simp] theorem zfi (x:Option V):gV false x=some .undef:=rfl
@[simp] theorem zgd (x:Option (Nat×List V)):gC true x=oB x λy=>some (some y):=rfl
@[simp] theorem ze5 (x:Option (Nat×List V)):gC false x=some none:=rfl
@[simp] theorem zgb (p:Prop):gT true p=p:=rfl
@[simp] theorem zeW (p:Prop):gT false p=True:=rfl
@[simp] theorem zfA (C:kW) (y:Nat×List V) (h:Hp) (K:V->Hp->Prop):vB C (some y) h K=cP C y.1 y.2 h K:=rfl
@[simp] theorem zfq (C:kW) (h:Hp) (K:V->Hp->Prop):vB C none h K=K .undef h:=rfl
theorem yJ(n l o len i:Nat) (kd:IntKind) (h:i<len):gB n (.slice l o len) (.int kd i)=some (.ptr l (o+i*n)):=by
 show bB (Nat.blt i len) _=_
 grind[mI,UC]
theorem Rl{l o e sz:Nat} {ro:Bool} {cs:List V} {h:Hp} (a:h.get l=some (.cells e sz true ro cs)):fe (.ptr l o) h=B6 cs o:=by
 simp_all[fe,ld1,ko]
theorem Bf{n l o e sz:Nat} {ro:Bool} {cs:List V} {h:Hp} (a:h.get l=some (.cells e sz true ro cs)):fO n (.ptr l o) h=oB (sub cs o n) λcs=>some (.agg cs):=by
 simp_all[fO,Lo,ko]
@[simp] theorem ze0 (v:V) (l:List V):B6 (v::l) 0=some v:=rfl
@[simp] theorem zex (v:V) (l:List V) (n:Nat):B6 (v::l) (n+1)=B6 l n:=rfl
theorem Q2(l:List V)(n:Nat):B6 l n=l[n]?:=by grind[B6,List.head?_drop]
@[simp] theorem zdY (l:List V):takeN 0 l=some []:=by rfl
@[simp] theorem zeg (n:Nat) (v:V) (l:List V):takeN (n+1) (v::l)=oB (takeN n l) λr=>some (v::r):=rfl
theorem Ug:∀n l,n<=l.length->takeN n l=some (l.take n)
 |0,l,_=>by rfl
 |n+1,[],h=>by simp_all
 |n+1,v::l,h=>by simp[ Ug n l (by simp_all)]
theorem EN{l:List V} {o n:Nat} (h:o+n<=l.length):sub l o n=some ((l.drop o).take n):=by
 grind[sub,Ug]
@[simp] theorem iQ {α:Type} (a:α) (k:α->Prop):oP (some a) k=k a:=rfl
@[simp] theorem ZG (x:Bool) (a b:Prop):bP (.bool x) a b=if x=true then a else b:=im x a b
@[simp] theorem zet (v:V) (h:Hp):valOf (.val v h)=some (v,h):=rfl
@[simp] theorem zcn (f:Nat) (l:List V):J8 (.call f l)=some (f,l):=rfl
section
variable{C:kW}{n:Nat}{Q:X->iE->Hp->Prop}{ρ:iE}{h:Hp}
theorem Wp.of{c:Code}{P:Prop}(e:jB C n c Q ρ h=P)(hp:P):Wp C n c Q ρ h:=Wp.code c (e.mpr hp)
theorem wF{α:Type}{a:α}{k:α->Prop}(h:k a):oP (some a) k:=h
theorem oM{α:Type} {x:Option α} {k k':α->Prop} (h:oP x k) (f:∀a,x=some a->k a->k' a):oP x k':=by
 grind[kU,eh]
theorem bM{v:V} {a b a' b':Prop} (h:bP v a b) (f:a->a') (g:b->b'):bP v a' b':=by
 unfold bP at h⊢;split at h
 ·rename_i x;cases x <;> grind
 omega
theorem dcM{f:Nat} {l:List V} {k k':V->Hp->Prop} (h':cP C f l h k) (F:∀v h',k v h'->k' v h'):dcP C f l h k':=by
 show cP C f l h k';exact h'.mono F
theorem cgM{x:Option (Nat×List V)} {k k':V->Hp->Prop} (h':vB C x h k) (F:∀v h',k v h'->k' v h'):vB C x h k':=by
 cases x with
 |none=>simp_all
 |some y=>exact cP.mono h' F
theorem alM{x:Option (O×(Nat->V))} {k k':V->Hp->Prop} (h':gS x h k) (F:∀v h',k v h'->k' v h'):gS x h k':=
 oM h' (by simp_all)
theorem zdM{x:Option R} {k k':V->Hp->Prop} (h':fj x k) (F:∀v h',k v h'->k' v h'):fj x k':=
 oM h' (by simp_all)
end
theorem anM{a b c:Prop}(h:c/\a)(f:a->b):c/\b:=by simp_all
@[simp] theorem O.kE (e sz:Nat) (a r:Bool) (cs:List V):O.beq (.cells e sz a r cs) (.cells e sz a r cs)=true:=by
 simp[O.beq,V.An]
@[simp] theorem O.RS (c:Nat):O.beq (.map [] c) (.map [] c)=true:=by simp[O.beq]
def nY(c:V) (X:Option V):Option V:=match c with
 | .bool true=>some (.bool true)
 | .bool false=>X
 |_=>none
def jI(c:V) (X:Option V):Option V:=match c with
 | .bool false=>some (.bool false)
 | .bool true=>X
 |_=>none
@[simp] theorem ze9 (X:Option V):nY (.bool true) X=some (.bool true):=rfl
@[simp] theorem mK (X:Option V):nY (.bool false) X=X:=rfl
@[simp] theorem pt (X:Option V):jI (.bool true) X=X:=rfl
@[simp] theorem Fb (X:Option V):jI (.bool false) X=some (.bool false):=rfl
@[simp] theorem uN (c d:Bool):nY (.bool c) (some (.bool d))=some (.bool (c ||d)):=by cases c <;> rfl
@[simp] theorem mb (c d:Bool):jI (.bool c) (some (.bool d))=some (.bool (c&&d)):=by cases c <;> rfl
theorem zcf{c d:Bool} {X:Option V} (h:c=true->X=some (.bool d)):jI (.bool c) X=some (.bool (c&&d)):=by
 cases c <;> simp_all
theorem thn{A B:Prop}(a:A)(f:A->B):B:=f a
section
variable{c c' Xc:V}{X X':Option V}{K:V->Prop}{f:V->Option V}{w b0:Bool}
theorem K5(H:oP (nY c X) K):oP (fH false c) λb=>oP (gV b X) λv=>oP (jA c (.bool true) v) K:=by
 unfold nY at H;split at H
 ·exact H
 ·exact H
 ·exact H.elim
theorem Oy(H:oP (jI c X) K):oP (fH true c) λb=>oP (gV b X) λv=>oP (jA c v (.bool false)) K:=by
 unfold jI at H;split at H
 ·exact H
 ·exact H
 ·exact H.elim
theorem sG1{R:Bool->V->Prop} (H:oP (fH w c) λb=>oP (gV b (oB X f)) K) (F:∀b,fH w c=some b->∀v,gV b X=some v->(oP (fH w c) λb=>oP (gV b (f v)) K)->R b v):oP (fH w c) λb=>oP (gV b X) λv=>R b v:=by
 obtain⟨b,a,d⟩:=kU.1 H;refine eh a ?_
 cases b with
 | true=>
   grind[kU,fR,oB,eh,gV]
 |false=>simp_all
theorem hK{b:Bool} {v:V} (E:gV b X=some v):gT b (X=some v):=by
 cases b <;> simp_all
end
structure lP (S:Nat->Prop) (h h':Hp):Prop where
 next:h.next<=h'.next
 fk:∀l,l<h.next->¬S l->h'.get l=h.get l
abbrev Jp(h h':Hp):Prop:=lP (λ_=>False) h h'
theorem lP.refl(S:Nat->Prop)(h:Hp):lP S h h:=⟨iZ _,by simp_all⟩
theorem lP.trans'{S d:Nat->Prop} {h h' c:Hp} (a:lP S h h') (b:lP d h' c) (hs:∀l,l<h.next->d l->S l):lP S h c:=
 ⟨Gq a.next b.next,λl e f=>by rw[b.fk l (Ep e a.next) (by grind),a.fk l e f]⟩
theorem lP.trans{S:Nat->Prop}{h h' c:Hp}(a:lP S h h')(b:lP S h' c):lP S h c:=a.trans' b (by simp_all)
theorem lP.ZC{S b:Nat->Prop} {h h':Hp} (a:lP S h h') (hs:∀l,l<h.next->S l->b l):lP b h h':=
 ⟨a.next,λl c d=>a.fk l c (by grind)⟩
theorem lP.new{S:Nat->Prop} (h:Hp) (o:O):lP S h (h.new o):=
 ⟨PH _,λl a _=>by rw[xN,if_neg (by omega)]⟩
theorem lP.put{S:Nat->Prop} {h:Hp} {l:Nat} (o:O) (hs:S l) (a:l<h.next):lP S h (h.put l o):=
 ⟨iZ _,λm _ b=>by rw[qP _ _ a,if_neg (by grind)]⟩
theorem fm(h:Hp)(o:O):(h.new o).get h.next=some o:=by rw[xN,if_pos rfl]
theorem fo{h:Hp}(o:O){l:Nat}(a:l<h.next):(h.new o).get l=h.get l:=by rw[xN,if_neg (by omega)]
theorem fY{h:Hp}{l:Nat}(o:O)(a:l<h.next):(h.put l o).get l=some o:=by rw[qP _ _ a,if_pos rfl]
theorem gI{h:Hp}{l m:Nat}(o:O)(a:l<h.next)(b:l≠m):(h.put l o).get m=h.get m:=by simp_all[qP,if_neg]
@[simp] theorem zeE (h:Hp) (o:O):(h.new o).next=h.next+1:=rfl
@[simp] theorem zfY (h:Hp) (l:Nat) (o:O):(h.put l o).next=h.next:=rfl
structure qf (α:Type) where
 sz:Nat
 rel:(Nat->Prop)->Hp->α->List V->Prop
 len:∀{b h x cs},rel b h x cs->cs.length=sz
 one:∀{b h x cs},rel b h x cs->gj cs=true
 fk:∀{b h h' x cs},(∀l,b l->h'.get l=h.get l)->rel b h x cs->rel b h' x cs
 mono:∀{b b' h x cs},(∀l,b l->b' l)->rel b h x cs->rel b' h x cs
def lo(b:Nat):Nat->Prop:=λl=>l<b
theorem vK{b b':Nat}(h:b<=b'):∀l,lo b l->lo b' l:=λ_ a=>Ep a h
theorem oT:∀a b,gj (a++b)=(gj a&&gj b)
 |[],b=>by rfl
 | v::a,b=>by
   simp[ gj,oT a b];cases v.one <;> simp
@[simp] theorem zdQ:gj []=true:=rfl
@[simp] theorem eQ (v:V) (l:List V):gj (v::l)=(v.one&&gj l):=by
 simp[gj];cases v.one <;> rfl
def sO:IntKind->Int->Prop
 | .i8,n=>-128<=n/\n<=127
 | .i16,n=>-32768<=n/\n<=32767
 | .i32,n=>-2147483648<=n/\n<=2147483647
 | .i64,n=>-9223372036854775808<=n/\n<=9223372036854775807
 | .u8,n=>0<=n/\n<=255
 | .u16,n=>0<=n/\n<=65535
 | .u32,n=>0<=n/\n<=4294967295
 | .u64,n=>0<=n/\n<=18446744073709551615
def eI(k:IntKind):qf Int where
 sz:=1
 rel _ _ n cs:=cs=[.int k n]/\sO k n
 len h:=by simp_all
 one h:=by rw[h.1];rfl
 fk _ h:=h
 mono _ h:=h
def eB:qf Bool where
 sz:=1
 rel _ _ n cs:=cs=[.bool n]
 len h:=by simp_all
 one h:=by subst h;rfl
 fk _ h:=h
 mono _ h:=h
def eS:qf (List UInt8) where
 sz:=1
 rel _ _ n cs:=cs=[.str n]
 len h:=by simp_all
 one h:=by subst h;rfl
 fk _ h:=h
 mono _ h:=h
def eP{α β:Type} (e:qf α) (f:qf β):qf (α×β) where
 sz:=e.sz+f.sz
 rel b h x cs:=∃p q,cs=p++q/\e.rel b h x.1 p/\f.rel b h x.2 q
 len:=λ⟨_,_,h,a,c⟩=>by subst h;simp[e.len a,f.len c]
 one:=λ⟨_,_,h,a,c⟩=>by subst h;simp[oT,e.one a,f.one c]
 fk:=λhk ⟨p,q,h,a,c⟩=>⟨p,q,h,e.fk hk a,f.fk hk c⟩
 mono:=λhb ⟨p,q,h,a,c⟩=>⟨p,q,h,e.mono hb a,f.mono hb c⟩
def eM{α β:Type} (g:β->α) (e:qf α):qf β where
 sz:=e.sz
 rel b h x cs:=e.rel b h (g x) cs
 len h:=e.len h
 one h:=e.one h
 fk hk h:=e.fk hk h
 mono hb h:=e.mono hb h
def qX{α:Type} (e:qf α) (b:Nat->Prop) (h:Hp):List V->List α->Prop
 |_,[]=>True
 |cs,x::xs=>∃w r,cs=w++r/\e.rel b h x w/\qX e b h r xs
section
variable{α:Type}{e:qf α}{b:Nat->Prop}{h h':Hp}
theorem qX.fk(hk:∀l,b l->h'.get l=h.get l):∀{xs:List α} {cs:List V},qX e b h cs xs->qX e b h' cs xs
 |[],_,_=>trivial
 |_::_,_,⟨w,r,a,c,d⟩=>⟨w,r,a,e.fk hk c,qX.fk hk d⟩
theorem qX.mono{b':Nat->Prop} (hb:∀l,b l->b' l):∀{xs:List α} {cs:List V},qX e b h cs xs->qX e b' h cs xs
 |[],_,_=>trivial
 |_::_,_,⟨w,r,a,c,d⟩=>⟨w,r,a,e.mono hb c,qX.mono hb d⟩
theorem qX.length:∀{xs:List α} {cs:List V},qX e b h cs xs->xs.length*e.sz<=cs.length
 |[],_,_=>by simp
 | _::xs,_,⟨w,r,a,c,d⟩=>by
   have:=qX.length d;have f:=e.len c;subst a;simp[ VS,YF];omega
theorem qX.get:∀{xs:List α} {cs:List V},qX e b h cs xs->∀{i:Nat} {x:α},xs[i]? =some x->∃w,(cs.drop (i*e.sz)).take e.sz=w/\i*e.sz+e.sz<=cs.length/\e.rel b h x w
 |[],_,_,i,x,hx=>by simp_all
 | y ::xs,_,⟨w,r,a,c,d⟩,i,x,hx=>by
   have f:=e.len c;subst a
   cases i with
   | zero=>
     simp_all
   | succ i=>
     let⟨w',g,k,j⟩:=qX.get d (i:=i) (x:=x) (by simp_all)
     refine⟨w',?_,?_,j⟩
     ·rw[<-g,YF,Nat.add_comm,<-f];simp
     grind
theorem qX.append{ys:List α}:∀{xs:List α} {cs ds:List V},qX e b h cs xs->cs.length=xs.length*e.sz->qX e b h ds ys->qX e b h (cs++ds) (xs++ys)
 | [],cs,ds,_,hl,a=>by
   simp_all
 | x::xs,_,ds,⟨w,r,c,a,d⟩,hl,f=>by
   subst c;have g:=e.len a;refine⟨w,r++ds,by simp,a,qX.append d ?_ f⟩
   grind
theorem qX.take:∀{xs:List α} {cs:List V},qX e b h cs xs->qX e b h (cs.take (xs.length*e.sz)) xs
 |[],_,_=>trivial
 | _::xs,_,⟨w,r,c,a,d⟩=>by
   have f:=e.len a;subst c;refine⟨w,r.take (xs.length*e.sz),?_,a,qX.take d⟩
   simp_all[List.take_append,wAz,YF]
theorem qX.more{ds:List V}:∀{xs:List α} {cs:List V},qX e b h cs xs->qX e b h (cs++ds) xs
 |[],_,_=>trivial
 |_::_,_,⟨w,r,a,c,d⟩=>⟨w,r++ds,by rw[a,Pr],c,qX.more d⟩
theorem qX.set:∀{xs:List α} {cs:List V},qX e b h cs xs->∀{i:Nat} {y:α} {w:List V},i<xs.length->e.rel b h y w->qX e b h (cs.take (i*e.sz)++w++cs.drop (i*e.sz+e.sz)) (xs.set i y)
 |[],_,_,i,y,w,hi,_=>by simp_all
 | x ::xs,_,⟨u,r,d,a,c⟩,i,y,w,hi,hw=>by
   have j:=e.len a;subst d
   cases i with
   | zero=>
     refine⟨w,r,?_,hw,c⟩
     simp_all
   | succ i=>
     refine⟨u,_,?_,a,qX.set c (by simpa using hi) hw⟩;have f:(i+1)*e.sz=u.length+i*e.sz:=by rw[YF,Nat.one_mul];omega
     have g:(i+1)*e.sz+e.sz=u.length+(i*e.sz+e.sz):=by omega
     rw[g,f,List.take_length_add_append,<-wBr]
     simp_all
end
def il{α:Type} (e:qf α) (b:Nat->Prop) (h:Hp) (xs:List α) (v:V):Prop:=(v = .ei/\xs=[])\/∃l off ty live ro cs,v = .slice l off xs.length/\b l/\h.get l=some (.cells ty e.sz live ro cs)/\(xs=[]\/live=true)/\off<=cs.length/\qX e b h (cs.drop off) xs
section
variable{α:Type}{e:qf α}{b:Nat->Prop}{h h':Hp}{xs:List α}{v:V}
theorem il.fk(hk:∀l,b l->h'.get l=h.get l) (hs:il e b h xs v):il e b h' xs v:=by
 rcases hs with hs|⟨l,off,ty,live,ro,cs,a,c,i,d,f,g⟩
 ·exact .inl hs
 ·exact .inr ⟨l,off,ty,live,ro,cs,a,c,by simp_all,d,f,g.fk hk⟩
theorem il.mono{b':Nat->Prop} (hb:∀l,b l->b' l) (hs:il e b h xs v):il e b' h xs v:=by
 rcases hs with hs|⟨l,off,ty,live,ro,cs,a,c,d,f,g,i⟩
 ·exact .inl hs
 ·exact .inr ⟨l,off,ty,live,ro,cs,a,hb l c,d,f,g,i.mono hb⟩
theorem il.one(hs:il e b h xs v):v.one=true:=by
 rcases hs with⟨rfl,_⟩|⟨l,off,ty,live,ro,cs,rfl,_⟩ <;> rfl
end
def eL{α:Type} (e:qf α):qf (List α) where
 sz:=1
 rel b h xs cs:=∃v,cs=[v]/\il e b h xs v
 len:=by simp_all
 one:=λ⟨_,h,hs⟩=>by subst h;simp[hs.one]
 fk:=λhk ⟨v,h,hs⟩=>⟨v,h,hs.fk hk⟩
 mono:=λhb ⟨v,h,hs⟩=>⟨v,h,hs.mono hb⟩
section
variable{α:Type}{e:qf α}{b:Nat->Prop}{h h':Hp}{xs:List α}{v:V}
theorem il.len(hs:il e b h xs v):fE v=some (.int .i64 xs.length):=by
 rcases hs with⟨rfl,rfl⟩|⟨l,off,ty,live,ro,cs,rfl,_⟩ <;> rfl
theorem il.nil:il e b h [] .ei:= .inl ⟨rfl,rfl⟩
theorem il.ix(hs:il e b h xs v) {i:Nat} (hi:i<xs.length) (kd:IntKind) :
  ∃l o w,b l/\gB e.sz v (.int kd i)=some (.ptr l o)/\fO e.sz (.ptr l o) h=some (.agg w)/\e.rel b h xs[i] w/\∀k u,w[k]? =some u->fe (.ptr l (o+k)) h=some u:=by
 rcases hs with⟨_,rfl⟩|⟨l,off,ty,live,ro,cs,rfl,c,a,n,p,d⟩
 ·grind
 ·obtain rfl:live=true:=by grind
  let⟨w,f,g,j⟩:=d.get (i:=i) (x:=xs[i]) (by simp_all)
  rw[wBx]at g;have m:(cs.drop (off+i*e.sz)).take e.sz=w:=by rw[<-f,wBr]
  refine⟨l,off+i*e.sz,w,c,by grind[yJ],?_,j,λk u q=>?_⟩
  ·rw[Bf a,EN (by omega),m];rfl
  ·rw[Rl a,Q2]
   grind
theorem il.Wd(hs:il e b h xs v) {i:Nat} (hi:i<xs.length) (kd:IntKind) (a:e.sz=1) :
  ∃l o u,b l/\gB 1 v (.int kd i)=some (.ptr l o)/\fe (.ptr l o) h=some u/\e.rel b h xs[i] [u]:=by
 let⟨l,o,w,h0,c,_,d,g⟩:=hs.ix hi kd
 rw [a]at c;have f:=e.len d;rw[a]at f;obtain⟨u,rfl⟩:∃u,w=[u]:=by
  match w,f with
  |[u],_=>simp_all
 exact⟨l,o,u,h0,c,g 0 u rfl,d⟩
theorem il.Ve{b':Nat->Prop} {ty:Nat} {ro:Bool} {cs:List V} (c:qX e b h cs xs) (hb:∀l,b l->l<h.next) (a:∀l,b l->b' l) (d:b' h.next):il e b' (h.new (.cells ty e.sz true ro cs)) xs (.slice h.next 0 xs.length):=
 .inr ⟨h.next,0,ty,true,ro,cs,rfl,d,fm _ _,.inr rfl,Mr _,(c.fk (by grind[fo])).mono a⟩
theorem il.new{ty:Nat} {ro:Bool} {cs:List V} {n:Nat} (b:qX e (lo n) h cs xs) (hb:n<=h.next):il e (lo (h.next+1)) (h.new (.cells ty e.sz true ro cs)) xs (.slice h.next 0 xs.length):=
 .Ve b (λ_ a=>Ep a hb) (λ_ a=>wBf (Ep a hb)) (Pf _)
end
section
variable (t:Nat)(k:IntKind)(a b:Int)
@[simp] theorem nT:ez .add t (.int k a) (.int k b)=some (.int k (lO k (a+b))):=by cases k <;> rfl
@[simp] theorem pI:ez .sub t (.int k a) (.int k b)=some (.int k (lO k (a-b))):=by cases k <;> rfl
@[simp] theorem OG:ez .mul t (.int k a) (.int k b)=some (.int k (lO k (a*b))):=by cases k <;> rfl
@[simp] theorem j7:ez .lss t (.int k a) (.int k b)=some (.bool (decide (a<b))):=by cases k <;> rfl
@[simp] theorem KA:ez .leq t (.int k a) (.int k b)=some (.bool (decide (a<=b))):=by cases k <;> rfl
@[simp] theorem nN:ez .gtr t (.int k a) (.int k b)=some (.bool (decide (b<a))):=by cases k <;> rfl
@[simp] theorem nW:ez .geq t (.int k a) (.int k b)=some (.bool (decide (b<=a))):=by cases k <;> rfl
@[simp] theorem gR:ez .eql t (.int k a) (.int k b)=some (.bool (a == b)):=by cases k <;> rfl
@[simp] theorem vf:ez .neq t (.int k a) (.int k b)=some (.bool (a != b)):=by cases k <;> rfl
@[simp] theorem zeq (x y:List UInt8):ez .eql t (.str x) (.str y)=some (.bool (x == y)):=rfl
@[simp] theorem zen (x y:List UInt8):ez .neq t (.str x) (.str y)=some (.bool (!(x == y))):=rfl
@[simp] theorem zbh (x:Bool):pK .not (.bool x)=some (.bool !x):=rfl
@[simp] theorem Se:pK .neg (.int k a)=some (.int k (lO k (0-a))):=rfl
theorem qi{k:IntKind} {n:Int} (h:sO k n):lO k n=n:=by
 rw[rT];cases k <;> simp only[sO]at h <;> simp only[IntKind.wrap,IntKind.signed,IntKind.bits,wBd,Bool.false_and,zX,wBM,if_false,Nat.reduceSub,Int.reducePow,ge_iff_le] <;> (try split) <;> omega
@[simp] theorem Ip {n:Nat} (h:n<9223372036854775808):lO .i64 (n:Int)=n:=qi (by simp only[sO];omega)
@[simp] theorem Ts (g:Bool):TS g (.int k a) [.int k b]=some (.int k (if g then max a b else min a b)):=by
 cases g
 ·show some (V.int k (if b<a then b else a))=_;simp only[wBM,if_false];congr 2;omega
 ·show some (V.int k (if b>a then b else a))=_;simp only[if_true];congr 2;omega
end
theorem ZZ(n:Nat) (z:V):CU n [z]=List.replicate n z:=by
 induction n <;> grind[CU]
theorem Pm{e sz jL n:Nat} {z:V} (a:n*jL<=281474976710656) (b:n<=1099511627776) :
  gX e sz jL z (.int .i64 (n:Int)) (.int .i64 (n:Int))=some (O.cells e sz true false (CU n z.cells),λl=>V.slice l 0 n):=by
 show bB (Nat.ble n n) (bB (Nat.ble (n*jL) 281474976710656) (bB (Nat.ble n 1099511627776) (some (O.cells e sz true false (CU n z.cells),λl=>V.slice l 0 n))))=_
 simp_all[mI,VK,iZ]
theorem U7{cs:List V} {v:V}:∀{o:Nat},o<cs.length->qB o cs [v]=some (cs.set o v):=by
 induction cs with
 |nil=>simp_all
 | cons c cs a=>
   intro o h
   cases o with
   |zero=>rfl
   | succ o=>
     grind[qB,ft]
theorem Wz:∀{ws cs:List V},ws.length<=cs.length->over ws cs=some (ws++cs.drop ws.length)
 |[],_,_=>rfl
 |w::ws,[],h=>by simp_all
 | w::ws,c::cs,h=>by
   have:=Wz (ws:=ws) (cs:=cs) (by simp_all)
   grind[over,ft]
theorem Ar:∀{o:Nat} {cs ws:List V},o+ws.length<=cs.length->qB o cs ws=some (cs.take o++ws++cs.drop (o+ws.length))
 |0,cs,ws,h=>by simp_all[qB,Wz]
 |o+1,[],ws,h=>by simp_all
 | o+1,c::cs,ws,h=>by
   have:=Ar (o:=o) (cs:=cs) (ws:=ws) (by grind)
   grind[qB,ft]
theorem PI{v:V} (h:v.one=true):v.cells=[v]:=by
 cases v <;> first|rfl|cases h
section
variable{l o e sz:Nat}{cs:List V}{h:Hp}{v:V}
theorem NU(a:h.get l=some (.cells e sz true false cs)) (b:o<cs.length) (hv:v.one=true):gq 1 (.ptr l o) v h=some (.val .undef (h.put l (.cells e sz true false (cs.set o v)))):=by
 unfold gq Ky ko;simp only[HW,PI hv,a,ft,eQ,hv,U7 b];rfl
theorem Ie{ws:List V} {n:Nat} (a:h.get l=some (.cells e sz true false cs)) (b:ws.length=n) (hc:cs.length=n) (hv:gj ws=true):gq n (.ptr l 0) (.agg ws) h=some (.val .undef (h.put l (.cells e sz true false ws))):=by
 unfold gq Ky ko;have hs:qB 0 cs ws=some ws:=by
  rw[Ar (by omega),wBz,UA,List.drop_of_length_le (by omega),Lg]
 grind[HW,V.cells,ft,mI,YH]
theorem zaz{ws:List V} {n:Nat} (a:h.get l=some (.cells e sz true false cs)) (b:ws.length=n) (hc:o+n<=cs.length) (hv:gj ws=true) :
  gq n (.ptr l o) (.agg ws) h=some (.val .undef (h.put l (.cells e sz true false (cs.take o++ws++cs.drop (o+n))))):=by
 unfold gq Ky ko;simp[ V.cells,a,Ar (show o+ws.length<=cs.length by omega)]
 simp_all
theorem kP{u:V}{ro:Bool}(a:h.get l=some (.cells e sz true ro cs))(b:cs[o]? =some u):fe (.ptr l o) h=some u:=by rw[Rl a,Q2,b]
theorem DD{n:Nat} {ro:Bool} (a:h.get l=some (.cells e sz true ro cs)) (b:cs.length=n):fO n (.ptr l 0) h=some (.agg cs):=by
 rw[Bf a,EN (by omega),wBP,wAz (by omega)];rfl
end
section
variable{α:Type}{e:qf α}{b:Nat->Prop}{h:Hp}
theorem qX.drop:∀{xs:List α} {cs:List V} (n:Nat),qX e b h cs xs->n<=xs.length->qX e b h (cs.drop (n*e.sz)) (xs.drop n)
 |xs,cs,0,hw,_=>by simp_all
 |[],cs,n+1,_,hn=>by simp_all
 | x::xs,cs,n+1,⟨w,r,a,c,d⟩,hn=>by
   have:=qX.drop n d (by simpa using hn);have f:=e.len c;subst a;rw[ YF,Nat.one_mul,Nat.add_comm,<-wBr]
   simp_all
theorem qX.taken:∀{xs:List α} {cs:List V} (n:Nat),qX e b h cs xs->qX e b h cs (xs.take n)
 |xs,cs,0,_=>by simp[wBz];trivial
 |[],cs,n+1,_=>by simp_all
 |x::xs,cs,n+1,⟨w,r,a,c,d⟩=>⟨w,r,a,c,qX.taken n d⟩
theorem Qi(z:Nat) (k:IntKind) (n:Nat):hbound z (some (.int k n))=some n:=by
 rfl
theorem HH(z:Nat):hbound z none=some z:=rfl
theorem il.cut{xs:List α} {v:V} (hs:il e b h xs v) {lo hi:Option V} {m n:Nat} (i:hbound 0 lo=some m) (j:hbound xs.length hi=some n) (k:m<=n) (a:n<=xs.length) :
  ∃d,iY e.sz v lo hi h=some d/\il e b h ((xs.take n).drop m) d:=by
 rcases hs with⟨rfl,rfl⟩|⟨l,off,ty,live,ro,cs,rfl,o,p,r,s,f⟩
 ·simp at a;subst a;obtain rfl:m=0:=by omega
  refine⟨.ei,?_,.inl ⟨rfl,by simp⟩⟩
  simp_all[iY,ft]
 ·have q:=f.length;have g:m*e.sz<=n*e.sz:=wBs _ k;have c:n*e.sz<=xs.length*e.sz:=wBs _ a;rw[wBx]at q;refine⟨.slice l (off+m*e.sz) (n-m),?_,?_⟩
  ·grind[iY,ko,ft,mI,YH,VK]
  ·have hlen:((xs.take n).drop m).length=n-m:=by rw[wBx,Pw];omega
   refine .inr ⟨l,off+m*e.sz,ty,live,ro,cs,by rw[hlen],o,p,?_,by omega,?_⟩
   ·grind
   ·rw[<-wBr];exact(f.taken n).drop m (by simp_all)
end
section
variable{e sz a n:Nat}{h h':Hp}{cs:List V}{v:V}
theorem mU{e sz k:Nat} {h:Hp} {cs:List V} {ro:Bool} (a:cs.length=(k+1)*sz):kX (h.new (.cells e sz true ro cs)) sz (.slice h.next 0 (k+1))=some (k+1,cs):=by
 unfold kX Lo ko;have:sub cs 0 (Nat.mul (Nat.succ k) sz)=some cs:=by
  show sub cs 0 ((k+1)*sz)=some cs;rw[EN (by omega),wBP,wAz (by omega)]
 grind[fm,ft,G2]
end
