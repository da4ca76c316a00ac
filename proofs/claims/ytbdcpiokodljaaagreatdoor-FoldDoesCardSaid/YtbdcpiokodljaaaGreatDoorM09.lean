/- Parts. -/
import Derived.Test.YtbdcpiokodljaaaGreatDoorM08
import Derived.KernelRfl
set_option maxHeartbeats 4000000
namespace Go.Proofs.YtbdcpiokodljaaaGreatDoor.Hx
def _root_.Go.Code.l:Code->Code
 | .seq a _=>a
 | .cond _ a _=>a
 | .block _ c=>c
 | .loop c=>c
 |_=> .skip
def _root_.Go.Code.r:Code->Code
 | .seq _ b=>b
 | .cond _ _ b=>b
 |_=> .skip
def LS(fn:Func):Code:=match fn.body with
 |some c=>c
 |none=> .skip
noncomputable section
def ez(a:V)(h:Hp):Option V:=Ae a λl off=>ld1 h l off
def fX(n:Nat)(a:V)(h:Hp):Option V:=Ae a λl off=>oB (IS h l off n) λcs=>some (.agg cs)
def fF(k:Nat)(x:V):Option V:=Ae x λl off=>some (.ptr l (Nat.add off k))
def gG(n:Nat) (x i:V):Option V:=asNat i λi=>match x with
 | .slice l off len=>bB (Nat.blt i len) (some (.ptr l (Nat.add off (Nat.mul i n))))
 |_=>none
def zdX(len n:Nat)(x i:V):Option V:=asNat i λi=>Ae x λl off=>bB (Nat.blt i len) (some (.ptr l (Nat.add off (Nat.mul i n))))
def zgg(k:Nat) (x:V):Option V:=match x with
 | .agg cs=>FU cs k
 |_=>none
def jw(c a b:V):Option V:=match c with
 | .bool x=>Bool.rec (motive:=λ_=>Option V) (some b) (some a) x
 |_=>none
def hZ(x:V):Option V:=match x with
 | .ptr l off=>some (.ptr l off)
 | .func f a c=>some (.func f a c)
 | .iface u v=>some (.iface u v)
 |_=>none
def pN(k:IntKind) (x:V):Option V:=match x with
 | .int _ n=>some (.int k (mq k n))
 |_=>none
def fW(z:List V)(a:List (Nat×Nat))(ps:List (Nat×V)):Option V:=oB (Ef (λi=>a[i]?) z ps) λcs=>some (.agg cs)
def EG(i:Nat) (x:V):Option V:=match x with
 | .tuple vs=>FU vs i
 |_=>none
def zeY(x:V):Option V:=match x with
 | .str s=>some (.int .i64 (.ofNat s.length))
 |_=>none
def fD(x:V):Option V:=match x with
 | .slice _ _ n=>some (.int .i64 (.ofNat n))
 | .ee=>some (.int .i64 (.ofNat 0))
 |_=>none
def VI(a:Nat) (d:Option (List Field)) (z:V) (ok:Bool) (m k:V) (h:Hp):Option V:=bB (LW d k) (match m with
 | .mJ=>some (found z ok none)
 | .map l=>Gc h l λb _=>oB (yN a d k b 0) λr=>some (found z ok r)
 |_=>none)
def jK(a size len:Nat) (z:V) (ps:List (Nat×V)):Option (O×(Nat->V)):=oB (Ef (λi=>some (Nat.mul i size,size)) (De len z.cells) ps) λcs=>bB (gv cs) (some (.cells a size true false cs,λl=> .slice l 0 len))
def gJ(n:Nat)(a v:V)(h:Hp):Option R:=Ae a λl off=>bB (Nat.beq v.cells.length n) (oB (Gk h l off v.cells) λh=>some (.val .undef h))
end
noncomputable section
def fg(x:Option R)(K:V->Hp->Prop):Prop:=oP (oB x valOf) λy=>K y.1 y.2
def hV(C:fk)(x:Option R)(h:Hp)(K:V->Hp->Prop):Prop:=oP (oB x JA) λy=>cP C y.1 y.2 h K
def dcP(C:fk)(f:Nat)(l:List V)(h:Hp)(K:V->Hp->Prop):Prop:=oP (some (f,l)) λy=>cP C y.1 y.2 h K
def hH(x:Option (O×(Nat->V)))(h:Hp)(K:V->Hp->Prop):Prop:=oP x λr=>K (r.2 h.next) (h.new r.1)
def yU(x:Option (O×(Nat->V)))(h:Hp)(K:O->V->Hp->Prop):Prop:=oP x λr=>K r.1 (r.2 h.next) (h.new r.1)
def ghP(b:Bool)(h:Hp)(x:Option (V×Hp))(K:V->Hp->Prop):Prop:=oP (gH b h x) λy=>K y.1 y.2
def gT(b:Bool)(p:Prop):Prop:=Bool.rec (motive:=λ_=>Prop) True p b
def fu(w:Bool) (x:V):Option Bool:=match x with
 | .bool b=>some (Bool.rec (motive:=λ_=>Bool) (!w) w b)
 | .tuple []=>some false
 |_=>none
end
theorem Xw(f:Nat->V) (d:Nat) (v:V):fq f d v d=v:=by
 simp_all[fq,Xn]
theorem za0(f:Nat->V) {d i:Nat} (v:V) (h:i≠d):fq f d v i=f i:=by
 unfold fq;cases hb:Nat.beq i d <;> simp_all
@[simp] theorem fe {α β:Type} (a:α) (k:α->Option β):oB (some a) k=k a:=rfl
@[simp] theorem ze9 {α β:Type} (k:α->Option β):oB (none:Option α) k=none:=rfl
@[simp] theorem uk {β:Type} (k:Option β):bB true k=k:=rfl
@[simp] theorem zd7 {β:Type} (k:Option β):bB false k=none:=rfl
theorem nj{β:Type}{c:Bool}(k:Option β)(h:c=true):bB c k=k:=by simp_all
@[simp] theorem zb {β:Type} (l o:Nat) (k:Nat->Nat->Option β):Ae (.ptr l o) k=k l o:=rfl
@[simp] theorem zco {β:Type} (kd:IntKind) (n:Nat) (k:Nat->Option β):asNat (.int kd (.ofNat n)) k=k n:=rfl
@[simp] theorem zc8 {β:Type} (kd:IntKind) (n:Nat) (k:Nat->Option β):asNat (.int kd (n:Int)) k=k n:=rfl
@[simp] theorem zd3 {β:Type} (kd:IntKind) (n:Nat) (k:Nat->Option β):asNat (.int kd (OfNat.ofNat n:Int)) k=k n:=rfl
@[simp] theorem zdT {β:Type} (kd:IntKind) (k:Nat->Option β):asNat (.int kd 0) k=k 0:=rfl
@[simp] theorem zd1 {β:Type} (kd:IntKind) (k:Nat->Option β):asNat (.int kd 1) k=k 1:=rfl
@[simp] theorem fS (k l o:Nat):fF k (.ptr l o)=some (.ptr l (o+k)):=rfl
@[simp] theorem fP (l o:Nat):hZ (.ptr l o)=some (.ptr l o):=rfl
@[simp] theorem zd8 (f:Nat) (a c:List V):hZ (.func f a c)=some (.func f a c):=rfl
@[simp] theorem zdp (l o n:Nat):fD (.slice l o n)=some (.int .i64 n):=rfl
@[simp] theorem zeD:fD .ee=some (.int .i64 0):=rfl
@[simp] theorem zd5 (s:List UInt8):zeY (.str s)=some (.int .i64 s.length):=rfl
@[simp] theorem vh (x:Bool) (a b:V):jw (.bool x) a b=some (if x=true then a else b):=by cases x <;> rfl
@[simp] theorem iH (k k':IntKind) (n:Int):pN k (.int k' n)=some (.int k (mq k n)):=rfl
@[simp] theorem Fp (i:Nat) (vs:List V):EG i (.tuple vs)=FU vs i:=rfl
@[simp] theorem zfO (k:Nat) (cs:List V):zgg k (.agg cs)=FU cs k:=rfl
@[simp] theorem fE (o:O) (f:Nat->V) (h:Hp) (K:V->Hp->Prop):hH (some (o,f)) h K=K (f h.next) (h.new o):=rfl
@[simp] theorem g0 (o:O) (f:Nat->V) (h:Hp) (K:O->V->Hp->Prop):yU (some (o,f)) h K=K o (f h.next) (h.new o):=rfl
@[simp] theorem ei (v:V) (h:Hp) (K:V->Hp->Prop):fg (some (.val v h)) K=K v h:=rfl
@[simp] theorem AP (C:fk) (f:Nat) (l:List V) (h:Hp) (K:V->Hp->Prop):hV C (some (.call f l)) h K=cP C f l h K:=rfl
@[simp] theorem zgf (C:fk) (f:Nat) (l:List V) (h:Hp) (K:V->Hp->Prop):dcP C f l h K=cP C f l h K:=rfl
@[simp] theorem yW (f:Nat) (a c l:List V):gi (.func f a c) l=some (.call f (a++(l++c))):=rfl
@[simp] theorem zed (w b:Bool):fu w (.bool b)=some (b == w):=by cases w <;> cases b <;> rfl
@[simp] theorem zfP (x:Option V):gV true x=x:=rfl
@[simp] theorem zfE (x:Option V):gV false x=some .undef:=rfl
@[simp] theorem zfQ (x:Option (Nat×List V)):gC true x=oB x λy=>some (some y):=rfl
@[simp] theorem zey (x:Option (Nat×List V)):gC false x=some none:=rfl
@[simp] theorem zfR (p:Prop):gT true p=p:=rfl
@[simp] theorem zfC (p:Prop):gT false p=True:=rfl
@[simp] theorem ze5 (C:fk) (y:Nat×List V) (h:Hp) (K:V->Hp->Prop):qN C (some y) h K=cP C y.1 y.2 h K:=rfl
@[simp] theorem zew (C:fk) (h:Hp) (K:V->Hp->Prop):qN C none h K=K .undef h:=rfl
theorem za(n l o len i:Nat) (kd:IntKind) (h:i<len):gG n (.slice l o len) (.int kd i)=some (.ptr l (o+i*n)):=by
 show bB (Nat.blt i len) _=_
 grind[nj,Q8]
theorem Q1{l o e sz:Nat} {ro:Bool} {cs:List V} {h:Hp} (a:h.get l=some (.cells e sz true ro cs)):ez (.ptr l o) h=FU cs o:=by
 simp_all[ez,ld1,kI,zb,fe,uk]
theorem Eo{n l o e sz:Nat} {ro:Bool} {cs:List V} {h:Hp} (a:h.get l=some (.cells e sz true ro cs)):fX n (.ptr l o) h=oB (sub cs o n) λcs=>some (.agg cs):=by
 simp_all[fX,IS,kI,zb,fe,uk]
@[simp] theorem zfF (v:V) (l:List V):FU (v::l) 0=some v:=rfl
@[simp] theorem zej (v:V) (l:List V) (n:Nat):FU (v::l) (n+1)=FU l n:=rfl
theorem Ru(l:List V)(n:Nat):FU l n=l[n]?:=by grind[FU,List.head?_drop]
@[simp] theorem zc4 (l:List V):takeN 0 l=some []:=by rfl
@[simp] theorem zdO (n:Nat) (v:V) (l:List V):takeN (n+1) (v::l)=oB (takeN n l) λr=>some (v::r):=rfl
theorem T9:∀(n:Nat) (l:List V),n<=l.length->takeN n l=some (l.take n)
 |0,l,_=>by rfl
 |n+1,[],h=>by simp_all
 |n+1,v::l,h=>by simp only[takeN,T9 n l (by simp_all),fe,List.take_succ_cons]
theorem EI{l:List V} {o n:Nat} (h:o+n<=l.length):sub l o n=some ((l.drop o).take n):=by
 grind[sub,T9]
@[simp] theorem iL {α:Type} (a:α) (k:α->Prop):oP (some a) k=k a:=rfl
@[simp] theorem On (x:Bool) (a b:Prop):bP (.bool x) a b=if x=true then a else b:=iy x a b
@[simp] theorem zd2 (v:V) (h:Hp):valOf (.val v h)=some (v,h):=rfl
@[simp] theorem zcN (f:Nat) (l:List V):JA (.call f l)=some (f,l):=rfl
section
variable{C:fk}{n:Nat}{Q:X->gL->Hp->Prop}{ρ:gL}{h:Hp}
theorem Wp.of{c:Code}{P:Prop}(e:j5 C n c Q ρ h=P)(hp:P):Wp C n c Q ρ h:=Wp.code c (e.mpr hp)
theorem vP{α:Type}{a:α}{k:α->Prop}(h:k a):oP (some a) k:=h
theorem oM{α:Type} {x:Option α} {k k':α->Prop} (h:oP x k) (f:∀a,x=some a->k a->k' a):oP x k':=by
 grind[lK,ed]
theorem bM{v:V} {a b a' b':Prop} (h:bP v a b) (f:a->a') (g:b->b'):bP v a' b':=by
 unfold bP at h⊢;split at h
 ·rename_i x;cases x <;> grind
 omega
theorem dcM{f:Nat} {l:List V} {k k':V->Hp->Prop} (h':cP C f l h k) (F:∀v h',k v h'->k' v h'):dcP C f l h k':=by
 show cP C f l h k';exact h'.mono F
theorem cgM{x:Option (Nat×List V)} {k k':V->Hp->Prop} (h':qN C x h k) (F:∀v h',k v h'->k' v h'):qN C x h k':=by
 cases x with
 |none=>simp_all
 |some y=>exact cP.mono h' F
theorem alM{x:Option (O×(Nat->V))} {k k':V->Hp->Prop} (h':hH x h k) (F:∀v h',k v h'->k' v h'):hH x h k':=
 oM h' (by simp_all)
theorem zcV{x:Option R} {k k':V->Hp->Prop} (h':fg x k) (F:∀v h',k v h'->k' v h'):fg x k':=
 oM h' (by simp_all)
end
theorem anM{a b c:Prop}(h:c/\a)(f:a->b):c/\b:=by simp_all
@[simp] theorem O.kX (e sz:Nat) (a r:Bool) (cs:List V):O.beq (.cells e sz a r cs) (.cells e sz a r cs)=true:=by
 simp[O.beq,V.AM]
@[simp] theorem O.zfS (c:Nat):O.beq (.map [] c) (.map [] c)=true:=by simp[O.beq]
def nt(c:V) (X:Option V):Option V:=match c with
 | .bool true=>some (.bool true)
 | .bool false=>X
 |_=>none
def jX(c:V) (X:Option V):Option V:=match c with
 | .bool false=>some (.bool false)
 | .bool true=>X
 |_=>none
@[simp] theorem zeZ (X:Option V):nt (.bool true) X=some (.bool true):=rfl
@[simp] theorem nr (X:Option V):nt (.bool false) X=X:=rfl
@[simp] theorem mA (X:Option V):jX (.bool true) X=X:=rfl
@[simp] theorem EL (X:Option V):jX (.bool false) X=some (.bool false):=rfl
@[simp] theorem pK (c d:Bool):nt (.bool c) (some (.bool d))=some (.bool (c ||d)):=by cases c <;> rfl
@[simp] theorem j6 (c d:Bool):jX (.bool c) (some (.bool d))=some (.bool (c&&d)):=by cases c <;> rfl
theorem zbI{c d:Bool} {X:Option V} (h:c=true->X=some (.bool d)):jX (.bool c) X=some (.bool (c&&d)):=by
 cases c <;> simp_all
theorem thn{A B:Prop}(a:A)(f:A->B):B:=f a
section
variable{c c' Xc:V}{X X':Option V}{K:V->Prop}{f:V->Option V}{w b0:Bool}
theorem KW(H:oP (nt c X) K):oP (fu false c) λb=>oP (gV b X) λv=>oP (jw c (.bool true) v) K:=by
 unfold nt at H;split at H
 ·exact H
 ·exact H
 ·exact H.elim
theorem N3(H:oP (jX c X) K):oP (fu true c) λb=>oP (gV b X) λv=>oP (jw c v (.bool false)) K:=by
 unfold jX at H;split at H
 ·exact H
 ·exact H
 ·exact H.elim
theorem sG1{R:Bool->V->Prop} (H:oP (fu w c) λb=>oP (gV b (oB X f)) K) (F:∀b,fu w c=some b->∀v,gV b X=some v->(oP (fu w c) λb=>oP (gV b (f v)) K)->R b v):oP (fu w c) λb=>oP (gV b X) λv=>R b v:=by
 obtain⟨b,a,d⟩:=lK.1 H;refine ed a ?_
 cases b with
 | true=>
   grind[lK,ft,oB,ed,gV]
 |false=>simp_all
theorem ig{b:Bool} {v:V} (E:gV b X=some v):gT b (X=some v):=by
 cases b <;> simp_all
end
structure mw (S:Nat->Prop) (h h':Hp):Prop where
 next:h.next<=h'.next
 fi:∀l,l<h.next->¬S l->h'.get l=h.get l
abbrev IW(h h':Hp):Prop:=mw (λ_=>False) h h'
theorem mw.refl(S:Nat->Prop)(h:Hp):mw S h h:=⟨ju _,by simp_all⟩
theorem mw.trans'{S S':Nat->Prop} {h h' c:Hp} (a:mw S h h') (b:mw S' h' c) (hs:∀l,l<h.next->S' l->S l):mw S h c:=
 ⟨Ix a.next b.next,λl d e=>by rw[b.fi l (ET d a.next) (by grind),a.fi l d e]⟩
theorem mw.trans{S:Nat->Prop}{h h' c:Hp}(a:mw S h h')(b:mw S h' c):mw S h c:=a.trans' b (by simp_all)
theorem mw.ZH{S S':Nat->Prop} {h h':Hp} (a:mw S h h') (hs:∀l,l<h.next->S l->S' l):mw S' h h':=
 ⟨a.next,λl b c=>a.fi l b (by grind)⟩
theorem mw.new{S:Nat->Prop} (h:Hp) (o:O):mw S h (h.new o):=
 ⟨PT _,λl a _=>by rw[xz,if_neg (by omega)]⟩
theorem mw.put{S:Nat->Prop} {h:Hp} {l:Nat} (o:O) (hs:S l) (a:l<h.next):mw S h (h.put l o):=
 ⟨ju _,λm _ b=>by rw[qE _ _ a,if_neg (by grind)]⟩
theorem fh(h:Hp)(o:O):(h.new o).get h.next=some o:=by rw[xz,if_pos rfl]
theorem fj{h:Hp}(o:O){l:Nat}(a:l<h.next):(h.new o).get l=h.get l:=by rw[xz,if_neg (by omega)]
theorem gq{h:Hp}{l:Nat}(o:O)(a:l<h.next):(h.put l o).get l=some o:=by rw[qE _ _ a,if_pos rfl]
theorem gK{h:Hp}{l m:Nat}(o:O)(a:l<h.next)(b:l≠m):(h.put l o).get m=h.get m:=by simp_all[qE,if_neg]
@[simp] theorem zfi (h:Hp) (o:O):(h.new o).next=h.next+1:=rfl
@[simp] theorem zeE (h:Hp) (l:Nat) (o:O):(h.put l o).next=h.next:=rfl
structure qH (α:Type) where
 sz:Nat
 rel:(Nat->Prop)->Hp->α->List V->Prop
 len:∀{b h x cs},rel b h x cs->cs.length=sz
 one:∀{b h x cs},rel b h x cs->gv cs=true
 fi:∀{b h h' x cs},(∀l,b l->h'.get l=h.get l)->rel b h x cs->rel b h' x cs
 mono:∀{b b' h x cs},(∀l,b l->b' l)->rel b h x cs->rel b' h x cs
def lo(b:Nat):Nat->Prop:=λl=>l<b
theorem CC{b b':Nat}(h:b<=b'):∀l,lo b l->lo b' l:=λ_ a=>ET a h
theorem pd:∀(a b:List V),gv (a++b)=(gv a&&gv b)
 |[],b=>by rfl
 | v::a,b=>by
   simp only[wBo,gv,pd a b];cases v.one <;> simp
@[simp] theorem UD:gv []=true:=rfl
@[simp] theorem eo (v:V) (l:List V):gv (v::l)=(v.one&&gv l):=by
 simp only[gv];cases v.one <;> rfl
def rO:IntKind->Int->Prop
 | .i8,n=>-128<=n/\n<=127
 | .i16,n=>-32768<=n/\n<=32767
 | .i32,n=>-2147483648<=n/\n<=2147483647
 | .i64,n=>-9223372036854775808<=n/\n<=9223372036854775807
 | .u8,n=>0<=n/\n<=255
 | .u16,n=>0<=n/\n<=65535
 | .u32,n=>0<=n/\n<=4294967295
 | .u64,n=>0<=n/\n<=18446744073709551615
def eI(k:IntKind):qH Int where
 sz:=1
 rel _ _ n cs:=cs=[.int k n]/\rO k n
 len h:=by simp_all
 one h:=by rw[h.1];rfl
 fi _ h:=h
 mono _ h:=h
def eB:qH Bool where
 sz:=1
 rel _ _ n cs:=cs=[.bool n]
 len h:=by simp_all
 one h:=by subst h;rfl
 fi _ h:=h
 mono _ h:=h
def eS:qH (List UInt8) where
 sz:=1
 rel _ _ n cs:=cs=[.str n]
 len h:=by simp_all
 one h:=by subst h;rfl
 fi _ h:=h
 mono _ h:=h
def eP{α β:Type} (e:qH α) (f:qH β):qH (α×β) where
 sz:=e.sz+f.sz
 rel b h x cs:=∃p q,cs=p++q/\e.rel b h x.1 p/\f.rel b h x.2 q
 len:=λ⟨_,_,h,a,c⟩=>by subst h;simp[e.len a,f.len c]
 one:=λ⟨_,_,h,a,c⟩=>by subst h;simp[pd,e.one a,f.one c]
 fi:=λhk ⟨p,q,h,a,c⟩=>⟨p,q,h,e.fi hk a,f.fi hk c⟩
 mono:=λd ⟨p,q,h,a,c⟩=>⟨p,q,h,e.mono d a,f.mono d c⟩
def eM{α β:Type} (g:β->α) (e:qH α):qH β where
 sz:=e.sz
 rel b h x cs:=e.rel b h (g x) cs
 len h:=e.len h
 one h:=e.one h
 fi hk h:=e.fi hk h
 mono hb h:=e.mono hb h
def qP{α:Type} (e:qH α) (b:Nat->Prop) (h:Hp):List V->List α->Prop
 |_,[]=>True
 |cs,x::xs=>∃w r,cs=w++r/\e.rel b h x w/\qP e b h r xs
section
variable{α:Type}{e:qH α}{b:Nat->Prop}{h h':Hp}
theorem qP.fi(hk:∀l,b l->h'.get l=h.get l):∀{xs:List α} {cs:List V},qP e b h cs xs->qP e b h' cs xs
 |[],_,_=>trivial
 |_::_,_,⟨w,r,a,c,d⟩=>⟨w,r,a,e.fi hk c,qP.fi hk d⟩
theorem qP.mono{b':Nat->Prop} (a:∀l,b l->b' l):∀{xs:List α} {cs:List V},qP e b h cs xs->qP e b' h cs xs
 |[],_,_=>trivial
 |_::_,_,⟨w,r,c,d,f⟩=>⟨w,r,c,e.mono a d,qP.mono a f⟩
theorem qP.length:∀{xs:List α} {cs:List V},qP e b h cs xs->xs.length*e.sz<=cs.length
 |[],_,_=>by simp
 | _::xs,_,⟨w,r,a,c,d⟩=>by
   have:=qP.length d;have f:=e.len c;subst a;simp only[K8,Rb,Yt,Nat.one_mul];omega
theorem qP.get:∀{xs:List α} {cs:List V},qP e b h cs xs->∀{i:Nat} {x:α},xs[i]? =some x->∃w,(cs.drop (i*e.sz)).take e.sz=w/\i*e.sz+e.sz<=cs.length/\e.rel b h x w
 |[],_,_,i,x,hx=>by simp_all
 | y ::xs,_,⟨w,r,a,c,d⟩,i,x,hx=>by
   have f:=e.len c;subst a
   cases i with
   | zero=>
     simp_all
   | succ i=>
     obtain⟨w',g,k,j⟩:=qP.get d (i:=i) (x:=x) (by simp_all);refine⟨w',?_,?_,j⟩
     ·rw[<-g,Yt,Nat.one_mul,Nat.add_comm,<-f,<-wBg];simp
     grind
theorem qP.append{ys:List α}:∀{xs:List α} {cs ds:List V},qP e b h cs xs->cs.length=xs.length*e.sz->qP e b h ds ys->qP e b h (cs++ds) (xs++ys)
 | [],cs,ds,_,hl,a=>by
   simp_all
 | x::xs,_,ds,⟨w,r,c,a,d⟩,hl,f=>by
   subst c;have g:=e.len a;refine⟨w,r++ds,by simp,a,qP.append d ?_ f⟩
   grind
theorem qP.take:∀{xs:List α} {cs:List V},qP e b h cs xs->qP e b h (cs.take (xs.length*e.sz)) xs
 |[],_,_=>trivial
 | _::xs,_,⟨w,r,c,a,d⟩=>by
   have f:=e.len a;subst c;refine⟨w,r.take (xs.length*e.sz),?_,a,qP.take d⟩
   simp_all[List.take_append,wA1,Rb,Yt,Nat.one_mul]
theorem qP.more{ds:List V}:∀{xs:List α} {cs:List V},qP e b h cs xs->qP e b h (cs++ds) xs
 |[],_,_=>trivial
 |_::_,_,⟨w,r,a,c,d⟩=>⟨w,r++ds,by rw[a,M6],c,qP.more d⟩
theorem qP.set:∀{xs:List α} {cs:List V},qP e b h cs xs->∀{i:Nat} {y:α} {w:List V},i<xs.length->e.rel b h y w->qP e b h (cs.take (i*e.sz)++w++cs.drop (i*e.sz+e.sz)) (xs.set i y)
 |[],_,_,i,y,w,hi,_=>by simp_all
 | x ::xs,_,⟨u,r,d,a,c⟩,i,y,w,hi,hw=>by
   have f:=e.len a;have g:=e.len hw;subst d
   cases i with
   | zero=>
     refine⟨w,r,?_,hw,c⟩
     simp_all
   | succ i=>
     refine⟨u,_,?_,a,qP.set c (i:=i) (y:=y) (w:=w) (by simpa using hi) hw⟩;have j:(i+1)*e.sz=u.length+i*e.sz:=by rw[Yt,Nat.one_mul,f];omega
     have k:(i+1)*e.sz+e.sz=u.length+(i*e.sz+e.sz):=by omega
     rw[k,j,List.take_length_add_append,<-wBg,List.drop_left]
     simp_all
end
def ie{α:Type} (e:qH α) (b:Nat->Prop) (h:Hp) (xs:List α) (v:V):Prop:=(v = .ee/\xs=[])\/∃l off ty live ro cs,v = .slice l off xs.length/\b l/\h.get l=some (.cells ty e.sz live ro cs)/\(xs=[]\/live=true)/\off<=cs.length/\qP e b h (cs.drop off) xs
section
variable{α:Type}{e:qH α}{b:Nat->Prop}{h h':Hp}{xs:List α}{v:V}
theorem ie.fi(hk:∀l,b l->h'.get l=h.get l) (hs:ie e b h xs v):ie e b h' xs v:=by
 rcases hs with hs|⟨l,off,ty,live,ro,cs,a,c,i,d,f,g⟩
 ·exact .inl hs
 ·exact .inr ⟨l,off,ty,live,ro,cs,a,c,by simp_all,d,f,g.fi hk⟩
theorem ie.mono{b':Nat->Prop} (a:∀l,b l->b' l) (hs:ie e b h xs v):ie e b' h xs v:=by
 rcases hs with hs|⟨l,off,ty,live,ro,cs,c,d,f,g,i,j⟩
 ·exact .inl hs
 ·exact .inr ⟨l,off,ty,live,ro,cs,c,a l d,f,g,i,j.mono a⟩
theorem ie.one(hs:ie e b h xs v):v.one=true:=by
 rcases hs with⟨rfl,_⟩|⟨l,off,ty,live,ro,cs,rfl,_⟩ <;> rfl
end
def eL{α:Type} (e:qH α):qH (List α) where
 sz:=1
 rel b h xs cs:=∃v,cs=[v]/\ie e b h xs v
 len:=by simp_all
 one:=λ⟨_,h,hs⟩=>by subst h;simp[hs.one]
 fi:=λhk ⟨v,h,hs⟩=>⟨v,h,hs.fi hk⟩
 mono:=λa ⟨v,h,hs⟩=>⟨v,h,hs.mono a⟩
section
variable{α:Type}{e:qH α}{b:Nat->Prop}{h h':Hp}{xs:List α}{v:V}
theorem ie.len(hs:ie e b h xs v):fD v=some (.int .i64 xs.length):=by
 rcases hs with⟨rfl,rfl⟩|⟨l,off,ty,live,ro,cs,rfl,_⟩ <;> rfl
theorem ie.nil:ie e b h [] .ee:= .inl ⟨rfl,rfl⟩
theorem ie.ix(hs:ie e b h xs v) {i:Nat} (hi:i<xs.length) (kd:IntKind) :
  ∃l o w,b l/\gG e.sz v (.int kd i)=some (.ptr l o)/\fX e.sz (.ptr l o) h=some (.agg w)/\e.rel b h xs[i] w/\∀k u,w[k]? =some u->ez (.ptr l (o+k)) h=some u:=by
 rcases hs with⟨_,rfl⟩|⟨l,off,ty,live,ro,cs,rfl,c,a,n,p,d⟩
 ·grind
 ·obtain rfl:live=true:=by grind
  obtain⟨w,f,g,j⟩:=d.get (i:=i) (x:=xs[i]) (by simp_all);rw[wB1]at g;have m:(cs.drop (off+i*e.sz)).take e.sz=w:=by rw[<-f,wBg]
  refine⟨l,off+i*e.sz,w,c,by grind[za],?_,j,λk u q=>?_⟩
  ·rw[Eo a,EI (by omega),m];rfl
  ·rw[Q1 a,Ru]
   grind
theorem ie.Wd(hs:ie e b h xs v) {i:Nat} (hi:i<xs.length) (kd:IntKind) (a:e.sz=1) :
  ∃l o u,b l/\gG 1 v (.int kd i)=some (.ptr l o)/\ez (.ptr l o) h=some u/\e.rel b h xs[i] [u]:=by
 obtain ⟨l,o,w,h0,c,_,d,g⟩:=hs.ix hi kd;rw[a]at c;have f:=e.len d;rw[a]at f;obtain⟨u,rfl⟩:∃u,w=[u]:=by
  match w,f with
  |[u],_=>simp_all
 exact⟨l,o,u,h0,c,g 0 u rfl,d⟩
theorem ie.UR{b':Nat->Prop} {ty:Nat} {ro:Bool} {cs:List V} (c:qP e b h cs xs) (f:∀l,b l->l<h.next) (a:∀l,b l->b' l) (d:b' h.next):ie e b' (h.new (.cells ty e.sz true ro cs)) xs (.slice h.next 0 xs.length):=
 .inr ⟨h.next,0,ty,true,ro,cs,rfl,d,fh _ _,.inr rfl,Ol _,(c.fi (by grind[fj])).mono a⟩
theorem ie.new{ty:Nat} {ro:Bool} {cs:List V} {n:Nat} (c:qP e (lo n) h cs xs) (b:n<=h.next):ie e (lo (h.next+1)) (h.new (.cells ty e.sz true ro cs)) xs (.slice h.next 0 xs.length):=
 .UR c (λ_ a=>ET a b) (λ_ a=>wBs (ET a b)) (Pv _)
end
section
variable (t:Nat)(k:IntKind)(a b:Int)
@[simp] theorem mQ:en .add t (.int k a) (.int k b)=some (.int k (mq k (a+b))):=by cases k <;> rfl
@[simp] theorem pI:en .sub t (.int k a) (.int k b)=some (.int k (mq k (a-b))):=by cases k <;> rfl
@[simp] theorem NY:en .mul t (.int k a) (.int k b)=some (.int k (mq k (a*b))):=by cases k <;> rfl
@[simp] theorem jT:en .lss t (.int k a) (.int k b)=some (.bool (decide (a<b))):=by cases k <;> rfl
@[simp] theorem KX:en .leq t (.int k a) (.int k b)=some (.bool (decide (a<=b))):=by cases k <;> rfl
@[simp] theorem oT:en .gtr t (.int k a) (.int k b)=some (.bool (decide (b<a))):=by cases k <;> rfl
@[simp] theorem oS:en .geq t (.int k a) (.int k b)=some (.bool (decide (b<=a))):=by cases k <;> rfl
@[simp] theorem gO:en .eql t (.int k a) (.int k b)=some (.bool (a == b)):=by cases k <;> rfl
@[simp] theorem oU:en .neq t (.int k a) (.int k b)=some (.bool (a != b)):=by cases k <;> rfl
@[simp] theorem zd9 (x y:List UInt8):en .eql t (.str x) (.str y)=some (.bool (x == y)):=rfl
@[simp] theorem zd6 (x y:List UInt8):en .neq t (.str x) (.str y)=some (.bool (!(x == y))):=rfl
@[simp] theorem zaM (x:Bool):pA .not (.bool x)=some (.bool !x):=rfl
@[simp] theorem Rx:pA .neg (.int k a)=some (.int k (mq k (0-a))):=rfl
theorem qh{k:IntKind} {n:Int} (h:rO k n):mq k n=n:=by
 rw[qZ];cases k <;> simp only[rO]at h <;> simp only[IntKind.wrap,IntKind.signed,IntKind.bits,wBc,Bool.false_and,A4,RY,if_false,Nat.reduceSub,Int.reducePow,ge_iff_le] <;> (try split) <;> omega
@[simp] theorem Ir {n:Nat} (h:n<9223372036854775808):mq .i64 (n:Int)=n:=qh (by simp only[rO];omega)
@[simp] theorem Yy (g:Bool):SO g (.int k a) [.int k b]=some (.int k (if g then max a b else min a b)):=by
 cases g
 ·show some (V.int k (if b<a then b else a))=_;simp only[RY,if_false];congr 2;omega
 ·show some (V.int k (if b>a then b else a))=_;simp only[if_true];congr 2;omega
end
theorem zav(n:Nat) (z:V):De n [z]=List.replicate n z:=by
 induction n <;> grind[De]
theorem O1{e sz kL n:Nat} {z:V} (a:n*kL<=281474976710656) (b:n<=1099511627776) :
  iB e sz kL z (.int .i64 (n:Int)) (.int .i64 (n:Int))=some (O.cells e sz true false (De n z.cells),λl=>V.slice l 0 n):=by
 show bB (Nat.ble n n) (bB (Nat.ble (n*kL) 281474976710656) (bB (Nat.ble n 1099511627776) (some (O.cells e sz true false (De n z.cells),λl=>V.slice l 0 n))))=_
 simp_all[nj,UW,ju]
theorem Uk{cs:List V} {v:V}:∀{o:Nat},o<cs.length->qw o cs [v]=some (cs.set o v):=by
 induction cs with
 |nil=>simp_all
 | cons c cs a=>
   intro o h
   cases o with
   |zero=>rfl
   | succ o=>
     grind[qw,fe]
theorem WN:∀{ws cs:List V},ws.length<=cs.length->over ws cs=some (ws++cs.drop ws.length)
 |[],_,_=>rfl
 |w::ws,[],h=>by simp_all
 | w::ws,c::cs,h=>by
   have:=WN (ws:=ws) (cs:=cs) (by simp_all)
   grind[over,fe,Rb]
theorem AO:∀{o:Nat} {cs ws:List V},o+ws.length<=cs.length->qw o cs ws=some (cs.take o++ws++cs.drop (o+ws.length))
 |0,cs,ws,h=>by simp_all[qw,WN,wB8,O7,zO]
 |o+1,[],ws,h=>by simp_all
 | o+1,c::cs,ws,h=>by
   have:=AO (o:=o) (cs:=cs) (ws:=ws) (by grind)
   grind[qw,fe]
theorem Qa{v:V} (h:v.one=true):v.cells=[v]:=by
 cases v <;> first|rfl|cases h
section
variable{l o e sz:Nat}{cs:List V}{h:Hp}{v:V}
theorem OU(a:h.get l=some (.cells e sz true false cs)) (b:o<cs.length) (hv:v.one=true):gJ 1 (.ptr l o) v h=some (.val .undef (h.put l (.cells e sz true false (cs.set o v)))):=by
 unfold gJ Gk kI;simp only[zb,Qa hv,Rb,wB4,a,fe,uk,wBf,eo,hv,UD,Bool.and_self,Uk b];rfl
theorem Iu{ws:List V} {n:Nat} (a:h.get l=some (.cells e sz true false cs)) (b:ws.length=n) (hc:cs.length=n) (hv:gv ws=true):gJ n (.ptr l 0) (.agg ws) h=some (.val .undef (h.put l (.cells e sz true false ws))):=by
 unfold gJ Gk kI;have hs:qw 0 cs ws=some ws:=by
  rw[AO (by omega),wB8,O7,zO,List.drop_of_length_le (by omega),JY]
 grind[zb,V.cells,fe,uk,wBf,nj,Xn]
theorem zah{ws:List V} {n:Nat} (a:h.get l=some (.cells e sz true false cs)) (b:ws.length=n) (hc:o+n<=cs.length) (hv:gv ws=true) :
  gJ n (.ptr l o) (.agg ws) h=some (.val .undef (h.put l (.cells e sz true false (cs.take o++ws++cs.drop (o+n))))):=by
 unfold gJ Gk kI;simp only[zb,V.cells,a,fe,uk,wBf,hv,AO (show o+ws.length<=cs.length by omega)]
 simp_all
theorem ma{u:V}{ro:Bool}(a:h.get l=some (.cells e sz true ro cs))(b:cs[o]? =some u):ez (.ptr l o) h=some u:=by rw[Q1 a,Ru,b]
theorem DB{n:Nat} {ro:Bool} (a:h.get l=some (.cells e sz true ro cs)) (b:cs.length=n):fX n (.ptr l 0) h=some (.agg cs):=by
 rw[Eo a,EI (by omega),wBS,wA1 (by omega)];rfl
end
section
variable{α:Type}{e:qH α}{b:Nat->Prop}{h:Hp}
theorem qP.drop:∀{xs:List α} {cs:List V} (n:Nat),qP e b h cs xs->n<=xs.length->qP e b h (cs.drop (n*e.sz)) (xs.drop n)
 |xs,cs,0,hw,_=>by simp_all
 |[],cs,n+1,_,hn=>by simp_all
 | x::xs,cs,n+1,⟨w,r,a,c,d⟩,hn=>by
   have:=qP.drop n d (by simpa using hn);have f:=e.len c;subst a;rw[List.drop_succ_cons,Yt,Nat.one_mul,Nat.add_comm,<-wBg,<-f,List.drop_left]
   simp_all
theorem qP.taken:∀{xs:List α} {cs:List V} (n:Nat),qP e b h cs xs->qP e b h cs (xs.take n)
 |xs,cs,0,_=>by simp only[wB8];trivial
 |[],cs,n+1,_=>by simp_all
 |x::xs,cs,n+1,⟨w,r,a,c,d⟩=>⟨w,r,a,c,qP.taken n d⟩
theorem PY(z:Nat) (k:IntKind) (n:Nat):hbound z (some (.int k n))=some n:=by
 rfl
theorem G5(z:Nat):hbound z none=some z:=rfl
theorem ie.cut{xs:List α} {v:V} (hs:ie e b h xs v) {lo hi:Option V} {m n:Nat} (i:hbound 0 lo=some m) (j:hbound xs.length hi=some n) (k:m<=n) (a:n<=xs.length) :
  ∃d,jz e.sz v lo hi h=some d/\ie e b h ((xs.take n).drop m) d:=by
 rcases hs with⟨rfl,rfl⟩|⟨l,off,ty,live,ro,cs,rfl,o,p,r,s,f⟩
 ·simp at a;subst a;obtain rfl:m=0:=by omega
  refine⟨.ee,?_,.inl ⟨rfl,by simp⟩⟩
  simp_all[jz,fe,hbound]
 ·have q:=f.length;have g:m*e.sz<=n*e.sz:=wBr _ k;have c:n*e.sz<=xs.length*e.sz:=wBr _ a;rw[wB1]at q;refine⟨.slice l (off+m*e.sz) (n-m),?_,?_⟩
  ·grind[jz,kI,fe,nj,Xn,UW]
  ·have hlen:((xs.take n).drop m).length=n-m:=by rw[wB1,NM];omega
   refine .inr ⟨l,off+m*e.sz,ty,live,ro,cs,by rw[hlen],o,p,?_,by omega,?_⟩
   ·grind
   ·rw[<-wBg];exact(f.taken n).drop m (by simp_all)
end
section
variable{e sz a n:Nat}{h h':Hp}{cs:List V}{v:V}
theorem px{e sz k:Nat} {h:Hp} {cs:List V} {ro:Bool} (a:cs.length=(k+1)*sz):ml (h.new (.cells e sz true ro cs)) sz (.slice h.next 0 (k+1))=some (k+1,cs):=by
 unfold ml IS kI;have:sub cs 0 (Nat.mul (Nat.succ k) sz)=some cs:=by
  show sub cs 0 ((k+1)*sz)=some cs;rw[EI (by omega),wBS,wA1 (by omega)]
 grind[fh,fe,uk]
end
