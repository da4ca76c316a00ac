/- Parts. -/
import Derived.Test.YtloecllhljfidaaDoorM08
import Derived.KernelRfl
set_option maxHeartbeats 4000000
namespace Go.Proofs.YtloecllhljfidaaDoor.Hx
def _root_.Go.Code.l:Code->Code
 | .seq a _=>a
 | .cond _ a _=>a
 | .block _ c=>c
 | .loop c=>c
 |_=> .skip
def _root_.Go.Code.r:Code->Code
 | .seq _ b=>b
 | .cond _ _ b=>b
 |_=> .skip
def NK(fn:Func):Code:=match fn.body with
 |some c=>c
 |none=> .skip
noncomputable section
def eQ(a:V)(h:Hp):Option V:=yz a λl off=>ld1 h l off
def fM(n:Nat)(a:V)(h:Hp):Option V:=yz a λl off=>oB (ET h l off n) λcs=>some (.agg cs)
def fQ(k:Nat)(x:V):Option V:=yz x λl off=>some (.ptr l (Nat.add off k))
def hV(n:Nat) (x i:V):Option V:=asNat i λi=>match x with
 | .slice l off len=>bB (Nat.blt i len) (some (.ptr l (Nat.add off (Nat.mul i n))))
 |_=>none
def zdf(k:Nat) (x:V):Option V:=match x with
 | .agg cs=>xM cs k
 |_=>none
def nM(c a b:V):Option V:=match c with
 | .bool x=>Bool.rec (motive:=λ_=>Option V) (some b) (some a) x
 |_=>none
def gU(x:V):Option V:=match x with
 | .ptr l off=>some (.ptr l off)
 | .func f a c=>some (.func f a c)
 | .iface u v=>some (.iface u v)
 |_=>none
def K9(k:IntKind) (x:V):Option V:=match x with
 | .int _ n=>some (.int k (mb k n))
 |_=>none
def fJ(z:List V)(a:List (Nat×Nat))(ps:List (Nat×V)):Option V:=oB (AP (λi=>a[i]?) z ps) λcs=>some (.agg cs)
def BS(i:Nat) (x:V):Option V:=match x with
 | .tuple vs=>xM vs i
 |_=>none
def zcy(x:V):Option V:=match x with
 | .str s=>some (.int .i64 (.ofNat s.length))
 |_=>none
def fD(x:V):Option V:=match x with
 | .slice _ _ n=>some (.int .i64 (.ofNat n))
 | .ee=>some (.int .i64 (.ofNat 0))
 |_=>none
def I4(a:Nat) (d:Option (List Field)) (z:V) (ok:Bool) (m k:V) (h:Hp):Option V:=bB (Gy d k) (match m with
 | .ku=>some (found z ok none)
 | .map l=>xH h l λb _=>oB (po a d k b 0) λr=>some (found z ok r)
 |_=>none)
def jd(a size len:Nat) (z:V) (ps:List (Nat×V)):Option (O×(Nat->V)):=oB (AP (λi=>some (Nat.mul i size,size)) (zS len z.cells) ps) λcs=>bB (fZ cs) (some (.cells a size true false cs,λl=> .slice l 0 len))
def gh(n:Nat)(a v:V)(h:Hp):Option R:=yz a λl off=>bB (Nat.beq v.cells.length n) (oB (CK h l off v.cells) λh=>some (.val .undef h))
end
noncomputable section
def fc(x:Option R)(K:V->Hp->Prop):Prop:=oP (oB x valOf) λy=>K y.1 y.2
def gN(C:fm)(x:Option R)(h:Hp)(K:V->Hp->Prop):Prop:=oP (oB x FY) λy=>cP C y.1 y.2 h K
def dcP(C:fm)(f:Nat)(l:List V)(h:Hp)(K:V->Hp->Prop):Prop:=oP (some (f,l)) λy=>cP C y.1 y.2 h K
def gX(x:Option (O×(Nat->V)))(h:Hp)(K:V->Hp->Prop):Prop:=oP x λr=>K (r.2 h.next) (h.new r.1)
def wP(x:Option (O×(Nat->V)))(h:Hp)(K:O->V->Hp->Prop):Prop:=oP x λr=>K r.1 (r.2 h.next) (h.new r.1)
def ghP(b:Bool)(h:Hp)(x:Option (V×Hp))(K:V->Hp->Prop):Prop:=oP (gH b h x) λy=>K y.1 y.2
def gT(b:Bool)(p:Prop):Prop:=Bool.rec (motive:=λ_=>Prop) True p b
def gq(w:Bool) (x:V):Option Bool:=match x with
 | .bool b=>some (Bool.rec (motive:=λ_=>Bool) (!w) w b)
 | .tuple []=>some false
 |_=>none
end
theorem VH(f:Nat->V) (d:Nat) (v:V):gw f d v d=v:=by
 simp_all[gw,Yd]
theorem Zs(f:Nat->V) {d i:Nat} (v:V) (h:i≠d):gw f d v i=f i:=by
 unfold gw;cases hb:Nat.beq i d <;> simp_all
@[simp] theorem fy {α β:Type} (a:α) (k:α->Option β):oB (some a) k=k a:=rfl
@[simp] theorem zb5 {α β:Type} (k:α->Option β):oB (none:Option α) k=none:=rfl
@[simp] theorem nB {β:Type} (k:Option β):bB true k=k:=rfl
@[simp] theorem zbB {β:Type} (k:Option β):bB false k=none:=rfl
theorem yN{β:Type}{c:Bool}(k:Option β)(h:c=true):bB c k=k:=by simp_all
@[simp] theorem vJ {β:Type} (l o:Nat) (k:Nat->Nat->Option β):yz (.ptr l o) k=k l o:=rfl
@[simp] theorem Z6 {β:Type} (kd:IntKind) (n:Nat) (k:Nat->Option β):asNat (.int kd (.ofNat n)) k=k n:=rfl
@[simp] theorem zaD {β:Type} (kd:IntKind) (n:Nat) (k:Nat->Option β):asNat (.int kd (n:Int)) k=k n:=rfl
@[simp] theorem zby {β:Type} (kd:IntKind) (n:Nat) (k:Nat->Option β):asNat (.int kd (OfNat.ofNat n:Int)) k=k n:=rfl
@[simp] theorem zbw {β:Type} (kd:IntKind) (k:Nat->Option β):asNat (.int kd 0) k=k 0:=rfl
@[simp] theorem zbC {β:Type} (kd:IntKind) (k:Nat->Option β):asNat (.int kd 1) k=k 1:=rfl
@[simp] theorem fR (k l o:Nat):fQ k (.ptr l o)=some (.ptr l (o+k)):=rfl
@[simp] theorem fI (l o:Nat):gU (.ptr l o)=some (.ptr l o):=rfl
@[simp] theorem zbG (f:Nat) (a c:List V):gU (.func f a c)=some (.func f a c):=rfl
@[simp] theorem zaR (l o n:Nat):fD (.slice l o n)=some (.int .i64 n):=rfl
@[simp] theorem zcK:fD .ee=some (.int .i64 0):=rfl
@[simp] theorem zbz (s:List UInt8):zcy (.str s)=some (.int .i64 s.length):=rfl
@[simp] theorem pI (x:Bool) (a b:V):nM (.bool x) a b=some (if x=true then a else b):=by cases x <;> rfl
@[simp] theorem yg (k k':IntKind) (n:Int):K9 k (.int k' n)=some (.int k (mb k n)):=rfl
@[simp] theorem A9 (i:Nat) (vs:List V):BS i (.tuple vs)=xM vs i:=rfl
@[simp] theorem zce (k:Nat) (cs:List V):zdf k (.agg cs)=xM cs k:=rfl
@[simp] theorem fF (o:O) (f:Nat->V) (h:Hp) (K:V->Hp->Prop):gX (some (o,f)) h K=K (f h.next) (h.new o):=rfl
@[simp] theorem gZ (o:O) (f:Nat->V) (h:Hp) (K:O->V->Hp->Prop):wP (some (o,f)) h K=K o (f h.next) (h.new o):=rfl
@[simp] theorem ei (v:V) (h:Hp) (K:V->Hp->Prop):fc (some (.val v h)) K=K v h:=rfl
@[simp] theorem vO (C:fm) (f:Nat) (l:List V) (h:Hp) (K:V->Hp->Prop):gN C (some (.call f l)) h K=cP C f l h K:=rfl
@[simp] theorem zdj (C:fm) (f:Nat) (l:List V) (h:Hp) (K:V->Hp->Prop):dcP C f l h K=cP C f l h K:=rfl
@[simp] theorem rL (f:Nat) (a c l:List V):fO (.func f a c) l=some (.call f (a++(l++c))):=rfl
@[simp] theorem zcv (w b:Bool):gq w (.bool b)=some (b == w):=by cases w <;> cases b <;> rfl
@[simp] theorem zcR (x:Option V):gV true x=x:=rfl
@[simp] theorem zcs (x:Option V):gV false x=some .undef:=rfl
@[simp] theorem zcS (x:Option (Nat×List V)):gC true x=oB x λy=>some (some y):=rfl
@[simp] theorem zb9 (x:Option (Nat×List V)):gC false x=some none:=rfl
@[simp] theorem zcQ (p:Prop):gT true p=p:=rfl
@[simp] theorem zbX (p:Prop):gT false p=True:=rfl
@[simp] theorem zbQ (C:fm) (y:Nat×List V) (h:Hp) (K:V->Hp->Prop):vD C (some y) h K=cP C y.1 y.2 h K:=rfl
@[simp] theorem zbR (C:fm) (h:Hp) (K:V->Hp->Prop):vD C none h K=K .undef h:=rfl
theorem vN(n l o len i:Nat) (kd:IntKind) (h:i<len):hV n (.slice l o len) (.int kd i)=some (.ptr l (o+i*n)):=by
 show bB (Nat.blt i len) _=_
 grind[yN,O6]
theorem OT{l o e sz:Nat} {ro:Bool} {cs:List V} {h:Hp} (a:h.get l=some (.cells e sz true ro cs)):eQ (.ptr l o) h=xM cs o:=by
 simp_all[eQ,ld1,kQ,vJ,fy,nB]
theorem yL{n l o e sz:Nat} {ro:Bool} {cs:List V} {h:Hp} (a:h.get l=some (.cells e sz true ro cs)):fM n (.ptr l o) h=oB (sub cs o n) λcs=>some (.agg cs):=by
 simp_all[fM,ET,kQ,vJ,fy,nB]
@[simp] theorem zb4 (v:V) (l:List V):xM (v::l) 0=some v:=rfl
@[simp] theorem zcO (v:V) (l:List V) (n:Nat):xM (v::l) (n+1)=xM l n:=rfl
theorem Of(l:List V)(n:Nat):xM l n=l[n]?:=by grind[xM,List.head?_drop]
@[simp] theorem zaV (l:List V):takeN 0 l=some []:=by rfl
@[simp] theorem zaw (n:Nat) (v:V) (l:List V):takeN (n+1) (v::l)=oB (takeN n l) λr=>some (v::r):=rfl
theorem PL:∀(n:Nat) (l:List V),n<=l.length->takeN n l=some (l.take n)
 |0,l,_=>by rfl
 |n+1,[],h=>by simp_all
 |n+1,v::l,h=>by simp only[takeN,PL n l (by simp_all),fy,List.take_succ_cons]
theorem DZ{l:List V} {o n:Nat} (h:o+n<=l.length):sub l o n=some ((l.drop o).take n):=by
 grind[sub,PL]
@[simp] theorem iy {α:Type} (a:α) (k:α->Prop):oP (some a) k=k a:=rfl
@[simp] theorem Kj (x:Bool) (a b:Prop):bP (.bool x) a b=if x=true then a else b:=ll x a b
@[simp] theorem zbH (v:V) (h:Hp):valOf (.val v h)=some (v,h):=rfl
@[simp] theorem Z4 (f:Nat) (l:List V):FY (.call f l)=some (f,l):=rfl
section
variable{C:fm}{n:Nat}{Q:X->gg->Hp->Prop}{ρ:gg}{h:Hp}
theorem Wp.of{c:Code}{P:Prop}(e:uK C n c Q ρ h=P)(a:P):Wp C n c Q ρ h:=Wp.code c (e.mpr a)
theorem Mc{α:Type}{a:α}{k:α->Prop}(h:k a):oP (some a) k:=h
theorem oM{α:Type} {x:Option α} {k k':α->Prop} (h:oP x k) (f:∀a,x=some a->k a->k' a):oP x k':=by
 grind[kG,ed]
theorem bM{v:V} {a b a' b':Prop} (h:bP v a b) (f:a->a') (g:b->b'):bP v a' b':=by
 unfold bP at h⊢;split at h
 ·rename_i x;cases x <;> grind
 omega
theorem dcM{f:Nat} {l:List V} {k k':V->Hp->Prop} (h':cP C f l h k) (F:∀v h',k v h'->k' v h'):dcP C f l h k':=by
 show cP C f l h k';exact h'.mono F
theorem cgM{x:Option (Nat×List V)} {k k':V->Hp->Prop} (h':vD C x h k) (F:∀v h',k v h'->k' v h'):vD C x h k':=by
 cases x with
 |none=>simp_all
 |some y=>exact cP.mono h' F
theorem alM{x:Option (O×(Nat->V))} {k k':V->Hp->Prop} (h':gX x h k) (F:∀v h',k v h'->k' v h'):gX x h k':=
 oM h' (by simp_all)
theorem zc8{x:Option R} {k k':V->Hp->Prop} (h':fc x k) (F:∀v h',k v h'->k' v h'):fc x k':=
 oM h' (by simp_all)
end
theorem anM{a b c:Prop}(h:c/\a)(f:a->b):c/\b:=by simp_all
@[simp] theorem O.lC (e sz:Nat) (a r:Bool) (cs:List V):O.beq (.cells e sz a r cs) (.cells e sz a r cs)=true:=by
 simp[O.beq,V.yf]
@[simp] theorem O.O3 (c:Nat):O.beq (.map [] c) (.map [] c)=true:=by simp[O.beq]
def uP(c:V) (X:Option V):Option V:=match c with
 | .bool true=>some (.bool true)
 | .bool false=>X
 |_=>none
def mn(c:V) (X:Option V):Option V:=match c with
 | .bool false=>some (.bool false)
 | .bool true=>X
 |_=>none
@[simp] theorem zb8 (X:Option V):uP (.bool true) X=some (.bool true):=rfl
@[simp] theorem qd (X:Option V):uP (.bool false) X=X:=rfl
@[simp] theorem Eo (X:Option V):mn (.bool true) X=X:=rfl
@[simp] theorem za1 (X:Option V):mn (.bool false) X=some (.bool false):=rfl
@[simp] theorem pD (c d:Bool):uP (.bool c) (some (.bool d))=some (.bool (c ||d)):=by cases c <;> rfl
@[simp] theorem jD (c d:Bool):mn (.bool c) (some (.bool d))=some (.bool (c&&d)):=by cases c <;> rfl
theorem Ys{c d:Bool} {X:Option V} (h:c=true->X=some (.bool d)):mn (.bool c) X=some (.bool (c&&d)):=by
 cases c <;> simp_all
theorem thn{A B:Prop}(a:A)(f:A->B):B:=f a
section
variable{c c' Xc:V}{X X':Option V}{K:V->Prop}{f:V->Option V}{w b0:Bool}
theorem Tg(H:oP (uP c X) K):oP (gq false c) λb=>oP (gV b X) λv=>oP (nM c (.bool true) v) K:=by
 unfold uP at H;split at H
 ·exact H
 ·exact H
 ·exact H.elim
theorem PC(H:oP (mn c X) K):oP (gq true c) λb=>oP (gV b X) λv=>oP (nM c v (.bool false)) K:=by
 unfold mn at H;split at H
 ·exact H
 ·exact H
 ·exact H.elim
theorem sG1{R:Bool->V->Prop} (H:oP (gq w c) λb=>oP (gV b (oB X f)) K) (F:∀b,gq w c=some b->∀v,gV b X=some v->(oP (gq w c) λb=>oP (gV b (f v)) K)->R b v):oP (gq w c) λb=>oP (gV b X) λv=>R b v:=by
 obtain⟨b,a,d⟩:=kG.1 H;refine ed a ?_
 cases b with
 | true=>
   grind[kG,fj,oB,ed,gV]
 |false=>simp_all
theorem wu{b:Bool} {v:V} (E:gV b X=some v):gT b (X=some v):=by
 cases b <;> simp_all
end
structure lO (S:Nat->Prop) (h h':Hp):Prop where
 next:h.next<=h'.next
 fe:∀l,l<h.next->¬S l->h'.get l=h.get l
abbrev E7(h h':Hp):Prop:=lO (λ_=>False) h h'
theorem lO.refl(S:Nat->Prop)(h:Hp):lO S h h:=⟨jb _,by simp_all⟩
theorem lO.trans'{S S':Nat->Prop} {h h' c:Hp} (a:lO S h h') (b:lO S' h' c) (hs:∀l,l<h.next->S' l->S l):lO S h c:=
 ⟨BX a.next b.next,λl d e=>by rw[b.fe l (BF d a.next) (by grind),a.fe l d e]⟩
theorem lO.trans{S:Nat->Prop}{h h' c:Hp}(a:lO S h h')(b:lO S h' c):lO S h c:=a.trans' b (by simp_all)
theorem lO.Xm{S S':Nat->Prop} {h h':Hp} (a:lO S h h') (hs:∀l,l<h.next->S l->S' l):lO S' h h':=
 ⟨a.next,λl b c=>a.fe l b (by grind)⟩
theorem lO.new{S:Nat->Prop} (h:Hp) (o:O):lO S h (h.new o):=
 ⟨Qd _,λl a _=>by rw[tz,if_neg (by omega)]⟩
theorem lO.put{S:Nat->Prop} {h:Hp} {l:Nat} (o:O) (hs:S l) (a:l<h.next):lO S h (h.put l o):=
 ⟨jb _,λm _ b=>by rw[oY _ _ a,if_neg (by grind)]⟩
theorem fi(h:Hp)(o:O):(h.new o).get h.next=some o:=by rw[tz,if_pos rfl]
theorem fh{h:Hp}(o:O){l:Nat}(a:l<h.next):(h.new o).get l=h.get l:=by rw[tz,if_neg (by omega)]
theorem fP{h:Hp}{l:Nat}(o:O)(a:l<h.next):(h.put l o).get l=some o:=by rw[oY _ _ a,if_pos rfl]
theorem gf{h:Hp}{l m:Nat}(o:O)(a:l<h.next)(b:l≠m):(h.put l o).get m=h.get m:=by simp_all[oY,if_neg]
@[simp] theorem zcG (h:Hp) (o:O):(h.new o).next=h.next+1:=rfl
@[simp] theorem zcl (h:Hp) (l:Nat) (o:O):(h.put l o).next=h.next:=rfl
structure o0 (α:Type) where
 sz:Nat
 rel:(Nat->Prop)->Hp->α->List V->Prop
 len:∀{b h x cs},rel b h x cs->cs.length=sz
 one:∀{b h x cs},rel b h x cs->fZ cs=true
 fe:∀{b h h' x cs},(∀l,b l->h'.get l=h.get l)->rel b h x cs->rel b h' x cs
 mono:∀{b b' h x cs},(∀l,b l->b' l)->rel b h x cs->rel b' h x cs
def lo(b:Nat):Nat->Prop:=λl=>l<b
theorem Oa{b b':Nat}(h:b<=b'):∀l,lo b l->lo b' l:=λ_ a=>BF a h
theorem oE:∀(a b:List V),fZ (a++b)=(fZ a&&fZ b)
 |[],b=>by rfl
 | v::a,b=>by
   simp only[wBo,fZ,oE a b];cases v.one <;> simp
@[simp] theorem RS:fZ []=true:=rfl
@[simp] theorem eo (v:V) (l:List V):fZ (v::l)=(v.one&&fZ l):=by
 simp only[fZ];cases v.one <;> rfl
def Fx:IntKind->Int->Prop
 | .i8,n=>-128<=n/\n<=127
 | .i16,n=>-32768<=n/\n<=32767
 | .i32,n=>-2147483648<=n/\n<=2147483647
 | .i64,n=>-9223372036854775808<=n/\n<=9223372036854775807
 | .u8,n=>0<=n/\n<=255
 | .u16,n=>0<=n/\n<=65535
 | .u32,n=>0<=n/\n<=4294967295
 | .u64,n=>0<=n/\n<=18446744073709551615
def eI(k:IntKind):o0 Int where
 sz:=1
 rel _ _ n cs:=cs=[.int k n]/\Fx k n
 len h:=by simp_all
 one h:=by rw[h.1];rfl
 fe _ h:=h
 mono _ h:=h
def eB:o0 Bool where
 sz:=1
 rel _ _ n cs:=cs=[.bool n]
 len h:=by simp_all
 one h:=by subst h;rfl
 fe _ h:=h
 mono _ h:=h
def eS:o0 (List UInt8) where
 sz:=1
 rel _ _ n cs:=cs=[.str n]
 len h:=by simp_all
 one h:=by subst h;rfl
 fe _ h:=h
 mono _ h:=h
def eP{α β:Type} (e:o0 α) (f:o0 β):o0 (α×β) where
 sz:=e.sz+f.sz
 rel b h x cs:=∃p q,cs=p++q/\e.rel b h x.1 p/\f.rel b h x.2 q
 len:=λ⟨_,_,h,a,c⟩=>by subst h;simp[e.len a,f.len c]
 one:=λ⟨_,_,h,a,c⟩=>by subst h;simp[oE,e.one a,f.one c]
 fe:=λhk ⟨p,q,h,a,c⟩=>⟨p,q,h,e.fe hk a,f.fe hk c⟩
 mono:=λhb ⟨p,q,h,a,c⟩=>⟨p,q,h,e.mono hb a,f.mono hb c⟩
def eM{α β:Type} (g:β->α) (e:o0 α):o0 β where
 sz:=e.sz
 rel b h x cs:=e.rel b h (g x) cs
 len h:=e.len h
 one h:=e.one h
 fe hk h:=e.fe hk h
 mono hb h:=e.mono hb h
def pd{α:Type} (e:o0 α) (b:Nat->Prop) (h:Hp):List V->List α->Prop
 |_,[]=>True
 |cs,x::xs=>∃w r,cs=w++r/\e.rel b h x w/\pd e b h r xs
section
variable{α:Type}{e:o0 α}{b:Nat->Prop}{h h':Hp}
theorem pd.fe(hk:∀l,b l->h'.get l=h.get l):∀{xs:List α} {cs:List V},pd e b h cs xs->pd e b h' cs xs
 |[],_,_=>trivial
 |_::_,_,⟨w,r,a,c,d⟩=>⟨w,r,a,e.fe hk c,pd.fe hk d⟩
theorem pd.mono{b':Nat->Prop} (hb:∀l,b l->b' l):∀{xs:List α} {cs:List V},pd e b h cs xs->pd e b' h cs xs
 |[],_,_=>trivial
 |_::_,_,⟨w,r,a,c,d⟩=>⟨w,r,a,e.mono hb c,pd.mono hb d⟩
theorem pd.length:∀{xs:List α} {cs:List V},pd e b h cs xs->xs.length*e.sz<=cs.length
 |[],_,_=>by simp
 | _::xs,_,⟨w,r,a,c,d⟩=>by
   have:=pd.length d;have f:=e.len c;subst a;simp only[KC,Pb,VQ,Nat.one_mul];omega
theorem pd.get:∀{xs:List α} {cs:List V},pd e b h cs xs->∀{i:Nat} {x:α},xs[i]? =some x->∃w,(cs.drop (i*e.sz)).take e.sz=w/\i*e.sz+e.sz<=cs.length/\e.rel b h x w
 |[],_,_,i,x,hx=>by simp_all
 | y ::xs,_,⟨w,r,a,c,d⟩,i,x,hx=>by
   have f:=e.len c;subst a
   cases i with
   | zero=>
     simp_all
   | succ i=>
     obtain⟨w',g,k,j⟩:=pd.get d (i:=i) (x:=x) (by simp_all);refine⟨w',?_,?_,j⟩
     ·rw[<-g,VQ,Nat.one_mul,Nat.add_comm,<-f,<-wBv];simp
     grind
theorem pd.append{ys:List α}:∀{xs:List α} {cs ds:List V},pd e b h cs xs->cs.length=xs.length*e.sz->pd e b h ds ys->pd e b h (cs++ds) (xs++ys)
 | [],cs,ds,_,hl,a=>by
   simp_all
 | x::xs,_,ds,⟨w,r,c,a,d⟩,hl,f=>by
   subst c;have g:=e.len a;refine⟨w,r++ds,by simp,a,pd.append d ?_ f⟩
   grind
theorem pd.take:∀{xs:List α} {cs:List V},pd e b h cs xs->pd e b h (cs.take (xs.length*e.sz)) xs
 |[],_,_=>trivial
 | _::xs,_,⟨w,r,c,a,d⟩=>by
   have f:=e.len a;subst c;refine⟨w,r.take (xs.length*e.sz),?_,a,pd.take d⟩
   simp_all[List.take_append,wBA,Pb,VQ,Nat.one_mul]
theorem pd.more{ds:List V}:∀{xs:List α} {cs:List V},pd e b h cs xs->pd e b h (cs++ds) xs
 |[],_,_=>trivial
 |_::_,_,⟨w,r,a,c,d⟩=>⟨w,r++ds,by rw[a,Mb],c,pd.more d⟩
theorem pd.set:∀{xs:List α} {cs:List V},pd e b h cs xs->∀{i:Nat} {y:α} {w:List V},i<xs.length->e.rel b h y w->pd e b h (cs.take (i*e.sz)++w++cs.drop (i*e.sz+e.sz)) (xs.set i y)
 |[],_,_,i,y,w,hi,_=>by simp_all
 | x ::xs,_,⟨u,r,d,a,c⟩,i,y,w,hi,hw=>by
   have f:=e.len a;have g:=e.len hw;subst d
   cases i with
   | zero=>
     refine⟨w,r,?_,hw,c⟩
     simp_all
   | succ i=>
     refine⟨u,_,?_,a,pd.set c (i:=i) (y:=y) (w:=w) (by simpa using hi) hw⟩;have j:(i+1)*e.sz=u.length+i*e.sz:=by rw[VQ,Nat.one_mul,f];omega
     have k:(i+1)*e.sz+e.sz=u.length+(i*e.sz+e.sz):=by omega
     rw[k,j,List.take_length_add_append,<-wBv,List.drop_left]
     simp_all
end
def iG{α:Type} (e:o0 α) (b:Nat->Prop) (h:Hp) (xs:List α) (v:V):Prop:=(v = .ee/\xs=[])\/∃l off ty live ro cs,v = .slice l off xs.length/\b l/\h.get l=some (.cells ty e.sz live ro cs)/\(xs=[]\/live=true)/\off<=cs.length/\pd e b h (cs.drop off) xs
section
variable{α:Type}{e:o0 α}{b:Nat->Prop}{h h':Hp}{xs:List α}{v:V}
theorem iG.fe(hk:∀l,b l->h'.get l=h.get l) (hs:iG e b h xs v):iG e b h' xs v:=by
 rcases hs with hs|⟨l,off,ty,live,ro,cs,a,c,i,d,f,g⟩
 ·exact .inl hs
 ·exact .inr ⟨l,off,ty,live,ro,cs,a,c,by simp_all,d,f,g.fe hk⟩
theorem iG.mono{b':Nat->Prop} (hb:∀l,b l->b' l) (hs:iG e b h xs v):iG e b' h xs v:=by
 rcases hs with hs|⟨l,off,ty,live,ro,cs,a,c,d,f,g,i⟩
 ·exact .inl hs
 ·exact .inr ⟨l,off,ty,live,ro,cs,a,hb l c,d,f,g,i.mono hb⟩
theorem iG.one(hs:iG e b h xs v):v.one=true:=by
 rcases hs with⟨rfl,_⟩|⟨l,off,ty,live,ro,cs,rfl,_⟩ <;> rfl
end
def eL{α:Type} (e:o0 α):o0 (List α) where
 sz:=1
 rel b h xs cs:=∃v,cs=[v]/\iG e b h xs v
 len:=by simp_all
 one:=λ⟨_,h,hs⟩=>by subst h;simp[hs.one]
 fe:=λhk ⟨v,h,hs⟩=>⟨v,h,hs.fe hk⟩
 mono:=λhb ⟨v,h,hs⟩=>⟨v,h,hs.mono hb⟩
section
variable{α:Type}{e:o0 α}{b:Nat->Prop}{h h':Hp}{xs:List α}{v:V}
theorem iG.len(hs:iG e b h xs v):fD v=some (.int .i64 xs.length):=by
 rcases hs with⟨rfl,rfl⟩|⟨l,off,ty,live,ro,cs,rfl,_⟩ <;> rfl
theorem iG.nil:iG e b h [] .ee:= .inl ⟨rfl,rfl⟩
theorem iG.ix(hs:iG e b h xs v) {i:Nat} (hi:i<xs.length) (kd:IntKind) :
  ∃l o w,b l/\hV e.sz v (.int kd i)=some (.ptr l o)/\fM e.sz (.ptr l o) h=some (.agg w)/\e.rel b h xs[i] w/\∀k u,w[k]? =some u->eQ (.ptr l (o+k)) h=some u:=by
 rcases hs with⟨_,rfl⟩|⟨l,off,ty,live,ro,cs,rfl,c,a,n,p,d⟩
 ·grind
 ·obtain rfl:live=true:=by grind
  obtain⟨w,f,g,j⟩:=d.get (i:=i) (x:=xs[i]) (by simp_all);rw[wB3]at g;have m:(cs.drop (off+i*e.sz)).take e.sz=w:=by rw[<-f,wBv]
  refine⟨l,off+i*e.sz,w,c,by grind[vN],?_,j,λk u q=>?_⟩
  ·rw[yL a,DZ (by omega),m];rfl
  ·rw[OT a,Of]
   grind
theorem iG.Wj(hs:iG e b h xs v) {i:Nat} (hi:i<xs.length) (kd:IntKind) (a:e.sz=1) :
  ∃l o u,b l/\hV 1 v (.int kd i)=some (.ptr l o)/\eQ (.ptr l o) h=some u/\e.rel b h xs[i] [u]:=by
 obtain ⟨l,o,w,h0,c,_,d,g⟩:=hs.ix hi kd;rw[a]at c;have f:=e.len d;rw[a]at f;obtain⟨u,rfl⟩:∃u,w=[u]:=by
  match w,f with
  |[u],_=>simp_all
 exact⟨l,o,u,h0,c,g 0 u rfl,d⟩
theorem iG.Ry{b':Nat->Prop} {ty:Nat} {ro:Bool} {cs:List V} (c:pd e b h cs xs) (hb:∀l,b l->l<h.next) (a:∀l,b l->b' l) (d:b' h.next):iG e b' (h.new (.cells ty e.sz true ro cs)) xs (.slice h.next 0 xs.length):=
 .inr ⟨h.next,0,ty,true,ro,cs,rfl,d,fi _ _,.inr rfl,Jw _,(c.fe (by grind[fh])).mono a⟩
theorem iG.new{ty:Nat} {ro:Bool} {cs:List V} {n:Nat} (b:pd e (lo n) h cs xs) (hb:n<=h.next):iG e (lo (h.next+1)) (h.new (.cells ty e.sz true ro cs)) xs (.slice h.next 0 xs.length):=
 .Ry b (λ_ a=>BF a hb) (λ_ a=>wBi (BF a hb)) (Pd _)
end
section
variable (t:Nat)(k:IntKind)(a b:Int)
@[simp] theorem CQ:eJ .add t (.int k a) (.int k b)=some (.int k (mb k (a+b))):=by cases k <;> rfl
@[simp] theorem qZ:eJ .sub t (.int k a) (.int k b)=some (.int k (mb k (a-b))):=by cases k <;> rfl
@[simp] theorem Wk:eJ .mul t (.int k a) (.int k b)=some (.int k (mb k (a*b))):=by cases k <;> rfl
@[simp] theorem qO:eJ .lss t (.int k a) (.int k b)=some (.bool (decide (a<b))):=by cases k <;> rfl
@[simp] theorem Li:eJ .leq t (.int k a) (.int k b)=some (.bool (decide (a<=b))):=by cases k <;> rfl
@[simp] theorem pS:eJ .gtr t (.int k a) (.int k b)=some (.bool (decide (b<a))):=by cases k <;> rfl
@[simp] theorem pq:eJ .geq t (.int k a) (.int k b)=some (.bool (decide (b<=a))):=by cases k <;> rfl
@[simp] theorem ie:eJ .eql t (.int k a) (.int k b)=some (.bool (a == b)):=by cases k <;> rfl
@[simp] theorem uD:eJ .neq t (.int k a) (.int k b)=some (.bool (a != b)):=by cases k <;> rfl
@[simp] theorem zbA (x y:List UInt8):eJ .eql t (.str x) (.str y)=some (.bool (x == y)):=rfl
@[simp] theorem zbF (x y:List UInt8):eJ .neq t (.str x) (.str y)=some (.bool (!(x == y))):=rfl
@[simp] theorem TK (x:Bool):vC .not (.bool x)=some (.bool !x):=rfl
@[simp] theorem T6:vC .neg (.int k a)=some (.int k (mb k (0-a))):=rfl
theorem tP{k:IntKind} {n:Int} (h:Fx k n):mb k n=n:=by
 rw[ri];cases k <;> simp only[Fx]at h <;> simp only[IntKind.wrap,IntKind.signed,IntKind.bits,Yl,Bool.false_and,D1,O8,if_false,Nat.reduceSub,Int.reducePow,ge_iff_le] <;> (try split) <;> omega
@[simp] theorem zbD {n:Nat} (h:n<9223372036854775808):mb .i64 (n:Int)=n:=tP (by simp only[Fx];omega)
@[simp] theorem PK (g:Bool):Oy g (.int k a) [.int k b]=some (.int k (if g then max a b else min a b)):=by
 cases g
 ·show some (V.int k (if b<a then b else a))=_;simp only[O8,if_false];congr 2;omega
 ·show some (V.int k (if b>a then b else a))=_;simp only[if_true];congr 2;omega
end
theorem W5(n:Nat) (z:V):zS n [z]=List.replicate n z:=by
 induction n <;> grind[zS]
theorem MD{e sz kj n:Nat} {z:V} (a:n*kj<=281474976710656) (b:n<=1099511627776) :
  jm e sz kj z (.int .i64 (n:Int)) (.int .i64 (n:Int))=some (O.cells e sz true false (zS n z.cells),λl=>V.slice l 0 n):=by
 show bB (Nat.ble n n) (bB (Nat.ble (n*kj) 281474976710656) (bB (Nat.ble n 1099511627776) (some (O.cells e sz true false (zS n z.cells),λl=>V.slice l 0 n))))=_
 simp_all[yN,Xg,jb]
theorem Rz{cs:List V} {v:V}:∀{o:Nat},o<cs.length->pE o cs [v]=some (cs.set o v):=by
 induction cs with
 |nil=>simp_all
 | cons c cs a=>
   intro o h
   cases o with
   |zero=>rfl
   | succ o=>
     grind[pE,fy]
theorem TW:∀{ws cs:List V},ws.length<=cs.length->over ws cs=some (ws++cs.drop ws.length)
 |[],_,_=>rfl
 |w::ws,[],h=>by simp_all
 | w::ws,c::cs,h=>by
   have:=TW (ws:=ws) (cs:=cs) (by simp_all)
   grind[over,fy,Pb]
theorem AS:∀{o:Nat} {cs ws:List V},o+ws.length<=cs.length->pE o cs ws=some (cs.take o++ws++cs.drop (o+ws.length))
 |0,cs,ws,h=>by simp_all[pE,TW,wB4,MR,wO]
 |o+1,[],ws,h=>by simp_all
 | o+1,c::cs,ws,h=>by
   have:=AS (o:=o) (cs:=cs) (ws:=ws) (by grind)
   grind[pE,fy]
theorem MK{v:V} (h:v.one=true):v.cells=[v]:=by
 cases v <;> first|rfl|cases h
section
variable{l o e sz:Nat}{cs:List V}{h:Hp}{v:V}
theorem LJ(a:h.get l=some (.cells e sz true false cs)) (b:o<cs.length) (hv:v.one=true):gh 1 (.ptr l o) v h=some (.val .undef (h.put l (.cells e sz true false (cs.set o v)))):=by
 unfold gh CK kQ;simp only[vJ,MK hv,Pb,wBk,a,fy,nB,wBg,eo,hv,RS,Bool.and_self,Rz b];rfl
theorem Eh{ws:List V} {n:Nat} (a:h.get l=some (.cells e sz true false cs)) (b:ws.length=n) (hc:cs.length=n) (hv:fZ ws=true):gh n (.ptr l 0) (.agg ws) h=some (.val .undef (h.put l (.cells e sz true false ws))):=by
 unfold gh CK kQ;have hs:pE 0 cs ws=some ws:=by
  rw[AS (by omega),wB4,MR,wO,List.drop_of_length_le (by omega),HU]
 grind[vJ,V.cells,fy,nB,wBg,yN,Yd]
theorem Wc{ws:List V} {n:Nat} (a:h.get l=some (.cells e sz true false cs)) (b:ws.length=n) (hc:o+n<=cs.length) (hv:fZ ws=true) :
  gh n (.ptr l o) (.agg ws) h=some (.val .undef (h.put l (.cells e sz true false (cs.take o++ws++cs.drop (o+n))))):=by
 unfold gh CK kQ;simp only[vJ,V.cells,a,fy,nB,wBg,hv,AS (show o+ws.length<=cs.length by omega)]
 simp_all
theorem kK{u:V}{ro:Bool}(a:h.get l=some (.cells e sz true ro cs))(b:cs[o]? =some u):eQ (.ptr l o) h=some u:=by rw[OT a,Of,b]
theorem Ar{n:Nat} {ro:Bool} (a:h.get l=some (.cells e sz true ro cs)) (b:cs.length=n):fM n (.ptr l 0) h=some (.agg cs):=by
 rw[yL a,DZ (by omega),X9,wBA (by omega)];rfl
end
section
variable{α:Type}{e:o0 α}{b:Nat->Prop}{h:Hp}
theorem pd.drop:∀{xs:List α} {cs:List V} (n:Nat),pd e b h cs xs->n<=xs.length->pd e b h (cs.drop (n*e.sz)) (xs.drop n)
 |xs,cs,0,hw,_=>by simp_all
 |[],cs,n+1,_,hn=>by simp_all
 | x::xs,cs,n+1,⟨w,r,a,c,d⟩,hn=>by
   have:=pd.drop n d (by simpa using hn);have f:=e.len c;subst a;rw[List.drop_succ_cons,VQ,Nat.one_mul,Nat.add_comm,<-wBv,<-f,List.drop_left]
   simp_all
theorem pd.taken:∀{xs:List α} {cs:List V} (n:Nat),pd e b h cs xs->pd e b h cs (xs.take n)
 |xs,cs,0,_=>by simp only[wB4];trivial
 |[],cs,n+1,_=>by simp_all
 |x::xs,cs,n+1,⟨w,r,a,c,d⟩=>⟨w,r,a,c,pd.taken n d⟩
theorem ML(z:Nat) (k:IntKind) (n:Nat):hbound z (some (.int k n))=some n:=by
 rfl
theorem I6(z:Nat):hbound z none=some z:=rfl
theorem iG.cut{xs:List α} {v:V} (hs:iG e b h xs v) {lo hi:Option V} {m n:Nat} (i:hbound 0 lo=some m) (j:hbound xs.length hi=some n) (k:m<=n) (a:n<=xs.length) :
  ∃d,jc e.sz v lo hi h=some d/\iG e b h ((xs.take n).drop m) d:=by
 rcases hs with⟨rfl,rfl⟩|⟨l,off,ty,live,ro,cs,rfl,o,p,r,s,f⟩
 ·simp at a;subst a;obtain rfl:m=0:=by omega
  refine⟨.ee,?_,.inl ⟨rfl,by simp⟩⟩
  simp_all[jc,fy,hbound]
 ·have q:=f.length;have g:m*e.sz<=n*e.sz:=wBw _ k;have c:n*e.sz<=xs.length*e.sz:=wBw _ a;rw[wB3]at q;refine⟨.slice l (off+m*e.sz) (n-m),?_,?_⟩
  ·grind[jc,kQ,fy,yN,Yd,Xg]
  ·have hlen:((xs.take n).drop m).length=n-m:=by rw[wB3,JT];omega
   refine .inr ⟨l,off+m*e.sz,ty,live,ro,cs,by rw[hlen],o,p,?_,by omega,?_⟩
   ·grind
   ·rw[<-wBv];exact(f.taken n).drop m (by simp_all)
end
section
variable{e sz a n:Nat}{h h':Hp}{cs:List V}{v:V}
theorem mS{e sz k:Nat} {h:Hp} {cs:List V} {ro:Bool} (a:cs.length=(k+1)*sz):kW (h.new (.cells e sz true ro cs)) sz (.slice h.next 0 (k+1))=some (k+1,cs):=by
 unfold kW ET kQ;have:sub cs 0 (Nat.mul (Nat.succ k) sz)=some cs:=by
  show sub cs 0 ((k+1)*sz)=some cs;rw[DZ (by omega),X9,wBA (by omega)]
 grind[fi,fy,nB]
end
