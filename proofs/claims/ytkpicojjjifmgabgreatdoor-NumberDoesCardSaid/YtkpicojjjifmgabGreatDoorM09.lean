/- Parts. -/
import Derived.Test.YtkpicojjjifmgabGreatDoorM08
import Derived.KernelRfl
set_option maxHeartbeats 4000000
namespace Go.Proofs.YtkpicojjjifmgabGreatDoor.Hx
def _root_.Go.Code.l:Code->Code
 | .seq a _=>a
 | .cond _ a _=>a
 | .block _ c=>c
 | .loop c=>c
 |_=> .skip
def _root_.Go.Code.r:Code->Code
 | .seq _ b=>b
 | .cond _ _ b=>b
 |_=> .skip
def K4(fn:Func):Code:=match fn.body with
 |some c=>c
 |none=> .skip
noncomputable section
def fe(a:V)(h:Hp):Option V:=z6 a λl off=>ld1 h l off
def fW(n:Nat)(a:V)(h:Hp):Option V:=z6 a λl off=>oB (Ip h l off n) λcs=>some (.agg cs)
def fJ(k:Nat)(x:V):Option V:=z6 x λl off=>some (.ptr l (Nat.add off k))
def gB(n:Nat) (x i:V):Option V:=asNat i λi=>match x with
 | .slice l off len=>bB (Nat.blt i len) (some (.ptr l (Nat.add off (Nat.mul i n))))
 |_=>none
def zcW(len n:Nat)(x i:V):Option V:=asNat i λi=>z6 x λl off=>bB (Nat.blt i len) (some (.ptr l (Nat.add off (Nat.mul i n))))
def zfw(k:Nat) (x:V):Option V:=match x with
 | .agg cs=>Ef cs k
 |_=>none
def jB(c a b:V):Option V:=match c with
 | .bool x=>Bool.rec (motive:=λ_=>Option V) (some b) (some a) x
 |_=>none
def iL(x:V):Option V:=match x with
 | .ptr l off=>some (.ptr l off)
 | .func f a c=>some (.func f a c)
 | .iface u v=>some (.iface u v)
 |_=>none
def ur(k:IntKind) (x:V):Option V:=match x with
 | .int _ n=>some (.int k (mI k n))
 |_=>none
def fV(z:List V)(a:List (Nat×Nat))(ps:List (Nat×V)):Option V:=oB (DS (λi=>a[i]?) z ps) λcs=>some (.agg cs)
def CN(i:Nat) (x:V):Option V:=match x with
 | .tuple vs=>Ef vs i
 |_=>none
def zdW(x:V):Option V:=match x with
 | .str s=>some (.int .i64 (.ofNat s.length))
 |_=>none
def fI(x:V):Option V:=match x with
 | .slice _ _ n=>some (.int .i64 (.ofNat n))
 | .ei=>some (.int .i64 (.ofNat 0))
 |_=>none
def LU(a:Nat) (d:Option (List Field)) (z:V) (ok:Bool) (m k:V) (h:Hp):Option V:=bB (Jf d k) (match m with
 | .l0=>some (found z ok none)
 | .map l=>Ac h l λb _=>oB (rQ a d k b 0) λr=>some (found z ok r)
 |_=>none)
def jz(a size len:Nat) (z:V) (ps:List (Nat×V)):Option (O×(Nat->V)):=oB (DS (λi=>some (Nat.mul i size,size)) (CT len z.cells) ps) λcs=>bB (gw cs) (some (.cells a size true false cs,λl=> .slice l 0 len))
def gJ(n:Nat)(a v:V)(h:Hp):Option R:=z6 a λl off=>bB (Nat.beq v.cells.length n) (oB (FX h l off v.cells) λh=>some (.val .undef h))
end
noncomputable section
def fm(x:Option R)(K:V->Hp->Prop):Prop:=oP (oB x valOf) λy=>K y.1 y.2
def ij(C:fu)(x:Option R)(h:Hp)(K:V->Hp->Prop):Prop:=oP (oB x JC) λy=>cP C y.1 y.2 h K
def dcP(C:fu)(f:Nat)(l:List V)(h:Hp)(K:V->Hp->Prop):Prop:=oP (some (f,l)) λy=>cP C y.1 y.2 h K
def hV(x:Option (O×(Nat->V)))(h:Hp)(K:V->Hp->Prop):Prop:=oP x λr=>K (r.2 h.next) (h.new r.1)
def yp(x:Option (O×(Nat->V)))(h:Hp)(K:O->V->Hp->Prop):Prop:=oP x λr=>K r.1 (r.2 h.next) (h.new r.1)
def ghP(b:Bool)(h:Hp)(x:Option (V×Hp))(K:V->Hp->Prop):Prop:=oP (gH b h x) λy=>K y.1 y.2
def gT(b:Bool)(p:Prop):Prop:=Bool.rec (motive:=λ_=>Prop) True p b
def fF(w:Bool) (x:V):Option Bool:=match x with
 | .bool b=>some (Bool.rec (motive:=λ_=>Bool) (!w) w b)
 | .tuple []=>some false
 |_=>none
end
theorem Wu(f:Nat->V) (d:Nat) (v:V):fx f d v d=v:=by
 simp_all[fx,W8]
theorem zbg(f:Nat->V) {d i:Nat} (v:V) (h:i≠d):fx f d v i=f i:=by
 unfold fx;cases hb:Nat.beq i d <;> simp_all
@[simp] theorem fo {α β:Type} (a:α) (k:α->Option β):oB (some a) k=k a:=rfl
@[simp] theorem zeW {α β:Type} (k:α->Option β):oB (none:Option α) k=none:=rfl
@[simp] theorem oV {β:Type} (k:Option β):bB true k=k:=rfl
@[simp] theorem zdv {β:Type} (k:Option β):bB false k=none:=rfl
theorem nt{β:Type}{c:Bool}(k:Option β)(h:c=true):bB c k=k:=by simp_all
@[simp] theorem yY {β:Type} (l o:Nat) (k:Nat->Nat->Option β):z6 (.ptr l o) k=k l o:=rfl
@[simp] theorem zbG {β:Type} (kd:IntKind) (n:Nat) (k:Nat->Option β):asNat (.int kd (.ofNat n)) k=k n:=rfl
@[simp] theorem zcV {β:Type} (kd:IntKind) (n:Nat) (k:Nat->Option β):asNat (.int kd (n:Int)) k=k n:=rfl
@[simp] theorem zdt {β:Type} (kd:IntKind) (n:Nat) (k:Nat->Option β):asNat (.int kd (OfNat.ofNat n:Int)) k=k n:=rfl
@[simp] theorem zcR {β:Type} (kd:IntKind) (k:Nat->Option β):asNat (.int kd 0) k=k 0:=rfl
@[simp] theorem zdw {β:Type} (kd:IntKind) (k:Nat->Option β):asNat (.int kd 1) k=k 1:=rfl
@[simp] theorem fM (k l o:Nat):fJ k (.ptr l o)=some (.ptr l (o+k)):=rfl
@[simp] theorem fZ (l o:Nat):iL (.ptr l o)=some (.ptr l o):=rfl
@[simp] theorem zds (f:Nat) (a c:List V):iL (.func f a c)=some (.func f a c):=rfl
@[simp] theorem zcy (l o n:Nat):fI (.slice l o n)=some (.int .i64 n):=rfl
@[simp] theorem zdO:fI .ei=some (.int .i64 0):=rfl
@[simp] theorem zdu (s:List UInt8):zdW (.str s)=some (.int .i64 s.length):=rfl
@[simp] theorem vx (x:Bool) (a b:V):jB (.bool x) a b=some (if x=true then a else b):=by cases x <;> rfl
@[simp] theorem jC (k k':IntKind) (n:Int):ur k (.int k' n)=some (.int k (mI k n)):=rfl
@[simp] theorem Fx (i:Nat) (vs:List V):CN i (.tuple vs)=Ef vs i:=rfl
@[simp] theorem zee (k:Nat) (cs:List V):zfw k (.agg cs)=Ef cs k:=rfl
@[simp] theorem fE (o:O) (f:Nat->V) (h:Hp) (K:V->Hp->Prop):hV (some (o,f)) h K=K (f h.next) (h.new o):=rfl
@[simp] theorem hX (o:O) (f:Nat->V) (h:Hp) (K:O->V->Hp->Prop):yp (some (o,f)) h K=K o (f h.next) (h.new o):=rfl
@[simp] theorem en (v:V) (h:Hp) (K:V->Hp->Prop):fm (some (.val v h)) K=K v h:=rfl
@[simp] theorem AP (C:fu) (f:Nat) (l:List V) (h:Hp) (K:V->Hp->Prop):ij C (some (.call f l)) h K=cP C f l h K:=rfl
@[simp] theorem zfp (C:fu) (f:Nat) (l:List V) (h:Hp) (K:V->Hp->Prop):dcP C f l h K=cP C f l h K:=rfl
@[simp] theorem yN (f:Nat) (a c l:List V):gv (.func f a c) l=some (.call f (a++(l++c))):=rfl
@[simp] theorem zdA (w b:Bool):fF w (.bool b)=some (b == w):=by cases w <;> cases b <;> rfl
@[simp] theorem ze8 (x:Option V):gV true x=x:=rfl
@[simp] theorem zeX (x:Option V):gV false x=some .undef:=rfl
@[simp] theorem zfa (x:Option (Nat×List V)):gC true x=oB x λy=>some (some y):=rfl
@[simp] theorem zef (x:Option (Nat×List V)):gC false x=some none:=rfl
@[simp] theorem ze9 (p:Prop):gT true p=p:=rfl
@[simp] theorem zeL (p:Prop):gT false p=True:=rfl
@[simp] theorem ze7 (C:fu) (y:Nat×List V) (h:Hp) (K:V->Hp->Prop):qP C (some y) h K=cP C y.1 y.2 h K:=rfl
@[simp] theorem zdC (C:fu) (h:Hp) (K:V->Hp->Prop):qP C none h K=K .undef h:=rfl
theorem AN(n l o len i:Nat) (kd:IntKind) (h:i<len):gB n (.slice l o len) (.int kd i)=some (.ptr l (o+i*n)):=by
 show bB (Nat.blt i len) _=_
 grind[nt,Qq]
theorem QN{l o e sz:Nat} {ro:Bool} {cs:List V} {h:Hp} (a:h.get l=some (.cells e sz true ro cs)):fe (.ptr l o) h=Ef cs o:=by
 simp_all[fe,ld1,kK,yY,fo,oV]
theorem AV{n l o e sz:Nat} {ro:Bool} {cs:List V} {h:Hp} (a:h.get l=some (.cells e sz true ro cs)):fW n (.ptr l o) h=oB (sub cs o n) λcs=>some (.agg cs):=by
 simp_all[fW,Ip,kK,yY,fo,oV]
@[simp] theorem zdz (v:V) (l:List V):Ef (v::l) 0=some v:=rfl
@[simp] theorem zd2 (v:V) (l:List V) (n:Nat):Ef (v::l) (n+1)=Ef l n:=rfl
theorem Rh(l:List V)(n:Nat):Ef l n=l[n]?:=by grind[Ef,List.head?_drop]
@[simp] theorem zc0 (l:List V):takeN 0 l=some []:=by rfl
@[simp] theorem zcu (n:Nat) (v:V) (l:List V):takeN (n+1) (v::l)=oB (takeN n l) λr=>some (v::r):=rfl
theorem SA:∀(n:Nat) (l:List V),n<=l.length->takeN n l=some (l.take n)
 |0,l,_=>by rfl
 |n+1,[],h=>by simp_all
 |n+1,v::l,h=>by simp only[takeN,SA n l (by simp_all),fo,List.take_succ_cons]
theorem EO{l:List V} {o n:Nat} (h:o+n<=l.length):sub l o n=some ((l.drop o).take n):=by
 grind[sub,SA]
@[simp] theorem iB {α:Type} (a:α) (k:α->Prop):oP (some a) k=k a:=rfl
@[simp] theorem N7 (x:Bool) (a b:Prop):bP (.bool x) a b=if x=true then a else b:=iD x a b
@[simp] theorem zdq (v:V) (h:Hp):valOf (.val v h)=some (v,h):=rfl
@[simp] theorem zbE (f:Nat) (l:List V):JC (.call f l)=some (f,l):=rfl
section
variable{C:fu}{n:Nat}{Q:X->gO->Hp->Prop}{ρ:gO}{h:Hp}
theorem Wp.of{c:Code}{P:Prop}(e:j4 C n c Q ρ h=P)(hp:P):Wp C n c Q ρ h:=Wp.code c (e.mpr hp)
theorem wL{α:Type}{a:α}{k:α->Prop}(h:k a):oP (some a) k:=h
theorem oM{α:Type} {x:Option α} {k k':α->Prop} (h:oP x k) (f:∀a,x=some a->k a->k' a):oP x k':=by
 grind[lL,eh]
theorem bM{v:V} {a b c d:Prop} (h:bP v a b) (f:a->c) (g:b->d):bP v c d:=by
 unfold bP at h⊢;split at h
 ·rename_i x;cases x <;> grind
 omega
theorem dcM{f:Nat} {l:List V} {k k':V->Hp->Prop} (h':cP C f l h k) (F:∀v h',k v h'->k' v h'):dcP C f l h k':=by
 show cP C f l h k';exact h'.mono F
theorem Z7{x:Option (Nat×List V)} {k k':V->Hp->Prop} (h':qP C x h k) (F:∀v h',k v h'->k' v h'):qP C x h k':=by
 cases x with
 |none=>simp_all
 |some y=>exact cP.mono h' F
theorem alM{x:Option (O×(Nat->V))} {k k':V->Hp->Prop} (h':hV x h k) (F:∀v h',k v h'->k' v h'):hV x h k':=
 oM h' (by simp_all)
theorem zdn{x:Option R} {k k':V->Hp->Prop} (h':fm x k) (F:∀v h',k v h'->k' v h'):fm x k':=
 oM h' (by simp_all)
end
theorem anM{a b c:Prop}(h:c/\a)(f:a->b):c/\b:=by simp_all
@[simp] theorem O.kF (e sz:Nat) (a r:Bool) (cs:List V):O.beq (.cells e sz a r cs) (.cells e sz a r cs)=true:=by
 simp[O.beq,V.AQ]
@[simp] theorem O.QB (c:Nat):O.beq (.map [] c) (.map [] c)=true:=by simp[O.beq]
def og(c:V) (X:Option V):Option V:=match c with
 | .bool true=>some (.bool true)
 | .bool false=>X
 |_=>none
def kE(c:V) (X:Option V):Option V:=match c with
 | .bool false=>some (.bool false)
 | .bool true=>X
 |_=>none
@[simp] theorem zdZ (X:Option V):og (.bool true) X=some (.bool true):=rfl
@[simp] theorem oH (X:Option V):og (.bool false) X=X:=rfl
@[simp] theorem mH (X:Option V):kE (.bool true) X=X:=rfl
@[simp] theorem Fo (X:Option V):kE (.bool false) X=some (.bool false):=rfl
@[simp] theorem pS (c d:Bool):og (.bool c) (some (.bool d))=some (.bool (c ||d)):=by cases c <;> rfl
@[simp] theorem j8 (c d:Bool):kE (.bool c) (some (.bool d))=some (.bool (c&&d)):=by cases c <;> rfl
theorem thn{A B:Prop}(a:A)(f:A->B):B:=f a
section
variable{c c' Xc:V}{X X':Option V}{K:V->Prop}{f:V->Option V}{w b0:Bool}
theorem Kr(H:oP (og c X) K):oP (fF false c) λb=>oP (gV b X) λv=>oP (jB c (.bool true) v) K:=by
 unfold og at H;split at H
 ·exact H
 ·exact H
 ·exact H.elim
theorem MX(H:oP (kE c X) K):oP (fF true c) λb=>oP (gV b X) λv=>oP (jB c v (.bool false)) K:=by
 unfold kE at H;split at H
 ·exact H
 ·exact H
 ·exact H.elim
theorem sG1{R:Bool->V->Prop} (H:oP (fF w c) λb=>oP (gV b (oB X f)) K) (F:∀b,fF w c=some b->∀v,gV b X=some v->(oP (fF w c) λb=>oP (gV b (f v)) K)->R b v):oP (fF w c) λb=>oP (gV b X) λv=>R b v:=by
 obtain⟨b,a,d⟩:=lL.1 H;refine eh a ?_
 cases b with
 | true=>
   grind[lL,fy,oB,eh,gV]
 |false=>simp_all
theorem iq{b:Bool} {v:V} (E:gV b X=some v):gT b (X=some v):=by
 cases b <;> simp_all
end
structure mA (S:Nat->Prop) (h h':Hp):Prop where
 next:h.next<=h'.next
 fj:∀l,l<h.next->¬S l->h'.get l=h.get l
abbrev Ix(h h':Hp):Prop:=mA (λ_=>False) h h'
theorem mA.refl(S:Nat->Prop)(h:Hp):mA S h h:=⟨jO _,by simp_all⟩
theorem mA.trans'{S S':Nat->Prop} {h h' c:Hp} (a:mA S h h') (b:mA S' h' c) (hs:∀l,l<h.next->S' l->S l):mA S h c:=
 ⟨KG a.next b.next,λl d e=>by rw[b.fj l (EK d a.next) (by grind),a.fj l d e]⟩
theorem mA.trans{S:Nat->Prop}{h h' c:Hp}(a:mA S h h')(b:mA S h' c):mA S h c:=a.trans' b (by simp_all)
theorem mA.XM{S S':Nat->Prop} {h h':Hp} (a:mA S h h') (hs:∀l,l<h.next->S l->S' l):mA S' h h':=
 ⟨a.next,λl b c=>a.fj l b (by grind)⟩
theorem mA.new{S:Nat->Prop} (h:Hp) (o:O):mA S h (h.new o):=
 ⟨OK _,λl a _=>by rw[yk,if_neg (by omega)]⟩
theorem mA.put{S:Nat->Prop} {h:Hp} {l:Nat} (o:O) (hs:S l) (a:l<h.next):mA S h (h.put l o):=
 ⟨jO _,λm _ b=>by rw[qL _ _ a,if_neg (by grind)]⟩
theorem fq(h:Hp)(o:O):(h.new o).get h.next=some o:=by rw[yk,if_pos rfl]
theorem fk{h:Hp}(o:O){l:Nat}(a:l<h.next):(h.new o).get l=h.get l:=by rw[yk,if_neg (by omega)]
theorem gj{h:Hp}{l:Nat}(o:O)(a:l<h.next):(h.put l o).get l=some o:=by rw[qL _ _ a,if_pos rfl]
theorem gN{h:Hp}{l m:Nat}(o:O)(a:l<h.next)(b:l≠m):(h.put l o).get m=h.get m:=by simp_all[qL,if_neg]
@[simp] theorem zdN (h:Hp) (o:O):(h.new o).next=h.next+1:=rfl
@[simp] theorem zeg (h:Hp) (l:Nat) (o:O):(h.put l o).next=h.next:=rfl
structure qp (α:Type) where
 sz:Nat
 rel:(Nat->Prop)->Hp->α->List V->Prop
 len:∀{b h x cs},rel b h x cs->cs.length=sz
 one:∀{b h x cs},rel b h x cs->gw cs=true
 fj:∀{b h h' x cs},(∀l,b l->h'.get l=h.get l)->rel b h x cs->rel b h' x cs
 mono:∀{b b' h x cs},(∀l,b l->b' l)->rel b h x cs->rel b' h x cs
def lo(b:Nat):Nat->Prop:=λl=>l<b
theorem uY{b a:Nat}(h:b<=a):∀l,lo b l->lo a l:=λ_ c=>EK c h
theorem oZ:∀(a b:List V),gw (a++b)=(gw a&&gw b)
 |[],b=>by rfl
 | v::a,b=>by
   simp only[wBo,gw,oZ a b];cases v.one <;> simp
@[simp] theorem TN:gw []=true:=rfl
@[simp] theorem eJ (v:V) (l:List V):gw (v::l)=(v.one&&gw l):=by
 simp only[gw];cases v.one <;> rfl
def uO:IntKind->Int->Prop
 | .i8,n=>-128<=n/\n<=127
 | .i16,n=>-32768<=n/\n<=32767
 | .i32,n=>-2147483648<=n/\n<=2147483647
 | .i64,n=>-9223372036854775808<=n/\n<=9223372036854775807
 | .u8,n=>0<=n/\n<=255
 | .u16,n=>0<=n/\n<=65535
 | .u32,n=>0<=n/\n<=4294967295
 | .u64,n=>0<=n/\n<=18446744073709551615
def eI(k:IntKind):qp Int where
 sz:=1
 rel _ _ n cs:=cs=[.int k n]/\uO k n
 len h:=by simp_all
 one h:=by rw[h.1];rfl
 fj _ h:=h
 mono _ h:=h
def eB:qp Bool where
 sz:=1
 rel _ _ n cs:=cs=[.bool n]
 len h:=by simp_all
 one h:=by subst h;rfl
 fj _ h:=h
 mono _ h:=h
def eS:qp (List UInt8) where
 sz:=1
 rel _ _ n cs:=cs=[.str n]
 len h:=by simp_all
 one h:=by subst h;rfl
 fj _ h:=h
 mono _ h:=h
def eP{α β:Type} (e:qp α) (f:qp β):qp (α×β) where
 sz:=e.sz+f.sz
 rel b h x cs:=∃p q,cs=p++q/\e.rel b h x.1 p/\f.rel b h x.2 q
 len:=λ⟨_,_,h,a,c⟩=>by subst h;simp[e.len a,f.len c]
 one:=λ⟨_,_,h,a,c⟩=>by subst h;simp[oZ,e.one a,f.one c]
 fj:=λd ⟨p,q,h,a,c⟩=>⟨p,q,h,e.fj d a,f.fj d c⟩
 mono:=λhb ⟨p,q,h,a,c⟩=>⟨p,q,h,e.mono hb a,f.mono hb c⟩
def eM{α β:Type} (g:β->α) (e:qp α):qp β where
 sz:=e.sz
 rel b h x cs:=e.rel b h (g x) cs
 len h:=e.len h
 one h:=e.one h
 fj hk h:=e.fj hk h
 mono hb h:=e.mono hb h
def qQ{α:Type} (e:qp α) (b:Nat->Prop) (h:Hp):List V->List α->Prop
 |_,[]=>True
 |cs,x::xs=>∃w r,cs=w++r/\e.rel b h x w/\qQ e b h r xs
section
variable{α:Type}{e:qp α}{b:Nat->Prop}{h h':Hp}
theorem qQ.fj(a:∀l,b l->h'.get l=h.get l):∀{xs:List α} {cs:List V},qQ e b h cs xs->qQ e b h' cs xs
 |[],_,_=>trivial
 |_::_,_,⟨w,r,c,d,f⟩=>⟨w,r,c,e.fj a d,qQ.fj a f⟩
theorem qQ.mono{a:Nat->Prop} (hb:∀l,b l->a l):∀{xs:List α} {cs:List V},qQ e b h cs xs->qQ e a h cs xs
 |[],_,_=>trivial
 |_::_,_,⟨w,r,c,d,f⟩=>⟨w,r,c,e.mono hb d,qQ.mono hb f⟩
theorem qQ.length:∀{xs:List α} {cs:List V},qQ e b h cs xs->xs.length*e.sz<=cs.length
 |[],_,_=>by simp
 | _::xs,_,⟨w,r,a,c,d⟩=>by
   have:=qQ.length d;have f:=e.len c;subst a;simp only[KC,Rt,Xo,Nat.one_mul];omega
theorem qQ.get:∀{xs:List α} {cs:List V},qQ e b h cs xs->∀{i:Nat} {x:α},xs[i]? =some x->∃w,(cs.drop (i*e.sz)).take e.sz=w/\i*e.sz+e.sz<=cs.length/\e.rel b h x w
 |[],_,_,i,x,hx=>by simp_all
 | y ::xs,_,⟨w,r,a,c,d⟩,i,x,hx=>by
   have f:=e.len c;subst a
   cases i with
   | zero=>
     simp_all
   | succ i=>
     obtain⟨w',g,k,j⟩:=qQ.get d (i:=i) (x:=x) (by simp_all);refine⟨w',?_,?_,j⟩
     ·rw[<-g,Xo,Nat.one_mul,Nat.add_comm,<-f,<-wBf];simp
     grind
theorem qQ.append{ys:List α}:∀{xs:List α} {cs ds:List V},qQ e b h cs xs->cs.length=xs.length*e.sz->qQ e b h ds ys->qQ e b h (cs++ds) (xs++ys)
 | [],cs,ds,_,hl,a=>by
   simp_all
 | x::xs,_,ds,⟨w,r,c,a,d⟩,hl,f=>by
   subst c;have g:=e.len a;refine⟨w,r++ds,by simp,a,qQ.append d ?_ f⟩
   grind
theorem qQ.take:∀{xs:List α} {cs:List V},qQ e b h cs xs->qQ e b h (cs.take (xs.length*e.sz)) xs
 |[],_,_=>trivial
 | _::xs,_,⟨w,r,c,a,d⟩=>by
   have f:=e.len a;subst c;refine⟨w,r.take (xs.length*e.sz),?_,a,qQ.take d⟩
   simp_all[List.take_append,ZJ,Rt,Xo,Nat.one_mul]
theorem qQ.more{ds:List V}:∀{xs:List α} {cs:List V},qQ e b h cs xs->qQ e b h (cs++ds) xs
 |[],_,_=>trivial
 |_::_,_,⟨w,r,a,c,d⟩=>⟨w,r++ds,by rw[a,Lb],c,qQ.more d⟩
theorem qQ.set:∀{xs:List α} {cs:List V},qQ e b h cs xs->∀{i:Nat} {y:α} {w:List V},i<xs.length->e.rel b h y w->qQ e b h (cs.take (i*e.sz)++w++cs.drop (i*e.sz+e.sz)) (xs.set i y)
 |[],_,_,i,y,w,hi,_=>by simp_all
 | x ::xs,_,⟨u,r,d,a,c⟩,i,y,w,hi,hw=>by
   have f:=e.len a;have g:=e.len hw;subst d
   cases i with
   | zero=>
     refine⟨w,r,?_,hw,c⟩
     simp_all
   | succ i=>
     refine⟨u,_,?_,a,qQ.set c (i:=i) (y:=y) (w:=w) (by simpa using hi) hw⟩;have j:(i+1)*e.sz=u.length+i*e.sz:=by rw[Xo,Nat.one_mul,f];omega
     have k:(i+1)*e.sz+e.sz=u.length+(i*e.sz+e.sz):=by omega
     rw[k,j,List.take_length_add_append,<-wBf,List.drop_left]
     simp_all
end
def im{α:Type} (e:qp α) (b:Nat->Prop) (h:Hp) (xs:List α) (v:V):Prop:=(v = .ei/\xs=[])\/∃l off ty live ro cs,v = .slice l off xs.length/\b l/\h.get l=some (.cells ty e.sz live ro cs)/\(xs=[]\/live=true)/\off<=cs.length/\qQ e b h (cs.drop off) xs
section
variable{α:Type}{e:qp α}{b:Nat->Prop}{h h':Hp}{xs:List α}{v:V}
theorem im.fj(a:∀l,b l->h'.get l=h.get l) (hs:im e b h xs v):im e b h' xs v:=by
 rcases hs with hs|⟨l,off,ty,live,ro,cs,c,d,j,f,g,i⟩
 ·exact .inl hs
 ·exact .inr ⟨l,off,ty,live,ro,cs,c,d,by simp_all,f,g,i.fj a⟩
theorem im.mono{a:Nat->Prop} (hb:∀l,b l->a l) (hs:im e b h xs v):im e a h xs v:=by
 rcases hs with hs|⟨l,off,ty,live,ro,cs,c,d,f,g,i,j⟩
 ·exact .inl hs
 ·exact .inr ⟨l,off,ty,live,ro,cs,c,hb l d,f,g,i,j.mono hb⟩
theorem im.one(hs:im e b h xs v):v.one=true:=by
 rcases hs with⟨rfl,_⟩|⟨l,off,ty,live,ro,cs,rfl,_⟩ <;> rfl
end
def eL{α:Type} (e:qp α):qp (List α) where
 sz:=1
 rel b h xs cs:=∃v,cs=[v]/\im e b h xs v
 len:=by simp_all
 one:=λ⟨_,h,hs⟩=>by subst h;simp[hs.one]
 fj:=λa ⟨v,h,hs⟩=>⟨v,h,hs.fj a⟩
 mono:=λhb ⟨v,h,hs⟩=>⟨v,h,hs.mono hb⟩
section
variable{α:Type}{e:qp α}{b:Nat->Prop}{h h':Hp}{xs:List α}{v:V}
theorem im.len(hs:im e b h xs v):fI v=some (.int .i64 xs.length):=by
 rcases hs with⟨rfl,rfl⟩|⟨l,off,ty,live,ro,cs,rfl,_⟩ <;> rfl
theorem im.nil:im e b h [] .ei:= .inl ⟨rfl,rfl⟩
theorem im.ix(hs:im e b h xs v) {i:Nat} (hi:i<xs.length) (kd:IntKind) :
  ∃l o w,b l/\gB e.sz v (.int kd i)=some (.ptr l o)/\fW e.sz (.ptr l o) h=some (.agg w)/\e.rel b h xs[i] w/\∀k u,w[k]? =some u->fe (.ptr l (o+k)) h=some u:=by
 rcases hs with⟨_,rfl⟩|⟨l,off,ty,live,ro,cs,rfl,c,a,n,p,d⟩
 ·grind
 ·obtain rfl:live=true:=by grind
  obtain⟨w,f,g,j⟩:=d.get (i:=i) (x:=xs[i]) (by simp_all);rw[List.length_drop]at g;have m:(cs.drop (off+i*e.sz)).take e.sz=w:=by rw[<-f,wBf]
  refine⟨l,off+i*e.sz,w,c,by grind[AN],?_,j,λk u q=>?_⟩
  ·rw[AV a,EO (by omega),m];rfl
  ·rw[QN a,Rh]
   grind
theorem im.U8(hs:im e b h xs v) {i:Nat} (hi:i<xs.length) (kd:IntKind) (a:e.sz=1) :
  ∃l o u,b l/\gB 1 v (.int kd i)=some (.ptr l o)/\fe (.ptr l o) h=some u/\e.rel b h xs[i] [u]:=by
 obtain ⟨l,o,w,h0,c,_,d,g⟩:=hs.ix hi kd;rw[a]at c;have f:=e.len d;rw[a]at f;obtain⟨u,rfl⟩:∃u,w=[u]:=by
  match w,f with
  |[u],_=>simp_all
 exact⟨l,o,u,h0,c,g 0 u rfl,d⟩
theorem im.TT{a:Nat->Prop} {ty:Nat} {ro:Bool} {cs:List V} (d:qQ e b h cs xs) (hb:∀l,b l->l<h.next) (c:∀l,b l->a l) (f:a h.next):im e a (h.new (.cells ty e.sz true ro cs)) xs (.slice h.next 0 xs.length):=
 .inr ⟨h.next,0,ty,true,ro,cs,rfl,f,fq _ _,.inr rfl,Mj _,(d.fj (by grind[fk])).mono c⟩
theorem im.new{ty:Nat} {ro:Bool} {cs:List V} {n:Nat} (b:qQ e (lo n) h cs xs) (hb:n<=h.next):im e (lo (h.next+1)) (h.new (.cells ty e.sz true ro cs)) xs (.slice h.next 0 xs.length):=
 .TT b (λ_ a=>EK a hb) (λ_ a=>wBh (EK a hb)) (OF _)
end
section
variable (t:Nat)(k:IntKind)(a b:Int)
@[simp] theorem nJ:ez .add t (.int k a) (.int k b)=some (.int k (mI k (a+b))):=by cases k <;> rfl
@[simp] theorem qh:ez .sub t (.int k a) (.int k b)=some (.int k (mI k (a-b))):=by cases k <;> rfl
@[simp] theorem St:ez .mul t (.int k a) (.int k b)=some (.int k (mI k (a*b))):=by cases k <;> rfl
@[simp] theorem kX:ez .lss t (.int k a) (.int k b)=some (.bool (decide (a<b))):=by cases k <;> rfl
@[simp] theorem Kc:ez .leq t (.int k a) (.int k b)=some (.bool (decide (a<=b))):=by cases k <;> rfl
@[simp] theorem qn:ez .gtr t (.int k a) (.int k b)=some (.bool (decide (b<a))):=by cases k <;> rfl
@[simp] theorem pP:ez .geq t (.int k a) (.int k b)=some (.bool (decide (b<=a))):=by cases k <;> rfl
@[simp] theorem g0:ez .eql t (.int k a) (.int k b)=some (.bool (a == b)):=by cases k <;> rfl
@[simp] theorem rN:ez .neq t (.int k a) (.int k b)=some (.bool (a != b)):=by cases k <;> rfl
@[simp] theorem zdr (x y:List UInt8):ez .eql t (.str x) (.str y)=some (.bool (x == y)):=rfl
@[simp] theorem zdx (x y:List UInt8):ez .neq t (.str x) (.str y)=some (.bool (!(x == y))):=rfl
@[simp] theorem za2 (x:Bool):qf .not (.bool x)=some (.bool !x):=rfl
@[simp] theorem Vs:qf .neg (.int k a)=some (.int k (mI k (0-a))):=rfl
theorem qj{k:IntKind} {n:Int} (h:uO k n):mI k n=n:=by
 rw[uh];cases k <;> simp only[uO]at h <;> simp only[IntKind.wrap,IntKind.signed,IntKind.bits,wBr,Bool.false_and,CU,Rq,if_false,Nat.reduceSub,Int.reducePow,ge_iff_le] <;> (try split) <;> omega
@[simp] theorem Hr {n:Nat} (h:n<9223372036854775808):mI .i64 (n:Int)=n:=qj (by simp only[uO];omega)
@[simp] theorem Zk (g:Bool):TA g (.int k a) [.int k b]=some (.int k (if g then max a b else min a b)):=by
 cases g
 ·show some (V.int k (if b<a then b else a))=_;simp only[Rq,if_false];congr 2;omega
 ·show some (V.int k (if b>a then b else a))=_;simp only[if_true];congr 2;omega
end
theorem Y5(n:Nat) (z:V):CT n [z]=List.replicate n z:=by
 induction n <;> grind[CT]
theorem ON{e sz jP n:Nat} {z:V} (a:n*jP<=281474976710656) (b:n<=1099511627776) :
  iz e sz jP z (.int .i64 (n:Int)) (.int .i64 (n:Int))=some (O.cells e sz true false (CT n z.cells),λl=>V.slice l 0 n):=by
 show bB (Nat.ble n n) (bB (Nat.ble (n*jP) 281474976710656) (bB (Nat.ble n 1099511627776) (some (O.cells e sz true false (CT n z.cells),λl=>V.slice l 0 n))))=_
 simp_all[nt,UQ,jO]
theorem Ut{cs:List V} {v:V}:∀{o:Nat},o<cs.length->qv o cs [v]=some (cs.set o v):=by
 induction cs with
 |nil=>simp_all
 | cons c cs a=>
   intro o h
   cases o with
   |zero=>rfl
   | succ o=>
     grind[qv,fo]
theorem V2:∀{ws cs:List V},ws.length<=cs.length->over ws cs=some (ws++cs.drop ws.length)
 |[],_,_=>rfl
 |w::ws,[],h=>by simp_all
 | w::ws,c::cs,h=>by
   have:=V2 (ws:=ws) (cs:=cs) (by simp_all)
   grind[over,fo,Rt]
theorem AM:∀{o:Nat} {cs ws:List V},o+ws.length<=cs.length->qv o cs ws=some (cs.take o++ws++cs.drop (o+ws.length))
 |0,cs,ws,h=>by simp_all[qv,V2,wB4,OG,zO]
 |o+1,[],ws,h=>by simp_all
 | o+1,c::cs,ws,h=>by
   have:=AM (o:=o) (cs:=cs) (ws:=ws) (by grind)
   grind[qv,fo]
theorem PM{v:V} (h:v.one=true):v.cells=[v]:=by
 cases v <;> first|rfl|cases h
section
variable{l o e sz:Nat}{cs:List V}{h:Hp}{v:V}
theorem N3(a:h.get l=some (.cells e sz true false cs)) (b:o<cs.length) (hv:v.one=true):gJ 1 (.ptr l o) v h=some (.val .undef (h.put l (.cells e sz true false (cs.set o v)))):=by
 unfold gJ FX kK;simp only[yY,PM hv,Rt,wBk,a,fo,oV,wBe,eJ,hv,TN,Bool.and_self,Ut b];rfl
theorem HB{ws:List V} {n:Nat} (a:h.get l=some (.cells e sz true false cs)) (b:ws.length=n) (hc:cs.length=n) (hv:gw ws=true):gJ n (.ptr l 0) (.agg ws) h=some (.val .undef (h.put l (.cells e sz true false ws))):=by
 unfold gJ FX kK;have hs:qv 0 cs ws=some ws:=by
  rw[AM (by omega),wB4,OG,zO,List.drop_of_length_le (by omega),JL]
 grind[yY,V.cells,fo,oV,wBe,nt,W8]
theorem zcT{ws:List V} {n:Nat} (a:h.get l=some (.cells e sz true false cs)) (b:ws.length=n) (hc:o+n<=cs.length) (hv:gw ws=true) :
  gJ n (.ptr l o) (.agg ws) h=some (.val .undef (h.put l (.cells e sz true false (cs.take o++ws++cs.drop (o+n))))):=by
 unfold gJ FX kK;simp only[yY,V.cells,a,fo,oV,wBe,hv,AM (show o+ws.length<=cs.length by omega)]
 simp_all
theorem lJ{u:V}{ro:Bool}(a:h.get l=some (.cells e sz true ro cs))(b:cs[o]? =some u):fe (.ptr l o) h=some u:=by rw[QN a,Rh,b]
theorem DJ{n:Nat} {ro:Bool} (a:h.get l=some (.cells e sz true ro cs)) (b:cs.length=n):fW n (.ptr l 0) h=some (.agg cs):=by
 rw[AV a,EO (by omega),ZT,ZJ (by omega)];rfl
end
section
variable{α:Type}{e:qp α}{b:Nat->Prop}{h:Hp}
theorem qQ.drop:∀{xs:List α} {cs:List V} (n:Nat),qQ e b h cs xs->n<=xs.length->qQ e b h (cs.drop (n*e.sz)) (xs.drop n)
 |xs,cs,0,hw,_=>by simp_all
 |[],cs,n+1,_,hn=>by simp_all
 | x::xs,cs,n+1,⟨w,r,a,c,d⟩,hn=>by
   have:=qQ.drop n d (by simpa using hn);have f:=e.len c;subst a;rw[List.drop_succ_cons,Xo,Nat.one_mul,Nat.add_comm,<-wBf,<-f,List.drop_left]
   simp_all
theorem qQ.taken:∀{xs:List α} {cs:List V} (n:Nat),qQ e b h cs xs->qQ e b h cs (xs.take n)
 |xs,cs,0,_=>by simp only[wB4];trivial
 |[],cs,n+1,_=>by simp_all
 |x::xs,cs,n+1,⟨w,r,a,c,d⟩=>⟨w,r,a,c,qQ.taken n d⟩
theorem Lk(z:Nat) (k:IntKind) (n:Nat):hbound z (some (.int k n))=some n:=by
 rfl
theorem GS(z:Nat):hbound z none=some z:=rfl
theorem im.cut{xs:List α} {v:V} (hs:im e b h xs v) {lo hi:Option V} {m n:Nat} (i:hbound 0 lo=some m) (j:hbound xs.length hi=some n) (k:m<=n) (a:n<=xs.length) :
  ∃d,jA e.sz v lo hi h=some d/\im e b h ((xs.take n).drop m) d:=by
 rcases hs with⟨rfl,rfl⟩|⟨l,off,ty,live,ro,cs,rfl,o,p,r,s,f⟩
 ·simp at a;subst a;obtain rfl:m=0:=by omega
  refine⟨.ei,?_,.inl ⟨rfl,by simp⟩⟩
  simp_all[jA,fo,hbound]
 ·have q:=f.length;have g:m*e.sz<=n*e.sz:=wBs _ k;have c:n*e.sz<=xs.length*e.sz:=wBs _ a;rw[List.length_drop]at q;refine⟨.slice l (off+m*e.sz) (n-m),?_,?_⟩
  ·grind[jA,kK,fo,nt,W8,UQ]
  ·have hlen:((xs.take n).drop m).length=n-m:=by rw[List.length_drop,Mq];omega
   refine .inr ⟨l,off+m*e.sz,ty,live,ro,cs,by rw[hlen],o,p,?_,by omega,?_⟩
   ·grind
   ·rw[<-wBf];exact(f.taken n).drop m (by simp_all)
end
section
variable{e sz a n:Nat}{h h':Hp}{cs:List V}{v:V}
theorem nz{e sz k:Nat} {h:Hp} {cs:List V} {ro:Bool} (a:cs.length=(k+1)*sz):lQ (h.new (.cells e sz true ro cs)) sz (.slice h.next 0 (k+1))=some (k+1,cs):=by
 unfold lQ Ip kK;have:sub cs 0 (Nat.mul (Nat.succ k) sz)=some cs:=by
  show sub cs 0 ((k+1)*sz)=some cs;rw[EO (by omega),ZT,ZJ (by omega)]
 grind[fq,fo,oV]
end
