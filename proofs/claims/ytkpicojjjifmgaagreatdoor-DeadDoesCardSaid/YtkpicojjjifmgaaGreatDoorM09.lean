/- Parts. -/
import Derived.Test.YtkpicojjjifmgaaGreatDoorM08
import Derived.KernelRfl
namespace Go.Proofs.YtkpicojjjifmgaaGreatDoor.Hx
def _root_.Go.Code.l:Code->Code
 | .seq a _=>a
 | .cond _ a _=>a
 | .block _ c=>c
 | .loop c=>c
 |_=> .skip
def _root_.Go.Code.r:Code->Code
 | .seq _ b=>b
 | .cond _ _ b=>b
 |_=> .skip
def JL(fn:Func):Code:=match fn.body with
 |some c=>c
 |none=> .skip
noncomputable section
def eQ(a:V)(h:Hp):Option V:=zm a λl off=>ld1 h l off
def fY(n:Nat)(a:V)(h:Hp):Option V:=zm a λl off=>oB (GN h l off n) λcs=>some (.agg cs)
def fI(k:Nat)(x:V):Option V:=zm x λl off=>some (.ptr l (Nat.add off k))
def gJ(n:Nat) (x i:V):Option V:=asNat i λi=>match x with
 | .slice l off len=>bB (Nat.blt i len) (some (.ptr l (Nat.add off (Nat.mul i n))))
 |_=>none
def zbd(len n:Nat)(x i:V):Option V:=asNat i λi=>zm x λl off=>bB (Nat.blt i len) (some (.ptr l (Nat.add off (Nat.mul i n))))
def zd1(k:Nat) (x:V):Option V:=match x with
 | .agg cs=>Iw cs k
 |_=>none
def js(c a b:V):Option V:=match c with
 | .bool x=>Bool.rec (motive:=λ_=>Option V) (some b) (some a) x
 |_=>none
def iF(x:V):Option V:=match x with
 | .ptr l off=>some (.ptr l off)
 | .func f a c=>some (.func f a c)
 | .iface u v=>some (.iface u v)
 |_=>none
def tK(k:IntKind) (x:V):Option V:=match x with
 | .int _ n=>some (.int k (mb k n))
 |_=>none
def fV(z:List V)(a:List (Nat×Nat))(ps:List (Nat×V)):Option V:=oB (Cl (λi=>a[i]?) z ps) λcs=>some (.agg cs)
def HO(i:Nat) (x:V):Option V:=match x with
 | .tuple vs=>Iw vs i
 |_=>none
def zc7(x:V):Option V:=match x with
 | .str s=>some (.int .i64 (.ofNat s.length))
 |_=>none
def fH(x:V):Option V:=match x with
 | .slice _ _ n=>some (.int .i64 (.ofNat n))
 | .ef=>some (.int .i64 (.ofNat 0))
 |_=>none
def Uk(a:Nat) (d:Option (List Field)) (z:V) (ok:Bool) (m k:V) (h:Hp):Option V:=bB (JM d k) (match m with
 | .mB=>some (found z ok none)
 | .map l=>Ej h l λb _=>oB (xI a d k b 0) λr=>some (found z ok r)
 |_=>none)
def jG(a size len:Nat) (z:V) (ps:List (Nat×V)):Option (O×(Nat->V)):=oB (Cl (λi=>some (Nat.mul i size,size)) (BO len z.cells) ps) λcs=>bB (gG cs) (some (.cells a size true false cs,λl=> .slice l 0 len))
def gM(n:Nat)(a v:V)(h:Hp):Option R:=zm a λl off=>bB (Nat.beq v.cells.length n) (oB (ER h l off v.cells) λh=>some (.val .undef h))
end
noncomputable section
def fk(x:Option R)(K:V->Hp->Prop):Prop:=oP (oB x valOf) λy=>K y.1 y.2
def ic(C:ft)(x:Option R)(h:Hp)(K:V->Hp->Prop):Prop:=oP (oB x HS) λy=>cP C y.1 y.2 h K
def dcP(C:ft)(f:Nat)(l:List V)(h:Hp)(K:V->Hp->Prop):Prop:=oP (some (f,l)) λy=>cP C y.1 y.2 h K
def hX(x:Option (O×(Nat->V)))(h:Hp)(K:V->Hp->Prop):Prop:=oP x λr=>K (r.2 h.next) (h.new r.1)
def xE(x:Option (O×(Nat->V)))(h:Hp)(K:O->V->Hp->Prop):Prop:=oP x λr=>K r.1 (r.2 h.next) (h.new r.1)
def ghP(b:Bool)(h:Hp)(x:Option (V×Hp))(K:V->Hp->Prop):Prop:=oP (gH b h x) λy=>K y.1 y.2
def gT(b:Bool)(p:Prop):Prop:=Bool.rec (motive:=λ_=>Prop) True p b
def fD(w:Bool) (x:V):Option Bool:=match x with
 | .bool b=>some (Bool.rec (motive:=λ_=>Bool) (!w) w b)
 | .tuple []=>some false
 |_=>none
end
theorem U2(f:Nat->V) (d:Nat) (v:V):fu f d v d=v:=by
 simp_all[fu,Tn]
theorem Zg(f:Nat->V) {d i:Nat} (v:V) (h:i≠d):fu f d v i=f i:=by
 unfold fu;cases hb:Nat.beq i d <;> simp_all
@[simp] theorem fi {α β:Type} (a:α) (k:α->Option β):oB (some a) k=k a:=rfl
@[simp] theorem zdx {α β:Type} (k:α->Option β):oB (none:Option α) k=none:=rfl
@[simp] theorem tH {β:Type} (k:Option β):bB true k=k:=rfl
@[simp] theorem zcc {β:Type} (k:Option β):bB false k=none:=rfl
theorem mC{β:Type}{c:Bool}(k:Option β)(h:c=true):bB c k=k:=by simp_all
@[simp] theorem zU {β:Type} (l o:Nat) (k:Nat->Nat->Option β):zm (.ptr l o) k=k l o:=rfl
@[simp] theorem zau {β:Type} (kd:IntKind) (n:Nat) (k:Nat->Option β):asNat (.int kd (.ofNat n)) k=k n:=rfl
@[simp] theorem zbq {β:Type} (kd:IntKind) (n:Nat) (k:Nat->Option β):asNat (.int kd (n:Int)) k=k n:=rfl
@[simp] theorem zca {β:Type} (kd:IntKind) (n:Nat) (k:Nat->Option β):asNat (.int kd (OfNat.ofNat n:Int)) k=k n:=rfl
@[simp] theorem zbw {β:Type} (kd:IntKind) (k:Nat->Option β):asNat (.int kd 0) k=k 0:=rfl
@[simp] theorem zcb {β:Type} (kd:IntKind) (k:Nat->Option β):asNat (.int kd 1) k=k 1:=rfl
@[simp] theorem fe (k l o:Nat):fI k (.ptr l o)=some (.ptr l (o+k)):=rfl
@[simp] theorem gj (l o:Nat):iF (.ptr l o)=some (.ptr l o):=rfl
@[simp] theorem zb8 (f:Nat) (a c:List V):iF (.func f a c)=some (.func f a c):=rfl
@[simp] theorem zbD (l o n:Nat):fH (.slice l o n)=some (.int .i64 n):=rfl
@[simp] theorem zdm:fH .ef=some (.int .i64 0):=rfl
@[simp] theorem zb7 (s:List UInt8):zc7 (.str s)=some (.int .i64 s.length):=rfl
@[simp] theorem uA (x:Bool) (a b:V):js (.bool x) a b=some (if x=true then a else b):=by cases x <;> rfl
@[simp] theorem jz (k k':IntKind) (n:Int):tK k (.int k' n)=some (.int k (mb k n)):=rfl
@[simp] theorem Ee (i:Nat) (vs:List V):HO i (.tuple vs)=Iw vs i:=rfl
@[simp] theorem zdA (k:Nat) (cs:List V):zd1 k (.agg cs)=Iw cs k:=rfl
@[simp] theorem fG (o:O) (f:Nat->V) (h:Hp) (K:V->Hp->Prop):hX (some (o,f)) h K=K (f h.next) (h.new o):=rfl
@[simp] theorem hV (o:O) (f:Nat->V) (h:Hp) (K:O->V->Hp->Prop):xE (some (o,f)) h K=K o (f h.next) (h.new o):=rfl
@[simp] theorem ei (v:V) (h:Hp) (K:V->Hp->Prop):fk (some (.val v h)) K=K v h:=rfl
@[simp] theorem zR (C:ft) (f:Nat) (l:List V) (h:Hp) (K:V->Hp->Prop):ic C (some (.call f l)) h K=cP C f l h K:=rfl
@[simp] theorem zd6 (C:ft) (f:Nat) (l:List V) (h:Hp) (K:V->Hp->Prop):dcP C f l h K=cP C f l h K:=rfl
@[simp] theorem xY (f:Nat) (a c l:List V):gh (.func f a c) l=some (.call f (a++(l++c))):=rfl
@[simp] theorem zdi (w b:Bool):fD w (.bool b)=some (b == w):=by cases w <;> cases b <;> rfl
@[simp] theorem zdT (x:Option V):gV true x=x:=rfl
@[simp] theorem zcA (x:Option V):gV false x=some .undef:=rfl
@[simp] theorem zdR (x:Option (Nat×List V)):gC true x=oB x λy=>some (some y):=rfl
@[simp] theorem zch (x:Option (Nat×List V)):gC false x=some none:=rfl
@[simp] theorem zdP (p:Prop):gT true p=p:=rfl
@[simp] theorem zdb (p:Prop):gT false p=True:=rfl
@[simp] theorem zdj (C:ft) (y:Nat×List V) (h:Hp) (K:V->Hp->Prop):qo C (some y) h K=cP C y.1 y.2 h K:=rfl
@[simp] theorem zdu (C:ft) (h:Hp) (K:V->Hp->Prop):qo C none h K=K .undef h:=rfl
theorem Ci(n l o len i:Nat) (kd:IntKind) (h:i<len):gJ n (.slice l o len) (.int kd i)=some (.ptr l (o+i*n)):=by
 show bB (Nat.blt i len) _=_
 grind[mC,PM]
theorem T2{l o e sz:Nat} {ro:Bool} {cs:List V} {h:Hp} (a:h.get l=some (.cells e sz true ro cs)):eQ (.ptr l o) h=Iw cs o:=by
 simp_all[eQ,ld1,kI,zU,fi,tH]
theorem FE{n l o e sz:Nat} {ro:Bool} {cs:List V} {h:Hp} (a:h.get l=some (.cells e sz true ro cs)):fY n (.ptr l o) h=oB (sub cs o n) λcs=>some (.agg cs):=by
 simp_all[fY,GN,kI,zU,fi,tH]
@[simp] theorem zcu (v:V) (l:List V):Iw (v::l) 0=some v:=rfl
@[simp] theorem zdc (v:V) (l:List V) (n:Nat):Iw (v::l) (n+1)=Iw l n:=rfl
theorem Uz(l:List V)(n:Nat):Iw l n=l[n]?:=by grind[Iw,List.head?_drop]
@[simp] theorem zbr (l:List V):takeN 0 l=some []:=by rfl
@[simp] theorem zbZ (n:Nat) (v:V) (l:List V):takeN (n+1) (v::l)=oB (takeN n l) λr=>some (v::r):=rfl
theorem Rl:∀(n:Nat) (l:List V),n<=l.length->takeN n l=some (l.take n)
 |0,l,_=>by rfl
 |n+1,[],h=>by simp_all
 |n+1,v::l,h=>by simp only[takeN,Rl n l (by simp_all),fi,List.take_succ_cons]
theorem FZ{l:List V} {o n:Nat} (h:o+n<=l.length):sub l o n=some ((l.drop o).take n):=by
 grind[sub,Rl]
@[simp] theorem gX {α:Type} (a:α) (k:α->Prop):oP (some a) k=k a:=rfl
@[simp] theorem yz (x:Bool) (a b:Prop):bP (.bool x) a b=if x=true then a else b:=ir x a b
@[simp] theorem zb5 (v:V) (h:Hp):valOf (.val v h)=some (v,h):=rfl
@[simp] theorem zag (f:Nat) (l:List V):HS (.call f l)=some (f,l):=rfl
section
variable{C:ft}{n:Nat}{Q:X->gK->Hp->Prop}{ρ:gK}{h:Hp}
theorem Wp.of{c:Code}{P:Prop}(e:jU C n c Q ρ h=P)(hp:P):Wp C n c Q ρ h:=Wp.code c (e.mpr hp)
theorem u0{α:Type}{a:α}{k:α->Prop}(h:k a):oP (some a) k:=h
theorem oM{α:Type} {x:Option α} {k k':α->Prop} (h:oP x k) (f:∀a,x=some a->k a->k' a):oP x k':=by
 grind[lB,ee]
theorem bM{v:V} {a b c d:Prop} (h:bP v a b) (f:a->c) (g:b->d):bP v c d:=by
 unfold bP at h⊢;split at h
 ·rename_i x;cases x <;> grind
 omega
theorem dcM{f:Nat} {l:List V} {k k':V->Hp->Prop} (h':cP C f l h k) (F:∀v h',k v h'->k' v h'):dcP C f l h k':=by
 show cP C f l h k';exact h'.mono F
theorem ZM{x:Option (Nat×List V)} {k k':V->Hp->Prop} (h':qo C x h k) (F:∀v h',k v h'->k' v h'):qo C x h k':=by
 cases x with
 |none=>simp_all
 |some y=>exact cP.mono h' F
theorem alM{x:Option (O×(Nat->V))} {k k':V->Hp->Prop} (h':hX x h k) (F:∀v h',k v h'->k' v h'):hX x h k':=
 oM h' (by simp_all)
theorem zba{x:Option R} {k k':V->Hp->Prop} (h':fk x k) (F:∀v h',k v h'->k' v h'):fk x k':=
 oM h' (by simp_all)
end
theorem Zs{a b c:Prop}(h:c/\a)(f:a->b):c/\b:=by simp_all
@[simp] theorem O.iK (e sz:Nat) (a r:Bool) (cs:List V):O.beq (.cells e sz a r cs) (.cells e sz a r cs)=true:=by
 simp[O.beq,V.zP]
@[simp] theorem O.zdQ (c:Nat):O.beq (.map [] c) (.map [] c)=true:=by simp[O.beq]
def nt(c:V) (X:Option V):Option V:=match c with
 | .bool true=>some (.bool true)
 | .bool false=>X
 |_=>none
def kv(c:V) (X:Option V):Option V:=match c with
 | .bool false=>some (.bool false)
 | .bool true=>X
 |_=>none
@[simp] theorem zcp (X:Option V):nt (.bool true) X=some (.bool true):=rfl
@[simp] theorem mU (X:Option V):nt (.bool false) X=X:=rfl
@[simp] theorem mf (X:Option V):kv (.bool true) X=X:=rfl
@[simp] theorem Dk (X:Option V):kv (.bool false) X=some (.bool false):=rfl
@[simp] theorem qK (c d:Bool):nt (.bool c) (some (.bool d))=some (.bool (c ||d)):=by cases c <;> rfl
@[simp] theorem ke (c d:Bool):kv (.bool c) (some (.bool d))=some (.bool (c&&d)):=by cases c <;> rfl
theorem thn{A B:Prop}(a:A)(f:A->B):B:=f a
section
variable{c c' Xc:V}{X X':Option V}{K:V->Prop}{f:V->Option V}{w b0:Bool}
theorem Ji(H:oP (nt c X) K):oP (fD false c) λb=>oP (gV b X) λv=>oP (js c (.bool true) v) K:=by
 unfold nt at H;split at H
 ·exact H
 ·exact H
 ·exact H.elim
theorem Me(H:oP (kv c X) K):oP (fD true c) λb=>oP (gV b X) λv=>oP (js c v (.bool false)) K:=by
 unfold kv at H;split at H
 ·exact H
 ·exact H
 ·exact H.elim
theorem sG1{R:Bool->V->Prop} (H:oP (fD w c) λb=>oP (gV b (oB X f)) K) (F:∀b,fD w c=some b->∀v,gV b X=some v->(oP (fD w c) λb=>oP (gV b (f v)) K)->R b v):oP (fD w c) λb=>oP (gV b X) λv=>R b v:=by
 obtain⟨b,a,d⟩:=lB.1 H;refine ee a ?_
 cases b with
 | true=>
   grind[lB,fx,oB,ee,gV]
 |false=>simp_all
theorem ik{b:Bool} {v:V} (E:gV b X=some v):gT b (X=some v):=by
 cases b <;> simp_all
end
structure mA (S:Nat->Prop) (h h':Hp):Prop where
 next:h.next<=h'.next
 fm:∀l,l<h.next->¬S l->h'.get l=h.get l
abbrev G9(h h':Hp):Prop:=mA (λ_=>False) h h'
theorem mA.refl(S:Nat->Prop)(h:Hp):mA S h h:=⟨jK _,by simp_all⟩
theorem mA.trans'{S S':Nat->Prop} {h h' c:Hp} (a:mA S h h') (b:mA S' h' c) (hs:∀l,l<h.next->S' l->S l):mA S h c:=
 ⟨II a.next b.next,λl d e=>by rw[b.fm l (Cb d a.next) (by grind),a.fm l d e]⟩
theorem mA.trans{S:Nat->Prop}{h h' c:Hp}(a:mA S h h')(b:mA S h' c):mA S h c:=a.trans' b (by simp_all)
theorem mA.U6{S S':Nat->Prop} {h h':Hp} (a:mA S h h') (hs:∀l,l<h.next->S l->S' l):mA S' h h':=
 ⟨a.next,λl b c=>a.fm l b (by grind)⟩
theorem mA.new{S:Nat->Prop} (h:Hp) (o:O):mA S h (h.new o):=
 ⟨OH _,λl a _=>by rw[wC,if_neg (by omega)]⟩
theorem mA.put{S:Nat->Prop} {h:Hp} {l:Nat} (o:O) (hs:S l) (a:l<h.next):mA S h (h.put l o):=
 ⟨jK _,λm _ b=>by rw[qn _ _ a,if_neg (by grind)]⟩
theorem fj(h:Hp)(o:O):(h.new o).get h.next=some o:=by rw[wC,if_pos rfl]
theorem fo{h:Hp}(o:O){l:Nat}(a:l<h.next):(h.new o).get l=h.get l:=by rw[wC,if_neg (by omega)]
theorem gq{h:Hp}{l:Nat}(o:O)(a:l<h.next):(h.put l o).get l=some o:=by rw[qn _ _ a,if_pos rfl]
theorem gL{h:Hp}{l m:Nat}(o:O)(a:l<h.next)(b:l≠m):(h.put l o).get m=h.get m:=by simp_all[qn,if_neg]
@[simp] theorem zdn (h:Hp) (o:O):(h.new o).next=h.next+1:=rfl
@[simp] theorem zcT (h:Hp) (l:Nat) (o:O):(h.put l o).next=h.next:=rfl
structure ri (α:Type) where
 sz:Nat
 rel:(Nat->Prop)->Hp->α->List V->Prop
 len:∀{b h x cs},rel b h x cs->cs.length=sz
 one:∀{b h x cs},rel b h x cs->gG cs=true
 fm:∀{b h h' x cs},(∀l,b l->h'.get l=h.get l)->rel b h x cs->rel b h' x cs
 mono:∀{b b' h x cs},(∀l,b l->b' l)->rel b h x cs->rel b' h x cs
def lo(b:Nat):Nat->Prop:=λl=>l<b
theorem Bt{b a:Nat}(h:b<=a):∀l,lo b l->lo a l:=λ_ c=>Cb c h
theorem oK:∀(a b:List V),gG (a++b)=(gG a&&gG b)
 |[],b=>by rfl
 | v::a,b=>by
   simp only[wBq,gG,oK a b];cases v.one <;> simp
@[simp] theorem Te:gG []=true:=rfl
@[simp] theorem ey (v:V) (l:List V):gG (v::l)=(v.one&&gG l):=by
 simp only[gG];cases v.one <;> rfl
def tI:IntKind->Int->Prop
 | .i8,n=>-128<=n/\n<=127
 | .i16,n=>-32768<=n/\n<=32767
 | .i32,n=>-2147483648<=n/\n<=2147483647
 | .i64,n=>-9223372036854775808<=n/\n<=9223372036854775807
 | .u8,n=>0<=n/\n<=255
 | .u16,n=>0<=n/\n<=65535
 | .u32,n=>0<=n/\n<=4294967295
 | .u64,n=>0<=n/\n<=18446744073709551615
def eI(k:IntKind):ri Int where
 sz:=1
 rel _ _ n cs:=cs=[.int k n]/\tI k n
 len h:=by simp_all
 one h:=by rw[h.1];rfl
 fm _ h:=h
 mono _ h:=h
def eB:ri Bool where
 sz:=1
 rel _ _ n cs:=cs=[.bool n]
 len h:=by simp_all
 one h:=by subst h;rfl
 fm _ h:=h
 mono _ h:=h
def eS:ri (List UInt8) where
 sz:=1
 rel _ _ n cs:=cs=[.str n]
 len h:=by simp_all
 one h:=by subst h;rfl
 fm _ h:=h
 mono _ h:=h
def eP{α β:Type} (e:ri α) (f:ri β):ri (α×β) where
 sz:=e.sz+f.sz
 rel b h x cs:=∃p q,cs=p++q/\e.rel b h x.1 p/\f.rel b h x.2 q
 len:=λ⟨_,_,h,a,c⟩=>by subst h;simp[e.len a,f.len c]
 one:=λ⟨_,_,h,a,c⟩=>by subst h;simp[oK,e.one a,f.one c]
 fm:=λd ⟨p,q,h,a,c⟩=>⟨p,q,h,e.fm d a,f.fm d c⟩
 mono:=λg ⟨p,q,h,a,c⟩=>⟨p,q,h,e.mono g a,f.mono g c⟩
def eM{α β:Type} (g:β->α) (e:ri α):ri β where
 sz:=e.sz
 rel b h x cs:=e.rel b h (g x) cs
 len h:=e.len h
 one h:=e.one h
 fm hk h:=e.fm hk h
 mono hb h:=e.mono hb h
def qq{α:Type} (e:ri α) (b:Nat->Prop) (h:Hp):List V->List α->Prop
 |_,[]=>True
 |cs,x::xs=>∃w r,cs=w++r/\e.rel b h x w/\qq e b h r xs
section
variable{α:Type}{e:ri α}{b:Nat->Prop}{h h':Hp}
theorem qq.fm(a:∀l,b l->h'.get l=h.get l):∀{xs:List α} {cs:List V},qq e b h cs xs->qq e b h' cs xs
 |[],_,_=>trivial
 |_::_,_,⟨w,r,c,d,f⟩=>⟨w,r,c,e.fm a d,qq.fm a f⟩
theorem qq.mono{a:Nat->Prop} (c:∀l,b l->a l):∀{xs:List α} {cs:List V},qq e b h cs xs->qq e a h cs xs
 |[],_,_=>trivial
 |_::_,_,⟨w,r,d,f,g⟩=>⟨w,r,d,e.mono c f,qq.mono c g⟩
theorem qq.length:∀{xs:List α} {cs:List V},qq e b h cs xs->xs.length*e.sz<=cs.length
 |[],_,_=>by simp
 | _::xs,_,⟨w,r,a,c,d⟩=>by
   have:=qq.length d;have f:=e.len c;subst a;simp only[Ec,KB,Vx,Nat.one_mul];omega
theorem qq.get:∀{xs:List α} {cs:List V},qq e b h cs xs->∀{i:Nat} {x:α},xs[i]? =some x->∃w,(cs.drop (i*e.sz)).take e.sz=w/\i*e.sz+e.sz<=cs.length/\e.rel b h x w
 |[],_,_,i,x,hx=>by simp_all
 | y ::xs,_,⟨w,r,a,c,d⟩,i,x,hx=>by
   have f:=e.len c;subst a
   cases i with
   | zero=>
     simp_all
   | succ i=>
     obtain⟨w',g,k,j⟩:=qq.get d (i:=i) (x:=x) (by simp_all);refine⟨w',?_,?_,j⟩
     ·rw[<-g,Vx,Nat.one_mul,Nat.add_comm,<-f,<-Zx];simp
     grind
theorem qq.append{ys:List α}:∀{xs:List α} {cs ds:List V},qq e b h cs xs->cs.length=xs.length*e.sz->qq e b h ds ys->qq e b h (cs++ds) (xs++ys)
 | [],cs,ds,_,hl,a=>by
   simp_all
 | x::xs,_,ds,⟨w,r,c,a,d⟩,hl,f=>by
   subst c;have g:=e.len a;refine⟨w,r++ds,by simp,a,qq.append d ?_ f⟩
   grind
theorem qq.take:∀{xs:List α} {cs:List V},qq e b h cs xs->qq e b h (cs.take (xs.length*e.sz)) xs
 |[],_,_=>trivial
 | _::xs,_,⟨w,r,c,a,d⟩=>by
   have f:=e.len a;subst c;refine⟨w,r.take (xs.length*e.sz),?_,a,qq.take d⟩
   simp_all[List.take_append,Yq,KB,Vx,Nat.one_mul]
theorem qq.more{ds:List V}:∀{xs:List α} {cs:List V},qq e b h cs xs->qq e b h (cs++ds) xs
 |[],_,_=>trivial
 |_::_,_,⟨w,r,a,c,d⟩=>⟨w,r++ds,by rw[a,Ii],c,qq.more d⟩
theorem qq.set:∀{xs:List α} {cs:List V},qq e b h cs xs->∀{i:Nat} {y:α} {w:List V},i<xs.length->e.rel b h y w->qq e b h (cs.take (i*e.sz)++w++cs.drop (i*e.sz+e.sz)) (xs.set i y)
 |[],_,_,i,y,w,hi,_=>by simp_all
 | x ::xs,_,⟨u,r,d,a,c⟩,i,y,w,hi,hw=>by
   have f:=e.len a;have g:=e.len hw;subst d
   cases i with
   | zero=>
     refine⟨w,r,?_,hw,c⟩
     simp_all
   | succ i=>
     refine⟨u,_,?_,a,qq.set c (i:=i) (y:=y) (w:=w) (by simpa using hi) hw⟩;have j:(i+1)*e.sz=u.length+i*e.sz:=by rw[Vx,Nat.one_mul,f];omega
     have k:(i+1)*e.sz+e.sz=u.length+(i*e.sz+e.sz):=by omega
     rw[k,j,List.take_length_add_append,<-Zx,List.drop_left]
     simp_all
end
def iq{α:Type} (e:ri α) (b:Nat->Prop) (h:Hp) (xs:List α) (v:V):Prop:=(v = .ef/\xs=[])\/∃l off ty live ro cs,v = .slice l off xs.length/\b l/\h.get l=some (.cells ty e.sz live ro cs)/\(xs=[]\/live=true)/\off<=cs.length/\qq e b h (cs.drop off) xs
section
variable{α:Type}{e:ri α}{b:Nat->Prop}{h h':Hp}{xs:List α}{v:V}
theorem iq.fm(a:∀l,b l->h'.get l=h.get l) (hs:iq e b h xs v):iq e b h' xs v:=by
 rcases hs with hs|⟨l,off,ty,live,ro,cs,c,d,j,f,g,i⟩
 ·exact .inl hs
 ·exact .inr ⟨l,off,ty,live,ro,cs,c,d,by simp_all,f,g,i.fm a⟩
theorem iq.mono{a:Nat->Prop} (c:∀l,b l->a l) (hs:iq e b h xs v):iq e a h xs v:=by
 rcases hs with hs|⟨l,off,ty,live,ro,cs,d,f,g,i,j,k⟩
 ·exact .inl hs
 ·exact .inr ⟨l,off,ty,live,ro,cs,d,c l f,g,i,j,k.mono c⟩
theorem iq.one(hs:iq e b h xs v):v.one=true:=by
 rcases hs with⟨rfl,_⟩|⟨l,off,ty,live,ro,cs,rfl,_⟩ <;> rfl
end
def eL{α:Type} (e:ri α):ri (List α) where
 sz:=1
 rel b h xs cs:=∃v,cs=[v]/\iq e b h xs v
 len:=by simp_all
 one:=λ⟨_,h,hs⟩=>by subst h;simp[hs.one]
 fm:=λa ⟨v,h,hs⟩=>⟨v,h,hs.fm a⟩
 mono:=λc ⟨v,h,hs⟩=>⟨v,h,hs.mono c⟩
section
variable{α:Type}{e:ri α}{b:Nat->Prop}{h h':Hp}{xs:List α}{v:V}
theorem iq.len(hs:iq e b h xs v):fH v=some (.int .i64 xs.length):=by
 rcases hs with⟨rfl,rfl⟩|⟨l,off,ty,live,ro,cs,rfl,_⟩ <;> rfl
theorem iq.nil:iq e b h [] .ef:= .inl ⟨rfl,rfl⟩
theorem iq.ix(hs:iq e b h xs v) {i:Nat} (hi:i<xs.length) (kd:IntKind) :
  ∃l o w,b l/\gJ e.sz v (.int kd i)=some (.ptr l o)/\fY e.sz (.ptr l o) h=some (.agg w)/\e.rel b h xs[i] w/\∀k u,w[k]? =some u->eQ (.ptr l (o+k)) h=some u:=by
 rcases hs with⟨_,rfl⟩|⟨l,off,ty,live,ro,cs,rfl,c,a,n,p,d⟩
 ·grind
 ·obtain rfl:live=true:=by grind
  obtain⟨w,f,g,j⟩:=d.get (i:=i) (x:=xs[i]) (by simp_all);rw[wBr]at g;have m:(cs.drop (off+i*e.sz)).take e.sz=w:=by rw[<-f,Zx]
  refine⟨l,off+i*e.sz,w,c,by grind[Ci],?_,j,λk u q=>?_⟩
  ·rw[FE a,FZ (by omega),m];rfl
  ·rw[T2 a,Uz]
   grind
theorem iq.TS(hs:iq e b h xs v) {i:Nat} (hi:i<xs.length) (kd:IntKind) (a:e.sz=1) :
  ∃l o u,b l/\gJ 1 v (.int kd i)=some (.ptr l o)/\eQ (.ptr l o) h=some u/\e.rel b h xs[i] [u]:=by
 obtain ⟨l,o,w,h0,c,_,d,g⟩:=hs.ix hi kd;rw[a]at c;have f:=e.len d;rw[a]at f;obtain⟨u,rfl⟩:∃u,w=[u]:=by
  match w,f with
  |[u],_=>simp_all
 exact⟨l,o,u,h0,c,g 0 u rfl,d⟩
theorem iq.Ts{a:Nat->Prop} {ty:Nat} {ro:Bool} {cs:List V} (d:qq e b h cs xs) (g:∀l,b l->l<h.next) (c:∀l,b l->a l) (f:a h.next):iq e a (h.new (.cells ty e.sz true ro cs)) xs (.slice h.next 0 xs.length):=
 .inr ⟨h.next,0,ty,true,ro,cs,rfl,f,fj _ _,.inr rfl,Na _,(d.fm (by grind[fo])).mono c⟩
theorem iq.new{ty:Nat} {ro:Bool} {cs:List V} {n:Nat} (c:qq e (lo n) h cs xs) (b:n<=h.next):iq e (lo (h.next+1)) (h.new (.cells ty e.sz true ro cs)) xs (.slice h.next 0 xs.length):=
 .Ts c (λ_ a=>Cb a b) (λ_ a=>wBz (Cb a b)) (Mm _)
end
section
variable (t:Nat)(k:IntKind)(a b:Int)
@[simp] theorem mZ:ev .add t (.int k a) (.int k b)=some (.int k (mb k (a+b))):=by cases k <;> rfl
@[simp] theorem pS:ev .sub t (.int k a) (.int k b)=some (.int k (mb k (a-b))):=by cases k <;> rfl
@[simp] theorem Rt:ev .mul t (.int k a) (.int k b)=some (.int k (mb k (a*b))):=by cases k <;> rfl
@[simp] theorem jO:ev .lss t (.int k a) (.int k b)=some (.bool (decide (a<b))):=by cases k <;> rfl
@[simp] theorem LR:ev .leq t (.int k a) (.int k b)=some (.bool (decide (a<=b))):=by cases k <;> rfl
@[simp] theorem nQ:ev .gtr t (.int k a) (.int k b)=some (.bool (decide (b<a))):=by cases k <;> rfl
@[simp] theorem nW:ev .geq t (.int k a) (.int k b)=some (.bool (decide (b<=a))):=by cases k <;> rfl
@[simp] theorem gI:ev .eql t (.int k a) (.int k b)=some (.bool (a == b)):=by cases k <;> rfl
@[simp] theorem nP:ev .neq t (.int k a) (.int k b)=some (.bool (a != b)):=by cases k <;> rfl
@[simp] theorem VX (x y:List UInt8):ev .eql t (.str x) (.str y)=some (.bool (x == y)):=rfl
@[simp] theorem zb9 (x y:List UInt8):ev .neq t (.str x) (.str y)=some (.bool (!(x == y))):=rfl
@[simp] theorem YK (x:Bool):pI .not (.bool x)=some (.bool !x):=rfl
@[simp] theorem Uf:pI .neg (.int k a)=some (.int k (mb k (0-a))):=rfl
theorem pK{k:IntKind} {n:Int} (h:tI k n):mb k n=n:=by
 rw[uf];cases k <;> simp only[tI]at h <;> simp only[IntKind.wrap,IntKind.signed,IntKind.bits,wB7,Bool.false_and,BP,PT,if_false,Nat.reduceSub,Int.reducePow,ge_iff_le] <;> (try split) <;> omega
@[simp] theorem Gv {n:Nat} (h:n<9223372036854775808):mb .i64 (n:Int)=n:=pK (by simp only[tI];omega)
@[simp] theorem Xd (g:Bool):Qt g (.int k a) [.int k b]=some (.int k (if g then max a b else min a b)):=by
 cases g
 ·show some (V.int k (if b<a then b else a))=_;simp only[PT,if_false];congr 2;omega
 ·show some (V.int k (if b>a then b else a))=_;simp only[if_true];congr 2;omega
end
theorem XA(n:Nat) (z:V):BO n [z]=List.replicate n z:=by
 induction n <;> grind[BO]
theorem Nq{e sz j7 n:Nat} {z:V} (a:n*j7<=281474976710656) (b:n<=1099511627776) :
  iu e sz j7 z (.int .i64 (n:Int)) (.int .i64 (n:Int))=some (O.cells e sz true false (BO n z.cells),λl=>V.slice l 0 n):=by
 show bB (Nat.ble n n) (bB (Nat.ble (n*j7) 281474976710656) (bB (Nat.ble n 1099511627776) (some (O.cells e sz true false (BO n z.cells),λl=>V.slice l 0 n))))=_
 simp_all[mC,Qu,jK]
theorem SA{cs:List V} {v:V}:∀{o:Nat},o<cs.length->pV o cs [v]=some (cs.set o v):=by
 induction cs with
 |nil=>simp_all
 | cons c cs a=>
   intro o h
   cases o with
   |zero=>rfl
   | succ o=>
     grind[pV,fi]
theorem UE:∀{ws cs:List V},ws.length<=cs.length->over ws cs=some (ws++cs.drop ws.length)
 |[],_,_=>rfl
 |w::ws,[],h=>by simp_all
 | w::ws,c::cs,h=>by
   have:=UE (ws:=ws) (cs:=cs) (by simp_all)
   grind[over,fi,KB]
theorem Cg:∀{o:Nat} {cs ws:List V},o+ws.length<=cs.length->pV o cs ws=some (cs.take o++ws++cs.drop (o+ws.length))
 |0,cs,ws,h=>by simp_all[pV,UE,wBv,No,zA]
 |o+1,[],ws,h=>by simp_all
 | o+1,c::cs,ws,h=>by
   have:=Cg (o:=o) (cs:=cs) (ws:=ws) (by grind)
   grind[pV,fi]
theorem Ot{v:V} (h:v.one=true):v.cells=[v]:=by
 cases v <;> first|rfl|cases h
section
variable{l o e sz:Nat}{cs:List V}{h:Hp}{v:V}
theorem LC(a:h.get l=some (.cells e sz true false cs)) (b:o<cs.length) (hv:v.one=true):gM 1 (.ptr l o) v h=some (.val .undef (h.put l (.cells e sz true false (cs.set o v)))):=by
 unfold gM ER kI;simp only[zU,Ot hv,KB,Zi,a,fi,tH,wBf,ey,hv,Te,Bool.and_self,SA b];rfl
theorem Gf{ws:List V} {n:Nat} (a:h.get l=some (.cells e sz true false cs)) (b:ws.length=n) (hc:cs.length=n) (hv:gG ws=true):gM n (.ptr l 0) (.agg ws) h=some (.val .undef (h.put l (.cells e sz true false ws))):=by
 unfold gM ER kI;have hs:pV 0 cs ws=some ws:=by
  rw[Cg (by omega),wBv,No,zA,List.drop_of_length_le (by omega),GP]
 grind[zU,V.cells,fi,tH,wBf,mC,Tn]
theorem lQ{u:V}{ro:Bool}(a:h.get l=some (.cells e sz true ro cs))(b:cs[o]? =some u):eQ (.ptr l o) h=some u:=by rw[T2 a,Uz,b]
theorem CJ{n:Nat} {ro:Bool} (a:h.get l=some (.cells e sz true ro cs)) (b:cs.length=n):fY n (.ptr l 0) h=some (.agg cs):=by
 rw[FE a,FZ (by omega),Yr,Yq (by omega)];rfl
end
section
variable{α:Type}{e:ri α}{b:Nat->Prop}{h:Hp}
theorem qq.drop:∀{xs:List α} {cs:List V} (n:Nat),qq e b h cs xs->n<=xs.length->qq e b h (cs.drop (n*e.sz)) (xs.drop n)
 |xs,cs,0,hw,_=>by simp_all
 |[],cs,n+1,_,hn=>by simp_all
 | x::xs,cs,n+1,⟨w,r,a,c,d⟩,hn=>by
   have:=qq.drop n d (by simpa using hn);have f:=e.len c;subst a;rw[List.drop_succ_cons,Vx,Nat.one_mul,Nat.add_comm,<-Zx,<-f,List.drop_left]
   simp_all
theorem qq.taken:∀{xs:List α} {cs:List V} (n:Nat),qq e b h cs xs->qq e b h cs (xs.take n)
 |xs,cs,0,_=>by simp only[wBv];trivial
 |[],cs,n+1,_=>by simp_all
 |x::xs,cs,n+1,⟨w,r,a,c,d⟩=>⟨w,r,a,c,qq.taken n d⟩
theorem GG(z:Nat) (k:IntKind) (n:Nat):hbound z (some (.int k n))=some n:=by
 rfl
theorem FU(z:Nat):hbound z none=some z:=rfl
theorem iq.cut{xs:List α} {v:V} (hs:iq e b h xs v) {lo hi:Option V} {m n:Nat} (i:hbound 0 lo=some m) (j:hbound xs.length hi=some n) (k:m<=n) (a:n<=xs.length) :
  ∃d,jy e.sz v lo hi h=some d/\iq e b h ((xs.take n).drop m) d:=by
 rcases hs with⟨rfl,rfl⟩|⟨l,off,ty,live,ro,cs,rfl,o,p,r,s,f⟩
 ·simp at a;subst a;obtain rfl:m=0:=by omega
  refine⟨.ef,?_,.inl ⟨rfl,by simp⟩⟩
  simp_all[jy,fi,hbound]
 ·have q:=f.length;have g:m*e.sz<=n*e.sz:=wBw _ k;have c:n*e.sz<=xs.length*e.sz:=wBw _ a;rw[wBr]at q;refine⟨.slice l (off+m*e.sz) (n-m),?_,?_⟩
  ·grind[jy,kI,fi,mC,Tn,Qu]
  ·have hlen:((xs.take n).drop m).length=n-m:=by rw[wBr,Ip];omega
   refine .inr ⟨l,off+m*e.sz,ty,live,ro,cs,by rw[hlen],o,p,?_,by omega,?_⟩
   ·grind
   ·rw[<-Zx];exact(f.taken n).drop m (by simp_all)
end
section
variable{e sz a n:Nat}{h h':Hp}{cs:List V}{v:V}
theorem oG{e sz k:Nat} {h:Hp} {cs:List V} {ro:Bool} (a:cs.length=(k+1)*sz):lU (h.new (.cells e sz true ro cs)) sz (.slice h.next 0 (k+1))=some (k+1,cs):=by
 unfold lU GN kI;have:sub cs 0 (Nat.mul (Nat.succ k) sz)=some cs:=by
  show sub cs 0 ((k+1)*sz)=some cs;rw[FZ (by omega),Yr,Yq (by omega)]
 grind[fj,fi,tH]
end
