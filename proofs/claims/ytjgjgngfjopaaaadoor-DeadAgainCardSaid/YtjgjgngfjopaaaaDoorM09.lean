/- Parts. -/
import Derived.Test.YtjgjgngfjopaaaaDoorM08
import Derived.KernelRfl
namespace Go.Proofs.YtjgjgngfjopaaaaDoor.Hx
def _root_.Go.Code.l:Code->Code
 | .seq a _=>a
 | .cond _ a _=>a
 | .block _ c=>c
 | .loop c=>c
 |_=> .skip
def _root_.Go.Code.r:Code->Code
 | .seq _ b=>b
 | .cond _ _ b=>b
 |_=> .skip
def HT(fn:Func):Code:=match fn.body with
 |some c=>c
 |none=> .skip
noncomputable section
def ez(a:V)(h:Hp):Option V:=yY a λl off=>ld1 h l off
def gg(n:Nat)(a:V)(h:Hp):Option V:=yY a λl off=>oB (Gx h l off n) λcs=>some (.agg cs)
def fH(k:Nat)(x:V):Option V:=yY x λl off=>some (.ptr l (Nat.add off k))
def gD(n:Nat) (x i:V):Option V:=asNat i λi=>match x with
 | .slice l off len=>bB (Nat.blt i len) (some (.ptr l (Nat.add off (Nat.mul i n))))
 |_=>none
def zaK(len n:Nat)(x i:V):Option V:=asNat i λi=>yY x λl off=>bB (Nat.blt i len) (some (.ptr l (Nat.add off (Nat.mul i n))))
def zdt(k:Nat) (x:V):Option V:=match x with
 | .agg cs=>HW cs k
 |_=>none
def iO(c a b:V):Option V:=match c with
 | .bool x=>Bool.rec (motive:=λ_=>Option V) (some b) (some a) x
 |_=>none
def ij(x:V):Option V:=match x with
 | .ptr l off=>some (.ptr l off)
 | .func f a c=>some (.func f a c)
 | .iface u v=>some (.iface u v)
 |_=>none
def tn(k:IntKind) (x:V):Option V:=match x with
 | .int _ n=>some (.int k (lM k n))
 |_=>none
def fV(z:List V)(a:List (Nat×Nat))(ps:List (Nat×V)):Option V:=oB (B6 (λi=>a[i]?) z ps) λcs=>some (.agg cs)
def Hk(i:Nat) (x:V):Option V:=match x with
 | .tuple vs=>HW vs i
 |_=>none
def zbP(x:V):Option V:=match x with
 | .str s=>some (.int .i64 (.ofNat s.length))
 |_=>none
def fF(x:V):Option V:=match x with
 | .slice _ _ n=>some (.int .i64 (.ofNat n))
 | .ee=>some (.int .i64 (.ofNat 0))
 |_=>none
def Ty(a:Nat) (d:Option (List Field)) (z:V) (ok:Bool) (m k:V) (h:Hp):Option V:=bB (JG d k) (match m with
 | .lZ=>some (found z ok none)
 | .map l=>D2 h l λb _=>oB (vO a d k b 0) λr=>some (found z ok r)
 |_=>none)
def jt(a size len:Nat) (z:V) (ps:List (Nat×V)):Option (O×(Nat->V)):=oB (B6 (λi=>some (Nat.mul i size,size)) (zZ len z.cells) ps) λcs=>bB (gv cs) (some (.cells a size true false cs,λl=> .slice l 0 len))
def gK(n:Nat)(a v:V)(h:Hp):Option R:=yY a λl off=>bB (Nat.beq v.cells.length n) (oB (Fl h l off v.cells) λh=>some (.val .undef h))
end
noncomputable section
def fm(x:Option R)(K:V->Hp->Prop):Prop:=oP (oB x valOf) λy=>K y.1 y.2
def ic(C:fu)(x:Option R)(h:Hp)(K:V->Hp->Prop):Prop:=oP (oB x Hm) λy=>cP C y.1 y.2 h K
def XS(C:fu)(f:Nat)(l:List V)(h:Hp)(K:V->Hp->Prop):Prop:=oP (some (f,l)) λy=>cP C y.1 y.2 h K
def ik(x:Option (O×(Nat->V)))(h:Hp)(K:V->Hp->Prop):Prop:=oP x λr=>K (r.2 h.next) (h.new r.1)
def wU(x:Option (O×(Nat->V)))(h:Hp)(K:O->V->Hp->Prop):Prop:=oP x λr=>K r.1 (r.2 h.next) (h.new r.1)
def ghP(b:Bool)(h:Hp)(x:Option (V×Hp))(K:V->Hp->Prop):Prop:=oP (gH b h x) λy=>K y.1 y.2
def gT(b:Bool)(p:Prop):Prop:=Bool.rec (motive:=λ_=>Prop) True p b
def fx(w:Bool) (x:V):Option Bool:=match x with
 | .bool b=>some (Bool.rec (motive:=λ_=>Bool) (!w) w b)
 | .tuple []=>some false
 |_=>none
end
theorem Uo(f:Nat->V) (d:Nat) (v:V):fh f d v d=v:=by
 unfold fh;rw[QN]
theorem YF(f:Nat->V) {d i:Nat} (v:V) (h:i≠d):fh f d v i=f i:=by
 unfold fh
 cases hb:Nat.beq i d with
 |true=>exact absurd (vK hb) h
 |false=>rfl
@[simp] theorem fj {α β:Type} (a:α) (k:α->Option β):oB (some a) k=k a:=rfl
@[simp] theorem zbU {α β:Type} (k:α->Option β):oB (none:Option α) k=none:=rfl
@[simp] theorem sY {β:Type} (k:Option β):bB true k=k:=rfl
@[simp] theorem zbE {β:Type} (k:Option β):bB false k=none:=rfl
theorem kN{β:Type}{c:Bool}(k:Option β)(h:c=true):bB c k=k:=by subst h;rfl
@[simp] theorem zv {β:Type} (l o:Nat) (k:Nat->Nat->Option β):yY (.ptr l o) k=k l o:=rfl
@[simp] theorem zaA {β:Type} (kd:IntKind) (n:Nat) (k:Nat->Option β):asNat (.int kd (.ofNat n)) k=k n:=rfl
@[simp] theorem RJ {β:Type} (kd:IntKind) (n:Nat) (k:Nat->Option β):asNat (.int kd (n:Int)) k=k n:=rfl
@[simp] theorem zbH {β:Type} (kd:IntKind) (n:Nat) (k:Nat->Option β):asNat (.int kd (OfNat.ofNat n:Int)) k=k n:=rfl
@[simp] theorem za2 {β:Type} (kd:IntKind) (k:Nat->Option β):asNat (.int kd 0) k=k 0:=rfl
@[simp] theorem zbB {β:Type} (kd:IntKind) (k:Nat->Option β):asNat (.int kd 1) k=k 1:=rfl
@[simp] theorem eJ (k l o:Nat):fH k (.ptr l o)=some (.ptr l (o+k)):=rfl
@[simp] theorem fX (l o:Nat):ij (.ptr l o)=some (.ptr l o):=rfl
@[simp] theorem zbD (f:Nat) (a c:List V):ij (.func f a c)=some (.func f a c):=rfl
@[simp] theorem za8 (l o n:Nat):fF (.slice l o n)=some (.int .i64 n):=rfl
@[simp] theorem zcv:fF .ee=some (.int .i64 0):=rfl
@[simp] theorem zbC (s:List UInt8):zbP (.str s)=some (.int .i64 s.length):=rfl
@[simp] theorem DC (x:Bool) (a b:V):iO (.bool x) a b=some (if x=true then a else b):=by cases x <;> rfl
@[simp] theorem jk (k k':IntKind) (n:Int):tn k (.int k' n)=some (.int k (lM k n)):=rfl
@[simp] theorem CT (i:Nat) (vs:List V):Hk i (.tuple vs)=HW vs i:=rfl
@[simp] theorem zb0 (k:Nat) (cs:List V):zdt k (.agg cs)=HW cs k:=rfl
@[simp] theorem fE (o:O) (f:Nat->V) (h:Hp) (K:V->Hp->Prop):ik (some (o,f)) h K=K (f h.next) (h.new o):=rfl
@[simp] theorem hK (o:O) (f:Nat->V) (h:Hp) (K:O->V->Hp->Prop):wU (some (o,f)) h K=K o (f h.next) (h.new o):=rfl
@[simp] theorem ei (v:V) (h:Hp) (K:V->Hp->Prop):fm (some (.val v h)) K=K v h:=rfl
@[simp] theorem N0 (C:fu) (f:Nat) (l:List V) (h:Hp) (K:V->Hp->Prop):ic C (some (.call f l)) h K=cP C f l h K:=rfl
@[simp] theorem zdH (C:fu) (f:Nat) (l:List V) (h:Hp) (K:V->Hp->Prop):XS C f l h K=cP C f l h K:=rfl
@[simp] theorem LY (f:Nat) (a c l:List V):gh (.func f a c) l=some (.call f (a++(l++c))):=rfl
@[simp] theorem zca (w b:Bool):fx w (.bool b)=some (b == w):=by cases w <;> cases b <;> rfl
@[simp] theorem zdq (x:Option V):gV true x=x:=rfl
@[simp] theorem zcD (x:Option V):gV false x=some .undef:=rfl
@[simp] theorem zdo (x:Option (Nat×List V)):gC true x=oB x λy=>some (some y):=rfl
@[simp] theorem zcw (x:Option (Nat×List V)):gC false x=some none:=rfl
@[simp] theorem zdr (p:Prop):gT true p=p:=rfl
@[simp] theorem zbM (p:Prop):gT false p=True:=rfl
@[simp] theorem zcR (C:fu) (y:Nat×List V) (h:Hp) (K:V->Hp->Prop):qB C (some y) h K=cP C y.1 y.2 h K:=rfl
@[simp] theorem zdd (C:fu) (h:Hp) (K:V->Hp->Prop):qB C none h K=K .undef h:=rfl
theorem BT(n l o len i:Nat) (kd:IntKind) (h:i<len):gD n (.slice l o len) (.int kd i)=some (.ptr l (o+i*n)):=by
 show bB (Nat.blt i len) _=_;rw[kN _ (by rw[Ns];exact h)];rfl
theorem T8{l o e sz:Nat} {ro:Bool} {cs:List V} {h:Hp} (a:h.get l=some (.cells e sz true ro cs)):ez (.ptr l o) h=HW cs o:=by
 unfold ez ld1 ke;simp only[zv,a,fj,sY]
theorem ET{n l o e sz:Nat} {ro:Bool} {cs:List V} {h:Hp} (a:h.get l=some (.cells e sz true ro cs)):gg n (.ptr l o) h=oB (sub cs o n) λcs=>some (.agg cs):=by
 unfold gg Gx ke;simp only[zv,a,fj,sY]
@[simp] theorem zdm (v:V) (l:List V):HW (v::l) 0=some v:=rfl
@[simp] theorem zbK (v:V) (l:List V) (n:Nat):HW (v::l) (n+1)=HW l n:=rfl
theorem Uh(l:List V)(n:Nat):HW l n=l[n]?:=by unfold HW;rw[List.head?_drop]
@[simp] theorem zbi (l:List V):takeN 0 l=some []:=by cases l <;> rfl
@[simp] theorem zaH (n:Nat) (v:V) (l:List V):takeN (n+1) (v::l)=oB (takeN n l) λr=>some (v::r):=rfl
theorem QS:∀(n:Nat) (l:List V),n<=l.length->takeN n l=some (l.take n)
 |0,l,_=>by cases l <;> rfl
 |n+1,[],h=>by simp at h
 |n+1,v::l,h=>by simp only[takeN,QS n l (by simpa using h),fj,List.take_succ_cons]
theorem Fz{l:List V} {o n:Nat} (h:o+n<=l.length):sub l o n=some ((l.drop o).take n):=by
 unfold sub;exact QS _ _ (by simp;omega)
@[simp] theorem gU {α:Type} (a:α) (k:α->Prop):oP (some a) k=k a:=rfl
@[simp] theorem xV (x:Bool) (a b:Prop):bP (.bool x) a b=if x=true then a else b:=ie x a b
@[simp] theorem zbF (v:V) (h:Hp):valOf (.val v h)=some (v,h):=rfl
@[simp] theorem ZY (f:Nat) (l:List V):Hm (.call f l)=some (f,l):=rfl
section
variable{C:fu}{n:Nat}{Q:X->gB->Hp->Prop}{ρ:gB}{h:Hp}
theorem Wp.of{c:Code}{P:Prop}(e:jc C n c Q ρ h=P)(hp:P):Wp C n c Q ρ h:=Wp.code c (e.mpr hp)
theorem rE{α:Type}{a:α}{k:α->Prop}(h:k a):oP (some a) k:=h
theorem oM{α:Type} {x:Option α} {k k':α->Prop} (h:oP x k) (f:∀a,x=some a->k a->k' a):oP x k':=by
 obtain⟨a,b,c⟩:=j6.1 h;exact ed b (f a b c)
theorem bM{v:V} {a b c d:Prop} (h:bP v a b) (f:a->c) (g:b->d):bP v c d:=by
 unfold bP at h⊢;split at h
 ·rename_i x
  cases x with
  |true=>exact f h
  |false=>exact g h
 ·exact h.elim
theorem YS{f:Nat} {l:List V} {k k':V->Hp->Prop} (h':cP C f l h k) (F:∀v h',k v h'->k' v h'):XS C f l h k':=by
 show cP C f l h k';exact h'.mono F
theorem Tf{x:Option (Nat×List V)} {k k':V->Hp->Prop} (h':qB C x h k) (F:∀v h',k v h'->k' v h'):qB C x h k':=by
 cases x with
 |none=>exact F _ _ h'
 |some y=>exact cP.mono h' F
theorem alM{x:Option (O×(Nat->V))} {k k':V->Hp->Prop} (h':ik x h k) (F:∀v h',k v h'->k' v h'):ik x h k':=
 oM h' λ_ _ H=>F _ _ H
theorem Wc{x:Option R} {k k':V->Hp->Prop} (h':fm x k) (F:∀v h',k v h'->k' v h'):fm x k':=
 oM h' λ_ _ H=>F _ _ H
end
theorem Nh{a b c:Prop}(h:c/\a)(f:a->b):c/\b:=⟨h.1,f h.2⟩
@[simp] theorem O.gO (e sz:Nat) (a r:Bool) (cs:List V):O.beq (.cells e sz a r cs) (.cells e sz a r cs)=true:=by
 simp[O.beq,V.zx]
@[simp] theorem O.zdp (c:Nat):O.beq (.map [] c) (.map [] c)=true:=by simp[O.beq]
def oD(c:V) (X:Option V):Option V:=match c with
 | .bool true=>some (.bool true)
 | .bool false=>X
 |_=>none
def jZ(c:V) (X:Option V):Option V:=match c with
 | .bool false=>some (.bool false)
 | .bool true=>X
 |_=>none
@[simp] theorem zcE (X:Option V):oD (.bool true) X=some (.bool true):=rfl
@[simp] theorem mn (X:Option V):oD (.bool false) X=X:=rfl
@[simp] theorem mq (X:Option V):jZ (.bool true) X=X:=rfl
@[simp] theorem Dd (X:Option V):jZ (.bool false) X=some (.bool false):=rfl
@[simp] theorem xQ (c d:Bool):oD (.bool c) (some (.bool d))=some (.bool (c ||d)):=by cases c <;> rfl
@[simp] theorem jU (c d:Bool):jZ (.bool c) (some (.bool d))=some (.bool (c&&d)):=by cases c <;> rfl
theorem X3{A B:Prop}(a:A)(f:A->B):B:=f a
section
variable{c c' Xc:V}{X X':Option V}{K:V->Prop}{f:V->Option V}{w b0:Bool}
theorem IQ(H:oP (oD c X) K):oP (fx false c) λb=>oP (gV b X) λv=>oP (iO c (.bool true) v) K:=by
 unfold oD at H;split at H
 ·exact H
 ·exact H
 ·exact H.elim
theorem FE(H:oP (jZ c X) K):oP (fx true c) λb=>oP (gV b X) λv=>oP (iO c v (.bool false)) K:=by
 unfold jZ at H;split at H
 ·exact H
 ·exact H
 ·exact H.elim
theorem sG1{R:Bool->V->Prop} (H:oP (fx w c) λb=>oP (gV b (oB X f)) K) (F:∀b,fx w c=some b->∀v,gV b X=some v->(oP (fx w c) λb=>oP (gV b (f v)) K)->R b v):oP (fx w c) λb=>oP (gV b X) λv=>R b v:=by
 obtain⟨b,a,d⟩:=j6.1 H;refine ed a ?_
 cases b with
 | true=>
   obtain⟨v,g,h⟩:=j6.1 d;obtain⟨x,e,i⟩:=ft.1 (show oB X f=some v from g)
   exact ed (show gV true X=some x from e) (F true a x e (ed a (ed (show gV true (f x)=some v from i) h)))
 |false=>exact F false a .undef rfl (ed a d)
theorem gz{b:Bool} {v:V} (E:gV b X=some v):gT b (X=some v):=by
 cases b with
 |true=>exact E
 |false=>trivial
end
structure lV (S:Nat->Prop) (h h':Hp):Prop where
 next:h.next<=h'.next
 fk:∀l,l<h.next->¬S l->h'.get l=h.get l
abbrev GP(h h':Hp):Prop:=lV (λ_=>False) h h'
theorem lV.refl(S:Nat->Prop)(h:Hp):lV S h h:=⟨jj _,λ_ _ _=>rfl⟩
theorem lV.trans'{S S':Nat->Prop} {h h' c:Hp} (a:lV S h h') (b:lV S' h' c) (hs:∀l,l<h.next->S' l->S l):lV S h c:=
 ⟨Gt a.next b.next,λl d e=>by rw[b.fk l (BL d a.next) (λh=>e (hs l d h)),a.fk l d e]⟩
theorem lV.trans{S:Nat->Prop}{h h' c:Hp}(a:lV S h h')(b:lV S h' c):lV S h c:=a.trans' b λ_ _ h=>h
theorem lV.U2{S S':Nat->Prop} {h h':Hp} (a:lV S h h') (hs:∀l,l<h.next->S l->S' l):lV S' h h':=
 ⟨a.next,λl b c=>a.fk l b λh=>c (hs l b h)⟩
theorem lV.new{S:Nat->Prop} (h:Hp) (o:O):lV S h (h.new o):=
 ⟨Nk _,λl a _=>by rw[vM,if_neg (by omega)]⟩
theorem lV.put{S:Nat->Prop} {h:Hp} {l:Nat} (o:O) (hs:S l) (a:l<h.next):lV S h (h.put l o):=
 ⟨jj _,λm _ b=>by rw[pK _ _ a,if_neg (λe=>b (by rw[<-e];exact hs))]⟩
theorem fi(h:Hp)(o:O):(h.new o).get h.next=some o:=by rw[vM,if_pos rfl]
theorem fo{h:Hp}(o:O){l:Nat}(a:l<h.next):(h.new o).get l=h.get l:=by rw[vM,if_neg (by omega)]
theorem gq{h:Hp}{l:Nat}(o:O)(a:l<h.next):(h.put l o).get l=some o:=by rw[pK _ _ a,if_pos rfl]
theorem gI{h:Hp}{l m:Nat}(o:O)(a:l<h.next)(b:l≠m):(h.put l o).get m=h.get m:=by rw[pK _ _ a,if_neg b]
@[simp] theorem zbR (h:Hp) (o:O):(h.new o).next=h.next+1:=rfl
@[simp] theorem zcA (h:Hp) (l:Nat) (o:O):(h.put l o).next=h.next:=rfl
structure qA (α:Type) where
 sz:Nat
 rel:(Nat->Prop)->Hp->α->List V->Prop
 len:∀{b h x cs},rel b h x cs->cs.length=sz
 one:∀{b h x cs},rel b h x cs->gv cs=true
 fk:∀{b h h' x cs},(∀l,b l->h'.get l=h.get l)->rel b h x cs->rel b h' x cs
 mono:∀{b b' h x cs},(∀l,b l->b' l)->rel b h x cs->rel b' h x cs
def lo(b:Nat):Nat->Prop:=λl=>l<b
theorem Bc{b a:Nat}(h:b<=a):∀l,lo b l->lo a l:=λ_ c=>BL c h
theorem ng:∀(a b:List V),gv (a++b)=(gv a&&gv b)
 |[],b=>by simp[gv]
 | v::a,b=>by
   simp only[wB1,gv,ng a b];cases v.one <;> simp
@[simp] theorem RP:gv []=true:=rfl
@[simp] theorem eQ (v:V) (l:List V):gv (v::l)=(v.one&&gv l):=by
 simp only[gv];cases v.one <;> rfl
def tH:IntKind->Int->Prop
 | .i8,n=>-128<=n/\n<=127
 | .i16,n=>-32768<=n/\n<=32767
 | .i32,n=>-2147483648<=n/\n<=2147483647
 | .i64,n=>-9223372036854775808<=n/\n<=9223372036854775807
 | .u8,n=>0<=n/\n<=255
 | .u16,n=>0<=n/\n<=65535
 | .u32,n=>0<=n/\n<=4294967295
 | .u64,n=>0<=n/\n<=18446744073709551615
def eI(k:IntKind):qA Int where
 sz:=1
 rel _ _ n cs:=cs=[.int k n]/\tH k n
 len h:=by rw[h.1];rfl
 one h:=by rw[h.1];rfl
 fk _ h:=h
 mono _ h:=h
def eB:qA Bool where
 sz:=1
 rel _ _ n cs:=cs=[.bool n]
 len h:=by subst h;rfl
 one h:=by subst h;rfl
 fk _ h:=h
 mono _ h:=h
def eS:qA (List UInt8) where
 sz:=1
 rel _ _ n cs:=cs=[.str n]
 len h:=by subst h;rfl
 one h:=by subst h;rfl
 fk _ h:=h
 mono _ h:=h
def eP{α β:Type} (e:qA α) (f:qA β):qA (α×β) where
 sz:=e.sz+f.sz
 rel b h x cs:=∃p q,cs=p++q/\e.rel b h x.1 p/\f.rel b h x.2 q
 len:=λ⟨_,_,h,a,c⟩=>by subst h;simp[e.len a,f.len c]
 one:=λ⟨_,_,h,a,c⟩=>by subst h;simp[ng,e.one a,f.one c]
 fk:=λd ⟨p,q,h,a,c⟩=>⟨p,q,h,e.fk d a,f.fk d c⟩
 mono:=λg ⟨p,q,h,a,c⟩=>⟨p,q,h,e.mono g a,f.mono g c⟩
def eM{α β:Type} (g:β->α) (e:qA α):qA β where
 sz:=e.sz
 rel b h x cs:=e.rel b h (g x) cs
 len h:=e.len h
 one h:=e.one h
 fk hk h:=e.fk hk h
 mono hb h:=e.mono hb h
def pR{α:Type} (e:qA α) (b:Nat->Prop) (h:Hp):List V->List α->Prop
 |_,[]=>True
 |cs,x::xs=>∃w r,cs=w++r/\e.rel b h x w/\pR e b h r xs
section
variable{α:Type}{e:qA α}{b:Nat->Prop}{h h':Hp}
theorem pR.fk(a:∀l,b l->h'.get l=h.get l):∀{xs:List α} {cs:List V},pR e b h cs xs->pR e b h' cs xs
 |[],_,_=>trivial
 |_::_,_,⟨w,r,c,d,f⟩=>⟨w,r,c,e.fk a d,pR.fk a f⟩
theorem pR.mono{a:Nat->Prop} (c:∀l,b l->a l):∀{xs:List α} {cs:List V},pR e b h cs xs->pR e a h cs xs
 |[],_,_=>trivial
 |_::_,_,⟨w,r,d,f,g⟩=>⟨w,r,d,e.mono c f,pR.mono c g⟩
theorem pR.length:∀{xs:List α} {cs:List V},pR e b h cs xs->xs.length*e.sz<=cs.length
 |[],_,_=>by simp
 | _::xs,_,⟨w,r,a,c,d⟩=>by
   have:=pR.length d;have f:=e.len c;subst a;simp only[y6,Dz,Nl,Zg];omega
theorem pR.get:∀{xs:List α} {cs:List V},pR e b h cs xs->∀{i:Nat} {x:α},xs[i]? =some x->∃w,(cs.drop (i*e.sz)).take e.sz=w/\i*e.sz+e.sz<=cs.length/\e.rel b h x w
 |[],_,_,i,x,hx=>by simp at hx
 | y ::xs,_,⟨w,r,d,a,f⟩,i,x,hx=>by
   have c:=e.len a;subst d
   cases i with
   | zero=>
     simp at hx;subst hx
     exact⟨w,by simp[<-c],by simp only[y6];omega,a⟩
   | succ i=>
     obtain⟨w',g,j,g3⟩:=pR.get f (i:=i) (x:=x) (by simpa using hx);refine⟨w',?_,?_,g3⟩
     ·rw[<-g,Nl,Zg,Nat.add_comm,<-c,<-ZQ];simp
     ·simp only[y6,Nl,Zg];omega
theorem pR.append{ys:List α}:∀{xs:List α} {cs ds:List V},pR e b h cs xs->cs.length=xs.length*e.sz->pR e b h ds ys->pR e b h (cs++ds) (xs++ys)
 | [],cs,ds,_,hl,a=>by
   have:cs=[]:=by cases cs <;> simp_all
   subst this;exact a
 | x::xs,_,ds,⟨w,r,c,a,d⟩,hl,f=>by
   subst c;have g:=e.len a;refine⟨w,r++ds,by simp,a,pR.append d ?_ f⟩;simp only[y6,Dz,Nl,Zg]at hl;omega
theorem pR.take:∀{xs:List α} {cs:List V},pR e b h cs xs->pR e b h (cs.take (xs.length*e.sz)) xs
 |[],_,_=>trivial
 | _::xs,_,⟨w,r,c,a,d⟩=>by
   have f:=e.len a;subst c;refine⟨w,r.take (xs.length*e.sz),?_,a,pR.take d⟩;rw[List.take_append,X0 (by simp only[Dz,Nl,Zg];omega)];congr 2;simp only[Dz,Nl,Zg];omega
theorem pR.more{ds:List V}:∀{xs:List α} {cs:List V},pR e b h cs xs->pR e b h (cs++ds) xs
 |[],_,_=>trivial
 |_::_,_,⟨w,r,a,c,d⟩=>⟨w,r++ds,by rw[a,Ek],c,pR.more d⟩
theorem pR.set:∀{xs:List α} {cs:List V},pR e b h cs xs->∀{i:Nat} {y:α} {w:List V},i<xs.length->e.rel b h y w->pR e b h (cs.take (i*e.sz)++w++cs.drop (i*e.sz+e.sz)) (xs.set i y)
 |[],_,_,i,y,w,hi,_=>by simp at hi
 | x ::xs,_,⟨u,r,f,a,c⟩,i,y,w,hi,hw=>by
   have d:=e.len a;have g:=e.len hw;subst f
   cases i with
   | zero=>
     refine⟨w,r,?_,hw,c⟩
     simp[<-d]
   | succ i=>
     refine⟨u,_,?_,a,pR.set c (i:=i) (y:=y) (w:=w) (by simpa using hi) hw⟩;have j:(i+1)*e.sz=u.length+i*e.sz:=by rw[Nl,Zg,d];omega
     have k:(i+1)*e.sz+e.sz=u.length+(i*e.sz+e.sz):=by omega
     rw[k,j,List.take_length_add_append,<-ZQ,List.drop_left];simp only[Ek]
end
def iC{α:Type} (e:qA α) (b:Nat->Prop) (h:Hp) (xs:List α) (v:V):Prop:=(v = .ee/\xs=[])\/∃l off ty live ro cs,v = .slice l off xs.length/\b l/\h.get l=some (.cells ty e.sz live ro cs)/\(xs=[]\/live=true)/\off<=cs.length/\pR e b h (cs.drop off) xs
section
variable{α:Type}{e:qA α}{b:Nat->Prop}{h h':Hp}{xs:List α}{v:V}
theorem iC.fk(a:∀l,b l->h'.get l=h.get l) (hs:iC e b h xs v):iC e b h' xs v:=by
 rcases hs with hs|⟨l,off,ty,live,ro,cs,d,c,f,g,i,j⟩
 ·exact .inl hs
 ·exact .inr ⟨l,off,ty,live,ro,cs,d,c,by rw[a l c];exact f,g,i,j.fk a⟩
theorem iC.mono{a:Nat->Prop} (c:∀l,b l->a l) (hs:iC e b h xs v):iC e a h xs v:=by
 rcases hs with hs|⟨l,off,ty,live,ro,cs,d,f,g,i,j,k⟩
 ·exact .inl hs
 ·exact .inr ⟨l,off,ty,live,ro,cs,d,c l f,g,i,j,k.mono c⟩
theorem iC.one(hs:iC e b h xs v):v.one=true:=by
 rcases hs with⟨rfl,_⟩|⟨l,off,ty,live,ro,cs,rfl,_⟩ <;> rfl
end
def eL{α:Type} (e:qA α):qA (List α) where
 sz:=1
 rel b h xs cs:=∃v,cs=[v]/\iC e b h xs v
 len:=λ⟨_,h,_⟩=>by subst h;rfl
 one:=λ⟨_,h,hs⟩=>by subst h;simp[hs.one]
 fk:=λa ⟨v,h,hs⟩=>⟨v,h,hs.fk a⟩
 mono:=λc ⟨v,h,hs⟩=>⟨v,h,hs.mono c⟩
section
variable{α:Type}{e:qA α}{b:Nat->Prop}{h h':Hp}{xs:List α}{v:V}
theorem iC.len(hs:iC e b h xs v):fF v=some (.int .i64 xs.length):=by
 rcases hs with⟨rfl,rfl⟩|⟨l,off,ty,live,ro,cs,rfl,_⟩ <;> rfl
theorem iC.nil:iC e b h [] .ee:= .inl ⟨rfl,rfl⟩
theorem iC.ix(hs:iC e b h xs v) {i:Nat} (hi:i<xs.length) (kd:IntKind) :
  ∃l o w,b l/\gD e.sz v (.int kd i)=some (.ptr l o)/\gg e.sz (.ptr l o) h=some (.agg w)/\e.rel b h xs[i] w/\∀k u,w[k]? =some u->ez (.ptr l (o+k)) h=some u:=by
 rcases hs with⟨_,rfl⟩|⟨l,off,ty,live,ro,cs,rfl,f,c,g,q,j⟩
 ·simp at hi
 ·obtain rfl:live=true:=g.resolve_left (λe=>by subst e;simp at hi);obtain⟨w,m,n,g3⟩:=j.get (i:=i) (x:=xs[i]) (gP hi);rw[wB2]at n;have d:(cs.drop (off+i*e.sz)).take e.sz=w:=by rw[<-m,ZQ]
  refine⟨l,off+i*e.sz,w,f,BT _ _ _ _ _ _ hi,?_,g3,λk u a=>?_⟩
  ·rw[ET c,Fz (by omega),d];rfl
  ·rw[T8 c,Uh];have p:k<e.sz:=by rw[<-e.len g3];exact(iR.1 a).1
   rw[<-d,Y0 p,Vr]at a;exact a
theorem iC.Tz(hs:iC e b h xs v) {i:Nat} (hi:i<xs.length) (kd:IntKind) (a:e.sz=1) :
  ∃l o u,b l/\gD 1 v (.int kd i)=some (.ptr l o)/\ez (.ptr l o) h=some u/\e.rel b h xs[i] [u]:=by
 obtain ⟨l,o,w,h0,c,_,d,g⟩:=hs.ix hi kd;rw[a]at c;have f:=e.len d;rw[a]at f;obtain⟨u,rfl⟩:∃u,w=[u]:=by
  match w,f with
  |[u],_=>exact⟨u,rfl⟩
 exact⟨l,o,u,h0,c,g 0 u rfl,d⟩
theorem iC.Qs{a:Nat->Prop} {ty:Nat} {ro:Bool} {cs:List V} (d:pR e b h cs xs) (f:∀l,b l->l<h.next) (c:∀l,b l->a l) (g:a h.next):iC e a (h.new (.cells ty e.sz true ro cs)) xs (.slice h.next 0 xs.length):=
 .inr ⟨h.next,0,ty,true,ro,cs,rfl,g,fi _ _,.inr rfl,Kl _,(d.fk λl i=>fo _ (f l i)).mono c⟩
theorem iC.new{ty:Nat} {ro:Bool} {cs:List V} {n:Nat} (c:pR e (lo n) h cs xs) (b:n<=h.next):iC e (lo (h.next+1)) (h.new (.cells ty e.sz true ro cs)) xs (.slice h.next 0 xs.length):=
 .Qs c (λ_ a=>BL a b) (λ_ a=>wCB (BL a b)) (KX _)
end
section
variable (t:Nat)(k:IntKind)(a b:Int)
@[simp] theorem mC:eo .add t (.int k a) (.int k b)=some (.int k (lM k (a+b))):=by cases k <;> rfl
@[simp] theorem pj:eo .sub t (.int k a) (.int k b)=some (.int k (lM k (a-b))):=by cases k <;> rfl
@[simp] theorem Qj:eo .mul t (.int k a) (.int k b)=some (.int k (lM k (a*b))):=by cases k <;> rfl
@[simp] theorem jD:eo .lss t (.int k a) (.int k b)=some (.bool (decide (a<b))):=by cases k <;> rfl
@[simp] theorem MD:eo .leq t (.int k a) (.int k b)=some (.bool (decide (a<=b))):=by cases k <;> rfl
@[simp] theorem nf:eo .gtr t (.int k a) (.int k b)=some (.bool (decide (b<a))):=by cases k <;> rfl
@[simp] theorem mW:eo .geq t (.int k a) (.int k b)=some (.bool (decide (b<=a))):=by cases k <;> rfl
@[simp] theorem gQ:eo .eql t (.int k a) (.int k b)=some (.bool (a == b)):=by cases k <;> rfl
@[simp] theorem tu:eo .neq t (.int k a) (.int k b)=some (.bool (a != b)):=by cases k <;> rfl
@[simp] theorem U3 (x y:List UInt8):eo .eql t (.str x) (.str y)=some (.bool (x == y)):=rfl
@[simp] theorem zbI (x y:List UInt8):eo .neq t (.str x) (.str y)=some (.bool (!(x == y))):=rfl
@[simp] theorem Y5 (x:Bool):qz .not (.bool x)=some (.bool !x):=rfl
@[simp] theorem TY:qz .neg (.int k a)=some (.int k (lM k (0-a))):=rfl
theorem oV{k:IntKind} {n:Int} (h:tH k n):lM k n=n:=by
 rw[tw];cases k <;> simp only[tH]at h <;> simp only[IntKind.wrap,IntKind.signed,IntKind.bits,Z1,Bool.false_and,AW,MR,if_false,Nat.reduceSub,Int.reducePow,ge_iff_le] <;> (try split) <;> omega
@[simp] theorem F0 {n:Nat} (h:n<9223372036854775808):lM .i64 (n:Int)=n:=oV (by simp only[tH];omega)
@[simp] theorem VI (g:Bool):Pr g (.int k a) [.int k b]=some (.int k (if g then max a b else min a b)):=by
 cases g
 ·show some (V.int k (if b<a then b else a))=_;simp only[MR,if_false];congr 2;omega
 ·show some (V.int k (if b>a then b else a))=_;simp only[if_true];congr 2;omega
end
theorem VW(n:Nat) (z:V):zZ n [z]=List.replicate n z:=by
 induction n with
 |zero=>rfl
 |succ n a=>simp only[zZ,a];rfl
theorem M8{e sz jM n:Nat} {z:V} (a:n*jM<=281474976710656) (b:n<=1099511627776) :
  ig e sz jM z (.int .i64 (n:Int)) (.int .i64 (n:Int))=some (O.cells e sz true false (zZ n z.cells),λl=>V.slice l 0 n):=by
 show bB (Nat.ble n n) (bB (Nat.ble (n*jM) 281474976710656) (bB (Nat.ble n 1099511627776) (some (O.cells e sz true false (zZ n z.cells),λl=>V.slice l 0 n))))=_;rw[kN _ (NZ (jj _)),kN _ (NZ a),kN _ (NZ b)]
theorem RH{cs:List V} {v:V}:∀{o:Nat},o<cs.length->p7 o cs [v]=some (cs.set o v):=by
 induction cs with
 |nil=>intro o h;simp at h
 | cons c cs a=>
   intro o h
   cases o with
   |zero=>rfl
   | succ o=>
     have:=a (o:=o) (by simpa using h);simp only[p7,this,fj,lj]
theorem SQ:∀{ws cs:List V},ws.length<=cs.length->over ws cs=some (ws++cs.drop ws.length)
 |[],_,_=>rfl
 |w::ws,[],h=>by simp at h
 | w::ws,c::cs,h=>by
   have:=SQ (ws:=ws) (cs:=cs) (by simpa using h);simp only[over,this,fj,Dz,List.drop_succ_cons,wB1]
theorem Cc:∀{o:Nat} {cs ws:List V},o+ws.length<=cs.length->p7 o cs ws=some (cs.take o++ws++cs.drop (o+ws.length))
 |0,cs,ws,h=>by simp only[p7,SQ (by simpa using h),YZ,OO,yC]
 |o+1,[],ws,h=>by simp at h
 | o+1,c::cs,ws,h=>by
   have:=Cc (o:=o) (cs:=cs) (ws:=ws) (by simp at h;omega);simp only[p7,this,fj,List.take_succ_cons,wB1];rw[show o+1+ws.length=(o+ws.length)+1 by omega,List.drop_succ_cons]
theorem NG{v:V} (h:v.one=true):v.cells=[v]:=by
 cases v <;> first|rfl|cases h
section
variable{l o e sz:Nat}{cs:List V}{h:Hp}{v:V}
theorem L1(a:h.get l=some (.cells e sz true false cs)) (b:o<cs.length) (hv:v.one=true):gK 1 (.ptr l o) v h=some (.val .undef (h.put l (.cells e sz true false (cs.set o v)))):=by
 unfold gK Fl ke;simp only[zv,NG hv,Dz,XZ,a,fj,sY,ZL,eQ,hv,RP,Bool.and_self,RH b];rfl
theorem FQ{ws:List V} {n:Nat} (a:h.get l=some (.cells e sz true false cs)) (b:ws.length=n) (hc:cs.length=n) (hv:gv ws=true):gK n (.ptr l 0) (.agg ws) h=some (.val .undef (h.put l (.cells e sz true false ws))):=by
 unfold gK Fl ke;have hs:p7 0 cs ws=some ws:=by
  rw[Cc (by omega),YZ,OO,yC,List.drop_of_length_le (by omega),Eo]
 simp only[zv,V.cells,a,fj,sY,ZL,hv,hs];rw[kN _ (by rw[b];exact QN n)]
theorem kX{u:V}{ro:Bool}(a:h.get l=some (.cells e sz true ro cs))(b:cs[o]? =some u):ez (.ptr l o) h=some u:=by rw[T8 a,Uh,b]
theorem BY{n:Nat} {ro:Bool} (a:h.get l=some (.cells e sz true ro cs)) (b:cs.length=n):gg n (.ptr l 0) h=some (.agg cs):=by
 rw[ET a,Fz (by omega),Vt,X0 (by omega)];rfl
end
section
variable{α:Type}{e:qA α}{b:Nat->Prop}{h:Hp}
theorem pR.drop:∀{xs:List α} {cs:List V} (n:Nat),pR e b h cs xs->n<=xs.length->pR e b h (cs.drop (n*e.sz)) (xs.drop n)
 |xs,cs,0,hw,_=>by simpa using hw
 |[],cs,n+1,_,hn=>by simp at hn
 | x::xs,cs,n+1,⟨w,r,c,d,f⟩,hn=>by
   have:=pR.drop n f (by simpa using hn);have a:=e.len d;subst c;rw[List.drop_succ_cons,Nl,Zg,Nat.add_comm,<-ZQ,<-a,List.drop_left];rw[a];exact this
theorem pR.taken:∀{xs:List α} {cs:List V} (n:Nat),pR e b h cs xs->pR e b h cs (xs.take n)
 |xs,cs,0,_=>by simp only[YZ];trivial
 |[],cs,n+1,_=>by simp only[List.take_nil];trivial
 |x::xs,cs,n+1,⟨w,r,a,c,d⟩=>⟨w,r,a,c,pR.taken n d⟩
theorem Gn(z:Nat) (k:IntKind) (n:Nat):hbound z (some (.int k n))=some n:=by
 unfold hbound;simp only[RJ]
theorem Fa(z:Nat):hbound z none=some z:=rfl
theorem iC.cut{xs:List α} {v:V} (hs:iC e b h xs v) {lo hi:Option V} {m n:Nat} (a:hbound 0 lo=some m) (c:hbound xs.length hi=some n) (i:m<=n) (f:n<=xs.length) :
  ∃j,jh e.sz v lo hi h=some j/\iC e b h ((xs.take n).drop m) j:=by
 rcases hs with⟨rfl,rfl⟩|⟨l,off,ty,live,ro,cs,rfl,q,k,d,s,o⟩
 ·simp at f;subst f;obtain rfl:m=0:=by omega
  refine⟨.ee,?_,.inl ⟨rfl,by simp⟩⟩;unfold jh;simp only[a,fj];rw[show hbound 0 hi=some 0 from c];rfl
 ·have r:=o.length;have p:m*e.sz<=n*e.sz:=wB8 _ i;have g:n*e.sz<=xs.length*e.sz:=wB8 _ f;rw[wB2]at r;refine⟨.slice l (off+m*e.sz) (n-m),?_,?_⟩
  ·unfold jh ke;simp only[k,fj,a,c];rw[kN _ (QN _),kN _ (NZ i),kN _ (by rw[NZ f];rfl)];rfl
  ·have hlen:((xs.take n).drop m).length=n-m:=by rw[wB2,GX];omega
   refine .inr ⟨l,off+m*e.sz,ty,live,ro,cs,by rw[hlen],q,k,?_,by omega,?_⟩
   ·rcases d with d|d
    ·left;subst d;simp
    ·exact .inr d
   ·rw[<-ZQ];exact(o.taken n).drop m (by rw[GX];omega)
end
section
variable{e sz a n:Nat}{h h':Hp}{cs:List V}{v:V}
theorem nB{e sz k:Nat} {h:Hp} {cs:List V} {ro:Bool} (a:cs.length=(k+1)*sz):lC (h.new (.cells e sz true ro cs)) sz (.slice h.next 0 (k+1))=some (k+1,cs):=by
 unfold lC Gx ke;have:sub cs 0 (Nat.mul (Nat.succ k) sz)=some cs:=by
  show sub cs 0 ((k+1)*sz)=some cs;rw[Fz (show 0+(k+1)*sz<=cs.length by omega),Vt,X0 (show cs.length<=(k+1)*sz by omega)]
 simp only[fi,fj,sY,this]
end
@[match_pattern] abbrev _root_.Go.Proofs.YtjgjgngfjopaaaaDoor.Hx.V.I (n:Int):Go.Proofs.YtjgjgngfjopaaaaDoor.Hx.V:=.int .i64 n
