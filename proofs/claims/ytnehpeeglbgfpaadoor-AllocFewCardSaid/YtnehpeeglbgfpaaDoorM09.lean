/- Parts. -/
import Derived.Test.YtnehpeeglbgfpaaDoorM08
import Derived.KernelRfl
set_option maxHeartbeats 4000000
namespace Go.Proofs.YtnehpeeglbgfpaaDoor.Hx
def _root_.Go.Code.l:Code->Code
 | .seq a _=>a
 | .cond _ a _=>a
 | .block _ c=>c
 | .loop c=>c
 |_=> .skip
def _root_.Go.Code.r:Code->Code
 | .seq _ b=>b
 | .cond _ _ b=>b
 |_=> .skip
def G4(fn:Func):Code:=match fn.body with
 |some c=>c
 |none=> .skip
noncomputable section
def er(a:V)(h:Hp):Option V:=px a λl off=>UP h l off
def hH(n:Nat)(a:V)(h:Hp):Option V:=px a λl off=>oB (Bp h l off n) λcs=>some (.agg cs)
def fP(k:Nat)(x:V):Option V:=px x λl off=>some (.ptr l (Nat.add off k))
def gM(n:Nat) (x i:V):Option V:=asNat i λi=>match x with
 | .slice l off len=>bB (Nat.blt i len) (some (.ptr l (Nat.add off (Nat.mul i n))))
 |_=>none
def Xe(k:Nat) (x:V):Option V:=match x with
 | .agg cs=>Cf cs k
 |_=>none
def rJ(c a b:V):Option V:=match c with
 | .bool x=>Bool.rec (motive:=λ_=>Option V) (some b) (some a) x
 |_=>none
def hJ(x:V):Option V:=match x with
 | .ptr l off=>some (.ptr l off)
 | .func f a c=>some (.func f a c)
 | .iface u v=>some (.iface u v)
 |_=>none
def Vy(k:IntKind) (x:V):Option V:=match x with
 | .int _ n=>some (.int k (jw k n))
 |_=>none
def fH(z:List V)(a:List (Nat×Nat))(ps:List (Nat×V)):Option V:=oB (wH (λi=>a[i]?) z ps) λcs=>some (.agg cs)
def Qm(i:Nat) (x:V):Option V:=match x with
 | .tuple vs=>Cf vs i
 |_=>none
def Vi(x:V):Option V:=match x with
 | .str s=>some (.int .i64 (.ofNat s.length))
 |_=>none
def fJ(x:V):Option V:=match x with
 | .slice _ _ n=>some (.int .i64 (.ofNat n))
 | .ed=>some (.int .i64 (.ofNat 0))
 |_=>none
def He(kt:Nat) (d:Option (List Field)) (z:V) (ok:Bool) (m k:V) (h:Hp):Option V:=bB (BW d k) (match m with
 | .ka=>some (found z ok none)
 | .map l=>xG h l (λes _=>oB (mR kt d k es 0) λr=>some (found z ok r)) (Fp kt d z ok k)
 |_=>none)
def HS(t:Nat) (z x:V):Option V:=match x,false with
 | .iface t' v,true=>some (Bool.rec (motive:=λ_=>V) (.tuple [z,.bool false]) (.tuple [v,.bool true]) (Nat.beq t' t))
 | .iface t' v,false=>bB (Nat.beq t' t) (some v)
 | .nilIface,true=>some (.tuple [z,.bool false])
 |_,_=>none
def jm(a size len:Nat) (z:V) (ps:List (Nat×V)):Option (O×(Nat->V)):=oB (wH (λi=>some (Nat.mul i size,size)) (xr len z.cells) ps) λcs=>bB (fZ cs) (some (.cells a size true false cs,λl=> .slice l 0 len))
def gU(n:Nat)(a v:V)(h:Hp):Option R:=px a λl off=>bB (Nat.beq v.cells.length n) (oB (zY h l off v.cells) λh=>some (.val .undef h))
end
noncomputable section
def fj(x:Option R)(K:V->Hp->Prop):Prop:=oP (oB x valOf) λy=>K y.1 y.2
def gg(C:fe)(x:Option R)(h:Hp)(K:V->Hp->Prop):Prop:=oP (oB x xj) λy=>cP C y.1 y.2 h K
def W8(C:fe)(f:Nat)(l:List V)(h:Hp)(K:V->Hp->Prop):Prop:=oP (some (f,l)) λy=>cP C y.1 y.2 h K
def iW(x:Option (O×(Nat->V)))(h:Hp)(K:V->Hp->Prop):Prop:=oP x λr=>K (r.2 h.next) (h.new r.1)
def uY(x:Option (O×(Nat->V)))(h:Hp)(K:O->V->Hp->Prop):Prop:=oP x λr=>K r.1 (r.2 h.next) (h.new r.1)
def Xz(b:Bool)(h:Hp)(x:Option (V×Hp))(K:V->Hp->Prop):Prop:=oP (gH b h x) λy=>K y.1 y.2
def gT(b:Bool)(p:Prop):Prop:=Bool.rec (motive:=λ_=>Prop) True p b
def gB(w:Bool) (x:V):Option Bool:=match x with
 | .bool b=>some (Bool.rec (motive:=λ_=>Bool) (!w) w b)
 | .tuple []=>some false
 |_=>none
end
theorem Nx(f:Nat->V) (d:Nat) (v:V):fS f d v d=v:=by
 simp_all[fS,Oy]
theorem Rx(f:Nat->V) {d i:Nat} (v:V) (h:i≠d):fS f d v i=f i:=by
 unfold fS;cases hb:Nat.beq i d <;> simp_all
@[simp] theorem fg {α β:Type} (a:α) (k:α->Option β):oB (some a) k=k a:=rfl
@[simp] theorem VE {α β:Type} (k:α->Option β):oB (none:Option α) k=none:=rfl
@[simp] theorem tB {β:Type} (k:Option β):bB true k=k:=rfl
@[simp] theorem UL {β:Type} (k:Option β):bB false k=none:=rfl
theorem um{β:Type}{c:Bool}(k:Option β)(h:c=true):bB c k=k:=by simp_all
@[simp] theorem uU {β:Type} (l o:Nat) (k:Nat->Nat->Option β):px (.ptr l o) k=k l o:=rfl
@[simp] theorem SJ {β:Type} (a:IntKind) (n:Nat) (k:Nat->Option β):asNat (.int a (.ofNat n)) k=k n:=rfl
@[simp] theorem T0 {β:Type} (a:IntKind) (n:Nat) (k:Nat->Option β):asNat (.int a (n:Int)) k=k n:=rfl
@[simp] theorem UB {β:Type} (a:IntKind) (n:Nat) (k:Nat->Option β):asNat (.int a (OfNat.ofNat n:Int)) k=k n:=rfl
@[simp] theorem TW {β:Type} (a:IntKind) (k:Nat->Option β):asNat (.int a 0) k=k 0:=rfl
@[simp] theorem Ux {β:Type} (a:IntKind) (k:Nat->Option β):asNat (.int a 1) k=k 1:=rfl
@[simp] theorem fM (k l o:Nat):fP k (.ptr l o)=some (.ptr l (o+k)):=rfl
@[simp] theorem fc (l o:Nat):hJ (.ptr l o)=some (.ptr l o):=rfl
@[simp] theorem UI (f:Nat) (a c:List V):hJ (.func f a c)=some (.func f a c):=rfl
@[simp] theorem Uj (l o n:Nat):fJ (.slice l o n)=some (.int .i64 n):=rfl
@[simp] theorem U1:fJ .ed=some (.int .i64 0):=rfl
@[simp] theorem Uu (s:List UInt8):Vi (.str s)=some (.int .i64 s.length):=rfl
@[simp] theorem Mg (x:Bool) (a b:V):rJ (.bool x) a b=some (if x=true then a else b):=by cases x <;> rfl
@[simp] theorem UO (k k':IntKind) (n:Int):Vy k (.int k' n)=some (.int k (jw k n)):=rfl
@[simp] theorem TZ (i:Nat) (vs:List V):Qm i (.tuple vs)=Cf vs i:=rfl
@[simp] theorem Vj (k:Nat) (cs:List V):Xe k (.agg cs)=Cf cs k:=rfl
@[simp] theorem fF (o:O) (f:Nat->V) (h:Hp) (K:V->Hp->Prop):iW (some (o,f)) h K=K (f h.next) (h.new o):=rfl
@[simp] theorem hN (o:O) (f:Nat->V) (h:Hp) (K:O->V->Hp->Prop):uY (some (o,f)) h K=K o (f h.next) (h.new o):=rfl
@[simp] theorem eh (v:V) (h:Hp) (K:V->Hp->Prop):fj (some (.val v h)) K=K v h:=rfl
@[simp] theorem AQ (C:fe) (f:Nat) (l:List V) (h:Hp) (K:V->Hp->Prop):gg C (some (.call f l)) h K=cP C f l h K:=rfl
@[simp] theorem Xr (C:fe) (f:Nat) (l:List V) (h:Hp) (K:V->Hp->Prop):W8 C f l h K=cP C f l h K:=rfl
@[simp] theorem FT (f:Nat) (a c l:List V):fL (.func f a c) l=some (.call f (a++(l++c))):=rfl
@[simp] theorem VV (w b:Bool):gB w (.bool b)=some (b == w):=by cases w <;> cases b <;> rfl
@[simp] theorem WH (x:Option V):gV true x=x:=rfl
@[simp] theorem U5 (x:Option V):gV false x=some .undef:=rfl
@[simp] theorem Wv (x:Option (Nat×List V)):gC true x=oB x λy=>some (some y):=rfl
@[simp] theorem Vt (x:Option (Nat×List V)):gC false x=some none:=rfl
@[simp] theorem WD (p:Prop):gT true p=p:=rfl
@[simp] theorem V7 (p:Prop):gT false p=True:=rfl
@[simp] theorem Vr (C:fe) (y:Nat×List V) (h:Hp) (K:V->Hp->Prop):yv C (some y) h K=cP C y.1 y.2 h K:=rfl
@[simp] theorem VF (C:fe) (h:Hp) (K:V->Hp->Prop):yv C none h K=K .undef h:=rfl
theorem uV(n l o len i:Nat) (a:IntKind) (h:i<len):gM n (.slice l o len) (.int a i)=some (.ptr l (o+i*n)):=by
 show bB (Nat.blt i len) _=_
 grind[um,JK]
theorem MV{l o e sz:Nat} {ro:Bool} {cs:List V} {h:Hp} (a:h.get l=some (.cells e sz true ro cs)):er (.ptr l o) h=Cf cs o:=by
 simp_all[er,UP,jT,uU,fg,tB]
theorem Di{n l o e sz:Nat} {ro:Bool} {cs:List V} {h:Hp} (a:h.get l=some (.cells e sz true ro cs)):hH n (.ptr l o) h=oB (sub cs o n) λcs=>some (.agg cs):=by
 simp_all[hH,Bp,jT,uU,fg,tB]
@[simp] theorem Vp (v:V) (l:List V):Cf (v::l) 0=some v:=rfl
@[simp] theorem VQ (v:V) (l:List V) (n:Nat):Cf (v::l) (n+1)=Cf l n:=rfl
theorem MA(l:List V)(n:Nat):Cf l n=l[n]?:=by grind[Cf,List.head?_drop]
@[simp] theorem T4 (l:List V):takeN 0 l=some []:=by rfl
@[simp] theorem TX (n:Nat) (v:V) (l:List V):takeN (n+1) (v::l)=oB (takeN n l) λr=>some (v::r):=rfl
theorem K0:∀(n:Nat) (l:List V),n<=l.length->takeN n l=some (l.take n)
 |0,l,_=>by rfl
 |n+1,[],h=>by simp_all
 |n+1,v::l,h=>by simp only[takeN,K0 n l (by simp_all),fg,List.take_succ_cons]
theorem Cd{l:List V} {o n:Nat} (h:o+n<=l.length):sub l o n=some ((l.drop o).take n):=by
 grind[sub,K0]
@[simp] theorem gQ {α:Type} (a:α) (k:α->Prop):oP (some a) k=k a:=rfl
@[simp] theorem KA (x:Bool) (a b:Prop):bP (.bool x) a b=if x=true then a else b:=gy x a b
@[simp] theorem UH (v:V) (h:Hp):valOf (.val v h)=some (v,h):=rfl
@[simp] theorem S6 (f:Nat) (l:List V):xj (.call f l)=some (f,l):=rfl
section
variable{C:fe}{n:Nat}{Q:X->fK->Hp->Prop}{ρ:fK}{h:Hp}
theorem Wp.of{c:Code}{P:Prop}(e:qb C n c Q ρ h=P)(a:P):Wp C n c Q ρ h:=Wp.code c (e.mpr a)
theorem Fc{α:Type}{a:α}{k:α->Prop}(h:k a):oP (some a) k:=h
theorem oM{α:Type} {x:Option α} {k k':α->Prop} (h:oP x k) (f:∀a,x=some a->k a->k' a):oP x k':=by
 grind[jD,ec]
theorem bM{v:V} {a b c d:Prop} (h:bP v a b) (f:a->c) (g:b->d):bP v c d:=by
 unfold bP at h⊢;split at h
 ·rename_i x;cases x <;> grind
 omega
theorem Yc{f:Nat} {l:List V} {k k':V->Hp->Prop} (h':cP C f l h k) (F:∀v h',k v h'->k' v h'):W8 C f l h k':=by
 show cP C f l h k';exact h'.mono F
theorem Wh{x:Option (Nat×List V)} {k k':V->Hp->Prop} (h':yv C x h k) (F:∀v h',k v h'->k' v h'):yv C x h k':=by
 cases x with
 |none=>simp_all
 |some y=>exact cP.mono h' F
theorem Yg{x:Option (O×(Nat->V))} {k k':V->Hp->Prop} (h':iW x h k) (F:∀v h',k v h'->k' v h'):iW x h k':=
 oM h' (by simp_all)
theorem Xg{x:Option (O×(Nat->V))} {k k':O->V->Hp->Prop} (h':uY x h k) (F:∀o v h',k o v h'->k' o v h'):uY x h k':=
 oM h' (by simp_all)
theorem Tk{x:Option R} {k k':V->Hp->Prop} (h':fj x k) (F:∀v h',k v h'->k' v h'):fj x k':=
 oM h' (by simp_all)
end
theorem So{a b c:Prop}(h:c/\a)(f:a->b):c/\b:=by simp_all
@[simp] theorem O.ie (e sz:Nat) (a r:Bool) (cs:List V):O.beq (.cells e sz a r cs) (.cells e sz a r cs)=true:=by
 simp[O.beq,V.u0]
@[simp] theorem O.Wz (c:Nat):O.beq (.map [] c) (.map [] c)=true:=by simp[O.beq]
def qe(c:V) (X:Option V):Option V:=match c with
 | .bool true=>some (.bool true)
 | .bool false=>X
 |_=>none
def kH(c:V) (X:Option V):Option V:=match c with
 | .bool false=>some (.bool false)
 | .bool true=>X
 |_=>none
@[simp] theorem Vc (X:Option V):qe (.bool true) X=some (.bool true):=rfl
@[simp] theorem qd (X:Option V):qe (.bool false) X=X:=rfl
@[simp] theorem DM (X:Option V):kH (.bool true) X=X:=rfl
@[simp] theorem BR (X:Option V):kH (.bool false) X=some (.bool false):=rfl
@[simp] theorem ko (c d:Bool):qe (.bool c) (some (.bool d))=some (.bool (c ||d)):=by cases c <;> rfl
@[simp] theorem jR (c d:Bool):kH (.bool c) (some (.bool d))=some (.bool (c&&d)):=by cases c <;> rfl
theorem WB{A B:Prop}(a:A)(f:A->B):B:=f a
section
variable{c c' Xc:V}{X X':Option V}{K:V->Prop}{f:V->Option V}{w b0:Bool}
theorem MW(H:oP (qe c X) K):oP (gB false c) λb=>oP (gV b X) λv=>oP (rJ c (.bool true) v) K:=by
 unfold qe at H;split at H
 ·exact H
 ·exact H
 ·exact H.elim
theorem JO(H:oP (kH c X) K):oP (gB true c) λb=>oP (gV b X) λv=>oP (rJ c v (.bool false)) K:=by
 unfold kH at H;split at H
 ·exact H
 ·exact H
 ·exact H.elim
theorem XK{R:Bool->V->Prop} (H:oP (gB w c) λb=>oP (gV b (oB X f)) K) (F:∀b,gB w c=some b->∀v,gV b X=some v->(oP (gB w c) λb=>oP (gV b (f v)) K)->R b v):oP (gB w c) λb=>oP (gV b X) λv=>R b v:=by
 obtain⟨b,a,d⟩:=jD.1 H;refine ec a ?_
 cases b with
 | true=>
   grind[jD,ez,oB,ec,gV]
 |false=>simp_all
theorem sW{b:Bool} {v:V} (E:gV b X=some v):gT b (X=some v):=by
 cases b <;> simp_all
end
structure ki (S:Nat->Prop) (h h':Hp):Prop where
 next:h.next<=h'.next
 eC:∀l,l<h.next->¬S l->h'.get l=h.get l
abbrev BA(h h':Hp):Prop:=ki (λ_=>False) h h'
theorem ki.refl(S:Nat->Prop)(h:Hp):ki S h h:=⟨je _,by simp_all⟩
theorem ki.trans'{S d:Nat->Prop} {h h' c:Hp} (a:ki S h h') (b:ki d h' c) (g:∀l,l<h.next->d l->S l):ki S h c:=
 ⟨DE a.next b.next,λl e f=>by rw[b.eC l (yG e a.next) (by grind),a.eC l e f]⟩
theorem ki.trans{S:Nat->Prop}{h h' c:Hp}(a:ki S h h')(b:ki S h' c):ki S h c:=a.trans' b (by simp_all)
theorem ki.Q8{S b:Nat->Prop} {h h':Hp} (a:ki S h h') (d:∀l,l<h.next->S l->b l):ki b h h':=
 ⟨a.next,λl c e=>a.eC l c (by grind)⟩
theorem ki.new{S:Nat->Prop} (h:Hp) (o:O):ki S h (h.new o):=
 ⟨JM _,λl a _=>by rw[qQ,if_neg (by omega)]⟩
theorem ki.put{S:Nat->Prop} {h:Hp} {l:Nat} (o:O) (b:S l) (a:l<h.next):ki S h (h.put l o):=
 ⟨je _,λm _ c=>by rw[iP _ _ a,if_neg (by grind)]⟩
theorem ey(h:Hp)(o:O):(h.new o).get h.next=some o:=by rw[qQ,if_pos rfl]
theorem eJ{h:Hp}(o:O){l:Nat}(a:l<h.next):(h.new o).get l=h.get l:=by rw[qQ,if_neg (by omega)]
theorem fG{h:Hp}{l:Nat}(o:O)(a:l<h.next):(h.put l o).get l=some o:=by rw[iP _ _ a,if_pos rfl]
theorem fN{h:Hp}{l m:Nat}(o:O)(a:l<h.next)(b:l≠m):(h.put l o).get m=h.get m:=by simp_all[iP,if_neg]
@[simp] theorem VZ (h:Hp) (o:O):(h.new o).next=h.next+1:=rfl
@[simp] theorem V2 (h:Hp) (l:Nat) (o:O):(h.put l o).next=h.next:=rfl
structure sO (α:Type) where
 sz:Nat
 rel:(Nat->Prop)->Hp->α->List V->Prop
 len:∀{b h x cs},rel b h x cs->cs.length=sz
 one:∀{b h x cs},rel b h x cs->fZ cs=true
 eC:∀{b h h' x cs},(∀l,b l->h'.get l=h.get l)->rel b h x cs->rel b h' x cs
 mono:∀{b b' h x cs},(∀l,b l->b' l)->rel b h x cs->rel b' h x cs
def lo(b:Nat):Nat->Prop:=λl=>l<b
theorem M6{b a:Nat}(h:b<=a):∀l,lo b l->lo a l:=λ_ c=>yG c h
theorem mw:∀(a b:List V),fZ (a++b)=(fZ a&&fZ b)
 |[],b=>by rfl
 | v::a,b=>by
   simp only[List.cons_append,fZ,mw a b];cases v.one <;> simp
@[simp] theorem L5:fZ []=true:=rfl
@[simp] theorem eR (v:V) (l:List V):fZ (v::l)=(v.one&&fZ l):=by
 simp only[fZ];cases v.one <;> rfl
def Fe:IntKind->Int->Prop
 | .i8,n=>-128<=n/\n<=127
 | .i16,n=>-32768<=n/\n<=32767
 | .i32,n=>-2147483648<=n/\n<=2147483647
 | .i64,n=>-9223372036854775808<=n/\n<=9223372036854775807
 | .u8,n=>0<=n/\n<=255
 | .u16,n=>0<=n/\n<=65535
 | .u32,n=>0<=n/\n<=4294967295
 | .u64,n=>0<=n/\n<=18446744073709551615
def eI(k:IntKind):sO Int where
 sz:=1
 rel _ _ n cs:=cs=[.int k n]/\Fe k n
 len h:=by simp_all
 one h:=by rw[h.1];rfl
 eC _ h:=h
 mono _ h:=h
def eB:sO Bool where
 sz:=1
 rel _ _ n cs:=cs=[.bool n]
 len h:=by simp_all
 one h:=by subst h;rfl
 eC _ h:=h
 mono _ h:=h
def eS:sO (List UInt8) where
 sz:=1
 rel _ _ n cs:=cs=[.str n]
 len h:=by simp_all
 one h:=by subst h;rfl
 eC _ h:=h
 mono _ h:=h
def eP{α β:Type} (e:sO α) (f:sO β):sO (α×β) where
 sz:=e.sz+f.sz
 rel b h x cs:=∃p q,cs=p++q/\e.rel b h x.1 p/\f.rel b h x.2 q
 len:=λ⟨_,_,h,a,c⟩=>by subst h;simp[e.len a,f.len c]
 one:=λ⟨_,_,h,a,c⟩=>by subst h;simp[mw,e.one a,f.one c]
 eC:=λd ⟨p,q,h,a,c⟩=>⟨p,q,h,e.eC d a,f.eC d c⟩
 mono:=λg ⟨p,q,h,a,c⟩=>⟨p,q,h,e.mono g a,f.mono g c⟩
def eM{α β:Type} (g:β->α) (e:sO α):sO β where
 sz:=e.sz
 rel b h x cs:=e.rel b h (g x) cs
 len h:=e.len h
 one h:=e.one h
 eC hk h:=e.eC hk h
 mono hb h:=e.mono hb h
def lR{α:Type} (e:sO α) (b:Nat->Prop) (h:Hp):List V->List α->Prop
 |_,[]=>True
 |cs,x::xs=>∃w r,cs=w++r/\e.rel b h x w/\lR e b h r xs
section
variable{α:Type}{e:sO α}{b:Nat->Prop}{h h':Hp}
theorem lR.eC(a:∀l,b l->h'.get l=h.get l):∀{xs:List α} {cs:List V},lR e b h cs xs->lR e b h' cs xs
 |[],_,_=>trivial
 |_::_,_,⟨w,r,c,d,f⟩=>⟨w,r,c,e.eC a d,lR.eC a f⟩
theorem lR.mono{a:Nat->Prop} (c:∀l,b l->a l):∀{xs:List α} {cs:List V},lR e b h cs xs->lR e a h cs xs
 |[],_,_=>trivial
 |_::_,_,⟨w,r,d,f,g⟩=>⟨w,r,d,e.mono c f,lR.mono c g⟩
theorem lR.length:∀{xs:List α} {cs:List V},lR e b h cs xs->xs.length*e.sz<=cs.length
 |[],_,_=>by simp
 | _::xs,_,⟨w,r,a,c,d⟩=>by
   have:=lR.length d;have f:=e.len c;subst a;simp only[Hm,Li,OC,Nat.one_mul];omega
theorem lR.get:∀{xs:List α} {cs:List V},lR e b h cs xs->∀{i:Nat} {x:α},xs[i]? =some x->∃w,(cs.drop (i*e.sz)).take e.sz=w/\i*e.sz+e.sz<=cs.length/\e.rel b h x w
 |[],_,_,i,x,hx=>by simp_all
 | y ::xs,_,⟨w,r,a,c,d⟩,i,x,hx=>by
   have f:=e.len c;subst a
   cases i with
   | zero=>
     simp_all
   | succ i=>
     obtain⟨w',g,k,j⟩:=lR.get d (i:=i) (x:=x) (by simp_all);refine⟨w',?_,?_,j⟩
     ·rw[<-g,OC,Nat.one_mul,Nat.add_comm,<-f,<-QY];simp
     grind
theorem lR.append{ys:List α}:∀{xs:List α} {cs ds:List V},lR e b h cs xs->cs.length=xs.length*e.sz->lR e b h ds ys->lR e b h (cs++ds) (xs++ys)
 | [],cs,ds,_,hl,a=>by
   simp_all
 | x::xs,_,ds,⟨w,r,c,a,d⟩,hl,f=>by
   subst c;have g:=e.len a;refine⟨w,r++ds,by simp,a,lR.append d ?_ f⟩
   grind
theorem lR.take:∀{xs:List α} {cs:List V},lR e b h cs xs->lR e b h (cs.take (xs.length*e.sz)) xs
 |[],_,_=>trivial
 | _::xs,_,⟨w,r,c,a,d⟩=>by
   have f:=e.len a;subst c;refine⟨w,r.take (xs.length*e.sz),?_,a,lR.take d⟩
   simp_all[List.take_append,Hq,Li,OC,Nat.one_mul]
theorem lR.more{ds:List V}:∀{xs:List α} {cs:List V},lR e b h cs xs->lR e b h (cs++ds) xs
 |[],_,_=>trivial
 |_::_,_,⟨w,r,a,c,d⟩=>⟨w,r++ds,by rw[a,LX],c,lR.more d⟩
theorem lR.set:∀{xs:List α} {cs:List V},lR e b h cs xs->∀{i:Nat} {y:α} {w:List V},i<xs.length->e.rel b h y w->lR e b h (cs.take (i*e.sz)++w++cs.drop (i*e.sz+e.sz)) (xs.set i y)
 |[],_,_,i,y,w,hi,_=>by simp_all
 | x ::xs,_,⟨u,r,d,a,c⟩,i,y,w,hi,hw=>by
   have f:=e.len a;have g:=e.len hw;subst d
   cases i with
   | zero=>
     refine⟨w,r,?_,hw,c⟩
     simp_all
   | succ i=>
     refine⟨u,_,?_,a,lR.set c (i:=i) (y:=y) (w:=w) (by simpa using hi) hw⟩;have e1:(i+1)*e.sz=u.length+i*e.sz:=by rw[OC,Nat.one_mul,f];omega
     have e2:(i+1)*e.sz+e.sz=u.length+(i*e.sz+e.sz):=by omega
     rw[e2,e1,List.take_length_add_append,<-QY,List.drop_left]
     simp_all
end
def iB{α:Type} (e:sO α) (b:Nat->Prop) (h:Hp) (xs:List α) (v:V):Prop:=(v = .ed/\xs=[])\/∃l off ty live ro cs,v = .slice l off xs.length/\b l/\h.get l=some (.cells ty e.sz live ro cs)/\(xs=[]\/live=true)/\off<=cs.length/\lR e b h (cs.drop off) xs
section
variable{α:Type}{e:sO α}{b:Nat->Prop}{h h':Hp}{xs:List α}{v:V}
theorem iB.eC(c:∀l,b l->h'.get l=h.get l) (a:iB e b h xs v):iB e b h' xs v:=by
 rcases a with a|⟨l,off,ty,live,ro,cs,d,f,k,g,i,j⟩
 ·exact .inl a
 ·exact .inr ⟨l,off,ty,live,ro,cs,d,f,by simp_all,g,i,j.eC c⟩
theorem iB.mono{c:Nat->Prop} (d:∀l,b l->c l) (a:iB e b h xs v):iB e c h xs v:=by
 rcases a with a|⟨l,off,ty,live,ro,cs,f,g,i,j,k,m⟩
 ·exact .inl a
 ·exact .inr ⟨l,off,ty,live,ro,cs,f,d l g,i,j,k,m.mono d⟩
theorem iB.one(a:iB e b h xs v):v.one=true:=by
 rcases a with⟨rfl,_⟩|⟨l,off,ty,live,ro,cs,rfl,_⟩ <;> rfl
end
def eL{α:Type} (e:sO α):sO (List α) where
 sz:=1
 rel b h xs cs:=∃v,cs=[v]/\iB e b h xs v
 len:=by simp_all
 one:=λ⟨_,h,a⟩=>by subst h;simp[a.one]
 eC:=λc ⟨v,h,a⟩=>⟨v,h,a.eC c⟩
 mono:=λd ⟨v,h,a⟩=>⟨v,h,a.mono d⟩
section
variable{α:Type}{e:sO α}{b:Nat->Prop}{h h':Hp}{xs:List α}{v:V}
theorem iB.len(a:iB e b h xs v):fJ v=some (.int .i64 xs.length):=by
 rcases a with⟨rfl,rfl⟩|⟨l,off,ty,live,ro,cs,rfl,_⟩ <;> rfl
theorem iB.nil:iB e b h [] .ed:= .inl ⟨rfl,rfl⟩
theorem iB.ix(c:iB e b h xs v) {i:Nat} (hi:i<xs.length) (d:IntKind) :
  ∃l o w,b l/\gM e.sz v (.int d i)=some (.ptr l o)/\hH e.sz (.ptr l o) h=some (.agg w)/\e.rel b h xs[i] w/\∀k u,w[k]? =some u->er (.ptr l (o+k)) h=some u:=by
 rcases c with⟨_,rfl⟩|⟨l,off,ty,live,ro,cs,rfl,f,a,p,q,g⟩
 ·grind
 ·obtain rfl:live=true:=by grind
  obtain⟨w,j,m,n⟩:=g.get (i:=i) (x:=xs[i]) (by simp_all);rw[List.length_drop]at m;have hd:(cs.drop (off+i*e.sz)).take e.sz=w:=by rw[<-j,QY]
  refine⟨l,off+i*e.sz,w,f,by grind[uV],?_,n,λk u r=>?_⟩
  ·rw[Di a,Cd (by omega),hd];rfl
  ·rw[MV a,MA]
   grind
theorem iB.OZ(j:iB e b h xs v) {i:Nat} (hi:i<xs.length) (a:IntKind) (c:e.sz=1) :
  ∃l o u,b l/\gM 1 v (.int a i)=some (.ptr l o)/\er (.ptr l o) h=some u/\e.rel b h xs[i] [u]:=by
 obtain ⟨l,o,w,h0,d,_,f,k⟩:=j.ix hi a;rw[c]at d;have g:=e.len f;rw[c]at g;obtain⟨u,rfl⟩:∃u,w=[u]:=by
  match w,g with
  |[u],_=>simp_all
 exact⟨l,o,u,h0,d,k 0 u rfl,f⟩
theorem iB.L2{a:Nat->Prop} {ty:Nat} {ro:Bool} {cs:List V} (d:lR e b h cs xs) (g:∀l,b l->l<h.next) (c:∀l,b l->a l) (f:a h.next):iB e a (h.new (.cells ty e.sz true ro cs)) xs (.slice h.next 0 xs.length):=
 .inr ⟨h.next,0,ty,true,ro,cs,rfl,f,ey _ _,.inr rfl,EL _,(d.eC (by grind[eJ])).mono c⟩
theorem iB.new{ty:Nat} {ro:Bool} {cs:List V} {n:Nat} (c:lR e (lo n) h cs xs) (b:n<=h.next):iB e (lo (h.next+1)) (h.new (.cells ty e.sz true ro cs)) xs (.slice h.next 0 xs.length):=
 .L2 c (λ_ a=>yG a b) (λ_ a=>SI (yG a b)) (JI _)
end
section
variable (t:Nat)(k:IntKind)(a b:Int)
@[simp] theorem G7:ej .add t (.int k a) (.int k b)=some (.int k (jw k (a+b))):=by cases k <;> rfl
@[simp] theorem hZ:ej .sub t (.int k a) (.int k b)=some (.int k (jw k (a-b))):=by cases k <;> rfl
@[simp] theorem OL:ej .mul t (.int k a) (.int k b)=some (.int k (jw k (a*b))):=by cases k <;> rfl
@[simp] theorem mU:ej .lss t (.int k a) (.int k b)=some (.bool (decide (a<b))):=by cases k <;> rfl
@[simp] theorem V8:ej .leq t (.int k a) (.int k b)=some (.bool (decide (a<=b))):=by cases k <;> rfl
@[simp] theorem ml:ej .gtr t (.int k a) (.int k b)=some (.bool (decide (b<a))):=by cases k <;> rfl
@[simp] theorem yd:ej .geq t (.int k a) (.int k b)=some (.bool (decide (b<=a))):=by cases k <;> rfl
@[simp] theorem hD:ej .eql t (.int k a) (.int k b)=some (.bool (a == b)):=by cases k <;> rfl
@[simp] theorem Kq:ej .neq t (.int k a) (.int k b)=some (.bool (a != b)):=by cases k <;> rfl
@[simp] theorem UT (x y:List UInt8):ej .eql t (.str x) (.str y)=some (.bool (x == y)):=rfl
@[simp] theorem UF (x y:List UInt8):ej .neq t (.str x) (.str y)=some (.bool (!(x == y))):=rfl
@[simp] theorem RL (x:Bool):xF .not (.bool x)=some (.bool !x):=rfl
@[simp] theorem WC:xF .neg (.int k a)=some (.int k (jw k (0-a))):=rfl
theorem iR{k:IntKind} {n:Int} (h:Fe k n):jw k n=n:=by
 rw[vj];cases k <;> simp only[Fe]at h <;> simp only[IntKind.wrap,IntKind.signed,IntKind.bits,Bool.true_and,Bool.false_and,MR,J4,if_false,Nat.reduceSub,Int.reducePow,ge_iff_le] <;> (try split) <;> omega
@[simp] theorem UM {n:Nat} (h:n<9223372036854775808):jw .i64 (n:Int)=n:=iR (by simp only[Fe];omega)
@[simp] theorem Dd (g:Bool):BI g (.int k a) [.int k b]=some (.int k (if g then max a b else min a b)):=by
 cases g
 ·show some (V.int k (if b<a then b else a))=_;simp only[J4,if_false];congr 2;omega
 ·show some (V.int k (if b>a then b else a))=_;simp only[if_true];congr 2;omega
end
theorem O0(n:Nat) (z:V):xr n [z]=List.replicate n z:=by
 induction n <;> grind[xr]
theorem HA{e sz lD n:Nat} {z:V} (a:n*lD<=281474976710656) (b:n<=1099511627776) :
  gS e sz lD z (.int .i64 (n:Int)) (.int .i64 (n:Int))=some (O.cells e sz true false (xr n z.cells),λl=>V.slice l 0 n):=by
 show bB (Nat.ble n n) (bB (Nat.ble (n*lD) 281474976710656) (bB (Nat.ble n 1099511627776) (some (O.cells e sz true false (xr n z.cells),λl=>V.slice l 0 n))))=_
 simp_all[um,OY,je]
theorem L1{cs:List V} {v:V}:∀{o:Nat},o<cs.length->nE o cs [v]=some (cs.set o v):=by
 induction cs with
 |nil=>simp_all
 | cons c cs a=>
   intro o h
   cases o with
   |zero=>rfl
   | succ o=>
     grind[nE,fg]
theorem Nc:∀{ws cs:List V},ws.length<=cs.length->over ws cs=some (ws++cs.drop ws.length)
 |[],_,_=>rfl
 |w::ws,[],h=>by simp_all
 | w::ws,c::cs,h=>by
   have:=Nc (ws:=ws) (cs:=cs) (by simp_all)
   grind[over,fg,Li]
theorem AY:∀{o:Nat} {cs ws:List V},o+ws.length<=cs.length->nE o cs ws=some (cs.take o++ws++cs.drop (o+ws.length))
 |0,cs,ws,h=>by simp_all[nE,Nc,UJ,Lg,Dr]
 |o+1,[],ws,h=>by simp_all
 | o+1,c::cs,ws,h=>by
   have:=AY (o:=o) (cs:=cs) (ws:=ws) (by grind)
   grind[nE,fg]
theorem AK{v:V} (h:v.one=true):v.cells=[v]:=by
 cases v <;> first|rfl|cases h
section
variable{l o e sz:Nat}{cs:List V}{h:Hp}{v:V}
theorem GU(b:h.get l=some (.cells e sz true false cs)) (c:o<cs.length) (a:v.one=true):gU 1 (.ptr l o) v h=some (.val .undef (h.put l (.cells e sz true false (cs.set o v)))):=by
 unfold gU zY jT;simp only[uU,AK a,Li,UZ,b,fg,tB,Um,eR,a,L5,Bool.and_self,L1 c];rfl
theorem AP{ws:List V} {n:Nat} (a:h.get l=some (.cells e sz true false cs)) (b:ws.length=n) (hc:cs.length=n) (c:fZ ws=true):gU n (.ptr l 0) (.agg ws) h=some (.val .undef (h.put l (.cells e sz true false ws))):=by
 unfold gU zY jT;have d:nE 0 cs ws=some ws:=by
  rw[AY (by omega),UJ,Lg,Dr,List.drop_of_length_le (by omega),Hk]
 grind[uU,V.cells,fg,tB,Um,um,Oy]
theorem jd{u:V}{ro:Bool}(a:h.get l=some (.cells e sz true ro cs))(b:cs[o]? =some u):er (.ptr l o) h=some u:=by rw[MV a,MA,b]
theorem xK{n:Nat} {ro:Bool} (a:h.get l=some (.cells e sz true ro cs)) (b:cs.length=n):hH n (.ptr l 0) h=some (.agg cs):=by
 rw[Di a,Cd (by omega),OK,Hq (by omega)];rfl
end
section
variable{α:Type}{e:sO α}{b:Nat->Prop}{h:Hp}
theorem lR.drop:∀{xs:List α} {cs:List V} (n:Nat),lR e b h cs xs->n<=xs.length->lR e b h (cs.drop (n*e.sz)) (xs.drop n)
 |xs,cs,0,hw,_=>by simp_all
 |[],cs,n+1,_,hn=>by simp_all
 | x::xs,cs,n+1,⟨w,r,a,c,d⟩,hn=>by
   have:=lR.drop n d (by simpa using hn);have f:=e.len c;subst a;rw[List.drop_succ_cons,OC,Nat.one_mul,Nat.add_comm,<-QY,<-f,List.drop_left]
   simp_all
theorem lR.taken:∀{xs:List α} {cs:List V} (n:Nat),lR e b h cs xs->lR e b h cs (xs.take n)
 |xs,cs,0,_=>by simp only[UJ];trivial
 |[],cs,n+1,_=>by simp_all
 |x::xs,cs,n+1,⟨w,r,a,c,d⟩=>⟨w,r,a,c,lR.taken n d⟩
theorem Ii(z:Nat) (k:IntKind) (n:Nat):hbound z (some (.int k n))=some n:=by
 rfl
theorem E3(z:Nat):hbound z none=some z:=rfl
theorem iB.cut{xs:List α} {v:V} (i:iB e b h xs v) {lo hi:Option V} {m n:Nat} (j:hbound 0 lo=some m) (k:hbound xs.length hi=some n) (o:m<=n) (a:n<=xs.length) :
  ∃d,iF e.sz v lo hi h=some d/\iB e b h ((xs.take n).drop m) d:=by
 rcases i with⟨rfl,rfl⟩|⟨l,off,ty,live,ro,cs,rfl,p,q,s,t,f⟩
 ·simp at a;subst a;obtain rfl:m=0:=by omega
  refine⟨.ed,?_,.inl ⟨rfl,by simp⟩⟩
  simp_all[iF,fg,hbound]
 ·have r:=f.length;have g:m*e.sz<=n*e.sz:=U6 _ o;have c:n*e.sz<=xs.length*e.sz:=U6 _ a;rw[List.length_drop]at r;refine⟨.slice l (off+m*e.sz) (n-m),?_,?_⟩
  ·grind[iF,jT,fg,um,Oy,OY]
  ·have hlen:((xs.take n).drop m).length=n-m:=by rw[List.length_drop,JN];omega
   refine .inr ⟨l,off+m*e.sz,ty,live,ro,cs,by rw[hlen],p,q,?_,by omega,?_⟩
   ·grind
   ·rw[<-QY];exact(f.taken n).drop m (by simp_all)
end
section
variable{e sz a n:Nat}{h h':Hp}{cs:List V}{v:V}
theorem mc{e sz k:Nat} {h:Hp} {cs:List V} {ro:Bool} (a:cs.length=(k+1)*sz):jX (h.new (.cells e sz true ro cs)) sz (.slice h.next 0 (k+1))=some (k+1,cs):=by
 unfold jX Bp jT;have:sub cs 0 (Nat.mul (Nat.succ k) sz)=some cs:=by
  show sub cs 0 ((k+1)*sz)=some cs;rw[Cd (by omega),OK,Hq (by omega)]
 grind[ey,fg,tB]
end
