/- Parts. -/
import Derived.Test.YtcoaokdoecgcbaaGreatDoorM08
import Derived.KernelRfl
set_option maxHeartbeats 4000000
namespace Go.Proofs.YtcoaokdoecgcbaaGreatDoor.Hx
def _root_.Go.Code.l:Code->Code
 | .seq a _=>a
 | .cond _ a _=>a
 | .block _ c=>c
 | .loop c=>c
 |_=> .skip
def _root_.Go.Code.r:Code->Code
 | .seq _ b=>b
 | .cond _ _ b=>b
 |_=> .skip
def ES(fn:Func):Code:=match fn.body with
 |some c=>c
 |none=> .skip
noncomputable section
def eC(a:V)(h:Hp):Option V:=rA a λl off=>ld1 h l off
def gy(n:Nat)(a:V)(h:Hp):Option V:=rA a λl off=>oB (Hj h l off n) λcs=>some (.agg cs)
def fK(k:Nat)(x:V):Option V:=rA x λl off=>some (.ptr l (Nat.add off k))
def gP(n:Nat) (x i:V):Option V:=asNat i λi=>match x with
 | .slice l off len=>bB (Nat.blt i len) (some (.ptr l (Nat.add off (Nat.mul i n))))
 |_=>none
def zbN(len n:Nat)(x i:V):Option V:=asNat i λi=>rA x λl off=>bB (Nat.blt i len) (some (.ptr l (Nat.add off (Nat.mul i n))))
def zgQ(k:Nat) (x:V):Option V:=match x with
 | .agg cs=>Jm cs k
 |_=>none
def tA(c a b:V):Option V:=match c with
 | .bool x=>Bool.rec (motive:=λ_=>Option V) (some b) (some a) x
 |_=>none
def gq(x:V):Option V:=match x with
 | .ptr l off=>some (.ptr l off)
 | .func f a c=>some (.func f a c)
 | .iface u v=>some (.iface u v)
 |_=>none
def jT(k:IntKind) (x:V):Option V:=match x with
 | .int _ n=>some (.int k (iy k n))
 |_=>none
def fm(z:List V)(a:List (Nat×Nat))(b:List (Nat×V)):Option V:=oB (xE (λi=>a[i]?) z b) λcs=>some (.agg cs)
def zbm(size:Nat)(z:List V)(a:List (Nat×V)):Option V:=oB (xE (λi=>some (Nat.mul i size,size)) z a) λcs=>some (.agg cs)
def Dh(i:Nat) (x:V):Option V:=match x with
 | .tuple vs=>Jm vs i
 |_=>none
def zgh(x:V):Option V:=match x with
 | .str s=>some (.int .i64 (.ofNat s.length))
 |_=>none
def fD(x:V):Option V:=match x with
 | .slice _ _ n=>some (.int .i64 (.ofNat n))
 | .ed=>some (.int .i64 (.ofNat 0))
 |_=>none
def p5(kt:Nat) (d:Option (List Field)) (z:V) (ok:Bool) (m k:V) (h:Hp):Option V:=bB (IF d k) (match m with
 | .ke=>some (found z ok none)
 | .map l=>yq h l (λes _=>oB (nI kt d k es 0) λr=>some (found z ok r)) (MI kt d z ok k)
 |_=>none)
def Ek(t:Nat) (z x:V):Option V:=match x,false with
 | .iface t' v,true=>some (Bool.rec (motive:=λ_=>V) (.tuple [z,.bool false]) (.tuple [v,.bool true]) (Nat.beq t' t))
 | .iface t' v,false=>bB (Nat.beq t' t) (some v)
 | .nilIface,true=>some (.tuple [z,.bool false])
 |_,_=>none
def iK(a size len:Nat) (z:V) (b:List (Nat×V)):Option (O×(Nat->V)):=oB (xE (λi=>some (Nat.mul i size,size)) (Bt len z.cells) b) λcs=>bB (gz cs) (some (.cells a size true false cs,λl=> .slice l 0 len))
def gL(n:Nat)(a v:V)(h:Hp):Option R:=rA a λl off=>bB (Nat.beq v.cells.length n) (oB (EC h l off v.cells) λh=>some (.val .undef h))
end
noncomputable section
def fg(x:Option R)(K:V->Hp->Prop):Prop:=oP (oB x valOf) λy=>K y.1 y.2
def gO(C:fj)(x:Option R)(h:Hp)(K:V->Hp->Prop):Prop:=oP (oB x zS) λy=>cP C y.1 y.2 h K
def dcP(C:fj)(f:Nat)(l:List V)(h:Hp)(K:V->Hp->Prop):Prop:=oP (some (f,l)) λy=>cP C y.1 y.2 h K
def hZ(x:Option (O×(Nat->V)))(h:Hp)(K:V->Hp->Prop):Prop:=oP x λr=>K (r.2 h.next) (h.new r.1)
def vj(x:Option (O×(Nat->V)))(h:Hp)(K:O->V->Hp->Prop):Prop:=oP x λr=>K r.1 (r.2 h.next) (h.new r.1)
def ghP(b:Bool)(h:Hp)(x:Option (V×Hp))(K:V->Hp->Prop):Prop:=oP (gH b h x) λy=>K y.1 y.2
def gT(b:Bool)(p:Prop):Prop:=Bool.rec (motive:=λ_=>Prop) True p b
def gW(w:Bool) (x:V):Option Bool:=match x with
 | .bool b=>some (Bool.rec (motive:=λ_=>Bool) (!w) w b)
 | .tuple []=>some false
 |_=>none
end
theorem WJ(f:Nat->V) (d:Nat) (v:V):fc f d v d=v:=by
 simp_all[fc,XV]
theorem zbk(f:Nat->V) {d i:Nat} (v:V) (h:i≠d):fc f d v i=f i:=by
 unfold fc;cases hb:Nat.beq i d <;> simp_all
@[simp] theorem eD {α β:Type} (a:α) (k:α->Option β):oB (some a) k=k a:=rfl
@[simp] theorem zf3 {α β:Type} (k:α->Option β):oB (none:Option α) k=none:=rfl
@[simp] theorem BS {β:Type} (k:Option β):bB true k=k:=rfl
@[simp] theorem zez {β:Type} (k:Option β):bB false k=none:=rfl
theorem zi{β:Type}{c:Bool}(k:Option β)(h:c=true):bB c k=k:=by simp_all
@[simp] theorem tw {β:Type} (l o:Nat) (k:Nat->Nat->Option β):rA (.ptr l o) k=k l o:=rfl
@[simp] theorem zcd {β:Type} (a:IntKind) (n:Nat) (k:Nat->Option β):asNat (.int a (.ofNat n)) k=k n:=rfl
@[simp] theorem zdz {β:Type} (a:IntKind) (n:Nat) (k:Nat->Option β):asNat (.int a (n:Int)) k=k n:=rfl
@[simp] theorem zey {β:Type} (a:IntKind) (n:Nat) (k:Nat->Option β):asNat (.int a (OfNat.ofNat n:Int)) k=k n:=rfl
@[simp] theorem zdN {β:Type} (a:IntKind) (k:Nat->Option β):asNat (.int a 0) k=k 0:=rfl
@[simp] theorem zev {β:Type} (a:IntKind) (k:Nat->Option β):asNat (.int a 1) k=k 1:=rfl
@[simp] theorem fN (k l o:Nat):fK k (.ptr l o)=some (.ptr l (o+k)):=rfl
@[simp] theorem fi (l o:Nat):gq (.ptr l o)=some (.ptr l o):=rfl
@[simp] theorem zew (f:Nat) (a c:List V):gq (.func f a c)=some (.func f a c):=rfl
@[simp] theorem zeb (l o n:Nat):fD (.slice l o n)=some (.int .i64 n):=rfl
@[simp] theorem zeT:fD .ed=some (.int .i64 0):=rfl
@[simp] theorem zeA (s:List UInt8):zgh (.str s)=some (.int .i64 s.length):=rfl
@[simp] theorem UH (x:Bool) (a b:V):tA (.bool x) a b=some (if x=true then a else b):=by cases x <;> rfl
@[simp] theorem jB (k k':IntKind) (n:Int):jT k (.int k' n)=some (.int k (iy k n)):=rfl
@[simp] theorem zem (i:Nat) (vs:List V):Dh i (.tuple vs)=Jm vs i:=rfl
@[simp] theorem zf8 (k:Nat) (cs:List V):zgQ k (.agg cs)=Jm cs k:=rfl
@[simp] theorem fI (o:O) (f:Nat->V) (h:Hp) (K:V->Hp->Prop):hZ (some (o,f)) h K=K (f h.next) (h.new o):=rfl
@[simp] theorem hH (o:O) (f:Nat->V) (h:Hp) (K:O->V->Hp->Prop):vj (some (o,f)) h K=K o (f h.next) (h.new o):=rfl
@[simp] theorem eh (v:V) (h:Hp) (K:V->Hp->Prop):fg (some (.val v h)) K=K v h:=rfl
@[simp] theorem BT (C:fj) (f:Nat) (l:List V) (h:Hp) (K:V->Hp->Prop):gO C (some (.call f l)) h K=cP C f l h K:=rfl
@[simp] theorem zgV (C:fj) (f:Nat) (l:List V) (h:Hp) (K:V->Hp->Prop):dcP C f l h K=cP C f l h K:=rfl
@[simp] theorem IB (f:Nat) (a c l:List V):fX (.func f a c) l=some (.call f (a++(l++c))):=rfl
@[simp] theorem zfG (w b:Bool):gW w (.bool b)=some (b == w):=by cases w <;> cases b <;> rfl
@[simp] theorem zgq (x:Option V):gV true x=x:=rfl
@[simp] theorem zeK (x:Option V):gV false x=some .undef:=rfl
@[simp] theorem zgn (x:Option (Nat×List V)):gC true x=oB x λy=>some (some y):=rfl
@[simp] theorem zfs (x:Option (Nat×List V)):gC false x=some none:=rfl
@[simp] theorem zgm (p:Prop):gT true p=p:=rfl
@[simp] theorem zf5 (p:Prop):gT false p=True:=rfl
@[simp] theorem zeO (C:fj) (y:Nat×List V) (h:Hp) (K:V->Hp->Prop):AS C (some y) h K=cP C y.1 y.2 h K:=rfl
@[simp] theorem zeC (C:fj) (h:Hp) (K:V->Hp->Prop):AS C none h K=K .undef h:=rfl
theorem wx(n l o len i:Nat) (a:IntKind) (h:i<len):gP n (.slice l o len) (.int a i)=some (.ptr l (o+i*n)):=by
 show bB (Nat.blt i len) _=_
 grind[zi,RP]
theorem RA{l o e sz:Nat} {ro:Bool} {cs:List V} {h:Hp} (a:h.get l=some (.cells e sz true ro cs)):eC (.ptr l o) h=Jm cs o:=by
 simp_all[eC,ld1,jW,tw,eD,BS]
theorem xn{n l o e sz:Nat} {ro:Bool} {cs:List V} {h:Hp} (a:h.get l=some (.cells e sz true ro cs)):gy n (.ptr l o) h=oB (sub cs o n) λcs=>some (.agg cs):=by
 simp_all[gy,Hj,jW,tw,eD,BS]
@[simp] theorem zgc (v:V) (l:List V):Jm (v::l) 0=some v:=rfl
@[simp] theorem zfD (v:V) (l:List V) (n:Nat):Jm (v::l) (n+1)=Jm l n:=rfl
theorem Qx(l:List V)(n:Nat):Jm l n=l[n]?:=by grind[Jm,List.head?_drop]
@[simp] theorem zd0 (l:List V):takeN 0 l=some []:=by rfl
@[simp] theorem zc0 (n:Nat) (v:V) (l:List V):takeN (n+1) (v::l)=oB (takeN n l) λr=>some (v::r):=rfl
theorem TK:∀(n:Nat) (l:List V),n<=l.length->takeN n l=some (l.take n)
 |0,l,_=>by rfl
 |n+1,[],h=>by simp_all
 |n+1,v::l,h=>by simp only[takeN,TK n l (by simp_all),eD,List.take_succ_cons]
theorem Gk{l:List V} {o n:Nat} (h:o+n<=l.length):sub l o n=some ((l.drop o).take n):=by
 grind[sub,TK]
@[simp] theorem fY {α:Type} (a:α) (k:α->Prop):oP (some a) k=k a:=rfl
@[simp] theorem zaj (x:Bool) (a b:Prop):bP (.bool x) a b=if x=true then a else b:=lP x a b
@[simp] theorem zeu (v:V) (h:Hp):valOf (.val v h)=some (v,h):=rfl
@[simp] theorem zcY (f:Nat) (l:List V):zS (.call f l)=some (f,l):=rfl
section
variable{C:fj}{n:Nat}{Q:X->gg->Hp->Prop}{ρ:gg}{h:Hp}
theorem Wp.of{c:Code}{P:Prop}(e:gJ C n c Q ρ h=P)(a:P):Wp C n c Q ρ h:=Wp.code c (e.mpr a)
theorem km{α:Type}{a:α}{k:α->Prop}(h:k a):oP (some a) k:=h
theorem oM{α:Type} {x:Option α} {k k':α->Prop} (h:oP x k) (f:∀a,x=some a->k a->k' a):oP x k':=by
 grind[kK,ec]
theorem bM{v:V} {a b c d:Prop} (h:bP v a b) (f:a->c) (g:b->d):bP v c d:=by
 unfold bP at h⊢;split at h
 ·rename_i x;cases x <;> grind
 omega
theorem dcM{f:Nat} {l:List V} {k k':V->Hp->Prop} (h':cP C f l h k) (F:∀v h',k v h'->k' v h'):dcP C f l h k':=by
 show cP C f l h k';exact h'.mono F
theorem cgM{x:Option (Nat×List V)} {k k':V->Hp->Prop} (h':AS C x h k) (F:∀v h',k v h'->k' v h'):AS C x h k':=by
 cases x with
 |none=>simp_all
 |some y=>exact cP.mono h' F
theorem alM{x:Option (O×(Nat->V))} {k k':V->Hp->Prop} (h':hZ x h k) (F:∀v h',k v h'->k' v h'):hZ x h k':=
 oM h' (by simp_all)
theorem zbY{x:Option (O×(Nat->V))} {k k':O->V->Hp->Prop} (h':vj x h k) (F:∀o v h',k o v h'->k' o v h'):vj x h k':=
 oM h' (by simp_all)
theorem Nq{x:Option R} {k k':V->Hp->Prop} (h':fg x k) (F:∀v h',k v h'->k' v h'):fg x k':=
 oM h' (by simp_all)
end
theorem Mn{a b c:Prop}(h:c/\a)(f:a->b):c/\b:=by simp_all
@[simp] theorem O.jA (e sz:Nat) (a r:Bool) (cs:List V):O.beq (.cells e sz a r cs) (.cells e sz a r cs)=true:=by
 simp[O.beq,V.zE]
@[simp] theorem O.zgr (c:Nat):O.beq (.map [] c) (.map [] c)=true:=by simp[O.beq]
def mm(c:V) (X:Option V):Option V:=match c with
 | .bool true=>some (.bool true)
 | .bool false=>X
 |_=>none
def iM(c:V) (X:Option V):Option V:=match c with
 | .bool false=>some (.bool false)
 | .bool true=>X
 |_=>none
@[simp] theorem zfK (X:Option V):mm (.bool true) X=some (.bool true):=rfl
@[simp] theorem ta (X:Option V):mm (.bool false) X=X:=rfl
@[simp] theorem Xe (X:Option V):iM (.bool true) X=X:=rfl
@[simp] theorem T1 (X:Option V):iM (.bool false) X=some (.bool false):=rfl
@[simp] theorem iC (c d:Bool):mm (.bool c) (some (.bool d))=some (.bool (c ||d)):=by cases c <;> rfl
@[simp] theorem gQ (c d:Bool):iM (.bool c) (some (.bool d))=some (.bool (c&&d)):=by cases c <;> rfl
theorem thn{A B:Prop}(a:A)(f:A->B):B:=f a
section
variable{c c' Xc:V}{X X':Option V}{K:V->Prop}{f:V->Option V}{w b0:Bool}
theorem Q7(H:oP (mm c X) K):oP (gW false c) λb=>oP (gV b X) λv=>oP (tA c (.bool true) v) K:=by
 unfold mm at H;split at H
 ·exact H
 ·exact H
 ·exact H.elim
theorem TO(H:oP (iM c X) K):oP (gW true c) λb=>oP (gV b X) λv=>oP (tA c v (.bool false)) K:=by
 unfold iM at H;split at H
 ·exact H
 ·exact H
 ·exact H.elim
theorem sG1{R:Bool->V->Prop} (H:oP (gW w c) λb=>oP (gV b (oB X f)) K) (F:∀b,gW w c=some b->∀v,gV b X=some v->(oP (gW w c) λb=>oP (gV b (f v)) K)->R b v):oP (gW w c) λb=>oP (gV b X) λv=>R b v:=by
 obtain⟨b,a,d⟩:=kK.1 H;refine ec a ?_
 cases b with
 | true=>
   grind[kK,fk,oB,ec,gV]
 |false=>simp_all
theorem xe{b:Bool} {v:V} (E:gV b X=some v):gT b (X=some v):=by
 cases b <;> simp_all
end
structure lU (S:Nat->Prop) (h h':Hp):Prop where
 next:h.next<=h'.next
 fh:∀l,l<h.next->¬S l->h'.get l=h.get l
abbrev Io(h h':Hp):Prop:=lU (λ_=>False) h h'
theorem lU.refl(S:Nat->Prop)(h:Hp):lU S h h:=⟨jv _,by simp_all⟩
theorem lU.trans'{S d:Nat->Prop} {h h' c:Hp} (a:lU S h h') (b:lU d h' c) (hs:∀l,l<h.next->d l->S l):lU S h c:=
 ⟨KK a.next b.next,λl hl e=>by rw[b.fh l (Dy hl a.next) (by grind),a.fh l hl e]⟩
theorem lU.trans{S:Nat->Prop}{h h' c:Hp}(a:lU S h h')(b:lU S h' c):lU S h c:=a.trans' b (by simp_all)
theorem lU.zaR{S b:Nat->Prop} {h h':Hp} (a:lU S h h') (hs:∀l,l<h.next->S l->b l):lU b h h':=
 ⟨a.next,λl hl c=>a.fh l hl (by grind)⟩
theorem lU.new{S:Nat->Prop} (h:Hp) (o:O):lU S h (h.new o):=
 ⟨RM _,λl hl _=>by rw[ue,if_neg (by omega)]⟩
theorem lU.put{S:Nat->Prop} {h:Hp} {l:Nat} (o:O) (hs:S l) (hl:l<h.next):lU S h (h.put l o):=
 ⟨jv _,λm _ a=>by rw[jz _ _ hl,if_neg (by grind)]⟩
theorem eJ(h:Hp)(o:O):(h.new o).get h.next=some o:=by rw[ue,if_pos rfl]
theorem eE{h:Hp}(o:O){l:Nat}(hl:l<h.next):(h.new o).get l=h.get l:=by rw[ue,if_neg (by omega)]
theorem fT{h:Hp}{l:Nat}(o:O)(hl:l<h.next):(h.put l o).get l=some o:=by rw[jz _ _ hl,if_pos rfl]
theorem gi{h:Hp}{l m:Nat}(o:O)(hl:l<h.next)(a:l≠m):(h.put l o).get m=h.get m:=by simp_all[jz,if_neg]
@[simp] theorem zfX (h:Hp) (o:O):(h.new o).next=h.next+1:=rfl
@[simp] theorem ze6 (h:Hp) (l:Nat) (o:O):(h.put l o).next=h.next:=rfl
structure rG (α:Type) where
 sz:Nat
 rel:(Nat->Prop)->Hp->α->List V->Prop
 len:∀{b h x cs},rel b h x cs->cs.length=sz
 one:∀{b h x cs},rel b h x cs->gz cs=true
 fh:∀{b h h' x cs},(∀l,b l->h'.get l=h.get l)->rel b h x cs->rel b h' x cs
 mono:∀{b b' h x cs},(∀l,b l->b' l)->rel b h x cs->rel b' h x cs
def lo(b:Nat):Nat->Prop:=λl=>l<b
theorem sq{b a:Nat}(h:b<=a):∀l,lo b l->lo a l:=λ_ hl=>Dy hl h
theorem pG:∀a b,gz (a++b)=(gz a&&gz b)
 |[],b=>by rfl
 | v::a,b=>by
   simp[ gz,pG a b];cases v.one <;> simp
@[simp] theorem zdu:gz []=true:=rfl
@[simp] theorem fe (v:V) (l:List V):gz (v::l)=(v.one&&gz l):=by
 simp[gz];cases v.one <;> rfl
def Cf:IntKind->Int->Prop
 | .i8,n=>-128<=n/\n<=127
 | .i16,n=>-32768<=n/\n<=32767
 | .i32,n=>-2147483648<=n/\n<=2147483647
 | .i64,n=>-9223372036854775808<=n/\n<=9223372036854775807
 | .u8,n=>0<=n/\n<=255
 | .u16,n=>0<=n/\n<=65535
 | .u32,n=>0<=n/\n<=4294967295
 | .u64,n=>0<=n/\n<=18446744073709551615
def eI(k:IntKind):rG Int where
 sz:=1
 rel _ _ n cs:=cs=[.int k n]/\Cf k n
 len h:=by simp_all
 one h:=by rw[h.1];rfl
 fh _ h:=h
 mono _ h:=h
def eB:rG Bool where
 sz:=1
 rel _ _ n cs:=cs=[.bool n]
 len h:=by simp_all
 one h:=by subst h;rfl
 fh _ h:=h
 mono _ h:=h
def eS:rG (List UInt8) where
 sz:=1
 rel _ _ n cs:=cs=[.str n]
 len h:=by simp_all
 one h:=by subst h;rfl
 fh _ h:=h
 mono _ h:=h
def eP{α β:Type} (e:rG α) (f:rG β):rG (α×β) where
 sz:=e.sz+f.sz
 rel b h x cs:=∃p q,cs=p++q/\e.rel b h x.1 p/\f.rel b h x.2 q
 len:=λ⟨_,_,h,a,c⟩=>by subst h;simp[e.len a,f.len c]
 one:=λ⟨_,_,h,a,c⟩=>by subst h;simp[pG,e.one a,f.one c]
 fh:=λd ⟨p,q,h,a,c⟩=>⟨p,q,h,e.fh d a,f.fh d c⟩
 mono:=λg ⟨p,q,h,a,c⟩=>⟨p,q,h,e.mono g a,f.mono g c⟩
def eM{α β:Type} (g:β->α) (e:rG α):rG β where
 sz:=e.sz
 rel b h x cs:=e.rel b h (g x) cs
 len h:=e.len h
 one h:=e.one h
 fh hk h:=e.fh hk h
 mono hb h:=e.mono hb h
def pU{α:Type} (e:rG α) (b:Nat->Prop) (h:Hp):List V->List α->Prop
 |_,[]=>True
 |cs,x::xs=>∃w r,cs=w++r/\e.rel b h x w/\pU e b h r xs
section
variable{α:Type}{e:rG α}{b:Nat->Prop}{h h':Hp}
theorem pU.fh(a:∀l,b l->h'.get l=h.get l):∀{xs:List α} {cs:List V},pU e b h cs xs->pU e b h' cs xs
 |[],_,_=>trivial
 |_::_,_,⟨w,r,c,d,f⟩=>⟨w,r,c,e.fh a d,pU.fh a f⟩
theorem pU.mono{a:Nat->Prop} (c:∀l,b l->a l):∀{xs:List α} {cs:List V},pU e b h cs xs->pU e a h cs xs
 |[],_,_=>trivial
 |_::_,_,⟨w,r,d,f,g⟩=>⟨w,r,d,e.mono c f,pU.mono c g⟩
theorem pU.length:∀{xs:List α} {cs:List V},pU e b h cs xs->xs.length*e.sz<=cs.length
 |[],_,_=>by simp
 | _::xs,_,⟨w,r,a,c,d⟩=>by
   have:=pU.length d;have hl:=e.len c;subst a;simp[ Jo,XA];omega
theorem pU.get:∀{xs:List α} {cs:List V},pU e b h cs xs->∀{i:Nat} {x:α},xs[i]? =some x->∃w,(cs.drop (i*e.sz)).take e.sz=w/\i*e.sz+e.sz<=cs.length/\e.rel b h x w
 |[],_,_,i,x,hx=>by simp_all
 | y ::xs,_,⟨w,r,a,c,d⟩,i,x,hx=>by
   have hl:=e.len c;subst a
   cases i with
   | zero=>
     simp_all
   | succ i=>
     let⟨w',f,j,g⟩:=pU.get d (i:=i) (x:=x) (by simp_all)
     refine⟨w',?_,?_,g⟩
     ·rw[<-f,XA,Nat.add_comm,<-hl];simp
     grind
theorem pU.append{ys:List α}:∀{xs:List α} {cs ds:List V},pU e b h cs xs->cs.length=xs.length*e.sz->pU e b h ds ys->pU e b h (cs++ds) (xs++ys)
 | [],cs,ds,_,hl,a=>by
   simp_all
 | x::xs,_,ds,⟨w,r,c,a,d⟩,hl,f=>by
   subst c;have g:=e.len a;refine⟨w,r++ds,by simp,a,pU.append d ?_ f⟩
   grind
theorem pU.take:∀{xs:List α} {cs:List V},pU e b h cs xs->pU e b h (cs.take (xs.length*e.sz)) xs
 |[],_,_=>trivial
 | _::xs,_,⟨w,r,c,a,d⟩=>by
   have f:=e.len a;subst c;refine⟨w,r.take (xs.length*e.sz),?_,a,pU.take d⟩
   simp_all[List.take_append,Uj,XA]
theorem pU.more{ds:List V}:∀{xs:List α} {cs:List V},pU e b h cs xs->pU e b h (cs++ds) xs
 |[],_,_=>trivial
 |_::_,_,⟨w,r,a,c,d⟩=>⟨w,r++ds,by rw[a,KB],c,pU.more d⟩
theorem pU.set:∀{xs:List α} {cs:List V},pU e b h cs xs->∀{i:Nat} {y:α} {w:List V},i<xs.length->e.rel b h y w->pU e b h (cs.take (i*e.sz)++w++cs.drop (i*e.sz+e.sz)) (xs.set i y)
 |[],_,_,i,y,w,hi,_=>by simp_all
 | x ::xs,_,⟨u,r,d,a,c⟩,i,y,w,hi,hw=>by
   have f:=e.len a;subst d
   cases i with
   | zero=>
     refine⟨w,r,?_,hw,c⟩
     simp_all
   | succ i=>
     refine⟨u,_,?_,a,pU.set c (by simpa using hi) hw⟩;have e1:(i+1)*e.sz=u.length+i*e.sz:=by rw[XA,Nat.one_mul];omega
     have e2:(i+1)*e.sz+e.sz=u.length+(i*e.sz+e.sz):=by omega
     rw[e2,e1,List.take_length_add_append,<-wBe]
     simp_all
end
def iH{α:Type} (e:rG α) (b:Nat->Prop) (h:Hp) (xs:List α) (v:V):Prop:=(v = .ed/\xs=[])\/∃l off ty live ro cs,v = .slice l off xs.length/\b l/\h.get l=some (.cells ty e.sz live ro cs)/\(xs=[]\/live=true)/\off<=cs.length/\pU e b h (cs.drop off) xs
section
variable{α:Type}{e:rG α}{b:Nat->Prop}{h h':Hp}{xs:List α}{v:V}
theorem iH.fh(a:∀l,b l->h'.get l=h.get l) (hs:iH e b h xs v):iH e b h' xs v:=by
 rcases hs with hs|⟨l,off,ty,live,ro,cs,c,d,j,f,g,i⟩
 ·exact .inl hs
 ·exact .inr ⟨l,off,ty,live,ro,cs,c,d,by simp_all,f,g,i.fh a⟩
theorem iH.mono{a:Nat->Prop} (c:∀l,b l->a l) (hs:iH e b h xs v):iH e a h xs v:=by
 rcases hs with hs|⟨l,off,ty,live,ro,cs,d,f,g,i,j,k⟩
 ·exact .inl hs
 ·exact .inr ⟨l,off,ty,live,ro,cs,d,c l f,g,i,j,k.mono c⟩
theorem iH.one(hs:iH e b h xs v):v.one=true:=by
 rcases hs with⟨rfl,_⟩|⟨l,off,ty,live,ro,cs,rfl,_⟩ <;> rfl
end
def eL{α:Type} (e:rG α):rG (List α) where
 sz:=1
 rel b h xs cs:=∃v,cs=[v]/\iH e b h xs v
 len:=by simp_all
 one:=λ⟨_,h,hs⟩=>by subst h;simp[hs.one]
 fh:=λa ⟨v,h,hs⟩=>⟨v,h,hs.fh a⟩
 mono:=λc ⟨v,h,hs⟩=>⟨v,h,hs.mono c⟩
section
variable{α:Type}{e:rG α}{b:Nat->Prop}{h h':Hp}{xs:List α}{v:V}
theorem iH.len(hs:iH e b h xs v):fD v=some (.int .i64 xs.length):=by
 rcases hs with⟨rfl,rfl⟩|⟨l,off,ty,live,ro,cs,rfl,_⟩ <;> rfl
theorem iH.nil:iH e b h [] .ed:= .inl ⟨rfl,rfl⟩
theorem iH.ix(hs:iH e b h xs v) {i:Nat} (hi:i<xs.length) (c:IntKind) :
  ∃l o w,b l/\gP e.sz v (.int c i)=some (.ptr l o)/\gy e.sz (.ptr l o) h=some (.agg w)/\e.rel b h xs[i] w/\∀k u,w[k]? =some u->eC (.ptr l (o+k)) h=some u:=by
 rcases hs with⟨_,rfl⟩|⟨l,off,ty,live,ro,cs,rfl,d,a,n,p,f⟩
 ·grind
 ·obtain rfl:live=true:=by grind
  let⟨w,g,j,m⟩:=f.get (i:=i) (x:=xs[i]) (by simp_all)
  rw[wBa]at j;have hd:(cs.drop (off+i*e.sz)).take e.sz=w:=by rw[<-g,wBe]
  refine⟨l,off+i*e.sz,w,d,by grind[wx],?_,m,λk u q=>?_⟩
  ·rw[xn a,Gk (by omega),hd];rfl
  ·rw[RA a,Qx]
   grind
theorem iH.XZ(hs:iH e b h xs v) {i:Nat} (hi:i<xs.length) (a:IntKind) (c:e.sz=1) :
  ∃l o u,b l/\gP 1 v (.int a i)=some (.ptr l o)/\eC (.ptr l o) h=some u/\e.rel b h xs[i] [u]:=by
 let⟨l,o,w,h0,d,_,f,g⟩:=hs.ix hi a
 rw [c]at d;have hl:=e.len f;rw[c]at hl;obtain⟨u,rfl⟩:∃u,w=[u]:=by
  match w,hl with
  |[u],_=>simp_all
 exact⟨l,o,u,h0,d,g 0 u rfl,f⟩
theorem iH.UR{a:Nat->Prop} {ty:Nat} {ro:Bool} {cs:List V} (d:pU e b h cs xs) (g:∀l,b l->l<h.next) (c:∀l,b l->a l) (f:a h.next):iH e a (h.new (.cells ty e.sz true ro cs)) xs (.slice h.next 0 xs.length):=
 .inr ⟨h.next,0,ty,true,ro,cs,rfl,f,eJ _ _,.inr rfl,Ll _,(d.fh (by grind[eE])).mono c⟩
theorem iH.new{ty:Nat} {ro:Bool} {cs:List V} {n:Nat} (b:pU e (lo n) h cs xs) (a:n<=h.next):iH e (lo (h.next+1)) (h.new (.cells ty e.sz true ro cs)) xs (.slice h.next 0 xs.length):=
 .UR b (λ_ hl=>Dy hl a) (λ_ hl=>wBV (Dy hl a)) (RC _)
end
section
variable (t:Nat)(k:IntKind)(a b:Int)
@[simp] theorem Cv:ef .add t (.int k a) (.int k b)=some (.int k (iy k (a+b))):=by cases k <;> rfl
@[simp] theorem iu:ef .sub t (.int k a) (.int k b)=some (.int k (iy k (a-b))):=by cases k <;> rfl
@[simp] theorem Gb:ef .mul t (.int k a) (.int k b)=some (.int k (iy k (a*b))):=by cases k <;> rfl
@[simp] theorem jC:ef .lss t (.int k a) (.int k b)=some (.bool (decide (a<b))):=by cases k <;> rfl
@[simp] theorem Of:ef .leq t (.int k a) (.int k b)=some (.bool (decide (a<=b))):=by cases k <;> rfl
@[simp] theorem iG:ef .gtr t (.int k a) (.int k b)=some (.bool (decide (b<a))):=by cases k <;> rfl
@[simp] theorem jc:ef .geq t (.int k a) (.int k b)=some (.bool (decide (b<=a))):=by cases k <;> rfl
@[simp] theorem iE:ef .eql t (.int k a) (.int k b)=some (.bool (a == b)):=by cases k <;> rfl
@[simp] theorem vB:ef .neq t (.int k a) (.int k b)=some (.bool (a != b)):=by cases k <;> rfl
@[simp] theorem PD (x y:List UInt8):ef .eql t (.str x) (.str y)=some (.bool (x == y)):=rfl
@[simp] theorem zex (x y:List UInt8):ef .neq t (.str x) (.str y)=some (.bool (!(x == y))):=rfl
@[simp] theorem zbr (x:Bool):qH .not (.bool x)=some (.bool !x):=rfl
@[simp] theorem zgo:qH .neg (.int k a)=some (.int k (iy k (0-a))):=rfl
theorem gS{k:IntKind} {n:Int} (h:Cf k n):iy k n=n:=by
 rw[pA];cases k <;> simp only[Cf]at h <;> simp only[IntKind.wrap,IntKind.signed,IntKind.bits,Bool.true_and,Bool.false_and,AL,PM,if_false,Nat.reduceSub,Int.reducePow,ge_iff_le] <;> (try split) <;> omega
@[simp] theorem Qg {n:Nat} (h:n<9223372036854775808):iy .i64 (n:Int)=n:=gS (by simp only[Cf];omega)
@[simp] theorem SY (g:Bool):Rz g (.int k a) [.int k b]=some (.int k (if g then max a b else min a b)):=by
 cases g
 ·show some (V.int k (if b<a then b else a))=_;simp only[PM,if_false];congr 2;omega
 ·show some (V.int k (if b>a then b else a))=_;simp only[if_true];congr 2;omega
end
theorem ZC(n:Nat) (z:V):Bt n [z]=List.replicate n z:=by
 induction n <;> grind[Bt]
theorem OQ{e sz lE n:Nat} {z:V} (a:n*lE<=281474976710656) (b:n<=1099511627776) :
  jo e sz lE z (.int .i64 (n:Int)) (.int .i64 (n:Int))=some (O.cells e sz true false (Bt n z.cells),λl=>V.slice l 0 n):=by
 show bB (Nat.ble n n) (bB (Nat.ble (n*lE) 281474976710656) (bB (Nat.ble n 1099511627776) (some (O.cells e sz true false (Bt n z.cells),λl=>V.slice l 0 n))))=_
 simp_all[zi,X2,jv]
theorem T6{cs:List V} {v:V}:∀{o:Nat},o<cs.length->qv o cs [v]=some (cs.set o v):=by
 induction cs with
 |nil=>simp_all
 | cons c cs a=>
   intro o h
   cases o with
   |zero=>rfl
   | succ o=>
     grind[qv,eD]
theorem VL:∀{ws cs:List V},ws.length<=cs.length->over ws cs=some (ws++cs.drop ws.length)
 |[],_,_=>rfl
 |w::ws,[],h=>by simp_all
 | w::ws,c::cs,h=>by
   have:=VL (ws:=ws) (cs:=cs) (by simp_all)
   grind[over,eD]
theorem BU:∀{o:Nat} {cs ws:List V},o+ws.length<=cs.length->qv o cs ws=some (cs.take o++ws++cs.drop (o+ws.length))
 |0,cs,ws,h=>by simp_all[qv,VL]
 |o+1,[],ws,h=>by simp_all
 | o+1,c::cs,ws,h=>by
   have:=BU (o:=o) (cs:=cs) (ws:=ws) (by grind)
   grind[qv,eD]
theorem tM{v:V} (h:v.one=true):v.cells=[v]:=by
 cases v <;> first|rfl|cases h
section
variable{l o e sz:Nat}{cs:List V}{h:Hp}{v:V}
theorem Ox(a:h.get l=some (.cells e sz true false cs)) (b:o<cs.length) (hv:v.one=true):gL 1 (.ptr l o) v h=some (.val .undef (h.put l (.cells e sz true false (cs.set o v)))):=by
 unfold gL EC jW;simp only[tw,tM hv,a,eD,fe,hv,T6 b];rfl
theorem GX{ws:List V} {n:Nat} (a:h.get l=some (.cells e sz true false cs)) (b:ws.length=n) (hc:cs.length=n) (hv:gz ws=true):gL n (.ptr l 0) (.agg ws) h=some (.val .undef (h.put l (.cells e sz true false ws))):=by
 unfold gL EC jW;have hs:qv 0 cs ws=some ws:=by
  rw[BU (by omega),List.take_zero,OJ,wBS (by omega),Hf]
 grind[tw,V.cells,eD,zi,XV]
theorem zdp{ws:List V} {n:Nat} (a:h.get l=some (.cells e sz true false cs)) (b:ws.length=n) (hc:o+n<=cs.length) (hv:gz ws=true) :
  gL n (.ptr l o) (.agg ws) h=some (.val .undef (h.put l (.cells e sz true false (cs.take o++ws++cs.drop (o+n))))):=by
 unfold gL EC jW;simp[ V.cells,a,BU (show o+ws.length<=cs.length by omega)]
 simp_all
theorem j5{u:V}{ro:Bool}(a:h.get l=some (.cells e sz true ro cs))(b:cs[o]? =some u):eC (.ptr l o) h=some u:=by rw[RA a,Qx,b]
theorem Av{n:Nat} {ro:Bool} (a:h.get l=some (.cells e sz true ro cs)) (b:cs.length=n):gy n (.ptr l 0) h=some (.agg cs):=by
 rw[xn a,Gk (by omega),wBL,Uj (by omega)];rfl
end
section
variable{α:Type}{e:rG α}{b:Nat->Prop}{h:Hp}
theorem pU.drop:∀{xs:List α} {cs:List V} (n:Nat),pU e b h cs xs->n<=xs.length->pU e b h (cs.drop (n*e.sz)) (xs.drop n)
 |xs,cs,0,hw,_=>by simp_all
 |[],cs,n+1,_,hn=>by simp_all
 | x::xs,cs,n+1,⟨w,r,a,c,d⟩,hn=>by
   have:=pU.drop n d (by simpa using hn);have hl:=e.len c;subst a;rw[ XA,Nat.one_mul,Nat.add_comm,<-wBe]
   simp_all
theorem pU.taken:∀{xs:List α} {cs:List V} (n:Nat),pU e b h cs xs->pU e b h cs (xs.take n)
 |xs,cs,0,_=>by simp[List.take_zero];trivial
 |[],cs,n+1,_=>by simp_all
 |x::xs,cs,n+1,⟨w,r,a,c,d⟩=>⟨w,r,a,c,pU.taken n d⟩
theorem Qa(z:Nat) (k:IntKind) (n:Nat):hbound z (some (.int k n))=some n:=by
 rfl
theorem L0(z:Nat):hbound z none=some z:=rfl
theorem iH.cut{xs:List α} {v:V} (hs:iH e b h xs v) {lo hi:Option V} {m n:Nat} (i:hbound 0 lo=some m) (j:hbound xs.length hi=some n) (k:m<=n) (a:n<=xs.length) :
  ∃d,iL e.sz v lo hi h=some d/\iH e b h ((xs.take n).drop m) d:=by
 rcases hs with⟨rfl,rfl⟩|⟨l,off,ty,live,ro,cs,rfl,o,p,r,s,f⟩
 ·simp at a;subst a;obtain rfl:m=0:=by omega
  refine⟨.ed,?_,.inl ⟨rfl,by simp⟩⟩
  simp_all[iL,eD]
 ·have q:=f.length;have g:m*e.sz<=n*e.sz:=wA9 _ k;have c:n*e.sz<=xs.length*e.sz:=wA9 _ a;rw[wBa]at q;refine⟨.slice l (off+m*e.sz) (n-m),?_,?_⟩
  ·grind[iL,jW,eD,zi,XV,X2]
  ·have hlen:((xs.take n).drop m).length=n-m:=by rw[wBa,Rh];omega
   refine .inr ⟨l,off+m*e.sz,ty,live,ro,cs,by rw[hlen],o,p,?_,by omega,?_⟩
   ·grind
   ·rw[<-wBe];exact(f.taken n).drop m (by simp_all)
end
section
variable{e sz a n:Nat}{h h':Hp}{cs:List V}{v:V}
theorem nC{e sz k:Nat} {h:Hp} {cs:List V} {ro:Bool} (hl:cs.length=(k+1)*sz):kV (h.new (.cells e sz true ro cs)) sz (.slice h.next 0 (k+1))=some (k+1,cs):=by
 unfold kV Hj jW;have:sub cs 0 (Nat.mul (Nat.succ k) sz)=some cs:=by
  show sub cs 0 ((k+1)*sz)=some cs;rw[Gk (by omega),wBL,Uj (by omega)]
 grind[eJ,eD,BS]
end
