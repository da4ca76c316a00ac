/- Parts. -/
import Derived.Test.YtcoaokdoecgcbaaGreatDoorM08
import Derived.KernelRfl
set_option maxHeartbeats 4000000
namespace Go.Proofs.YtcoaokdoecgcbaaGreatDoor.Hx
def _root_.Go.Code.l:Code->Code
 | .seq a _=>a
 | .cond _ a _=>a
 | .block _ c=>c
 | .loop c=>c
 |_=> .skip
def _root_.Go.Code.r:Code->Code
 | .seq _ b=>b
 | .cond _ _ b=>b
 |_=> .skip
def NC(fn:Func):Code:=match fn.body with
 |some c=>c
 |none=> .skip
noncomputable section
def ez(a:V)(h:Hp):Option V:=vZ a λl off=>ld1 h l off
def fZ(n:Nat)(a:V)(h:Hp):Option V:=vZ a λl off=>oB (Mb h l off n) λcs=>some (.agg cs)
def fJ(k:Nat)(x:V):Option V:=vZ x λl off=>some (.ptr l (Nat.add off k))
def gM(n:Nat) (x i:V):Option V:=asNat i λi=>match x with
 | .slice l off len=>bB (Nat.blt i len) (some (.ptr l (Nat.add off (Nat.mul i n))))
 |_=>none
def qy(len n:Nat)(x i:V):Option V:=asNat i λi=>vZ x λl off=>bB (Nat.blt i len) (some (.ptr l (Nat.add off (Nat.mul i n))))
def yP(c a b:V):Option V:=match c with
 | .bool x=>Bool.rec (some b) (some a) x
 |_=>none
def fR(x:V):Option V:=match x with
 | .ptr l off=>some (.ptr l off)
 | .func f a c=>some (.func f a c)
 | .iface u v=>some (.iface u v)
 |_=>none
def jN(k:IntKind) (x:V):Option V:=match x with
 | .int _ n=>some (.int k (jo k n))
 |_=>none
def fq(z:List V)(a:List (Nat×Nat))(b:List (Nat×V)):Option V:=oB (yd (λi=>a[i]?) z b) λcs=>some (.agg cs)
def zes(size:Nat)(z:List V)(a:List (Nat×V)):Option V:=oB (yd (λi=>some (Nat.mul i size,size)) z a) λcs=>some (.agg cs)
def qV(i:Nat) (x:V):Option V:=match x with
 | .tuple vs=>NN vs i
 |_=>none
def zhe(x:V):Option V:=match x with
 | .str s=>some (.int .i64 (.ofNat s.length))
 |_=>none
def fE(x:V):Option V:=match x with
 | .slice _ _ n=>some (.int .i64 (.ofNat n))
 | .ed=>some (.int .i64 (.ofNat 0))
 |_=>none
def rH(kt:Nat) (d:Option (List Field)) (z:V) (ok:Bool) (m k:V) (h:Hp):Option V:=bB (KY d k) (match m with
 | .nA=>some (found z ok none)
 | .map l=>zU h l (λes _=>oB (oU kt d k es 0) λr=>some (found z ok r)) (Pk kt d z ok k)
 |_=>none)
def iO(a size len:Nat) (z:V) (b:List (Nat×V)):Option (O×(Nat->V)):=oB (yd (λi=>some (Nat.mul i size,size)) (DD len z.cells) b) λcs=>bB (gi cs) (some (.cells a size true false cs,λl=> .slice l 0 len))
def gj(n:Nat)(a v:V)(h:Hp):Option R:=vZ a λl off=>bB (Nat.beq v.cells.length n) (oB (LX h l off v.cells) λh=>some (.val .undef h))
end
noncomputable section
def eJ(x:Option R)(K:V->Hp->Prop):Prop:=oP (oB x valOf) λy=>K y.1 y.2
def gP(C:mh)(x:Option R)(h:Hp)(K:V->Hp->Prop):Prop:=oP (oB x Ba) λy=>cP C y.1 y.2 h K
def dcP(C:mh)(f:Nat)(l:List V)(h:Hp)(K:V->Hp->Prop):Prop:=oP (some (f,l)) λy=>cP C y.1 y.2 h K
def gU(x:Option (O×(Nat->V)))(h:Hp)(K:V->Hp->Prop):Prop:=oP x λr=>K (r.2 h.next) (h.new r.1)
def uj(x:Option (O×(Nat->V)))(h:Hp)(K:O->V->Hp->Prop):Prop:=oP x λr=>K r.1 (r.2 h.next) (h.new r.1)
def ghP(b:Bool)(h:Hp)(x:Option (V×Hp))(K:V->Hp->Prop):Prop:=oP (gH b h x) λy=>K y.1 y.2
def LZ(t:Nat) (_ x:V):Option V:=match x with
 | .iface t' v=>bB (Nat.beq t' t) (some v)
 |_=>none
def gT(b:Bool)(p:Prop):Prop:=Bool.rec True p b
def gD(w:Bool) (x:V):Option Bool:=match x with
 | .bool b=>some (Bool.rec (!w) w b)
 | .tuple []=>some false
 |_=>none
end
theorem zaq(f:Nat->V) (d:Nat) (v:V):nG f d v d=v:=by
 simp_all[nG,wBh]
theorem zdQ(f:Nat->V) {d i:Nat} (v:V) (h:i≠d):nG f d v i=f i:=by
 unfold nG;cases hb:Nat.beq i d <;> simp_all
@[simp] theorem eQ {α β:Type} (a:α) (k:α->Option β):oB (some a) k=k a:=rfl
@[simp] theorem zg2 {α β:Type} (k:α->Option β):oB (none:Option α) k=none:=rfl
@[simp] theorem MY {β:Type} (k:Option β):bB true k=k:=rfl
@[simp] theorem zgv {β:Type} (k:Option β):bB false k=none:=rfl
theorem Al{β:Type}{c:Bool}(k:Option β)(h:c=true):bB c k=k:=by simp_all
@[simp] theorem JB {β:Type} (l o:Nat) (k:Nat->Nat->Option β):vZ (.ptr l o) k=k l o:=rfl
@[simp] theorem ze7 {β:Type} (a:IntKind) (n:Nat) (k:Nat->Option β):asNat (.int a (.ofNat n)) k=k n:=rfl
@[simp] theorem zfM {β:Type} (a:IntKind) (n:Nat) (k:Nat->Option β):asNat (.int a (n:Int)) k=k n:=rfl
@[simp] theorem zgr {β:Type} (a:IntKind) (n:Nat) (k:Nat->Option β):asNat (.int a (OfNat.ofNat n:Int)) k=k n:=rfl
@[simp] theorem zgl {β:Type} (a:IntKind) (k:Nat->Option β):asNat (.int a 0) k=k 0:=rfl
@[simp] theorem zgp {β:Type} (a:IntKind) (k:Nat->Option β):asNat (.int a 1) k=k 1:=rfl
@[simp] theorem fo (k l o:Nat):fJ k (.ptr l o)=some (.ptr l (o+k)):=rfl
@[simp] theorem eC (l o:Nat):fR (.ptr l o)=some (.ptr l o):=rfl
@[simp] theorem zgt (f:Nat) (a c:List V):fR (.func f a c)=some (.func f a c):=rfl
@[simp] theorem zf1 (l o n:Nat):fE (.slice l o n)=some (.int .i64 n):=rfl
@[simp] theorem zgJ:fE .ed=some (.int .i64 0):=rfl
@[simp] theorem zgq (s:List UInt8):zhe (.str s)=some (.int .i64 s.length):=rfl
@[simp] theorem Fc (x:Bool) (a b:V):yP (.bool x) a b=some (if x=true then a else b):=by cases x <;> rfl
@[simp] theorem gg (k k':IntKind) (n:Int):jN k (.int k' n)=some (.int k (jo k n)):=rfl
@[simp] theorem zgd (i:Nat) (vs:List V):qV i (.tuple vs)=NN vs i:=rfl
@[simp] theorem fK (o:O) (f:Nat->V) (h:Hp) (K:V->Hp->Prop):gU (some (o,f)) h K=K (f h.next) (h.new o):=rfl
@[simp] theorem gI (o:O) (f:Nat->V) (h:Hp) (K:O->V->Hp->Prop):uj (some (o,f)) h K=K o (f h.next) (h.new o):=rfl
@[simp] theorem eh (v:V) (h:Hp) (K:V->Hp->Prop):eJ (some (.val v h)) K=K v h:=rfl
@[simp] theorem JK (C:mh) (f:Nat) (l:List V) (h:Hp) (K:V->Hp->Prop):gP C (some (.call f l)) h K=cP C f l h K:=rfl
@[simp] theorem zh5 (C:mh) (f:Nat) (l:List V) (h:Hp) (K:V->Hp->Prop):dcP C f l h K=cP C f l h K:=rfl
@[simp] theorem Lr (f:Nat) (a c l:List V):gh (.func f a c) l=some (.call f (a++(l++c))):=rfl
@[simp] theorem zgN (w b:Bool):gD w (.bool b)=some (b == w):=by cases w <;> cases b <;> rfl
@[simp] theorem zhx (x:Option V):gV true x=x:=rfl
@[simp] theorem zgU (x:Option V):gV false x=some .undef:=rfl
@[simp] theorem zhw (x:Option (Nat×List V)):gC true x=oB x λy=>some (some y):=rfl
@[simp] theorem zhg (x:Option (Nat×List V)):gC false x=some none:=rfl
@[simp] theorem zhA (p:Prop):gT true p=p:=rfl
@[simp] theorem zg7 (p:Prop):gT false p=True:=rfl
@[simp] theorem zhl (C:mh) (y:Nat×List V) (h:Hp) (K:V->Hp->Prop):zL C (some y) h K=cP C y.1 y.2 h K:=rfl
@[simp] theorem zhd (C:mh) (h:Hp) (K:V->Hp->Prop):zL C none h K=K .undef h:=rfl
theorem wz(n l o len i:Nat) (a:IntKind) (h:i<len):gM n (.slice l o len) (.int a i)=some (.ptr l (o+i*n)):=by
 show bB (Nat.blt i len) _=_
 grind[Al,Yh]
theorem S7{l o e sz:Nat} {ro:Bool} {cs:List V} {h:Hp} (a:h.get l=some (.cells e sz true ro cs)):ez (.ptr l o) h=NN cs o:=by
 simp_all[ez,ld1,kR]
theorem zy{n l o e sz:Nat} {ro:Bool} {cs:List V} {h:Hp} (a:h.get l=some (.cells e sz true ro cs)):fZ n (.ptr l o) h=oB (sub cs o n) λcs=>some (.agg cs):=by
 simp_all[fZ,Mb,kR]
@[simp] theorem zhm (v:V) (l:List V):NN (v::l) 0=some v:=rfl
@[simp] theorem zgE (v:V) (l:List V) (n:Nat):NN (v::l) (n+1)=NN l n:=rfl
theorem Uj(l:List V)(n:Nat):NN l n=l[n]?:=by grind[NN,List.head?_drop]
@[simp] theorem zft (l:List V):takeN 0 l=some []:=by rfl
@[simp] theorem zfI (n:Nat) (v:V) (l:List V):takeN (n+1) (v::l)=oB (takeN n l) λr=>some (v::r):=rfl
theorem WE:∀n l,n<=l.length->takeN n l=some (l.take n)
 |0,l,_=>by rfl
 |n+1,[],h=>by simp_all
 |n+1,v::l,h=>by simp[ WE n l (by simp_all)]
theorem I4{l:List V} {o n:Nat} (h:o+n<=l.length):sub l o n=some ((l.drop o).take n):=by
 grind[sub,WE]
@[simp] theorem gQ {α:Type} (a:α) (k:α->Prop):oP (some a) k=k a:=rfl
@[simp] theorem zhh (x:Bool) (a b:Prop):bP (.bool x) a b=if x=true then a else b:=mf x a b
@[simp] theorem zgw (v:V) (h:Hp):valOf (.val v h)=some (v,h):=rfl
@[simp] theorem zfl (f:Nat) (l:List V):Ba (.call f l)=some (f,l):=rfl
section
variable{C:mh}{n:Nat}{Q:X->iG->Hp->Prop}{ρ:iG}{h:Hp}
theorem oSm{α:Type}{a:α}{k:α->Prop}(h:k a):oP (some a) k:=h
theorem oM{α:Type} {x:Option α} {k k':α->Prop} (h:oP x k) (f:∀a,x=some a->k a->k' a):oP x k':=by
 grind[ma,ec]
theorem bM{v:V} {a b c d:Prop} (h:bP v a b) (f:a->c) (g:b->d):bP v c d:=by
 unfold bP at h⊢;split at h
 ·rename_i x;cases x <;> grind
 omega
theorem zg8{x:Option (O×(Nat->V))} {k k':O->V->Hp->Prop} (h':uj x h k) (F:∀o v h',k o v h'->k' o v h'):uj x h k':=
 oM h' (by simp_all)
theorem zdm{x:Option R} {k k':V->Hp->Prop} (h':eJ x k) (F:∀v h',k v h'->k' v h'):eJ x k':=
 oM h' (by simp_all)
theorem anM{a b c:Prop}(h:c/\a)(f:a->b):c/\b:=by simp_all
@[simp] theorem O.jS (e sz:Nat) (a r:Bool) (cs:List V):O.beq (.cells e sz a r cs) (.cells e sz a r cs)=true:=by
 simp[O.beq,V.AY]
@[simp] theorem O.zhB (c:Nat):O.beq (.map [] c) (.map [] c)=true:=by simp[O.beq]
def mi(c:V) (X:Option V):Option V:=match c with
 | .bool true=>some (.bool true)
 | .bool false=>X
 |_=>none
def iM(c:V) (X:Option V):Option V:=match c with
 | .bool false=>some (.bool false)
 | .bool true=>X
 |_=>none
@[simp] theorem zhb (X:Option V):mi (.bool true) X=some (.bool true):=rfl
@[simp] theorem qK (X:Option V):mi (.bool false) X=X:=rfl
@[simp] theorem yo (X:Option V):iM (.bool true) X=X:=rfl
@[simp] theorem yC (X:Option V):iM (.bool false) X=some (.bool false):=rfl
@[simp] theorem jj (c d:Bool):mi (.bool c) (some (.bool d))=some (.bool (c ||d)):=by cases c <;> rfl
@[simp] theorem iT (c d:Bool):iM (.bool c) (some (.bool d))=some (.bool (c&&d)):=by cases c <;> rfl
variable{c c' Xc:V}{X X':Option V}{K:V->Prop}{f:V->Option V}{w b0:Bool}
structure uE (S:Nat->Prop) (h h':Hp):Prop where
 next:h.next<=h'.next
 fy:∀l,l<h.next->¬S l->h'.get l=h.get l
abbrev SK(h h':Hp):Prop:=uE (λ_=>False) h h'
theorem uE.refl(S:Nat->Prop)(h:Hp):uE S h h:=⟨jJ _,by simp_all⟩
theorem uE.trans'{S d:Nat->Prop} {h h' c:Hp} (a:uE S h h') (b:uE d h' c) (hs:∀l,l<h.next->d l->S l):uE S h c:=
 ⟨OA a.next b.next,λl hl e=>by rw[b.fy l (NY hl a.next) (by grind),a.fy l hl e]⟩
theorem uE.trans{S:Nat->Prop}{h h' c:Hp}(a:uE S h h')(b:uE S h' c):uE S h c:=a.trans' b (by simp_all)
theorem uE.zhP{S b:Nat->Prop} {h h':Hp} (a:uE S h h') (hs:∀l,l<h.next->S l->b l):uE b h h':=
 ⟨a.next,λl hl c=>a.fy l hl (by grind)⟩
theorem uE.new{S:Nat->Prop} (h:Hp) (o:O):uE S h (h.new o):=
 ⟨K5 _,λl hl _=>by rw[xm,if_neg (by omega)]⟩
theorem uE.put{S:Nat->Prop} {h:Hp} {l:Nat} (o:O) (hs:S l) (hl:l<h.next):uE S h (h.put l o):=
 ⟨jJ _,λm _ a=>by rw[jP _ _ hl,if_neg (by grind)]⟩
theorem fh(h:Hp)(o:O):(h.new o).get h.next=some o:=by rw[xm,if_pos rfl]
theorem fi{h:Hp}(o:O){l:Nat}(hl:l<h.next):(h.new o).get l=h.get l:=by rw[xm,if_neg (by omega)]
theorem iB{h:Hp}{l:Nat}(o:O)(hl:l<h.next):(h.put l o).get l=some o:=by rw[jP _ _ hl,if_pos rfl]
theorem lE{h:Hp}{l m:Nat}(o:O)(hl:l<h.next)(a:l≠m):(h.put l o).get m=h.get m:=by simp_all[jP,if_neg]
@[simp] theorem zgO (h:Hp) (o:O):(h.new o).next=h.next+1:=rfl
@[simp] theorem zgA (h:Hp) (l:Nat) (o:O):(h.put l o).next=h.next:=rfl
structure tq (α:Type) where
 sz:Nat
 rel:(Nat->Prop)->Hp->α->List V->Prop
 len:∀{b h x cs},rel b h x cs->cs.length=sz
 one:∀{b h x cs},rel b h x cs->gi cs=true
 fy:∀{b h h' x cs},(∀l,b l->h'.get l=h.get l)->rel b h x cs->rel b h' x cs
 mono:∀{b b' h x cs},(∀l,b l->b' l)->rel b h x cs->rel b' h x cs
def lo(b:Nat):Nat->Prop:=λl=>l<b
theorem vB{b a:Nat}(h:b<=a):∀l,lo b l->lo a l:=λ_ hl=>NY hl h
theorem qL:∀a b,gi (a++b)=(gi a&&gi b)
 |[],b=>by rfl
 | v::a,b=>by
   simp[ gi,qL a b];cases v.one <;> simp
@[simp] theorem zf6:gi []=true:=rfl
@[simp] theorem fe (v:V) (l:List V):gi (v::l)=(v.one&&gi l):=by
 simp[gi];cases v.one <;> rfl
def ml:IntKind->Int->Prop
 | .i8,n=>-128<=n/\n<=127
 | .i16,n=>-32768<=n/\n<=32767
 | .i32,n=>-2147483648<=n/\n<=2147483647
 | .i64,n=>-9223372036854775808<=n/\n<=9223372036854775807
 | .u8,n=>0<=n/\n<=255
 | .u16,n=>0<=n/\n<=65535
 | .u32,n=>0<=n/\n<=4294967295
 | .u64,n=>0<=n/\n<=18446744073709551615
def eI(k:IntKind):tq Int where
 sz:=1
 rel _ _ n cs:=cs=[.int k n]/\ml k n
 len h:=by simp_all
 one h:=by rw[h.1];rfl
 fy _ h:=h
 mono _ h:=h
def eB:tq Bool where
 sz:=1
 rel _ _ n cs:=cs=[.bool n]
 len h:=by simp_all
 one h:=by subst h;rfl
 fy _ h:=h
 mono _ h:=h
def eS:tq (List UInt8) where
 sz:=1
 rel _ _ n cs:=cs=[.str n]
 len h:=by simp_all
 one h:=by subst h;rfl
 fy _ h:=h
 mono _ h:=h
def eP{α β:Type} (e:tq α) (f:tq β):tq (α×β) where
 sz:=e.sz+f.sz
 rel b h x cs:=∃p q,cs=p++q/\e.rel b h x.1 p/\f.rel b h x.2 q
 len:=λ⟨_,_,h,a,c⟩=>by subst h;simp[e.len a,f.len c]
 one:=λ⟨_,_,h,a,c⟩=>by subst h;simp[qL,e.one a,f.one c]
 fy:=λd ⟨p,q,h,a,c⟩=>⟨p,q,h,e.fy d a,f.fy d c⟩
 mono:=λg ⟨p,q,h,a,c⟩=>⟨p,q,h,e.mono g a,f.mono g c⟩
def eM{α β:Type} (g:β->α) (e:tq α):tq β where
 sz:=e.sz
 rel b h x cs:=e.rel b h (g x) cs
 len h:=e.len h
 one h:=e.one h
 fy hk h:=e.fy hk h
 mono hb h:=e.mono hb h
def rL{α:Type} (e:tq α) (b:Nat->Prop) (h:Hp):List V->List α->Prop
 |_,[]=>True
 |cs,x::xs=>∃w r,cs=w++r/\e.rel b h x w/\rL e b h r xs
variable{α:Type}{e:tq α}{b:Nat->Prop}{h':Hp}
theorem rL.fy(a:∀l,b l->h'.get l=h.get l):∀{xs:List α} {cs:List V},rL e b h cs xs->rL e b h' cs xs
 |[],_,_=>trivial
 |_::_,_,⟨w,r,c,d,f⟩=>⟨w,r,c,e.fy a d,rL.fy a f⟩
theorem rL.mono{a:Nat->Prop} (c:∀l,b l->a l):∀{xs:List α} {cs:List V},rL e b h cs xs->rL e a h cs xs
 |[],_,_=>trivial
 |_::_,_,⟨w,r,d,f,g⟩=>⟨w,r,d,e.mono c f,rL.mono c g⟩
theorem rL.length:∀{xs:List α} {cs:List V},rL e b h cs xs->xs.length*e.sz<=cs.length
 |[],_,_=>by simp
 | _::xs,_,⟨w,r,a,c,d⟩=>by
   have:=rL.length d;have hl:=e.len c;subst a;simp[ ZX];omega
theorem rL.get:∀{xs:List α} {cs:List V},rL e b h cs xs->∀{i:Nat} {x:α},xs[i]? =some x->∃w,(cs.drop (i*e.sz)).take e.sz=w/\i*e.sz+e.sz<=cs.length/\e.rel b h x w
 |[],_,_,i,x,hx=>by simp_all
 | y ::xs,_,⟨w,r,a,c,d⟩,i,x,hx=>by
   have hl:=e.len c;subst a
   cases i with
   | zero=>
     simp_all
   | succ i=>
     let⟨w',f,j,g⟩:=rL.get d (i:=i) (x:=x) (by simp_all)
     refine⟨w',?_,?_,g⟩
     ·rw[<-f,ZX,Nat.add_comm,<-hl];simp
     grind
theorem rL.append{ys:List α}:∀{xs:List α} {cs ds:List V},rL e b h cs xs->cs.length=xs.length*e.sz->rL e b h ds ys->rL e b h (cs++ds) (xs++ys)
 | [],cs,ds,_,hl,a=>by
   simp_all
 | x::xs,_,ds,⟨w,r,c,a,d⟩,hl,f=>by
   subst c;have g:=e.len a;refine⟨w,r++ds,by simp,a,rL.append d ?_ f⟩
   grind
theorem rL.take:∀{xs:List α} {cs:List V},rL e b h cs xs->rL e b h (cs.take (xs.length*e.sz)) xs
 |[],_,_=>trivial
 | _::xs,_,⟨w,r,c,a,d⟩=>by
   have f:=e.len a;subst c;refine⟨w,r.take (xs.length*e.sz),?_,a,rL.take d⟩
   simp_all[List.take_append,Xb,ZX]
theorem rL.more{ds:List V}:∀{xs:List α} {cs:List V},rL e b h cs xs->rL e b h (cs++ds) xs
 |[],_,_=>trivial
 |_::_,_,⟨w,r,a,c,d⟩=>⟨w,r++ds,by rw[a,Cy],c,rL.more d⟩
theorem rL.set:∀{xs:List α} {cs:List V},rL e b h cs xs->∀{i:Nat} {y:α} {w:List V},i<xs.length->e.rel b h y w->rL e b h (cs.take (i*e.sz)++w++cs.drop (i*e.sz+e.sz)) (xs.set i y)
 |[],_,_,i,y,w,hi,_=>by simp_all
 | x ::xs,_,⟨u,r,d,a,c⟩,i,y,w,hi,hw=>by
   have f:=e.len a;subst d
   cases i with
   | zero=>
     refine⟨w,r,?_,hw,c⟩
     simp_all
   | succ i=>
     refine⟨u,_,?_,a,rL.set c (by simpa using hi) hw⟩;have e1:(i+1)*e.sz=u.length+i*e.sz:=by rw[ZX,Nat.one_mul];omega
     have e2:(i+1)*e.sz+e.sz=u.length+(i*e.sz+e.sz):=by omega
     rw[e2,e1,List.take_length_add_append,<-wBi]
     simp_all
def hD{α:Type} (e:tq α) (b:Nat->Prop) (h:Hp) (xs:List α) (v:V):Prop:=(v = .ed/\xs=[])\/∃l off ty live ro cs,v = .slice l off xs.length/\b l/\h.get l=some (.cells ty e.sz live ro cs)/\(xs=[]\/live=true)/\off<=cs.length/\rL e b h (cs.drop off) xs
variable{xs:List α}{v:V}
theorem hD.fy(a:∀l,b l->h'.get l=h.get l) (hs:hD e b h xs v):hD e b h' xs v:=by
 rcases hs with hs|⟨l,off,ty,live,ro,cs,c,d,j,f,g,i⟩
 ·exact .inl hs
 ·exact .inr ⟨l,off,ty,live,ro,cs,c,d,by simp_all,f,g,i.fy a⟩
theorem hD.mono{a:Nat->Prop} (c:∀l,b l->a l) (hs:hD e b h xs v):hD e a h xs v:=by
 rcases hs with hs|⟨l,off,ty,live,ro,cs,d,f,g,i,j,k⟩
 ·exact .inl hs
 ·exact .inr ⟨l,off,ty,live,ro,cs,d,c l f,g,i,j,k.mono c⟩
theorem hD.one(hs:hD e b h xs v):v.one=true:=by
 rcases hs with⟨rfl,_⟩|⟨l,off,ty,live,ro,cs,rfl,_⟩ <;> rfl
def eL{α:Type} (e:tq α):tq (List α) where
 sz:=1
 rel b h xs cs:=∃v,cs=[v]/\hD e b h xs v
 len:=by simp_all
 one:=λ⟨_,h,hs⟩=>by subst h;simp[hs.one]
 fy:=λa ⟨v,h,hs⟩=>⟨v,h,hs.fy a⟩
 mono:=λc ⟨v,h,hs⟩=>⟨v,h,hs.mono c⟩
theorem hD.len(hs:hD e b h xs v):fE v=some (.int .i64 xs.length):=by
 rcases hs with⟨rfl,rfl⟩|⟨l,off,ty,live,ro,cs,rfl,_⟩ <;> rfl
theorem hD.nil:hD e b h [] .ed:= .inl ⟨rfl,rfl⟩
theorem hD.ix(hs:hD e b h xs v) {i:Nat} (hi:i<xs.length) (c:IntKind) :
  ∃l o w,b l/\gM e.sz v (.int c i)=some (.ptr l o)/\fZ e.sz (.ptr l o) h=some (.agg w)/\e.rel b h xs[i] w/\∀k u,w[k]? =some u->ez (.ptr l (o+k)) h=some u:=by
 rcases hs with⟨_,rfl⟩|⟨l,off,ty,live,ro,cs,rfl,d,a,n,p,f⟩
 ·grind
 ·obtain rfl:live=true:=by grind
  let⟨w,g,j,m⟩:=f.get (i:=i) (x:=xs[i]) (by simp_all)
  rw[wBn]at j;have hd:(cs.drop (off+i*e.sz)).take e.sz=w:=by rw[<-g,wBi]
  refine⟨l,off+i*e.sz,w,d,by grind[wz],?_,m,λk u q=>?_⟩
  ·rw[zy a,I4 (by omega),hd];rfl
  ·rw[S7 a,Uj]
   grind
theorem hD.Yt(hs:hD e b h xs v) {i:Nat} (hi:i<xs.length) (a:IntKind) (c:e.sz=1) :
  ∃l o u,b l/\gM 1 v (.int a i)=some (.ptr l o)/\ez (.ptr l o) h=some u/\e.rel b h xs[i] [u]:=by
 let⟨l,o,w,h0,d,_,f,g⟩:=hs.ix hi a
 rw [c]at d;have hl:=e.len f;rw[c]at hl;obtain⟨u,rfl⟩:∃u,w=[u]:=by
  match w,hl with
  |[u],_=>simp_all
 exact⟨l,o,u,h0,d,g 0 u rfl,f⟩
theorem hD.Xs{a:Nat->Prop} {ty:Nat} {ro:Bool} {cs:List V} (d:rL e b h cs xs) (g:∀l,b l->l<h.next) (c:∀l,b l->a l) (f:a h.next):hD e a (h.new (.cells ty e.sz true ro cs)) xs (.slice h.next 0 xs.length):=
 .inr ⟨h.next,0,ty,true,ro,cs,rfl,f,fh _ _,.inr rfl,PM _,(d.fy (by grind[fi])).mono c⟩
theorem hD.new{ty:Nat} {ro:Bool} {cs:List V} {n:Nat} (b:rL e (lo n) h cs xs) (a:n<=h.next):hD e (lo (h.next+1)) (h.new (.cells ty e.sz true ro cs)) xs (.slice h.next 0 xs.length):=
 .Xs b (λ_ hl=>NY hl a) (λ_ hl=>wBj (NY hl a)) (TU _)
end
section
variable (t:Nat)(k:IntKind)(a b:Int)
@[simp] theorem jf:ef .add t (.int k a) (.int k b)=some (.int k (jo k (a+b))):=by cases k <;> rfl
@[simp] theorem jx:ef .sub t (.int k a) (.int k b)=some (.int k (jo k (a-b))):=by cases k <;> rfl
@[simp] theorem Bn:ef .mul t (.int k a) (.int k b)=some (.int k (jo k (a*b))):=by cases k <;> rfl
@[simp] theorem iF:ef .lss t (.int k a) (.int k b)=some (.bool (decide (a<b))):=by cases k <;> rfl
@[simp] theorem VM:ef .leq t (.int k a) (.int k b)=some (.bool (decide (a<=b))):=by cases k <;> rfl
@[simp] theorem jr:ef .gtr t (.int k a) (.int k b)=some (.bool (decide (b<a))):=by cases k <;> rfl
@[simp] theorem jK:ef .geq t (.int k a) (.int k b)=some (.bool (decide (b<=a))):=by cases k <;> rfl
@[simp] theorem gS:ef .eql t (.int k a) (.int k b)=some (.bool (a == b)):=by cases k <;> rfl
@[simp] theorem rZ:ef .neq t (.int k a) (.int k b)=some (.bool (a != b)):=by cases k <;> rfl
@[simp] theorem Z7 (x y:List UInt8):ef .eql t (.str x) (.str y)=some (.bool (x == y)):=rfl
@[simp] theorem zgu (x y:List UInt8):ef .neq t (.str x) (.str y)=some (.bool (!(x == y))):=rfl
@[simp] theorem zdB (x:Bool):wI .not (.bool x)=some (.bool !x):=rfl
@[simp] theorem Yr:wI .neg (.int k a)=some (.int k (jo k (0-a))):=rfl
theorem gG{k:IntKind} {n:Int} (h:ml k n):jo k n=n:=by
 rw[mU];cases k <;> simp only[ml]at h <;> simp only[IntKind.wrap,IntKind.signed,IntKind.bits,Bool.true_and,Bool.false_and,yU,wBK,if_false,Nat.reduceSub,Int.reducePow,ge_iff_le] <;> (try split) <;> omega
@[simp] theorem AV {n:Nat} (h:n<9223372036854775808):jo .i64 (n:Int)=n:=gG (by simp only[ml];omega)
@[simp] theorem Vr (g:Bool):T4 g (.int k a) [.int k b]=some (.int k (if g then max a b else min a b)):=by
 cases g
 ·show some (V.int k (if b<a then b else a))=_;simp only[wBK,if_false];congr 2;omega
 ·show some (V.int k (if b>a then b else a))=_;simp only[if_true];congr 2;omega
end
theorem zbG(n:Nat) (z:V):DD n [z]=List.replicate n z:=by
 induction n <;> grind[DD]
theorem Rv{e sz iU n:Nat} {z:V} (a:n*iU<=281474976710656) (b:n<=1099511627776) :
  jy e sz iU z (.int .i64 (n:Int)) (.int .i64 (n:Int))=some (O.cells e sz true false (DD n z.cells),λl=>V.slice l 0 n):=by
 show bB (Nat.ble n n) (bB (Nat.ble (n*iU) 281474976710656) (bB (Nat.ble n 1099511627776) (some (O.cells e sz true false (DD n z.cells),λl=>V.slice l 0 n))))=_
 simp_all[Al,wAh,jJ]
theorem X8{cs:List V} {v:V}:∀{o:Nat},o<cs.length->sV o cs [v]=some (cs.set o v):=by
 induction cs with
 |nil=>simp_all
 | cons c cs a=>
   intro o h
   cases o with
   |zero=>rfl
   | succ o=>
     grind[sV,eQ]
theorem Zb:∀{ws cs:List V},ws.length<=cs.length->over ws cs=some (ws++cs.drop ws.length)
 |[],_,_=>rfl
 |w::ws,[],h=>by simp_all
 | w::ws,c::cs,h=>by
   have:=Zb (ws:=ws) (cs:=cs) (by simp_all)
   grind[over,eQ]
theorem EP:∀{o:Nat} {cs ws:List V},o+ws.length<=cs.length->sV o cs ws=some (cs.take o++ws++cs.drop (o+ws.length))
 |0,cs,ws,h=>by simp_all[sV,Zb]
 |o+1,[],ws,h=>by simp_all
 | o+1,c::cs,ws,h=>by
   have:=EP (o:=o) (cs:=cs) (ws:=ws) (by grind)
   grind[sV,eQ]
theorem tD{v:V} (h:v.one=true):v.cells=[v]:=by
 cases v <;> first|rfl|cases h
section
variable{l o e sz:Nat}{cs:List V}{h:Hp}{v:V}
theorem PY(a:h.get l=some (.cells e sz true false cs)) (b:o<cs.length) (hv:v.one=true):gj 1 (.ptr l o) v h=some (.val .undef (h.put l (.cells e sz true false (cs.set o v)))):=by
 unfold gj LX kR;simp only[JB,tD hv,a,eQ,fe,hv,X8 b];rfl
theorem Y3{ws:List V} {n:Nat} (a:h.get l=some (.cells e sz true false cs)) (b:ws.length=n) (hc:cs.length=n) (hv:gi ws=true):gj n (.ptr l 0) (.agg ws) h=some (.val .undef (h.put l (.cells e sz true false ws))):=by
 unfold gj LX kR;have hs:sV 0 cs ws=some ws:=by
  rw[EP (by omega),List.take_zero,RL,wBX (by omega),Ku]
 grind[JB,V.cells,eQ,Al,wBh]
theorem zfS{ws:List V} {n:Nat} (a:h.get l=some (.cells e sz true false cs)) (b:ws.length=n) (hc:o+n<=cs.length) (hv:gi ws=true) :
  gj n (.ptr l o) (.agg ws) h=some (.val .undef (h.put l (.cells e sz true false (cs.take o++ws++cs.drop (o+n))))):=by
 unfold gj LX kR;simp[ V.cells,a,EP (show o+ws.length<=cs.length by omega)]
 simp_all
theorem lK{u:V}{ro:Bool}(a:h.get l=some (.cells e sz true ro cs))(b:cs[o]? =some u):ez (.ptr l o) h=some u:=by rw[S7 a,Uj,b]
theorem IP{n:Nat} {ro:Bool} (a:h.get l=some (.cells e sz true ro cs)) (b:cs.length=n):fZ n (.ptr l 0) h=some (.agg cs):=by
 rw[zy a,I4 (by omega),wBT,Xb (by omega)];rfl
variable{α:Type}{e:tq α}{b:Nat->Prop}
theorem rL.drop:∀{xs:List α} {cs:List V} (n:Nat),rL e b h cs xs->n<=xs.length->rL e b h (cs.drop (n*e.sz)) (xs.drop n)
 |xs,cs,0,hw,_=>by simp_all
 |[],cs,n+1,_,hn=>by simp_all
 | x::xs,cs,n+1,⟨w,r,a,c,d⟩,hn=>by
   have:=rL.drop n d (by simpa using hn);have hl:=e.len c;subst a;rw[ ZX,Nat.one_mul,Nat.add_comm,<-wBi]
   simp_all
theorem rL.taken:∀{xs:List α} {cs:List V} (n:Nat),rL e b h cs xs->rL e b h cs (xs.take n)
 |xs,cs,0,_=>by simp;trivial
 |[],cs,n+1,_=>by simp_all
 |x::xs,cs,n+1,⟨w,r,a,c,d⟩=>⟨w,r,a,c,rL.taken n d⟩
theorem S4(z:Nat) (k:IntKind) (n:Nat):hbound z (some (.int k n))=some n:=by
 rfl
theorem OF(z:Nat):hbound z none=some z:=rfl
theorem hD.cut{xs:List α} {v:V} (hs:hD e b h xs v) {lo hi:Option V} {m n:Nat} (i:hbound 0 lo=some m) (j:hbound xs.length hi=some n) (k:m<=n) (a:n<=xs.length) :
  ∃d,jw e.sz v lo hi h=some d/\hD e b h ((xs.take n).drop m) d:=by
 rcases hs with⟨rfl,rfl⟩|⟨l,off,ty,live,ro,cs,rfl,o,p,r,s,f⟩
 ·simp at a;subst a;obtain rfl:m=0:=by omega
  refine⟨.ed,?_,.inl ⟨rfl,by simp⟩⟩
  simp_all[jw,eQ]
 ·have q:=f.length;have g:m*e.sz<=n*e.sz:=wBJ _ k;have c:n*e.sz<=xs.length*e.sz:=wBJ _ a;rw[wBn]at q;refine⟨.slice l (off+m*e.sz) (n-m),?_,?_⟩
  ·grind[jw,kR,eQ,Al,wBh,wAh]
  ·have hlen:((xs.take n).drop m).length=n-m:=by rw[wBn,TV];omega
   refine .inr ⟨l,off+m*e.sz,ty,live,ro,cs,by rw[hlen],o,p,?_,by omega,?_⟩
   ·grind
   ·rw[<-wBi];exact(f.taken n).drop m (by simp_all)
variable{e a n:Nat}{h':Hp}
theorem rP{e sz k:Nat} {h:Hp} {cs:List V} {ro:Bool} (hl:cs.length=(k+1)*sz):mV (h.new (.cells e sz true ro cs)) sz (.slice h.next 0 (k+1))=some (k+1,cs):=by
 unfold mV Mb kR;have:sub cs 0 (Nat.mul (Nat.succ k) sz)=some cs:=by
  show sub cs 0 ((k+1)*sz)=some cs;rw[I4 (by omega),wBT,Xb (by omega)]
 grind[fh,eQ,MY]
