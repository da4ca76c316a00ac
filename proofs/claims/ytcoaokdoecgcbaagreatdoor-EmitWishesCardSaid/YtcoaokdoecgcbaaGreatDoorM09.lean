/- Parts. -/
import Derived.Test.YtcoaokdoecgcbaaGreatDoorM08
import Derived.KernelRfl
set_option maxHeartbeats 4000000
namespace Go.Proofs.YtcoaokdoecgcbaaGreatDoor.Hx
def _root_.Go.Code.l:Code->Code
 | .seq a _=>a
 | .cond _ a _=>a
 | .block _ c=>c
 | .loop c=>c
 |_=> .skip
def _root_.Go.Code.r:Code->Code
 | .seq _ b=>b
 | .cond _ _ b=>b
 |_=> .skip
def MJ(fn:Func):Code:=match fn.body with
 |some c=>c
 |none=> .skip
noncomputable section
def eD(a:V)(h:Hp):Option V:=vx a λl off=>ld1 h l off
def gi(n:Nat)(a:V)(h:Hp):Option V:=vx a λl off=>oB (LW h l off n) λcs=>some (.agg cs)
def fV(k:Nat)(x:V):Option V:=vx x λl off=>some (.ptr l (Nat.add off k))
def gQ(n:Nat) (x i:V):Option V:=asNat i λi=>match x with
 | .slice l off len=>bB (Nat.blt i len) (some (.ptr l (Nat.add off (Nat.mul i n))))
 |_=>none
def rH(len n:Nat)(x i:V):Option V:=asNat i λi=>vx x λl off=>bB (Nat.blt i len) (some (.ptr l (Nat.add off (Nat.mul i n))))
def Jx(c a b:V):Option V:=match c with
 | .bool x=>Bool.rec (some b) (some a) x
 |_=>none
def fR(x:V):Option V:=match x with
 | .ptr l off=>some (.ptr l off)
 | .func f a c=>some (.func f a c)
 | .iface u v=>some (.iface u v)
 |_=>none
def lG(k:IntKind) (x:V):Option V:=match x with
 | .int _ n=>some (.int k (jo k n))
 |_=>none
def fq(z:List V)(a:List (Nat×Nat))(b:List (Nat×V)):Option V:=oB (xz (λi=>a[i]?) z b) λcs=>some (.agg cs)
def zdz(size:Nat)(z:List V)(a:List (Nat×V)):Option V:=oB (xz (λi=>some (Nat.mul i size,size)) z a) λcs=>some (.agg cs)
def rQ(i:Nat) (x:V):Option V:=match x with
 | .tuple vs=>MF vs i
 |_=>none
def zfo(x:V):Option V:=match x with
 | .str s=>some (.int .i64 (.ofNat s.length))
 |_=>none
def fM(x:V):Option V:=match x with
 | .slice _ _ n=>some (.int .i64 (.ofNat n))
 | .ed=>some (.int .i64 (.ofNat 0))
 |_=>none
def rG(kt:Nat) (d:Option (List Field)) (z:V) (ok:Bool) (m k:V) (h:Hp):Option V:=bB (Kj d k) (match m with
 | .nJ=>some (found z ok none)
 | .map l=>zy h l (λes _=>oB (oQ kt d k es 0) λr=>some (found z ok r)) (Og kt d z ok k)
 |_=>none)
def iW(a size len:Nat) (z:V) (b:List (Nat×V)):Option (O×(Nat->V)):=oB (xz (λi=>some (Nat.mul i size,size)) (CM len z.cells) b) λcs=>bB (gj cs) (some (.cells a size true false cs,λl=> .slice l 0 len))
def gw(n:Nat)(a v:V)(h:Hp):Option R:=vx a λl off=>bB (Nat.beq v.cells.length n) (oB (K1 h l off v.cells) λh=>some (.val .undef h))
end
noncomputable section
def eJ(x:Option R)(K:V->Hp->Prop):Prop:=oP (oB x valOf) λy=>K y.1 y.2
def gO(C:mw)(x:Option R)(h:Hp)(K:V->Hp->Prop):Prop:=oP (oB x AN) λy=>cP C y.1 y.2 h K
def dcP(C:mw)(f:Nat)(l:List V)(h:Hp)(K:V->Hp->Prop):Prop:=oP (some (f,l)) λy=>cP C y.1 y.2 h K
def hV(x:Option (O×(Nat->V)))(h:Hp)(K:V->Hp->Prop):Prop:=oP x λr=>K (r.2 h.next) (h.new r.1)
def vV(x:Option (O×(Nat->V)))(h:Hp)(K:O->V->Hp->Prop):Prop:=oP x λr=>K r.1 (r.2 h.next) (h.new r.1)
def ghP(b:Bool)(h:Hp)(x:Option (V×Hp))(K:V->Hp->Prop):Prop:=oP (gH b h x) λy=>K y.1 y.2
def K8(t:Nat) (_ x:V):Option V:=match x with
 | .iface t' v=>bB (Nat.beq t' t) (some v)
 |_=>none
def gT(b:Bool)(p:Prop):Prop:=Bool.rec True p b
def iE(w:Bool) (x:V):Option Bool:=match x with
 | .bool b=>some (Bool.rec (!w) w b)
 | .tuple []=>some false
 |_=>none
end
theorem Za(f:Nat->V) (d:Nat) (v:V):nE f d v d=v:=by
 simp_all[nE,wBk]
theorem zdv(f:Nat->V) {d i:Nat} (v:V) (h:i≠d):nE f d v i=f i:=by
 unfold nE;cases hb:Nat.beq i d <;> simp_all
@[simp] theorem fe {α β:Type} (a:α) (k:α->Option β):oB (some a) k=k a:=rfl
@[simp] theorem zgk {α β:Type} (k:α->Option β):oB (none:Option α) k=none:=rfl
@[simp] theorem KP {β:Type} (k:Option β):bB true k=k:=rfl
@[simp] theorem zfh {β:Type} (k:Option β):bB false k=none:=rfl
theorem zK{β:Type}{c:Bool}(k:Option β)(h:c=true):bB c k=k:=by simp_all
@[simp] theorem IN {β:Type} (l o:Nat) (k:Nat->Nat->Option β):vx (.ptr l o) k=k l o:=rfl
@[simp] theorem zee {β:Type} (a:IntKind) (n:Nat) (k:Nat->Option β):asNat (.int a (.ofNat n)) k=k n:=rfl
@[simp] theorem zeM {β:Type} (a:IntKind) (n:Nat) (k:Nat->Option β):asNat (.int a (n:Int)) k=k n:=rfl
@[simp] theorem zfj {β:Type} (a:IntKind) (n:Nat) (k:Nat->Option β):asNat (.int a (OfNat.ofNat n:Int)) k=k n:=rfl
@[simp] theorem zes {β:Type} (a:IntKind) (k:Nat->Option β):asNat (.int a 0) k=k 0:=rfl
@[simp] theorem zfm {β:Type} (a:IntKind) (k:Nat->Option β):asNat (.int a 1) k=k 1:=rfl
@[simp] theorem fx (k l o:Nat):fV k (.ptr l o)=some (.ptr l (o+k)):=rfl
@[simp] theorem eC (l o:Nat):fR (.ptr l o)=some (.ptr l o):=rfl
@[simp] theorem zfi (f:Nat) (a c:List V):fR (.func f a c)=some (.func f a c):=rfl
@[simp] theorem ze4 (l o n:Nat):fM (.slice l o n)=some (.int .i64 n):=rfl
@[simp] theorem zfz:fM .ed=some (.int .i64 0):=rfl
@[simp] theorem zfl (s:List UInt8):zfo (.str s)=some (.int .i64 s.length):=rfl
@[simp] theorem Wc (x:Bool) (a b:V):Jx (.bool x) a b=some (if x=true then a else b):=by cases x <;> rfl
@[simp] theorem gB (k k':IntKind) (n:Int):lG k (.int k' n)=some (.int k (jo k n)):=rfl
@[simp] theorem zem (i:Nat) (vs:List V):rQ i (.tuple vs)=MF vs i:=rfl
@[simp] theorem fH (o:O) (f:Nat->V) (h:Hp) (K:V->Hp->Prop):hV (some (o,f)) h K=K (f h.next) (h.new o):=rfl
@[simp] theorem gU (o:O) (f:Nat->V) (h:Hp) (K:O->V->Hp->Prop):vV (some (o,f)) h K=K o (f h.next) (h.new o):=rfl
@[simp] theorem ef (v:V) (h:Hp) (K:V->Hp->Prop):eJ (some (.val v h)) K=K v h:=rfl
@[simp] theorem DX (C:mw) (f:Nat) (l:List V) (h:Hp) (K:V->Hp->Prop):gO C (some (.call f l)) h K=cP C f l h K:=rfl
@[simp] theorem zgF (C:mw) (f:Nat) (l:List V) (h:Hp) (K:V->Hp->Prop):dcP C f l h K=cP C f l h K:=rfl
@[simp] theorem Kg (f:Nat) (a c l:List V):gg (.func f a c) l=some (.call f (a++(l++c))):=rfl
@[simp] theorem zgf (w b:Bool):iE w (.bool b)=some (b == w):=by cases w <;> cases b <;> rfl
@[simp] theorem zgu (x:Option V):gV true x=x:=rfl
@[simp] theorem zgi (x:Option V):gV false x=some .undef:=rfl
@[simp] theorem zgw (x:Option (Nat×List V)):gC true x=oB x λy=>some (some y):=rfl
@[simp] theorem zfL (x:Option (Nat×List V)):gC false x=some none:=rfl
@[simp] theorem zgv (p:Prop):gT true p=p:=rfl
@[simp] theorem zfq (p:Prop):gT false p=True:=rfl
@[simp] theorem zfV (C:mw) (y:Nat×List V) (h:Hp) (K:V->Hp->Prop):Gn C (some y) h K=cP C y.1 y.2 h K:=rfl
@[simp] theorem zfK (C:mw) (h:Hp) (K:V->Hp->Prop):Gn C none h K=K .undef h:=rfl
theorem vG(n l o len i:Nat) (a:IntKind) (h:i<len):gQ n (.slice l o len) (.int a i)=some (.ptr l (o+i*n)):=by
 show bB (Nat.blt i len) _=_
 grind[zK,WE]
theorem Tg{l o e sz:Nat} {ro:Bool} {cs:List V} {h:Hp} (a:h.get l=some (.cells e sz true ro cs)):eD (.ptr l o) h=MF cs o:=by
 simp_all[eD,ld1,lj]
theorem yp{n l o e sz:Nat} {ro:Bool} {cs:List V} {h:Hp} (a:h.get l=some (.cells e sz true ro cs)):gi n (.ptr l o) h=oB (sub cs o n) λcs=>some (.agg cs):=by
 simp_all[gi,LW,lj]
@[simp] theorem zgl (v:V) (l:List V):MF (v::l) 0=some v:=rfl
@[simp] theorem zfT (v:V) (l:List V) (n:Nat):MF (v::l) (n+1)=MF l n:=rfl
theorem Tn(l:List V)(n:Nat):MF l n=l[n]?:=by grind[MF,List.head?_drop]
@[simp] theorem zeP (l:List V):takeN 0 l=some []:=by rfl
@[simp] theorem ze3 (n:Nat) (v:V) (l:List V):takeN (n+1) (v::l)=oB (takeN n l) λr=>some (v::r):=rfl
theorem TJ:∀n l,n<=l.length->takeN n l=some (l.take n)
 |0,l,_=>by rfl
 |n+1,[],h=>by simp_all
 |n+1,v::l,h=>by simp[ TJ n l (by simp_all)]
theorem HP{l:List V} {o n:Nat} (h:o+n<=l.length):sub l o n=some ((l.drop o).take n):=by
 grind[sub,TJ]
@[simp] theorem gz {α:Type} (a:α) (k:α->Prop):oP (some a) k=k a:=rfl
@[simp] theorem Z9 (x:Bool) (a b:Prop):bP (.bool x) a b=if x=true then a else b:=mh x a b
@[simp] theorem zfk (v:V) (h:Hp):valOf (.val v h)=some (v,h):=rfl
@[simp] theorem zd2 (f:Nat) (l:List V):AN (.call f l)=some (f,l):=rfl
section
variable{C:mw}{n:Nat}{Q:X->iK->Hp->Prop}{ρ:iK}{h:Hp}
theorem oSm{α:Type}{a:α}{k:α->Prop}(h:k a):oP (some a) k:=h
theorem oM{α:Type} {x:Option α} {k k':α->Prop} (h:oP x k) (f:∀a,x=some a->k a->k' a):oP x k':=by
 grind[mf,ec]
theorem bM{v:V} {a b c d:Prop} (h:bP v a b) (f:a->c) (g:b->d):bP v c d:=by
 unfold bP at h⊢;split at h
 ·rename_i x;cases x <;> grind
 omega
theorem zgp{x:Option (O×(Nat->V))} {k k':O->V->Hp->Prop} (h':vV x h k) (F:∀o v h',k o v h'->k' o v h'):vV x h k':=
 oM h' (by simp_all)
theorem zcU{x:Option R} {k k':V->Hp->Prop} (h':eJ x k) (F:∀v h',k v h'->k' v h'):eJ x k':=
 oM h' (by simp_all)
theorem anM{a b c:Prop}(h:c/\a)(f:a->b):c/\b:=by simp_all
@[simp] theorem O.jT (e sz:Nat) (a r:Bool) (cs:List V):O.beq (.cells e sz a r cs) (.cells e sz a r cs)=true:=by
 simp[O.beq,V.Ao]
@[simp] theorem O.zgt (c:Nat):O.beq (.map [] c) (.map [] c)=true:=by simp[O.beq]
def nr(c:V) (X:Option V):Option V:=match c with
 | .bool true=>some (.bool true)
 | .bool false=>X
 |_=>none
def jm(c:V) (X:Option V):Option V:=match c with
 | .bool false=>some (.bool false)
 | .bool true=>X
 |_=>none
@[simp] theorem zfS (X:Option V):nr (.bool true) X=some (.bool true):=rfl
@[simp] theorem qN (X:Option V):nr (.bool false) X=X:=rfl
@[simp] theorem xL (X:Option V):jm (.bool true) X=X:=rfl
@[simp] theorem xF (X:Option V):jm (.bool false) X=some (.bool false):=rfl
@[simp] theorem jB (c d:Bool):nr (.bool c) (some (.bool d))=some (.bool (c ||d)):=by cases c <;> rfl
@[simp] theorem jU (c d:Bool):jm (.bool c) (some (.bool d))=some (.bool (c&&d)):=by cases c <;> rfl
variable{c c' Xc:V}{X X':Option V}{K:V->Prop}{f:V->Option V}{w b0:Bool}
structure mr (S:Nat->Prop) (h h':Hp):Prop where
 next:h.next<=h'.next
 fm:∀l,l<h.next->¬S l->h'.get l=h.get l
abbrev JG(h h':Hp):Prop:=mr (λ_=>False) h h'
theorem mr.refl(S:Nat->Prop)(h:Hp):mr S h h:=⟨jj _,by simp_all⟩
theorem mr.trans'{S d:Nat->Prop} {h h' c:Hp} (a:mr S h h') (b:mr d h' c) (hs:∀l,l<h.next->d l->S l):mr S h c:=
 ⟨MT a.next b.next,λl hl e=>by rw[b.fm l (EP hl a.next) (by grind),a.fm l hl e]⟩
theorem mr.trans{S:Nat->Prop}{h h' c:Hp}(a:mr S h h')(b:mr S h' c):mr S h c:=a.trans' b (by simp_all)
theorem mr.zc3{S b:Nat->Prop} {h h':Hp} (a:mr S h h') (hs:∀l,l<h.next->S l->b l):mr b h h':=
 ⟨a.next,λl hl c=>a.fm l hl (by grind)⟩
theorem mr.new{S:Nat->Prop} (h:Hp) (o:O):mr S h (h.new o):=
 ⟨Ql _,λl hl _=>by rw[wq,if_neg (by omega)]⟩
theorem mr.put{S:Nat->Prop} {h:Hp} {l:Nat} (o:O) (hs:S l) (hl:l<h.next):mr S h (h.put l o):=
 ⟨jj _,λm _ a=>by rw[jP _ _ hl,if_neg (by grind)]⟩
theorem eQ(h:Hp)(o:O):(h.new o).get h.next=some o:=by rw[wq,if_pos rfl]
theorem eE{h:Hp}(o:O){l:Nat}(hl:l<h.next):(h.new o).get l=h.get l:=by rw[wq,if_neg (by omega)]
theorem fY{h:Hp}{l:Nat}(o:O)(hl:l<h.next):(h.put l o).get l=some o:=by rw[jP _ _ hl,if_pos rfl]
theorem gq{h:Hp}{l m:Nat}(o:O)(hl:l<h.next)(a:l≠m):(h.put l o).get m=h.get m:=by simp_all[jP,if_neg]
@[simp] theorem zf1 (h:Hp) (o:O):(h.new o).next=h.next+1:=rfl
@[simp] theorem zfP (h:Hp) (l:Nat) (o:O):(h.put l o).next=h.next:=rfl
structure ue (α:Type) where
 sz:Nat
 rel:(Nat->Prop)->Hp->α->List V->Prop
 len:∀{b h x cs},rel b h x cs->cs.length=sz
 one:∀{b h x cs},rel b h x cs->gj cs=true
 fm:∀{b h h' x cs},(∀l,b l->h'.get l=h.get l)->rel b h x cs->rel b h' x cs
 mono:∀{b b' h x cs},(∀l,b l->b' l)->rel b h x cs->rel b' h x cs
def lo(b:Nat):Nat->Prop:=λl=>l<b
theorem uQ{b a:Nat}(h:b<=a):∀l,lo b l->lo a l:=λ_ hl=>EP hl h
theorem qP:∀a b,gj (a++b)=(gj a&&gj b)
 |[],b=>by rfl
 | v::a,b=>by
   simp[ gj,qP a b];cases v.one <;> simp
@[simp] theorem zek:gj []=true:=rfl
@[simp] theorem fh (v:V) (l:List V):gj (v::l)=(v.one&&gj l):=by
 simp[gj];cases v.one <;> rfl
def mR:IntKind->Int->Prop
 | .i8,n=>-128<=n/\n<=127
 | .i16,n=>-32768<=n/\n<=32767
 | .i32,n=>-2147483648<=n/\n<=2147483647
 | .i64,n=>-9223372036854775808<=n/\n<=9223372036854775807
 | .u8,n=>0<=n/\n<=255
 | .u16,n=>0<=n/\n<=65535
 | .u32,n=>0<=n/\n<=4294967295
 | .u64,n=>0<=n/\n<=18446744073709551615
def eI(k:IntKind):ue Int where
 sz:=1
 rel _ _ n cs:=cs=[.int k n]/\mR k n
 len h:=by simp_all
 one h:=by rw[h.1];rfl
 fm _ h:=h
 mono _ h:=h
def eB:ue Bool where
 sz:=1
 rel _ _ n cs:=cs=[.bool n]
 len h:=by simp_all
 one h:=by subst h;rfl
 fm _ h:=h
 mono _ h:=h
def eS:ue (List UInt8) where
 sz:=1
 rel _ _ n cs:=cs=[.str n]
 len h:=by simp_all
 one h:=by subst h;rfl
 fm _ h:=h
 mono _ h:=h
def eP{α β:Type} (e:ue α) (f:ue β):ue (α×β) where
 sz:=e.sz+f.sz
 rel b h x cs:=∃p q,cs=p++q/\e.rel b h x.1 p/\f.rel b h x.2 q
 len:=λ⟨_,_,h,a,c⟩=>by subst h;simp[e.len a,f.len c]
 one:=λ⟨_,_,h,a,c⟩=>by subst h;simp[qP,e.one a,f.one c]
 fm:=λd ⟨p,q,h,a,c⟩=>⟨p,q,h,e.fm d a,f.fm d c⟩
 mono:=λg ⟨p,q,h,a,c⟩=>⟨p,q,h,e.mono g a,f.mono g c⟩
def eM{α β:Type} (g:β->α) (e:ue α):ue β where
 sz:=e.sz
 rel b h x cs:=e.rel b h (g x) cs
 len h:=e.len h
 one h:=e.one h
 fm hk h:=e.fm hk h
 mono hb h:=e.mono hb h
def rF{α:Type} (e:ue α) (b:Nat->Prop) (h:Hp):List V->List α->Prop
 |_,[]=>True
 |cs,x::xs=>∃w r,cs=w++r/\e.rel b h x w/\rF e b h r xs
variable{α:Type}{e:ue α}{b:Nat->Prop}{h':Hp}
theorem rF.fm(a:∀l,b l->h'.get l=h.get l):∀{xs:List α} {cs:List V},rF e b h cs xs->rF e b h' cs xs
 |[],_,_=>trivial
 |_::_,_,⟨w,r,c,d,f⟩=>⟨w,r,c,e.fm a d,rF.fm a f⟩
theorem rF.mono{a:Nat->Prop} (c:∀l,b l->a l):∀{xs:List α} {cs:List V},rF e b h cs xs->rF e a h cs xs
 |[],_,_=>trivial
 |_::_,_,⟨w,r,d,f,g⟩=>⟨w,r,d,e.mono c f,rF.mono c g⟩
theorem rF.length:∀{xs:List α} {cs:List V},rF e b h cs xs->xs.length*e.sz<=cs.length
 |[],_,_=>by simp
 | _::xs,_,⟨w,r,a,c,d⟩=>by
   have:=rF.length d;have hl:=e.len c;subst a;simp[ YH];omega
theorem rF.get:∀{xs:List α} {cs:List V},rF e b h cs xs->∀{i:Nat} {x:α},xs[i]? =some x->∃w,(cs.drop (i*e.sz)).take e.sz=w/\i*e.sz+e.sz<=cs.length/\e.rel b h x w
 |[],_,_,i,x,hx=>by simp_all
 | y ::xs,_,⟨w,r,a,c,d⟩,i,x,hx=>by
   have hl:=e.len c;subst a
   cases i with
   | zero=>
     simp_all
   | succ i=>
     let⟨w',f,j,g⟩:=rF.get d (i:=i) (x:=x) (by simp_all)
     refine⟨w',?_,?_,g⟩
     ·rw[<-f,YH,Nat.add_comm,<-hl];simp
     grind
theorem rF.append{ys:List α}:∀{xs:List α} {cs ds:List V},rF e b h cs xs->cs.length=xs.length*e.sz->rF e b h ds ys->rF e b h (cs++ds) (xs++ys)
 | [],cs,ds,_,hl,a=>by
   simp_all
 | x::xs,_,ds,⟨w,r,c,a,d⟩,hl,f=>by
   subst c;have g:=e.len a;refine⟨w,r++ds,by simp,a,rF.append d ?_ f⟩
   grind
theorem rF.take:∀{xs:List α} {cs:List V},rF e b h cs xs->rF e b h (cs.take (xs.length*e.sz)) xs
 |[],_,_=>trivial
 | _::xs,_,⟨w,r,c,a,d⟩=>by
   have f:=e.len a;subst c;refine⟨w,r.take (xs.length*e.sz),?_,a,rF.take d⟩
   simp_all[List.take_append,Vz,YH]
theorem rF.more{ds:List V}:∀{xs:List α} {cs:List V},rF e b h cs xs->rF e b h (cs++ds) xs
 |[],_,_=>trivial
 |_::_,_,⟨w,r,a,c,d⟩=>⟨w,r++ds,by rw[a,Bo],c,rF.more d⟩
theorem rF.set:∀{xs:List α} {cs:List V},rF e b h cs xs->∀{i:Nat} {y:α} {w:List V},i<xs.length->e.rel b h y w->rF e b h (cs.take (i*e.sz)++w++cs.drop (i*e.sz+e.sz)) (xs.set i y)
 |[],_,_,i,y,w,hi,_=>by simp_all
 | x ::xs,_,⟨u,r,d,a,c⟩,i,y,w,hi,hw=>by
   have f:=e.len a;subst d
   cases i with
   | zero=>
     refine⟨w,r,?_,hw,c⟩
     simp_all
   | succ i=>
     refine⟨u,_,?_,a,rF.set c (by simpa using hi) hw⟩;have e1:(i+1)*e.sz=u.length+i*e.sz:=by rw[YH,Nat.one_mul];omega
     have e2:(i+1)*e.sz+e.sz=u.length+(i*e.sz+e.sz):=by omega
     rw[e2,e1,List.take_length_add_append,<-wBl]
     simp_all
def iD{α:Type} (e:ue α) (b:Nat->Prop) (h:Hp) (xs:List α) (v:V):Prop:=(v = .ed/\xs=[])\/∃l off ty live ro cs,v = .slice l off xs.length/\b l/\h.get l=some (.cells ty e.sz live ro cs)/\(xs=[]\/live=true)/\off<=cs.length/\rF e b h (cs.drop off) xs
variable{xs:List α}{v:V}
theorem iD.fm(a:∀l,b l->h'.get l=h.get l) (hs:iD e b h xs v):iD e b h' xs v:=by
 rcases hs with hs|⟨l,off,ty,live,ro,cs,c,d,j,f,g,i⟩
 ·exact .inl hs
 ·exact .inr ⟨l,off,ty,live,ro,cs,c,d,by simp_all,f,g,i.fm a⟩
theorem iD.mono{a:Nat->Prop} (c:∀l,b l->a l) (hs:iD e b h xs v):iD e a h xs v:=by
 rcases hs with hs|⟨l,off,ty,live,ro,cs,d,f,g,i,j,k⟩
 ·exact .inl hs
 ·exact .inr ⟨l,off,ty,live,ro,cs,d,c l f,g,i,j,k.mono c⟩
theorem iD.one(hs:iD e b h xs v):v.one=true:=by
 rcases hs with⟨rfl,_⟩|⟨l,off,ty,live,ro,cs,rfl,_⟩ <;> rfl
def eL{α:Type} (e:ue α):ue (List α) where
 sz:=1
 rel b h xs cs:=∃v,cs=[v]/\iD e b h xs v
 len:=by simp_all
 one:=λ⟨_,h,hs⟩=>by subst h;simp[hs.one]
 fm:=λa ⟨v,h,hs⟩=>⟨v,h,hs.fm a⟩
 mono:=λc ⟨v,h,hs⟩=>⟨v,h,hs.mono c⟩
theorem iD.len(hs:iD e b h xs v):fM v=some (.int .i64 xs.length):=by
 rcases hs with⟨rfl,rfl⟩|⟨l,off,ty,live,ro,cs,rfl,_⟩ <;> rfl
theorem iD.nil:iD e b h [] .ed:= .inl ⟨rfl,rfl⟩
theorem iD.ix(hs:iD e b h xs v) {i:Nat} (hi:i<xs.length) (c:IntKind) :
  ∃l o w,b l/\gQ e.sz v (.int c i)=some (.ptr l o)/\gi e.sz (.ptr l o) h=some (.agg w)/\e.rel b h xs[i] w/\∀k u,w[k]? =some u->eD (.ptr l (o+k)) h=some u:=by
 rcases hs with⟨_,rfl⟩|⟨l,off,ty,live,ro,cs,rfl,d,a,n,p,f⟩
 ·grind
 ·obtain rfl:live=true:=by grind
  let⟨w,g,j,m⟩:=f.get (i:=i) (x:=xs[i]) (by simp_all)
  rw[wBo]at j;have hd:(cs.drop (off+i*e.sz)).take e.sz=w:=by rw[<-g,wBl]
  refine⟨l,off+i*e.sz,w,d,by grind[vG],?_,m,λk u q=>?_⟩
  ·rw[yp a,HP (by omega),hd];rfl
  ·rw[Tg a,Tn]
   grind
theorem iD.Yk(hs:iD e b h xs v) {i:Nat} (hi:i<xs.length) (a:IntKind) (c:e.sz=1) :
  ∃l o u,b l/\gQ 1 v (.int a i)=some (.ptr l o)/\eD (.ptr l o) h=some u/\e.rel b h xs[i] [u]:=by
 let⟨l,o,w,h0,d,_,f,g⟩:=hs.ix hi a
 rw [c]at d;have hl:=e.len f;rw[c]at hl;obtain⟨u,rfl⟩:∃u,w=[u]:=by
  match w,hl with
  |[u],_=>simp_all
 exact⟨l,o,u,h0,d,g 0 u rfl,f⟩
theorem iD.Wo{a:Nat->Prop} {ty:Nat} {ro:Bool} {cs:List V} (d:rF e b h cs xs) (g:∀l,b l->l<h.next) (c:∀l,b l->a l) (f:a h.next):iD e a (h.new (.cells ty e.sz true ro cs)) xs (.slice h.next 0 xs.length):=
 .inr ⟨h.next,0,ty,true,ro,cs,rfl,f,eQ _ _,.inr rfl,L9 _,(d.fm (by grind[eE])).mono c⟩
theorem iD.new{ty:Nat} {ro:Bool} {cs:List V} {n:Nat} (b:rF e (lo n) h cs xs) (a:n<=h.next):iD e (lo (h.next+1)) (h.new (.cells ty e.sz true ro cs)) xs (.slice h.next 0 xs.length):=
 .Wo b (λ_ hl=>EP hl a) (λ_ hl=>wBd (EP hl a)) (Rz _)
end
section
variable (t:Nat)(k:IntKind)(a b:Int)
@[simp] theorem iU:eh .add t (.int k a) (.int k b)=some (.int k (jo k (a+b))):=by cases k <;> rfl
@[simp] theorem iI:eh .sub t (.int k a) (.int k b)=some (.int k (jo k (a-b))):=by cases k <;> rfl
@[simp] theorem Dk:eh .mul t (.int k a) (.int k b)=some (.int k (jo k (a*b))):=by cases k <;> rfl
@[simp] theorem gX:eh .lss t (.int k a) (.int k b)=some (.bool (decide (a<b))):=by cases k <;> rfl
@[simp] theorem Ls:eh .leq t (.int k a) (.int k b)=some (.bool (decide (a<=b))):=by cases k <;> rfl
@[simp] theorem iT:eh .gtr t (.int k a) (.int k b)=some (.bool (decide (b<a))):=by cases k <;> rfl
@[simp] theorem jt:eh .geq t (.int k a) (.int k b)=some (.bool (decide (b<=a))):=by cases k <;> rfl
@[simp] theorem hZ:eh .eql t (.int k a) (.int k b)=some (.bool (a == b)):=by cases k <;> rfl
@[simp] theorem wj:eh .neq t (.int k a) (.int k b)=some (.bool (a != b)):=by cases k <;> rfl
@[simp] theorem Y8 (x y:List UInt8):eh .eql t (.str x) (.str y)=some (.bool (x == y)):=rfl
@[simp] theorem zfg (x y:List UInt8):eh .neq t (.str x) (.str y)=some (.bool (!(x == y))):=rfl
@[simp] theorem zcE (x:Bool):za .not (.bool x)=some (.bool !x):=rfl
@[simp] theorem Xf:za .neg (.int k a)=some (.int k (jo k (0-a))):=rfl
theorem gK{k:IntKind} {n:Int} (h:mR k n):jo k n=n:=by
 rw[pD];cases k <;> simp only[mR]at h <;> simp only[IntKind.wrap,IntKind.signed,IntKind.bits,Bool.true_and,Bool.false_and,xX,wBN,if_false,Nat.reduceSub,Int.reducePow,ge_iff_le] <;> (try split) <;> omega
@[simp] theorem DD {n:Nat} (h:n<9223372036854775808):jo .i64 (n:Int)=n:=gK (by simp only[mR];omega)
@[simp] theorem TZ (g:Bool):Sk g (.int k a) [.int k b]=some (.int k (if g then max a b else min a b)):=by
 cases g
 ·show some (V.int k (if b<a then b else a))=_;simp only[wBN,if_false];congr 2;omega
 ·show some (V.int k (if b>a then b else a))=_;simp only[if_true];congr 2;omega
end
theorem zaO(n:Nat) (z:V):CM n [z]=List.replicate n z:=by
 induction n <;> grind[CM]
theorem QD{e sz jh n:Nat} {z:V} (a:n*jh<=281474976710656) (b:n<=1099511627776) :
  jA e sz jh z (.int .i64 (n:Int)) (.int .i64 (n:Int))=some (O.cells e sz true false (CM n z.cells),λl=>V.slice l 0 n):=by
 show bB (Nat.ble n n) (bB (Nat.ble (n*jh) 281474976710656) (bB (Nat.ble n 1099511627776) (some (O.cells e sz true false (CM n z.cells),λl=>V.slice l 0 n))))=_
 simp_all[zK,ZP,jj]
theorem VF{cs:List V} {v:V}:∀{o:Nat},o<cs.length->ta o cs [v]=some (cs.set o v):=by
 induction cs with
 |nil=>simp_all
 | cons c cs a=>
   intro o h
   cases o with
   |zero=>rfl
   | succ o=>
     grind[ta,fe]
theorem XK:∀{ws cs:List V},ws.length<=cs.length->over ws cs=some (ws++cs.drop ws.length)
 |[],_,_=>rfl
 |w::ws,[],h=>by simp_all
 | w::ws,c::cs,h=>by
   have:=XK (ws:=ws) (cs:=cs) (by simp_all)
   grind[over,fe]
theorem Db:∀{o:Nat} {cs ws:List V},o+ws.length<=cs.length->ta o cs ws=some (cs.take o++ws++cs.drop (o+ws.length))
 |0,cs,ws,h=>by simp_all[ta,XK]
 |o+1,[],ws,h=>by simp_all
 | o+1,c::cs,ws,h=>by
   have:=Db (o:=o) (cs:=cs) (ws:=ws) (by grind)
   grind[ta,fe]
theorem th{v:V} (h:v.one=true):v.cells=[v]:=by
 cases v <;> first|rfl|cases h
section
variable{l o e sz:Nat}{cs:List V}{h:Hp}{v:V}
theorem OS(a:h.get l=some (.cells e sz true false cs)) (b:o<cs.length) (hv:v.one=true):gw 1 (.ptr l o) v h=some (.val .undef (h.put l (.cells e sz true false (cs.set o v)))):=by
 unfold gw K1 lj;simp only[IN,th hv,a,fe,fh,hv,VF b];rfl
theorem Iy{ws:List V} {n:Nat} (a:h.get l=some (.cells e sz true false cs)) (b:ws.length=n) (hc:cs.length=n) (hv:gj ws=true):gw n (.ptr l 0) (.agg ws) h=some (.val .undef (h.put l (.cells e sz true false ws))):=by
 unfold gw K1 lj;have hs:ta 0 cs ws=some ws:=by
  rw[Db (by omega),List.take_zero,QX,wBa (by omega),GA]
 grind[IN,V.cells,fe,zK,wBk]
theorem zeZ{ws:List V} {n:Nat} (a:h.get l=some (.cells e sz true false cs)) (b:ws.length=n) (hc:o+n<=cs.length) (hv:gj ws=true) :
  gw n (.ptr l o) (.agg ws) h=some (.val .undef (h.put l (.cells e sz true false (cs.take o++ws++cs.drop (o+n))))):=by
 unfold gw K1 lj;simp[ V.cells,a,Db (show o+ws.length<=cs.length by omega)]
 simp_all
theorem kH{u:V}{ro:Bool}(a:h.get l=some (.cells e sz true ro cs))(b:cs[o]? =some u):eD (.ptr l o) h=some u:=by rw[Tg a,Tn,b]
theorem A6{n:Nat} {ro:Bool} (a:h.get l=some (.cells e sz true ro cs)) (b:cs.length=n):gi n (.ptr l 0) h=some (.agg cs):=by
 rw[yp a,HP (by omega),wBU,Vz (by omega)];rfl
variable{α:Type}{e:ue α}{b:Nat->Prop}
theorem rF.drop:∀{xs:List α} {cs:List V} (n:Nat),rF e b h cs xs->n<=xs.length->rF e b h (cs.drop (n*e.sz)) (xs.drop n)
 |xs,cs,0,hw,_=>by simp_all
 |[],cs,n+1,_,hn=>by simp_all
 | x::xs,cs,n+1,⟨w,r,a,c,d⟩,hn=>by
   have:=rF.drop n d (by simpa using hn);have hl:=e.len c;subst a;rw[ YH,Nat.one_mul,Nat.add_comm,<-wBl]
   simp_all
theorem rF.taken:∀{xs:List α} {cs:List V} (n:Nat),rF e b h cs xs->rF e b h cs (xs.take n)
 |xs,cs,0,_=>by simp;trivial
 |[],cs,n+1,_=>by simp_all
 |x::xs,cs,n+1,⟨w,r,a,c,d⟩=>⟨w,r,a,c,rF.taken n d⟩
theorem RG(z:Nat) (k:IntKind) (n:Nat):hbound z (some (.int k n))=some n:=by
 rfl
theorem NL(z:Nat):hbound z none=some z:=rfl
theorem iD.cut{xs:List α} {v:V} (hs:iD e b h xs v) {lo hi:Option V} {m n:Nat} (i:hbound 0 lo=some m) (j:hbound xs.length hi=some n) (k:m<=n) (a:n<=xs.length) :
  ∃d,jE e.sz v lo hi h=some d/\iD e b h ((xs.take n).drop m) d:=by
 rcases hs with⟨rfl,rfl⟩|⟨l,off,ty,live,ro,cs,rfl,o,p,r,s,f⟩
 ·simp at a;subst a;obtain rfl:m=0:=by omega
  refine⟨.ed,?_,.inl ⟨rfl,by simp⟩⟩
  simp_all[jE,fe]
 ·have q:=f.length;have g:m*e.sz<=n*e.sz:=wBM _ k;have c:n*e.sz<=xs.length*e.sz:=wBM _ a;rw[wBo]at q;refine⟨.slice l (off+m*e.sz) (n-m),?_,?_⟩
  ·grind[jE,lj,fe,zK,wBk,ZP]
  ·have hlen:((xs.take n).drop m).length=n-m:=by rw[wBo,Sr];omega
   refine .inr ⟨l,off+m*e.sz,ty,live,ro,cs,by rw[hlen],o,p,?_,by omega,?_⟩
   ·grind
   ·rw[<-wBl];exact(f.taken n).drop m (by simp_all)
variable{e a n:Nat}{h':Hp}
theorem oI{e sz k:Nat} {h:Hp} {cs:List V} {ro:Bool} (hl:cs.length=(k+1)*sz):lT (h.new (.cells e sz true ro cs)) sz (.slice h.next 0 (k+1))=some (k+1,cs):=by
 unfold lT LW lj;have:sub cs 0 (Nat.mul (Nat.succ k) sz)=some cs:=by
  show sub cs 0 ((k+1)*sz)=some cs;rw[HP (by omega),wBU,Vz (by omega)]
 grind[eQ,fe,KP]
