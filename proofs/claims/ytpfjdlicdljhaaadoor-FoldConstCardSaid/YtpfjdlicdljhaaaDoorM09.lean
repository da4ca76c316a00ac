/- Parts. -/
import Derived.Test.YtpfjdlicdljhaaaDoorM08
import Derived.KernelRfl
set_option maxHeartbeats 4000000
namespace Go.Proofs.YtpfjdlicdljhaaaDoor.Hx
def _root_.Go.Code.l:Code->Code
 | .seq a _=>a
 | .cond _ a _=>a
 | .block _ c=>c
 | .loop c=>c
 |_=> .skip
def _root_.Go.Code.r:Code->Code
 | .seq _ b=>b
 | .cond _ _ b=>b
 |_=> .skip
def Jd(fn:Func):Code:=match fn.body with
 |some c=>c
 |none=> .skip
noncomputable section
def df(a:V)(h:Hp):Option V:=tQ a λl off=>We h l off
def eg(n:Nat)(a:V)(h:Hp):Option V:=tQ a λl off=>oB (Bg h l off n) λcs=>some (.agg cs)
def dE(k:Nat)(x:V):Option V:=tQ x λl off=>some (.ptr l (Nat.add off k))
def eX(n:Nat) (x i:V):Option V:=asNat i λi=>match x with
 | .slice l off len=>bB (Nat.blt i len) (some (.ptr l (Nat.add off (Nat.mul i n))))
 |_=>none
def VU(len n:Nat)(x i:V):Option V:=asNat i λi=>tQ x λl off=>bB (Nat.blt i len) (some (.ptr l (Nat.add off (Nat.mul i n))))
def YZ(k:Nat) (x:V):Option V:=match x with
 | .agg cs=>yx cs k
 |_=>none
def js(c a b:V):Option V:=match c with
 | .bool x=>Bool.rec (motive:=λ_=>Option V) (some b) (some a) x
 |_=>none
def fe(x:V):Option V:=match x with
 | .ptr l off=>some (.ptr l off)
 | .func f a c=>some (.func f a c)
 | .iface u v=>some (.iface u v)
 |_=>none
def xO(k:IntKind) (x:V):Option V:=match x with
 | .int _ n=>some (.int k (jr k n))
 |_=>none
def nH(z:List V)(a:List (Nat×Nat))(b:List (Nat×V)):Option V:=oB (wB (λi=>a[i]?) z b) λcs=>some (.agg cs)
def Cn(i:Nat) (x:V):Option V:=match x with
 | .tuple vs=>yx vs i
 |_=>none
def Xx(x:V):Option V:=match x with
 | .str s=>some (.int .i64 (.ofNat s.length))
 |_=>none
def dD(x:V):Option V:=match x with
 | .slice _ _ n=>some (.int .i64 (.ofNat n))
 | .cQ=>some (.int .i64 (.ofNat 0))
 |_=>none
def N5(a:Nat) (d:Option (List Field)) (z:V) (ok:Bool) (m k:V) (h:Hp):Option V:=bB (Eg d k) (match m with
 | .iL=>some (found z ok none)
 | .map l=>zs h l λb _=>oB (rG a d k b 0) λr=>some (found z ok r)
 |_=>none)
def oX(a size len:Nat) (z:V) (b:List (Nat×V)):Option (O×(Nat->V)):=oB (wB (λi=>some (Nat.mul i size,size)) (vP len z.cells) b) λcs=>bB (dU cs) (some (.cells a size true false cs,λl=> .slice l 0 len))
def fk(n:Nat)(a v:V)(h:Hp):Option R:=tQ a λl off=>bB (Nat.beq v.cells.length n) (oB (zB h l off v.cells) λh=>some (.val .undef h))
end
noncomputable section
def dz(x:Option R)(K:V->Hp->Prop):Prop:=oP (oB x valOf) λy=>K y.1 y.2
def G9(C:dc)(x:Option R)(h:Hp)(K:V->Hp->Prop):Prop:=oP (oB x B0) λy=>cP C y.1 y.2 h K
def Y2(C:dc)(f:Nat)(l:List V)(h:Hp)(K:V->Hp->Prop):Prop:=oP (some (f,l)) λy=>cP C y.1 y.2 h K
def gJ(x:Option (O×(Nat->V)))(h:Hp)(K:V->Hp->Prop):Prop:=oP x λr=>K (r.2 h.next) (h.new r.1)
def E0(x:Option (O×(Nat->V)))(h:Hp)(K:O->V->Hp->Prop):Prop:=oP x λr=>K r.1 (r.2 h.next) (h.new r.1)
def ZL(b:Bool)(h:Hp)(x:Option (V×Hp))(K:V->Hp->Prop):Prop:=oP (gH b h x) λy=>K y.1 y.2
def gT(b:Bool)(p:Prop):Prop:=Bool.rec (motive:=λ_=>Prop) True p b
def dA(w:Bool) (x:V):Option Bool:=match x with
 | .bool b=>some (Bool.rec (motive:=λ_=>Bool) (!w) w b)
 | .tuple []=>some false
 |_=>none
end
theorem O2(f:Nat->V) (d:Nat) (v:V):dW f d v d=v:=by
 simp_all[dW,OW]
theorem Sw(f:Nat->V) {d i:Nat} (v:V) (h:i≠d):dW f d v i=f i:=by
 unfold dW;cases hb:Nat.beq i d <;> simp_all
@[simp] theorem c0 {α β:Type} (a:α) (k:α->Option β):oB (some a) k=k a:=rfl
@[simp] theorem Ya {α β:Type} (k:α->Option β):oB (none:Option α) k=none:=rfl
@[simp] theorem oI {β:Type} (k:Option β):bB true k=k:=rfl
@[simp] theorem Wq {β:Type} (k:Option β):bB false k=none:=rfl
theorem iO{β:Type}{c:Bool}(k:Option β)(h:c=true):bB c k=k:=by simp_all
@[simp] theorem sk {β:Type} (l o:Nat) (k:Nat->Nat->Option β):tQ (.ptr l o) k=k l o:=rfl
@[simp] theorem Ua {β:Type} (kd:IntKind) (n:Nat) (k:Nat->Option β):asNat (.int kd (.ofNat n)) k=k n:=rfl
@[simp] theorem Vt {β:Type} (kd:IntKind) (n:Nat) (k:Nat->Option β):asNat (.int kd (n:Int)) k=k n:=rfl
@[simp] theorem Wr {β:Type} (kd:IntKind) (n:Nat) (k:Nat->Option β):asNat (.int kd (OfNat.ofNat n:Int)) k=k n:=rfl
@[simp] theorem Vv {β:Type} (kd:IntKind) (k:Nat->Option β):asNat (.int kd 0) k=k 0:=rfl
@[simp] theorem Wj {β:Type} (kd:IntKind) (k:Nat->Option β):asNat (.int kd 1) k=k 1:=rfl
@[simp] theorem dB (k l o:Nat):dE k (.ptr l o)=some (.ptr l (o+k)):=rfl
@[simp] theorem dq (l o:Nat):fe (.ptr l o)=some (.ptr l o):=rfl
@[simp] theorem Wu (f:Nat) (a c:List V):fe (.func f a c)=some (.func f a c):=rfl
@[simp] theorem VZ (l o n:Nat):dD (.slice l o n)=some (.int .i64 n):=rfl
@[simp] theorem XU:dD .cQ=some (.int .i64 0):=rfl
@[simp] theorem V4 (s:List UInt8):Xx (.str s)=some (.int .i64 s.length):=rfl
@[simp] theorem UZ (x:Bool) (a b:V):js (.bool x) a b=some (if x=true then a else b):=by cases x <;> rfl
@[simp] theorem jA (k k':IntKind) (n:Int):xO k (.int k' n)=some (.int k (jr k n)):=rfl
@[simp] theorem yz (i:Nat) (vs:List V):Cn i (.tuple vs)=yx vs i:=rfl
@[simp] theorem Ye (k:Nat) (cs:List V):YZ k (.agg cs)=yx cs k:=rfl
@[simp] theorem dC (o:O) (f:Nat->V) (h:Hp) (K:V->Hp->Prop):gJ (some (o,f)) h K=K (f h.next) (h.new o):=rfl
@[simp] theorem fQ (o:O) (f:Nat->V) (h:Hp) (K:O->V->Hp->Prop):E0 (some (o,f)) h K=K o (f h.next) (h.new o):=rfl
@[simp] theorem cU (v:V) (h:Hp) (K:V->Hp->Prop):dz (some (.val v h)) K=K v h:=rfl
@[simp] theorem Wt (C:dc) (f:Nat) (l:List V) (h:Hp) (K:V->Hp->Prop):G9 C (some (.call f l)) h K=cP C f l h K:=rfl
@[simp] theorem Y5 (C:dc) (f:Nat) (l:List V) (h:Hp) (K:V->Hp->Prop):Y2 C f l h K=cP C f l h K:=rfl
@[simp] theorem VK (f:Nat) (a c l:List V):wD (.func f a c) l=some (.call f (a++(l++c))):=rfl
@[simp] theorem Xh (w b:Bool):dA w (.bool b)=some (b == w):=by cases w <;> cases b <;> rfl
@[simp] theorem Yt (x:Option V):gV true x=x:=rfl
@[simp] theorem X0 (x:Option V):gV false x=some .undef:=rfl
@[simp] theorem Yi (x:Option (Nat×List V)):gC true x=oB x λy=>some (some y):=rfl
@[simp] theorem XK (x:Option (Nat×List V)):gC false x=some none:=rfl
@[simp] theorem Yw (p:Prop):gT true p=p:=rfl
@[simp] theorem Xv (p:Prop):gT false p=True:=rfl
@[simp] theorem X6 (C:dc) (y:Nat×List V) (h:Hp) (K:V->Hp->Prop):tv C (some y) h K=cP C y.1 y.2 h K:=rfl
@[simp] theorem XG (C:dc) (h:Hp) (K:V->Hp->Prop):tv C none h K=K .undef h:=rfl
theorem se(n l o len i:Nat) (kd:IntKind) (h:i<len):eX n (.slice l o len) (.int kd i)=some (.ptr l (o+i*n)):=by
 show bB (Nat.blt i len) _=_
 grind[iO,I3]
theorem JB{l o e sz:Nat} {ro:Bool} {cs:List V} {h:Hp} (a:h.get l=some (.cells e sz true ro cs)):df (.ptr l o) h=yx cs o:=by
 simp_all[df,We,gG,sk,c0,oI]
theorem xF{n l o e sz:Nat} {ro:Bool} {cs:List V} {h:Hp} (a:h.get l=some (.cells e sz true ro cs)):eg n (.ptr l o) h=oB (sub cs o n) λcs=>some (.agg cs):=by
 simp_all[eg,Bg,gG,sk,c0,oI]
@[simp] theorem XF (v:V) (l:List V):yx (v::l) 0=some v:=rfl
@[simp] theorem WW (v:V) (l:List V) (n:Nat):yx (v::l) (n+1)=yx l n:=rfl
theorem J5(l:List V)(n:Nat):yx l n=l[n]?:=by grind[yx,List.head?_drop]
@[simp] theorem Vb (l:List V):takeN 0 l=some []:=by rfl
@[simp] theorem UQ (n:Nat) (v:V) (l:List V):takeN (n+1) (v::l)=oB (takeN n l) λr=>some (v::r):=rfl
theorem K8:∀(n:Nat) (l:List V),n<=l.length->takeN n l=some (l.take n)
 |0,l,_=>by rfl
 |n+1,[],h=>by simp_all
 |n+1,v::l,h=>by simp only[takeN,K8 n l (by simp_all),c0,List.take_succ_cons]
theorem yW{l:List V} {o n:Nat} (h:o+n<=l.length):sub l o n=some ((l.drop o).take n):=by
 grind[sub,K8]
@[simp] theorem kO {α:Type} (a:α) (k:α->Prop):oP (some a) k=k a:=rfl
@[simp] theorem Qy (x:Bool) (a b:Prop):bP (.bool x) a b=if x=true then a else b:=eP x a b
@[simp] theorem V5 (v:V) (h:Hp):valOf (.val v h)=some (v,h):=rfl
@[simp] theorem UA (f:Nat) (l:List V):B0 (.call f l)=some (f,l):=rfl
section
variable{C:dc}{n:Nat}{Q:X->dR->Hp->Prop}{ρ:dR}{h:Hp}
theorem Wp.of{c:Code}{P:Prop}(e:rQ C n c Q ρ h=P)(a:P):Wp C n c Q ρ h:=Wp.code c (e.mpr a)
theorem Hr{α:Type}{a:α}{k:α->Prop}(h:k a):oP (some a) k:=h
theorem oM{α:Type} {x:Option α} {k k':α->Prop} (h:oP x k) (f:∀a,x=some a->k a->k' a):oP x k':=by
 grind[hK,cO]
theorem bM{v:V} {a b a' b':Prop} (h:bP v a b) (f:a->a') (g:b->b'):bP v a' b':=by
 unfold bP at h⊢;split at h
 ·rename_i x;cases x <;> grind
 omega
theorem ZR{f:Nat} {l:List V} {k k':V->Hp->Prop} (h':cP C f l h k) (F:∀v h',k v h'->k' v h'):Y2 C f l h k':=by
 show cP C f l h k';exact h'.mono F
theorem WS{x:Option (Nat×List V)} {k k':V->Hp->Prop} (h':tv C x h k) (F:∀v h',k v h'->k' v h'):tv C x h k':=by
 cases x with
 |none=>simp_all
 |some y=>exact cP.mono h' F
theorem alM{x:Option (O×(Nat->V))} {k k':V->Hp->Prop} (h':gJ x h k) (F:∀v h',k v h'->k' v h'):gJ x h k':=
 oM h' (by simp_all)
theorem Y6{x:Option R} {k k':V->Hp->Prop} (h':dz x k) (F:∀v h',k v h'->k' v h'):dz x k':=
 oM h' (by simp_all)
end
theorem Yc{a b c:Prop}(h:c/\a)(f:a->b):c/\b:=by simp_all
@[simp] theorem O.jz (e sz:Nat) (a r:Bool) (cs:List V):O.beq (.cells e sz a r cs) (.cells e sz a r cs)=true:=by
 simp[O.beq,V.uo]
@[simp] theorem O.Yj (c:Nat):O.beq (.map [] c) (.map [] c)=true:=by simp[O.beq]
def kI(c:V) (X:Option V):Option V:=match c with
 | .bool true=>some (.bool true)
 | .bool false=>X
 |_=>none
def il(c:V) (X:Option V):Option V:=match c with
 | .bool false=>some (.bool false)
 | .bool true=>X
 |_=>none
@[simp] theorem WU (X:Option V):kI (.bool true) X=some (.bool true):=rfl
@[simp] theorem j6 (X:Option V):kI (.bool false) X=X:=rfl
@[simp] theorem ur (X:Option V):il (.bool true) X=X:=rfl
@[simp] theorem M4 (X:Option V):il (.bool false) X=some (.bool false):=rfl
@[simp] theorem jG (c d:Bool):kI (.bool c) (some (.bool d))=some (.bool (c ||d)):=by cases c <;> rfl
@[simp] theorem fW (c d:Bool):il (.bool c) (some (.bool d))=some (.bool (c&&d)):=by cases c <;> rfl
theorem SH{c d:Bool} {X:Option V} (h:c=true->X=some (.bool d)):il (.bool c) X=some (.bool (c&&d)):=by
 cases c <;> simp_all
theorem YA{A B:Prop}(a:A)(f:A->B):B:=f a
section
variable{c c' Xc:V}{X X':Option V}{K:V->Prop}{f:V->Option V}{w b0:Bool}
theorem Nj(H:oP (kI c X) K):oP (dA false c) λb=>oP (gV b X) λv=>oP (js c (.bool true) v) K:=by
 unfold kI at H;split at H
 ·exact H
 ·exact H
 ·exact H.elim
theorem Kt(H:oP (il c X) K):oP (dA true c) λb=>oP (gV b X) λv=>oP (js c v (.bool false)) K:=by
 unfold il at H;split at H
 ·exact H
 ·exact H
 ·exact H.elim
theorem Zv{R:Bool->V->Prop} (H:oP (dA w c) λb=>oP (gV b (oB X f)) K) (F:∀b,dA w c=some b->∀v,gV b X=some v->(oP (dA w c) λb=>oP (gV b (f v)) K)->R b v):oP (dA w c) λb=>oP (gV b X) λv=>R b v:=by
 obtain⟨b,a,d⟩:=hK.1 H;refine cO a ?_
 cases b with
 | true=>
   grind[hK,c7,oB,cO,gV]
 |false=>simp_all
theorem ta{b:Bool} {v:V} (E:gV b X=some v):gT b (X=some v):=by
 cases b <;> simp_all
end
structure tm (S:Nat->Prop) (h h':Hp):Prop where
 next:h.next<=h'.next
 dO:∀l,l<h.next->¬S l->h'.get l=h.get l
abbrev NN(h h':Hp):Prop:=tm (λ_=>False) h h'
theorem tm.refl(S:Nat->Prop)(h:Hp):tm S h h:=⟨iC _,by simp_all⟩
theorem tm.trans'{S d:Nat->Prop} {h h' c:Hp} (a:tm S h h') (b:tm d h' c) (hs:∀l,l<h.next->d l->S l):tm S h c:=
 ⟨EY a.next b.next,λl e f=>by rw[b.dO l (EP e a.next) (by grind),a.dO l e f]⟩
theorem tm.trans{S:Nat->Prop}{h h' c:Hp}(a:tm S h h')(b:tm S h' c):tm S h c:=a.trans' b (by simp_all)
theorem tm.WD{S b:Nat->Prop} {h h':Hp} (a:tm S h h') (hs:∀l,l<h.next->S l->b l):tm b h h':=
 ⟨a.next,λl c d=>a.dO l c (by grind)⟩
theorem tm.new{S:Nat->Prop} (h:Hp) (o:O):tm S h (h.new o):=
 ⟨Q0 _,λl a _=>by rw[qp,if_neg (by omega)]⟩
theorem tm.put{S:Nat->Prop} {h:Hp} {l:Nat} (o:O) (hs:S l) (a:l<h.next):tm S h (h.put l o):=
 ⟨iC _,λm _ b=>by rw[k9 _ _ a,if_neg (by grind)]⟩
theorem dL(h:Hp)(o:O):(h.new o).get h.next=some o:=by rw[qp,if_pos rfl]
theorem ez{h:Hp}(o:O){l:Nat}(a:l<h.next):(h.new o).get l=h.get l:=by rw[qp,if_neg (by omega)]
theorem ie{h:Hp}{l:Nat}(o:O)(a:l<h.next):(h.put l o).get l=some o:=by rw[k9 _ _ a,if_pos rfl]
theorem kJ{h:Hp}{l m:Nat}(o:O)(a:l<h.next)(b:l≠m):(h.put l o).get m=h.get m:=by simp_all[k9,if_neg]
@[simp] theorem Xr (h:Hp) (o:O):(h.new o).next=h.next+1:=rfl
@[simp] theorem WG (h:Hp) (l:Nat) (o:O):(h.put l o).next=h.next:=rfl
structure oY (α:Type) where
 sz:Nat
 rel:(Nat->Prop)->Hp->α->List V->Prop
 len:∀{b h x cs},rel b h x cs->cs.length=sz
 one:∀{b h x cs},rel b h x cs->dU cs=true
 dO:∀{b h h' x cs},(∀l,b l->h'.get l=h.get l)->rel b h x cs->rel b h' x cs
 mono:∀{b b' h x cs},(∀l,b l->b' l)->rel b h x cs->rel b' h x cs
def lo(b:Nat):Nat->Prop:=λl=>l<b
theorem Nm{b b':Nat}(h:b<=b'):∀l,lo b l->lo b' l:=λ_ a=>EP a h
theorem kS:∀(a b:List V),dU (a++b)=(dU a&&dU b)
 |[],b=>by rfl
 | v::a,b=>by
   simp only[List.cons_append,dU,kS a b];cases v.one <;> simp
@[simp] theorem MW:dU []=true:=rfl
@[simp] theorem cY (v:V) (l:List V):dU (v::l)=(v.one&&dU l):=by
 simp only[dU];cases v.one <;> rfl
def zS:IntKind->Int->Prop
 | .i8,n=>-128<=n/\n<=127
 | .i16,n=>-32768<=n/\n<=32767
 | .i32,n=>-2147483648<=n/\n<=2147483647
 | .i64,n=>-9223372036854775808<=n/\n<=9223372036854775807
 | .u8,n=>0<=n/\n<=255
 | .u16,n=>0<=n/\n<=65535
 | .u32,n=>0<=n/\n<=4294967295
 | .u64,n=>0<=n/\n<=18446744073709551615
def eI(k:IntKind):oY Int where
 sz:=1
 rel _ _ n cs:=cs=[.int k n]/\zS k n
 len h:=by simp_all
 one h:=by rw[h.1];rfl
 dO _ h:=h
 mono _ h:=h
def eB:oY Bool where
 sz:=1
 rel _ _ n cs:=cs=[.bool n]
 len h:=by simp_all
 one h:=by subst h;rfl
 dO _ h:=h
 mono _ h:=h
def eM{α β:Type} (g:β->α) (e:oY α):oY β where
 sz:=e.sz
 rel b h x cs:=e.rel b h (g x) cs
 len h:=e.len h
 one h:=e.one h
 dO hk h:=e.dO hk h
 mono hb h:=e.mono hb h
def m7{α:Type} (e:oY α) (b:Nat->Prop) (h:Hp):List V->List α->Prop
 |_,[]=>True
 |cs,x::xs=>∃w r,cs=w++r/\e.rel b h x w/\m7 e b h r xs
section
variable{α:Type}{e:oY α}{b:Nat->Prop}{h h':Hp}
theorem m7.dO(hk:∀l,b l->h'.get l=h.get l):∀{xs:List α} {cs:List V},m7 e b h cs xs->m7 e b h' cs xs
 |[],_,_=>trivial
 |_::_,_,⟨w,r,a,c,d⟩=>⟨w,r,a,e.dO hk c,m7.dO hk d⟩
theorem m7.mono{b':Nat->Prop} (a:∀l,b l->b' l):∀{xs:List α} {cs:List V},m7 e b h cs xs->m7 e b' h cs xs
 |[],_,_=>trivial
 |_::_,_,⟨w,r,c,d,f⟩=>⟨w,r,c,e.mono a d,m7.mono a f⟩
theorem m7.length:∀{xs:List α} {cs:List V},m7 e b h cs xs->xs.length*e.sz<=cs.length
 |[],_,_=>by simp
 | _::xs,_,⟨w,r,a,c,d⟩=>by
   have:=m7.length d;have f:=e.len c;subst a;simp only[Ht,LU,PV,Nat.one_mul];omega
theorem m7.get:∀{xs:List α} {cs:List V},m7 e b h cs xs->∀{i:Nat} {x:α},xs[i]? =some x->∃w,(cs.drop (i*e.sz)).take e.sz=w/\i*e.sz+e.sz<=cs.length/\e.rel b h x w
 |[],_,_,i,x,hx=>by simp_all
 | y ::xs,_,⟨w,r,a,c,d⟩,i,x,hx=>by
   have f:=e.len c;subst a
   cases i with
   | zero=>
     simp_all
   | succ i=>
     obtain⟨w',g,k,j⟩:=m7.get d (i:=i) (x:=x) (by simp_all);refine⟨w',?_,?_,j⟩
     ·rw[<-g,PV,Nat.one_mul,Nat.add_comm,<-f,<-UJ];simp
     grind
theorem m7.append{ys:List α}:∀{xs:List α} {cs ds:List V},m7 e b h cs xs->cs.length=xs.length*e.sz->m7 e b h ds ys->m7 e b h (cs++ds) (xs++ys)
 | [],cs,ds,_,hl,a=>by
   simp_all
 | x::xs,_,ds,⟨w,r,c,a,d⟩,hl,f=>by
   subst c;have g:=e.len a;refine⟨w,r++ds,by simp,a,m7.append d ?_ f⟩
   grind
theorem m7.take:∀{xs:List α} {cs:List V},m7 e b h cs xs->m7 e b h (cs.take (xs.length*e.sz)) xs
 |[],_,_=>trivial
 | _::xs,_,⟨w,r,c,a,d⟩=>by
   have f:=e.len a;subst c;refine⟨w,r.take (xs.length*e.sz),?_,a,m7.take d⟩
   simp_all[List.take_append,SI,LU,PV,Nat.one_mul]
theorem m7.more{ds:List V}:∀{xs:List α} {cs:List V},m7 e b h cs xs->m7 e b h (cs++ds) xs
 |[],_,_=>trivial
 |_::_,_,⟨w,r,a,c,d⟩=>⟨w,r++ds,by rw[a,Hq],c,m7.more d⟩
theorem m7.set:∀{xs:List α} {cs:List V},m7 e b h cs xs->∀{i:Nat} {y:α} {w:List V},i<xs.length->e.rel b h y w->m7 e b h (cs.take (i*e.sz)++w++cs.drop (i*e.sz+e.sz)) (xs.set i y)
 |[],_,_,i,y,w,hi,_=>by simp_all
 | x ::xs,_,⟨u,r,d,a,c⟩,i,y,w,hi,hw=>by
   have f:=e.len a;have g:=e.len hw;subst d
   cases i with
   | zero=>
     refine⟨w,r,?_,hw,c⟩
     simp_all
   | succ i=>
     refine⟨u,_,?_,a,m7.set c (i:=i) (y:=y) (w:=w) (by simpa using hi) hw⟩;have j:(i+1)*e.sz=u.length+i*e.sz:=by rw[PV,Nat.one_mul,f];omega
     have k:(i+1)*e.sz+e.sz=u.length+(i*e.sz+e.sz):=by omega
     rw[k,j,List.take_length_add_append,<-UJ,List.drop_left]
     simp_all
end
def fJ{α:Type} (e:oY α) (b:Nat->Prop) (h:Hp) (xs:List α) (v:V):Prop:=(v = .cQ/\xs=[])\/∃l off ty live ro cs,v = .slice l off xs.length/\b l/\h.get l=some (.cells ty e.sz live ro cs)/\(xs=[]\/live=true)/\off<=cs.length/\m7 e b h (cs.drop off) xs
section
variable{α:Type}{e:oY α}{b:Nat->Prop}{h h':Hp}{xs:List α}{v:V}
theorem fJ.dO(hk:∀l,b l->h'.get l=h.get l) (hs:fJ e b h xs v):fJ e b h' xs v:=by
 rcases hs with hs|⟨l,off,ty,live,ro,cs,a,c,i,d,f,g⟩
 ·exact .inl hs
 ·exact .inr ⟨l,off,ty,live,ro,cs,a,c,by simp_all,d,f,g.dO hk⟩
theorem fJ.mono{b':Nat->Prop} (a:∀l,b l->b' l) (hs:fJ e b h xs v):fJ e b' h xs v:=by
 rcases hs with hs|⟨l,off,ty,live,ro,cs,c,d,f,g,i,j⟩
 ·exact .inl hs
 ·exact .inr ⟨l,off,ty,live,ro,cs,c,a l d,f,g,i,j.mono a⟩
theorem fJ.one(hs:fJ e b h xs v):v.one=true:=by
 rcases hs with⟨rfl,_⟩|⟨l,off,ty,live,ro,cs,rfl,_⟩ <;> rfl
end
def eL{α:Type} (e:oY α):oY (List α) where
 sz:=1
 rel b h xs cs:=∃v,cs=[v]/\fJ e b h xs v
 len:=by simp_all
 one:=λ⟨_,h,hs⟩=>by subst h;simp[hs.one]
 dO:=λhk ⟨v,h,hs⟩=>⟨v,h,hs.dO hk⟩
 mono:=λa ⟨v,h,hs⟩=>⟨v,h,hs.mono a⟩
section
variable{α:Type}{e:oY α}{b:Nat->Prop}{h h':Hp}{xs:List α}{v:V}
theorem fJ.len(hs:fJ e b h xs v):dD v=some (.int .i64 xs.length):=by
 rcases hs with⟨rfl,rfl⟩|⟨l,off,ty,live,ro,cs,rfl,_⟩ <;> rfl
theorem fJ.nil:fJ e b h [] .cQ:= .inl ⟨rfl,rfl⟩
theorem fJ.ix(hs:fJ e b h xs v) {i:Nat} (hi:i<xs.length) (kd:IntKind) :
  ∃l o w,b l/\eX e.sz v (.int kd i)=some (.ptr l o)/\eg e.sz (.ptr l o) h=some (.agg w)/\e.rel b h xs[i] w/\∀k u,w[k]? =some u->df (.ptr l (o+k)) h=some u:=by
 rcases hs with⟨_,rfl⟩|⟨l,off,ty,live,ro,cs,rfl,c,a,n,p,d⟩
 ·grind
 ·obtain rfl:live=true:=by grind
  obtain⟨w,f,g,j⟩:=d.get (i:=i) (x:=xs[i]) (by simp_all);rw[V6]at g;have m:(cs.drop (off+i*e.sz)).take e.sz=w:=by rw[<-f,UJ]
  refine⟨l,off+i*e.sz,w,c,by grind[se],?_,j,λk u q=>?_⟩
  ·rw[xF a,yW (by omega),m];rfl
  ·rw[JB a,J5]
   grind
theorem fJ.Np(hs:fJ e b h xs v) {i:Nat} (hi:i<xs.length) (kd:IntKind) (a:e.sz=1) :
  ∃l o u,b l/\eX 1 v (.int kd i)=some (.ptr l o)/\df (.ptr l o) h=some u/\e.rel b h xs[i] [u]:=by
 obtain ⟨l,o,w,h0,c,_,d,g⟩:=hs.ix hi kd;rw[a]at c;have f:=e.len d;rw[a]at f;obtain⟨u,rfl⟩:∃u,w=[u]:=by
  match w,f with
  |[u],_=>simp_all
 exact⟨l,o,u,h0,c,g 0 u rfl,d⟩
theorem fJ.Nh{b':Nat->Prop} {ty:Nat} {ro:Bool} {cs:List V} (c:m7 e b h cs xs) (f:∀l,b l->l<h.next) (a:∀l,b l->b' l) (d:b' h.next):fJ e b' (h.new (.cells ty e.sz true ro cs)) xs (.slice h.next 0 xs.length):=
 .inr ⟨h.next,0,ty,true,ro,cs,rfl,d,dL _ _,.inr rfl,J9 _,(c.dO (by grind[ez])).mono a⟩
theorem fJ.new{ty:Nat} {ro:Bool} {cs:List V} {n:Nat} (c:m7 e (lo n) h cs xs) (b:n<=h.next):fJ e (lo (h.next+1)) (h.new (.cells ty e.sz true ro cs)) xs (.slice h.next 0 xs.length):=
 .Nh c (λ_ a=>EP a b) (λ_ a=>WY (EP a b)) (Ls _)
end
section
variable (t:Nat)(k:IntKind)(a b:Int)
@[simp] theorem z9:cX .add t (.int k a) (.int k b)=some (.int k (jr k (a+b))):=by cases k <;> rfl
@[simp] theorem Dz:cX .sub t (.int k a) (.int k b)=some (.int k (jr k (a-b))):=by cases k <;> rfl
@[simp] theorem KV:cX .mul t (.int k a) (.int k b)=some (.int k (jr k (a*b))):=by cases k <;> rfl
@[simp] theorem jZ:cX .lss t (.int k a) (.int k b)=some (.bool (decide (a<b))):=by cases k <;> rfl
@[simp] theorem Gm:cX .leq t (.int k a) (.int k b)=some (.bool (decide (a<=b))):=by cases k <;> rfl
@[simp] theorem qR:cX .gtr t (.int k a) (.int k b)=some (.bool (decide (b<a))):=by cases k <;> rfl
@[simp] theorem oD:cX .geq t (.int k a) (.int k b)=some (.bool (decide (b<=a))):=by cases k <;> rfl
@[simp] theorem fx:cX .eql t (.int k a) (.int k b)=some (.bool (a == b)):=by cases k <;> rfl
@[simp] theorem mf:cX .neq t (.int k a) (.int k b)=some (.bool (a != b)):=by cases k <;> rfl
@[simp] theorem Wk (x y:List UInt8):cX .eql t (.str x) (.str y)=some (.bool (x == y)):=rfl
@[simp] theorem Wv (x y:List UInt8):cX .neq t (.str x) (.str y)=some (.bool (!(x == y))):=rfl
@[simp] theorem Ok (x:Bool):lB .not (.bool x)=some (.bool !x):=rfl
@[simp] theorem JW:lB .neg (.int k a)=some (.int k (jr k (0-a))):=rfl
theorem yi{k:IntKind} {n:Int} (h:zS k n):jr k n=n:=by
 rw[mc];cases k <;> simp only[zS]at h <;> simp only[IntKind.wrap,IntKind.signed,IntKind.bits,Sv,Bool.false_and,zv,Kg,if_false,Nat.reduceSub,Int.reducePow,ge_iff_le] <;> (try split) <;> omega
@[simp] theorem Wl {n:Nat} (h:n<9223372036854775808):jr .i64 (n:Int)=n:=yi (by simp only[zS];omega)
@[simp] theorem Qs (g:Bool):KZ g (.int k a) [.int k b]=some (.int k (if g then max a b else min a b)):=by
 cases g
 ·show some (V.int k (if b<a then b else a))=_;simp only[Kg,if_false];congr 2;omega
 ·show some (V.int k (if b>a then b else a))=_;simp only[if_true];congr 2;omega
end
theorem Qo(n:Nat) (z:V):vP n [z]=List.replicate n z:=by
 induction n <;> grind[vP]
theorem HQ{e sz ic n:Nat} {z:V} (a:n*ic<=281474976710656) (b:n<=1099511627776) :
  fc e sz ic z (.int .i64 (n:Int)) (.int .i64 (n:Int))=some (O.cells e sz true false (vP n z.cells),λl=>V.slice l 0 n):=by
 show bB (Nat.ble n n) (bB (Nat.ble (n*ic) 281474976710656) (bB (Nat.ble n 1099511627776) (some (O.cells e sz true false (vP n z.cells),λl=>V.slice l 0 n))))=_
 simp_all[iO,Mh,iC]
theorem Mg{cs:List V} {v:V}:∀{o:Nat},o<cs.length->kV o cs [v]=some (cs.set o v):=by
 induction cs with
 |nil=>simp_all
 | cons c cs a=>
   intro o h
   cases o with
   |zero=>rfl
   | succ o=>
     grind[kV,c0]
theorem NQ:∀{ws cs:List V},ws.length<=cs.length->over ws cs=some (ws++cs.drop ws.length)
 |[],_,_=>rfl
 |w::ws,[],h=>by simp_all
 | w::ws,c::cs,h=>by
   have:=NQ (ws:=ws) (cs:=cs) (by simp_all)
   grind[over,c0,LU]
theorem uq:∀{o:Nat} {cs ws:List V},o+ws.length<=cs.length->kV o cs ws=some (cs.take o++ws++cs.drop (o+ws.length))
 |0,cs,ws,h=>by simp_all[kV,NQ,Wc,Pr,yD]
 |o+1,[],ws,h=>by simp_all
 | o+1,c::cs,ws,h=>by
   have:=uq (o:=o) (cs:=cs) (ws:=ws) (by grind)
   grind[kV,c0]
theorem A5{v:V} (h:v.one=true):v.cells=[v]:=by
 cases v <;> first|rfl|cases h
section
variable{l o e sz:Nat}{cs:List V}{h:Hp}{v:V}
theorem JC(b:h.get l=some (.cells e sz true false cs)) (c:o<cs.length) (a:v.one=true):fk 1 (.ptr l o) v h=some (.val .undef (h.put l (.cells e sz true false (cs.set o v)))):=by
 unfold fk zB gG;simp only[sk,A5 a,LU,XE,b,c0,oI,UE,cY,a,MW,Bool.and_self,Mg c];rfl
theorem Ty{ws:List V} {n:Nat} (a:h.get l=some (.cells e sz true false cs)) (b:ws.length=n) (hc:cs.length=n) (c:dU ws=true):fk n (.ptr l 0) (.agg ws) h=some (.val .undef (h.put l (.cells e sz true false ws))):=by
 unfold fk zB gG;have hs:kV 0 cs ws=some ws:=by
  rw[uq (by omega),Wc,Pr,yD,List.drop_of_length_le (by omega),GK]
 grind[sk,V.cells,c0,oI,UE,iO,OW]
theorem Qh{ws:List V} {n:Nat} (a:h.get l=some (.cells e sz true false cs)) (c:ws.length=n) (hc:o+n<=cs.length) (b:dU ws=true) :
  fk n (.ptr l o) (.agg ws) h=some (.val .undef (h.put l (.cells e sz true false (cs.take o++ws++cs.drop (o+n))))):=by
 unfold fk zB gG;simp only[sk,V.cells,a,c0,oI,UE,b,uq (show o+ws.length<=cs.length by omega)]
 simp_all
theorem JY{u:V}{ro:Bool}(a:h.get l=some (.cells e sz true ro cs))(b:cs[o]? =some u):df (.ptr l o) h=some u:=by rw[JB a,J5,b]
theorem Qf{n:Nat} {ro:Bool} (a:h.get l=some (.cells e sz true ro cs)) (b:cs.length=n):eg n (.ptr l 0) h=some (.agg cs):=by
 rw[xF a,yW (by omega),UH,SI (by omega)];rfl
end
section
variable{α:Type}{e:oY α}{b:Nat->Prop}{h:Hp}
theorem m7.drop:∀{xs:List α} {cs:List V} (n:Nat),m7 e b h cs xs->n<=xs.length->m7 e b h (cs.drop (n*e.sz)) (xs.drop n)
 |xs,cs,0,hw,_=>by simp_all
 |[],cs,n+1,_,hn=>by simp_all
 | x::xs,cs,n+1,⟨w,r,a,c,d⟩,hn=>by
   have:=m7.drop n d (by simpa using hn);have f:=e.len c;subst a;rw[List.drop_succ_cons,PV,Nat.one_mul,Nat.add_comm,<-UJ,<-f,List.drop_left]
   simp_all
theorem m7.taken:∀{xs:List α} {cs:List V} (n:Nat),m7 e b h cs xs->m7 e b h cs (xs.take n)
 |xs,cs,0,_=>by simp only[Wc];trivial
 |[],cs,n+1,_=>by simp_all
 |x::xs,cs,n+1,⟨w,r,a,c,d⟩=>⟨w,r,a,c,m7.taken n d⟩
theorem IN(z:Nat) (k:IntKind) (n:Nat):hbound z (some (.int k n))=some n:=by
 rfl
theorem Ar(z:Nat):hbound z none=some z:=rfl
theorem fJ.cut{xs:List α} {v:V} (hs:fJ e b h xs v) {lo hi:Option V} {m n:Nat} (i:hbound 0 lo=some m) (j:hbound xs.length hi=some n) (k:m<=n) (a:n<=xs.length) :
  ∃d,jl e.sz v lo hi h=some d/\fJ e b h ((xs.take n).drop m) d:=by
 rcases hs with⟨rfl,rfl⟩|⟨l,off,ty,live,ro,cs,rfl,o,p,r,s,f⟩
 ·simp at a;subst a;obtain rfl:m=0:=by omega
  refine⟨.cQ,?_,.inl ⟨rfl,by simp⟩⟩
  simp_all[jl,c0,hbound]
 ·have q:=f.length;have g:m*e.sz<=n*e.sz:=XL _ k;have c:n*e.sz<=xs.length*e.sz:=XL _ a;rw[V6]at q;refine⟨.slice l (off+m*e.sz) (n-m),?_,?_⟩
  ·grind[jl,gG,c0,iO,OW,Mh]
  ·have hlen:((xs.take n).drop m).length=n-m:=by rw[V6,JQ];omega
   refine .inr ⟨l,off+m*e.sz,ty,live,ro,cs,by rw[hlen],o,p,?_,by omega,?_⟩
   ·grind
   ·rw[<-UJ];exact(f.taken n).drop m (by simp_all)
end
section
variable{e sz a n:Nat}{h h':Hp}{cs:List V}{v:V}
theorem BS{e sz k:Nat} {h:Hp} {cs:List V} {ro:Bool} (a:cs.length=(k+1)*sz):ri (h.new (.cells e sz true ro cs)) sz (.slice h.next 0 (k+1))=some (k+1,cs):=by
 unfold ri Bg gG;have:sub cs 0 (Nat.mul (Nat.succ k) sz)=some cs:=by
  show sub cs 0 ((k+1)*sz)=some cs;rw[yW (by omega),UH,SI (by omega)]
 grind[dL,c0,oI]
end
