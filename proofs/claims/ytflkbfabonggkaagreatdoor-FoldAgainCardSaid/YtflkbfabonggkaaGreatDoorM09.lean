/- Parts. -/
import Derived.Test.YtflkbfabonggkaaGreatDoorM08
import Derived.KernelRfl
set_option maxHeartbeats 4000000
namespace Go.Proofs.YtflkbfabonggkaaGreatDoor.Hx
def _root_.Go.Code.l:Code->Code
 | .seq a _=>a
 | .cond _ a _=>a
 | .block _ c=>c
 | .loop c=>c
 |_=> .skip
def _root_.Go.Code.r:Code->Code
 | .seq _ b=>b
 | .cond _ _ b=>b
 |_=> .skip
def KA(fn:Func):Code:=match fn.body with
 |some c=>c
 |none=> .skip
noncomputable section
def ez(a:V)(h:Hp):Option V:=zH a λl off=>ld1 h l off
def gv(n:Nat)(a:V)(h:Hp):Option V:=zH a λl off=>oB (HU h l off n) λcs=>some (.agg cs)
def fH(k:Nat)(x:V):Option V:=zH x λl off=>some (.ptr l (Nat.add off k))
def gz(n:Nat) (x i:V):Option V:=asNat i λi=>match x with
 | .slice l off len=>bB (Nat.blt i len) (some (.ptr l (Nat.add off (Nat.mul i n))))
 |_=>none
def zc0(len n:Nat)(x i:V):Option V:=asNat i λi=>zH x λl off=>bB (Nat.blt i len) (some (.ptr l (Nat.add off (Nat.mul i n))))
def zfj(k:Nat) (x:V):Option V:=match x with
 | .agg cs=>Fi cs k
 |_=>none
def jt(c a b:V):Option V:=match c with
 | .bool x=>Bool.rec (motive:=λ_=>Option V) (some b) (some a) x
 |_=>none
def gY(x:V):Option V:=match x with
 | .ptr l off=>some (.ptr l off)
 | .func f a c=>some (.func f a c)
 | .iface u v=>some (.iface u v)
 |_=>none
def oO(k:IntKind) (x:V):Option V:=match x with
 | .int _ n=>some (.int k (lH k n))
 |_=>none
def fV(z:List V)(a:List (Nat×Nat))(ps:List (Nat×V)):Option V:=oB (DT (λi=>a[i]?) z ps) λcs=>some (.agg cs)
def zk(i:Nat) (x:V):Option V:=match x with
 | .tuple vs=>Fi vs i
 |_=>none
def zdL(x:V):Option V:=match x with
 | .str s=>some (.int .i64 (.ofNat s.length))
 |_=>none
def fE(x:V):Option V:=match x with
 | .slice _ _ n=>some (.int .i64 (.ofNat n))
 | .ee=>some (.int .i64 (.ofNat 0))
 |_=>none
def U1(a:Nat) (d:Option (List Field)) (z:V) (ok:Bool) (m k:V) (h:Hp):Option V:=bB (K1 d k) (match m with
 | .mc=>some (found z ok none)
 | .map l=>Fa h l λb _=>oB (ye a d k b 0) λr=>some (found z ok r)
 |_=>none)
def jr(a size len:Nat) (z:V) (ps:List (Nat×V)):Option (O×(Nat->V)):=oB (DT (λi=>some (Nat.mul i size,size)) (Co len z.cells) ps) λcs=>bB (gj cs) (some (.cells a size true false cs,λl=> .slice l 0 len))
def gI(n:Nat)(a v:V)(h:Hp):Option R:=zH a λl off=>bB (Nat.beq v.cells.length n) (oB (Fp h l off v.cells) λh=>some (.val .undef h))
end
noncomputable section
def fi(x:Option R)(K:V->Hp->Prop):Prop:=oP (oB x valOf) λy=>K y.1 y.2
def hH(C:fm)(x:Option R)(h:Hp)(K:V->Hp->Prop):Prop:=oP (oB x IF) λy=>cP C y.1 y.2 h K
def dcP(C:fm)(f:Nat)(l:List V)(h:Hp)(K:V->Hp->Prop):Prop:=oP (some (f,l)) λy=>cP C y.1 y.2 h K
def ig(x:Option (O×(Nat->V)))(h:Hp)(K:V->Hp->Prop):Prop:=oP x λr=>K (r.2 h.next) (h.new r.1)
def yn(x:Option (O×(Nat->V)))(h:Hp)(K:O->V->Hp->Prop):Prop:=oP x λr=>K r.1 (r.2 h.next) (h.new r.1)
def ghP(b:Bool)(h:Hp)(x:Option (V×Hp))(K:V->Hp->Prop):Prop:=oP (gH b h x) λy=>K y.1 y.2
def gT(b:Bool)(p:Prop):Prop:=Bool.rec (motive:=λ_=>Prop) True p b
def fy(w:Bool) (x:V):Option Bool:=match x with
 | .bool b=>some (Bool.rec (motive:=λ_=>Bool) (!w) w b)
 | .tuple []=>some false
 |_=>none
end
theorem Wt(f:Nat->V) (d:Nat) (v:V):fo f d v d=v:=by
 simp_all[fo,WG]
theorem zag(f:Nat->V) {d i:Nat} (v:V) (h:i≠d):fo f d v i=f i:=by
 unfold fo;cases hb:Nat.beq i d <;> simp_all
@[simp] theorem fe {α β:Type} (a:α) (k:α->Option β):oB (some a) k=k a:=rfl
@[simp] theorem zei {α β:Type} (k:α->Option β):oB (none:Option α) k=none:=rfl
@[simp] theorem tT {β:Type} (k:Option β):bB true k=k:=rfl
@[simp] theorem zdg {β:Type} (k:Option β):bB false k=none:=rfl
theorem mE{β:Type}{c:Bool}(k:Option β)(h:c=true):bB c k=k:=by simp_all
@[simp] theorem ym {β:Type} (l o:Nat) (k:Nat->Nat->Option β):zH (.ptr l o) k=k l o:=rfl
@[simp] theorem zb1 {β:Type} (kd:IntKind) (n:Nat) (k:Nat->Option β):asNat (.int kd (.ofNat n)) k=k n:=rfl
@[simp] theorem zcA {β:Type} (kd:IntKind) (n:Nat) (k:Nat->Option β):asNat (.int kd (n:Int)) k=k n:=rfl
@[simp] theorem zdo {β:Type} (kd:IntKind) (n:Nat) (k:Nat->Option β):asNat (.int kd (OfNat.ofNat n:Int)) k=k n:=rfl
@[simp] theorem zc3 {β:Type} (kd:IntKind) (k:Nat->Option β):asNat (.int kd 0) k=k 0:=rfl
@[simp] theorem zdh {β:Type} (kd:IntKind) (k:Nat->Option β):asNat (.int kd 1) k=k 1:=rfl
@[simp] theorem fT (k l o:Nat):fH k (.ptr l o)=some (.ptr l (o+k)):=rfl
@[simp] theorem fQ (l o:Nat):gY (.ptr l o)=some (.ptr l o):=rfl
@[simp] theorem zdn (f:Nat) (a c:List V):gY (.func f a c)=some (.func f a c):=rfl
@[simp] theorem zci (l o n:Nat):fE (.slice l o n)=some (.int .i64 n):=rfl
@[simp] theorem zeG:fE .ee=some (.int .i64 0):=rfl
@[simp] theorem zdk (s:List UInt8):zdL (.str s)=some (.int .i64 s.length):=rfl
@[simp] theorem Eb (x:Bool) (a b:V):jt (.bool x) a b=some (if x=true then a else b):=by cases x <;> rfl
@[simp] theorem iC (k k':IntKind) (n:Int):oO k (.int k' n)=some (.int k (lH k n)):=rfl
@[simp] theorem EW (i:Nat) (vs:List V):zk i (.tuple vs)=Fi vs i:=rfl
@[simp] theorem zdw (k:Nat) (cs:List V):zfj k (.agg cs)=Fi cs k:=rfl
@[simp] theorem fx (o:O) (f:Nat->V) (h:Hp) (K:V->Hp->Prop):ig (some (o,f)) h K=K (f h.next) (h.new o):=rfl
@[simp] theorem gR (o:O) (f:Nat->V) (h:Hp) (K:O->V->Hp->Prop):yn (some (o,f)) h K=K o (f h.next) (h.new o):=rfl
@[simp] theorem ei (v:V) (h:Hp) (K:V->Hp->Prop):fi (some (.val v h)) K=K v h:=rfl
@[simp] theorem OM (C:fm) (f:Nat) (l:List V) (h:Hp) (K:V->Hp->Prop):hH C (some (.call f l)) h K=cP C f l h K:=rfl
@[simp] theorem zfm (C:fm) (f:Nat) (l:List V) (h:Hp) (K:V->Hp->Prop):dcP C f l h K=cP C f l h K:=rfl
@[simp] theorem M5 (f:Nat) (a c l:List V):gh (.func f a c) l=some (.call f (a++(l++c))):=rfl
@[simp] theorem zdq (w b:Bool):fy w (.bool b)=some (b == w):=by cases w <;> cases b <;> rfl
@[simp] theorem ze8 (x:Option V):gV true x=x:=rfl
@[simp] theorem ze1 (x:Option V):gV false x=some .undef:=rfl
@[simp] theorem ze6 (x:Option (Nat×List V)):gC true x=oB x λy=>some (some y):=rfl
@[simp] theorem zeo (x:Option (Nat×List V)):gC false x=some none:=rfl
@[simp] theorem ze5 (p:Prop):gT true p=p:=rfl
@[simp] theorem zeW (p:Prop):gT false p=True:=rfl
@[simp] theorem zeS (C:fm) (y:Nat×List V) (h:Hp) (K:V->Hp->Prop):uj C (some y) h K=cP C y.1 y.2 h K:=rfl
@[simp] theorem zeX (C:fm) (h:Hp) (K:V->Hp->Prop):uj C none h K=K .undef h:=rfl
theorem yl(n l o len i:Nat) (kd:IntKind) (h:i<len):gz n (.slice l o len) (.int kd i)=some (.ptr l (o+i*n)):=by
 show bB (Nat.blt i len) _=_
 grind[mE,Qu]
theorem PJ{l o e sz:Nat} {ro:Bool} {cs:List V} {h:Hp} (a:h.get l=some (.cells e sz true ro cs)):ez (.ptr l o) h=Fi cs o:=by
 simp_all[ez,ld1,j5,ym,fe,tT]
theorem DU{n l o e sz:Nat} {ro:Bool} {cs:List V} {h:Hp} (a:h.get l=some (.cells e sz true ro cs)):gv n (.ptr l o) h=oB (sub cs o n) λcs=>some (.agg cs):=by
 simp_all[gv,HU,j5,ym,fe,tT]
@[simp] theorem zey (v:V) (l:List V):Fi (v::l) 0=some v:=rfl
@[simp] theorem zdp (v:V) (l:List V) (n:Nat):Fi (v::l) (n+1)=Fi l n:=rfl
theorem Qf(l:List V)(n:Nat):Fi l n=l[n]?:=by grind[Fi,List.head?_drop]
@[simp] theorem zcG (l:List V):takeN 0 l=some []:=by rfl
@[simp] theorem zcV (n:Nat) (v:V) (l:List V):takeN (n+1) (v::l)=oB (takeN n l) λr=>some (v::r):=rfl
theorem Ry:∀(n:Nat) (l:List V),n<=l.length->takeN n l=some (l.take n)
 |0,l,_=>by rfl
 |n+1,[],h=>by simp_all
 |n+1,v::l,h=>by simp only[takeN,Ry n l (by simp_all),fe,List.take_succ_cons]
theorem Er{l:List V} {o n:Nat} (h:o+n<=l.length):sub l o n=some ((l.drop o).take n):=by
 grind[sub,Ry]
@[simp] theorem hX {α:Type} (a:α) (k:α->Prop):oP (some a) k=k a:=rfl
@[simp] theorem Nr (x:Bool) (a b:Prop):bP (.bool x) a b=if x=true then a else b:=ij x a b
@[simp] theorem zdm (v:V) (h:Hp):valOf (.val v h)=some (v,h):=rfl
@[simp] theorem zb7 (f:Nat) (l:List V):IF (.call f l)=some (f,l):=rfl
section
variable{C:fm}{n:Nat}{Q:X->gD->Hp->Prop}{ρ:gD}{h:Hp}
theorem Wp.of{c:Code}{P:Prop}(e:jH C n c Q ρ h=P)(hp:P):Wp C n c Q ρ h:=Wp.code c (e.mpr hp)
theorem vB{α:Type}{a:α}{k:α->Prop}(h:k a):oP (some a) k:=h
theorem oM{α:Type} {x:Option α} {k k':α->Prop} (h:oP x k) (f:∀a,x=some a->k a->k' a):oP x k':=by
 grind[kS,ed]
theorem bM{v:V} {a b a' b':Prop} (h:bP v a b) (f:a->a') (g:b->b'):bP v a' b':=by
 unfold bP at h⊢;split at h
 ·rename_i x;cases x <;> grind
 omega
theorem dcM{f:Nat} {l:List V} {k k':V->Hp->Prop} (h':cP C f l h k) (F:∀v h',k v h'->k' v h'):dcP C f l h k':=by
 show cP C f l h k';exact h'.mono F
theorem cgM{x:Option (Nat×List V)} {k k':V->Hp->Prop} (h':uj C x h k) (F:∀v h',k v h'->k' v h'):uj C x h k':=by
 cases x with
 |none=>simp_all
 |some y=>exact cP.mono h' F
theorem alM{x:Option (O×(Nat->V))} {k k':V->Hp->Prop} (h':ig x h k) (F:∀v h',k v h'->k' v h'):ig x h k':=
 oM h' (by simp_all)
theorem zcI{x:Option R} {k k':V->Hp->Prop} (h':fi x k) (F:∀v h',k v h'->k' v h'):fi x k':=
 oM h' (by simp_all)
end
theorem anM{a b c:Prop}(h:c/\a)(f:a->b):c/\b:=by simp_all
@[simp] theorem O.kF (e sz:Nat) (a r:Bool) (cs:List V):O.beq (.cells e sz a r cs) (.cells e sz a r cs)=true:=by
 simp[O.beq,V.Ae]
@[simp] theorem O.ze7 (c:Nat):O.beq (.map [] c) (.map [] c)=true:=by simp[O.beq]
def nP(c:V) (X:Option V):Option V:=match c with
 | .bool true=>some (.bool true)
 | .bool false=>X
 |_=>none
def jO(c:V) (X:Option V):Option V:=match c with
 | .bool false=>some (.bool false)
 | .bool true=>X
 |_=>none
@[simp] theorem zeE (X:Option V):nP (.bool true) X=some (.bool true):=rfl
@[simp] theorem mF (X:Option V):nP (.bool false) X=X:=rfl
@[simp] theorem oS (X:Option V):jO (.bool true) X=X:=rfl
@[simp] theorem Ew (X:Option V):jO (.bool false) X=some (.bool false):=rfl
@[simp] theorem pH (c d:Bool):nP (.bool c) (some (.bool d))=some (.bool (c ||d)):=by cases c <;> rfl
@[simp] theorem jc (c d:Bool):jO (.bool c) (some (.bool d))=some (.bool (c&&d)):=by cases c <;> rfl
theorem zaH{c d:Bool} {X:Option V} (h:c=true->X=some (.bool d)):jO (.bool c) X=some (.bool (c&&d)):=by
 cases c <;> simp_all
theorem thn{A B:Prop}(a:A)(f:A->B):B:=f a
section
variable{c c' Xc:V}{X X':Option V}{K:V->Prop}{f:V->Option V}{w b0:Bool}
theorem Jw(H:oP (nP c X) K):oP (fy false c) λb=>oP (gV b X) λv=>oP (jt c (.bool true) v) K:=by
 unfold nP at H;split at H
 ·exact H
 ·exact H
 ·exact H.elim
theorem MV(H:oP (jO c X) K):oP (fy true c) λb=>oP (gV b X) λv=>oP (jt c v (.bool false)) K:=by
 unfold jO at H;split at H
 ·exact H
 ·exact H
 ·exact H.elim
theorem sG1{R:Bool->V->Prop} (H:oP (fy w c) λb=>oP (gV b (oB X f)) K) (F:∀b,fy w c=some b->∀v,gV b X=some v->(oP (fy w c) λb=>oP (gV b (f v)) K)->R b v):oP (fy w c) λb=>oP (gV b X) λv=>R b v:=by
 obtain⟨b,a,d⟩:=kS.1 H;refine ed a ?_
 cases b with
 | true=>
   grind[kS,fq,oB,ed,gV]
 |false=>simp_all
theorem hK{b:Bool} {v:V} (E:gV b X=some v):gT b (X=some v):=by
 cases b <;> simp_all
end
structure lN (S:Nat->Prop) (h h':Hp):Prop where
 next:h.next<=h'.next
 fh:∀l,l<h.next->¬S l->h'.get l=h.get l
abbrev Im(h h':Hp):Prop:=lN (λ_=>False) h h'
theorem lN.refl(S:Nat->Prop)(h:Hp):lN S h h:=⟨iZ _,by simp_all⟩
theorem lN.trans'{S S':Nat->Prop} {h h' c:Hp} (a:lN S h h') (b:lN S' h' c) (hs:∀l,l<h.next->S' l->S l):lN S h c:=
 ⟨Ie a.next b.next,λl d e=>by rw[b.fh l (EL d a.next) (by grind),a.fh l d e]⟩
theorem lN.trans{S:Nat->Prop}{h h' c:Hp}(a:lN S h h')(b:lN S h' c):lN S h c:=a.trans' b (by simp_all)
theorem lN.X4{S S':Nat->Prop} {h h':Hp} (a:lN S h h') (hs:∀l,l<h.next->S l->S' l):lN S' h h':=
 ⟨a.next,λl b c=>a.fh l b (by grind)⟩
theorem lN.new{S:Nat->Prop} (h:Hp) (o:O):lN S h (h.new o):=
 ⟨O4 _,λl a _=>by rw[xi,if_neg (by omega)]⟩
theorem lN.put{S:Nat->Prop} {h:Hp} {l:Nat} (o:O) (hs:S l) (a:l<h.next):lN S h (h.put l o):=
 ⟨iZ _,λm _ b=>by rw[pW _ _ a,if_neg (by grind)]⟩
theorem fg(h:Hp)(o:O):(h.new o).get h.next=some o:=by rw[xi,if_pos rfl]
theorem fj{h:Hp}(o:O){l:Nat}(a:l<h.next):(h.new o).get l=h.get l:=by rw[xi,if_neg (by omega)]
theorem gg{h:Hp}{l:Nat}(o:O)(a:l<h.next):(h.put l o).get l=some o:=by rw[pW _ _ a,if_pos rfl]
theorem gB{h:Hp}{l m:Nat}(o:O)(a:l<h.next)(b:l≠m):(h.put l o).get m=h.get m:=by simp_all[pW,if_neg]
@[simp] theorem zdv (h:Hp) (o:O):(h.new o).next=h.next+1:=rfl
@[simp] theorem zdu (h:Hp) (l:Nat) (o:O):(h.put l o).next=h.next:=rfl
structure p8 (α:Type) where
 sz:Nat
 rel:(Nat->Prop)->Hp->α->List V->Prop
 len:∀{b h x cs},rel b h x cs->cs.length=sz
 one:∀{b h x cs},rel b h x cs->gj cs=true
 fh:∀{b h h' x cs},(∀l,b l->h'.get l=h.get l)->rel b h x cs->rel b h' x cs
 mono:∀{b b' h x cs},(∀l,b l->b' l)->rel b h x cs->rel b' h x cs
def lo(b:Nat):Nat->Prop:=λl=>l<b
theorem B0{b b':Nat}(h:b<=b'):∀l,lo b l->lo b' l:=λ_ a=>EL a h
theorem oh:∀(a b:List V),gj (a++b)=(gj a&&gj b)
 |[],b=>by rfl
 | v::a,b=>by
   simp only[List.cons_append,gj,oh a b];cases v.one <;> simp
@[simp] theorem Ul:gj []=true:=rfl
@[simp] theorem ey (v:V) (l:List V):gj (v::l)=(v.one&&gj l):=by
 simp only[gj];cases v.one <;> rfl
def qc:IntKind->Int->Prop
 | .i8,n=>-128<=n/\n<=127
 | .i16,n=>-32768<=n/\n<=32767
 | .i32,n=>-2147483648<=n/\n<=2147483647
 | .i64,n=>-9223372036854775808<=n/\n<=9223372036854775807
 | .u8,n=>0<=n/\n<=255
 | .u16,n=>0<=n/\n<=65535
 | .u32,n=>0<=n/\n<=4294967295
 | .u64,n=>0<=n/\n<=18446744073709551615
def eI(k:IntKind):p8 Int where
 sz:=1
 rel _ _ n cs:=cs=[.int k n]/\qc k n
 len h:=by simp_all
 one h:=by rw[h.1];rfl
 fh _ h:=h
 mono _ h:=h
def eB:p8 Bool where
 sz:=1
 rel _ _ n cs:=cs=[.bool n]
 len h:=by simp_all
 one h:=by subst h;rfl
 fh _ h:=h
 mono _ h:=h
def eS:p8 (List UInt8) where
 sz:=1
 rel _ _ n cs:=cs=[.str n]
 len h:=by simp_all
 one h:=by subst h;rfl
 fh _ h:=h
 mono _ h:=h
def eP{α β:Type} (e:p8 α) (f:p8 β):p8 (α×β) where
 sz:=e.sz+f.sz
 rel b h x cs:=∃p q,cs=p++q/\e.rel b h x.1 p/\f.rel b h x.2 q
 len:=λ⟨_,_,h,a,c⟩=>by subst h;simp[e.len a,f.len c]
 one:=λ⟨_,_,h,a,c⟩=>by subst h;simp[oh,e.one a,f.one c]
 fh:=λhk ⟨p,q,h,a,c⟩=>⟨p,q,h,e.fh hk a,f.fh hk c⟩
 mono:=λd ⟨p,q,h,a,c⟩=>⟨p,q,h,e.mono d a,f.mono d c⟩
def eM{α β:Type} (g:β->α) (e:p8 α):p8 β where
 sz:=e.sz
 rel b h x cs:=e.rel b h (g x) cs
 len h:=e.len h
 one h:=e.one h
 fh hk h:=e.fh hk h
 mono hb h:=e.mono hb h
def qb{α:Type} (e:p8 α) (b:Nat->Prop) (h:Hp):List V->List α->Prop
 |_,[]=>True
 |cs,x::xs=>∃w r,cs=w++r/\e.rel b h x w/\qb e b h r xs
section
variable{α:Type}{e:p8 α}{b:Nat->Prop}{h h':Hp}
theorem qb.fh(hk:∀l,b l->h'.get l=h.get l):∀{xs:List α} {cs:List V},qb e b h cs xs->qb e b h' cs xs
 |[],_,_=>trivial
 |_::_,_,⟨w,r,a,c,d⟩=>⟨w,r,a,e.fh hk c,qb.fh hk d⟩
theorem qb.mono{b':Nat->Prop} (a:∀l,b l->b' l):∀{xs:List α} {cs:List V},qb e b h cs xs->qb e b' h cs xs
 |[],_,_=>trivial
 |_::_,_,⟨w,r,c,d,f⟩=>⟨w,r,c,e.mono a d,qb.mono a f⟩
theorem qb.length:∀{xs:List α} {cs:List V},qb e b h cs xs->xs.length*e.sz<=cs.length
 |[],_,_=>by simp
 | _::xs,_,⟨w,r,a,c,d⟩=>by
   have:=qb.length d;have f:=e.len c;subst a;simp only[Ji,QN,Xt,Nat.one_mul];omega
theorem qb.get:∀{xs:List α} {cs:List V},qb e b h cs xs->∀{i:Nat} {x:α},xs[i]? =some x->∃w,(cs.drop (i*e.sz)).take e.sz=w/\i*e.sz+e.sz<=cs.length/\e.rel b h x w
 |[],_,_,i,x,hx=>by simp_all
 | y ::xs,_,⟨w,r,a,c,d⟩,i,x,hx=>by
   have f:=e.len c;subst a
   cases i with
   | zero=>
     simp_all
   | succ i=>
     obtain⟨w',g,k,j⟩:=qb.get d (i:=i) (x:=x) (by simp_all);refine⟨w',?_,?_,j⟩
     ·rw[<-g,Xt,Nat.one_mul,Nat.add_comm,<-f,<-wBh];simp
     grind
theorem qb.append{ys:List α}:∀{xs:List α} {cs ds:List V},qb e b h cs xs->cs.length=xs.length*e.sz->qb e b h ds ys->qb e b h (cs++ds) (xs++ys)
 | [],cs,ds,_,hl,a=>by
   simp_all
 | x::xs,_,ds,⟨w,r,c,a,d⟩,hl,f=>by
   subst c;have g:=e.len a;refine⟨w,r++ds,by simp,a,qb.append d ?_ f⟩
   grind
theorem qb.take:∀{xs:List α} {cs:List V},qb e b h cs xs->qb e b h (cs.take (xs.length*e.sz)) xs
 |[],_,_=>trivial
 | _::xs,_,⟨w,r,c,a,d⟩=>by
   have f:=e.len a;subst c;refine⟨w,r.take (xs.length*e.sz),?_,a,qb.take d⟩
   simp_all[List.take_append,ZU,QN,Xt,Nat.one_mul]
theorem qb.more{ds:List V}:∀{xs:List α} {cs:List V},qb e b h cs xs->qb e b h (cs++ds) xs
 |[],_,_=>trivial
 |_::_,_,⟨w,r,a,c,d⟩=>⟨w,r++ds,by rw[a,LY],c,qb.more d⟩
theorem qb.set:∀{xs:List α} {cs:List V},qb e b h cs xs->∀{i:Nat} {y:α} {w:List V},i<xs.length->e.rel b h y w->qb e b h (cs.take (i*e.sz)++w++cs.drop (i*e.sz+e.sz)) (xs.set i y)
 |[],_,_,i,y,w,hi,_=>by simp_all
 | x ::xs,_,⟨u,r,d,a,c⟩,i,y,w,hi,hw=>by
   have f:=e.len a;have g:=e.len hw;subst d
   cases i with
   | zero=>
     refine⟨w,r,?_,hw,c⟩
     simp_all
   | succ i=>
     refine⟨u,_,?_,a,qb.set c (i:=i) (y:=y) (w:=w) (by simpa using hi) hw⟩;have j:(i+1)*e.sz=u.length+i*e.sz:=by rw[Xt,Nat.one_mul,f];omega
     have k:(i+1)*e.sz+e.sz=u.length+(i*e.sz+e.sz):=by omega
     rw[k,j,List.take_length_add_append,<-wBh,List.drop_left]
     simp_all
end
def iy{α:Type} (e:p8 α) (b:Nat->Prop) (h:Hp) (xs:List α) (v:V):Prop:=(v = .ee/\xs=[])\/∃l off ty live ro cs,v = .slice l off xs.length/\b l/\h.get l=some (.cells ty e.sz live ro cs)/\(xs=[]\/live=true)/\off<=cs.length/\qb e b h (cs.drop off) xs
section
variable{α:Type}{e:p8 α}{b:Nat->Prop}{h h':Hp}{xs:List α}{v:V}
theorem iy.fh(hk:∀l,b l->h'.get l=h.get l) (hs:iy e b h xs v):iy e b h' xs v:=by
 rcases hs with hs|⟨l,off,ty,live,ro,cs,a,c,i,d,f,g⟩
 ·exact .inl hs
 ·exact .inr ⟨l,off,ty,live,ro,cs,a,c,by simp_all,d,f,g.fh hk⟩
theorem iy.mono{b':Nat->Prop} (a:∀l,b l->b' l) (hs:iy e b h xs v):iy e b' h xs v:=by
 rcases hs with hs|⟨l,off,ty,live,ro,cs,c,d,f,g,i,j⟩
 ·exact .inl hs
 ·exact .inr ⟨l,off,ty,live,ro,cs,c,a l d,f,g,i,j.mono a⟩
theorem iy.one(hs:iy e b h xs v):v.one=true:=by
 rcases hs with⟨rfl,_⟩|⟨l,off,ty,live,ro,cs,rfl,_⟩ <;> rfl
end
def eL{α:Type} (e:p8 α):p8 (List α) where
 sz:=1
 rel b h xs cs:=∃v,cs=[v]/\iy e b h xs v
 len:=by simp_all
 one:=λ⟨_,h,hs⟩=>by subst h;simp[hs.one]
 fh:=λhk ⟨v,h,hs⟩=>⟨v,h,hs.fh hk⟩
 mono:=λa ⟨v,h,hs⟩=>⟨v,h,hs.mono a⟩
section
variable{α:Type}{e:p8 α}{b:Nat->Prop}{h h':Hp}{xs:List α}{v:V}
theorem iy.len(hs:iy e b h xs v):fE v=some (.int .i64 xs.length):=by
 rcases hs with⟨rfl,rfl⟩|⟨l,off,ty,live,ro,cs,rfl,_⟩ <;> rfl
theorem iy.nil:iy e b h [] .ee:= .inl ⟨rfl,rfl⟩
theorem iy.ix(hs:iy e b h xs v) {i:Nat} (hi:i<xs.length) (kd:IntKind) :
  ∃l o w,b l/\gz e.sz v (.int kd i)=some (.ptr l o)/\gv e.sz (.ptr l o) h=some (.agg w)/\e.rel b h xs[i] w/\∀k u,w[k]? =some u->ez (.ptr l (o+k)) h=some u:=by
 rcases hs with⟨_,rfl⟩|⟨l,off,ty,live,ro,cs,rfl,c,a,n,p,d⟩
 ·grind
 ·obtain rfl:live=true:=by grind
  obtain⟨w,f,g,j⟩:=d.get (i:=i) (x:=xs[i]) (by simp_all);rw[wB1]at g;have m:(cs.drop (off+i*e.sz)).take e.sz=w:=by rw[<-f,wBh]
  refine⟨l,off+i*e.sz,w,c,by grind[yl],?_,j,λk u q=>?_⟩
  ·rw[DU a,Er (by omega),m];rfl
  ·rw[PJ a,Qf]
   grind
theorem iy.Vc(hs:iy e b h xs v) {i:Nat} (hi:i<xs.length) (kd:IntKind) (a:e.sz=1) :
  ∃l o u,b l/\gz 1 v (.int kd i)=some (.ptr l o)/\ez (.ptr l o) h=some u/\e.rel b h xs[i] [u]:=by
 obtain ⟨l,o,w,h0,c,_,d,g⟩:=hs.ix hi kd;rw[a]at c;have f:=e.len d;rw[a]at f;obtain⟨u,rfl⟩:∃u,w=[u]:=by
  match w,f with
  |[u],_=>simp_all
 exact⟨l,o,u,h0,c,g 0 u rfl,d⟩
theorem iy.T7{b':Nat->Prop} {ty:Nat} {ro:Bool} {cs:List V} (c:qb e b h cs xs) (f:∀l,b l->l<h.next) (a:∀l,b l->b' l) (d:b' h.next):iy e b' (h.new (.cells ty e.sz true ro cs)) xs (.slice h.next 0 xs.length):=
 .inr ⟨h.next,0,ty,true,ro,cs,rfl,d,fg _ _,.inr rfl,NJ _,(c.fh (by grind[fj])).mono a⟩
theorem iy.new{ty:Nat} {ro:Bool} {cs:List V} {n:Nat} (c:qb e (lo n) h cs xs) (b:n<=h.next):iy e (lo (h.next+1)) (h.new (.cells ty e.sz true ro cs)) xs (.slice h.next 0 xs.length):=
 .T7 c (λ_ a=>EL a b) (λ_ a=>wBt (EL a b)) (Oy _)
end
section
variable (t:Nat)(k:IntKind)(a b:Int)
@[simp] theorem mj:en .add t (.int k a) (.int k b)=some (.int k (lH k (a+b))):=by cases k <;> rfl
@[simp] theorem oR:en .sub t (.int k a) (.int k b)=some (.int k (lH k (a-b))):=by cases k <;> rfl
@[simp] theorem Nv:en .mul t (.int k a) (.int k b)=some (.int k (lH k (a*b))):=by cases k <;> rfl
@[simp] theorem jB:en .lss t (.int k a) (.int k b)=some (.bool (decide (a<b))):=by cases k <;> rfl
@[simp] theorem Ki:en .leq t (.int k a) (.int k b)=some (.bool (decide (a<=b))):=by cases k <;> rfl
@[simp] theorem nw:en .gtr t (.int k a) (.int k b)=some (.bool (decide (b<a))):=by cases k <;> rfl
@[simp] theorem nM:en .geq t (.int k a) (.int k b)=some (.bool (decide (b<=a))):=by cases k <;> rfl
@[simp] theorem ik:en .eql t (.int k a) (.int k b)=some (.bool (a == b)):=by cases k <;> rfl
@[simp] theorem tP:en .neq t (.int k a) (.int k b)=some (.bool (a != b)):=by cases k <;> rfl
@[simp] theorem zdj (x y:List UInt8):en .eql t (.str x) (.str y)=some (.bool (x == y)):=rfl
@[simp] theorem zdl (x y:List UInt8):en .neq t (.str x) (.str y)=some (.bool (!(x == y))):=rfl
@[simp] theorem Va (x:Bool):pt .not (.bool x)=some (.bool !x):=rfl
@[simp] theorem Qj:pt .neg (.int k a)=some (.int k (lH k (0-a))):=rfl
theorem pD{k:IntKind} {n:Int} (h:qc k n):lH k n=n:=by
 rw[qD];cases k <;> simp only[qc]at h <;> simp only[IntKind.wrap,IntKind.signed,IntKind.bits,ZR,Bool.false_and,AQ,QY,if_false,Nat.reduceSub,Int.reducePow,ge_iff_le] <;> (try split) <;> omega
@[simp] theorem G7 {n:Nat} (h:n<9223372036854775808):lH .i64 (n:Int)=n:=pD (by simp only[qc];omega)
@[simp] theorem Zs (g:Bool):Rr g (.int k a) [.int k b]=some (.int k (if g then max a b else min a b)):=by
 cases g
 ·show some (V.int k (if b<a then b else a))=_;simp only[QY,if_false];congr 2;omega
 ·show some (V.int k (if b>a then b else a))=_;simp only[if_true];congr 2;omega
end
theorem Y2(n:Nat) (z:V):Co n [z]=List.replicate n z:=by
 induction n <;> grind[Co]
theorem Od{e sz jW n:Nat} {z:V} (a:n*jW<=281474976710656) (b:n<=1099511627776) :
  il e sz jW z (.int .i64 (n:Int)) (.int .i64 (n:Int))=some (O.cells e sz true false (Co n z.cells),λl=>V.slice l 0 n):=by
 show bB (Nat.ble n n) (bB (Nat.ble (n*jW) 281474976710656) (bB (Nat.ble n 1099511627776) (some (O.cells e sz true false (Co n z.cells),λl=>V.slice l 0 n))))=_
 simp_all[mE,UD,iZ]
theorem T6{cs:List V} {v:V}:∀{o:Nat},o<cs.length->pJ o cs [v]=some (cs.set o v):=by
 induction cs with
 |nil=>simp_all
 | cons c cs a=>
   intro o h
   cases o with
   |zero=>rfl
   | succ o=>
     grind[pJ,fe]
theorem Vo:∀{ws cs:List V},ws.length<=cs.length->over ws cs=some (ws++cs.drop ws.length)
 |[],_,_=>rfl
 |w::ws,[],h=>by simp_all
 | w::ws,c::cs,h=>by
   have:=Vo (ws:=ws) (cs:=cs) (by simp_all)
   grind[over,fe,QN]
theorem Af:∀{o:Nat} {cs ws:List V},o+ws.length<=cs.length->pJ o cs ws=some (cs.take o++ws++cs.drop (o+ws.length))
 |0,cs,ws,h=>by simp_all[pJ,Vo,wB7,SO,zj]
 |o+1,[],ws,h=>by simp_all
 | o+1,c::cs,ws,h=>by
   have:=Af (o:=o) (cs:=cs) (ws:=ws) (by grind)
   grind[pJ,fe]
theorem O8{v:V} (h:v.one=true):v.cells=[v]:=by
 cases v <;> first|rfl|cases h
section
variable{l o e sz:Nat}{cs:List V}{h:Hp}{v:V}
theorem MK(a:h.get l=some (.cells e sz true false cs)) (b:o<cs.length) (hv:v.one=true):gI 1 (.ptr l o) v h=some (.val .undef (h.put l (.cells e sz true false (cs.set o v)))):=by
 unfold gI Fp j5;simp only[ym,O8 hv,QN,wBl,a,fe,tT,wBg,ey,hv,Ul,Bool.and_self,T6 b];rfl
theorem G1{ws:List V} {n:Nat} (a:h.get l=some (.cells e sz true false cs)) (b:ws.length=n) (hc:cs.length=n) (hv:gj ws=true):gI n (.ptr l 0) (.agg ws) h=some (.val .undef (h.put l (.cells e sz true false ws))):=by
 unfold gI Fp j5;have hs:pJ 0 cs ws=some ws:=by
  rw[Af (by omega),wB7,SO,zj,List.drop_of_length_le (by omega),Jk]
 grind[ym,V.cells,fe,tT,wBg,mE,WG]
theorem Zo{ws:List V} {n:Nat} (a:h.get l=some (.cells e sz true false cs)) (b:ws.length=n) (hc:o+n<=cs.length) (hv:gj ws=true) :
  gI n (.ptr l o) (.agg ws) h=some (.val .undef (h.put l (.cells e sz true false (cs.take o++ws++cs.drop (o+n))))):=by
 unfold gI Fp j5;simp only[ym,V.cells,a,fe,tT,wBg,hv,Af (show o+ws.length<=cs.length by omega)]
 simp_all
theorem lE{u:V}{ro:Bool}(a:h.get l=some (.cells e sz true ro cs))(b:cs[o]? =some u):ez (.ptr l o) h=some u:=by rw[PJ a,Qf,b]
theorem Dr{n:Nat} {ro:Bool} (a:h.get l=some (.cells e sz true ro cs)) (b:cs.length=n):gv n (.ptr l 0) h=some (.agg cs):=by
 rw[DU a,Er (by omega),ZV,ZU (by omega)];rfl
end
section
variable{α:Type}{e:p8 α}{b:Nat->Prop}{h:Hp}
theorem qb.drop:∀{xs:List α} {cs:List V} (n:Nat),qb e b h cs xs->n<=xs.length->qb e b h (cs.drop (n*e.sz)) (xs.drop n)
 |xs,cs,0,hw,_=>by simp_all
 |[],cs,n+1,_,hn=>by simp_all
 | x::xs,cs,n+1,⟨w,r,a,c,d⟩,hn=>by
   have:=qb.drop n d (by simpa using hn);have f:=e.len c;subst a;rw[List.drop_succ_cons,Xt,Nat.one_mul,Nat.add_comm,<-wBh,<-f,List.drop_left]
   simp_all
theorem qb.taken:∀{xs:List α} {cs:List V} (n:Nat),qb e b h cs xs->qb e b h cs (xs.take n)
 |xs,cs,0,_=>by simp only[wB7];trivial
 |[],cs,n+1,_=>by simp_all
 |x::xs,cs,n+1,⟨w,r,a,c,d⟩=>⟨w,r,a,c,qb.taken n d⟩
theorem Pu(z:Nat) (k:IntKind) (n:Nat):hbound z (some (.int k n))=some n:=by
 rfl
theorem GB(z:Nat):hbound z none=some z:=rfl
theorem iy.cut{xs:List α} {v:V} (hs:iy e b h xs v) {lo hi:Option V} {m n:Nat} (i:hbound 0 lo=some m) (j:hbound xs.length hi=some n) (k:m<=n) (a:n<=xs.length) :
  ∃d,jf e.sz v lo hi h=some d/\iy e b h ((xs.take n).drop m) d:=by
 rcases hs with⟨rfl,rfl⟩|⟨l,off,ty,live,ro,cs,rfl,o,p,r,s,f⟩
 ·simp at a;subst a;obtain rfl:m=0:=by omega
  refine⟨.ee,?_,.inl ⟨rfl,by simp⟩⟩
  simp_all[jf,fe,hbound]
 ·have q:=f.length;have g:m*e.sz<=n*e.sz:=wBs _ k;have c:n*e.sz<=xs.length*e.sz:=wBs _ a;rw[wB1]at q;refine⟨.slice l (off+m*e.sz) (n-m),?_,?_⟩
  ·grind[jf,j5,fe,mE,WG,UD]
  ·have hlen:((xs.take n).drop m).length=n-m:=by rw[wB1,Mo];omega
   refine .inr ⟨l,off+m*e.sz,ty,live,ro,cs,by rw[hlen],o,p,?_,by omega,?_⟩
   ·grind
   ·rw[<-wBh];exact(f.taken n).drop m (by simp_all)
end
section
variable{e sz a n:Nat}{h h':Hp}{cs:List V}{v:V}
theorem nV{e sz k:Nat} {h:Hp} {cs:List V} {ro:Bool} (a:cs.length=(k+1)*sz):lK (h.new (.cells e sz true ro cs)) sz (.slice h.next 0 (k+1))=some (k+1,cs):=by
 unfold lK HU j5;have:sub cs 0 (Nat.mul (Nat.succ k) sz)=some cs:=by
  show sub cs 0 ((k+1)*sz)=some cs;rw[Er (by omega),ZV,ZU (by omega)]
 grind[fg,fe,tT]
end
