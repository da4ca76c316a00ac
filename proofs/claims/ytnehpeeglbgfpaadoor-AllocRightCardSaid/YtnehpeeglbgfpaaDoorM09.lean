/- Parts. -/
import Derived.Test.YtnehpeeglbgfpaaDoorM08
import Derived.KernelRfl
set_option maxHeartbeats 4000000
namespace Go.Proofs.YtnehpeeglbgfpaaDoor.Hx
def _root_.Go.Code.l:Code->Code
 | .seq a _=>a
 | .cond _ a _=>a
 | .block _ c=>c
 | .loop c=>c
 |_=> .skip
def _root_.Go.Code.r:Code->Code
 | .seq _ b=>b
 | .cond _ _ b=>b
 |_=> .skip
def Fe(fn:Func):Code:=match fn.body with
 |some c=>c
 |none=> .skip
noncomputable section
def en(a:V)(h:Hp):Option V:=pN a λl off=>UA h l off
def fZ(n:Nat)(a:V)(h:Hp):Option V:=pN a λl off=>oB (Cs h l off n) λcs=>some (.agg cs)
def fI(k:Nat)(x:V):Option V:=pN x λl off=>some (.ptr l (Nat.add off k))
def gy(n:Nat) (x i:V):Option V:=asNat i λi=>match x with
 | .slice l off len=>bB (Nat.blt i len) (some (.ptr l (Nat.add off (Nat.mul i n))))
 |_=>none
def Y4(k:Nat) (x:V):Option V:=match x with
 | .agg cs=>DB cs k
 |_=>none
def ma(c a b:V):Option V:=match c with
 | .bool x=>Bool.rec (motive:=λ_=>Option V) (some b) (some a) x
 |_=>none
def iu(x:V):Option V:=match x with
 | .ptr l off=>some (.ptr l off)
 | .func f a c=>some (.func f a c)
 | .iface u v=>some (.iface u v)
 |_=>none
def Xz(k:IntKind) (x:V):Option V:=match x with
 | .int _ n=>some (.int k (jt k n))
 |_=>none
def fG(z:List V)(a:List (Nat×Nat))(ps:List (Nat×V)):Option V:=oB (wk (λi=>a[i]?) z ps) λcs=>some (.agg cs)
def ML(i:Nat) (x:V):Option V:=match x with
 | .tuple vs=>DB vs i
 |_=>none
def XT(x:V):Option V:=match x with
 | .str s=>some (.int .i64 (.ofNat s.length))
 |_=>none
def fF(x:V):Option V:=match x with
 | .slice _ _ n=>some (.int .i64 (.ofNat n))
 | .ed=>some (.int .i64 (.ofNat 0))
 |_=>none
def CK(kt:Nat) (d:Option (List Field)) (z:V) (ok:Bool) (m k:V) (h:Hp):Option V:=bB (CQ d k) (match m with
 | .kQ=>some (found z ok none)
 | .map l=>yn h l (λes _=>oB (nB kt d k es 0) λr=>some (found z ok r)) (GU kt d z ok k)
 |_=>none)
def J0(t:Nat) (z x:V):Option V:=match x,false with
 | .iface t' v,true=>some (Bool.rec (motive:=λ_=>V) (.tuple [z,.bool false]) (.tuple [v,.bool true]) (Nat.beq t' t))
 | .iface t' v,false=>bB (Nat.beq t' t) (some v)
 | .nilIface,true=>some (.tuple [z,.bool false])
 |_,_=>none
def ju(a size len:Nat) (z:V) (ps:List (Nat×V)):Option (O×(Nat->V)):=oB (wk (λi=>some (Nat.mul i size,size)) (yy len z.cells) ps) λcs=>bB (gh cs) (some (.cells a size true false cs,λl=> .slice l 0 len))
def gW(n:Nat)(a v:V)(h:Hp):Option R:=pN a λl off=>bB (Nat.beq v.cells.length n) (oB (AN h l off v.cells) λh=>some (.val .undef h))
end
noncomputable section
def fi(x:Option R)(K:V->Hp->Prop):Prop:=oP (oB x valOf) λy=>K y.1 y.2
def gv(C:fg)(x:Option R)(h:Hp)(K:V->Hp->Prop):Prop:=oP (oB x ye) λy=>cP C y.1 y.2 h K
def Qa(C:fg)(f:Nat)(l:List V)(h:Hp)(K:V->Hp->Prop):Prop:=oP (some (f,l)) λy=>cP C y.1 y.2 h K
def iQ(x:Option (O×(Nat->V)))(h:Hp)(K:V->Hp->Prop):Prop:=oP x λr=>K (r.2 h.next) (h.new r.1)
def uN(x:Option (O×(Nat->V)))(h:Hp)(K:O->V->Hp->Prop):Prop:=oP x λr=>K r.1 (r.2 h.next) (h.new r.1)
def ZW(b:Bool)(h:Hp)(x:Option (V×Hp))(K:V->Hp->Prop):Prop:=oP (gH b h x) λy=>K y.1 y.2
def gT(b:Bool)(p:Prop):Prop:=Bool.rec (motive:=λ_=>Prop) True p b
def gg(w:Bool) (x:V):Option Bool:=match x with
 | .bool b=>some (Bool.rec (motive:=λ_=>Bool) (!w) w b)
 | .tuple []=>some false
 |_=>none
end
theorem PW(f:Nat->V) (d:Nat) (v:V):eC f d v d=v:=by
 simp_all[eC,Qe]
theorem Tf(f:Nat->V) {d i:Nat} (v:V) (h:i≠d):eC f d v i=f i:=by
 unfold eC;cases hb:Nat.beq i d <;> simp_all
@[simp] theorem eQ {α β:Type} (a:α) (k:α->Option β):oB (some a) k=k a:=rfl
@[simp] theorem WV {α β:Type} (k:α->Option β):oB (none:Option α) k=none:=rfl
@[simp] theorem uL {β:Type} (k:Option β):bB true k=k:=rfl
@[simp] theorem Wx {β:Type} (k:Option β):bB false k=none:=rfl
theorem vJ{β:Type}{c:Bool}(k:Option β)(h:c=true):bB c k=k:=by simp_all
@[simp] theorem qM {β:Type} (l o:Nat) (k:Nat->Nat->Option β):pN (.ptr l o) k=k l o:=rfl
@[simp] theorem Um {β:Type} (a:IntKind) (n:Nat) (k:Nat->Option β):asNat (.int a (.ofNat n)) k=k n:=rfl
@[simp] theorem Vv {β:Type} (a:IntKind) (n:Nat) (k:Nat->Option β):asNat (.int a (n:Int)) k=k n:=rfl
@[simp] theorem Wk {β:Type} (a:IntKind) (n:Nat) (k:Nat->Option β):asNat (.int a (OfNat.ofNat n:Int)) k=k n:=rfl
@[simp] theorem Vz {β:Type} (a:IntKind) (k:Nat->Option β):asNat (.int a 0) k=k 0:=rfl
@[simp] theorem Wz {β:Type} (a:IntKind) (k:Nat->Option β):asNat (.int a 1) k=k 1:=rfl
@[simp] theorem fH (k l o:Nat):fI k (.ptr l o)=some (.ptr l (o+k)):=rfl
@[simp] theorem fj (l o:Nat):iu (.ptr l o)=some (.ptr l o):=rfl
@[simp] theorem Wt (f:Nat) (a c:List V):iu (.func f a c)=some (.func f a c):=rfl
@[simp] theorem VQ (l o n:Nat):fF (.slice l o n)=some (.int .i64 n):=rfl
@[simp] theorem XW:fF .ed=some (.int .i64 0):=rfl
@[simp] theorem We (s:List UInt8):XT (.str s)=some (.int .i64 s.length):=rfl
@[simp] theorem Nm (x:Bool) (a b:V):ma (.bool x) a b=some (if x=true then a else b):=by cases x <;> rfl
@[simp] theorem Wl (k k':IntKind) (n:Int):Xz k (.int k' n)=some (.int k (jt k n)):=rfl
@[simp] theorem VK (i:Nat) (vs:List V):ML i (.tuple vs)=DB vs i:=rfl
@[simp] theorem Xe (k:Nat) (cs:List V):Y4 k (.agg cs)=DB cs k:=rfl
@[simp] theorem fJ (o:O) (f:Nat->V) (h:Hp) (K:V->Hp->Prop):iQ (some (o,f)) h K=K (f h.next) (h.new o):=rfl
@[simp] theorem ij (o:O) (f:Nat->V) (h:Hp) (K:O->V->Hp->Prop):uN (some (o,f)) h K=K o (f h.next) (h.new o):=rfl
@[simp] theorem ej (v:V) (h:Hp) (K:V->Hp->Prop):fi (some (.val v h)) K=K v h:=rfl
@[simp] theorem BX (C:fg) (f:Nat) (l:List V) (h:Hp) (K:V->Hp->Prop):gv C (some (.call f l)) h K=cP C f l h K:=rfl
@[simp] theorem ZD (C:fg) (f:Nat) (l:List V) (h:Hp) (K:V->Hp->Prop):Qa C f l h K=cP C f l h K:=rfl
@[simp] theorem Hq (f:Nat) (a c l:List V):fQ (.func f a c) l=some (.call f (a++(l++c))):=rfl
@[simp] theorem XZ (w b:Bool):gg w (.bool b)=some (b == w):=by cases w <;> cases b <;> rfl
@[simp] theorem YE (x:Option V):gV true x=x:=rfl
@[simp] theorem Yl (x:Option V):gV false x=some .undef:=rfl
@[simp] theorem YS (x:Option (Nat×List V)):gC true x=oB x λy=>some (some y):=rfl
@[simp] theorem XH (x:Option (Nat×List V)):gC false x=some none:=rfl
@[simp] theorem YJ (p:Prop):gT true p=p:=rfl
@[simp] theorem XJ (p:Prop):gT false p=True:=rfl
@[simp] theorem W9 (C:fg) (y:Nat×List V) (h:Hp) (K:V->Hp->Prop):xa C (some y) h K=cP C y.1 y.2 h K:=rfl
@[simp] theorem XD (C:fg) (h:Hp) (K:V->Hp->Prop):xa C none h K=K .undef h:=rfl
theorem vX(n l o len i:Nat) (a:IntKind) (h:i<len):gy n (.slice l o len) (.int a i)=some (.ptr l (o+i*n)):=by
 show bB (Nat.blt i len) _=_
 grind[vJ,Lb]
theorem N2{l o e sz:Nat} {ro:Bool} {cs:List V} {h:Hp} (a:h.get l=some (.cells e sz true ro cs)):en (.ptr l o) h=DB cs o:=by
 simp_all[en,UA,jN,qM,eQ,uL]
theorem Ew{n l o e sz:Nat} {ro:Bool} {cs:List V} {h:Hp} (a:h.get l=some (.cells e sz true ro cs)):fZ n (.ptr l o) h=oB (sub cs o n) λcs=>some (.agg cs):=by
 simp_all[fZ,Cs,jN,qM,eQ,uL]
@[simp] theorem Yv (v:V) (l:List V):DB (v::l) 0=some v:=rfl
@[simp] theorem Yi (v:V) (l:List V) (n:Nat):DB (v::l) (n+1)=DB l n:=rfl
theorem OF(l:List V)(n:Nat):DB l n=l[n]?:=by grind[DB,List.head?_drop]
@[simp] theorem V1 (l:List V):takeN 0 l=some []:=by rfl
@[simp] theorem Vs (n:Nat) (v:V) (l:List V):takeN (n+1) (v::l)=oB (takeN n l) λr=>some (v::r):=rfl
theorem LC:∀(n:Nat) (l:List V),n<=l.length->takeN n l=some (l.take n)
 |0,l,_=>by rfl
 |n+1,[],h=>by simp_all
 |n+1,v::l,h=>by simp only[takeN,LC n l (by simp_all),eQ,List.take_succ_cons]
theorem Dl{l:List V} {o n:Nat} (h:o+n<=l.length):sub l o n=some ((l.drop o).take n):=by
 grind[sub,LC]
@[simp] theorem gZ {α:Type} (a:α) (k:α->Prop):oP (some a) k=k a:=rfl
@[simp] theorem LZ (x:Bool) (a b:Prop):bP (.bool x) a b=if x=true then a else b:=gL x a b
@[simp] theorem Wj (v:V) (h:Hp):valOf (.val v h)=some (v,h):=rfl
@[simp] theorem U2 (f:Nat) (l:List V):ye (.call f l)=some (f,l):=rfl
section
variable{C:fg}{n:Nat}{Q:X->fN->Hp->Prop}{ρ:fN}{h:Hp}
theorem Wp.of{c:Code}{P:Prop}(e:iE C n c Q ρ h=P)(a:P):Wp C n c Q ρ h:=Wp.code c (e.mpr a)
theorem pD{α:Type}{a:α}{k:α->Prop}(h:k a):oP (some a) k:=h
theorem oM{α:Type} {x:Option α} {k k':α->Prop} (h:oP x k) (f:∀a,x=some a->k a->k' a):oP x k':=by
 grind[jY,ec]
theorem bM{v:V} {a b c d:Prop} (h:bP v a b) (f:a->c) (g:b->d):bP v c d:=by
 unfold bP at h⊢;split at h
 ·rename_i x;cases x <;> grind
 omega
theorem SB{f:Nat} {l:List V} {k k':V->Hp->Prop} (h':cP C f l h k) (F:∀v h',k v h'->k' v h'):Qa C f l h k':=by
 show cP C f l h k';exact h'.mono F
theorem Tv{x:Option (Nat×List V)} {k k':V->Hp->Prop} (h':xa C x h k) (F:∀v h',k v h'->k' v h'):xa C x h k':=by
 cases x with
 |none=>simp_all
 |some y=>exact cP.mono h' F
theorem WI{x:Option (O×(Nat->V))} {k k':V->Hp->Prop} (h':iQ x h k) (F:∀v h',k v h'->k' v h'):iQ x h k':=
 oM h' (by simp_all)
theorem VM{x:Option (O×(Nat->V))} {k k':O->V->Hp->Prop} (h':uN x h k) (F:∀o v h',k o v h'->k' o v h'):uN x h k':=
 oM h' (by simp_all)
theorem HO{x:Option R} {k k':V->Hp->Prop} (h':fi x k) (F:∀v h',k v h'->k' v h'):fi x k':=
 oM h' (by simp_all)
end
theorem AB{a b c:Prop}(h:c/\a)(f:a->b):c/\b:=by simp_all
@[simp] theorem O.ie (e sz:Nat) (a r:Bool) (cs:List V):O.beq (.cells e sz a r cs) (.cells e sz a r cs)=true:=by
 simp[O.beq,V.vZ]
@[simp] theorem O.YN (c:Nat):O.beq (.map [] c) (.map [] c)=true:=by simp[O.beq]
def mh(c:V) (X:Option V):Option V:=match c with
 | .bool true=>some (.bool true)
 | .bool false=>X
 |_=>none
def jq(c:V) (X:Option V):Option V:=match c with
 | .bool false=>some (.bool false)
 | .bool true=>X
 |_=>none
@[simp] theorem Yw (X:Option V):mh (.bool true) X=some (.bool true):=rfl
@[simp] theorem qJ (X:Option V):mh (.bool false) X=X:=rfl
@[simp] theorem EU (X:Option V):jq (.bool true) X=X:=rfl
@[simp] theorem CY (X:Option V):jq (.bool false) X=some (.bool false):=rfl
@[simp] theorem iM (c d:Bool):mh (.bool c) (some (.bool d))=some (.bool (c ||d)):=by cases c <;> rfl
@[simp] theorem ir (c d:Bool):jq (.bool c) (some (.bool d))=some (.bool (c&&d)):=by cases c <;> rfl
theorem St{A B:Prop}(a:A)(f:A->B):B:=f a
section
variable{c c' Xc:V}{X X':Option V}{K:V->Prop}{f:V->Option V}{w b0:Bool}
theorem BL(H:oP (mh c X) K):oP (gg false c) λb=>oP (gV b X) λv=>oP (ma c (.bool true) v) K:=by
 unfold mh at H;split at H
 ·exact H
 ·exact H
 ·exact H.elim
theorem D1(H:oP (jq c X) K):oP (gg true c) λb=>oP (gV b X) λv=>oP (ma c v (.bool false)) K:=by
 unfold jq at H;split at H
 ·exact H
 ·exact H
 ·exact H.elim
theorem Xr{R:Bool->V->Prop} (H:oP (gg w c) λb=>oP (gV b (oB X f)) K) (F:∀b,gg w c=some b->∀v,gV b X=some v->(oP (gg w c) λb=>oP (gV b (f v)) K)->R b v):oP (gg w c) λb=>oP (gV b X) λv=>R b v:=by
 obtain⟨b,a,d⟩:=jY.1 H;refine ec a ?_
 cases b with
 | true=>
   grind[jY,eE,oB,ec,gV]
 |false=>simp_all
theorem jJ{b:Bool} {v:V} (E:gV b X=some v):gT b (X=some v):=by
 cases b <;> simp_all
end
structure kX (S:Nat->Prop) (h h':Hp):Prop where
 next:h.next<=h'.next
 eD:∀l,l<h.next->¬S l->h'.get l=h.get l
abbrev AO(h h':Hp):Prop:=kX (λ_=>False) h h'
theorem kX.refl(S:Nat->Prop)(h:Hp):kX S h h:=⟨jn _,by simp_all⟩
theorem kX.trans'{S d:Nat->Prop} {h h' c:Hp} (a:kX S h h') (b:kX d h' c) (g:∀l,l<h.next->d l->S l):kX S h c:=
 ⟨GP a.next b.next,λl e f=>by rw[b.eD l (zr e a.next) (by grind),a.eD l e f]⟩
theorem kX.trans{S:Nat->Prop}{h h' c:Hp}(a:kX S h h')(b:kX S h' c):kX S h c:=a.trans' b (by simp_all)
theorem kX.Ub{S b:Nat->Prop} {h h':Hp} (a:kX S h h') (d:∀l,l<h.next->S l->b l):kX b h h':=
 ⟨a.next,λl c e=>a.eD l c (by grind)⟩
theorem kX.new{S:Nat->Prop} (h:Hp) (o:O):kX S h (h.new o):=
 ⟨La _,λl a _=>by rw[rE,if_neg (by omega)]⟩
theorem kX.put{S:Nat->Prop} {h:Hp} {l:Nat} (o:O) (b:S l) (a:l<h.next):kX S h (h.put l o):=
 ⟨jn _,λm _ c=>by rw[jd _ _ a,if_neg (by grind)]⟩
theorem ez(h:Hp)(o:O):(h.new o).get h.next=some o:=by rw[rE,if_pos rfl]
theorem eR{h:Hp}(o:O){l:Nat}(a:l<h.next):(h.new o).get l=h.get l:=by rw[rE,if_neg (by omega)]
theorem fO{h:Hp}{l:Nat}(o:O)(a:l<h.next):(h.put l o).get l=some o:=by rw[jd _ _ a,if_pos rfl]
theorem fS{h:Hp}{l m:Nat}(o:O)(a:l<h.next)(b:l≠m):(h.put l o).get m=h.get m:=by simp_all[jd,if_neg]
@[simp] theorem Yz (h:Hp) (o:O):(h.new o).next=h.next+1:=rfl
@[simp] theorem Xm (h:Hp) (l:Nat) (o:O):(h.put l o).next=h.next:=rfl
structure sQ (α:Type) where
 sz:Nat
 rel:(Nat->Prop)->Hp->α->List V->Prop
 len:∀{b h x cs},rel b h x cs->cs.length=sz
 one:∀{b h x cs},rel b h x cs->gh cs=true
 eD:∀{b h h' x cs},(∀l,b l->h'.get l=h.get l)->rel b h x cs->rel b h' x cs
 mono:∀{b b' h x cs},(∀l,b l->b' l)->rel b h x cs->rel b' h x cs
def lo(b:Nat):Nat->Prop:=λl=>l<b
theorem xP{b a:Nat}(h:b<=a):∀l,lo b l->lo a l:=λ_ c=>zr c h
theorem mQ:∀(a b:List V),gh (a++b)=(gh a&&gh b)
 |[],b=>by rfl
 | v::a,b=>by
   simp only[List.cons_append,gh,mQ a b];cases v.one <;> simp
@[simp] theorem M3:gh []=true:=rfl
@[simp] theorem fc (v:V) (l:List V):gh (v::l)=(v.one&&gh l):=by
 simp only[gh];cases v.one <;> rfl
def Fb:IntKind->Int->Prop
 | .i8,n=>-128<=n/\n<=127
 | .i16,n=>-32768<=n/\n<=32767
 | .i32,n=>-2147483648<=n/\n<=2147483647
 | .i64,n=>-9223372036854775808<=n/\n<=9223372036854775807
 | .u8,n=>0<=n/\n<=255
 | .u16,n=>0<=n/\n<=65535
 | .u32,n=>0<=n/\n<=4294967295
 | .u64,n=>0<=n/\n<=18446744073709551615
def eI(k:IntKind):sQ Int where
 sz:=1
 rel _ _ n cs:=cs=[.int k n]/\Fb k n
 len h:=by simp_all
 one h:=by rw[h.1];rfl
 eD _ h:=h
 mono _ h:=h
def eB:sQ Bool where
 sz:=1
 rel _ _ n cs:=cs=[.bool n]
 len h:=by simp_all
 one h:=by subst h;rfl
 eD _ h:=h
 mono _ h:=h
def eS:sQ (List UInt8) where
 sz:=1
 rel _ _ n cs:=cs=[.str n]
 len h:=by simp_all
 one h:=by subst h;rfl
 eD _ h:=h
 mono _ h:=h
def eP{α β:Type} (e:sQ α) (f:sQ β):sQ (α×β) where
 sz:=e.sz+f.sz
 rel b h x cs:=∃p q,cs=p++q/\e.rel b h x.1 p/\f.rel b h x.2 q
 len:=λ⟨_,_,h,a,c⟩=>by subst h;simp[e.len a,f.len c]
 one:=λ⟨_,_,h,a,c⟩=>by subst h;simp[mQ,e.one a,f.one c]
 eD:=λd ⟨p,q,h,a,c⟩=>⟨p,q,h,e.eD d a,f.eD d c⟩
 mono:=λg ⟨p,q,h,a,c⟩=>⟨p,q,h,e.mono g a,f.mono g c⟩
def eM{α β:Type} (g:β->α) (e:sQ α):sQ β where
 sz:=e.sz
 rel b h x cs:=e.rel b h (g x) cs
 len h:=e.len h
 one h:=e.one h
 eD hk h:=e.eD hk h
 mono hb h:=e.mono hb h
def mE{α:Type} (e:sQ α) (b:Nat->Prop) (h:Hp):List V->List α->Prop
 |_,[]=>True
 |cs,x::xs=>∃w r,cs=w++r/\e.rel b h x w/\mE e b h r xs
section
variable{α:Type}{e:sQ α}{b:Nat->Prop}{h h':Hp}
theorem mE.eD(a:∀l,b l->h'.get l=h.get l):∀{xs:List α} {cs:List V},mE e b h cs xs->mE e b h' cs xs
 |[],_,_=>trivial
 |_::_,_,⟨w,r,c,d,f⟩=>⟨w,r,c,e.eD a d,mE.eD a f⟩
theorem mE.mono{a:Nat->Prop} (c:∀l,b l->a l):∀{xs:List α} {cs:List V},mE e b h cs xs->mE e a h cs xs
 |[],_,_=>trivial
 |_::_,_,⟨w,r,d,f,g⟩=>⟨w,r,d,e.mono c f,mE.mono c g⟩
theorem mE.length:∀{xs:List α} {cs:List V},mE e b h cs xs->xs.length*e.sz<=cs.length
 |[],_,_=>by simp
 | _::xs,_,⟨w,r,a,c,d⟩=>by
   have:=mE.length d;have f:=e.len c;subst a;simp only[Ja,MX,Qd,Nat.one_mul];omega
theorem mE.get:∀{xs:List α} {cs:List V},mE e b h cs xs->∀{i:Nat} {x:α},xs[i]? =some x->∃w,(cs.drop (i*e.sz)).take e.sz=w/\i*e.sz+e.sz<=cs.length/\e.rel b h x w
 |[],_,_,i,x,hx=>by simp_all
 | y ::xs,_,⟨w,r,a,c,d⟩,i,x,hx=>by
   have f:=e.len c;subst a
   cases i with
   | zero=>
     simp_all
   | succ i=>
     obtain⟨w',g,k,j⟩:=mE.get d (i:=i) (x:=x) (by simp_all);refine⟨w',?_,?_,j⟩
     ·rw[<-g,Qd,Nat.one_mul,Nat.add_comm,<-f,<-TX];simp
     grind
theorem mE.append{ys:List α}:∀{xs:List α} {cs ds:List V},mE e b h cs xs->cs.length=xs.length*e.sz->mE e b h ds ys->mE e b h (cs++ds) (xs++ys)
 | [],cs,ds,_,hl,a=>by
   simp_all
 | x::xs,_,ds,⟨w,r,c,a,d⟩,hl,f=>by
   subst c;have g:=e.len a;refine⟨w,r++ds,by simp,a,mE.append d ?_ f⟩
   grind
theorem mE.take:∀{xs:List α} {cs:List V},mE e b h cs xs->mE e b h (cs.take (xs.length*e.sz)) xs
 |[],_,_=>trivial
 | _::xs,_,⟨w,r,c,a,d⟩=>by
   have f:=e.len a;subst c;refine⟨w,r.take (xs.length*e.sz),?_,a,mE.take d⟩
   simp_all[List.take_append,JE,MX,Qd,Nat.one_mul]
theorem mE.more{ds:List V}:∀{xs:List α} {cs:List V},mE e b h cs xs->mE e b h (cs++ds) xs
 |[],_,_=>trivial
 |_::_,_,⟨w,r,a,c,d⟩=>⟨w,r++ds,by rw[a,MQ],c,mE.more d⟩
theorem mE.set:∀{xs:List α} {cs:List V},mE e b h cs xs->∀{i:Nat} {y:α} {w:List V},i<xs.length->e.rel b h y w->mE e b h (cs.take (i*e.sz)++w++cs.drop (i*e.sz+e.sz)) (xs.set i y)
 |[],_,_,i,y,w,hi,_=>by simp_all
 | x ::xs,_,⟨u,r,d,a,c⟩,i,y,w,hi,hw=>by
   have f:=e.len a;have g:=e.len hw;subst d
   cases i with
   | zero=>
     refine⟨w,r,?_,hw,c⟩
     simp_all
   | succ i=>
     refine⟨u,_,?_,a,mE.set c (i:=i) (y:=y) (w:=w) (by simpa using hi) hw⟩;have e1:(i+1)*e.sz=u.length+i*e.sz:=by rw[Qd,Nat.one_mul,f];omega
     have e2:(i+1)*e.sz+e.sz=u.length+(i*e.sz+e.sz):=by omega
     rw[e2,e1,List.take_length_add_append,<-TX,List.drop_left]
     simp_all
end
def iL{α:Type} (e:sQ α) (b:Nat->Prop) (h:Hp) (xs:List α) (v:V):Prop:=(v = .ed/\xs=[])\/∃l off ty live ro cs,v = .slice l off xs.length/\b l/\h.get l=some (.cells ty e.sz live ro cs)/\(xs=[]\/live=true)/\off<=cs.length/\mE e b h (cs.drop off) xs
section
variable{α:Type}{e:sQ α}{b:Nat->Prop}{h h':Hp}{xs:List α}{v:V}
theorem iL.eD(c:∀l,b l->h'.get l=h.get l) (a:iL e b h xs v):iL e b h' xs v:=by
 rcases a with a|⟨l,off,ty,live,ro,cs,d,f,k,g,i,j⟩
 ·exact .inl a
 ·exact .inr ⟨l,off,ty,live,ro,cs,d,f,by simp_all,g,i,j.eD c⟩
theorem iL.mono{c:Nat->Prop} (d:∀l,b l->c l) (a:iL e b h xs v):iL e c h xs v:=by
 rcases a with a|⟨l,off,ty,live,ro,cs,f,g,i,j,k,m⟩
 ·exact .inl a
 ·exact .inr ⟨l,off,ty,live,ro,cs,f,d l g,i,j,k,m.mono d⟩
theorem iL.one(a:iL e b h xs v):v.one=true:=by
 rcases a with⟨rfl,_⟩|⟨l,off,ty,live,ro,cs,rfl,_⟩ <;> rfl
end
def eL{α:Type} (e:sQ α):sQ (List α) where
 sz:=1
 rel b h xs cs:=∃v,cs=[v]/\iL e b h xs v
 len:=by simp_all
 one:=λ⟨_,h,a⟩=>by subst h;simp[a.one]
 eD:=λc ⟨v,h,a⟩=>⟨v,h,a.eD c⟩
 mono:=λd ⟨v,h,a⟩=>⟨v,h,a.mono d⟩
section
variable{α:Type}{e:sQ α}{b:Nat->Prop}{h h':Hp}{xs:List α}{v:V}
theorem iL.len(a:iL e b h xs v):fF v=some (.int .i64 xs.length):=by
 rcases a with⟨rfl,rfl⟩|⟨l,off,ty,live,ro,cs,rfl,_⟩ <;> rfl
theorem iL.nil:iL e b h [] .ed:= .inl ⟨rfl,rfl⟩
theorem iL.ix(c:iL e b h xs v) {i:Nat} (hi:i<xs.length) (d:IntKind) :
  ∃l o w,b l/\gy e.sz v (.int d i)=some (.ptr l o)/\fZ e.sz (.ptr l o) h=some (.agg w)/\e.rel b h xs[i] w/\∀k u,w[k]? =some u->en (.ptr l (o+k)) h=some u:=by
 rcases c with⟨_,rfl⟩|⟨l,off,ty,live,ro,cs,rfl,f,a,p,q,g⟩
 ·grind
 ·obtain rfl:live=true:=by grind
  obtain⟨w,j,m,n⟩:=g.get (i:=i) (x:=xs[i]) (by simp_all);rw[List.length_drop]at m;have hd:(cs.drop (off+i*e.sz)).take e.sz=w:=by rw[<-j,TX]
  refine⟨l,off+i*e.sz,w,f,by grind[vX],?_,n,λk u r=>?_⟩
  ·rw[Ew a,Dl (by omega),hd];rfl
  ·rw[N2 a,OF]
   grind
theorem iL.PO(j:iL e b h xs v) {i:Nat} (hi:i<xs.length) (a:IntKind) (c:e.sz=1) :
  ∃l o u,b l/\gy 1 v (.int a i)=some (.ptr l o)/\en (.ptr l o) h=some u/\e.rel b h xs[i] [u]:=by
 obtain ⟨l,o,w,h0,d,_,f,k⟩:=j.ix hi a;rw[c]at d;have g:=e.len f;rw[c]at g;obtain⟨u,rfl⟩:∃u,w=[u]:=by
  match w,g with
  |[u],_=>simp_all
 exact⟨l,o,u,h0,d,k 0 u rfl,f⟩
theorem iL.Nn{a:Nat->Prop} {ty:Nat} {ro:Bool} {cs:List V} (d:mE e b h cs xs) (g:∀l,b l->l<h.next) (c:∀l,b l->a l) (f:a h.next):iL e a (h.new (.cells ty e.sz true ro cs)) xs (.slice h.next 0 xs.length):=
 .inr ⟨h.next,0,ty,true,ro,cs,rfl,f,ez _ _,.inr rfl,GM _,(d.eD (by grind[eR])).mono c⟩
theorem iL.new{ty:Nat} {ro:Bool} {cs:List V} {n:Nat} (c:mE e (lo n) h cs xs) (b:n<=h.next):iL e (lo (h.next+1)) (h.new (.cells ty e.sz true ro cs)) xs (.slice h.next 0 xs.length):=
 .Nn c (λ_ a=>zr a b) (λ_ a=>UT (zr a b)) (K8 _)
end
section
variable (t:Nat)(k:IntKind)(a b:Int)
@[simp] theorem Ba:ef .add t (.int k a) (.int k b)=some (.int k (jt k (a+b))):=by cases k <;> rfl
@[simp] theorem iy:ef .sub t (.int k a) (.int k b)=some (.int k (jt k (a-b))):=by cases k <;> rfl
@[simp] theorem Sc:ef .mul t (.int k a) (.int k b)=some (.int k (jt k (a*b))):=by cases k <;> rfl
@[simp] theorem jo:ef .lss t (.int k a) (.int k b)=some (.bool (decide (a<b))):=by cases k <;> rfl
@[simp] theorem Xq:ef .leq t (.int k a) (.int k b)=some (.bool (decide (a<=b))):=by cases k <;> rfl
@[simp] theorem my:ef .gtr t (.int k a) (.int k b)=some (.bool (decide (b<a))):=by cases k <;> rfl
@[simp] theorem nU:ef .geq t (.int k a) (.int k b)=some (.bool (decide (b<=a))):=by cases k <;> rfl
@[simp] theorem ig:ef .eql t (.int k a) (.int k b)=some (.bool (a == b)):=by cases k <;> rfl
@[simp] theorem yI:ef .neq t (.int k a) (.int k b)=some (.bool (a != b)):=by cases k <;> rfl
@[simp] theorem Wq (x y:List UInt8):ef .eql t (.str x) (.str y)=some (.bool (x == y)):=rfl
@[simp] theorem Wr (x y:List UInt8):ef .neq t (.str x) (.str y)=some (.bool (!(x == y))):=rfl
@[simp] theorem TM (x:Bool):tk .not (.bool x)=some (.bool !x):=rfl
@[simp] theorem YQ:tk .neg (.int k a)=some (.int k (jt k (0-a))):=rfl
theorem iO{k:IntKind} {n:Int} (h:Fb k n):jt k n=n:=by
 rw[wE];cases k <;> simp only[Fb]at h <;> simp only[IntKind.wrap,IntKind.signed,IntKind.bits,Bool.true_and,Bool.false_and,IM,LK,if_false,Nat.reduceSub,Int.reducePow,ge_iff_le] <;> (try split) <;> omega
@[simp] theorem Wo {n:Nat} (h:n<9223372036854775808):jt .i64 (n:Int)=n:=iO (by simp only[Fb];omega)
@[simp] theorem Ml (g:Bool):K1 g (.int k a) [.int k b]=some (.int k (if g then max a b else min a b)):=by
 cases g
 ·show some (V.int k (if b<a then b else a))=_;simp only[LK,if_false];congr 2;omega
 ·show some (V.int k (if b>a then b else a))=_;simp only[if_true];congr 2;omega
end
theorem Qt(n:Nat) (z:V):yy n [z]=List.replicate n z:=by
 induction n <;> grind[yy]
theorem Jj{e sz lV n:Nat} {z:V} (a:n*lV<=281474976710656) (b:n<=1099511627776) :
  hZ e sz lV z (.int .i64 (n:Int)) (.int .i64 (n:Int))=some (O.cells e sz true false (yy n z.cells),λl=>V.slice l 0 n):=by
 show bB (Nat.ble n n) (bB (Nat.ble (n*lV) 281474976710656) (bB (Nat.ble n 1099511627776) (some (O.cells e sz true false (yy n z.cells),λl=>V.slice l 0 n))))=_
 simp_all[vJ,RK,jn]
theorem MR{cs:List V} {v:V}:∀{o:Nat},o<cs.length->nQ o cs [v]=some (cs.set o v):=by
 induction cs with
 |nil=>simp_all
 | cons c cs a=>
   intro o h
   cases o with
   |zero=>rfl
   | succ o=>
     grind[nQ,eQ]
theorem OP:∀{ws cs:List V},ws.length<=cs.length->over ws cs=some (ws++cs.drop ws.length)
 |[],_,_=>rfl
 |w::ws,[],h=>by simp_all
 | w::ws,c::cs,h=>by
   have:=OP (ws:=ws) (cs:=cs) (by simp_all)
   grind[over,eQ,MX]
theorem B2:∀{o:Nat} {cs ws:List V},o+ws.length<=cs.length->nQ o cs ws=some (cs.take o++ws++cs.drop (o+ws.length))
 |0,cs,ws,h=>by simp_all[nQ,OP,Wi,LR,EM]
 |o+1,[],ws,h=>by simp_all
 | o+1,c::cs,ws,h=>by
   have:=B2 (o:=o) (cs:=cs) (ws:=ws) (by grind)
   grind[nQ,eQ]
theorem BO{v:V} (h:v.one=true):v.cells=[v]:=by
 cases v <;> first|rfl|cases h
section
variable{l o e sz:Nat}{cs:List V}{h:Hp}{v:V}
theorem Ih(b:h.get l=some (.cells e sz true false cs)) (c:o<cs.length) (a:v.one=true):gW 1 (.ptr l o) v h=some (.val .undef (h.put l (.cells e sz true false (cs.set o v)))):=by
 unfold gW AN jN;simp only[qM,BO a,MX,Wc,b,eQ,uL,V7,fc,a,M3,Bool.and_self,MR c];rfl
theorem BV{ws:List V} {n:Nat} (a:h.get l=some (.cells e sz true false cs)) (b:ws.length=n) (hc:cs.length=n) (c:gh ws=true):gW n (.ptr l 0) (.agg ws) h=some (.val .undef (h.put l (.cells e sz true false ws))):=by
 unfold gW AN jN;have d:nQ 0 cs ws=some ws:=by
  rw[B2 (by omega),Wi,LR,EM,List.drop_of_length_le (by omega),IN]
 grind[qM,V.cells,eQ,uL,V7,vJ,Qe]
theorem js{u:V}{ro:Bool}(a:h.get l=some (.cells e sz true ro cs))(b:cs[o]? =some u):en (.ptr l o) h=some u:=by rw[N2 a,OF,b]
theorem y6{n:Nat} {ro:Bool} (a:h.get l=some (.cells e sz true ro cs)) (b:cs.length=n):fZ n (.ptr l 0) h=some (.agg cs):=by
 rw[Ew a,Dl (by omega),SE,JE (by omega)];rfl
end
section
variable{α:Type}{e:sQ α}{b:Nat->Prop}{h:Hp}
theorem mE.drop:∀{xs:List α} {cs:List V} (n:Nat),mE e b h cs xs->n<=xs.length->mE e b h (cs.drop (n*e.sz)) (xs.drop n)
 |xs,cs,0,hw,_=>by simp_all
 |[],cs,n+1,_,hn=>by simp_all
 | x::xs,cs,n+1,⟨w,r,a,c,d⟩,hn=>by
   have:=mE.drop n d (by simpa using hn);have f:=e.len c;subst a;rw[List.drop_succ_cons,Qd,Nat.one_mul,Nat.add_comm,<-TX,<-f,List.drop_left]
   simp_all
theorem mE.taken:∀{xs:List α} {cs:List V} (n:Nat),mE e b h cs xs->mE e b h cs (xs.take n)
 |xs,cs,0,_=>by simp only[Wi];trivial
 |[],cs,n+1,_=>by simp_all
 |x::xs,cs,n+1,⟨w,r,a,c,d⟩=>⟨w,r,a,c,mE.taken n d⟩
theorem Js(z:Nat) (k:IntKind) (n:Nat):hbound z (some (.int k n))=some n:=by
 rfl
theorem Gm(z:Nat):hbound z none=some z:=rfl
theorem iL.cut{xs:List α} {v:V} (i:iL e b h xs v) {lo hi:Option V} {m n:Nat} (j:hbound 0 lo=some m) (k:hbound xs.length hi=some n) (o:m<=n) (a:n<=xs.length) :
  ∃d,iZ e.sz v lo hi h=some d/\iL e b h ((xs.take n).drop m) d:=by
 rcases i with⟨rfl,rfl⟩|⟨l,off,ty,live,ro,cs,rfl,p,q,s,t,f⟩
 ·simp at a;subst a;obtain rfl:m=0:=by omega
  refine⟨.ed,?_,.inl ⟨rfl,by simp⟩⟩
  simp_all[iZ,eQ,hbound]
 ·have r:=f.length;have g:m*e.sz<=n*e.sz:=Yc _ o;have c:n*e.sz<=xs.length*e.sz:=Yc _ a;rw[List.length_drop]at r;refine⟨.slice l (off+m*e.sz) (n-m),?_,?_⟩
  ·grind[iZ,jN,eQ,vJ,Qe,RK]
  ·have hlen:((xs.take n).drop m).length=n-m:=by rw[List.length_drop,MI];omega
   refine .inr ⟨l,off+m*e.sz,ty,live,ro,cs,by rw[hlen],p,q,?_,by omega,?_⟩
   ·grind
   ·rw[<-TX];exact(f.taken n).drop m (by simp_all)
end
section
variable{e sz a n:Nat}{h h':Hp}{cs:List V}{v:V}
theorem mI{e sz k:Nat} {h:Hp} {cs:List V} {ro:Bool} (a:cs.length=(k+1)*sz):kJ (h.new (.cells e sz true ro cs)) sz (.slice h.next 0 (k+1))=some (k+1,cs):=by
 unfold kJ Cs jN;have:sub cs 0 (Nat.mul (Nat.succ k) sz)=some cs:=by
  show sub cs 0 ((k+1)*sz)=some cs;rw[Dl (by omega),SE,JE (by omega)]
 grind[ez,eQ,uL]
end
