/- Parts. -/
import Derived.Test.YtpfjdlicdljhaaaDoorM08
import Derived.KernelRfl
set_option maxHeartbeats 4000000
namespace Go.Proofs.YtpfjdlicdljhaaaDoor.Hx
def _root_.Go.Code.l:Code->Code
 | .seq a _=>a
 | .cond _ a _=>a
 | .block _ c=>c
 | .loop c=>c
 |_=> .skip
def _root_.Go.Code.r:Code->Code
 | .seq _ b=>b
 | .cond _ _ b=>b
 |_=> .skip
def Nk(fn:Func):Code:=match fn.body with
 |some c=>c
 |none=> .skip
noncomputable section
def ey(a:V)(h:Hp):Option V:=xy a λl off=>ld1 h l off
def gy(n:Nat)(a:V)(h:Hp):Option V:=xy a λl off=>oB (E2 h l off n) λcs=>some (.agg cs)
def fH(k:Nat)(x:V):Option V:=xy x λl off=>some (.ptr l (Nat.add off k))
def gI(n:Nat) (x i:V):Option V:=asNat i λi=>match x with
 | .slice l off len=>bB (Nat.blt i len) (some (.ptr l (Nat.add off (Nat.mul i n))))
 |_=>none
def zaJ(len n:Nat)(x i:V):Option V:=asNat i λi=>xy x λl off=>bB (Nat.blt i len) (some (.ptr l (Nat.add off (Nat.mul i n))))
def zct(k:Nat) (x:V):Option V:=match x with
 | .agg cs=>CE cs k
 |_=>none
def l0(c a b:V):Option V:=match c with
 | .bool x=>Bool.rec (motive:=λ_=>Option V) (some b) (some a) x
 |_=>none
def ij(x:V):Option V:=match x with
 | .ptr l off=>some (.ptr l off)
 | .func f a c=>some (.func f a c)
 | .iface u v=>some (.iface u v)
 |_=>none
def DQ(k:IntKind) (x:V):Option V:=match x with
 | .int _ n=>some (.int k (ll k n))
 |_=>none
def fR(z:List V)(a:List (Nat×Nat))(ps:List (Nat×V)):Option V:=oB (Bg (λi=>a[i]?) z ps) λcs=>some (.agg cs)
def FG(i:Nat) (x:V):Option V:=match x with
 | .tuple vs=>CE vs i
 |_=>none
def za7(x:V):Option V:=match x with
 | .str s=>some (.int .i64 (.ofNat s.length))
 |_=>none
def fy(x:V):Option V:=match x with
 | .slice _ _ n=>some (.int .i64 (.ofNat n))
 | .ee=>some (.int .i64 (.ofNat 0))
 |_=>none
def RU(a:Nat) (d:Option (List Field)) (z:V) (ok:Bool) (m k:V) (h:Hp):Option V:=bB (IH d k) (match m with
 | .kY=>some (found z ok none)
 | .map l=>CG h l λb _=>oB (vN a d k b 0) λr=>some (found z ok r)
 |_=>none)
def ji(a size len:Nat) (z:V) (ps:List (Nat×V)):Option (O×(Nat->V)):=oB (Bg (λi=>some (Nat.mul i size,size)) (Ac len z.cells) ps) λcs=>bB (fW cs) (some (.cells a size true false cs,λl=> .slice l 0 len))
def gG(n:Nat)(a v:V)(h:Hp):Option R:=xy a λl off=>bB (Nat.beq v.cells.length n) (oB (CX h l off v.cells) λh=>some (.val .undef h))
end
noncomputable section
def fi(x:Option R)(K:V->Hp->Prop):Prop:=oP (oB x valOf) λy=>K y.1 y.2
def gP(C:fk)(x:Option R)(h:Hp)(K:V->Hp->Prop):Prop:=oP (oB x Ga) λy=>cP C y.1 y.2 h K
def dcP(C:fk)(f:Nat)(l:List V)(h:Hp)(K:V->Hp->Prop):Prop:=oP (some (f,l)) λy=>cP C y.1 y.2 h K
def im(x:Option (O×(Nat->V)))(h:Hp)(K:V->Hp->Prop):Prop:=oP x λr=>K (r.2 h.next) (h.new r.1)
def xR(x:Option (O×(Nat->V)))(h:Hp)(K:O->V->Hp->Prop):Prop:=oP x λr=>K r.1 (r.2 h.next) (h.new r.1)
def ghP(b:Bool)(h:Hp)(x:Option (V×Hp))(K:V->Hp->Prop):Prop:=oP (gH b h x) λy=>K y.1 y.2
def gT(b:Bool)(p:Prop):Prop:=Bool.rec (motive:=λ_=>Prop) True p b
def fQ(w:Bool) (x:V):Option Bool:=match x with
 | .bool b=>some (Bool.rec (motive:=λ_=>Bool) (!w) w b)
 | .tuple []=>some false
 |_=>none
end
theorem Uq(f:Nat->V) (d:Nat) (v:V):gq f d v d=v:=by
 simp_all[gq,Tv]
theorem Yh(f:Nat->V) {d i:Nat} (v:V) (h:i≠d):gq f d v i=f i:=by
 unfold gq;cases hb:Nat.beq i d <;> simp_all
@[simp] theorem fe {α β:Type} (a:α) (k:α->Option β):oB (some a) k=k a:=rfl
@[simp] theorem zbZ {α β:Type} (k:α->Option β):oB (none:Option α) k=none:=rfl
@[simp] theorem rF {β:Type} (k:Option β):bB true k=k:=rfl
@[simp] theorem zaO {β:Type} (k:Option β):bB false k=none:=rfl
theorem lL{β:Type}{c:Bool}(k:Option β)(h:c=true):bB c k=k:=by simp_all
@[simp] theorem vW {β:Type} (l o:Nat) (k:Nat->Nat->Option β):xy (.ptr l o) k=k l o:=rfl
@[simp] theorem Zb {β:Type} (kd:IntKind) (n:Nat) (k:Nat->Option β):asNat (.int kd (.ofNat n)) k=k n:=rfl
@[simp] theorem zaw {β:Type} (kd:IntKind) (n:Nat) (k:Nat->Option β):asNat (.int kd (n:Int)) k=k n:=rfl
@[simp] theorem zaR {β:Type} (kd:IntKind) (n:Nat) (k:Nat->Option β):asNat (.int kd (OfNat.ofNat n:Int)) k=k n:=rfl
@[simp] theorem zad {β:Type} (kd:IntKind) (k:Nat->Option β):asNat (.int kd 0) k=k 0:=rfl
@[simp] theorem zaS {β:Type} (kd:IntKind) (k:Nat->Option β):asNat (.int kd 1) k=k 1:=rfl
@[simp] theorem fJ (k l o:Nat):fH k (.ptr l o)=some (.ptr l (o+k)):=rfl
@[simp] theorem fI (l o:Nat):ij (.ptr l o)=some (.ptr l o):=rfl
@[simp] theorem zaP (f:Nat) (a c:List V):ij (.func f a c)=some (.func f a c):=rfl
@[simp] theorem zaH (l o n:Nat):fy (.slice l o n)=some (.int .i64 n):=rfl
@[simp] theorem zbs:fy .ee=some (.int .i64 0):=rfl
@[simp] theorem zaQ (s:List UInt8):za7 (.str s)=some (.int .i64 s.length):=rfl
@[simp] theorem zaa (x:Bool) (a b:V):l0 (.bool x) a b=some (if x=true then a else b):=by cases x <;> rfl
@[simp] theorem mi (k k':IntKind) (n:Int):DQ k (.int k' n)=some (.int k (ll k n)):=rfl
@[simp] theorem Cq (i:Nat) (vs:List V):FG i (.tuple vs)=CE vs i:=rfl
@[simp] theorem zb5 (k:Nat) (cs:List V):zct k (.agg cs)=CE cs k:=rfl
@[simp] theorem fw (o:O) (f:Nat->V) (h:Hp) (K:V->Hp->Prop):im (some (o,f)) h K=K (f h.next) (h.new o):=rfl
@[simp] theorem ic (o:O) (f:Nat->V) (h:Hp) (K:O->V->Hp->Prop):xR (some (o,f)) h K=K o (f h.next) (h.new o):=rfl
@[simp] theorem ej (v:V) (h:Hp) (K:V->Hp->Prop):fi (some (.val v h)) K=K v h:=rfl
@[simp] theorem Mu (C:fk) (f:Nat) (l:List V) (h:Hp) (K:V->Hp->Prop):gP C (some (.call f l)) h K=cP C f l h K:=rfl
@[simp] theorem zcn (C:fk) (f:Nat) (l:List V) (h:Hp) (K:V->Hp->Prop):dcP C f l h K=cP C f l h K:=rfl
@[simp] theorem KY (f:Nat) (a c l:List V):fU (.func f a c) l=some (.call f (a++(l++c))):=rfl
@[simp] theorem za4 (w b:Bool):fQ w (.bool b)=some (b == w):=by cases w <;> cases b <;> rfl
@[simp] theorem zca (x:Option V):gV true x=x:=rfl
@[simp] theorem zbW (x:Option V):gV false x=some .undef:=rfl
@[simp] theorem zb8 (x:Option (Nat×List V)):gC true x=oB x λy=>some (some y):=rfl
@[simp] theorem zbe (x:Option (Nat×List V)):gC false x=some none:=rfl
@[simp] theorem zcb (p:Prop):gT true p=p:=rfl
@[simp] theorem zbz (p:Prop):gT false p=True:=rfl
@[simp] theorem zbO (C:fk) (y:Nat×List V) (h:Hp) (K:V->Hp->Prop):xd C (some y) h K=cP C y.1 y.2 h K:=rfl
@[simp] theorem za0 (C:fk) (h:Hp) (K:V->Hp->Prop):xd C none h K=K .undef h:=rfl
theorem vU(n l o len i:Nat) (kd:IntKind) (h:i<len):gI n (.slice l o len) (.int kd i)=some (.ptr l (o+i*n)):=by
 show bB (Nat.blt i len) _=_
 grind[lL,Nn]
theorem M5{l o e sz:Nat} {ro:Bool} {cs:List V} {h:Hp} (a:h.get l=some (.cells e sz true ro cs)):ey (.ptr l o) h=CE cs o:=by
 simp_all[ey,ld1,jv,vW,fe,rF]
theorem Bf{n l o e sz:Nat} {ro:Bool} {cs:List V} {h:Hp} (a:h.get l=some (.cells e sz true ro cs)):gy n (.ptr l o) h=oB (sub cs o n) λcs=>some (.agg cs):=by
 simp_all[gy,E2,jv,vW,fe,rF]
@[simp] theorem zbJ (v:V) (l:List V):CE (v::l) 0=some v:=rfl
@[simp] theorem zbq (v:V) (l:List V) (n:Nat):CE (v::l) (n+1)=CE l n:=rfl
theorem N5(l:List V)(n:Nat):CE l n=l[n]?:=by grind[CE,List.head?_drop]
@[simp] theorem zaA (l:List V):takeN 0 l=some []:=by rfl
@[simp] theorem zaC (n:Nat) (v:V) (l:List V):takeN (n+1) (v::l)=oB (takeN n l) λr=>some (v::r):=rfl
theorem Pd:∀(n:Nat) (l:List V),n<=l.length->takeN n l=some (l.take n)
 |0,l,_=>by rfl
 |n+1,[],h=>by simp_all
 |n+1,v::l,h=>by simp only[takeN,Pd n l (by simp_all),fe,List.take_succ_cons]
theorem BY{l:List V} {o n:Nat} (h:o+n<=l.length):sub l o n=some ((l.drop o).take n):=by
 grind[sub,Pd]
@[simp] theorem gW {α:Type} (a:α) (k:α->Prop):oP (some a) k=k a:=rfl
@[simp] theorem KX (x:Bool) (a b:Prop):bP (.bool x) a b=if x=true then a else b:=gZ x a b
@[simp] theorem zaT (v:V) (h:Hp):valOf (.val v h)=some (v,h):=rfl
@[simp] theorem Zg (f:Nat) (l:List V):Ga (.call f l)=some (f,l):=rfl
section
variable{C:fk}{n:Nat}{Q:X->gf->Hp->Prop}{ρ:gf}{h:Hp}
theorem Wp.of{c:Code}{P:Prop}(e:vJ C n c Q ρ h=P)(a:P):Wp C n c Q ρ h:=Wp.code c (e.mpr a)
theorem LI{α:Type}{a:α}{k:α->Prop}(h:k a):oP (some a) k:=h
theorem oM{α:Type} {x:Option α} {k k':α->Prop} (h:oP x k) (f:∀a,x=some a->k a->k' a):oP x k':=by
 grind[j6,ed]
theorem bM{v:V} {a b a' b':Prop} (h:bP v a b) (f:a->a') (g:b->b'):bP v a' b':=by
 unfold bP at h⊢;split at h
 ·rename_i x;cases x <;> grind
 omega
theorem dcM{f:Nat} {l:List V} {k k':V->Hp->Prop} (h':cP C f l h k) (F:∀v h',k v h'->k' v h'):dcP C f l h k':=by
 show cP C f l h k';exact h'.mono F
theorem cgM{x:Option (Nat×List V)} {k k':V->Hp->Prop} (h':xd C x h k) (F:∀v h',k v h'->k' v h'):xd C x h k':=by
 cases x with
 |none=>simp_all
 |some y=>exact cP.mono h' F
theorem alM{x:Option (O×(Nat->V))} {k k':V->Hp->Prop} (h':im x h k) (F:∀v h',k v h'->k' v h'):im x h k':=
 oM h' (by simp_all)
theorem zcy{x:Option R} {k k':V->Hp->Prop} (h':fi x k) (F:∀v h',k v h'->k' v h'):fi x k':=
 oM h' (by simp_all)
end
theorem anM{a b c:Prop}(h:c/\a)(f:a->b):c/\b:=by simp_all
@[simp] theorem O.jL (e sz:Nat) (a r:Bool) (cs:List V):O.beq (.cells e sz a r cs) (.cells e sz a r cs)=true:=by
 simp[O.beq,V.yl]
@[simp] theorem O.zb9 (c:Nat):O.beq (.map [] c) (.map [] c)=true:=by simp[O.beq]
def om(c:V) (X:Option V):Option V:=match c with
 | .bool true=>some (.bool true)
 | .bool false=>X
 |_=>none
def jz(c:V) (X:Option V):Option V:=match c with
 | .bool false=>some (.bool false)
 | .bool true=>X
 |_=>none
@[simp] theorem zbV (X:Option V):om (.bool true) X=some (.bool true):=rfl
@[simp] theorem ng (X:Option V):om (.bool false) X=X:=rfl
@[simp] theorem yk (X:Option V):jz (.bool true) X=X:=rfl
@[simp] theorem Ku (X:Option V):jz (.bool false) X=some (.bool false):=rfl
@[simp] theorem pe (c d:Bool):om (.bool c) (some (.bool d))=some (.bool (c ||d)):=by cases c <;> rfl
@[simp] theorem iD (c d:Bool):jz (.bool c) (some (.bool d))=some (.bool (c&&d)):=by cases c <;> rfl
theorem XS{c d:Bool} {X:Option V} (h:c=true->X=some (.bool d)):jz (.bool c) X=some (.bool (c&&d)):=by
 cases c <;> simp_all
theorem thn{A B:Prop}(a:A)(f:A->B):B:=f a
section
variable{c c' Xc:V}{X X':Option V}{K:V->Prop}{f:V->Option V}{w b0:Bool}
theorem Tq(H:oP (om c X) K):oP (fQ false c) λb=>oP (gV b X) λv=>oP (l0 c (.bool true) v) K:=by
 unfold om at H;split at H
 ·exact H
 ·exact H
 ·exact H.elim
theorem Pr(H:oP (jz c X) K):oP (fQ true c) λb=>oP (gV b X) λv=>oP (l0 c v (.bool false)) K:=by
 unfold jz at H;split at H
 ·exact H
 ·exact H
 ·exact H.elim
theorem sG1{R:Bool->V->Prop} (H:oP (fQ w c) λb=>oP (gV b (oB X f)) K) (F:∀b,fQ w c=some b->∀v,gV b X=some v->(oP (fQ w c) λb=>oP (gV b (f v)) K)->R b v):oP (fQ w c) λb=>oP (gV b X) λv=>R b v:=by
 obtain⟨b,a,d⟩:=j6.1 H;refine ed a ?_
 cases b with
 | true=>
   grind[j6,fh,oB,ed,gV]
 |false=>simp_all
theorem wP{b:Bool} {v:V} (E:gV b X=some v):gT b (X=some v):=by
 cases b <;> simp_all
end
structure kM (S:Nat->Prop) (h h':Hp):Prop where
 next:h.next<=h'.next
 eR:∀l,l<h.next->¬S l->h'.get l=h.get l
abbrev He(h h':Hp):Prop:=kM (λ_=>False) h h'
theorem kM.refl(S:Nat->Prop)(h:Hp):kM S h h:=⟨iZ _,by simp_all⟩
theorem kM.trans'{S S':Nat->Prop} {h h' c:Hp} (a:kM S h h') (b:kM S' h' c) (hs:∀l,l<h.next->S' l->S l):kM S h c:=
 ⟨Fe a.next b.next,λl d e=>by rw[b.eR l (Cc d a.next) (by grind),a.eR l d e]⟩
theorem kM.trans{S:Nat->Prop}{h h' c:Hp}(a:kM S h h')(b:kM S h' c):kM S h c:=a.trans' b (by simp_all)
theorem kM.Wv{S S':Nat->Prop} {h h':Hp} (a:kM S h h') (hs:∀l,l<h.next->S l->S' l):kM S' h h':=
 ⟨a.next,λl b c=>a.eR l b (by grind)⟩
theorem kM.new{S:Nat->Prop} (h:Hp) (o:O):kM S h (h.new o):=
 ⟨Qe _,λl a _=>by rw[tW,if_neg (by omega)]⟩
theorem kM.put{S:Nat->Prop} {h:Hp} {l:Nat} (o:O) (hs:S l) (a:l<h.next):kM S h (h.put l o):=
 ⟨iZ _,λm _ b=>by rw[oR _ _ a,if_neg (by grind)]⟩
theorem fg(h:Hp)(o:O):(h.new o).get h.next=some o:=by rw[tW,if_pos rfl]
theorem fm{h:Hp}(o:O){l:Nat}(a:l<h.next):(h.new o).get l=h.get l:=by rw[tW,if_neg (by omega)]
theorem fS{h:Hp}{l:Nat}(o:O)(a:l<h.next):(h.put l o).get l=some o:=by rw[oR _ _ a,if_pos rfl]
theorem fZ{h:Hp}{l m:Nat}(o:O)(a:l<h.next)(b:l≠m):(h.put l o).get m=h.get m:=by simp_all[oR,if_neg]
@[simp] theorem zb0 (h:Hp) (o:O):(h.new o).next=h.next+1:=rfl
@[simp] theorem zbw (h:Hp) (l:Nat) (o:O):(h.put l o).next=h.next:=rfl
structure pG (α:Type) where
 sz:Nat
 rel:(Nat->Prop)->Hp->α->List V->Prop
 len:∀{b h x cs},rel b h x cs->cs.length=sz
 one:∀{b h x cs},rel b h x cs->fW cs=true
 eR:∀{b h h' x cs},(∀l,b l->h'.get l=h.get l)->rel b h x cs->rel b h' x cs
 mono:∀{b b' h x cs},(∀l,b l->b' l)->rel b h x cs->rel b' h x cs
def lo(b:Nat):Nat->Prop:=λl=>l<b
theorem Tj{b b':Nat}(h:b<=b'):∀l,lo b l->lo b' l:=λ_ a=>Cc a h
theorem mE:∀(a b:List V),fW (a++b)=(fW a&&fW b)
 |[],b=>by rfl
 | v::a,b=>by
   simp only[List.cons_append,fW,mE a b];cases v.one <;> simp
@[simp] theorem RH:fW []=true:=rfl
@[simp] theorem ev (v:V) (l:List V):fW (v::l)=(v.one&&fW l):=by
 simp only[fW];cases v.one <;> rfl
def CO:IntKind->Int->Prop
 | .i8,n=>-128<=n/\n<=127
 | .i16,n=>-32768<=n/\n<=32767
 | .i32,n=>-2147483648<=n/\n<=2147483647
 | .i64,n=>-9223372036854775808<=n/\n<=9223372036854775807
 | .u8,n=>0<=n/\n<=255
 | .u16,n=>0<=n/\n<=65535
 | .u32,n=>0<=n/\n<=4294967295
 | .u64,n=>0<=n/\n<=18446744073709551615
def eI(k:IntKind):pG Int where
 sz:=1
 rel _ _ n cs:=cs=[.int k n]/\CO k n
 len h:=by simp_all
 one h:=by rw[h.1];rfl
 eR _ h:=h
 mono _ h:=h
def eB:pG Bool where
 sz:=1
 rel _ _ n cs:=cs=[.bool n]
 len h:=by simp_all
 one h:=by subst h;rfl
 eR _ h:=h
 mono _ h:=h
def eS:pG (List UInt8) where
 sz:=1
 rel _ _ n cs:=cs=[.str n]
 len h:=by simp_all
 one h:=by subst h;rfl
 eR _ h:=h
 mono _ h:=h
def eP{α β:Type} (e:pG α) (f:pG β):pG (α×β) where
 sz:=e.sz+f.sz
 rel b h x cs:=∃p q,cs=p++q/\e.rel b h x.1 p/\f.rel b h x.2 q
 len:=λ⟨_,_,h,a,c⟩=>by subst h;simp[e.len a,f.len c]
 one:=λ⟨_,_,h,a,c⟩=>by subst h;simp[mE,e.one a,f.one c]
 eR:=λhk ⟨p,q,h,a,c⟩=>⟨p,q,h,e.eR hk a,f.eR hk c⟩
 mono:=λd ⟨p,q,h,a,c⟩=>⟨p,q,h,e.mono d a,f.mono d c⟩
def eM{α β:Type} (g:β->α) (e:pG α):pG β where
 sz:=e.sz
 rel b h x cs:=e.rel b h (g x) cs
 len h:=e.len h
 one h:=e.one h
 eR hk h:=e.eR hk h
 mono hb h:=e.mono hb h
def oX{α:Type} (e:pG α) (b:Nat->Prop) (h:Hp):List V->List α->Prop
 |_,[]=>True
 |cs,x::xs=>∃w r,cs=w++r/\e.rel b h x w/\oX e b h r xs
section
variable{α:Type}{e:pG α}{b:Nat->Prop}{h h':Hp}
theorem oX.eR(hk:∀l,b l->h'.get l=h.get l):∀{xs:List α} {cs:List V},oX e b h cs xs->oX e b h' cs xs
 |[],_,_=>trivial
 |_::_,_,⟨w,r,a,c,d⟩=>⟨w,r,a,e.eR hk c,oX.eR hk d⟩
theorem oX.mono{b':Nat->Prop} (a:∀l,b l->b' l):∀{xs:List α} {cs:List V},oX e b h cs xs->oX e b' h cs xs
 |[],_,_=>trivial
 |_::_,_,⟨w,r,c,d,f⟩=>⟨w,r,c,e.mono a d,oX.mono a f⟩
theorem oX.length:∀{xs:List α} {cs:List V},oX e b h cs xs->xs.length*e.sz<=cs.length
 |[],_,_=>by simp
 | _::xs,_,⟨w,r,a,c,d⟩=>by
   have:=oX.length d;have f:=e.len c;subst a;simp only[I9,M0,UQ,Nat.one_mul];omega
theorem oX.get:∀{xs:List α} {cs:List V},oX e b h cs xs->∀{i:Nat} {x:α},xs[i]? =some x->∃w,(cs.drop (i*e.sz)).take e.sz=w/\i*e.sz+e.sz<=cs.length/\e.rel b h x w
 |[],_,_,i,x,hx=>by simp_all
 | y ::xs,_,⟨w,r,a,c,d⟩,i,x,hx=>by
   have f:=e.len c;subst a
   cases i with
   | zero=>
     simp_all
   | succ i=>
     obtain⟨w',g,k,j⟩:=oX.get d (i:=i) (x:=x) (by simp_all);refine⟨w',?_,?_,j⟩
     ·rw[<-g,UQ,Nat.one_mul,Nat.add_comm,<-f,<-Yw];simp
     grind
theorem oX.append{ys:List α}:∀{xs:List α} {cs ds:List V},oX e b h cs xs->cs.length=xs.length*e.sz->oX e b h ds ys->oX e b h (cs++ds) (xs++ys)
 | [],cs,ds,_,hl,a=>by
   simp_all
 | x::xs,_,ds,⟨w,r,c,a,d⟩,hl,f=>by
   subst c;have g:=e.len a;refine⟨w,r++ds,by simp,a,oX.append d ?_ f⟩
   grind
theorem oX.take:∀{xs:List α} {cs:List V},oX e b h cs xs->oX e b h (cs.take (xs.length*e.sz)) xs
 |[],_,_=>trivial
 | _::xs,_,⟨w,r,c,a,d⟩=>by
   have f:=e.len a;subst c;refine⟨w,r.take (xs.length*e.sz),?_,a,oX.take d⟩
   simp_all[List.take_append,Xj,M0,UQ,Nat.one_mul]
theorem oX.more{ds:List V}:∀{xs:List α} {cs:List V},oX e b h cs xs->oX e b h (cs++ds) xs
 |[],_,_=>trivial
 |_::_,_,⟨w,r,a,c,d⟩=>⟨w,r++ds,by rw[a,Jx],c,oX.more d⟩
theorem oX.set:∀{xs:List α} {cs:List V},oX e b h cs xs->∀{i:Nat} {y:α} {w:List V},i<xs.length->e.rel b h y w->oX e b h (cs.take (i*e.sz)++w++cs.drop (i*e.sz+e.sz)) (xs.set i y)
 |[],_,_,i,y,w,hi,_=>by simp_all
 | x ::xs,_,⟨u,r,d,a,c⟩,i,y,w,hi,hw=>by
   have f:=e.len a;have g:=e.len hw;subst d
   cases i with
   | zero=>
     refine⟨w,r,?_,hw,c⟩
     simp_all
   | succ i=>
     refine⟨u,_,?_,a,oX.set c (i:=i) (y:=y) (w:=w) (by simpa using hi) hw⟩;have j:(i+1)*e.sz=u.length+i*e.sz:=by rw[UQ,Nat.one_mul,f];omega
     have k:(i+1)*e.sz+e.sz=u.length+(i*e.sz+e.sz):=by omega
     rw[k,j,List.take_length_add_append,<-Yw,List.drop_left]
     simp_all
end
def iA{α:Type} (e:pG α) (b:Nat->Prop) (h:Hp) (xs:List α) (v:V):Prop:=(v = .ee/\xs=[])\/∃l off ty live ro cs,v = .slice l off xs.length/\b l/\h.get l=some (.cells ty e.sz live ro cs)/\(xs=[]\/live=true)/\off<=cs.length/\oX e b h (cs.drop off) xs
section
variable{α:Type}{e:pG α}{b:Nat->Prop}{h h':Hp}{xs:List α}{v:V}
theorem iA.eR(hk:∀l,b l->h'.get l=h.get l) (hs:iA e b h xs v):iA e b h' xs v:=by
 rcases hs with hs|⟨l,off,ty,live,ro,cs,a,c,i,d,f,g⟩
 ·exact .inl hs
 ·exact .inr ⟨l,off,ty,live,ro,cs,a,c,by simp_all,d,f,g.eR hk⟩
theorem iA.mono{b':Nat->Prop} (a:∀l,b l->b' l) (hs:iA e b h xs v):iA e b' h xs v:=by
 rcases hs with hs|⟨l,off,ty,live,ro,cs,c,d,f,g,i,j⟩
 ·exact .inl hs
 ·exact .inr ⟨l,off,ty,live,ro,cs,c,a l d,f,g,i,j.mono a⟩
theorem iA.one(hs:iA e b h xs v):v.one=true:=by
 rcases hs with⟨rfl,_⟩|⟨l,off,ty,live,ro,cs,rfl,_⟩ <;> rfl
end
def eL{α:Type} (e:pG α):pG (List α) where
 sz:=1
 rel b h xs cs:=∃v,cs=[v]/\iA e b h xs v
 len:=by simp_all
 one:=λ⟨_,h,hs⟩=>by subst h;simp[hs.one]
 eR:=λhk ⟨v,h,hs⟩=>⟨v,h,hs.eR hk⟩
 mono:=λa ⟨v,h,hs⟩=>⟨v,h,hs.mono a⟩
section
variable{α:Type}{e:pG α}{b:Nat->Prop}{h h':Hp}{xs:List α}{v:V}
theorem iA.len(hs:iA e b h xs v):fy v=some (.int .i64 xs.length):=by
 rcases hs with⟨rfl,rfl⟩|⟨l,off,ty,live,ro,cs,rfl,_⟩ <;> rfl
theorem iA.nil:iA e b h [] .ee:= .inl ⟨rfl,rfl⟩
theorem iA.ix(hs:iA e b h xs v) {i:Nat} (hi:i<xs.length) (kd:IntKind) :
  ∃l o w,b l/\gI e.sz v (.int kd i)=some (.ptr l o)/\gy e.sz (.ptr l o) h=some (.agg w)/\e.rel b h xs[i] w/\∀k u,w[k]? =some u->ey (.ptr l (o+k)) h=some u:=by
 rcases hs with⟨_,rfl⟩|⟨l,off,ty,live,ro,cs,rfl,c,a,n,p,d⟩
 ·grind
 ·obtain rfl:live=true:=by grind
  obtain⟨w,f,g,j⟩:=d.get (i:=i) (x:=xs[i]) (by simp_all);rw[wBz]at g;have m:(cs.drop (off+i*e.sz)).take e.sz=w:=by rw[<-f,Yw]
  refine⟨l,off+i*e.sz,w,c,by grind[vU],?_,j,λk u q=>?_⟩
  ·rw[Bf a,BY (by omega),m];rfl
  ·rw[M5 a,N5]
   grind
theorem iA.US(hs:iA e b h xs v) {i:Nat} (hi:i<xs.length) (kd:IntKind) (a:e.sz=1) :
  ∃l o u,b l/\gI 1 v (.int kd i)=some (.ptr l o)/\ey (.ptr l o) h=some u/\e.rel b h xs[i] [u]:=by
 obtain ⟨l,o,w,h0,c,_,d,g⟩:=hs.ix hi kd;rw[a]at c;have f:=e.len d;rw[a]at f;obtain⟨u,rfl⟩:∃u,w=[u]:=by
  match w,f with
  |[u],_=>simp_all
 exact⟨l,o,u,h0,c,g 0 u rfl,d⟩
theorem iA.Qv{b':Nat->Prop} {ty:Nat} {ro:Bool} {cs:List V} (c:oX e b h cs xs) (f:∀l,b l->l<h.next) (a:∀l,b l->b' l) (d:b' h.next):iA e b' (h.new (.cells ty e.sz true ro cs)) xs (.slice h.next 0 xs.length):=
 .inr ⟨h.next,0,ty,true,ro,cs,rfl,d,fg _ _,.inr rfl,LK _,(c.eR (by grind[fm])).mono a⟩
theorem iA.new{ty:Nat} {ro:Bool} {cs:List V} {n:Nat} (c:oX e (lo n) h cs xs) (b:n<=h.next):iA e (lo (h.next+1)) (h.new (.cells ty e.sz true ro cs)) xs (.slice h.next 0 xs.length):=
 .Qv c (λ_ a=>Cc a b) (λ_ a=>wBq (Cc a b)) (MC _)
end
section
variable (t:Nat)(k:IntKind)(a b:Int)
@[simp] theorem DL:eo .add t (.int k a) (.int k b)=some (.int k (ll k (a+b))):=by cases k <;> rfl
@[simp] theorem pj:eo .sub t (.int k a) (.int k b)=some (.int k (ll k (a-b))):=by cases k <;> rfl
@[simp] theorem PO:eo .mul t (.int k a) (.int k b)=some (.int k (ll k (a*b))):=by cases k <;> rfl
@[simp] theorem mj:eo .lss t (.int k a) (.int k b)=some (.bool (decide (a<b))):=by cases k <;> rfl
@[simp] theorem Li:eo .leq t (.int k a) (.int k b)=some (.bool (decide (a<=b))):=by cases k <;> rfl
@[simp] theorem pg:eo .gtr t (.int k a) (.int k b)=some (.bool (decide (b<a))):=by cases k <;> rfl
@[simp] theorem po:eo .geq t (.int k a) (.int k b)=some (.bool (decide (b<=a))):=by cases k <;> rfl
@[simp] theorem ik:eo .eql t (.int k a) (.int k b)=some (.bool (a == b)):=by cases k <;> rfl
@[simp] theorem yx:eo .neq t (.int k a) (.int k b)=some (.bool (a != b)):=by cases k <;> rfl
@[simp] theorem zaN (x y:List UInt8):eo .eql t (.str x) (.str y)=some (.bool (x == y)):=rfl
@[simp] theorem zaW (x y:List UInt8):eo .neq t (.str x) (.str y)=some (.bool (!(x == y))):=rfl
@[simp] theorem Sf (x:Bool):oD .not (.bool x)=some (.bool !x):=rfl
@[simp] theorem N6:oD .neg (.int k a)=some (.int k (ll k (0-a))):=rfl
theorem yF{k:IntKind} {n:Int} (h:CO k n):ll k n=n:=by
 rw[pB];cases k <;> simp only[CO]at h <;> simp only[IntKind.wrap,IntKind.signed,IntKind.bits,Yq,Bool.false_and,CH,Oh,if_false,Nat.reduceSub,Int.reducePow,ge_iff_le] <;> (try split) <;> omega
@[simp] theorem zaU {n:Nat} (h:n<9223372036854775808):ll .i64 (n:Int)=n:=yF (by simp only[CO];omega)
@[simp] theorem Wa (g:Bool):PD g (.int k a) [.int k b]=some (.int k (if g then max a b else min a b)):=by
 cases g
 ·show some (V.int k (if b<a then b else a))=_;simp only[Oh,if_false];congr 2;omega
 ·show some (V.int k (if b>a then b else a))=_;simp only[if_true];congr 2;omega
end
theorem Vd(n:Nat) (z:V):Ac n [z]=List.replicate n z:=by
 induction n <;> grind[Ac]
theorem LS{e sz kE n:Nat} {z:V} (a:n*kE<=281474976710656) (b:n<=1099511627776) :
  ie e sz kE z (.int .i64 (n:Int)) (.int .i64 (n:Int))=some (O.cells e sz true false (Ac n z.cells),λl=>V.slice l 0 n):=by
 show bB (Nat.ble n n) (bB (Nat.ble (n*kE) 281474976710656) (bB (Nat.ble n 1099511627776) (some (O.cells e sz true false (Ac n z.cells),λl=>V.slice l 0 n))))=_
 simp_all[lL,Ro,iZ]
theorem Qr{cs:List V} {v:V}:∀{o:Nat},o<cs.length->oC o cs [v]=some (cs.set o v):=by
 induction cs with
 |nil=>simp_all
 | cons c cs a=>
   intro o h
   cases o with
   |zero=>rfl
   | succ o=>
     grind[oC,fe]
theorem Sb:∀{ws cs:List V},ws.length<=cs.length->over ws cs=some (ws++cs.drop ws.length)
 |[],_,_=>rfl
 |w::ws,[],h=>by simp_all
 | w::ws,c::cs,h=>by
   have:=Sb (ws:=ws) (cs:=cs) (by simp_all)
   grind[over,fe,M0]
theorem ym:∀{o:Nat} {cs ws:List V},o+ws.length<=cs.length->oC o cs ws=some (cs.take o++ws++cs.drop (o+ws.length))
 |0,cs,ws,h=>by simp_all[oC,Sb,wB5,Qk,wX]
 |o+1,[],ws,h=>by simp_all
 | o+1,c::cs,ws,h=>by
   have:=ym (o:=o) (cs:=cs) (ws:=ws) (by grind)
   grind[oC,fe]
theorem Ml{v:V} (h:v.one=true):v.cells=[v]:=by
 cases v <;> first|rfl|cases h
section
variable{l o e sz:Nat}{cs:List V}{h:Hp}{v:V}
theorem KR(b:h.get l=some (.cells e sz true false cs)) (c:o<cs.length) (a:v.one=true):gG 1 (.ptr l o) v h=some (.val .undef (h.put l (.cells e sz true false (cs.set o v)))):=by
 unfold gG CX jv;simp only[vW,Ml a,M0,Zs,b,fe,rF,ZF,ev,a,RH,Bool.and_self,Qr c];rfl
theorem Ep{ws:List V} {n:Nat} (a:h.get l=some (.cells e sz true false cs)) (b:ws.length=n) (hc:cs.length=n) (c:fW ws=true):gG n (.ptr l 0) (.agg ws) h=some (.val .undef (h.put l (.cells e sz true false ws))):=by
 unfold gG CX jv;have hs:oC 0 cs ws=some ws:=by
  rw[ym (by omega),wB5,Qk,wX,List.drop_of_length_le (by omega),GD]
 grind[vW,V.cells,fe,rF,ZF,lL,Tv]
theorem WE{ws:List V} {n:Nat} (a:h.get l=some (.cells e sz true false cs)) (c:ws.length=n) (hc:o+n<=cs.length) (b:fW ws=true) :
  gG n (.ptr l o) (.agg ws) h=some (.val .undef (h.put l (.cells e sz true false (cs.take o++ws++cs.drop (o+n))))):=by
 unfold gG CX jv;simp only[vW,V.cells,a,fe,rF,ZF,b,ym (show o+ws.length<=cs.length by omega)]
 simp_all
theorem kr{u:V}{ro:Bool}(a:h.get l=some (.cells e sz true ro cs))(b:cs[o]? =some u):ey (.ptr l o) h=some u:=by rw[M5 a,N5,b]
theorem Bv{n:Nat} {ro:Bool} (a:h.get l=some (.cells e sz true ro cs)) (b:cs.length=n):gy n (.ptr l 0) h=some (.agg cs):=by
 rw[Bf a,BY (by omega),Xk,Xj (by omega)];rfl
end
section
variable{α:Type}{e:pG α}{b:Nat->Prop}{h:Hp}
theorem oX.drop:∀{xs:List α} {cs:List V} (n:Nat),oX e b h cs xs->n<=xs.length->oX e b h (cs.drop (n*e.sz)) (xs.drop n)
 |xs,cs,0,hw,_=>by simp_all
 |[],cs,n+1,_,hn=>by simp_all
 | x::xs,cs,n+1,⟨w,r,a,c,d⟩,hn=>by
   have:=oX.drop n d (by simpa using hn);have f:=e.len c;subst a;rw[List.drop_succ_cons,UQ,Nat.one_mul,Nat.add_comm,<-Yw,<-f,List.drop_left]
   simp_all
theorem oX.taken:∀{xs:List α} {cs:List V} (n:Nat),oX e b h cs xs->oX e b h cs (xs.take n)
 |xs,cs,0,_=>by simp only[wB5];trivial
 |[],cs,n+1,_=>by simp_all
 |x::xs,cs,n+1,⟨w,r,a,c,d⟩=>⟨w,r,a,c,oX.taken n d⟩
theorem MN(z:Nat) (k:IntKind) (n:Nat):hbound z (some (.int k n))=some n:=by
 rfl
theorem DN(z:Nat):hbound z none=some z:=rfl
theorem iA.cut{xs:List α} {v:V} (hs:iA e b h xs v) {lo hi:Option V} {m n:Nat} (i:hbound 0 lo=some m) (j:hbound xs.length hi=some n) (k:m<=n) (a:n<=xs.length) :
  ∃d,iK e.sz v lo hi h=some d/\iA e b h ((xs.take n).drop m) d:=by
 rcases hs with⟨rfl,rfl⟩|⟨l,off,ty,live,ro,cs,rfl,o,p,r,s,f⟩
 ·simp at a;subst a;obtain rfl:m=0:=by omega
  refine⟨.ee,?_,.inl ⟨rfl,by simp⟩⟩
  simp_all[iK,fe,hbound]
 ·have q:=f.length;have g:m*e.sz<=n*e.sz:=wBp _ k;have c:n*e.sz<=xs.length*e.sz:=wBp _ a;rw[wBz]at q;refine⟨.slice l (off+m*e.sz) (n-m),?_,?_⟩
  ·grind[iK,jv,fe,lL,Tv,Ro]
  ·have hlen:((xs.take n).drop m).length=n-m:=by rw[wBz,KN];omega
   refine .inr ⟨l,off+m*e.sz,ty,live,ro,cs,by rw[hlen],o,p,?_,by omega,?_⟩
   ·grind
   ·rw[<-Yw];exact(f.taken n).drop m (by simp_all)
end
section
variable{e sz a n:Nat}{h h':Hp}{cs:List V}{v:V}
theorem mJ{e sz k:Nat} {h:Hp} {cs:List V} {ro:Bool} (a:cs.length=(k+1)*sz):kG (h.new (.cells e sz true ro cs)) sz (.slice h.next 0 (k+1))=some (k+1,cs):=by
 unfold kG E2 jv;have:sub cs 0 (Nat.mul (Nat.succ k) sz)=some cs:=by
  show sub cs 0 ((k+1)*sz)=some cs;rw[BY (by omega),Xk,Xj (by omega)]
 grind[fg,fe,rF]
end
