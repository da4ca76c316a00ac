/- Parts. -/
import Derived.Test.YtcoaokdoecgcbaaGreatDoorM42
set_option maxHeartbeats 4000000
namespace Go.Proofs.YtcoaokdoecgcbaaGreatDoor.Hx
open Un Dm
structure Ms where
 mem:List Int
 heap:List Int
 pc:Nat
 steps:Nat
 polls:Nat
def rd(s:Ms)(i:Nat):Int:=s.mem.getD i 0
def Ms.on(s:Ms):Ms:={s with pc:=s.pc+1,steps:=s.steps+1}
def Ms.put(s:Ms)(i:Nat)(v:Int):Ms:={s with mem:=s.mem.set i v,pc:=s.pc+1,steps:=s.steps+1}
def Hs(x:Ni):Vl:=⟨x.op-2,x.b,x.c,x.n,[],0⟩
def iB(fk:Int)(x:Ni)(s:Ms):Ms×Option Int:=
 if x.op=1 then(s.put x.a (qQ x.n),none)
 else if x.op=2 then(s.put x.a (rd s x.b),none)
 else if x.op=3 then(s.put x.a (rd s (16+x.n.toNat)),none)
 else if x.op=4 then(s.put (16+x.n.toNat) (rd s x.a),none)
 else if x.op<=20 then(s.put x.a (rZ (Hs x) (rd s) s.heap),none)
 else if x.op=21 then({s.on with heap:=Ea s.heap (qQ (rd s x.a+qQ x.n)) (rd s x.b)},none)
 else if x.op=22 then({s.on with heap:=Ea s.heap (qQ (qQ (rd s x.a+1)+rd s x.b)) (rd s x.c)},none)
 else if x.op=23 then({s.on with pc:=x.n.toNat},none)
 else if x.op=24 then(if rd s x.a=0 then{s.on with pc:=x.n.toNat} else s.on,none)
 else if x.op=25 then(s.on,if rd s x.a=0 then some x.n else none)
 else if x.op=26 then(if 0<=fk/\(s.polls:Int)=fk then(s.on,some x.n) else({s.on with polls:=s.polls+1},none))
 else(s.on,some x.n)
inductive Go (fk:Int) (l:List Ni):Nat->Ms->Ms->Prop
 |nil (s:Ms):Go fk l 0 s s
 |cons {n:Nat} {x:Ni} {s t r:Ms} (a:l[s.pc]? =some x) (hs:iB fk x s=(t,none)) (g:Go fk l n t r):Go fk l (n+1) s r
section
variable{fk:Int}{l:List Ni}
theorem Go.trans{n m:Nat}{s t r:Ms}(h:Go fk l n s t) (h':Go fk l m t r):Go fk l (n+m) s r:=by
 induction h with
 |nil=>rw[Gg];exact h'
 |cons a hs _ b=>rw[Nat.add_right_comm];exact .cons a hs (b h')
theorem Go.one{x:Ni}{s t:Ms}(a:l[s.pc]? =some x)(hs:iB fk x s=(t,none)):Go fk l 1 s t:= .cons a hs (.nil _)
def Ez(l:List Ni)(pc:Nat)(c:List Ni):Prop:=∀i x,c[i]? =some x->l[pc+i]? =some x
theorem Ez.left{pc:Nat}{a b:List Ni}(h:Ez l pc (a++b)):Ez l pc a:=λi x hi=>h i x (by rw[VQ (j6.1 hi).1];exact hi)
theorem Ez.right{pc:Nat}{a b:List Ni}(h:Ez l pc (a++b)):Ez l (pc+a.length) b:=λi x hi=>by
 have:=h (a.length+i) x (by rw[ZQ (by omega),wBQ];exact hi);rw[VB];exact this
theorem Ez.hd{pc:Nat}{x:Ni}{b:List Ni}(h:Ez l pc (x::b)):l[pc]? =some x:=h 0 x rfl
theorem Ez.tl{pc:Nat}{x:Ni}{b:List Ni}(h:Ez l pc (x::b)):Ez l (pc+1) b:=Ez.right (a:=[x]) h
structure Sl (k:Nat) (X:Nat->Prop) (m a:Ms):Prop where
 pc:a.pc=m.pc+k
 steps:a.steps=m.steps+k
 len:a.mem.length=m.mem.length
 Vx:∀i,¬X i->rd a i=rd m i
 heap:a.heap=m.heap
 polls:a.polls=m.polls
theorem Sl.refl(X:Nat->Prop)(m:Ms):Sl 0 X m m:=⟨rfl,rfl,rfl,λ_ _=>rfl,rfl,rfl⟩
theorem Sl.trans{k j:Nat}{X Y Z:Nat->Prop} {m b a:Ms}(h:Sl k X m b) (h':Sl j Y b a)(c:∀i,X i->Z i)(d:∀i,Y i->Z i):Sl (k+j) Z m a:=
 ⟨by rw[h'.pc,h.pc,VB],by rw[h'.steps,h.steps,VB],h'.len.trans h.len,λi hi=>(h'.Vx i λe=>hi (d i e)).trans (h.Vx i λf=>hi (c i f)),h'.heap.trans h.heap,h'.polls.trans h.polls⟩
theorem HY{m:Ms}{i j:Nat}{v:Int}(hi:i<m.mem.length):rd (m.put i v) j=if j=i then v else rd m j:=HD hi
theorem Sl.put{m:Ms}{i:Nat}{v:Int}(hi:i<m.mem.length):Sl 1 (·= i) m (m.put i v):=
 ⟨rfl,rfl,YI,λj a=>by rw[HY hi,if_neg a],rfl,rfl⟩
theorem VX{m:Ms}(hl:m.mem.length=416){p:Int}(hp:kV p){sp:Nat}(hs:sp<16)(hc:Ez l m.pc (ko p sp)) :
  ∃a,Go fk l (ko p sp).length m a/\Sl (ko p sp).length (·= sp) m a/\rd a (lD p sp)=rd m p.toNat:=by
 unfold ko lD at*;split
 ·exact⟨m,.nil _,.refl _ _,rfl⟩
 ·rename_i e;rw[if_neg e]at hc;refine⟨m.put sp (rd m (16+(p-16).toNat)),.one hc.hd ?_,Sl.put (by omega),?_⟩
  ·simp[iB,Yb]
  ·rw[HY (by omega),if_pos rfl];congr 1;omega
theorem zbU{m:Ms}(hl:m.mem.length=416){p:Int}(hp:kV p){x:Ni}{v:Int}(c:∀r,iB fk {x with a:=r} m=(m.put r v,none))(hc:Ez l m.pc (Ad p x)) :
  ∃b,Go fk l (Ad p x).length m b/\Sl (Ad p x).length (λi=>i=14\/i=p.toNat) m b/\rd b p.toNat=v:=by
 unfold Ad at*;unfold kV at hp;split
 ·rename_i e;rw[if_pos e]at hc;refine⟨m.put p.toNat v,.one hc.hd (c _),?_,by rw[HY (by omega),if_pos rfl]⟩;have s:=Sl.put (m:=m) (v:=v) (i:=p.toNat) (by omega);exact⟨s.pc,s.steps,s.len,λi hi=>s.Vx i λh=>hi (.inr h),s.heap,s.polls⟩
 ·rename_i e;rw[if_neg e]at hc;have f:(m.put 14 v).mem.length=416:=by simp[Ms.put,hl]
  have s1:=Sl.put (m:=m) (v:=v) (i:=14) (by omega);have d:=Sl.put (m:=m.put 14 v) (v:=v) (i:=p.toNat) (by omega);refine⟨(m.put 14 v).put p.toNat v,.cons hc.hd (c 14) (.one hc.tl.hd ?_),s1.trans d (λ_ h=> .inl h) λ_ h=> .inr h,by rw[HY (by omega),if_pos rfl]⟩;have e1:16+(p-16).toNat=p.toNat:=by omega
  simp[iB,VD,Nat.reduceEqDiff,↓reduceIte,e1,HY (show 14<m.mem.length by omega)]
theorem zdf{m:Ms}(hl:m.mem.length=416){x:Mv}(e:kV x.1)(f:kV x.2)(g:x.1≠13/\x.2≠13)(hc:Ez l m.pc (rr x)) :
  ∃c,Go fk l (rr x).length m c/\Sl (rr x).length (λi=>i=13\/i=x.2.toNat) m c/\rd c x.2.toNat=rd m x.1.toNat:=by
 let⟨a,b⟩:=x
 unfold rr at*;unfold kV at e f;have e1:¬a<16->16+(a-16).toNat=a.toNat:=λh=>by omega
 have e2:¬b<16->16+(b-16).toNat=b.toNat:=λh=>by omega
 have put:∀x,Ez l m.pc [x]->iB fk x m=(m.put b.toNat (rd m a.toNat),none)->∃c,Go fk l 1 m c/\Sl 1 (λi=>i=13\/i=b.toNat) m c/\rd c b.toNat=rd m a.toNat:=λx j hs=>by
  have s:=Sl.put (m:=m) (v:=rd m a.toNat) (i:=b.toNat) (by omega);exact⟨_,.one j.hd hs,⟨s.pc,s.steps,s.len,λi hi=>s.Vx i λh=>hi (.inr h),s.heap,s.polls⟩,by rw[HY (by omega),if_pos rfl]⟩
 split
 ·rename_i d;rw[if_pos d]at hc;split
  ·rename_i c2;rw[if_pos c2]at hc;exact put _ hc (by simp[iB])
  ·rename_i c2;rw[if_neg c2]at hc;exact put _ hc (by simp[iB,VD,e2 c2])
 ·rename_i d;rw[if_neg d]at hc;split
  ·rename_i c2;rw[if_pos c2]at hc;exact put _ hc (by simp[iB,Yb,e1 d])
  ·rename_i c2;rw[if_neg c2]at hc;have n:(m.put 13 (rd m a.toNat)).mem.length=416:=by simp[Ms.put,hl]
   have s1:=Sl.put (m:=m) (v:=rd m a.toNat) (i:=13) (by omega);have k:=Sl.put (m:=m.put 13 (rd m a.toNat)) (v:=rd m a.toNat) (i:=b.toNat) (by omega);refine⟨(m.put 13 (rd m a.toNat)).put b.toNat (rd m a.toNat),.cons (t:=m.put 13 (rd m a.toNat)) hc.hd (by simp[iB,Yb,e1 d]) (.one (s:=m.put 13 (rd m a.toNat)) hc.tl.hd ?_),s1.trans k (λ_ h=> .inl h) λ_ h=> .inr h,by rw[HY (by omega),if_pos rfl]⟩;simp[iB,VD,Nat.reduceEqDiff,↓reduceIte,e2 c2,HY (show 13<m.mem.length by omega)]
def IH(p:Int):Prop:=(0<=p/\p<12)\/(16<=p/\p<416)
theorem IH.pos{p:Int}(h:IH p):kV p:=by unfold IH at h;unfold kV;omega
theorem IH.ne{p q:Int}(h:IH p)(k:IH q)(n:p≠q):p.toNat≠q.toNat:=by unfold IH at h k;omega
theorem IH.sc{p:Int}(h:IH p):p.toNat≠12/\p.toNat≠13/\p.toNat≠14/\p.toNat≠15:=by unfold IH at h;omega
structure Fits (u:U) (of:List Int) (L:Nat->Prop) (s:Rs) (m:Ms):Prop where
 len:m.mem.length=416
 val:∀w,w<u.ee.length->L w->nD u w->rd m (hO of w).toNat=s.of w
 heap:m.heap=s.heap
 polls:m.polls=s.polls
def RL(mem:List Int)(l:Nl):Int:=if l.kind=1 then mem.getD l.n.toNat 0 else if l.kind=2 then mem.getD (16+l.n.toNat) 0 else qQ l.n
def zaj(mem:List Int)(f:Nf):Fw:=⟨f.func,f.pc,f.locals.map (RL mem),f.stack.map (RL mem)⟩
theorem YC{mem:List Int}{p:Int}(h:IH p):RL mem (lE p)=mem.getD p.toNat 0:=by
 unfold RL lE;split
 ·rfl
 ·rename_i e;simp only[show((2:Int)=1)=False by simp,if_false,if_true];congr 1;omega
def GC(u:U)(s:Rs)(st:Nat):List Fw:=((u.ez[st]?).getD []).map λf=>⟨f.func,f.pc,f.locals.map s.of,f.stack.map s.of⟩
def kJ(fk:Int)(l:List Ni)(u:U)(of:List Int)(j:Nat)(m:Ms)(fr:List Fw)(hp:List Int)(st:Nat)(jh:Int):Prop:=∃m1 a x e X,Go fk l j m m1/\l[m1.pc]? =some x/\iB fk x m1=(a,some ((e:Nat):Int))/\(qf u of)[e]? =some X/\X.state=st/\X.val=jh/\X.iG.map (zaj a.mem)=fr/\a.heap=hp/\a.steps=m.steps+j+1
variable{u:U}{of:List Int}
theorem KB{s:Rs}{m:Ms}{st:Nat}(b:∀w,nD u w->IH (hO of w))(g:Good u)(hv:∀w∈nU u st,rd m (hO of w).toNat=s.of w)(vl:Int):(Rv u of st vl).iG.map (zaj m.mem)=GC u s st:=by
 unfold Rv GC;unfold nU at hv
 cases hfs:u.ez[st]? with
 |none=>rfl
 | some fs=>
   rw[hfs]at hv;simp only[ List.map_map];refine wBe λf c=>?_;have d:=(g.st st fs hfs).2.2 f c;have one:∀w,nD u w->w∈iG fs->(RL m.mem ∘ λv=>lE (hO of v)) w=s.of w:=λw e a=>by
     show RL m.mem (lE (hO of w))=_;rw[YC (b w e)];exact hv w a
   have mem:∀w,w∈f.locals++f.stack->w∈iG fs:=λw a=>Rb.2 ⟨f,c,a⟩;show zaj m.mem (frC of f)=_;unfold zaj frC;simp only[List.map_map];congr 1
   ·exact wBe λw a=>one w (d.2.2.1 w a) (mem w (by simp[a]))
   ·exact wBe λw a=>one w (d.2.2.2 w a) (mem w (by simp[a]))
theorem zaQ{x y:Vl} {f d:Nat->Int}{h:List Int}(e:y.op=x.op)(g:x.op≠2)(c:x.op≠17)(i:d y.a=f x.a)(j:d y.b=f x.b):rZ y d h=rZ x f h:=by
 unfold rZ;rw[e,if_neg g,if_neg g,i,j,if_neg c,if_neg c]
theorem zaV{x y:Vl} {f b:Nat->Int}{h:List Int}(e:y.op=x.op)(c:x.op=8\/x.op=9\/x.op=15\/x.op=16\/x.op=17)(d:b y.a=f x.a)(g:x.op=17->y.n=x.n):rZ y b h=rZ x f h:=by
 unfold rZ;rw[e,d];rcases c with e1|e1|e1|e1|e1 <;> simp[e1];rw[g e1]
theorem Su{p:Int}{sp q:Nat}(h:IH p)(hq:12<=q/\q<16)(hs:sp≠q):lD p sp≠q:=by unfold lD;unfold IH at h;split <;> omega
theorem Oy{m:Ms}(hl:m.mem.length=416){p:Int}(hp:IH p){r:List Ni}(hc:Ez l m.pc (ko p 12++r)) :
  ∃a,Go fk l (ko p 12).length m a/\Sl (ko p 12).length (λi=>12<=i/\i<15) m a/\rd a (lD p 12)=rd m p.toNat/\Ez l a.pc r:=by
 let⟨a,b,s1,e1⟩:=VX (fk:=fk) hl hp.pos (by omega) hc.left
 exact⟨a,b,⟨s1.pc,s1.steps,s1.len,λi hi=>s1.Vx i λh=>hi (by omega),s1.heap,s1.polls⟩,e1,by rw[s1.pc];exact hc.right⟩
theorem Tk{m:Ms}(hl:m.mem.length=416){p q:Int}(hp:IH p)(hq:IH q){r:List Ni}(hc:Ez l m.pc (ko p 12++(ko q 13++r))) :
  ∃a,Go fk l (ko p 12++ko q 13).length m a/\Sl (ko p 12++ko q 13).length (λi=>12<=i/\i<15) m a/\rd a (lD p 12)=rd m p.toNat/\rd a (lD q 13)=rd m q.toNat/\Ez l a.pc r:=by
 let⟨m1,d,s1,e1,c⟩:=Oy (fk:=fk) hl hp hc
 let⟨e,f,b,e2⟩:=VX (fk:=fk) (s1.len.trans hl) hq.pos (by omega) c.left
 rw[nB];refine⟨e,d.trans f,s1.trans b (λ_ h=>h) (λi h=>by omega),?_,?_,by rw[b.pc];exact c.right⟩
 ·rw[b.Vx _ (Su hp (by omega) (by omega)),e1]
 ·rw[e2,s1.Vx];have:=hq.sc;omega
theorem zcM{m:Ms}(hl:m.mem.length=416){p q t:Int}(hp:IH p)(hq:IH q)(c:IH t){r:List Ni}(hc:Ez l m.pc (ko p 12++(ko q 13++(ko t 14++r)))) :
  ∃a,Go fk l (ko p 12++ko q 13++ko t 14).length m a/\Sl (ko p 12++ko q 13++ko t 14).length (λi=>12<=i/\i<15) m a/\rd a (lD p 12)=rd m p.toNat/\rd a (lD q 13)=rd m q.toNat/\rd a (lD t 14)=rd m t.toNat/\Ez l a.pc r:=by
 let⟨m1,e,s1,e1,e2,d⟩:=Tk (fk:=fk) hl hp hq hc
 let⟨f,g,b,j⟩:=VX (fk:=fk) (s1.len.trans hl) c.pos (by omega) d.left
 rw[nB];refine⟨f,e.trans g,s1.trans b (λ_ h=>h) (λi h=>by omega),?_,?_,?_,by rw[b.pc];exact d.right⟩
 ·rw[b.Vx _ (Su hp (by omega) (by omega)),e1]
 ·rw[b.Vx _ (Su hq (by omega) (by omega)),e2]
 ·rw[j,s1.Vx];have:=c.sc;omega
theorem Fits.set{L a:Nat->Prop}{s:Rs} {m b:Ms}{k v:Nat}{x:Int}{X:Nat->Prop}(F:Fits u of L s m)(S:Sl k X m b)(f:∀w,nD u w->IH (hO of w))(g:∀w,nD u w->w<u.ee.length->a w->w≠v->¬X (hO of w).toNat)
  (hv:v<s.val.length) (h:rd b (hO of v).toNat=x) (i:∀w,a w->w≠v->L w):Fits u of a {s with val:=s.val.set v x,steps:=s.steps+1} b:=by
 refine⟨S.len.trans F.len,λw c hl d=>?_,S.heap.trans F.heap,S.polls.trans F.polls⟩;show _=(s.val.set v x).getD w 0;rw[HD hv];by_cases e:w=v
 ·rw[if_pos e,e];exact h
 ·rw[if_neg e,S.Vx _ (g w d c hl e)];exact F.val w c (i w hl e) d
theorem Fits.none{L c:Nat->Prop}{s:Rs} {m d:Ms}{k:Nat}(F:Fits u of L s m)(S:Sl k (λi=>12<=i/\i<15) m d)(a:∀w,nD u w->IH (hO of w))(e:∀w,nD u w->c w->L w):Fits u of c s d:=
 ⟨S.len.trans F.len,λw f hl b=>by
  rw[S.Vx _ (by have:=(a w b).sc;omega)];exact F.val w f (e w b hl) b,S.heap.trans F.heap,S.polls.trans F.polls⟩
theorem Q0{y:Ni}{m:Ms}(h:5<=y.op/\y.op<=20):iB fk y m=(m.put y.a (rZ (Hs y) (rd m) m.heap),none):=by
 unfold iB;rw[if_neg (by omega),if_neg (by omega),if_neg (by omega),if_neg (by omega),if_pos (by omega)]
theorem Ug(p:Int)(x:Ni):(Ad p x).length<=2:=by unfold Ad;split <;> simp
theorem ux(p:Int)(sp:Nat):(ko p sp).length<=1:=by unfold ko;split <;> simp
theorem zeQ(g:Good u){v:Nat}{x:Vl}(K:u.ee[v]? =some x)(hh:gD u v=false)(C:∀w,nD u w->IH (hO of w)) {L T:Nat->Prop}(hL:∀w,(T w/\w≠v)\/w∈Bm u v->L w)
  (ac:∀w,w<u.ee.length->T w->w≠v->hO of w≠hO of v) {s:Rs} {m:Ms} (F:Fits u of L s m) (V:s.val.length=u.ee.length) {kx:Nat} {r:List Ni} (hc:Ez l m.pc (px of v x kx++r)) (U:leaves x.op=true->(qf u of)[kx]? =some (Rv u of x.state v)) :
  (∃s1 d,uD u fk v x s = .inr s1/\s1.val.length=u.ee.length/\Go fk l (px of v x kx).length m d/\Fits u of T s1 d/\d.steps=m.steps+(px of v x kx).length/\(px of v x kx).length<=4/\Ez l d.pc r/\s1.steps=s.steps+1)\/
  ∃j,uD u fk v x s = .inl (zt u {s with steps:=s.steps+1} x.state v)/\j<=1/\kJ fk l u of j m (GC u s x.state) s.heap x.state v:=by
 have ak:=(j6.1 K).1;have al:=g.op v x K;have H:¬(x.op=1\/x.op=21):=by
  unfold gD at hh;rw[K]at hh;simpa[iX]using hh
 have use:=g.use v x K;have tk:=λw o=>hL w (.inr (by unfold Bm;rw[K];exact Xy _ o));have O:=λw o=>F.val w (iC (use w o)) (tk w o) (use w o);have pw:=λw o=>C w (use w o);have ng:¬FP x.op=true->∀w,nD u w->w≠v:=λhn w ⟨y,hy,E⟩ e=>by
  subst e;rw[K]at hy;cases hy;exact hn E
 have lv:leaves x.op=true->∀w∈nU u x.state,rd m (hO of w).toNat=s.of w:=λhl w o=>by
  have E:nD u w:=by
   unfold nU at o;split at o
   ·rename_i fs Q
    let⟨f,W,o⟩:=Rb.1 o
    have M:=(g.st _ fs Q).2.2 f W;rcases vU.1 o with h|h
    ·exact M.2.2.1 w h
    ·exact M.2.2.2 w h
   ·cases o
  exact F.val w (iC E) (hL w (.inr (by unfold Bm;rw[K];simp[hl,o]))) E
 have X:∀{d:Ms} {c:List Ni},FP x.op=true->c.length<=4->¬(x.op=19\/x.op=20\/x.op=22\/x.op=23)->Go fk l c.length m d->Sl c.length (λi=>(12<=i/\i<15)\/i=(hO of v).toNat) m d->rd d (hO of v).toNat=rZ x s.of s.heap->Ez l d.pc r->
   ∃s1 d,uD u fk v x s = .inr s1/\s1.val.length=u.ee.length/\Go fk l c.length m d/\Fits u of T s1 d/\d.steps=m.steps+c.length/\c.length<=4/\Ez l d.pc r/\s1.steps=s.steps+1:=λ{d c} E ad hn G S Y hs=>by
  refine⟨{s with val:=s.val.set v (rZ x s.of s.heap),steps:=s.steps+1},d,?_,by simp[V],G,F.set S C (λw o hl M h2=>?_) (by omega) Y λw M h2=>hL w (.inl ⟨M,h2⟩),S.steps,ad,hs,rfl⟩
  ·unfold uD;rw[if_neg (by omega),if_neg (by omega),if_neg (by omega),if_neg (by omega)]
  ·have p1:=C w o;have p2:=C v ⟨x,K,E⟩;have:=p1.sc;have:=p1.ne p2 (ac w hl M h2);omega
 by_cases e2:x.op=2
 ·have e:px of v x kx=Ad (hO of v) ⟨1,0,0,0,x.n⟩:=by unfold px;rw[if_neg H,if_pos e2]
  have E:FP x.op=true:=by rw[e2];rfl
  rw[e]at hc⊢
  let⟨d,G,S,Y⟩:=zbU (fk:=fk) (v:=qQ x.n) F.len (C v ⟨x,K,E⟩).pos (λr=>by simp[iB]) hc.left
  refine .inl (X E (by have:=Ug (hO of v) ⟨1,0,0,0,x.n⟩;omega) (by omega) G ⟨S.pc,S.steps,S.len,λi hi=>S.Vx i λh=>hi (by omega),S.heap,S.polls⟩ (Y.trans ?_) (by rw[S.pc];exact hc.right));unfold rZ;rw[if_pos e2]
 have P:∀{m1 d:Ms} {c:List Ni} {s1:Rs} {k:Nat},¬FP x.op=true->c.length=k+1->k+1<=4->uD u fk v x s = .inr s1->s1.val=s.val->s1.steps=s.steps+1->Go fk l k m m1->Sl k (λi=>12<=i/\i<15) m m1->Go fk l 1 m1 d->d.mem=m1.mem->d.pc=m1.pc+1->d.steps=m1.steps+1->d.heap=s1.heap->d.polls=s1.polls->Ez l (m1.pc+1) r->
   ∃s1 d,uD u fk v x s = .inr s1/\s1.val.length=u.ee.length/\Go fk l c.length m d/\Fits u of T s1 d/\d.steps=m.steps+c.length/\c.length<=4/\Ez l d.pc r/\s1.steps=s.steps+1:=λ{m1 d c s1 k} E ae h4 ho hv A G S G1 hm hp ag ah ai hs=>by
  rw[ae];refine⟨s1,d,ho,by rw[hv,V],G.trans G1,⟨by rw[hm];exact S.len.trans F.len,λw o aj R=>?_,ah,ai⟩,by rw[ag,S.steps];omega,h4,by rw[hp];exact hs,A⟩;have M:rd d (hO of w).toNat=rd m1 (hO of w).toNat:=by unfold rd;rw[hm]
  rw[M,S.Vx _ (by have:=(C w R).sc;omega)];show _=s1.val.getD w 0;rw[hv];exact F.val w o (hL w (.inl ⟨aj,ng E w R⟩)) R
 by_cases p:x.op=19
 ·have B:jq x=[x.a,x.b]:=by unfold jq two;simp[p]
  have e:px of v x kx=ko (hO of x.a) 12++ko (hO of x.b) 13++[⟨21,lD (hO of x.a) 12,lD (hO of x.b) 13,0,x.n⟩]:=by unfold px;rw[if_neg H,if_neg e2,if_pos p]
  rw[e]at hc⊢;rw[Bo,Bo]at hc
  let⟨m1,G,S,r1,r2,J⟩:=Tk (fk:=fk) F.len (pw x.a (by simp[B])) (pw x.b (by simp[B])) hc
  have Z:=ux (hO of x.a) 12;have l2:=ux (hO of x.b) 13;rw[O x.a (by simp[B])]at r1;rw[O x.b (by simp[B])]at r2;refine .inl (P (by rw[p];decide) (by simp;omega) (by simp;omega) (s1:={s with heap:=Ea s.heap (qQ (s.of x.a+qQ x.n)) (s.of x.b),steps:=s.steps+1}) (by unfold uD;rw[if_pos p]) rfl rfl G S (.one J.left.hd (t:={m1.on with heap:=Ea m1.heap (qQ (rd m1 (lD (hO of x.a) 12)+qQ x.n)) (rd m1 (lD (hO of x.b) 13))}) (by simp[iB])) rfl rfl rfl ?_ (S.polls.trans F.polls) J.right);simp[r1,r2,S.heap,F.heap]
 by_cases q:x.op=20
 ·have hl:=g.putAt v x K q;have B:jq x=[x.a,x.b,x.args.getD 0 0]:=by
   unfold jq;rw[if_neg (by omega),if_pos q]
   match h:x.args,hl with
   |[w],_=>rfl
  have e:px of v x kx=ko (hO of x.a) 12++ko (hO of x.b) 13++ko (hO of (x.args.getD 0 0)) 14++[⟨22,lD (hO of x.a) 12,lD (hO of x.b) 13,lD (hO of (x.args.getD 0 0)) 14,0⟩]:=by unfold px;rw[if_neg H,if_neg e2,if_neg p,if_pos q]
  have W:uD u fk v x s = .inr {s with heap:=Ea s.heap (qQ (qQ (s.of x.a+1)+s.of x.b)) (s.of (x.args.getD 0 0)),steps:=s.steps+1}:=by unfold uD;rw[if_neg p,if_pos q]
  generalize x.args.getD 0 0=z at*;rw[e]at hc⊢;rw[Bo,Bo,Bo]at hc
  let⟨m1,G,S,r1,r2,r3,J⟩:=zcM (fk:=fk) F.len (pw x.a (by simp[B])) (pw x.b (by simp[B])) (pw z (by simp[B])) hc
  have Z:=ux (hO of x.a) 12;have l2:=ux (hO of x.b) 13;have l3:=ux (hO of z) 14;rw[O x.a (by simp[B])]at r1;rw[O x.b (by simp[B])]at r2;rw[O z (by simp[B])]at r3;refine .inl (P (by rw[q];decide) (by simp;omega) (by simp;omega) W rfl rfl G S (.one J.left.hd (t:={m1.on with heap:=Ea m1.heap (qQ (qQ (rd m1 (lD (hO of x.a) 12)+1)+rd m1 (lD (hO of x.b) 13))) (rd m1 (lD (hO of z) 14))}) (by simp[iB])) rfl rfl rfl ?_ (S.polls.trans F.polls) J.right);simp[r1,r2,r3,S.heap,F.heap]
 by_cases D:x.op=22
 ·have B:jq x=[x.a]:=by unfold jq two tZ;simp[D]
  have e:px of v x kx=ko (hO of x.a) 12++[⟨25,lD (hO of x.a) 12,0,0,kx⟩]:=by unfold px;rw[if_neg H,if_neg e2,if_neg p,if_neg q,if_pos D]
  have N:leaves x.op=true:=by rw[D];rfl
  have U:=U N;have lv:=lv N;rw[e]at hc⊢;rw[Bo]at hc
  let⟨m1,G,S,r1,J⟩:=Oy (fk:=fk) F.len (pw x.a (by simp[B])) hc
  have Z:=ux (hO of x.a) 12;rw[O x.a (by simp[B])]at r1;have A:iB fk ⟨25,lD (hO of x.a) 12,0,0,kx⟩ m1=(m1.on,if s.of x.a=0 then some (kx:Int) else none):=by simp[iB,r1]
  by_cases h0:s.of x.a=0
  ·right;rw[if_pos h0]at A;refine⟨_,by unfold uD;rw[if_neg p,if_neg q,if_pos D,if_pos h0],Z,m1,m1.on,_,kx,_,G,J.left.hd,A,U,rfl,rfl,?_,S.heap.trans F.heap,by show m1.steps+1=_;rw[S.steps]⟩;refine KB (m:=m1.on) C g (λw o=>?_) _;have E:nD u w:=by
    unfold nU at o;split at o
    ·rename_i fs Q
     let⟨f,W,o⟩:=Rb.1 o
     have M:=(g.st _ fs Q).2.2 f W;rcases vU.1 o with h|h
     ·exact M.2.2.1 w h
     ·exact M.2.2.2 w h
    ·cases o
   show rd m1 _=_;rw[S.Vx _ (by have:=(C w E).sc;omega)];exact lv w o
  ·left;rw[if_neg h0]at A;exact P (by rw[D];decide) (by simp) (by simp;omega) (s1:={s with steps:=s.steps+1}) (by unfold uD;rw[if_neg p,if_neg q,if_pos D,if_neg h0]) rfl rfl G S (.one J.left.hd A) rfl rfl rfl (S.heap.trans F.heap) (S.polls.trans F.polls) J.right
 by_cases I:x.op=23
 ·have e:px of v x kx=[⟨26,0,0,0,kx⟩]:=by unfold px;rw[if_neg H,if_neg e2,if_neg p,if_neg q,if_neg D,if_pos I]
  have N:leaves x.op=true:=by rw[I];rfl
  have U:=U N;have lv:=lv N;rw[e]at hc⊢;have A:iB fk ⟨26,0,0,0,kx⟩ m=if 0<=fk/\(m.polls:Int)=fk then(m.on,some (kx:Int)) else({m.on with polls:=m.polls+1},none):=by simp[iB]
  rw[F.polls]at A;by_cases h0:0<=fk/\(s.polls:Int)=fk
  ·right;rw[if_pos h0]at A;refine⟨0,by unfold uD;rw[if_neg p,if_neg q,if_neg (by omega),if_pos I,if_pos h0],by omega,m,m.on,_,kx,_,.nil _,hc.left.hd,A,U,rfl,rfl,?_,F.heap,rfl⟩;exact KB (m:=m.on) C g (λw o=>lv w o) _
  ·left;rw[if_neg h0]at A;exact P (k:=0) (by rw[I];decide) rfl (by omega) (s1:={s with steps:=s.steps+1,polls:=s.polls+1}) (by unfold uD;rw[if_neg p,if_neg q,if_neg (by omega),if_pos I,if_neg h0]) rfl rfl (.nil _) (.refl _ _) (.one hc.left.hd A) rfl rfl rfl F.heap rfl hc.right
 have E:FP x.op=true:=by
  unfold FP;simp[Jz,xX,Gi];omega
 have pv:=C v ⟨x,K,E⟩
 have aa:∀{m1:Ms} {k:Nat} {c:List Ni} {y:Ni},k<=2->5<=y.op/\y.op<=20->Go fk l k m m1->Sl k (λi=>12<=i/\i<15) m m1->Ez l m1.pc (Ad (hO of v) y++r)->rZ (Hs y) (rd m1) m1.heap=rZ x s.of s.heap->c.length=k+(Ad (hO of v) y).length->
   ∃s1 d,uD u fk v x s = .inr s1/\s1.val.length=u.ee.length/\Go fk l c.length m d/\Fits u of T s1 d/\d.steps=m.steps+c.length/\c.length<=4/\Ez l d.pc r/\s1.steps=s.steps+1:=λ{m1 k c y} hk hy G S hs hv ab=>by
  let⟨d,G',S',Y⟩:=zbU (fk:=fk) (v:=rZ x s.of s.heap) (S.len.trans F.len) pv.pos (λr=>(Q0 (y:={y with a:=r}) hy).trans (by rw[<-hv];rfl)) hs.left
  have:=Ug (hO of v) y;refine X E (by omega) (by omega) (by rw[ab];exact G.trans G') (by rw[ab];exact S.trans S' (λ_ h=> .inl h) λi h=>by omega) Y (by rw[S'.pc];exact hs.right)
 by_cases e1:x.op=8\/x.op=9\/x.op=15\/x.op=16\/x.op=17
 ·have B:jq x=[x.a]:=by unfold jq two tZ;rcases e1 with e|e|e|e|e <;> simp[e]
  have e:px of v x kx=ko (hO of x.a) 12++Ad (hO of v) ⟨x.op+2,0,lD (hO of x.a) 12,0,if x.op=17 then x.n else 0⟩:=by unfold px;rw[if_neg H,if_neg e2,if_neg p,if_neg q,if_neg D,if_neg I,if_pos e1]
  rw[e]at hc⊢;rw[Bo]at hc
  let⟨m1,G,S,r1,J⟩:=Oy (fk:=fk) F.len (pw x.a (by simp[B])) hc
  have Z:=ux (hO of x.a) 12;rw[O x.a (by simp[B])]at r1;refine .inl (aa (by omega) (by simp only;omega) G S J ?_ (by simp));rw[S.heap,F.heap];exact zaV (by simp[Hs]) e1 r1 λe=>by simp[Hs,e]
 have ht:two x.op=true:=by
  unfold two;simp[Jz,xB,xX,Gi];omega
 have B:jq x=[x.a,x.b]:=by unfold jq;rw[if_neg (by omega),if_neg (by omega),if_pos ht]
 have e:px of v x kx=ko (hO of x.a) 12++ko (hO of x.b) 13++Ad (hO of v) ⟨x.op+2,0,lD (hO of x.a) 12,lD (hO of x.b) 13,0⟩:=by unfold px;rw[if_neg H,if_neg e2,if_neg p,if_neg q,if_neg D,if_neg I,if_neg e1]
 rw[e]at hc⊢;rw[Bo,Bo]at hc
 let⟨m1,G,S,r1,r2,J⟩:=Tk (fk:=fk) F.len (pw x.a (by simp[B])) (pw x.b (by simp[B])) hc
 have Z:=ux (hO of x.a) 12;have l2:=ux (hO of x.b) 13;rw[O x.a (by simp[B])]at r1;rw[O x.b (by simp[B])]at r2;refine .inl (aa (by rw[nB];omega) (by simp only;omega) G S J ?_ (by simp;omega));rw[S.heap,F.heap];exact zaQ (by simp[Hs]) e2 (by omega) r1 r2
theorem Xh(g:Good u)(f:∀w,nD u w->IH (hO of w)){P:Nat->Prop}{fuel:Nat}:∀{r:List Nat}{s:Rs}{m:Ms}{kx:Nat}{c:List Ni},(∀v∈r,gD u v=false)->
  (∀a v b,r=a++v::b->∀w,w<u.ee.length->bh u b P w->w≠v->hO of w≠hO of v)->(∀a v (b:List Nat) x,r=a++v::b->u.ee[v]? =some x->leaves x.op=true->(qf u of)[kx+(ju u of a).length]? =some (Rv u of x.state v))->
  Fits u of (bh u r P) s m->s.val.length=u.ee.length->Ez l m.pc (jQ u of r kx++c)->
  match p9 u fk fuel r s with
  | .inr s'=>s'.val.length=u.ee.length/\s.steps<=s'.steps/\∃n d,Go fk l n m d/\Fits u of P s' d/\n+4*s.steps<=4*s'.steps/\d.steps=m.steps+n/\Ez l d.pc c
  | .inl (.left k fr hp st jh)=>∃j,kJ fk l u of j m fr hp st jh/\j+4*s.steps<=4*k
  | .inl _=>True
 |[],s,m,kx,c,_,_,_,F,hv,hc=>⟨hv,jj _,0,m,.nil _,F,by omega,rfl,hc⟩
 | v ::r,s,m,kx,c,hr,hap,hX,F,hv,hc=>by
   unfold p9;by_cases hf:fuel<=s.steps
   ·rw[if_pos hf];trivial
   rw[if_neg hf]
   cases hx:u.ee[v]? with
   |none=>trivial
   | some x =>
     simp only;have q:=hr v (by simp);have e1:jQ u of (v::r) kx=px of v x kx++jQ u of r (kx+(Bv u of v x).length):=by
       show zQ u of v kx++jQ u of r (kx+(rJ u of v).length)=_;unfold zQ rJ;rw[hx]
     rw[e1,Bo]at hc;have h:=hX [] v r x rfl hx;rcases zeQ g hx q f (λw i=>by
        show if gD u v=true then _ else _
        rw[if_neg (by rw[q];simp)];exact i) (hap [] v r rfl) F hv hc (by simpa[ju]using h)with⟨s1,m1,ho,hv1,G,t,hs,Q,hc1,hst⟩|⟨j,ho,z,L⟩
     ·rw[ho]
      simp only
      have A:=Xh (fuel:=fuel) g f (λw i=>hr w (by simp[i])) (λa w b e=>hap (v::a) w b (by rw[e];rfl))
        (fun a w b y e B hl=>by
          have:=hX (v::a) w b y (by rw[e];rfl) B hl;have e2:(ju u of (v::a)).length=(Bv u of v x).length+(ju u of a).length:=by
            show(rJ u of v++ju u of a).length=_;unfold rJ;rw[hx,nB]
          rw[e2,<-VB]at this;exact this) t hv1 hc1
      revert A
      cases hq:p9 u fk fuel r s1 with
      | inr s'=>
        rintro⟨C,R,n,d,G',F',S,D,o⟩
        exact⟨C,by omega,_,d,G.trans G',F',by omega,by omega,o⟩
      | inl e=>
        cases e with
        | left k fr hp st jh=>
          rintro⟨j,⟨p,E,y,e,X,G',H,I,J,K,M,N,O,T⟩,z⟩
          exact⟨_,⟨p,E,y,e,X,G.trans G',H,I,J,K,M,N,O,by omega⟩,by omega⟩
        |z9=>exact λ_=>trivial
        |stuck=>exact λ_=>trivial
     ·rw[ho]
      simp only;show ∃j,kJ fk l u of j m (GC u s x.state) s.heap x.state v/\_;exact⟨j,L,by show j+4*s.steps<=4*(s.steps+1);omega⟩
end
section
variable{fk:Int}{l:List Ni}{u:U}{of:List Int}
def Dp(p:Int):Prop:=kV p/\p≠13
theorem TS:∀{out:List Mv} {σ a:Int->Int},(∀x∈out,Dp x.1/\Dp x.2)->(∀p,Dp p->σ p=a p)->∀p,Dp p->xA out σ p=xA out a p
 |[],_,_,_,h,p,hp=>h p hp
 | x::out,σ,a,ho,h,p,hp=>by
   show xA out (Un.JU σ x.2 (σ x.1)) p=xA out (Un.JU a x.2 (a x.1)) p;refine TS (λy b=>ho y (by simp[b])) (λq hq=>?_) p hp;unfold Un.JU;split
   ·exact h _ (ho x (by simp)).1
   ·exact h q hq
theorem UT:∀{out:List Mv}{m:Ms}{r:List Ni},m.mem.length=416->(∀x∈out,Dp x.1/\Dp x.2)->Ez l m.pc (out.flatMap rr++r)->
  ∃a,Go fk l (out.flatMap rr).length m a/\a.mem.length=416/\a.steps=m.steps+(out.flatMap rr).length/\a.heap=m.heap/\a.polls=m.polls/\Ez l a.pc r/\∀p,Dp p->rd a p.toNat=xA out (λq=>rd m q.toNat) p
 |[],m,r,hl,_,hc=>⟨m,.nil _,hl,rfl,rfl,rfl,hc,λ_ _=>rfl⟩
 | x ::out,m,r,hl,ho,hc=>by
   let⟨d1,d2⟩:=ho x (by simp)
   rw[Ob,Bo]at hc
   let⟨m1,G,S,e⟩:=zdf (fk:=fk) hl d1.1 d2.1 ⟨d1.2,d2.2⟩ hc.left
   let⟨a,G',c,d,f,g,i,j⟩:=UT (out:=out) (r:=r) (S.len.trans hl) (λy b=>ho y (by simp[b])) (by rw[S.pc];exact hc.right)
   rw[Ob,nB];refine⟨a,G.trans G',c,by rw[d,S.steps];omega,f.trans S.heap,g.trans S.polls,i,λp hp=>(j p hp).trans ?_⟩;refine TS (λy b=>ho y (by simp[b])) (λq hq=>?_) p hp;show rd m1 q.toNat=if q=x.2 then rd m x.1.toNat else rd m q.toNat
   split
   ·rename_i h;rw[h,e]
   ·rename_i h
    refine S.Vx _ ?_;have k:=hq.1;have n:=d2.1;have o:=hq.2;unfold kV at k n;omega
theorem Rl:∀{out:List Mv},(∀x∈out,Dp x.1/\Dp x.2)->(out.flatMap rr).length=cost out
 |[],_=>rfl
 | x::out,h=>by
   let⟨d1,d2⟩:=h x (by simp)
   rw[Ob,nB,Rl λy a=>h y (by simp[a]),(Uv (u:=⟨0,0,[],[],[]⟩) (nb:=0) (ne:=0) d1.1 d2.1).2];rfl
theorem qa(u:U)(l:List Nat):l.takeWhile (gM u)++l.dropWhile (gM u)=l:=wBf
theorem Il{u:U}{l:List Nat}{v:Nat}(h:v∈l.takeWhile (gM u)):gD u v=true:=Rh.1 List.all_takeWhile v h
variable{In Out:Nat->Nat->Prop}
theorem Uq(g:Good u)(A:mK u (iy u) In Out){t w:Nat}{B:Bk}(a:u.blocks[t]? =some B)(b:bh u (B.ee.dropWhile (gM u)) (Out t) w):In t w:=by
 have hv:iM u t=B.ee:=by unfold iM;rw[a]
 refine(A.Iq t w (j6.1 a).1).2 ?_;refine(zbK (d:=[]) rfl (g.pw t)).2 ?_;have e:=(KM (l:=B.ee.takeWhile (gM u)) λv h=>Il h).2 b;rw[qa]at e;rw[GA,hv];exact e
theorem Xu{t w j:Nat}{B:Bk}(b:u.blocks[t]? =some B)(c:∀v∈B.ee.dropWhile (gM u),gD u v=false)(d:At u w t j)(e:gD u w=true):w∈B.ee.takeWhile (gM u):=by
 have hv:iM u t=B.ee:=by unfold iM;rw[b]
 have a:w∈B.ee:=by rw[<-hv];exact Iz.2 ⟨j,d⟩
 rw[<-qa u B.ee]at a;rcases vU.1 a with h|h
 ·exact h
 ·have:=c w h;rw[e]at this;cases this
theorem VR(g:Good u)(A:mK u (iy u) In Out){p t w:Nat}{B:Bk}(a:u.blocks[t]? =some B)(hp:t∈next u p)(d:∀v∈B.ee.dropWhile (gM u),gD u v=false)(f:bh u (B.ee.dropWhile (gM u)) (Out t) w)(h:w ∉ B.ee.takeWhile (gM u)):Out p w:=by
 have hi:=Uq g A a f
 let⟨c,j,b,k,i⟩:=g.Xx A hi
 refine g.zfU A hp hi b (.inl λe=>?_);subst e;exact h (Xu a d b (i rfl))
end
section
variable{fk:Int}{l:List Ni}{u:U}{of:List Int}{In Out:Nat->Nat->Prop}{fG:Int}
theorem Pb(g:Good u)(a:lI u Out of fG):∀w,nD u w->IH (hO of w):=λw b=>by
 have h:=(DT a (iC b)).2;have:=a.s1;unfold NQ at h;unfold IH;omega
theorem LZ(a:lI u Out of fG){v w:Nat}(hv:v<u.ee.length)(b:w<u.ee.length)(h:of[w]?≠of[v]?):hO of w≠hO of v:=λe=>h (by rw[(DT a b).1,(DT a hv).1,e])
theorem PN{p:Nat}:∀{l:List Nat},p∈l->l.findIdx? (·== p)=some (j9 p l)/\l[j9 p l]? =some p
 | [q],h=>by
   obtain rfl:p=q:=by simpa using h
   exact⟨by simp[j9],rfl⟩
 | q ::r::l,h=>by
   unfold j9;by_cases e:q=p
   ·rw[if_pos e];exact⟨by simp[List.findIdx?_cons,e],by simp[e]⟩
   ·rw[if_neg e]
    have a:=PN (by
      rcases yt.1 h with h|h
      ·exact absurd h.symm e
      ·exact h)
    exact⟨by rw[List.findIdx?_cons,if_neg (by simpa using e),a.1];rfl,by rw[List.getElem?_cons_succ];exact a.2⟩
theorem MV{p t:Nat}{B:Bk}(g:Good u)(a:u.blocks[t]? =some B):mZ u of p t=(B.ee.takeWhile (gM u)).flatMap (oL u of (j9 p B.fj)):=by
 unfold mZ;rw[a];simp only
 conv=>lhs;rw[<-qa u B.ee]
 rw [WQ];have:(B.ee.dropWhile (gM u)).flatMap (oL u of (j9 p B.fj))=[]:=by
  rw[List.flatMap_eq_nil_iff];intro v hv;have h:gD u v=false:=AP g a v hv;unfold oL;split
  ·rename_i x b;unfold gD at h;rw[b]at h;rw[if_neg];intro e;simp[iX,e]at h
  ·rfl
 rw[this,GA]
theorem QV(j:Nat):∀l:List Nat,(l.flatMap (oL u of j)).length<=l.length
 |[]=>L9 _
 | v ::l=>by
   have a:=QV j l;have:(oL u of j v).length<=1:=by
     unfold oL;split
     ·split <;> simp
     ·simp
   rw[Ob,nB,MZ];omega
theorem zby(g:Good u)(A:mK u (iy u) In Out)(Q:lI u Out of fG){p t:Nat}{B:Bk}(b:u.blocks[t]? =some B)(H:t∈next u p){c:List Ni}(hc:UM u of p t c){s:Rs}{m:Ms}(F:Fits u of (Out p) s m)(hv:s.val.length=u.ee.length){locals:List Int}{r:List Ni}(hs:Ez l m.pc (c++r)) :
  ∃K,Go fk l c.length m K/\Fits u of (bh u (B.ee.dropWhile (gM u)) (Out t)) (lW u locals (some p) B s) K/\K.steps=m.steps+c.length/\c.length<=2*(B.ee.takeWhile (gM u)).length/\Ez l K.pc r:=by
 obtain⟨out,R,rfl⟩:=hc
 let⟨hpl',htl,ht0⟩:=g.Kk H
 have S:p∈B.fj:=by rw[g.fj t B b];exact mU.2 H
 let⟨w1,w2⟩:=PN S
 have ab:=(j6.1 w2).1;have C:=Pb g Q;have T:iM u t=B.ee:=by unfold iM;rw[b]
 have U:∀x∈mZ u of p t,∃v y a k,At u v t k/\v∈B.ee.takeWhile (gM u)/\u.ee[v]? =some y/\y.op=21/\y.args[j9 p B.fj]? =some a/\x=(hO of a,hO of v)/\nD u a/\nD u v:=λx n=>by
  rw[MV g b]at n
  let⟨v,hv,o⟩:=Rb.1 n
  unfold oL at o;split at o
  ·rename_i y f;split at o
   ·rename_i e;have I:=List.takeWhile_sublist _|>.subset hv
    let⟨k,hk⟩:=mG.1 I
    have⟨_,hl⟩:=g.VG v t k y B ⟨B,b,hk⟩ f e b;have j:y.args[j9 p B.fj]? =some (y.args.getD (j9 p B.fj) 0):=by rw[Dz,hN (by omega)];rfl
    refine⟨v,y,_,k,⟨B,b,hk⟩,hv,f,e,j,Et.1 o,g.use v y f _ ?_,⟨y,f,by rw[e];rfl⟩⟩;unfold jq;rw[if_pos e];exact Ap j
   ·cases o
  ·cases o
 have P:∀q,IH q->Dp q:=λq h=>⟨h.pos,by unfold IH at h;omega⟩
 have M:Dp 15:=⟨.inl (by omega),by omega⟩
 have df:∀q∈qM (mZ u of p t),IH q:=λq hq=>by
  obtain⟨x,n,rfl⟩:=pM.1 hq;obtain⟨v,y,a,k,_,_,_,_,_,rfl,ga,_⟩:=U x n;exact C a ga
 have dt:∀q∈kr (mZ u of p t),IH q:=λq hq=>by
  obtain⟨x,n,rfl⟩:=iz.1 hq;obtain⟨v,y,a,k,_,_,_,_,_,rfl,_,V⟩:=U x n;exact C v V
 have hd:∀x∈out,Dp x.1/\Dp x.2:=λx n=>by
  let⟨h1,h2⟩:=R.Iq x n
  refine⟨?_,?_⟩
  ·rcases h1 with h|h|h
   ·rw[h];exact M
   ·exact P _ (df _ h)
   ·exact P _ (dt _ h)
  ·rcases h2 with h|h
   ·rw[h];exact M
   ·exact P _ (dt _ h)
 let⟨K,G,a1,a2,a3,a4,a5,a6⟩:=UT (fk:=fk) F.len hd hs
 have hlen:(mZ u of p t).length<=(B.ee.takeWhile (gM u)).length:=by rw[MV g b];exact QV _ _
 refine⟨K,G,⟨a1,λw N hl W=>?_,a3.trans F.heap,a4.trans F.polls⟩,a2,by rw[Rl hd];have:=R.cost;omega,a5⟩
 have X:(lW u locals (some p) B s).of w=if w∈B.ee.takeWhile (gM u) then KG u locals (some p) B s.of w else s.of w:=
  J5 (B.ee.takeWhile (gM u)) s.val λv I=>by
   let⟨k,hk⟩:=mG.1 ((List.takeWhile_sublist _).subset I)
   rw[hv];exact g.uz v t k ⟨B,b,hk⟩
 rw[X,a6 _ (P _ (C w W))]
 let⟨sm1,sm2⟩:=R.ZT Int λq=>rd m q.toNat
 split
 ·rename_i L;have J:=Il L
  let⟨k,hk⟩:=mG.1 ((List.takeWhile_sublist _).subset L)
  have d:At u w t k:=⟨B,b,hk⟩
  let⟨y,f,e⟩:=g.A5 d
  rw [e]at J;have D:y.op=21:=by
   simp[iX,Jz,Gi]at J;rcases J with h|h
   ·exact absurd (g.par w t k y d f h) ht0
   ·exact h
  have⟨_,hl⟩:=g.VG w t k y B d f D b;have j:y.args[j9 p B.fj]? =some (y.args.getD (j9 p B.fj) 0):=by rw[Dz,hN (by omega)];rfl
  have o:(hO of (y.args.getD (j9 p B.fj) 0),hO of w)∈mZ u of p t:=by
   rw[MV g b];refine Rb.2 ⟨w,L,?_⟩;unfold oL;rw[f];simp only;rw[if_pos D];simp
  have Y:y.args.getD (j9 p B.fj) 0∈jq y:=by
   unfold jq;rw[if_pos D];exact Ap j
  have E:=g.use w y f _ Y;have N:KG u locals (some p) B s.of w=s.of (y.args.getD (j9 p B.fj) 0):=by
   unfold KG;rw[f];simp only;rw[if_neg (by omega),w1]
  rw[N,sm1 _ o];exact F.val _ (iC E) (g.zeL A d f D b w2 j) E
 ·rename_i L;have Z:=VR g A b H (AP g b) hl L;rw[sm2 _ (by have:=C w W;unfold IH at this;omega)]
  ·exact F.val w N Z W
  ·intro o
   let⟨x,n,ex⟩:=iz.1 o
   obtain⟨v,y,a,k,_,O,f,_,_,rfl,_,V⟩:=U x n
   let⟨i,hi⟩:=mG.1 O
   have aa:=(j6.1 hi).1;have d:At u v t i:=⟨B,b,by rw[<-qa u B.ee,VQ aa];exact hi⟩
   refine LZ Q (iC V) N ((Q.pa t i).ap v d w N ?_ λe=>L (by rw[e];exact O)) ex.symm;rw[T,<-qa u B.ee,List.drop_append_of_le_length (by omega)];refine(KM λz hz=>Il ((List.drop_sublist _ _).subset hz)).2 ?_;exact hl
theorem zcK(a c d:List Ni):Ez (a++c++d) a.length c:=λi x hi=>by
 have:=(j6.1 hi).1;rw[Bo,ZQ (by omega),wBQ,VQ this];exact hi
theorem Q9{cs:List (List Ni)}{b:Nat}{c:List Ni}(h:cs[b]? =some c)(f:Ni->Ni):Ez (cs.flatten.map f) (cs.take b).flatten.length (c.map f):=by
 let⟨a,d⟩:=j6.1 h
 have e:cs.flatten=(cs.take b).flatten++c++(cs.drop (b+1)).flatten:=by
  conv=>lhs;rw[<-wA0 b cs,ZH a,d]
  rw[List.flatten_append,wB1,Bo]
 rw[e,UB,UB];have:=zcK ((cs.take b).flatten.map f) (c.map f) ((cs.drop (b+1)).flatten.map f);rw[Qv]at this;exact this
theorem xK{bs:List Nat}:∀{c:List Ni},(∀x∈c,tJ x=false)->c.map (patch bs)=c
 |[],_=>rfl
 | x::c,h=>by
   rw[ZO,xK λy a=>h y (by simp[a])];unfold patch;rw[if_neg (by rw[h x (by simp)];simp)]
theorem yk(p:Int)(sp:Nat):∀x∈ko p sp,tJ x=false:=by
 unfold ko;split
 ·simp
 ·simp[Yb,tJ]
theorem S6{p:Int}{y:Ni}(h:tJ y=false):∀x∈Ad p y,tJ x=false:=by
 unfold Ad;split
 ·simpa[tJ]using h
 ·simpa[tJ,VD]using h
theorem ZZ(x:Mv):∀y∈rr x,tJ y=false:=by
 unfold rr;split <;> split <;> simp[tJ,VD,Yb]
theorem yn{a b:List Ni}(c:∀x∈a,tJ x=false)(d:∀x∈b,tJ x=false):∀x∈a++b,tJ x=false:=λx e=>(vU.1 e).elim (c x) (d x)
theorem zdL{v k:Nat}{x:Vl}(h:x.op<=23):∀y∈px of v x k,tJ y=false:=by
 unfold px;split
 ·simp
 split
 ·exact S6 rfl
 split
 ·exact yn (yn (yk _ _) (yk _ _)) (by simp[tJ])
 split
 ·exact yn (yn (yn (yk _ _) (yk _ _)) (yk _ _)) (by simp[tJ])
 split
 ·exact yn (yk _ _) (by simp[tJ])
 split
 ·simp[tJ]
 split
 ·rename_i e;exact yn (yk _ _) (S6 (by rcases e with e|e|e|e|e <;> simp[tJ,e]))
 ·exact yn (yn (yk _ _) (yk _ _)) (S6 (by
   simp[tJ,wBZ,Yz];omega))
theorem OR(g:Good u):∀vs k,∀y∈jQ u of vs k,tJ y=false
 |[],_=>by simp[jQ]
 | v ::vs,k=>by
   refine yn ?_ (OR g vs _);unfold zQ;split
   ·rename_i x a
    exact zdL (g.op v x a).2
   ·simp
theorem Ya{p t:Nat}{c:List Ni}(h:UM u of p t c):∀y∈c,tJ y=false:=by
 obtain⟨out,_,rfl⟩:=h;intro y a
 let⟨x,_,hx⟩:=Rb.1 a
 exact ZZ x y hx
theorem Pw(g:Good u):∀{a:List Nat}{k:Nat},(∀v∈a,gD u v=true)->jQ u of a k=[]/\ju u of a=[]
 |[],_,_=>⟨rfl,rfl⟩
 | v ::a,k,h=>by
   have hv:=h v (by simp);have e:zQ u of v k=[]/\rJ u of v=[]:=by
     unfold zQ rJ;unfold gD at hv
     cases hx:u.ee[v]? with
     |none=>exact⟨rfl,rfl⟩
     | some x=>
       rw[hx]at hv;simp[iX,Jz]at hv;refine⟨?_,?_⟩
       ·show px of v x k=[]
        unfold px;rw[if_pos hv]
       ·show Bv u of v x=[]
        unfold Bv;rw[if_neg (by omega)]
   let⟨b,c⟩:=Pw g (a:=a) (k:=k+(rJ u of v).length) λw d=>h w (by simp[d])
   exact⟨by show zQ u of v k++_=_;rw[e.1,b];rfl,by show rJ u of v++ju u of a=_;rw[e.2,c];rfl⟩
theorem WJ{α:Type}(a:List α)(x:α)(b:List α):(a++x::b)[a.length]? =some x:=by rw[ZQ (jj _),Nat.sub_self];rfl
def UK(u:U)(of:List Int)(b:Nat):Nat:=((u.blocks.take b).flatMap (Cu u of)).length
theorem zb6{b:Nat}{B:Bk}(a:u.blocks[b]? =some B):∃q,qf u of=(u.blocks.take b).flatMap (Cu u of)++(ju u of B.ee++(Lv u of B++q)):=by
 let⟨c,d⟩:=j6.1 a
 refine⟨(u.blocks.drop (b+1)).flatMap (Cu u of),?_⟩;unfold qf
 conv=>lhs;rw[<-wA0 b u.blocks,ZH c,d]
 rw[WQ,Ob];show _++(ju u of B.ee++Lv u of B++_)=_;rw[Bo]
theorem Fits.jump{P:Nat->Prop} {s s':Rs} {m d:Ms}(F:Fits u of P s m)(e:d.mem=m.mem)(f:d.heap=m.heap)(g:d.polls=m.polls)(e1:s'.val=s.val)(e2:s'.heap=s.heap)(h:s'.polls=s.polls):Fits u of P s' d:=
 ⟨by rw[e];exact F.len,λw a b c=>by
  have:s'.of w=s.of w:=by unfold Rs.of;rw[e1]
  rw[this];show d.mem.getD _ 0=_;rw[e];exact F.val w a b c,by rw[f,e2];exact F.heap,by rw[g,h];exact F.polls⟩
theorem HI(fk:Int)(x:Ni)(s:Ms):(iB fk x s).1.steps=s.steps+1:=by
 unfold iB;by_cases h0:x.op=1
 ·rw[if_pos h0];rfl
 rw[if_neg h0];by_cases e:x.op=2
 ·rw[if_pos e];rfl
 rw[if_neg e];by_cases f:x.op=3
 ·rw[if_pos f];rfl
 rw[if_neg f];by_cases g:x.op=4
 ·rw[if_pos g];rfl
 rw[if_neg g];by_cases i:x.op<=20
 ·rw[if_pos i];rfl
 rw[if_neg i];by_cases j:x.op=21
 ·rw[if_pos j];rfl
 rw[if_neg j];by_cases k:x.op=22
 ·rw[if_pos k];rfl
 rw[if_neg k];by_cases l:x.op=23
 ·rw[if_pos l];rfl
 rw[if_neg l];by_cases b:x.op=24
 ·rw[if_pos b];by_cases h:rd s x.a=0
  ·rw[if_pos h];rfl
  ·rw[if_neg h];rfl
 rw[if_neg b];by_cases c:x.op=25
 ·rw[if_pos c];rfl
 rw[if_neg c];by_cases d:x.op=26
 ·rw[if_pos d];by_cases h:0<=fk/\(s.polls:Int)=fk
  ·rw[if_pos h];rfl
  ·rw[if_neg h];rfl
 rw[if_neg d];rfl
theorem Go.steps{l:List Ni}{n:Nat} {m a:Ms}(G:Go fk l n m a):a.steps=m.steps+n:=by
 have st:∀{x:Ni} {s t:Ms} {o:Option Int},iB fk x s=(t,o)->t.steps=s.steps+1:=λ{x s t o} h=>by
  have:=HI fk x s;rw[h]at this;exact this
 induction G with
 |nil=>rfl
 |cons _ hs _ b=>rw[b,st hs];omega
theorem kJ.pre{l:List Ni}{n j st:Nat} {m a:Ms}{fr:List Fw}{hp:List Int}{jh:Int}(G:Go fk l n m a)(L:kJ fk l u of j a fr hp st jh):kJ fk l u of (n+j) m fr hp st jh:=by
 let⟨m1,b,x,e,X,G',c,d,f,g,h,i,k,o⟩:=L
 exact⟨m1,b,x,e,X,G.trans G',c,d,f,g,h,i,k,by rw[o,G.steps];omega⟩
def V6(fk:Int)(l:List Ni)(u:U)(of:List Int)(m:Ms)(n:Nat)(r:Ex):Prop:=match r with
 | .left k fr hp st jh=>∃j,kJ fk l u of j m fr hp st jh/\j+4*n<=4*k
 |_=>True
theorem zb8(g:Good u)(A:mK u (iy u) In Out)(Q:lI u Out of fG){cs:List (List Ni)}(V:zV u of u.blocks 0 0 cs){locals:List Int}{fuel:Nat} :
  ∀Jn qO b s m B,u.blocks[b]? =some B->Fits u of (bh u (B.ee.dropWhile (gM u)) (Out b)) (lW u locals qO B s) m->s.val.length=u.ee.length->
   (∃c3,Qr u of b B (UK u of b+(ju u of B.ee).length) c3/\Ez (cs.flatten.map (patch (iJ 0 cs))) m.pc (jQ u of B.ee (UK u of b)++c3.map (patch (iJ 0 cs))))->
   V6 fk (cs.flatten.map (patch (iJ 0 cs))) u of m (lW u locals qO B s).steps (runM u locals fk fuel Jn qO b s)
 |0,_,_,_,_,_,_,_,_,_=>True.intro
 | Jn+1,qO,b,s,m,B,hB,F,hv,⟨c3,he,hc⟩=>by
   have J:=Pb g Q;have aa:iM u b=B.ee:=by unfold iM;rw[hB]
   have ab:=(j6.1 hB).1;generalize hl:cs.flatten.map (patch (iJ 0 cs))=l at*
   let⟨q,hq⟩:=zb6 (of:=of) hB
   let⟨n1,n2⟩:=Pw (of:=of) g (a:=B.ee.takeWhile (gM u)) (k:=UK u of b) λv h=>Il h
   have hE:ju u of B.ee=ju u of (B.ee.dropWhile (gM u)):=by
     conv=>lhs;rw[<-qa u B.ee]
     unfold ju at n2⊢;rw[WQ,n2,QX]
   have hC:jQ u of B.ee (UK u of b)=jQ u of (B.ee.dropWhile (gM u)) (UK u of b):=by
     conv=>lhs;rw[<-qa u B.ee]
     rw[ES,n1,n2];rfl
   rw[hC]at hc;have ac:(lW u locals qO B s).val.length=u.ee.length:=(Kw _ _).trans hv;have ad:∀a v c,B.ee.dropWhile (gM u)=a++v::c->At u v b ((B.ee.takeWhile (gM u)).length+a.length)/\B.ee.drop ((B.ee.takeWhile (gM u)).length+a.length+1)=c:=λa v c e=>by
     have H:=qa u B.ee;rw[e]at H;have ae:∀T,T++(a++v::c)=B.ee->B.ee[T.length+a.length]? =some v/\B.ee.drop (T.length+a.length+1)=c:=λT K=>by
       rw[<-K];refine⟨?_,?_⟩
       ·rw[ZQ (by omega),wBQ];exact WJ _ _ _
       ·rw[<-Bo,List.append_cons]
        rw[List.drop_left' (by simp;omega)]
     let⟨k1,k2⟩:=ae _ H
     exact⟨⟨B,hB,k1⟩,k2⟩
   have R := Xh (fk:=fk) (fuel:=fuel) (l:=l) (c:=c3.map (patch (iJ 0 cs))) g J (r:=B.ee.dropWhile (gM u)) (s:=lW u locals qO B s) (m:=m) (kx:=UK u of b) (AP g hB)
     (fun a v c e w I hb hn=>by
       let⟨H,W⟩:=ad a v c e
       refine LZ Q (g.uz v b _ H) I ((Q.pa b _).ap v H w I ?_ hn);rw[aa,W];exact hb)
     (fun a v c x e hx ag=>by
       rw[hq,hE,e];have e1:ju u of (a++v::c)=ju u of a++(Rv u of x.state v::ju u of c):=by
        have:rJ u of v=[Rv u of x.state v]:=by
          unfold rJ;rw[hx];show Bv u of v x=_;unfold Bv;rw[if_pos (by simpa[leaves]using ag)]
        unfold ju;rw[WQ,Ob,this];rfl
       rw[e1,Bo,wBT,<-Bo];have:=WJ ((u.blocks.take b).flatMap (Cu u of)++ju u of a) (Rv u of x.state v) (ju u of c++(Lv u of B++q));rw[nB]at this;exact this) F ac hc
   unfold runM;rw[hB];simp only;revert R
   cases hr:p9 u fk fuel (B.ee.dropWhile (gM u)) (lW u locals qO B s)with
   | inl e=>
     cases e with
     |left k fr hp st jh=>exact λR=>R
     |z9=>exact λ_=>True.intro
     |stuck=>exact λ_=>True.intro
   | inr s1 =>
     rintro⟨L,ak,n,m1,G,S,hn,al,p⟩;simp only;by_cases hf:fuel<=s1.steps
     ·rw[if_pos hf];exact True.intro
     rw[if_neg hf];by_cases M:B.fin=3
     ·rw[if_pos M]
      show ∃j,kJ fk l u of j m (GC u s1 B.state) s1.heap B.state (-1)/\_;unfold Qr at he;rw[if_neg (by omega),if_neg (by omega)]at he;subst he;rw[xK (by simp[tJ])]at p;refine⟨n+0,.pre G ⟨m1,m1.on,_,UK u of b+(ju u of B.ee).length,Rv u of B.state (-1),.nil _,p.hd,by simp[iB],?_,rfl,rfl,?_,S.heap,rfl⟩,by show n+0+_<=4*(s1.steps+1);omega⟩
      ·rw[hq]
       unfold Lv;rw[if_neg (by omega),List.singleton_append,<-Bo];have:=WJ ((u.blocks.take b).flatMap (Cu u of)++ju u of B.ee) (Rv u of B.state (-1)) q;rw[nB]at this;exact this
      ·refine KB (m:=m1.on) J g (λw I=>?_) _
       have hg:nD u w:=by
         unfold nU at I;split at I
         ·rename_i fs ah
          let⟨f,hf,I⟩:=Rb.1 I
          have H:=(g.st _ fs ah).2.2 f hf;rcases vU.1 I with h|h
          ·exact H.2.2.1 w h
          ·exact H.2.2.2 w h
         ·cases I
       exact S.val w (iC hg) ((A.out b w ab).2 (.inr (.inr ⟨B,hB,.inr ⟨M,I⟩⟩))) hg
     rw[if_neg M]
     cases ht:FV B s1 with
     |none=>exact True.intro
     | some t=>
       simp only;have X:t∈B.next:=by
         unfold FV at ht;split at ht
         ·exact Ap ht
         split at ht
         ·split at ht <;> exact Ap ht
         ·cases ht
       have C:t∈next u b:=by unfold next;rw[hB];exact X
       let⟨_,htl,_⟩:=g.Kk C
       obtain⟨T,K⟩:∃T,u.blocks[t]? =some T:=⟨_,hN htl⟩
       let⟨ct,hct,hbc⟩:=V.get K
       rw[Gg,Gg]at hbc;obtain⟨d1,d3,U,hd,rfl⟩:=hbc;have y:=Q9 hct (patch (iJ 0 cs));rw[hl]at y;have N:=(j6.1 hct).1;have Y:(iJ 0 cs).getD t 0=(cs.take t).flatten.length:=by
         rw[Dz,Ko cs 0 t N,Gg];rfl
       rw[UB,UB,xK (OR g _ _)]at y;have Z:∀{m:Ms},iB fk (patch (iJ 0 cs) ⟨23,0,0,0,(t:Nat)⟩) m=({m.on with pc:=(cs.take t).flatten.length},none):=λ{m}=>by
         have:patch (iJ 0 cs) ⟨23,0,0,0,(t:Nat)⟩=⟨23,0,0,0,(((iJ 0 cs).getD t 0:Nat):Int)⟩:=by simp[patch,tJ]
         rw[this,Y];simp[iB]
       have go:∀{k o},Go fk l k m o->k+4*(lW u locals qO B s).steps<=4*(s1.steps+1+(T.ee.takeWhile (gM u)).length)->Fits u of (bh u (T.ee.dropWhile (gM u)) (Out t)) (lW u locals (some b) T {s1 with steps:=s1.steps+1}) o->Ez l o.pc (jQ u of T.ee (UK u of t)++d3.map (patch (iJ 0 cs)))->
        V6 fk l u of m (lW u locals qO B s).steps (runM u locals fk fuel Jn (some b) t {s1 with steps:=s1.steps+1}):=λ{k o} G2 hk F2 i=>by
         have ih:=zb8 g A Q V (locals:=locals) (fuel:=fuel) Jn (some b) t {s1 with steps:=s1.steps+1} o T K F2 L ⟨d3,hd,by rw[hl];exact i⟩;rw[hl]at ih;revert ih
         cases runM u locals fk fuel Jn (some b) t {s1 with steps:=s1.steps+1} with
         | left k' fr hp st jh=>
           rintro⟨j,W,M⟩;have e:(lW u locals (some b) T {s1 with steps:=s1.steps+1}).steps=s1.steps+1+(T.ee.takeWhile (gM u)).length:=rfl
           exact⟨_,.pre G2 W,by omega⟩
         |z9=>exact λ_=>True.intro
         |stuck=>exact λ_=>True.intro
       rcases g.fin b B hB with⟨f1,ai⟩|⟨f2,ai,O⟩|⟨f3,_⟩
       ·
         have e0:B.next.getD 0 0=t:=by
           unfold FV at ht;rw[if_pos f1]at ht;rw[Dz,ht];rfl
         unfold Qr at he;rw[if_pos f1,e0]at he;obtain⟨d,D,rfl⟩:=he;rw[UB,xK (Ya D)]at p;have aj:d1=[]:=by
           unfold KJ at U;rw[if_neg]at U
           ·exact U
           rintro⟨p1,p2⟩;have E:b∈T.fj:=by rw[g.fj t T K];exact mU.2 C
           let⟨z,hz⟩:=List.length_eq_one_iff.1 p1
           rw[hz]at E p2;obtain rfl:b=z:=by simpa using E
           unfold isIf at p2;rw[show([b]:List Nat).getD 0 0=b from rfl,hB]at p2;simp[Gi]at p2;omega
         subst aj
         let⟨o,G2,F2,hs2,hl2,i⟩:=zby (fk:=fk) g A Q K C D (S.jump (s':={s1 with steps:=s1.steps+1}) rfl rfl rfl rfl rfl rfl) L (locals:=locals) p
         refine go ((G.trans G2).trans (.one i.hd Z)) (by omega) (F2.jump rfl rfl rfl rfl rfl rfl) ?_;exact y
       ·
         have N:=S.val B.cond (iC O) (A.zdK hB f2) O;unfold Qr at he;rw[if_neg (by omega),if_pos f2]at he;subst he;rw[UB,xK (yk _ _)]at p
         let⟨o,G2,S2,r2,i⟩:=Oy (fk:=fk) S.len (J _ O) p
         rw[N]at r2;have D:UM u of b t d1:=by
           unfold KJ at U;have hlen:=g.Qy b B hB f2 t X;rw[<-g.fj t T K]at hlen
           let⟨z,hz⟩:=List.length_eq_one_iff.1 hlen
           have E:b∈T.fj:=by rw[g.fj t T K];exact mU.2 C
           rw[hz]at E;obtain rfl:b=z:=by simpa using E
           rw[if_pos ⟨hlen,by rw[hz];unfold isIf;rw[show([b]:List Nat).getD 0 0=b from rfl,hB];simp[f2]⟩,hz]at U;exact U
         have fin:∀{k P},Go fk l k o P->k<=2->P.mem=o.mem->P.heap=o.heap->P.polls=o.polls->P.pc=(cs.take t).flatten.length->V6 fk l u of m (lW u locals qO B s).steps (runM u locals fk fuel Jn (some b) t {s1 with steps:=s1.steps+1}):=λ{k P} G3 hk H W M h4=>by
           have F3:Fits u of (Out b) {s1 with steps:=s1.steps+1} P:=(S.none S2 J λ_ _ h=>h).jump H W M rfl rfl rfl;rw[xK (Ya D)]at y;rw[<-h4,Bo]at y
           let⟨m4,G4,F4,hs4,hl4,hc4⟩:=zby (fk:=fk) g A Q K C D F3 L (locals:=locals) y
           have:=ux (hO of B.cond) 12;exact go (((G.trans G2).trans G3).trans G4) (by omega) F4 hc4
         unfold FV at ht;rw[if_neg (by omega),if_pos f2]at ht;have jz:iB fk (patch (iJ 0 cs) ⟨24,lD (hO of B.cond) 12,0,0,(B.next.getD 1 0:Nat)⟩) o=(if s1.of B.cond=0 then{o.on with pc:=(iJ 0 cs).getD (B.next.getD 1 0) 0} else o.on,none):=by
           simp[patch,tJ,iB,r2]
         by_cases h0:s1.of B.cond=0
         ·rw[if_pos h0]at ht jz
          have e1:B.next.getD 1 0=t:=by rw[Dz,ht];rfl
          rw[e1,Y]at jz;rw[e1]at i;exact fin (.one i.hd jz) (by omega) rfl rfl rfl rfl
         ·rw[if_neg h0]at ht jz
          have e1:B.next.getD 0 0=t:=by rw[Dz,ht];rfl
          rw[e1]at i;exact fin (.cons i.hd jz (.one i.tl.hd Z)) (by omega) rfl rfl rfl rfl
       ·exact absurd f3 M
def Mz(e:Nl):Option Nat:=if e.kind=1 then some e.n.toNat else if e.kind=2 then some (16+e.n.toNat) else none
def CK(mem:List Int)(e:Nl)(w:Int):List Int:=match Mz e with
 |some q=>mem.set q w
 |none=>mem
def zh:List Nl->List Int->List Int->List Int
 |e::en,w::ls,mem=>zh en ls (CK mem e w)
 |_,_,mem=>mem
theorem Ub(mem:List Int)(e:Nl)(w:Int):(CK mem e w).length=mem.length:=by unfold CK;split <;> simp
theorem UE:∀en ls mem,(zh en ls mem).length=mem.length
 |[],_,_=>rfl
 |_::_,[],_=>rfl
 |e::en,w::ls,mem=>(UE en ls _).trans (Ub mem e w)
theorem Q7{e:Nl}{w:Int}:∀{en:List Nl}{ls mem:List Int},en.length=ls.length->zh (en++[e]) (ls++[w]) mem=CK (zh en ls mem) e w
 |[],[],_,_=>rfl
 |e'::en,w'::ls,mem,h=>Q7 (mem:=CK mem e' w') (by simpa using h)
theorem Z7{mem:List Int}{e:Nl}{w:Int}{q:Nat}(h:Mz e=some q)(hq:q<mem.length):(CK mem e w).getD q 0=w:=by
 unfold CK;rw[h];simp only;rw[HD hq,if_pos rfl]
theorem zas{mem:List Int}{e:Nl}{w:Int}{q:Nat}(h:Mz e≠some q):(CK mem e w).getD q 0=mem.getD q 0:=by
 unfold CK
 cases hp:Mz e with
 |none=>rfl
 | some p=>
   simp only;have mD:p≠q:=λe1=>h (by rw[hp,e1]);simp[Dz,Qp mD]
theorem US{q:Nat}:∀{en:List Nl}{ls mem:List Int},(∀e∈en,Mz e≠some q)->(zh en ls mem).getD q 0=mem.getD q 0
 |[],_,_,_=>rfl
 |_::_,[],_,_=>rfl
 |e::en,w::ls,mem,h=>(US (mem:=CK mem e w) λe' a=>h e' (by simp[a])).trans (zas (h e (by simp)))
theorem UZ{q:Nat}:∀{en:List Nl}{ls mem:List Int}{k:Nat}{e:Nl},en[k]? =some e->Mz e=some q->(∀j e',en[j]? =some e'->Mz e' = some q->j=k)->k<ls.length->q<mem.length->(zh en ls mem).getD q 0=ls.getD k 0
 |_::_,[],_,_,_,_,_,_,hl,_=>by cases hl
 | e0::en,w::ls,mem,0,e,he,hp,hu,_,hq=>by
   cases he;refine(US (mem:=CK mem e0 w) λe' a=>?_).trans (Z7 hp hq)
   let⟨j,hj⟩:=mG.1 a
   intro h;have:=hu (j+1) e' hj h
   omega
 | e0::en,w::ls,mem,k+1,e,he,hp,hu,hl,hq=>by
   have:=UZ (mem:=CK mem e0 w) (k:=k) he hp (λj e' b c=>by
     have:=hu (j+1) e' b c;omega) (by simpa using hl) (by rw[Ub];exact hq)
   exact this
theorem Uj{p:Int}(h:IH p):Mz (lE p)=some p.toNat:=by
 unfold Mz lE;split
 ·rfl
 ·simp[ if_false];congr 1;omega
theorem UJ{out:List Nl}{n k:Nat}{e:Nl}:(V1 out n e)[k]? =if k=n then some e else if k<out.length then out[k]? else if k<n+1 then some ⟨4,0⟩ else none:=by
 unfold V1 at*;split
 ·rename_i h;subst h;rw[Qk];simp;omega
 rename_i h;rw[Qp (λe=>h e.symm)];split
 ·rename_i a;rw[VQ a]
 rename_i a;rw[ZQ (by omega),List.getElem?_replicate];split
 ·rw[if_pos (by omega)]
 ·rw[if_neg (by omega)]
theorem Va(g:Good u):∀n,(∀i x,i<n->u.ee[i]? =some x->x.op=1->(pZ u of n)[x.n.toNat]? =some (lE (hO of i)))/\
  ∀k e,(pZ u of n)[k]? =some e->e=⟨4,0⟩\/∃i x,u.ee[i]? =some x/\x.op=1/\x.n.toNat=k/\e=lE (hO of i)
 |0=>⟨λ_ _ h=>by omega,λk e h=>by cases h⟩
 | n + 1 =>by
   let⟨c,d⟩:=Va g n
   unfold pZ
   cases hx:u.ee[n]? with
   | none=>
     refine⟨λi x hi a b=>?_,d⟩;by_cases e:i=n
     ·subst e;rw[hx]at a;cases a
     ·exact c i x (by omega) a b
   | some y =>
     simp only;by_cases hy:y.op=1
     ·rw[if_pos hy]
      refine⟨λi x hi a b=>?_,λk e h=>?_⟩
      ·rw[UJ]
       by_cases e:i=n
       ·subst e;rw[hx]at a;cases a;rw[if_pos rfl]
       ·have f:=c i x (by omega) a b
        have mD:¬x.n.toNat=y.n.toNat:=λe'=>by
          let⟨l,_,j⟩:=g.param n y hx hy
          let⟨m,_,_⟩:=g.param i x a b
          exact e (j i x a b (by omega))
        rw[if_neg mD,if_pos (j6.1 f).1,f]
      ·rw[UJ]at h
       split at h
       ·rename_i e1
        exact .inr ⟨n,y,hx,hy,e1.symm,(Option.some.inj h).symm⟩
       split at h
       ·exact d k e h
       split at h
       ·exact .inl (Option.some.inj h).symm
       ·cases h
     ·rw[if_neg hy]
      refine⟨λi x hi a b=>?_,d⟩;by_cases e:i=n
      ·subst e;rw[hx]at a;cases a;exact absurd b hy
      ·exact c i x (by omega) a b
theorem Wn(g:Good u)(A:mK u (iy u) In Out)(n:lI u Out of fG){B:Bk}(o:u.blocks[0]? =some B){locals ls heap m0:List Int}(J:m0.length=416)(hl:(pZ u of u.ee.length).length<=ls.length)(z:∀k,ls.getD k 0=locals.getD k 0) :
  Fits u of (bh u (B.ee.dropWhile (gM u)) (Out 0)) (lW u locals none B (EH u heap)) ⟨zh (pZ u of u.ee.length) ls m0,heap,0,0,0⟩:=by
 refine⟨(UE _ _ _).trans J,λw C D M=>?_,rfl,rfl⟩;have d:=Pb g n
 let⟨c,j,m,N,O⟩:=g.Xx A (Uq g A o D)
 obtain rfl:c=0:=by simpa using N [0] .nil
 have b:=O rfl;have E:=Xu o (AP g o) m b
 let⟨x,hx,e⟩:=g.A5 m
 rw [e]at b;have F:x.op=1:=by
  simp[iX,Jz]at b;rcases b with h|h
  ·exact h
  ·exact absurd rfl (g.VG w 0 j x B m hx h o).1
 let⟨f1,f2⟩:=Va (of:=of) g u.ee.length
 have t:=f1 w x C hx F;have pos:=d w M
 have hv:(lW u locals none B (EH u heap)).of w=if w∈B.ee.takeWhile (gM u) then KG u locals none B (EH u heap).of w else(EH u heap).of w:=
  J5 (B.ee.takeWhile (gM u)) _ λv G=>by
   let⟨k,t⟩:=mG.1 ((List.takeWhile_sublist _).subset G)
   show v<(List.replicate u.ee.length 0).length;rw[wBF];exact g.uz v 0 k ⟨B,o,t⟩
 rw[hv,if_pos E];unfold KG;rw[hx];simp only;rw[if_pos F,<-z];refine UZ t (Uj pos) (λk e' H f=>?_) (by have:=(j6.1 t).1;omega) (by rw[J];unfold IH at pos;omega);rcases f2 k e' H with rfl|⟨i,y,p,l,I,rfl⟩
 ·cases f
 ·have a:nD u i:=⟨y,p,by rw[l];rfl⟩
  rw [Uj (d i a)]at f;have q:hO of i=hO of w:=by
   have p1:=d i a;have:=Option.some.inj f;unfold IH at p1 pos;omega
  by_cases hiw:i=w
  ·subst hiw;rw[hx]at p;cases p;exact I.symm
  ·exfalso
   let⟨c,ji,hi⟩:=g.MF i (iC a) trivial
   obtain rfl:=g.par i c ji y hi p l;have r:gD u i=true:=by unfold gD;rw[p];simp[iX,l]
   have s:gD u w=true:=by unfold gD;rw[hx];simp[iX,F]
   rcases wB0 ji j with h|h|h
   ·exact LZ n C (iC a) ((n.pa 0 j).hd w m s ji i h hi r) q
   ·subst h
    let⟨R,P,Q⟩:=hi
    let⟨S,K,L⟩:=m
    rw[P]at K;cases K;rw[Q]at L;cases L;exact hiw rfl
   ·exact LZ n (iC a) C ((n.pa 0 ji).hd i hi r j w h m s) q.symm
