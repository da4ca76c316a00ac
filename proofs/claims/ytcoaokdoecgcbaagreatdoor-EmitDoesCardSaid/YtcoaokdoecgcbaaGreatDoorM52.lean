/- Parts. -/
import Derived.Test.YtcoaokdoecgcbaaGreatDoorM42
set_option maxHeartbeats 4000000
namespace Go.Proofs.YtcoaokdoecgcbaaGreatDoor.Hx
open Un Dm
variable{b:List Ni}{p:Int}{q j n pc:Nat}{e:Nl}{x:Vl}{w:Int}{B:Bk}
structure Ms where
 mem:List Int
 heap:List Int
 pc:Nat
 steps:Nat
 polls:Nat
def rd(s:Ms)(i:Nat):Int:=s.mem.getD i 0
def Ms.on(s:Ms):Ms:={s with pc:=s.pc+1,steps:=s.steps+1}
def Ms.put(s:Ms)(i:Nat)(v:Int):Ms:={s with mem:=s.mem.set i v,pc:=s.pc+1,steps:=s.steps+1}
def JR(x:Ni):Vl:=⟨x.op-2,x.b,x.c,x.n,[],0⟩
def iZ(fm:Int)(x:Ni)(s:Ms):Ms×Option Int:=
 if x.op=1 then(s.put x.a (qN x.n),none)
 else if x.op=2 then(s.put x.a (rd s x.b),none)
 else if x.op=3 then(s.put x.a (rd s (16+x.n.toNat)),none)
 else if x.op=4 then(s.put (16+x.n.toNat) (rd s x.a),none)
 else if x.op<=20 then(s.put x.a (ti (JR x) (rd s) s.heap),none)
 else if x.op=21 then({s.on with heap:=Eo s.heap (qN (rd s x.a+qN x.n)) (rd s x.b)},none)
 else if x.op=22 then({s.on with heap:=Eo s.heap (qN (qN (rd s x.a+1)+rd s x.b)) (rd s x.c)},none)
 else if x.op=23 then({s.on with pc:=x.n.toNat},none)
 else if x.op=24 then(if rd s x.a=0 then{s.on with pc:=x.n.toNat} else s.on,none)
 else if x.op=25 then(s.on,if rd s x.a=0 then some x.n else none)
 else if x.op=26 then(if 0<=fm/\(s.polls:Int)=fm then(s.on,some x.n) else({s.on with polls:=s.polls+1},none))
 else(s.on,some x.n)
inductive Go (fm:Int) (l:List Ni):Nat->Ms->Ms->Prop
 |nil (s:Ms):Go fm l 0 s s
 |cons {n:Nat} {x:Ni} {s t r:Ms} (a:l[s.pc]? =some x) (hs:iZ fm x s=(t,none)) (g:Go fm l n t r):Go fm l (n+1) s r
section
variable{fm:Int}{l:List Ni}
theorem Go.trans{m:Nat}{s t r:Ms}(h:Go fm l n s t) (h':Go fm l m t r):Go fm l (n+m) s r:=by
 induction h with
 |nil=>rw[Jn];exact h'
 |cons a hs _ b=>rw[Nat.add_right_comm];exact .cons a hs (b h')
theorem Go.one{x:Ni}{s t:Ms}(a:l[s.pc]? =some x)(hs:iZ fm x s=(t,none)):Go fm l 1 s t:= .cons a hs (.nil _)
def E0(l:List Ni)(pc:Nat)(c:List Ni):Prop:=∀i x,c[i]? =some x->l[pc+i]? =some x
theorem E0.left{a:List Ni}(h:E0 l pc (a++b)):E0 l pc a:=λi x hi=>h i x (by rw[UF (ke.1 hi).1];exact hi)
theorem E0.right{a:List Ni}(h:E0 l pc (a++b)):E0 l (pc+a.length) b:=λi x hi=>by
 have:=h (a.length+i) x (by rw[Ze (by omega),wBP];exact hi);rw[Zz];exact this
theorem E0.hd{x:Ni}(h:E0 l pc (x::b)):l[pc]? =some x:=h 0 x rfl
theorem E0.tl{x:Ni}(h:E0 l pc (x::b)):E0 l (pc+1) b:=E0.right (a:=[x]) h
structure Sl (k:Nat) (X:Nat->Prop) (m a:Ms):Prop where
 pc:a.pc=m.pc+k
 steps:a.steps=m.steps+k
 len:a.mem.length=m.mem.length
 WL:∀i,¬X i->rd a i=rd m i
 heap:a.heap=m.heap
 polls:a.polls=m.polls
theorem Sl.refl(X:Nat->Prop)(m:Ms):Sl 0 X m m:=⟨rfl,rfl,rfl,λ_ _=>rfl,rfl,rfl⟩
theorem Sl.trans{k:Nat}{X Y Z:Nat->Prop} {m b a:Ms}(h:Sl k X m b) (h':Sl j Y b a)(c:∀i,X i->Z i)(d:∀i,Y i->Z i):Sl (k+j) Z m a:=
 ⟨by rw[h'.pc,h.pc,Zz],by rw[h'.steps,h.steps,Zz],h'.len.trans h.len,λi hi=>(h'.WL i λe=>hi (d i e)).trans (h.WL i λf=>hi (c i f)),h'.heap.trans h.heap,h'.polls.trans h.polls⟩
theorem HC{m:Ms}{i:Nat}{v:Int}(hi:i<m.mem.length):rd (m.put i v) j=if j=i then v else rd m j:=MM hi
theorem Sl.put{m:Ms}{i:Nat}{v:Int}(hi:i<m.mem.length):Sl 1 (·= i) m (m.put i v):=
 ⟨rfl,rfl,wBF,λj a=>by rw[HC hi,if_neg a],rfl,rfl⟩
theorem XT{m:Ms}(hl:m.mem.length=416){p:Int}(hp:lC p){sp:Nat}(hs:sp<16)(hc:E0 l m.pc (ki p sp)) :
  ∃a,Go fm l (ki p sp).length m a/\Sl (ki p sp).length (·= sp) m a/\rd a (lB p sp)=rd m p.toNat:=by
 unfold ki lB at*;split
 ·exact⟨m,.nil _,.refl _ _,rfl⟩
 ·rename_i e;rw[if_neg e]at hc;refine⟨m.put sp (rd m (16+(p-16).toNat)),.one hc.hd ?_,Sl.put (by omega),?_⟩
  ·simp[iZ,Zk]
  ·rw[HC (by omega),if_pos rfl];congr 1;omega
theorem zdb{m:Ms}(hl:m.mem.length=416){p:Int}(hp:lC p){x:Ni}{v:Int}(c:∀r,iZ fm {x with a:=r} m=(m.put r v,none))(hc:E0 l m.pc (AP p x)) :
  ∃b,Go fm l (AP p x).length m b/\Sl (AP p x).length (λi=>i=14\/i=p.toNat) m b/\rd b p.toNat=v:=by
 unfold AP at*;unfold lC at hp;split
 ·rename_i e;rw[if_pos e]at hc;refine⟨m.put p.toNat v,.one hc.hd (c _),?_,by rw[HC (by omega),if_pos rfl]⟩;have s:=Sl.put (m:=m) (v:=v) (i:=p.toNat) (by omega);exact⟨s.pc,s.steps,s.len,λi hi=>s.WL i λh=>hi (.inr h),s.heap,s.polls⟩
 ·rename_i e;rw[if_neg e]at hc;have f:(m.put 14 v).mem.length=416:=by simp[Ms.put,hl]
  have s1:=Sl.put (m:=m) (v:=v) (i:=14) (by omega);have d:=Sl.put (m:=m.put 14 v) (v:=v) (i:=p.toNat) (by omega);refine⟨(m.put 14 v).put p.toNat v,.cons hc.hd (c 14) (.one hc.tl.hd ?_),s1.trans d (λ_ h=> .inl h) λ_ h=> .inr h,by rw[HC (by omega),if_pos rfl]⟩;have e1:16+(p-16).toNat=p.toNat:=by omega
  simp[iZ,WO,Nat.reduceEqDiff,↓reduceIte,e1,HC (show 14<m.mem.length by omega)]
theorem zeO{m:Ms}(hl:m.mem.length=416){x:Mv}(e:lC x.1)(f:lC x.2)(g:x.1≠13/\x.2≠13)(hc:E0 l m.pc (td x)) :
  ∃c,Go fm l (td x).length m c/\Sl (td x).length (λi=>i=13\/i=x.2.toNat) m c/\rd c x.2.toNat=rd m x.1.toNat:=by
 let⟨a,b⟩:=x
 unfold td at*;unfold lC at e f;have e1:¬a<16->16+(a-16).toNat=a.toNat:=λh=>by omega
 have e2:¬b<16->16+(b-16).toNat=b.toNat:=λh=>by omega
 have put:∀x,E0 l m.pc [x]->iZ fm x m=(m.put b.toNat (rd m a.toNat),none)->∃c,Go fm l 1 m c/\Sl 1 (λi=>i=13\/i=b.toNat) m c/\rd c b.toNat=rd m a.toNat:=λx j hs=>by
  have s:=Sl.put (m:=m) (v:=rd m a.toNat) (i:=b.toNat) (by omega);exact⟨_,.one j.hd hs,⟨s.pc,s.steps,s.len,λi hi=>s.WL i λh=>hi (.inr h),s.heap,s.polls⟩,by rw[HC (by omega),if_pos rfl]⟩
 split
 ·rename_i d;rw[if_pos d]at hc;split
  ·rename_i c2;rw[if_pos c2]at hc;exact put _ hc (by simp[iZ])
  ·rename_i c2;rw[if_neg c2]at hc;exact put _ hc (by simp[iZ,WO,e2 c2])
 ·rename_i d;rw[if_neg d]at hc;split
  ·rename_i c2;rw[if_pos c2]at hc;exact put _ hc (by simp[iZ,Zk,e1 d])
  ·rename_i c2;rw[if_neg c2]at hc;have n:(m.put 13 (rd m a.toNat)).mem.length=416:=by simp[Ms.put,hl]
   have s1:=Sl.put (m:=m) (v:=rd m a.toNat) (i:=13) (by omega);have k:=Sl.put (m:=m.put 13 (rd m a.toNat)) (v:=rd m a.toNat) (i:=b.toNat) (by omega);refine⟨(m.put 13 (rd m a.toNat)).put b.toNat (rd m a.toNat),.cons (t:=m.put 13 (rd m a.toNat)) hc.hd (by simp[iZ,Zk,e1 d]) (.one (s:=m.put 13 (rd m a.toNat)) hc.tl.hd ?_),s1.trans k (λ_ h=> .inl h) λ_ h=> .inr h,by rw[HC (by omega),if_pos rfl]⟩;simp[iZ,WO,Nat.reduceEqDiff,↓reduceIte,e2 c2,HC (show 13<m.mem.length by omega)]
def JG(p:Int):Prop:=(0<=p/\p<12)\/(16<=p/\p<416)
theorem JG.pos(h:JG p):lC p:=by unfold JG at h;unfold lC;omega
theorem JG.ne{q:Int}(h:JG p)(k:JG q)(n:p≠q):p.toNat≠q.toNat:=by unfold JG at h k;omega
theorem JG.sc(h:JG p):p.toNat≠12/\p.toNat≠13/\p.toNat≠14/\p.toNat≠15:=by unfold JG at h;omega
structure Fits (u:U) (of:List Int) (L:Nat->Prop) (s:Rs) (m:Ms):Prop where
 len:m.mem.length=416
 val:∀w,w<u.ee.length->L w->nz u w->rd m (hO of w).toNat=s.of w
 heap:m.heap=s.heap
 polls:m.polls=s.polls
def Bt(mem:List Int)(l:Nl):Int:=if l.kind=1 then mem.getD l.n.toNat 0 else if l.kind=2 then mem.getD (16+l.n.toNat) 0 else qN l.n
def PS(mem:List Int)(f:Nf):Fw:=⟨f.func,f.pc,f.locals.map (Bt mem),f.stack.map (Bt mem)⟩
theorem zaR{mem:List Int}(h:JG p):Bt mem (lg p)=mem.getD p.toNat 0:=by
 unfold Bt lg;split
 ·rfl
 ·rename_i e;simp only[show((2:Int)=1)=False by simp,if_false,if_true];congr 1;omega
def Il(u:U)(s:Rs)(st:Nat):List Fw:=((u.eE[st]?).getD []).map λf=>⟨f.func,f.pc,f.locals.map s.of,f.stack.map s.of⟩
def mq(fm:Int)(l:List Ni)(u:U)(of:List Int)(j:Nat)(m:Ms)(fr:List Fw)(hp:List Int)(st:Nat)(iU:Int):Prop:=∃m1 a x e X,Go fm l j m m1/\l[m1.pc]? =some x/\iZ fm x m1=(a,some ((e:Nat):Int))/\(mJ u of)[e]? =some X/\X.state=st/\X.val=iU/\X.gB.map (PS a.mem)=fr/\a.heap=hp/\a.steps=m.steps+j+1
variable{u:U}{of:List Int}
theorem KT{s:Rs}{m:Ms}{st:Nat}(b:∀w,nz u w->JG (hO of w))(g:Good u)(hv:∀w∈nN u st,rd m (hO of w).toNat=s.of w)(vl:Int):(Ss u of st vl).gB.map (PS m.mem)=Il u s st:=by
 unfold Ss Il;unfold nN at hv
 cases hfs:u.eE[st]? with
 |none=>rfl
 | some fs=>
   rw[hfs]at hv;simp only[ List.map_map];refine wBZ λf c=>?_;have d:=(g.st st fs hfs).2.2 f c;have one:∀w,nz u w->w∈gB fs->(Bt m.mem ∘ λv=>lg (hO of v)) w=s.of w:=λw e a=>by
     show Bt m.mem (lg (hO of w))=_;rw[zaR (b w e)];exact hv w a
   have mem:∀w,w∈f.locals++f.stack->w∈gB fs:=λw a=>Sg.2 ⟨f,c,a⟩;show PS m.mem (frC of f)=_;unfold PS frC;simp only[List.map_map];congr 1
   ·exact wBZ λw a=>one w (d.2.2.1 w a) (mem w (by simp[a]))
   ·exact wBZ λw a=>one w (d.2.2.2 w a) (mem w (by simp[a]))
theorem za4{y:Vl} {f d:Nat->Int}{h:List Int}(e:y.op=x.op)(g:x.op≠2)(c:x.op≠17)(i:d y.a=f x.a)(j:d y.b=f x.b):ti y d h=ti x f h:=by
 unfold ti;rw[e,if_neg g,if_neg g,i,j,if_neg c,if_neg c]
theorem za2{y:Vl} {f b:Nat->Int}{h:List Int}(e:y.op=x.op)(c:x.op=8\/x.op=9\/x.op=15\/x.op=16\/x.op=17)(d:b y.a=f x.a)(g:x.op=17->y.n=x.n):ti y b h=ti x f h:=by
 unfold ti;rw[e,d];rcases c with e1|e1|e1|e1|e1 <;> simp[e1];rw[g e1]
theorem Te{sp:Nat}(h:JG p)(hq:12<=q/\q<16)(hs:sp≠q):lB p sp≠q:=by unfold lB;unfold JG at h;split <;> omega
theorem Py{m:Ms}(hl:m.mem.length=416){p:Int}(hp:JG p){r:List Ni}(hc:E0 l m.pc (ki p 12++r)) :
  ∃a,Go fm l (ki p 12).length m a/\Sl (ki p 12).length (λi=>12<=i/\i<15) m a/\rd a (lB p 12)=rd m p.toNat/\E0 l a.pc r:=by
 let⟨a,b,s1,e1⟩:=XT (fm:=fm) hl hp.pos (by omega) hc.left
 exact⟨a,b,⟨s1.pc,s1.steps,s1.len,λi hi=>s1.WL i λh=>hi (by omega),s1.heap,s1.polls⟩,e1,by rw[s1.pc];exact hc.right⟩
theorem Ug{m:Ms}(hl:m.mem.length=416){p q:Int}(hp:JG p)(hq:JG q){r:List Ni}(hc:E0 l m.pc (ki p 12++(ki q 13++r))) :
  ∃a,Go fm l (ki p 12++ki q 13).length m a/\Sl (ki p 12++ki q 13).length (λi=>12<=i/\i<15) m a/\rd a (lB p 12)=rd m p.toNat/\rd a (lB q 13)=rd m q.toNat/\E0 l a.pc r:=by
 let⟨m1,d,s1,e1,c⟩:=Py (fm:=fm) hl hp hc
 let⟨e,f,b,e2⟩:=XT (fm:=fm) (s1.len.trans hl) hq.pos (by omega) c.left
 rw[qu];refine⟨e,d.trans f,s1.trans b (λ_ h=>h) (λi h=>by omega),?_,?_,by rw[b.pc];exact c.right⟩
 ·rw[b.WL _ (Te hp (by omega) (by omega)),e1]
 ·rw[e2,s1.WL];have:=hq.sc;omega
theorem zd8{m:Ms}(hl:m.mem.length=416){p q t:Int}(hp:JG p)(hq:JG q)(c:JG t){r:List Ni}(hc:E0 l m.pc (ki p 12++(ki q 13++(ki t 14++r)))) :
  ∃a,Go fm l (ki p 12++ki q 13++ki t 14).length m a/\Sl (ki p 12++ki q 13++ki t 14).length (λi=>12<=i/\i<15) m a/\rd a (lB p 12)=rd m p.toNat/\rd a (lB q 13)=rd m q.toNat/\rd a (lB t 14)=rd m t.toNat/\E0 l a.pc r:=by
 let⟨m1,e,s1,e1,e2,d⟩:=Ug (fm:=fm) hl hp hq hc
 let⟨f,g,b,j⟩:=XT (fm:=fm) (s1.len.trans hl) c.pos (by omega) d.left
 rw[qu];refine⟨f,e.trans g,s1.trans b (λ_ h=>h) (λi h=>by omega),?_,?_,?_,by rw[b.pc];exact d.right⟩
 ·rw[b.WL _ (Te hp (by omega) (by omega)),e1]
 ·rw[b.WL _ (Te hq (by omega) (by omega)),e2]
 ·rw[j,s1.WL];have:=c.sc;omega
theorem Fits.set{L a:Nat->Prop}{s:Rs} {m b:Ms}{k v:Nat}{x:Int}{X:Nat->Prop}(F:Fits u of L s m)(S:Sl k X m b)(f:∀w,nz u w->JG (hO of w))(g:∀w,nz u w->w<u.ee.length->a w->w≠v->¬X (hO of w).toNat)
  (hv:v<s.val.length) (h:rd b (hO of v).toNat=x) (i:∀w,a w->w≠v->L w):Fits u of a {s with val:=s.val.set v x,steps:=s.steps+1} b:=by
 refine⟨S.len.trans F.len,λw c hl d=>?_,S.heap.trans F.heap,S.polls.trans F.polls⟩;show _=(s.val.set v x).getD w 0;rw[MM hv];by_cases e:w=v
 ·rw[if_pos e,e];exact h
 ·rw[if_neg e,S.WL _ (g w d c hl e)];exact F.val w c (i w hl e) d
theorem Fits.none{L c:Nat->Prop}{s:Rs} {m d:Ms}{k:Nat}(F:Fits u of L s m)(S:Sl k (λi=>12<=i/\i<15) m d)(a:∀w,nz u w->JG (hO of w))(e:∀w,nz u w->c w->L w):Fits u of c s d:=
 ⟨S.len.trans F.len,λw f hl b=>by
  rw[S.WL _ (by have:=(a w b).sc;omega)];exact F.val w f (e w b hl) b,S.heap.trans F.heap,S.polls.trans F.polls⟩
theorem Sh{y:Ni}{m:Ms}(h:5<=y.op/\y.op<=20):iZ fm y m=(m.put y.a (ti (JR y) (rd m) m.heap),none):=by
 unfold iZ
 grind
theorem UQ(p:Int)(x:Ni):(AP p x).length<=2:=by grind[AP]
theorem uM(p:Int)(sp:Nat):(ki p sp).length<=1:=by grind[ki]
theorem zfO(g:Good u){v:Nat}{x:Vl}(M:u.ee[v]? =some x)(hh:gJ u v=false)(q:∀w,nz u w->JG (hO of w)) {L Q:Nat->Prop}(hL:∀w,(Q w/\w≠v)\/w∈BP u v->L w)
  (ag:∀w,w<u.ee.length->Q w->w≠v->hO of w≠hO of v) {s:Rs} {m:Ms} (F:Fits u of L s m) (ah:s.val.length=u.ee.length) {kx:Nat} {r:List Ni} (hc:E0 l m.pc (pt of v x kx++r)) (R:leaves x.op=true->(mJ u of)[kx]? =some (Ss u of x.state v)) :
  (∃s1 d,uQ u fm v x s = .inr s1/\s1.val.length=u.ee.length/\Go fm l (pt of v x kx).length m d/\Fits u of Q s1 d/\d.steps=m.steps+(pt of v x kx).length/\(pt of v x kx).length<=4/\E0 l d.pc r/\s1.steps=s.steps+1)\/
  ∃j,uQ u fm v x s = .inl (zK u {s with steps:=s.steps+1} x.state v)/\j<=1/\mq fm l u of j m (Il u s x.state) s.heap x.state v:=by
 have ai:=(ke.1 M).1;have aj:=g.op v x M;have C:¬(x.op=1\/x.op=21):=by
  unfold gJ at hh;rw[M]at hh;simpa[iV]using hh
 have use:=g.use v x M;have tk:=λw p=>hL w (.inr (by unfold BP;rw[M];exact Zu _ p));have N:=λw p=>F.val w (by grind[iy]) (tk w p) (use w p);have pw:=λw p=>q w (use w p);have ng:¬Gv x.op=true->∀w,nz u w->w≠v:=λhn w ⟨y,hy,E⟩ e=>by
  simp_all
 have lv:leaves x.op=true->∀w∈nN u x.state,rd m (hO of w).toNat=s.of w:=λhl w p=>by
  have E:nz u w:=by
   unfold nN at p;split at p
   ·rename_i fs P
    let⟨f,T,p⟩:=Sg.1 p
    have h1:=(g.st _ fs P).2.2 f T
    grind
   ·cases p
  exact F.val w (iy E) (by grind[BP]) E
 have U:∀{d:Ms} {c:List Ni},Gv x.op=true->c.length<=4->¬(x.op=19\/x.op=20\/x.op=22\/x.op=23)->Go fm l c.length m d->Sl c.length (λi=>(12<=i/\i<15)\/i=(hO of v).toNat) m d->rd d (hO of v).toNat=ti x s.of s.heap->E0 l d.pc r->
   ∃s1 d,uQ u fm v x s = .inr s1/\s1.val.length=u.ee.length/\Go fm l c.length m d/\Fits u of Q s1 d/\d.steps=m.steps+c.length/\c.length<=4/\E0 l d.pc r/\s1.steps=s.steps+1:=λ{d c} E aa hn G S V hs=>by
  refine⟨{s with val:=s.val.set v (ti x s.of s.heap),steps:=s.steps+1},d,?_,by simp_all,G,F.set S q (λw p hl h1 h2=>?_) (by omega) V (by simp_all),S.steps,aa,hs,rfl⟩
  ·simp_all[uQ,if_neg]
  ·have p1:=q w p;have p2:=q v ⟨x,M,E⟩;have:=p1.sc;have:=p1.ne p2 (by simp_all);omega
 by_cases e2:x.op=2
 ·have e:pt of v x kx=AP (hO of v) ⟨1,0,0,0,x.n⟩:=by unfold pt;rw[if_neg C,if_pos e2]
  have E:Gv x.op=true:=by rw[e2];rfl
  rw[e]at hc⊢
  let⟨d,G,S,V⟩:=zdb (fm:=fm) (v:=qN x.n) F.len (q v ⟨x,M,E⟩).pos (by grind[iZ]) hc.left
  refine .inl (U E (by grind[UQ,hO]) (by omega) G ⟨S.pc,S.steps,S.len,λi hi=>S.WL i (by omega),S.heap,S.polls⟩ (V.trans ?_) (by rw[S.pc];exact hc.right))
  simp_all[ti,if_pos]
 have O:∀{m1 d:Ms} {c:List Ni} {s1:Rs} {k:Nat},¬Gv x.op=true->c.length=k+1->k+1<=4->uQ u fm v x s = .inr s1->s1.val=s.val->s1.steps=s.steps+1->Go fm l k m m1->Sl k (λi=>12<=i/\i<15) m m1->Go fm l 1 m1 d->d.mem=m1.mem->d.pc=m1.pc+1->d.steps=m1.steps+1->d.heap=s1.heap->d.polls=s1.polls->E0 l (m1.pc+1) r->
   ∃s1 d,uQ u fm v x s = .inr s1/\s1.val.length=u.ee.length/\Go fm l c.length m d/\Fits u of Q s1 d/\d.steps=m.steps+c.length/\c.length<=4/\E0 l d.pc r/\s1.steps=s.steps+1:=λ{m1 d c s1 k} E ab h4 ho hv o G S G1 hm hp ac ad ae hs=>by
  rw[ab];refine⟨s1,d,ho,by simp_all,G.trans G1,⟨by rw[hm];exact S.len.trans F.len,λw p ak W=>?_,ad,ae⟩,by rw[ac,S.steps];omega,h4,by simp_all,o⟩;have h1:rd d (hO of w).toNat=rd m1 (hO of w).toNat:=by unfold rd;rw[hm]
  rw[h1,S.WL _ (by have:=(q w W).sc;omega)];show _=s1.val.getD w 0;rw[hv];exact F.val w p (by simp_all) W
 by_cases A:x.op=19
 ·have H:jn x=[x.a,x.b]:=by unfold jn two;simp[A]
  have e:pt of v x kx=ki (hO of x.a) 12++ki (hO of x.b) 13++[⟨21,lB (hO of x.a) 12,lB (hO of x.b) 13,0,x.n⟩]:=by unfold pt;rw[if_neg C,if_neg e2,if_pos A]
  rw[e]at hc⊢;rw[Cy,Cy]at hc
  let⟨m1,G,S,r1,r2,I⟩:=Ug (fm:=fm) F.len (by simp_all) (by simp_all) hc
  have X:=uM (hO of x.a) 12;have l2:=uM (hO of x.b) 13;rw[N x.a (by simp[H])]at r1;rw[N x.b (by simp[H])]at r2;refine .inl (O (by rw[A];decide) (by simp;omega) (by simp;omega) (s1:={s with heap:=Eo s.heap (qN (s.of x.a+qN x.n)) (s.of x.b),steps:=s.steps+1}) (by simp_all[uQ,if_pos]) rfl rfl G S (.one I.left.hd (t:={m1.on with heap:=Eo m1.heap (qN (rd m1 (lB (hO of x.a) 12)+qN x.n)) (rd m1 (lB (hO of x.b) 13))}) (by rfl)) rfl rfl rfl ?_ (S.polls.trans F.polls) I.right);simp[r1,r2,S.heap,F.heap]
 by_cases B:x.op=20
 ·have hl:=g.putAt v x M B;have H:jn x=[x.a,x.b,x.args.getD 0 0]:=by
   unfold jn;rw[if_neg (by omega),if_pos B]
   match h:x.args,hl with
   |[w],_=>rfl
  have e:pt of v x kx=ki (hO of x.a) 12++ki (hO of x.b) 13++ki (hO of (x.args.getD 0 0)) 14++[⟨22,lB (hO of x.a) 12,lB (hO of x.b) 13,lB (hO of (x.args.getD 0 0)) 14,0⟩]:=by unfold pt;rw[if_neg C,if_neg e2,if_neg A,if_pos B]
  have T:uQ u fm v x s = .inr {s with heap:=Eo s.heap (qN (qN (s.of x.a+1)+s.of x.b)) (s.of (x.args.getD 0 0)),steps:=s.steps+1}:=by unfold uQ;rw[if_neg A,if_pos B]
  generalize x.args.getD 0 0=z at*;rw[e]at hc⊢;rw[Cy,Cy,Cy]at hc
  let⟨m1,G,S,r1,r2,r3,I⟩:=zd8 (fm:=fm) F.len (by simp_all) (by simp_all) (by simp_all) hc
  have X:=uM (hO of x.a) 12;have l2:=uM (hO of x.b) 13;have l3:=uM (hO of z) 14;rw[N x.a (by simp[H])]at r1;rw[N x.b (by simp[H])]at r2;rw[N z (by simp[H])]at r3;refine .inl (O (by rw[B];decide) (by simp;omega) (by simp;omega) T rfl rfl G S (.one I.left.hd (t:={m1.on with heap:=Eo m1.heap (qN (qN (rd m1 (lB (hO of x.a) 12)+1)+rd m1 (lB (hO of x.b) 13))) (rd m1 (lB (hO of z) 14))}) (by rfl)) rfl rfl rfl ?_ (S.polls.trans F.polls) I.right);simp[r1,r2,r3,S.heap,F.heap]
 by_cases D:x.op=22
 ·have H:jn x=[x.a]:=by unfold jn two uk;simp[D]
  have e:pt of v x kx=ki (hO of x.a) 12++[⟨25,lB (hO of x.a) 12,0,0,kx⟩]:=by unfold pt;rw[if_neg C,if_neg e2,if_neg A,if_neg B,if_pos D]
  have J:leaves x.op=true:=by rw[D];rfl
  have R:=R J;have lv:=lv J;rw[e]at hc⊢;rw[Cy]at hc
  let⟨m1,G,S,r1,I⟩:=Py (fm:=fm) F.len (by simp_all) hc
  have X:=uM (hO of x.a) 12;rw[N x.a (by simp[H])]at r1;have o:iZ fm ⟨25,lB (hO of x.a) 12,0,0,kx⟩ m1=(m1.on,if s.of x.a=0 then some (kx:Int) else none):=by simp[iZ,r1]
  by_cases h0:s.of x.a=0
  ·right;rw[if_pos h0]at o;refine⟨_,by simp_all[uQ,if_neg,if_pos],X,m1,m1.on,_,kx,_,G,I.left.hd,o,R,rfl,rfl,?_,S.heap.trans F.heap,by show m1.steps+1=_;rw[S.steps]⟩;refine KT (m:=m1.on) q g (λw p=>?_) _;have E:nz u w:=by
    unfold nN at p;split at p
    ·rename_i fs P
     let⟨f,T,p⟩:=Sg.1 p
     have h1:=(g.st _ fs P).2.2 f T
     grind
    ·cases p
   show rd m1 _=_;rw[S.WL _ (by have:=(q w E).sc;omega)]
   simp_all
  ·left;rw[if_neg h0]at o;exact O (by rw[D];decide) (by simp) (by simp;omega) (s1:={s with steps:=s.steps+1}) (by simp_all[uQ,if_neg,if_pos]) rfl rfl G S (.one I.left.hd o) rfl rfl rfl (S.heap.trans F.heap) (S.polls.trans F.polls) I.right
 by_cases K:x.op=23
 ·have e:pt of v x kx=[⟨26,0,0,0,kx⟩]:=by unfold pt;rw[if_neg C,if_neg e2,if_neg A,if_neg B,if_neg D,if_pos K]
  have J:leaves x.op=true:=by rw[K];rfl
  have R:=R J;have lv:=lv J;rw[e]at hc⊢;have o:iZ fm ⟨26,0,0,0,kx⟩ m=if 0<=fm/\(m.polls:Int)=fm then(m.on,some (kx:Int)) else({m.on with polls:=m.polls+1},none):=by simp[iZ]
  rw[F.polls]at o;by_cases h0:0<=fm/\(s.polls:Int)=fm
  ·right;rw[if_pos h0]at o;refine⟨0,by simp_all[uQ,if_neg,if_pos],by omega,m,m.on,_,kx,_,.nil _,hc.left.hd,o,R,rfl,rfl,?_,F.heap,rfl⟩;exact KT (m:=m.on) q g (λw p=>lv w p) _
  ·left;rw[if_neg h0]at o;exact O (k:=0) (by rw[K];decide) rfl (by omega) (s1:={s with steps:=s.steps+1,polls:=s.polls+1}) (by simp_all[uQ,if_neg,if_pos]) rfl rfl (.nil _) (.refl _ _) (.one hc.left.hd o) rfl rfl rfl F.heap rfl hc.right
 have E:Gv x.op=true:=by
  unfold Gv;simp[JD,yU,Ey];omega
 have pv:=q v ⟨x,M,E⟩
 have Y:∀{m1:Ms} {k:Nat} {c:List Ni} {y:Ni},k<=2->5<=y.op/\y.op<=20->Go fm l k m m1->Sl k (λi=>12<=i/\i<15) m m1->E0 l m1.pc (AP (hO of v) y++r)->ti (JR y) (rd m1) m1.heap=ti x s.of s.heap->c.length=k+(AP (hO of v) y).length->
   ∃s1 d,uQ u fm v x s = .inr s1/\s1.val.length=u.ee.length/\Go fm l c.length m d/\Fits u of Q s1 d/\d.steps=m.steps+c.length/\c.length<=4/\E0 l d.pc r/\s1.steps=s.steps+1:=λ{m1 k c y} hk hy G S hs hv Z=>by
  let⟨d,G',S',V⟩:=zdb (fm:=fm) (v:=ti x s.of s.heap) (S.len.trans F.len) pv.pos (λr=>(Sh (y:={y with a:=r}) hy).trans (by rw[<-hv];rfl)) hs.left
  have:=UQ (hO of v) y;refine U E (by omega) (by omega) (by rw[Z];exact G.trans G') (by rw[Z];exact S.trans S' (by omega) (by omega)) V (by rw[S'.pc];exact hs.right)
 by_cases e1:x.op=8\/x.op=9\/x.op=15\/x.op=16\/x.op=17
 ·have H:jn x=[x.a]:=by unfold jn two uk;rcases e1 with e|e|e|e|e <;> simp[e]
  have e:pt of v x kx=ki (hO of x.a) 12++AP (hO of v) ⟨x.op+2,0,lB (hO of x.a) 12,0,if x.op=17 then x.n else 0⟩:=by unfold pt;rw[if_neg C,if_neg e2,if_neg A,if_neg B,if_neg D,if_neg K,if_pos e1]
  rw[e]at hc⊢;rw[Cy]at hc
  let⟨m1,G,S,r1,I⟩:=Py (fm:=fm) F.len (by simp_all) hc
  have X:=uM (hO of x.a) 12;rw[N x.a (by simp[H])]at r1;refine .inl (Y (by omega) (by grind) G S I ?_ (by simp));rw[S.heap,F.heap]
  grind[za2,JR]
 have ht:two x.op=true:=by
  unfold two;simp[JD,yF,yU,Ey];omega
 have H:jn x=[x.a,x.b]:=by unfold jn;rw[if_neg (by omega),if_neg (by omega),if_pos ht]
 have e:pt of v x kx=ki (hO of x.a) 12++ki (hO of x.b) 13++AP (hO of v) ⟨x.op+2,0,lB (hO of x.a) 12,lB (hO of x.b) 13,0⟩:=by unfold pt;rw[if_neg C,if_neg e2,if_neg A,if_neg B,if_neg D,if_neg K,if_neg e1]
 rw[e]at hc⊢;rw[Cy,Cy]at hc
 let⟨m1,G,S,r1,r2,I⟩:=Ug (fm:=fm) F.len (by simp_all) (by simp_all) hc
 have X:=uM (hO of x.a) 12;have l2:=uM (hO of x.b) 13;rw[N x.a (by simp[H])]at r1;rw[N x.b (by simp[H])]at r2;refine .inl (Y (by grind) (by grind) G S I ?_ (by simp;omega));rw[S.heap,F.heap]
 grind[za4,JR]
theorem Yv(g:Good u)(f:∀w,nz u w->JG (hO of w)){P:Nat->Prop}{fuel:Nat}:∀{r:List Nat}{s:Rs}{m:Ms}{kx:Nat}{c:List Ni},(∀v∈r,gJ u v=false)->
  (∀a v b,r=a++v::b->∀w,w<u.ee.length->bh u b P w->w≠v->hO of w≠hO of v)->(∀a v (b:List Nat) x,r=a++v::b->u.ee[v]? =some x->leaves x.op=true->(mJ u of)[kx+(jD u of a).length]? =some (Ss u of x.state v))->
  Fits u of (bh u r P) s m->s.val.length=u.ee.length->E0 l m.pc (jZ u of r kx++c)->
  match p7 u fm fuel r s with
  | .inr s'=>s'.val.length=u.ee.length/\s.steps<=s'.steps/\∃n d,Go fm l n m d/\Fits u of P s' d/\n+4*s.steps<=4*s'.steps/\d.steps=m.steps+n/\E0 l d.pc c
  | .inl (.left k fr hp st iU)=>∃j,mq fm l u of j m fr hp st iU/\j+4*s.steps<=4*k
  | .inl _=>True
 |[],s,m,kx,c,_,_,_,F,hv,hc=>⟨hv,jJ _,0,m,.nil _,F,by omega,rfl,hc⟩
 | v ::r,s,m,kx,c,hr,hap,hX,F,hv,hc=>by
   unfold p7;by_cases hf:fuel<=s.steps
   ·rw[if_pos hf];trivial
   rw[if_neg hf]
   cases hx:u.ee[v]? with
   |none=>trivial
   | some x =>
     simp only;have q:=hr v (by simp);have e1:jZ u of (v::r) kx=pt of v x kx++jZ u of r (kx+(EG u of v x).length):=by
       show Aa u of v kx++jZ u of r (kx+(tP u of v).length)=_;unfold Aa tP;rw[hx]
     rw[e1,Cy]at hc;have h:=hX [] v r x rfl hx;rcases zfO g hx q f (λw i=>by
        show if gJ u v=true then _ else _
        rw[if_neg (by rw[q];simp)];exact i) (hap [] v r rfl) F hv hc (by simpa[jD]using h)with⟨s1,m1,ho,hv1,G,t,hs,Q,hc1,hst⟩|⟨j,ho,z,L⟩
     ·rw[ho]
      simp only
      have A:=Yv (fuel:=fuel) g f (λw i=>hr w (by simp[i])) (λa w b e=>hap (v::a) w b (by rw[e];rfl))
        (fun a w b y e B hl=>by
          have:=hX (v::a) w b y (by rw[e];rfl) B hl;have e2:(jD u of (v::a)).length=(EG u of v x).length+(jD u of a).length:=by
            show(tP u of v++jD u of a).length=_;unfold tP;rw[hx,qu]
          rw[e2,<-Zz]at this;exact this) t hv1 hc1
      revert A
      cases hq:p7 u fm fuel r s1 with
      | inr s'=>
        rintro⟨C,R,n,d,G',F',S,D,o⟩
        exact⟨C,by omega,_,d,G.trans G',F',by omega,by omega,o⟩
      | inl e=>
        cases e with
        | left k fr hp st iU=>
          rintro⟨j,⟨p,E,y,e,X,G',H,I,J,K,M,N,O,T⟩,z⟩
          exact⟨_,⟨p,E,y,e,X,G.trans G',H,I,J,K,M,N,O,by omega⟩,by omega⟩
        |AE=>exact λ_=>trivial
        |stuck=>exact λ_=>trivial
     ·rw[ho]
      simp only;show ∃j,mq fm l u of j m (Il u s x.state) s.heap x.state v/\_;exact⟨j,L,by show j+4*s.steps<=4*(s.steps+1);omega⟩
end
section
variable{fm:Int}{l:List Ni}{u:U}{of:List Int}
def Dp(p:Int):Prop:=lC p/\p≠13
theorem Vj:∀{out:List Mv} {σ a:Int->Int},(∀x∈out,Dp x.1/\Dp x.2)->(∀p,Dp p->σ p=a p)->∀p,Dp p->xU out σ p=xU out a p
 |[],_,_,_,h,p,hp=>h p hp
 | x::out,σ,a,ho,h,p,hp=>by
   show xU out (Un.Lm σ x.2 (σ x.1)) p=xU out (Un.Lm a x.2 (a x.1)) p;refine Vj (λy b=>ho y (by simp[b])) (λq hq=>?_) p hp;unfold Un.Lm;split
   ·exact h _ (ho x (by simp)).1
   ·exact h q hq
theorem Wc:∀{out:List Mv}{m:Ms}{r:List Ni},m.mem.length=416->(∀x∈out,Dp x.1/\Dp x.2)->E0 l m.pc (out.flatMap td++r)->
  ∃a,Go fm l (out.flatMap td).length m a/\a.mem.length=416/\a.steps=m.steps+(out.flatMap td).length/\a.heap=m.heap/\a.polls=m.polls/\E0 l a.pc r/\∀p,Dp p->rd a p.toNat=xU out (λq=>rd m q.toNat) p
 |[],m,r,hl,_,hc=>⟨m,.nil _,hl,rfl,rfl,rfl,hc,λ_ _=>rfl⟩
 | x ::out,m,r,hl,ho,hc=>by
   let⟨d1,d2⟩:=ho x (by simp)
   rw[wA6,Cy]at hc
   let⟨m1,G,S,e⟩:=zeO (fm:=fm) hl d1.1 d2.1 ⟨d1.2,d2.2⟩ hc.left
   let⟨a,G',c,d,f,g,i,j⟩:=Wc (out:=out) (r:=r) (S.len.trans hl) (λy b=>ho y (by simp[b])) (by rw[S.pc];exact hc.right)
   rw[wA6,qu];refine⟨a,G.trans G',c,by rw[d,S.steps];omega,f.trans S.heap,g.trans S.polls,i,λp hp=>(j p hp).trans ?_⟩;refine Vj (λy b=>ho y (by simp[b])) (λq hq=>?_) p hp;show rd m1 q.toNat=if q=x.2 then rd m x.1.toNat else rd m q.toNat
   split
   ·rename_i h;rw[h,e]
   ·rename_i h
    refine S.WL _ ?_;have k:=hq.1;have n:=d2.1;have o:=hq.2;unfold lC at k n;omega
theorem St:∀{out:List Mv},(∀x∈out,Dp x.1/\Dp x.2)->(out.flatMap td).length=cost out
 |[],_=>rfl
 | x::out,h=>by
   let⟨d1,d2⟩:=h x (by simp)
   rw[wA6,qu,St λy a=>h y (by simp[a]),(U2 (u:=⟨0,0,[],[],[]⟩) (nb:=0) (ne:=0) d1.1 d2.1).2];rfl
theorem pY(u:U)(l:List Nat):l.takeWhile (gN u)++l.dropWhile (gN u)=l:=wBa
theorem JE{u:U}{l:List Nat}{v:Nat}(h:v∈l.takeWhile (gN u)):gJ u v=true:=Sx.1 List.all_takeWhile v h
variable{In Out:Nat->Nat->Prop}
theorem WC(g:Good u)(A:mn u (iu u) In Out){t w:Nat}{B:Bk}(a:u.blocks[t]? =some B)(b:bh u (B.ee.dropWhile (gN u)) (Out t) w):In t w:=by
 have hv:iD u t=B.ee:=by unfold iD;rw[a]
 refine(A.FK t w (ke.1 a).1).2 ?_;refine(zbN (d:=[]) rfl (g.pw t)).2 ?_;have e:=(MP (l:=B.ee.takeWhile (gN u)) λv h=>JE h).2 b;rw[pY]at e;rw[Ku,hv];exact e
theorem Zc{t w:Nat}(b:u.blocks[t]? =some B)(c:∀v∈B.ee.dropWhile (gN u),gJ u v=false)(d:At u w t j)(e:gJ u w=true):w∈B.ee.takeWhile (gN u):=by
 have hv:iD u t=B.ee:=by unfold iD;rw[b]
 have a:w∈B.ee:=by rw[<-hv];exact JF.2 ⟨j,d⟩
 rw[<-pY u B.ee]at a;rcases yX.1 a with h|h
 ·exact h
 ·have:=c w h;rw[e]at this;cases this
theorem XD(g:Good u)(A:mn u (iu u) In Out){p t w:Nat}{B:Bk}(a:u.blocks[t]? =some B)(hp:t∈next u p)(d:∀v∈B.ee.dropWhile (gN u),gJ u v=false)(f:bh u (B.ee.dropWhile (gN u)) (Out t) w)(h:w ∉ B.ee.takeWhile (gN u)):Out p w:=by
 have hi:=WC g A a f
 let⟨c,j,b,k,i⟩:=g.Yu A hi
 refine g.zgY A hp hi b (.inl λe=>?_);subst e;exact h (Zc a d b (i rfl))
end
section
variable{fm:Int}{l:List Ni}{u:U}{of:List Int}{In Out:Nat->Nat->Prop}{fF:Int}
theorem Q6(g:Good u)(a:kK u Out of fF):∀w,nz u w->JG (hO of w):=λw b=>by
 have h:=(EE a (iy b)).2;have:=a.s1
 grind[OT,JG]
theorem MH(a:kK u Out of fF){v w:Nat}(hv:v<u.ee.length)(b:w<u.ee.length)(h:of[w]?≠of[v]?):hO of w≠hO of v:=λe=>h (by rw[(EE a b).1,(EE a hv).1,e])
theorem Qu{p:Nat}:∀{l:List Nat},p∈l->l.findIdx? (·== p)=some (jM p l)/\l[jM p l]? =some p
 | [q],h=>by
   obtain rfl:p=q:=by simp_all
   exact⟨by simp[jM],rfl⟩
 | q ::r::l,h=>by
   unfold jM;by_cases e:q=p
   ·grind
   ·rw[if_neg e]
    have a:=Qu (by
      rcases Aw.1 h with h|h
      ·exact absurd h.symm e
      ·exact h)
    grind
theorem N4{p t:Nat}(g:Good u)(a:u.blocks[t]? =some B):mN u of p t=(B.ee.takeWhile (gN u)).flatMap (rA u of (jM p B.fk)):=by
 unfold mN;rw[a];simp only
 conv=>lhs;rw[<-pY u B.ee]
 rw [wA2];have:(B.ee.dropWhile (gN u)).flatMap (rA u of (jM p B.fk))=[]:=by
  rw[List.flatMap_eq_nil_iff];intro v hv;have h:gJ u v=false:=Bw g a v hv;unfold rA;split
  ·simp_all[gJ,if_neg,iV]
  ·rfl
 simp_all
theorem Sv(j:Nat):∀l:List Nat,(l.flatMap (rA u of j)).length<=l.length
 |[]=>PM _
 | v::l=>by
   have a:=Sv j l
   grind[rA,qu,Re]
theorem zbO(g:Good u)(A:mn u (iu u) In Out)(L:kK u Out of fF){p t:Nat}{B:Bk}(b:u.blocks[t]? =some B)(D:t∈next u p){c:List Ni}(hc:Vd u of p t c){s:Rs}{m:Ms}(F:Fits u of (Out p) s m)(hv:s.val.length=u.ee.length){locals:List Int}{r:List Ni}(hs:E0 l m.pc (c++r)) :
  ∃I,Go fm l c.length m I/\Fits u of (bh u (B.ee.dropWhile (gN u)) (Out t)) (lR u locals (some p) B s) I/\I.steps=m.steps+c.length/\c.length<=2*(B.ee.takeWhile (gN u)).length/\E0 l I.pc r:=by
 obtain⟨out,M,rfl⟩:=hc
 let⟨hpl',htl,ht0⟩:=g.KV D
 have N:p∈B.fk:=by rw[g.fk t B b];exact mK.2 D
 let⟨w1,w2⟩:=Qu N
 have T:=(ke.1 w2).1;have U:=Q6 g L;have V:iD u t=B.ee:=by unfold iD;rw[b]
 have W:∀x∈mN u of p t,∃v y a k,At u v t k/\v∈B.ee.takeWhile (gN u)/\u.ee[v]? =some y/\y.op=21/\y.args[jM p B.fk]? =some a/\x=(hO of a,hO of v)/\nz u a/\nz u v:=λx z=>by
  rw[N4 g b]at z
  let⟨v,hv,j⟩:=Sg.1 z
  unfold rA at j;split at j
  ·rename_i y f;split at j
   ·rename_i e;have E:=List.takeWhile_sublist _|>.subset hv
    let⟨k,hk⟩:=mz.1 E
    have⟨_,hl⟩:=g.XS v t k y B ⟨B,b,hk⟩ f e b;have n:y.args[jM p B.fk]? =some (y.args.getD (jM p B.fk) 0):=by rw[IY,hZ (by omega)];rfl
    refine⟨v,y,_,k,⟨B,b,hk⟩,hv,f,e,n,Hh.1 j,g.use v y f _ ?_,⟨y,f,by rw[e];rfl⟩⟩
    simp_all[jn,if_pos,yN]
   ·cases j
  ·cases j
 have dp:∀q,JG q->Dp q:=λq h=>⟨h.pos,by grind[JG]⟩
 have X:Dp 15:=⟨.inl (by omega),by omega⟩
 have df:∀q∈qI (mN u of p t),JG q:=λq hq=>by
  obtain⟨x,z,rfl⟩:=pN.1 hq
  grind
 have dt:∀q∈km (mN u of p t),JG q:=λq hq=>by
  obtain⟨x,z,rfl⟩:=iP.1 hq
  grind
 have hd:∀x∈out,Dp x.1/\Dp x.2:=λx z=>by
  let⟨h1,h2⟩:=M.FK x z
  grind
 let⟨I,G,Y,Z,a3,a4,a5,a6⟩:=Wc (fm:=fm) F.len hd hs
 have hlen:(mN u of p t).length<=(B.ee.takeWhile (gN u)).length:=by rw[N4 g b];exact Sv _ _
 refine⟨I,G,⟨Y,λw J hl hg=>?_,a3.trans F.heap,a4.trans F.polls⟩,Z,by rw[St hd];have:=M.cost;omega,a5⟩
 have O:(lR u locals (some p) B s).of w=if w∈B.ee.takeWhile (gN u) then ME u locals (some p) B s.of w else s.of w:=
  Lz (B.ee.takeWhile (gN u)) s.val λv E=>by
   let⟨k,hk⟩:=mz.1 ((List.takeWhile_sublist _).subset E)
   rw[hv];exact g.uP v t k ⟨B,b,hk⟩
 rw[O,a6 _ (by simp_all)]
 let⟨sm1,sm2⟩:=M.sem Int λq=>rd m q.toNat
 split
 ·rename_i K;have H:=JE K
  let⟨k,hk⟩:=mz.1 ((List.takeWhile_sublist _).subset K)
  have d:At u w t k:=⟨B,b,hk⟩
  let⟨y,f,e⟩:=g.BK d
  rw [e]at H;have o:y.op=21:=by
   simp[iV,JD,Ey]at H;rcases H with h|h
   ·exact absurd (g.par w t k y d f h) ht0
   ·exact h
  have⟨_,hl⟩:=g.XS w t k y B d f o b;have n:y.args[jM p B.fk]? =some (y.args.getD (jM p B.fk) 0):=by rw[IY,hZ (by omega)];rfl
  have j:(hO of (y.args.getD (jM p B.fk) 0),hO of w)∈mN u of p t:=by
   rw[N4 g b];refine Sg.2 ⟨w,K,?_⟩;unfold rA;rw[f];simp only;rw[if_pos o];simp
  have P:y.args.getD (jM p B.fk) 0∈jn y:=by
   unfold jn;rw[if_pos o];exact yN n
  have C:=g.use w y f _ P;have J:ME u locals (some p) B s.of w=s.of (y.args.getD (jM p B.fk) 0):=by
   unfold ME;rw[f];simp only;rw[if_neg (by omega),w1]
  rw[J,sm1 _ j];exact F.val _ (iy C) (g.zfH A d f o b w2 n) C
 ·rename_i K;have Q:=XD g A b D (Bw g b) hl K;rw[sm2 _ (by grind[JG])]
  ·exact F.val w J Q hg
  ·intro j
   let⟨x,z,ex⟩:=iP.1 j
   obtain⟨v,y,a,k,_,R,f,_,_,rfl,_,gv⟩:=W x z
   let⟨i,hi⟩:=mz.1 R
   have S:=(ke.1 hi).1;have d:At u v t i:=⟨B,b,by rw[<-pY u B.ee,UF S];exact hi⟩
   refine MH L (iy gv) J ((L.pa t i).ap v d w J ?_ (by grind)) ex.symm
   grind[pY,MP,JE,List.drop_sublist]
theorem zd7(a c d:List Ni):E0 (a++c++d) a.length c:=λi x hi=>by
 have:=(ke.1 hi).1;rw[Cy,Ze (by omega),wBP,UF this];exact hi
theorem Sk{cs:List (List Ni)}{b:Nat}{c:List Ni}(h:cs[b]? =some c)(f:Ni->Ni):E0 (cs.flatten.map f) (cs.take b).flatten.length (c.map f):=by
 let⟨a,d⟩:=ke.1 h
 have e:cs.flatten=(cs.take b).flatten++c++(cs.drop (b+1)).flatten:=by
  conv=>lhs;rw[<-wAu b cs,wAb a,d]
  rw[List.flatten_append,List.flatten_cons,Cy]
 rw[e,SL,SL];have:=zd7 ((cs.take b).flatten.map f) (c.map f) ((cs.drop (b+1)).flatten.map f);rw[RC]at this;exact this
theorem yh{bs:List Nat}:∀{c:List Ni},(∀x∈c,tM x=false)->c.map (patch bs)=c
 |[],_=>rfl
 | x::c,h=>by
   rw[wBW,yh λy a=>h y (by simp[a])];unfold patch;rw[if_neg (by rw[h x (by simp)];simp)]
theorem yJ(p:Int)(sp:Nat):∀x∈ki p sp,tM x=false:=by
 unfold ki;split
 ·simp
 ·simp[Zk,tM]
theorem Ty{y:Ni}(h:tM y=false):∀x∈AP p y,tM x=false:=by
 unfold AP;split
 ·simpa[tM]using h
 ·simpa[tM,WO]using h
theorem zcE(x:Mv):∀y∈td x,tM y=false:=by
 unfold td;split <;> split <;> simp[tM,WO,Zk]
theorem yI{a:List Ni}(c:∀x∈a,tM x=false)(d:∀x∈b,tM x=false):∀x∈a++b,tM x=false:=λx e=>(yX.1 e).elim (c x) (d x)
theorem zeU{v k:Nat}(h:x.op<=23):∀y∈pt of v x k,tM y=false:=by
 unfold pt;split
 ·simp
 split
 ·exact Ty rfl
 split
 ·exact yI (yI (yJ _ _) (yJ _ _)) (by simp[tM])
 split
 ·exact yI (yI (yI (yJ _ _) (yJ _ _)) (yJ _ _)) (by simp[tM])
 split
 ·exact yI (yJ _ _) (by simp[tM])
 split
 ·simp[tM]
 split
 ·rename_i e;exact yI (yJ _ _) (Ty (by rcases e with e|e|e|e|e <;> simp[tM,e]))
 ·exact yI (yI (yJ _ _) (yJ _ _)) (Ty (by
   simp[tM,wBe,Ym];omega))
theorem Qh(g:Good u):∀vs k,∀y∈jZ u of vs k,tM y=false
 |[],_=>by simp[jZ]
 | v ::vs,k=>by
   refine yI ?_ (Qh g vs _);unfold Aa;split
   ·rename_i x a
    exact zeU (g.op v x a).2
   ·simp
theorem Y2{p t:Nat}{c:List Ni}(h:Vd u of p t c):∀y∈c,tM y=false:=by
 obtain⟨out,_,rfl⟩:=h;intro y a
 let⟨x,_,hx⟩:=Sg.1 a
 exact zcE x y hx
theorem Qi(g:Good u):∀{a:List Nat}{k:Nat},(∀v∈a,gJ u v=true)->jZ u of a k=[]/\jD u of a=[]
 |[],_,_=>⟨rfl,rfl⟩
 | v ::a,k,h=>by
   have hv:=h v (by simp);have e:Aa u of v k=[]/\tP u of v=[]:=by
     unfold Aa tP;unfold gJ at hv
     cases hx:u.ee[v]? with
     |none=>exact⟨rfl,rfl⟩
     | some x=>
       rw[hx]at hv;simp[iV,JD]at hv;refine⟨?_,?_⟩
       ·show pt of v x k=[]
        unfold pt;rw[if_pos hv]
       ·show EG u of v x=[]
        unfold EG;rw[if_neg (by omega)]
   let⟨b,c⟩:=Qi g (a:=a) (k:=k+(tP u of v).length) λw d=>h w (by simp[d])
   exact⟨by show Aa u of v k++_=_;rw[e.1,b];rfl,by show tP u of v++jD u of a=_;rw[e.2,c];rfl⟩
theorem XN{α:Type}(a:List α)(x:α)(b:List α):(a++x::b)[a.length]? =some x:=by rw[Ze (jJ _),Nat.sub_self];rfl
def UX(u:U)(of:List Int)(b:Nat):Nat:=((u.blocks.take b).flatMap (Dy u of)).length
theorem zcy{b:Nat}(a:u.blocks[b]? =some B):∃q,mJ u of=(u.blocks.take b).flatMap (Dy u of)++(jD u of B.ee++(Nv u of B++q)):=by
 let⟨c,d⟩:=ke.1 a
 refine⟨(u.blocks.drop (b+1)).flatMap (Dy u of),?_⟩;unfold mJ
 conv=>lhs;rw[<-wAu b u.blocks,wAb c,d]
 rw[wA2,wA6];show _++(jD u of B.ee++Nv u of B++_)=_;rw[Cy]
theorem Fits.jump{P:Nat->Prop} {s s':Rs} {m d:Ms}(F:Fits u of P s m)(e:d.mem=m.mem)(f:d.heap=m.heap)(g:d.polls=m.polls)(e1:s'.val=s.val)(e2:s'.heap=s.heap)(h:s'.polls=s.polls):Fits u of P s' d:=
 ⟨by rw[e];exact F.len,λw a b c=>by
  have:s'.of w=s.of w:=by unfold Rs.of;rw[e1]
  rw[this];show d.mem.getD _ 0=_;rw[e];exact F.val w a b c,by rw[f,e2];exact F.heap,by rw[g,h];exact F.polls⟩
theorem IV(fm:Int)(x:Ni)(s:Ms):(iZ fm x s).1.steps=s.steps+1:=by
 unfold iZ;by_cases h0:x.op=1
 ·rw[if_pos h0];rfl
 rw[if_neg h0];by_cases e:x.op=2
 ·rw[if_pos e];rfl
 rw[if_neg e];by_cases f:x.op=3
 ·rw[if_pos f];rfl
 rw[if_neg f];by_cases g:x.op=4
 ·rw[if_pos g];rfl
 rw[if_neg g];by_cases i:x.op<=20
 ·rw[if_pos i];rfl
 rw[if_neg i];by_cases j:x.op=21
 ·rw[if_pos j];rfl
 rw[if_neg j];by_cases k:x.op=22
 ·rw[if_pos k];rfl
 rw[if_neg k];by_cases l:x.op=23
 ·rw[if_pos l];rfl
 rw[if_neg l];by_cases b:x.op=24
 ·rw[if_pos b];by_cases h:rd s x.a=0
  ·rw[if_pos h];rfl
  ·rw[if_neg h];rfl
 rw[if_neg b];by_cases c:x.op=25
 ·rw[if_pos c];rfl
 rw[if_neg c];by_cases d:x.op=26
 ·rw[if_pos d];by_cases h:0<=fm/\(s.polls:Int)=fm
  ·rw[if_pos h];rfl
  ·rw[if_neg h];rfl
 rw[if_neg d];rfl
theorem Go.steps{l:List Ni} {m a:Ms}(G:Go fm l n m a):a.steps=m.steps+n:=by
 have st:∀{x:Ni} {s t:Ms} {o:Option Int},iZ fm x s=(t,o)->t.steps=s.steps+1:=λ{x s t o} h=>by
  have:=IV fm x s;rw[h]at this;exact this
 induction G with
 |nil=>rfl
 |cons _ hs _ b=>rw[b,st hs];omega
theorem mq.pre{l:List Ni}{st:Nat} {m a:Ms}{fr:List Fw}{hp:List Int}{iU:Int}(G:Go fm l n m a)(L:mq fm l u of j a fr hp st iU):mq fm l u of (n+j) m fr hp st iU:=by
 let⟨m1,b,x,e,X,G',c,d,f,g,h,i,k,o⟩:=L
 exact⟨m1,b,x,e,X,G.trans G',c,d,f,g,h,i,k,by rw[o,G.steps];omega⟩
def W6(fm:Int)(l:List Ni)(u:U)(of:List Int)(m:Ms)(n:Nat)(r:Ex):Prop:=match r with
 | .left k fr hp st iU=>∃j,mq fm l u of j m fr hp st iU/\j+4*n<=4*k
 |_=>True
theorem zab{a c:List Nat}{v:Nat}(d:u.ee[v]? =some x)(b:leaves x.op=true):jD u of (a++v::c)=jD u of a++(Ss u of x.state v::jD u of c):=by
 have:tP u of v=[Ss u of x.state v]:=by
  unfold tP;rw[d];exact if_pos (by simpa[leaves]using b)
 unfold jD;rw[wA2,wA6,this];rfl
theorem zcu(g:Good u)(A:mn u (iu u) In Out)(Q:kK u Out of fF){cs:List (List Ni)}(V:zi u of u.blocks 0 0 cs){locals:List Int}{fuel:Nat} :
  ∀JQ qJ b s m B,u.blocks[b]? =some B->Fits u of (bh u (B.ee.dropWhile (gN u)) (Out b)) (lR u locals qJ B s) m->s.val.length=u.ee.length->
   (∃c3,RD u of b B (UX u of b+(jD u of B.ee).length) c3/\E0 (cs.flatten.map (patch (iL 0 cs))) m.pc (jZ u of B.ee (UX u of b)++c3.map (patch (iL 0 cs))))->
   W6 fm (cs.flatten.map (patch (iL 0 cs))) u of m (lR u locals qJ B s).steps (runM u locals fm fuel JQ qJ b s)
 |0,_,_,_,_,_,_,_,_,_=>True.intro
 | JQ+1,qJ,b,s,m,B,hB,F,hv,⟨c3,he,hc⟩=>by
   have J:=Q6 g Q;have aa:iD u b=B.ee:=by unfold iD;rw[hB]
   have ab:=(ke.1 hB).1;generalize hl:cs.flatten.map (patch (iL 0 cs))=l at*
   let⟨q,hq⟩:=zcy (of:=of) hB
   let⟨n1,n2⟩:=Qi (of:=of) g (a:=B.ee.takeWhile (gN u)) (k:=UX u of b) λv h=>JE h
   have hE:jD u of B.ee=jD u of (B.ee.dropWhile (gN u)):=by
     conv=>lhs;rw[<-pY u B.ee]
     unfold jD at n2⊢;rw[wA2,n2,RL]
   have hC:jZ u of B.ee (UX u of b)=jZ u of (B.ee.dropWhile (gN u)) (UX u of b):=by
     conv=>lhs;rw[<-pY u B.ee]
     rw[FN,n1,n2];rfl
   rw[hC]at hc;have ac:(lR u locals qJ B s).val.length=u.ee.length:=(La _ _).trans hv;have ad:∀a v c,B.ee.dropWhile (gN u)=a++v::c->At u v b ((B.ee.takeWhile (gN u)).length+a.length)/\B.ee.drop ((B.ee.takeWhile (gN u)).length+a.length+1)=c:=λa v c e=>by
     have H:=pY u B.ee;rw[e]at H;have ae:∀T,T++(a++v::c)=B.ee->B.ee[T.length+a.length]? =some v/\B.ee.drop (T.length+a.length+1)=c:=λT K=>by
       rw[<-K];refine⟨?_,?_⟩
       ·rw[Ze (by omega),wBP];exact XN _ _ _
       ·rw[<-Cy,List.append_cons]
        rw[List.drop_left' (by simp;omega)]
     let⟨k1,k2⟩:=ae _ H
     exact⟨⟨B,hB,k1⟩,k2⟩
   have R:=Yv (fm:=fm) (fuel:=fuel) (l:=l) (c:=c3.map (patch (iL 0 cs))) g J (r:=B.ee.dropWhile (gN u)) (s:=lR u locals qJ B s) (m:=m) (kx:=UX u of b) (Bw g hB)
     (fun a v c e w I hb hn=>by
       let⟨H,W⟩:=ad a v c e
       refine MH Q (g.uP v b _ H) I ((Q.pa b _).ap v H w I ?_ hn);rw[aa,W];exact hb)
     (fun a v c x e hx ag=>by
       rw[hq,hE,e];rw[zab hx ag,Cy,wBS,<-Cy];have:=XN ((u.blocks.take b).flatMap (Dy u of)++jD u of a) (Ss u of x.state v) (jD u of c++(Nv u of B++q));rw[qu]at this;exact this) F ac hc
   unfold runM;rw[hB];simp only;revert R
   cases hr:p7 u fm fuel (B.ee.dropWhile (gN u)) (lR u locals qJ B s)with
   | inl e=>
     cases e with
     |left k fr hp st iU=>exact λR=>R
     |AE=>exact λ_=>True.intro
     |stuck=>exact λ_=>True.intro
   | inr s1 =>
     rintro⟨L,ak,n,m1,G,S,hn,al,p⟩;simp only;by_cases hf:fuel<=s1.steps
     ·rw[if_pos hf];exact True.intro
     rw[if_neg hf];by_cases M:B.fin=3
     ·rw[if_pos M]
      show ∃j,mq fm l u of j m (Il u s1 B.state) s1.heap B.state (-1)/\_;unfold RD at he;rw[if_neg (by omega),if_neg (by omega)]at he;subst he;rw[yh (by simp[tM])]at p;refine⟨n+0,.pre G ⟨m1,m1.on,_,UX u of b+(jD u of B.ee).length,Ss u of B.state (-1),.nil _,p.hd,by simp[iZ],?_,rfl,rfl,?_,S.heap,rfl⟩,by show n+0+_<=4*(s1.steps+1);omega⟩
      ·rw[hq]
       unfold Nv;rw[if_neg (by omega),List.singleton_append,<-Cy];have:=XN ((u.blocks.take b).flatMap (Dy u of)++jD u of B.ee) (Ss u of B.state (-1)) q;rw[qu]at this;exact this
      ·refine KT (m:=m1.on) J g (λw I=>?_) _
       have hg:nz u w:=by
         unfold nN at I;split at I
         ·rename_i fs ah
          let⟨f,hf,I⟩:=Sg.1 I
          have H:=(g.st _ fs ah).2.2 f hf;rcases yX.1 I with h|h
          ·exact H.2.2.1 w h
          ·exact H.2.2.2 w h
         ·cases I
       exact S.val w (iy hg) ((A.out b w ab).2 (.inr (.inr ⟨B,hB,.inr ⟨M,I⟩⟩))) hg
     rw[if_neg M]
     cases ht:GM B s1 with
     |none=>exact True.intro
     | some t=>
       simp only;have X:t∈B.next:=by
         unfold GM at ht;split at ht
         ·exact yN ht
         split at ht
         ·split at ht <;> exact yN ht
         ·cases ht
       have C:t∈next u b:=by unfold next;rw[hB];exact X
       let⟨_,htl,_⟩:=g.KV C
       obtain⟨T,K⟩:∃T,u.blocks[t]? =some T:=⟨_,hZ htl⟩
       let⟨ct,hct,hbc⟩:=V.get K
       rw[Jn,Jn]at hbc;obtain⟨d1,d3,U,hd,rfl⟩:=hbc;have y:=Sk hct (patch (iL 0 cs));rw[hl]at y;have N:=(ke.1 hct).1;have Y:(iL 0 cs).getD t 0=(cs.take t).flatten.length:=by
         rw[IY,K3 cs 0 t N,Jn];rfl
       rw[SL,SL,yh (Qh g _ _)]at y;have Z:∀{m:Ms},iZ fm (patch (iL 0 cs) ⟨23,0,0,0,(t:Nat)⟩) m=({m.on with pc:=(cs.take t).flatten.length},none):=λ{m}=>by
         have:patch (iL 0 cs) ⟨23,0,0,0,(t:Nat)⟩=⟨23,0,0,0,(((iL 0 cs).getD t 0:Nat):Int)⟩:=by simp[patch,tM]
         rw[this,Y];simp[iZ]
       have go:∀{k o},Go fm l k m o->k+4*(lR u locals qJ B s).steps<=4*(s1.steps+1+(T.ee.takeWhile (gN u)).length)->Fits u of (bh u (T.ee.dropWhile (gN u)) (Out t)) (lR u locals (some b) T {s1 with steps:=s1.steps+1}) o->E0 l o.pc (jZ u of T.ee (UX u of t)++d3.map (patch (iL 0 cs)))->
        W6 fm l u of m (lR u locals qJ B s).steps (runM u locals fm fuel JQ (some b) t {s1 with steps:=s1.steps+1}):=λ{k o} G2 hk F2 i=>by
         have ih:=zcu g A Q V (locals:=locals) (fuel:=fuel) JQ (some b) t {s1 with steps:=s1.steps+1} o T K F2 L ⟨d3,hd,by rw[hl];exact i⟩;rw[hl]at ih;revert ih
         cases runM u locals fm fuel JQ (some b) t {s1 with steps:=s1.steps+1} with
         | left k' fr hp st iU=>
           rintro⟨j,W,M⟩;have e:(lR u locals (some b) T {s1 with steps:=s1.steps+1}).steps=s1.steps+1+(T.ee.takeWhile (gN u)).length:=rfl
           exact⟨_,.pre G2 W,by omega⟩
         |AE=>exact λ_=>True.intro
         |stuck=>exact λ_=>True.intro
       rcases g.fin b B hB with⟨f1,ai⟩|⟨f2,ai,O⟩|⟨f3,_⟩
       ·have e0:B.next.getD 0 0=t:=by
          unfold GM at ht;rw[if_pos f1]at ht;rw[IY,ht];rfl
        unfold RD at he;rw[if_pos f1,e0]at he;obtain⟨d,D,rfl⟩:=he;rw[SL,yh (Y2 D)]at p;have aj:d1=[]:=by
          unfold LK at U;rw[if_neg]at U
          ·exact U
          rintro⟨p1,p2⟩;have E:b∈T.fk:=by rw[g.fk t T K];exact mK.2 C
          let⟨z,hz⟩:=List.length_eq_one_iff.1 p1
          rw[hz]at E p2;obtain rfl:b=z:=by simpa using E
          unfold isIf at p2;rw[show([b]:List Nat).getD 0 0=b from rfl,hB]at p2;simp[Ey]at p2;omega
        subst aj
        let⟨o,G2,F2,hs2,hl2,i⟩:=zbO (fm:=fm) g A Q K C D (S.jump (s':={s1 with steps:=s1.steps+1}) rfl rfl rfl rfl rfl rfl) L (locals:=locals) p
        refine go ((G.trans G2).trans (.one i.hd Z)) (by omega) (F2.jump rfl rfl rfl rfl rfl rfl) ?_;exact y
       ·have N:=S.val B.cond (iy O) (A.zeF hB f2) O
        unfold RD at he;rw[if_neg (by omega),if_pos f2]at he;subst he;rw[SL,yh (yJ _ _)]at p
        let⟨o,G2,S2,r2,i⟩:=Py (fm:=fm) S.len (J _ O) p
        rw[N]at r2;have D:Vd u of b t d1:=by
          unfold LK at U;have hlen:=g.RI b B hB f2 t X;rw[<-g.fk t T K]at hlen
          let⟨z,hz⟩:=List.length_eq_one_iff.1 hlen
          have E:b∈T.fk:=by rw[g.fk t T K];exact mK.2 C
          rw[hz]at E;obtain rfl:b=z:=by simpa using E
          rw[if_pos ⟨hlen,by rw[hz];unfold isIf;rw[show([b]:List Nat).getD 0 0=b from rfl,hB];simp[f2]⟩,hz]at U;exact U
        have fin:∀{k P},Go fm l k o P->k<=2->P.mem=o.mem->P.heap=o.heap->P.polls=o.polls->P.pc=(cs.take t).flatten.length->W6 fm l u of m (lR u locals qJ B s).steps (runM u locals fm fuel JQ (some b) t {s1 with steps:=s1.steps+1}):=λ{k P} G3 hk H W M h4=>by
          have F3:Fits u of (Out b) {s1 with steps:=s1.steps+1} P:=(S.none S2 J λ_ _ h=>h).jump H W M rfl rfl rfl;rw[yh (Y2 D)]at y;rw[<-h4,Cy]at y
          let⟨m4,G4,F4,hs4,hl4,hc4⟩:=zbO (fm:=fm) g A Q K C D F3 L (locals:=locals) y
          have:=uM (hO of B.cond) 12;exact go (((G.trans G2).trans G3).trans G4) (by omega) F4 hc4
        unfold GM at ht;rw[if_neg (by omega),if_pos f2]at ht;have jz:iZ fm (patch (iL 0 cs) ⟨24,lB (hO of B.cond) 12,0,0,(B.next.getD 1 0:Nat)⟩) o=(if s1.of B.cond=0 then{o.on with pc:=(iL 0 cs).getD (B.next.getD 1 0) 0} else o.on,none):=by
          simp[patch,tM,iZ,r2]
        by_cases h0:s1.of B.cond=0
        ·rw[if_pos h0]at ht jz
         have e1:B.next.getD 1 0=t:=by rw[IY,ht];rfl
         rw[e1,Y]at jz;rw[e1]at i;exact fin (.one i.hd jz) (by omega) rfl rfl rfl rfl
        ·rw[if_neg h0]at ht jz
         have e1:B.next.getD 0 0=t:=by rw[IY,ht];rfl
         rw[e1]at i;exact fin (.cons i.hd jz (.one i.tl.hd Z)) (by omega) rfl rfl rfl rfl
       ·exact absurd f3 M
def N3(e:Nl):Option Nat:=if e.kind=1 then some e.n.toNat else if e.kind=2 then some (16+e.n.toNat) else none
def CI(mem:List Int)(e:Nl)(w:Int):List Int:=match N3 e with
 |some q=>mem.set q w
 |none=>mem
def zH:List Nl->List Int->List Int->List Int
 |e::en,w::ls,mem=>zH en ls (CI mem e w)
 |_,_,mem=>mem
theorem Wx(mem:List Int)(e:Nl)(w:Int):(CI mem e w).length=mem.length:=by grind[CI]
theorem V2:∀en ls mem,(zH en ls mem).length=mem.length
 |[],_,_=>rfl
 |_::_,[],_=>rfl
 |e::en,w::ls,mem=>(V2 en ls _).trans (Wx mem e w)
theorem RZ:∀{en:List Nl}{ls mem:List Int},en.length=ls.length->zH (en++[e]) (ls++[w]) mem=CI (zH en ls mem) e w
 |[],[],_,_=>rfl
 |e'::en,w'::ls,mem,h=>RZ (mem:=CI mem e' w') (by simp_all)
theorem za9{mem:List Int}(h:N3 e=some q)(hq:q<mem.length):(CI mem e w).getD q 0=w:=by
 unfold CI
 simp_all
theorem zbT{mem:List Int}(h:N3 e≠some q):(CI mem e w).getD q 0=mem.getD q 0:=by
 grind[CI,N3,VL]
theorem Wt:∀{en:List Nl}{ls mem:List Int},(∀e∈en,N3 e≠some q)->(zH en ls mem).getD q 0=mem.getD q 0
 |[],_,_,_=>rfl
 |_::_,[],_,_=>rfl
 |e::en,w::ls,mem,h=>(Wt (mem:=CI mem e w) (by simp_all)).trans (by grind[zbT])
theorem VE:∀{en:List Nl}{ls mem:List Int}{k:Nat}{e:Nl},en[k]? =some e->N3 e=some q->(∀j e',en[j]? =some e'->N3 e' = some q->j=k)->k<ls.length->q<mem.length->(zH en ls mem).getD q 0=ls.getD k 0
 |_::_,[],_,_,_,_,_,_,hl,_=>by cases hl
 | e0::en,w::ls,mem,0,e,he,hp,hu,_,hq=>by
   cases he;refine(Wt (mem:=CI mem e0 w) λe' a=>?_).trans (za9 hp hq)
   let⟨j,hj⟩:=mz.1 a
   intro h;have:=hu (j+1) e' hj h
   omega
 | e0::en,w::ls,mem,k+1,e,he,hp,hu,hl,hq=>by
   have:=VE (mem:=CI mem e0 w) (k:=k) he hp (λj e' b c=>by
     have:=hu (j+1) e' b c;omega) (by simpa using hl) (by grind[Wx])
   exact this
theorem V8(h:JG p):N3 (lg p)=some p.toNat:=by
 unfold N3 lg
 grind
theorem Wv{out:List Nl}{k:Nat}:(Yf out n e)[k]? =if k=n then some e else if k<out.length then out[k]? else if k<n+1 then some ⟨4,0⟩ else none:=by
 unfold Yf at*
 grind
theorem VK(g:Good u):∀n,(∀i x,i<n->u.ee[i]? =some x->x.op=1->(qQ u of n)[x.n.toNat]? =some (lg (hO of i)))/\
  ∀k e,(qQ u of n)[k]? =some e->e=⟨4,0⟩\/∃i x,u.ee[i]? =some x/\x.op=1/\x.n.toNat=k/\e=lg (hO of i)
 |0=>⟨by omega,λk e h=>by cases h⟩
 | n + 1 =>by
   let⟨c,d⟩:=VK g n
   unfold qQ
   cases hx:u.ee[n]? with
   | none=>
     grind
   | some y =>
     simp only;by_cases hy:y.op=1
     ·rw[if_pos hy]
      refine⟨λi x hi a b=>?_,λk e h=>?_⟩
      ·rw[Wv]
       by_cases e:i=n
       ·simp_all
       ·have f:=c i x (by omega) a b
        have nw:¬x.n.toNat=y.n.toNat:=λe'=>by
          let⟨j,_,l⟩:=g.param n y hx hy
          let⟨m,_,_⟩:=g.param i x a b
          grind
        grind
      grind[Wv,Option.some.inj]
     grind
theorem Xp(g:Good u)(A:mn u (iu u) In Out)(m:kK u Out of fF){B:Bk}(n:u.blocks[0]? =some B){locals ls heap m0:List Int}(I:m0.length=416)(hl:(qQ u of u.ee.length).length<=ls.length)(s:∀k,ls.getD k 0=locals.getD k 0) :
  Fits u of (bh u (B.ee.dropWhile (gN u)) (Out 0)) (lR u locals none B (Fj u heap)) ⟨zH (qQ u of u.ee.length) ls m0,heap,0,0,0⟩:=by
 refine⟨(V2 _ _ _).trans I,λw t z J=>?_,rfl,rfl⟩;have o:=Q6 g m
 let⟨c,j,l,K,L⟩:=g.Yu A (WC g A n z)
 obtain rfl:c=0:=by simpa using K [0] .nil
 have a:=L rfl;have C:=Zc n (Bw g n) l a
 let⟨x,hx,e⟩:=g.BK l
 rw [e]at a;have D:x.op=1:=by
  simp[iV,JD]at a;rcases a with h|h
  ·exact h
  ·exact absurd rfl (g.XS w 0 j x B l hx h n).1
 let⟨f1,f2⟩:=VK (of:=of) g u.ee.length
 have E:=f1 w x t hx D;have pos:=o w J
 have hv:(lR u locals none B (Fj u heap)).of w=if w∈B.ee.takeWhile (gN u) then ME u locals none B (Fj u heap).of w else(Fj u heap).of w:=
  Lz (B.ee.takeWhile (gN u)) _ λv F=>by
   let⟨k,E⟩:=mz.1 ((List.takeWhile_sublist _).subset F)
   show v<(List.replicate u.ee.length 0).length;rw[wBM];exact g.uP v 0 k ⟨B,n,E⟩
 rw[hv,if_pos C];unfold ME;rw[hx];simp only;rw[if_pos D,<-s];refine VE E (V8 pos) (λk e' G d=>?_) (by grind) (by grind[JG]);rcases f2 k e' G with rfl|⟨i,y,H,f,M,rfl⟩
 ·cases d
 ·have b:nz u i:=⟨y,H,by rw[f];rfl⟩
  rw [V8 (by simp_all)]at d;have p:hO of i=hO of w:=by
   have p1:=o i b;have:=Option.some.inj d;unfold JG at p1 pos;omega
  by_cases hiw:i=w
  ·simp_all
  ·exfalso
   let⟨c,ji,hi⟩:=g.NN i (iy b) trivial
   obtain rfl:=g.par i c ji y hi H f;have q:gJ u i=true:=by unfold gJ;rw[H];simp[iV,f]
   have r:gJ u w=true:=by unfold gJ;rw[hx];simp[iV,D]
   rcases wBx ji j with h|h|h
   ·exact MH m t (iy b) ((m.pa 0 j).hd w l r ji i h hi q) p
   ·subst h
    let⟨N,O,P⟩:=hi
    let⟨Q,R,S⟩:=l
    simp_all
   ·exact MH m (iy b) t ((m.pa 0 ji).hd i hi q j w h l r) p.symm
