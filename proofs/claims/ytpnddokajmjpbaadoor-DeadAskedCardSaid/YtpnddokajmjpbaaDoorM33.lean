/- Parts. -/
import Derived.Test.YtpnddokajmjpbaaDoorM13
namespace Go.Proofs.YtpnddokajmjpbaaDoor.Un
open Go.Proofs.YtpnddokajmjpbaaDoor.Dm
def firsts (l:List Nat):List Nat:=l.foldl (λa s=>if s∈a then a else a++[s]) []
theorem qX (l:List Nat) (s:Nat):firsts (l++[s])=if s∈firsts l then firsts l else firsts l++[s]:=by
 unfold firsts;rw[List.foldl_append];rfl
theorem A0 {P:List Nat->Prop} (h0:P []) (hs:∀l s,P l->P (l++[s])) (l:List Nat):P l:=by
 have:∀r:List Nat,P r.reverse:=λr=>by
  induction r with
  |nil=>exact h0
  |cons a r b=>rw[List.reverse_cons];exact hs _ _ b
 rw[<-List.reverse_reverse l];exact this _
theorem ll (l:List Nat):∀x,x∈firsts l↔x∈l:=by
 induction l using A0 with
 |h0=>exact λ_=>Iff.rfl
 | hs l s a=>
   intro x;rw[qX];split
   ·rename_i h
    rw[a,wAV,wAW];exact⟨.inl,λb=>b.elim id λe=>by rw[e];exact(a s).1 h⟩
   ·rw[wAV,wAV,a]
theorem zy (l:List Nat):(firsts l).Nodup:=by
 induction l using A0 with
 |h0=>exact List.nodup_nil
 | hs l s c=>
   rw[qX];split
   ·exact c
   ·rename_i h
    rw[wBM];exact⟨c,List.nodup_cons.2 ⟨by simp,List.nodup_nil⟩,λa f b d=>by
      rw[wAW]at d;subst d;exact λe=>h (e▸f)⟩
theorem tR {l:List Nat} {x:Nat} (h:x∈l):l[l.idxOf x]? =some x:=by
 rw[wAA (wBv h),List.getElem_idxOf]
theorem qm {l:List Nat} (f:l.Nodup) {i j x:Nat} (hi:l[i]? =some x) (g:l[j]? =some x):i=j:=by
 obtain⟨a,b⟩:=wAB.1 hi;obtain⟨c,d⟩:=wAB.1 g;have e:=wA3.1 f;rcases wBq i j with h|h|h
 ·exact absurd (b.trans d.symm) (e i j a c h)
 ·exact h
 ·exact absurd (d.trans b.symm) (e j i c a h)
theorem Ez{l:List Nat}(a:l.Nodup){i x:Nat}(h:l[i]? =some x):l.idxOf x=i:=qm a (tR (wAI h)) h
theorem Di {p:Nat->Bool}:∀{l:List Nat} {k v:Nat},l[k]? =some v->p v=true->(l.filter p)[((l.take k).filter p).length]? =some v
 |[],k,v,h,_=>by simp at h
 | a::l,0,v,h,hp=>by
   obtain rfl:a=v:=by simpa using h
   simp[hp]
 | a::l,k+1,v,h,hp=>by
   have b:=Di (l:=l) (k:=k) (by simpa using h) hp;rw[List.take_succ_cons,wBh,wBh];split
   ·rw[wAX,wAj];exact b
   ·exact b
theorem Jj {p:Nat->Bool} {l:List Nat} {j k w:Nat} (h:l[j]? =some w) (a:p w=true) (b:j<k):((l.take j).filter p).length<((l.take k).filter p).length:=by
 obtain ⟨c,rfl⟩:=wAB.1 h;have e:l.take k=l.take j++l[j]::((l.take k).drop (j+1)):=by
  conv=>lhs;rw[<-wA8 j (l.take k)]
  rw[List.take_take,wB7 (by omega)];congr 1;rw[wBE (by rw[wAc];omega),List.getElem_take]
 rw[e,wBb,wBh,if_pos a,wAM,wAX];omega
section
variable (u:U)(as:Nat->Int)
def stays (v:Nat):Bool:=as v == (v:Int)
def stayL:List Nat:=u.blocks.flatMap λB=>B.vals.filter (stays as)
def realN:Nat->Nat->Nat
 |0,v=>v
 |k+1,v=>if 0<=as v/\as v≠(v:Int) then realN k (as v).toNat else v
def nm (v:Nat):Nat:=if realN as (u.vals.length+1) v∈stayL u as then(stayL u as).idxOf (realN as (u.vals.length+1) v) else 0
def stRefs:List Nat:=(stayL u as).filterMap (λn=>match u.vals[n]? with
  |some x=>if leaves x.op=true then some x.state else none
  |none=>none)++u.blocks.filterMap λB=>if B.fin=3 then some B.state else none
def stL:List Nat:=firsts (stRefs u as)
def trVal (x:Vl):Vl where
 op:=x.op
 a:=if 0<(if two x.op=true then 2 else if oneP x.op=true then 1 else 0) then nm u as x.a else x.a
 b:=if two x.op=true then nm u as x.b else x.b
 n:=x.n
 args:=if x.op=21\/x.op=20 then x.args.map (nm u as) else x.args
 state:=if leaves x.op=true then(stL u as).idxOf x.state else x.state
def trBlk (B:Bk):Bk where
 vals:=(B.vals.filter (stays as)).map (stayL u as).idxOf
 fin:=B.fin
 cond:=if B.fin=2 then nm u as B.cond else B.cond
 next:=B.next
 preds:=B.preds
 state:=if B.fin=3 then(stL u as).idxOf B.state else B.state
def trFm (f:Fm):Fm:=⟨f.func,f.pc,f.locals.map (nm u as),f.stack.map (nm u as)⟩
def trimA:U where
 func:=u.func
 pc:=u.pc
 vals:=(stayL u as).map λn=>trVal u as (u.vals.getD n ⟨0,0,0,0,[],0⟩)
 blocks:=u.blocks.map (trBlk u as)
 states:=(stL u as).map λs=>(u.states.getD s []).map (trFm u as)
end
def Once (u:U):Prop:=∀(v:Nat) (b:Nat) (k:Nat) (a:Nat) (k':Nat),At u v b k->At u v a k'->b=a/\k=k'
theorem yQ {u:U} (c:Once u) {b:Nat} {B:Bk} (a:u.blocks[b]? =some B):B.vals.Nodup:=by
 refine wA3.2 λi j hi d f e=>?_;have g:At u B.vals[i] b i:=⟨B,a,wAA hi⟩
 have h:At u B.vals[i] b j:=⟨B,a,by rw[e];exact wAA d⟩
 have:=(c _ _ _ _ _ g h).2;omega
theorem rN {u:U} {as:Nat->Int} (g:Once u):(stayL u as).Nodup:=by
 unfold stayL;have d:∀(l:List Bk) (i:Nat),(∀k B,l[k]? =some B->u.blocks[i+k]? =some B)->(l.flatMap λB=>B.vals.filter (stays as)).Nodup:=by
  intro l
  induction l with
  |nil=>exact λ_ _=>List.nodup_nil
  | cons B l m=>
    intro i h;rw[wBr,wBM];have j:u.blocks[i]? =some B:=h 0 B rfl;refine⟨(yQ g j).filter _,m (i+1) λk C b=>by rw[show i+1+k=i+(k+1) by omega];exact h (k+1) C (by simpa using b),λa n c hc e=>?_⟩;subst e;obtain⟨C,o,f⟩:=wAy.1 hc;obtain⟨k,b⟩:=wAD.1 o;obtain⟨p,q⟩:=wAD.1 (wA7.1 n).1;obtain⟨r,s⟩:=wAD.1 (wA7.1 f).1;have:=(g a i p (i+(k+1)) r ⟨B,j,q⟩ ⟨C,h (k+1) C (by simpa using b),s⟩).1;omega
 exact d u.blocks 0 λk B b=>by rw[wAY];exact b
theorem Pt.short {nx:Nat->List Nat} {x:Nat}:∀{b l},Pt nx b l->x∈l->x≠b->∃a,Pt nx x a/\a.length<l.length
 | _,_,.nil,h,hn=>by
   obtain rfl:x=0:=by simpa using h
   exact absurd rfl hn
 | _,_,.step (p:=p) (b:=b) (l:=l) h e,c,hn=>by
   rcases wAr.1 c with rfl|c
   ·exact absurd rfl hn
   ·by_cases hp:x=p
    ·subst hp
     exact⟨l,h,by simp⟩
    ·obtain⟨a,d,f⟩:=Pt.short h c hp
     exact⟨a,d,by simp;omega⟩
theorem Domi.anti {nx:Nat->List Nat} {a b:Nat} (d:Domi nx a b) (e:Domi nx b a) {l:List Nat} (f:Pt nx b l):a=b:=by
 have g:∀n (l:List Nat),l.length<=n->(Pt nx b l->a≠b->False)/\(Pt nx a l->a≠b->False):=by
  intro n
  induction n with
  | zero=>
    intro l f;have:l=[]:=wAf (by omega);subst this
    exact⟨λh _=>(nomatch h),λh _=>(nomatch h)⟩
  | succ n k=>
    intro l f;refine⟨λh c=>?_,λh c=>?_⟩
    ·obtain⟨i,j,m⟩:=h.short (d l h) c
     exact(k i (by omega)).2 j c
    ·obtain⟨i,j,m⟩:=h.short (e l h) c.symm
     exact(k i (by omega)).1 j c
 by_cases h:a=b
 ·exact h
 ·exact((g l.length l (wAF _)).1 f h).elim
theorem Domi.trans {nx:Nat->List Nat} {a b c:Nat} (g:Domi nx a b) (j:Domi nx b c):Domi nx a c:=λl i=>by
 have f:∀{y l},Pt nx y l->b∈l->a∈l:=by
  intro y l k
  induction k with
  | nil=>
    intro d;obtain rfl:b=0:=by simpa using d
    exact g _ .nil
  | step h e m=>
    intro d;rcases wAr.1 d with rfl|d
    ·exact g _ (.step h e)
    ·exact wA0 _ (m d)
 exact f i (j l i)
structure Fit (u:U) (as:Nat->Int):Prop where
 root:∀v,v<u.vals.length->0<=as v->∃w:Nat,as v=(w:Int)/\w<u.vals.length/\as w=(w:Int)
 up:∀(v w b k:Nat),as v=(w:Int)->At u v b k->∃c j,At u w c j/\(c=b/\j<=k\/c≠b/\Domi (next u) c b)
 give:∀(v w:Nat),as v=(w:Int)->Gives u v->Gives u w
 use:∀(v:Nat) (x:Vl),u.vals[v]? =some x->stays as v=true->∀w∈uses x,0<=as w
 st:∀(v:Nat) (x:Vl) (fs:List Fm),u.vals[v]? =some x->stays as v=true->leaves x.op=true->u.states[x.state]? =some fs->∀w∈frames fs,0<=as w
 cond:∀(b:Nat) (B:Bk),u.blocks[b]? =some B->B.fin=2->0<=as B.cond
 out:∀(b:Nat) (B:Bk) (fs:List Fm),u.blocks[b]? =some B->B.fin=3->u.states[B.state]? =some fs->∀w∈frames fs,0<=as w
section
variable{u:U}(g:Good u){as:Nat->Int}(f:Fit u as)
include g
theorem iT {v:Nat}:v∈stayL u as↔v<u.vals.length/\stays as v=true:=by
 unfold stayL;rw[wAy];constructor
 ·rintro⟨B,f,h⟩;obtain⟨a,c⟩:=wA7.1 h;obtain⟨b,d⟩:=wAD.1 f;obtain⟨k,e⟩:=wAD.1 a;exact⟨g.atlt v b k ⟨B,d,e⟩,c⟩
 ·rintro⟨a,c⟩;obtain⟨b,k,B,d,e⟩:=g.at1 v a;exact⟨B,wAI d,wA7.2 ⟨wAI e,c⟩⟩
theorem Gy{b:Nat}{B:Bk}(a:u.blocks[b]? =some B):B.vals.Nodup:=yQ g.at2 a
theorem tX:(stayL u as).Nodup:=rN g.at2
omit g in
include f in
theorem Jg {v:Nat} (hv:v<u.vals.length) (h0:0<=as v):∃w:Nat,realN as (u.vals.length+1) v=w/\as v=(w:Int)/\w<u.vals.length/\as w=(w:Int):=by
 obtain⟨w,h1,h2,h3⟩:=f.root v hv h0;refine⟨w,?_,h1,h2,h3⟩;unfold realN;split
 ·rename_i h;rw[h1];show realN as u.vals.length w=w
  cases u.vals.length with
  |zero=>rfl
  | succ n=>
    unfold realN;rw[if_neg λhh=>hh.2 h3]
 ·rename_i h;have:as v=(v:Int):=by
   by_cases e:as v=(v:Int)
   ·exact e
   ·exact absurd ⟨h0,e⟩ h
  omega
include f
theorem FS {v:Nat} (b:v<u.vals.length) (h0:0<=as v):∃w:Nat,as v=(w:Int)/\w∈stayL u as/\nm u as v=(stayL u as).idxOf w:=by
 obtain⟨w,c,d,e,h⟩:=Jg f b h0;have a:w∈stayL u as:=(iT g).2 ⟨e,by unfold stays;rw[wAt];exact h⟩;exact⟨w,d,a,by unfold nm;rw[c,if_pos a]⟩
omit f g
theorem zK {i n:Nat} {x:Vl} (hi:(stayL u as)[i]? =some n) (a:u.vals[n]? =some x):(trimA u as).vals[i]? =some (trVal u as x):=by
 show((stayL u as).map _)[i]? =_;rw[wAQ,hi];show some (trVal u as (u.vals.getD n _))=_;rw[wAL,a];rfl
theorem yS (g:Good u) {i:Nat} {y:Vl} (h:(trimA u as).vals[i]? =some y):∃n x,(stayL u as)[i]? =some n/\u.vals[n]? =some x/\y=trVal u as x/\stays as n=true:=by
 have h:((stayL u as).map _)[i]? =some y:=h;rw[wAQ]at h
 cases hn:(stayL u as)[i]? with
 |none=>rw[hn]at h;cases h
 | some n=>
   obtain ⟨c,d⟩:=(iT g).1 (wAI hn);have a:=wAA c;have:=zK hn a;refine⟨n,_,rfl,a,?_,d⟩;rw[hn]at h;have b:(trimA u as).vals[i]? =some y:=by
     show((stayL u as).map _)[i]? =_;rw[wAQ,hn];exact h
   rw[this]at b;exact(Option.some.inj b).symm
theorem BF {b:Nat} {B:Bk} (a:u.blocks[b]? =some B):(trimA u as).blocks[b]? =some (trBlk u as B):=by
 show(u.blocks.map _)[b]? =_;rw[wAQ,a];rfl
theorem wu {b:Nat} {a:Bk} (h:(trimA u as).blocks[b]? =some a):∃B,u.blocks[b]? =some B/\a=trBlk u as B:=by
 have h:(u.blocks.map _)[b]? =some a:=h;rw[wAQ]at h
 cases hb:u.blocks[b]? with
 |none=>rw[hb]at h;cases h
 |some B=>rw[hb]at h;exact⟨B,rfl,(Option.some.inj h).symm⟩
theorem Ha (b:Nat):next (trimA u as) b=next u b:=by
 unfold next
 cases hb:u.blocks[b]? with
 | none=>
   have:(trimA u as).blocks[b]? =none:=by
     show(u.blocks.map _)[b]? =_;rw[wAQ,hb];rfl
   rw[this]
 |some B=>rw[BF hb];rfl
theorem CO:next (trimA u as)=next u:=funext Ha
theorem Au {h:Bk->Bk} (a:∀B,(h B).next=B.next) (b:Nat):∀(l:List Bk) (i:Nat),aheadTo (l.map h) i b=aheadTo l i b
 |[],_=>rfl
 | B::l,i=>by
   show((h B).next.filter (·= b)).map (λ_=>i)++aheadTo (l.map h) (i+1) b=_;rw[a,Au a b l];rfl
theorem CM (b:Nat):ahead (trimA u as) b=ahead u b:=Au (h:=trBlk u as) (λ_=>rfl) b u.blocks 0
def pk (u:U) (as:Nat->Int) (b k:Nat):Nat:=match u.blocks[b]? with
 |some B=>((B.vals.take k).filter (stays as)).length
 |none=>0
theorem t_at {v b k:Nat} (h:At u v b k) (hs:stays as v=true):At (trimA u as) ((stayL u as).idxOf v) b (pk u as b k):=by
 obtain⟨B,a,c⟩:=h;refine⟨_,BF a,?_⟩;show((B.vals.filter (stays as)).map _)[pk u as b k]? =_;unfold pk;rw[a,wAQ,Di c hs];rfl
theorem Jx {v b j k:Nat} (h:At u v b j) (hs:stays as v=true) (a:j<k):pk u as b j<pk u as b k:=by
 obtain⟨B,c,d⟩:=h;unfold pk;rw[c];exact Jj d hs a
theorem zj (g:Good u) {i b k:Nat} (h:At (trimA u as) i b k):∃v j,At u v b j/\stays as v=true/\i=(stayL u as).idxOf v/\k=pk u as b j/\(stayL u as)[i]? =some v:=by
 obtain⟨m,c,hi⟩:=h;obtain⟨B,d,rfl⟩:=wu c;have hi:((B.vals.filter (stays as)).map _)[k]? =some i:=hi;rw[wAQ]at hi
 cases hv:(B.vals.filter (stays as))[k]? with
 |none=>rw[hv]at hi;cases hi
 | some v=>
   rw[hv]at hi;obtain rfl:(stayL u as).idxOf v=i:=Option.some.inj hi;obtain⟨l,e⟩:=wA7.1 (wAI hv);obtain⟨j,f⟩:=wAD.1 l;have a:At u v b j:=⟨B,d,f⟩
   refine⟨v,j,a,e,rfl,?_,tR ((iT g).2 ⟨g.atlt _ _ _ a,e⟩)⟩;unfold pk;rw[d];exact qm ((Gy g d).filter _) hv (Di f e)
theorem ED (x:Vl):uses (trVal u as x)=(uses x).map (nm u as):=by
 unfold uses;show(if x.op=21 then(trVal u as x).args else if x.op=20 then(trVal u as x).a::(trVal u as x).b::(trVal u as x).args.take 1 else if two x.op=true then[(trVal u as x).a,(trVal u as x).b] else if oneP x.op=true then[(trVal u as x).a] else[])=_;unfold trVal;simp only;by_cases e:x.op=21
 ·simp[e]
 ·rw [if_neg e,if_neg e];by_cases c:x.op=20
  ·rw[if_pos c,if_pos c];simp[c,two,List.map_take]
  ·rw [if_neg c,if_neg c];by_cases d:two x.op=true
   ·simp[d]
   ·rw[if_neg d,if_neg d];by_cases f:oneP x.op=true
    ·simp[d,f]
    ·simp[d,f]
include g f
theorem AM {w:Nat} (h:Gives u w) (h0:0<=as w):Gives (trimA u as) (nm u as w):=by
 obtain⟨x,a,_⟩:=id h;obtain⟨r,b,c,d⟩:=FS g f (wAB.1 a).1 h0;obtain⟨y,e,i⟩:=f.give w r b h;exact⟨trVal u as y,by rw[d];exact zK (tR c) e,i⟩
theorem Hi {w b k:Nat} (h:Sees u w b k) (s:b<u.blocks.length) (h0:0<=as w):Sees (trimA u as) (nm u as w) b (pk u as b k):=by
 obtain⟨c,j,m,hc⟩:=h;obtain⟨r,t,v,x⟩:=FS g f (g.atlt _ _ _ m) h0;obtain⟨c',y,d,n⟩:=f.up w r c j t m;have hs:=((iT g).1 v).2;refine⟨c',pk u as c' y,by rw[x];exact t_at d hs,?_⟩;rw[CO];rcases hc with⟨rfl,A⟩|⟨o,p⟩
 ·rcases n with⟨rfl,q⟩|⟨i,a⟩
  ·exact .inl ⟨rfl,Jx d hs (by omega)⟩
  ·exact .inr ⟨i,a⟩
 ·rcases n with⟨rfl,q⟩|⟨i,a⟩
  ·exact .inr ⟨o,p⟩
  ·refine .inr ⟨λe=>?_,a.trans p⟩;subst e;obtain⟨l,z⟩:=g.reach c' s;exact o (p.anti a z)
theorem zR {w b:Nat} (h:SeesEnd u w b) (h0:0<=as w):SeesEnd (trimA u as) (nm u as w) b:=by
 obtain⟨c,j,a,k⟩:=h;obtain⟨r,l,m,n⟩:=FS g f (g.atlt _ _ _ a) h0;obtain⟨c',o,d,e⟩:=f.up w r c j l a;refine⟨c',pk u as c' o,by rw[n];exact t_at d ((iT g).1 m).2,?_⟩;rw[CO];rcases e with⟨rfl,_⟩|⟨_,i⟩
 ·exact k
 ·exact i.trans k
omit f in
theorem xB {s:Nat} (h:s∈stRefs u as):s<u.states.length/\((∃(v b k:Nat) (x:Vl),At u v b k/\stays as v=true/\u.vals[v]? =some x/\leaves x.op=true/\x.state=s)\/∃(b:Nat) (B:Bk),u.blocks[b]? =some B/\B.fin=3/\B.state=s):=by
 unfold stRefs at h;rcases wAV.1 h with h|h
 ·obtain⟨n,hn,hs⟩:=List.mem_filterMap.1 h;obtain⟨h1,h2⟩:=(iT g).1 hn;have hx:=wAA h1;rw[hx]at hs;simp only at hs;split at hs
  ·rename_i hl;cases hs;obtain⟨b,k,hat⟩:=g.at1 n h1;exact⟨g.leave n _ hx hl,.inl ⟨n,b,k,_,hat,h2,hx,hl,rfl⟩⟩
  ·cases hs
 ·obtain ⟨B,hB,hs⟩:=List.mem_filterMap.1 h;obtain⟨b,hb⟩:=wAD.1 hB;split at hs
  ·rename_i h3;cases hs;refine⟨?_,.inr ⟨b,B,hb,h3,rfl⟩⟩;rcases g.fin b B hb with⟨h4,_⟩|⟨h4,_⟩|⟨_,_,h4⟩
   ·omega
   ·omega
   ·exact h4
  ·cases hs
omit g f in
theorem CQ {s:Nat} {fs:List Fm} (h:s∈stL u as) (hs:u.states[s]? =some fs):(trimA u as).states[(stL u as).idxOf s]? =some (fs.map (trFm u as)):=by
 show((stL u as).map _)[_]? =_;rw[wAQ,tR h];show some ((u.states.getD s []).map _)=_;rw[wAL,hs];rfl
omit f in
theorem JE {i:Nat} {gs:List Fm} (h:(trimA u as).states[i]? =some gs):∃s fs,s∈stL u as/\u.states[s]? =some fs/\gs=fs.map (trFm u as):=by
 have h:((stL u as).map _)[i]? =some gs:=h;rw[wAQ]at h
 cases hn:(stL u as)[i]? with
 |none=>rw[hn]at h;cases h
 | some s=>
   rw[hn]at h;have hm:s∈stL u as:=wAI hn;have hl:=(xB g ((ll _ _).1 hm)).1;refine⟨s,u.states[s],hm,wAA hl,?_⟩;have h:(u.states.getD s []).map (trFm u as)=gs:=Option.some.inj h;rw[wAL,wAA hl]at h;exact h.symm
omit g f in
theorem yA (fs:List Fm):frames (fs.map (trFm u as))=(frames fs).map (nm u as):=by
 unfold frames;rw[List.flatMap_map,List.map_flatMap];congr 1;funext x;rw[wAx];rfl
omit f in
theorem refV {v:Nat} {x:Vl} (hs:stays as v=true) (hx:u.vals[v]? =some x) (hl:leaves x.op=true):x.state∈stL u as:=by
 refine(ll _ _).2 (wAu _ (List.mem_filterMap.2 ⟨v,(iT g).2 ⟨(wAB.1 hx).1,hs⟩,?_⟩));rw[hx];simp only;rw[if_pos hl]
omit g f in
theorem refB {b:Nat} {B:Bk} (hB:u.blocks[b]? =some B) (h3:B.fin=3):B.state∈stL u as:=
 (ll _ _).2 (wBc _ (List.mem_filterMap.2 ⟨B,wAI hB,by rw[if_pos h3]⟩))
omit f in
theorem headsUp {v b k:Nat} {x:Vl} (h:At u v b k) (hx:u.vals[v]? =some x) (hh:isHead x.op=true):∀{w j:Nat} {y:Vl},At u w b j->u.vals[w]? =some y->j<=k->isHead y.op=true:=by
 have key:∀(n v k:Nat) (x:Vl),At u v b k->u.vals[v]? =some x->isHead x.op=true->∀{w j:Nat} {y:Vl},At u w b j->u.vals[w]? =some y->j+n=k->isHead y.op=true:=by
  intro n
  induction n with
  | zero=>
    intro v k x h hx hh w j y hw hy e;obtain rfl:j=k:=by omega
    obtain⟨B,h1,h2⟩:=h;obtain⟨B',h3,h4⟩:=hw;rw[h1]at h3;cases h3;rw[h2]at h4;cases h4;rw[hx]at hy;cases hy
    exact hh
  | succ n ih=>
    intro v k x h hx hh w j y hw hy e;obtain⟨k,rfl⟩:∃i,k=i+1:=⟨k-1,by omega⟩
    obtain⟨B,h1,h2⟩:=h;have hk:k<B.vals.length:=by have:=(wAB.1 h2).1;omega
    have h3:At u (B.vals[k]) b k:=⟨B,h1,wAA hk⟩
    have hz:=wAA (g.atlt _ _ _ h3);exact ih _ k _ h3 hz (g.heads _ _ _ _ _ _ ⟨B,h1,h2⟩ h3 hx hz hh) hw hy (by omega)
 exact λ{w j y} hw hy hj=>key (k-j) v k x h hx hh hw hy (by omega)
theorem Gt:Good (trimA u as):=by
 have hL:(stayL u as).length<=u.vals.length:=iy _ _ (tX g) λv S=>((iT g).1 S).1;have hS:(stL u as).length<=u.states.length:=iy _ _ (zy _) λs hs=>(xB g ((ll _ _).1 hs)).1;have hlen:(trimA u as).vals.length=(stayL u as).length:=by
  show((stayL u as).map _).length=_;rw[wAb]
 have J:(trimA u as).blocks.length=u.blocks.length:=by
  show(u.blocks.map _).length=_;rw[wAb]
 have N:(trimA u as).states.length=(stL u as).length:=by
  show((stL u as).map _).length=_;rw[wAb]
 have aa:∀s fs,s∈stL u as->u.states[s]? =some fs->∀w∈frames fs,0<=as w:=by
  intro s fs hs r w d;rcases(xB g ((ll _ _).1 hs)).2 with⟨v,b,k,x,_,a,G,C,rfl⟩|⟨b,B,c,a,rfl⟩
  ·exact f.st v x fs G a C r w d
  ·exact f.out b B fs c a r w d
 have m:∀{i b k:Nat} {y:Vl},At (trimA u as) i b k->(trimA u as).vals[i]? =some y->∃v j x,At u v b j/\stays as v=true/\i=(stayL u as).idxOf v/\k=pk u as b j/\u.vals[v]? =some x/\y=trVal u as x:=by
  intro i b k y O o;obtain⟨v,j,c,a,G,C,l⟩:=zj g O;obtain⟨n,x,L,T,X,_⟩:=yS g o;rw[l]at L;cases L;exact⟨v,j,x,c,a,G,C,T,X⟩
 have U:∀{v b k:Nat},At u v b k->b<u.blocks.length:=λ⟨B,h,_⟩=>(wAB.1 h).1
 refine
  { nv:=by rw[hlen];have:=g.nv;omega
    nb0:=by rw[J];exact g.nb0
    nb:=by rw[J];exact g.nb
    ns:=by rw[N];have:=g.ns;omega
    st:=?_,at1:=?_,at2:=?_,atlt:=?_,heads:=?_,par:=?_,phi:=?_,op:=?_,use:=?_,leave:=?_,putAt:=?_,param:=?_,fin:=?_,nx:=?_,preds:=?_,preds0:=?_,crit:=?_,reach:=?_,seesV:=?_,seesP:=?_,seesS:=?_,seesC:=?_,seesO:=?_}
 ·intro s gs hs;obtain⟨s0,fs,c,a,rfl⟩:=JE g hs;obtain⟨G,C,l⟩:=g.st s0 fs a;refine⟨by simpa using G,by simpa using C,λf' ab=>?_⟩;obtain⟨M,V,rfl⟩:=wBH.1 ab;obtain⟨h6,h7,h8,h9⟩:=l M V;have W:∀w,w∈M.locals\/w∈M.stack->0<=as w:=λw d=>aa s0 fs c a w (by
   unfold frames;rw[wAy];exact⟨M,V,wAV.2 d⟩)
  refine⟨by show(M.locals.map _).length<=40;simpa using h6,by show(M.stack.map _).length<=60;simpa using h7,λv S=>?_,λv S=>?_⟩
  ·obtain⟨w,d,rfl⟩:=wBH.1 (show v∈M.locals.map (nm u as) from S);exact AM g f (h8 w d) (W w (.inl d))
  ·obtain⟨w,d,rfl⟩:=wBH.1 (show v∈M.stack.map (nm u as) from S);exact AM g f (h9 w d) (W w (.inr d))
 ·intro i hi;rw[hlen]at hi;have hn:=wAA hi;obtain⟨c,a⟩:=(iT g).1 (wAI hn);obtain⟨b,k,O⟩:=g.at1 _ c;refine⟨b,pk u as b k,?_⟩;have:=t_at O a
  rwa [Ez (tX g) hn]at this
 ·intro i b k b' k' h h';obtain⟨v,j,c,a,G,C,l⟩:=zj g h;obtain⟨v',j',L,T,X,g4,Y⟩:=zj g h';rw[l]at Y;cases Y;obtain⟨rfl,rfl⟩:=g.at2 _ _ _ _ _ c L;exact⟨rfl,C.trans g4.symm⟩
 ·intro i b k h;obtain⟨v,j,_,_,_,_,l⟩:=zj g h;rw[hlen];exact(wAB.1 l).1
 ·intro i i' b k y y' h h' o ac hh;obtain⟨v,j,x,c,a,_,C,l,rfl⟩:=m h o;obtain⟨v',j',x',L,T,_,g4,Y,rfl⟩:=m h' ac;show isHead x'.op=true;refine headsUp g c l hh L Y ?_;by_cases hj:j'<=j
  ·exact hj
  ·have:=Jx c a (show j<j' by omega);omega
 ·intro i b k y h o F;obtain⟨v,j,x,c,_,_,_,l,rfl⟩:=m h o;exact g.par v b j x c l F
 ·intro i b k y R h o F e;obtain⟨v,j,x,c,_,_,_,l,rfl⟩:=m h o;obtain⟨B,A,rfl⟩:=wu e;obtain⟨h6,h7⟩:=g.phi v b j x B c l F A;refine⟨h6,?_⟩;have D:x.op=21:=F;show(if x.op=21\/x.op=20 then x.args.map (nm u as) else x.args).length=B.preds.length;rw[if_pos (.inl D),wAb,h7]
 ·intro i y o;obtain⟨n,x,_,a,rfl,_⟩:=yS g o;exact g.op n x a
 ·intro i y o w d;obtain⟨n,x,_,a,rfl,C⟩:=yS g o;rw[ED]at d;obtain⟨w0,q,rfl⟩:=wBH.1 d;exact AM g f (g.use n x a w0 q) (f.use n x a C w0 q)
 ·intro i y o hl;obtain⟨n,x,_,a,rfl,C⟩:=yS g o;have E:leaves x.op=true:=hl;rw[N];show(if leaves x.op=true then(stL u as).idxOf x.state else x.state)<_;rw[if_pos E];exact wBv (refV g C a E)
 ·intro i y o F;obtain⟨n,x,_,a,rfl,C⟩:=yS g o;have D:x.op=20:=F;show(if x.op=21\/x.op=20 then x.args.map (nm u as) else x.args).length=1;rw[if_pos (.inr D),wAb];exact g.putAt n x a D
 ·intro i y o F;obtain⟨n,x,c,a,rfl,C⟩:=yS g o;obtain⟨L,T,X⟩:=g.param n x a F;refine⟨L,T,λw z hz ae ag=>?_⟩;obtain⟨n',x',ah,H,rfl,_⟩:=yS g hz;obtain rfl:=X n' x' H ae ag;exact qm (tX g) ah c
 ·intro b R e;obtain⟨B,A,rfl⟩:=wu e;rcases g.fin b B A with⟨c,a⟩|⟨c,a,G⟩|⟨c,a,G⟩
  ·exact .inl ⟨c,a⟩
  ·refine .inr (.inl ⟨c,a,?_⟩);show Gives _ (if B.fin=2 then nm u as B.cond else B.cond);rw[if_pos c];exact AM g f G (f.cond b B A c)
  ·refine .inr (.inr ⟨c,a,?_⟩);rw[N];show(if B.fin=3 then(stL u as).idxOf B.state else B.state)<_;rw[if_pos c];exact wBv (refB A c)
 ·intro b t Z;rw[Ha]at Z;rw[J];exact g.nx b t Z
 ·intro b R e;obtain⟨B,A,rfl⟩:=wu e;rw[CM];exact g.preds b B A
 ·rw[CM];exact g.preds0
 ·intro b R e a t Z;obtain⟨B,A,rfl⟩:=wu e;rw[CM];exact g.crit b B A a t Z
 ·intro b hb;rw[J]at hb;rw[CO];exact g.reach b hb
 ·intro i b k y h o F w d;obtain⟨v,j,x,c,a,_,rfl,l,rfl⟩:=m h o;rw[ED]at d;obtain⟨w0,q,rfl⟩:=wBH.1 d;exact Hi g f (g.seesV v b j x c l F w0 q) (U c) (f.use v x l a w0 q)
 ·intro i b k y R h o F e j w p d hp;obtain⟨v,j0,x,c,a,_,rfl,l,rfl⟩:=m h o;obtain⟨B,A,rfl⟩:=wu e;have D:x.op=21:=F;have d:(if x.op=21\/x.op=20 then x.args.map (nm u as) else x.args)[j]? =some w:=d;rw[if_pos (.inl D),wAQ]at d
  cases hq:x.args[j]? with
  |none=>rw[hq]at d;cases d
  | some w0=>
    rw[hq]at d;obtain rfl:nm u as w0=w:=Option.some.inj d;exact zR g f (g.seesP v b j0 x B c l D A j w0 p hq hp) (f.use v x l a w0 (by
      unfold uses;rw[if_pos D];exact wAI hq))
 ·intro i b k y gs h o hl I w d;obtain⟨v,j,x,c,a,_,rfl,l,rfl⟩:=m h o;have E:leaves x.op=true:=hl;have P:(trVal u as x).state=(stL u as).idxOf x.state:=by
   show(if leaves x.op=true then _ else _)=_;rw[if_pos E]
  have Q:=g.leave v x l E;have r:=wAA Q;rw[P,CQ (refV g a l E) r]at I;cases I;rw[yA]at d;obtain⟨w0,q,rfl⟩:=wBH.1 d;exact Hi g f (g.seesS v b j x _ c l E r w0 q) (U c) (f.st v x _ l a E r w0 q)
 ·intro b R e a;obtain⟨B,A,rfl⟩:=wu e;have H:B.fin=2:=a;show SeesEnd _ (if B.fin=2 then nm u as B.cond else B.cond) b;rw[if_pos H];exact zR g f (g.seesC b B A H) (f.cond b B A H)
 ·intro b R gs e G I w d;obtain⟨B,A,rfl⟩:=wu e;have K:B.fin=3:=G;have P:(trBlk u as B).state=(stL u as).idxOf B.state:=by
   show(if B.fin=3 then _ else _)=_;rw[if_pos K]
  have Q:B.state<u.states.length:=by
   rcases g.fin b B A with⟨C,_⟩|⟨C,_⟩|⟨_,_,C⟩
   ·omega
   ·omega
   ·exact C
  have r:=wAA Q;rw[P,CQ (refB A K) r]at I;cases I;rw[yA]at d;obtain⟨w0,q,rfl⟩:=wBH.1 d;exact zR g f (g.seesO b B _ A K r w0 q) (f.out b B _ A K r w0 q)
end
open Go.Proofs.YtpnddokajmjpbaaDoor.Dm
section
variable (u:U)(kp:Nat->Bool)
def numB (b:Nat):Nat:=if kp b=true then((List.range b).filter kp).length else 0
def stayJ (i:Nat)(ps:List Nat):List Nat:=(List.range ps.length).filter λj=>kp (ps.getD j 0)&&(next u (ps.getD j 0)).contains i
def cutPreds (i:Nat)(ps:List Nat):List Nat:=(stayJ u kp i ps).map λj=>numB kp (ps.getD j 0)
def cutArgs (i:Nat)(ps args:List Nat):List Nat:=(stayJ u kp i ps).map λj=>args.getD j 0
def noBk:Bk:=⟨[],0,0,[],[],0⟩
def keptB:List Nat:=(List.range u.blocks.length).filter kp
def cutBlk (b:Nat):Bk:={u.blocks.getD b noBk with next:=(u.blocks.getD b noBk).next.map (numB kp),preds:=cutPreds u kp b (u.blocks.getD b noBk).preds}
structure Cut (u':U):Prop where
 func:u'.func=u.func
 pc:u'.pc=u.pc
 states:u'.states=u.states
 blocks:u'.blocks=(keptB u kp).map (cutBlk u kp)
 len:u'.vals.length=u.vals.length
 phi:∀(v b k:Nat) (x:Vl) (B:Bk),At u v b k->u.vals[v]? =some x->x.op=21->kp b=true->u.blocks[b]? =some B->u'.vals[v]? =some {x with args:=cutArgs u kp b B.preds x.args}
 same:∀(v:Nat) (x:Vl),u.vals[v]? =some x->¬(x.op=21/\∃b k,At u v b k/\kp b=true)->u'.vals[v]? =some x
structure CutAs (az a:List Int):Prop where
 len:a.length=az.length
 gone:∀(v b k:Nat),At u v b k->kp b=false->v<az.length->a[v]? =some (-1)
 same:∀(v:Nat),(¬∃b k,At u v b k/\kp b=false)->a[v]? =az[v]?
end
section
variable{u u':U}{kp:Nat->Bool}
theorem yJ{p:Nat->Bool}{l:List Nat}(h:∀x∈l,p x=true):l.filter p=l:=List.filter_eq_self.2 h
theorem D2 (a:∀b,b<u.blocks.length->kp b=true) {b:Nat} (c:b<u.blocks.length):numB kp b=b:=by
 unfold numB;rw[if_pos (a b c),yJ λx d=>a x (by have:=wBJ.1 d;omega),wBY]
theorem Cz (g:Good u) (e:∀b,b<u.blocks.length->kp b=true) {b:Nat} {B:Bk} (f:u.blocks[b]? =some B):stayJ u kp b B.preds=List.range B.preds.length:=by
 unfold stayJ;refine yJ λj a=>?_;have a:=wBJ.1 a;rw[wAL,wAA a];have h:B.preds[j]∈ahead u b:=by rw[<-g.preds b B f];exact wAR a
 obtain⟨q,k,c,i,d⟩:=nT.1 h;rw[wAY]at d;rw[Option.getD_some,d,e q (wAB.1 c).1,Bool.true_and,List.contains_iff_mem];unfold next
 rw[c];exact i
theorem DD (l:List Nat) (d:Nat):(List.range l.length).map (λj=>l.getD j d)=l:=by
 refine wBs λj=>?_;by_cases hj:j<l.length
 ·rw[wAQ,wBm hj,wAA hj,Option.map_some,wAL,wAA hj];rfl
 ·rw[wAh (by simp;omega),wAh (by omega)]
theorem EW (g:Good u) (d:∀b,b<u.blocks.length->kp b=true) {b:Nat} {B:Bk} (a:u.blocks[b]? =some B):cutBlk u kp b=B:=by
 have e:u.blocks.getD b noBk=B:=by rw[wAL,a];rfl
 unfold cutBlk;rw[e];have f:B.next.map (numB kp)=B.next:=by
  have:∀t∈B.next,numB kp t=t:=λt i=>D2 d (g.nx b t (by unfold next;rw[a];exact i));rw[wBS this,List.map_id''];exact λ_=>rfl
 have k:cutPreds u kp b B.preds=B.preds:=by
  unfold cutPreds;rw[Cz g d a];have:∀j∈List.range B.preds.length,numB kp (B.preds.getD j 0)=B.preds.getD j 0:=λj c=>by
   have c:=wBJ.1 c;rw[wAL,wAA c,Option.getD_some];have l:B.preds[j]∈ahead u b:=by rw[<-g.preds b B a];exact wAR c
   obtain⟨q,m,f,_,h⟩:=nT.1 l;rw[wAY]at h;rw[h];exact D2 d (wAB.1 f).1
  rw[wBS this];exact DD _ _
 rw[f,k]
theorem Cut.eq (g:Good u) (i:∀b,b<u.blocks.length->kp b=true) (c:Cut u kp u'):u' = u:=by
 have m:u'.blocks=u.blocks:=by
  rw[c.blocks,keptB,yJ λx d=>i x (wBJ.1 d)];refine wBs λb=>?_;by_cases h:b<u.blocks.length
  ·rw[wAQ,wBm h,Option.map_some,EW g i (wAA h),wAA h]
  ·rw[wAh (by simp;omega),wAh (by omega)]
 have n:u'.vals=u.vals:=by
  refine wBs λv=>?_;by_cases h:v<u.vals.length
  ·have d:=wAA h;generalize u.vals[v]=x at*;rw[d];by_cases hp:x.op=21/\∃b k,At u v b k/\kp b=true
   ·obtain ⟨f,b,k,a,j⟩:=hp;obtain⟨B,l,o⟩:=id a;rw[c.phi v b k x B a d f j l];have e:cutArgs u kp b B.preds x.args=x.args:=by
     unfold cutArgs;rw[Cz g i l,<-(g.phi v b k x B a d f l).2];exact DD _ _
    rw[e]
   ·exact c.same v x d hp
  ·rw[wAh (by rw[c.len];omega),wAh (by omega)]
 have f:=c.func;have p:=c.pc;have q:=c.states;cases u;cases u';simp only at*;subst m n f p q;rfl
theorem CutAs.eq {az a:List Int} (c:CutAs u kp az a) (d:∀b,b<u.blocks.length->kp b=true):a=az:=by
 refine wBs λv=>c.same v ?_;rintro⟨b,k,⟨B,e,_⟩,h⟩;rw[d b (wAB.1 e).1]at h;cases h
end
open Go.Proofs.YtpnddokajmjpbaaDoor.Dm
theorem BS {l L:List Nat} (h:l <+: L) {v:Nat} (a:v∈l):L.idxOf v=l.idxOf v:=by
 obtain⟨r,rfl⟩:=h;rw[wB9,if_pos a]
theorem yv (l r:List Nat):firsts l <+: firsts (l++r):=by
 induction r using A0 with
 |h0=>rw[wAa];exact List.prefix_refl _
 | hs r s a=>
   rw[<-wAU,qX];split
   ·exact a
   ·exact a.trans (List.prefix_append _ _)
section
variable{u:U}{as:Nat->Int}
def stayTo (u:U) (as:Nat->Int) (i j:Nat):List Nat:=(u.blocks.take i).flatMap (λB=>B.vals.filter (stays as))++(match u.blocks[i]? with
 |some B=>(B.vals.take j).filter (stays as)
 |none=>[])
theorem Aj:stayTo u as 0 0=[]:=by
 unfold stayTo;rw[wBU,List.flatMap_nil,wAl];split <;> rfl
theorem Ek {i:Nat} {B:Bk} (a:u.blocks[i]? =some B):stayTo u as i B.vals.length=stayTo u as (i+1) 0:=by
 unfold stayTo;rw[a];obtain⟨b,rfl⟩:=wAB.1 a;dsimp only;rw[wAT b,wBR,List.flatMap_singleton,wAg];have:(match u.blocks[i+1]? with|some B=>(B.vals.take 0).filter (stays as)|none=>[])=[]:=by split <;> rfl
 rw[this,wAa]
theorem Fe:stayTo u as u.blocks.length 0=stayL u as:=by
 unfold stayTo stayL;rw[wAg,wAh (wAF _),wAa]
theorem Ar {i j v:Nat} {B:Bk} (a:u.blocks[i]? =some B) (b:B.vals[j]? =some v):stayTo u as i (j+1)=if stays as v=true then stayTo u as i j++[v] else stayTo u as i j:=by
 unfold stayTo;rw[a];obtain⟨c,rfl⟩:=wAB.1 b;dsimp only;rw[wAT c,wBb,wBh];split
 ·rw[List.filter_nil,<-wAU]
 ·rw[List.filter_nil,wAa]
theorem yo {i j:Nat} {B:Bk} (a:u.blocks[i]? =some B):stayTo u as i j <+: stayL u as:=by
 unfold stayTo stayL;rw[a];obtain⟨b,rfl⟩:=wAB.1 a;have e:u.blocks=u.blocks.take i++u.blocks[i]::u.blocks.drop (i+1):=by
  conv=>lhs;rw[<-wA8 i u.blocks]
  rw[wBE b]
 have c:(u.blocks[i].vals.take j).filter (stays as)++(u.blocks[i].vals.drop j).filter (stays as)=u.blocks[i].vals.filter (stays as):=by
  rw[<-wBb,wA8]
 conv=>rhs;rw[e]
 rw[wBR,wBr,<-c,wAU,<-wAU];exact List.prefix_append _ _
theorem JP (f:Once u) {i j v:Nat} {B:Bk} (b:u.blocks[i]? =some B) (g:B.vals[j]? =some v) (hs:stays as v=true):(stayL u as).idxOf v=(stayTo u as i j).length/\v ∉ stayTo u as i j:=by
 have c:=yo (as:=as) (j:=j+1) b;rw[Ar b g,if_pos hs]at c;have d:=rN (as:=as) f;obtain⟨r,e⟩:=c;rw[<-e,wAU]at d;have a:v ∉ stayTo u as i j:=λh=>by
  have:=(wBM.1 d).2.2 v h v (by simp);exact this rfl
 refine⟨?_,a⟩;rw[<-e,wAU,wB9,if_neg a];simp
theorem xy (c:∀v b k,At u v b k->v<u.vals.length) {v:Nat} (a:v∈stayL u as):v<u.vals.length:=by
 unfold stayL at a;obtain⟨B,d,a⟩:=wAy.1 a;obtain⟨b,e⟩:=wAD.1 d;obtain⟨k,f⟩:=wAD.1 (wA7.1 a).1;exact c v b k ⟨B,e,f⟩
theorem Eg {n:Nat} (h:∀v,v<n->as v<(n:Int)):∀(k v:Nat),v<n->realN as k v<n
 |0,_,hv=>hv
 | k + 1,v,hv=>by
   unfold realN;split
   ·rename_i a
    exact Eg h k _ (by have:=h v hv;omega)
   ·exact hv
def refsV (u:U) (l:List Nat):List Nat:=l.filterMap λn=>match u.vals[n]? with
 |some x=>if leaves x.op=true then some x.state else none
 |none=>none
def refsB (l:List Bk):List Nat:=l.filterMap λB=>if B.fin=3 then some B.state else none
theorem CG:stRefs u as=refsV u (stayL u as)++refsB u.blocks:=rfl
end
open Go.Proofs.YtpnddokajmjpbaaDoor.Dm
def Root (u:U) (v:Nat):Prop:=
 (∃x,u.vals[v]? =some x/\(x.op=19\/x.op=20\/x.op=22\/x.op=23))\/
 (∃(i:Nat) (x:Vl) (fs:List Fm),u.vals[i]? =some x/\leaves x.op=true/\u.states[x.state]? =some fs/\v∈frames fs)\/
 (∃(b:Nat) (B:Bk),u.blocks[b]? =some B/\B.fin=2/\v=B.cond)\/
 (∃(b:Nat) (B:Bk) (fs:List Fm),u.blocks[b]? =some B/\B.fin=3/\u.states[B.state]? =some fs/\v∈frames fs)
inductive Live (u:U):Nat->Prop
 |root {v:Nat} (h:Root u v):Live u v
 |use {v w:Nat} {x:Vl} (h:Live u v) (a:u.vals[v]? =some x) (b:w∈uses x):Live u w
theorem Dk {u:U} (g:Good u) {v:Nat} (h:Root u v):v<u.vals.length:=by
 have gl:∀{w},Gives u w->w<u.vals.length:=λ⟨_,h,_⟩=>(wAB.1 h).1;have fl:∀{s fs},u.states[s]? =some fs->∀w∈frames fs,w<u.vals.length:=λ{s fs} hs w a=>by
  unfold frames at a;obtain⟨f,i,a⟩:=wAy.1 a;obtain⟨_,_,j,e⟩:=(g.st s fs hs).2.2 f i;exact(wAV.1 a).elim (λh=>gl (j w h)) λh=>gl (e w h)
 rcases h with⟨x,h,_⟩|⟨_,_,_,_,_,h,c⟩|⟨b,B,h,e,rfl⟩|⟨_,_,_,_,_,h,c⟩
 ·exact(wAB.1 h).1
 ·exact fl h v c
 ·rcases g.fin b B h with⟨d,_⟩|⟨_,_,d⟩|⟨d,_⟩
  ·omega
  ·exact gl d
  ·omega
 ·exact fl h v c
theorem AU {u:U} (g:Good u) {v:Nat} (h:Live u v):v<u.vals.length:=by
 cases h with
 |root h=>exact Dk g h
 |use h a b=>obtain⟨_,h,_⟩:=g.use _ _ a _ b;exact(wAB.1 h).1
def DeadAs (u:U)(as:Nat->Int):Prop:=∀v,v<u.vals.length->(as v=(v:Int)/\Live u v)\/(as v = -1/\¬Live u v)
theorem DeadAs.fit {u:U} (g:Good u) {as:Nat->Int} (d:DeadAs u as) (i:∀v,u.vals.length<=v->as v = -1):Fit u as:=by
 have live:∀{w},Live u w->0<=as w:=λ{w} h=>by
  rcases d w (AU g h)with⟨e,_⟩|⟨_,n⟩
  ·omega
  ·exact absurd h n
 have self:∀{v w:Nat},as v=(w:Int)->v=w/\v<u.vals.length:=λ{v w} e=>by
  by_cases a:v<u.vals.length
  ·rcases d v a with⟨o,_⟩|⟨o,_⟩
   ·exact⟨by omega,a⟩
   ·omega
  ·have:=i v (by omega);omega
 have st:∀{v x},u.vals[v]? =some x->stays as v=true->Live u v:=λ{v x} f hs=>by
  have a:=(wAB.1 f).1;unfold stays at hs;rw[wAt]at hs;rcases d v a with⟨_,h⟩|⟨e,_⟩
  ·exact h
  ·omega
 refine ⟨λv a h0=>?_,λv w b k e l=>?_,λv w e h=>?_,λv x f hs w j=>live (.use (st f hs) f j),λv x fs f _ p c w j=>live (.root (.inr (.inl ⟨v,x,fs,f,p,c,j⟩))),
  λb B m q=>live (.root (.inr (.inr (.inl ⟨b,B,m,q,rfl⟩)))),λb B fs m r c w j=>live (.root (.inr (.inr (.inr ⟨b,B,fs,m,r,c,j⟩))))⟩
 ·rcases d v a with⟨e,_⟩|⟨e,_⟩
  ·exact⟨v,e,a,e⟩
  ·omega
 ·obtain⟨rfl,_⟩:=self e;exact⟨b,k,l,.inl ⟨rfl,wAF _⟩⟩
 ·obtain⟨rfl,_⟩:=self e;exact h
theorem GO {u:U} (g:Good u) {as:Nat->Int} (d:DeadAs u as) (q:∀v,u.vals.length<=v->as v = -1) :
  (∀i,i<(trimA u as).vals.length->Live (trimA u as) i)/\∀s,s<(trimA u as).states.length->(∃(i:Nat) (x:Vl),(trimA u as).vals[i]? =some x/\leaves x.op=true/\x.state=s)\/∃(b:Nat) (B:Bk),(trimA u as).blocks[b]? =some B/\B.fin=3/\B.state=s:=by
 have f:=d.fit g q;have j:∀{v:Nat},Live u v->stays as v=true:=λ{v} h=>by
  rcases d v (AU g h)with⟨e,_⟩|⟨_,m⟩
  ·unfold stays;rw[e,beq_self_eq_true]
  ·exact absurd h m
 have n:∀{v:Nat},Live u v->nm u as v=(stayL u as).idxOf v:=λ{v} h=>by
  have r:=AU g h;obtain⟨w,z,_,l⟩:=FS g f r (by
   have:=j h;unfold stays at this;rw[wAt]at this;omega)
  have:=j h;unfold stays at this;rw[wAt]at this;obtain rfl:v=w:=by omega
  exact l
 have inn:∀{v:Nat},Live u v->v∈stayL u as:=λh=>(iT g).2 ⟨AU g h,j h⟩;have frm:∀{fs:List Fm} {w:Nat},w∈frames fs->nm u as w∈frames (fs.map (trFm u as)):=λ{fs w} h=>by
  rw[yA];exact wCF h
 have t:∀v,Live u v->Live (trimA u as) (nm u as v):=by
  intro v h
  induction h with
  | @root v h=>
    have y:Live u v:= .root h;refine .root ?_;rcases h with⟨x,o,F⟩|⟨i,x,fs,o,a,p,r⟩|⟨b,B,A,c,rfl⟩|⟨b,B,fs,A,l,p,r⟩
    ·refine .inl ⟨trVal u as x,?_,F⟩
     rw[n y];exact zK (tR (inn y)) o
    ·have hi:Live u i:= .root (.inl ⟨x,o,by
       unfold leaves at a;rw[wAw,wAt,wAt]at a;omega⟩)
     refine .inr (.inl ⟨_,trVal u as x,_,zK (tR (inn hi)) o,a,?_,frm r⟩);show(trimA u as).states[if leaves x.op=true then _ else _]? =_;rw[if_pos a];exact CQ (refV g (j hi) o a) p
    ·refine .inr (.inr (.inl ⟨b,_,BF A,c,?_⟩))
     show nm u as B.cond=if B.fin=2 then nm u as B.cond else B.cond
     rw[if_pos c]
    ·refine .inr (.inr (.inr ⟨b,_,_,BF A,l,?_,frm r⟩))
     show(trimA u as).states[if B.fin=3 then _ else _]? =_;rw[if_pos l]
     exact CQ (refB A l) p
  | @use v w x h o G H=>
    refine .use H (x:=trVal u as x) ?_ ?_
    ·rw[n h]
     exact zK (tR (inn h)) o
    ·rw[ED]
     exact wCF G
 have hlen:(trimA u as).vals.length=(stayL u as).length:=by
  show((stayL u as).map _).length=_;rw[wAb]
 have C:(trimA u as).states.length=(stL u as).length:=by
  show((stL u as).map _).length=_;rw[wAb]
 constructor
 ·intro i hi;rw[hlen]at hi;have m:=wAA hi;obtain⟨z,c⟩:=(iT g).1 (wAI m);have y:Live u (stayL u as)[i]:=by
   unfold stays at c;rw[wAt]at c;rcases d _ z with⟨_,h⟩|⟨e,_⟩
   ·exact h
   ·omega
  have:=t _ y;rw[n y,Ez (tX g) m]at this;exact this
 ·intro s hs;rw[C]at hs;have m:=wAA hs;have hi:=Ez (zy (stRefs u as)) m;rcases(xB g ((ll _ _).1 (wAI m))).2 with⟨v,b,k,x,_,c,l,E,D⟩|⟨b,B,z,c,D⟩
  ·refine .inl ⟨_,trVal u as x,zK (tR ((iT g).2 ⟨(wAB.1 l).1,c⟩)) l,E,?_⟩;show(if leaves x.op=true then(stL u as).idxOf x.state else x.state)=s;rw[if_pos E,D];exact hi
  ·refine .inr ⟨b,_,BF z,c,?_⟩;show(if B.fin=3 then(stL u as).idxOf B.state else B.state)=s;rw[if_pos c,D];exact hi
def AL (l:List Vl):Prop:=∀x∈l,x.args.length<=2
section
variable{ops:List Int}
theorem Cj:∀(i:Nat) (s:Ds) (l:List Nat),(m0 ops i s l).2.vals=s.vals
 |0,_,_=>rfl
 | i+1,s,l=>by
   unfold m0;rw[Cj i];rfl
theorem tU (s:Ds):(stateM ops s).2.vals=s.vals:=by
 show(m0 ops (num ops s 4).1 (num ops s 4).2 []).2.vals=s.vals;rw[Cj];rfl
theorem vg {s:Ds} {x:Vl} (h:AL s.vals) (c:x.args.length<=2):AL (put s x).vals:=λy a=>by
 have a:y∈s.vals++[x]:=a;rcases wAV.1 a with b|b
 ·exact h y b
 ·rw[wAW.1 b];exact c
theorem rS{s:Ds}{x:Vl}(h:AL s.vals)(a:x.args.length<=2):AL (putK s x).vals:=vg h a
theorem Id {s:Ds} {k a b:Nat} (h:AL s.vals):AL (kindM ops s k a b).vals:=by
 have hs:AL (stateM ops s).2.vals:=by rw[tU];exact h
 unfold kindM;by_cases c:k<12
 ·rw[if_pos c];exact rS h (by simp[vl])
 rw[if_neg c];by_cases c:k=12
 ·rw[if_pos c];exact rS (s:=(num ops s 1048576).2) h (by simp[vl])
 rw[if_neg c];by_cases c:k=13
 ·rw[if_pos c];exact rS (s:=(num ops s 5).2) h (by simp[vl])
 rw[if_neg c];by_cases c:k=14
 ·rw[if_pos c];exact rS h (by simp[vl])
 rw[if_neg c];by_cases c:k=15
 ·rw[if_pos c];exact vg (s:=(num ops s 5).2) h (by simp[vl])
 rw[if_neg c];by_cases c:k=16
 ·rw[if_pos c];exact vg (s:=(one_ ops s).2) h (by simp[vl])
 rw[if_neg c];by_cases c:k=17
 ·rw[if_pos c];exact vg hs (by simp[vl])
 rw[if_neg c];by_cases c:k=18
 ·rw[if_pos c];exact vg hs (by simp[vl])
 rw[if_neg c];exact rS (s:=(num ops s 2).2) h (by simp[vl])
theorem Fa{s:Ds}(h:AL s.vals):AL (rowStep ops s).vals:=Id h
theorem FO:∀(i:Nat) (s:Ds),AL s.vals->AL (rows ops i s).vals
 |0,_,h=>h
 | i+1,s,h=>by
   unfold rows;split
   ·exact FO i _ (Fa h)
   ·exact h
theorem wS{s:Ds}(h:AL s.vals):AL (row ops s).vals:=FO _ _ h
theorem vR {s:Ds} {v:Nat} {l:List Nat} (h:AL s.vals) (a:l.length<=2):AL (setArgs s v l).vals:=λy b=>by
 obtain⟨i,hi⟩:=wAD.1 b;have hi:(s.vals.modify v λx=>{x with args:=l})[i]? =some y:=hi;rw[wB5]at hi
 cases hx:s.vals[i]? with
 |none=>rw[hx]at hi;cases hi
 | some x=>
   rw[hx]at hi;have hi:some (if v=i then{x with args:=l} else x)=some y:=hi;have:=Option.some.inj hi;subst this;split
   ·exact a
   ·exact h x (wAI hx)
theorem IM {t:Dt} (h:AL t.s.vals):AL (fork ops t).s.vals:=by
 unfold fork;refine wS (rS ?_ (by simp[vl]));refine wS (s:=(end_ _ _ _ _ _ _).s) ?_;exact wS (s:=(end_ _ _ _ _ _ _).s) h
theorem Ix {t:Dt} (h:AL t.s.vals):AL (qJ ops t).s.vals:=by
 unfold qJ;refine wS (s:=(end_ _ _ _ _ _ _).s) ?_;show AL (stateM ops _).2.vals;rw[tU];exact wS (s:=(end_ _ _ _ _ _ _).s) h
theorem ID {t:Dt} (h:AL t.s.vals):AL (loop ops t).s.vals:=by
 unfold loop;refine wS (s:=(end_ _ _ _ _ _ _).s) ?_;refine vR (s:=_) ?_ (by simp);have b:∀(a:Ds) (p:Nat) (l c:List Nat),l.length<=2->c.length<=2->AL a.vals->AL (if(num ops (setArgs a p l) 3).1=0 then setArgs (num ops (setArgs a p l) 3).2 p c else(num ops (setArgs a p l) 3).2).vals:=λa p l c d f e=>by
  split
  ·exact vR (s:=(num ops (setArgs a p l) 3).2) (vR e d) f
  ·exact vR e d
 refine b _ _ _ _ (by simp) (by simp) ?_;refine wS (s:=(end_ _ _ _ _ _ _).s) ?_;refine rS (vg (vg ?_ (by simp[vl])) (by simp[vl])) (by simp[vl]);rw[tU];refine vg (s:=(one_ ops _).2) ?_ (by simp[vl]);exact vg (s:=(end_ _ _ _ _ _ _).s) h (by simp[vl])
theorem Cb:∀(l:List Int) (t:Dt),AL t.s.vals->AL (shapes ops l t).s.vals
 |[],_,h=>h
 | k ::l,t,h=>by
   unfold shapes;split
   ·refine Cb l _ ?_
    unfold shapeM;split
    ·exact IM h
    ·split
     ·exact ID h
     ·exact Ix h
   ·exact h
theorem CC:∀(n i:Nat) (s:Ds),AL s.vals->AL (params n i s).vals
 |0,_,_,h=>h
 |n+1,i,s,h=>CC n (i+1) _ (rS h (by simp[vl]))
theorem Ji (ops a:List Int) (n:Int):AL (unitM ops a n).vals:=by
 unfold unitM;show AL (stateM ops _).2.vals;rw[tU];refine Cb _ _ ?_;exact wS (rS (CC _ _ _ (λ_ h=>nomatch h)) (by simp[vl]))
end
open Go.Proofs.YtpnddokajmjpbaaDoor.Dm
def Free (nx:Nat->List Nat)(but:Int)(b:Nat):Prop:=∃l,Pt nx b l/\∀x∈l,(x:Int)≠but
theorem GM {nx:Nat->List Nat} {a b:Nat}:¬Free nx (a:Int) b↔Domi nx a b:=by
 constructor
 ·intro h l c;refine Classical.byContradiction λf=>h ⟨l,c,λx d e=>f ?_⟩;have:x=a:=by omega
  rwa [this]at d
 ·rintro h ⟨l,c,d⟩;exact d a (h l c) rfl
structure Wo (n:Nat) (nx:Nat->List Nat) (but:Int) (c:Option (Nat×Nat)) (seen:List Bool) (todo:List Nat):Prop where
 len:seen.length=n
 zero:seen[0]? =some true
 sound:∀v:Nat,seen[v]? =some true->Free nx but v
 work:∀v∈todo,seen[v]? =some true
 closed:∀v:Nat,seen[v]? =some true->v∈todo\/∀(k t:Nat),(nx v)[k]? =some t->(t:Int)≠but->seen[t]? =some true\/∃j,c=some (v,j)/\j<=k
 less:todo.length+seen.count false<=n
theorem nR {l:List Bool}:∀{v:Nat},l[v]? =some false->(l.set v true).count false+1=l.count false:=by
 induction l with
 |nil=>intro v h;simp at h
 | cons a l b=>
   intro v h
   cases v with
   | zero=>
     obtain rfl:a=false:=by simpa using h
     simp
   | succ v=>
     have:=b (v:=v) (by simpa using h);rw[wAE,wCH,wCH];omega
section
variable{n:Nat}{nx:Nat->List Nat}{but:Int}{seen:List Bool}{todo:List Nat}
theorem Wo.start (c:0<n) (h0:but≠0):Wo n nx but none ((List.replicate n false).set 0 true) [0]:=by
 have hs:∀v:Nat,((List.replicate n false).set 0 true)[v]? =some true->v=0:=λv a=>by
  refine Classical.byContradiction λe=>?_;rw[wAN λh=>e h.symm,wA4]at a;split at a <;> cases a
 have b:((List.replicate n false).set 0 true)[0]? =some true:=wAK (by simp;omega);refine⟨by simp,b,λv a=>?_,λv a=>?_,λv a=> .inl (by rw[hs v a];simp),?_⟩
 ·rw[hs v a];exact⟨[0],.nil,λx d=>by rw[wAW.1 d];omega⟩
 ·rw[wAW.1 a];exact b
 ·have:=nR (l:=List.replicate n false) (v:=0) (by rw[wA4,if_pos c]);rw[List.count_replicate_self]at this;simp only[wBP];omega
theorem Wo.pop {b:Nat} (w:Wo n nx but none seen (b::todo)):Wo n nx but (some (b,0)) seen todo/\Free nx but b:=by
 have d:=w.less;rw[wAX]at d;refine⟨⟨w.len,w.zero,w.sound,λv a=>w.work v (by simp[a]),λv a=>?_,by omega⟩,w.sound b (w.work b (by simp))⟩;rcases w.closed v a with h|h
 ·rcases wAr.1 h with rfl|h
  ·exact .inr λk t _ _=> .inr ⟨0,rfl,by omega⟩
  ·exact .inl h
 ·refine .inr λk t e f=> .inl ?_;rcases h k t e f with c|⟨j,c,_⟩
  ·exact c
  ·cases c
theorem Wo.skip {b j t:Nat} (w:Wo n nx but (some (b,j)) seen todo) (f:(nx b)[j]? =some t) (h:(t:Int)=but\/seen[t]? =some true):Wo n nx but (some (b,j+1)) seen todo:=by
 refine⟨w.len,w.zero,w.sound,w.work,λv g=>?_,w.less⟩;rcases w.closed v g with a|a
 ·exact .inl a
 ·refine .inr λk s c hs=>?_;rcases a k s c hs with d|⟨i,d,l⟩
  ·exact .inl d
  ·cases d;by_cases e:k=j
   ·subst e;rw[f]at c;cases c;rcases h with h|h
    ·exact absurd h hs
    ·exact .inl h
   ·exact .inr ⟨j+1,rfl,by omega⟩
theorem Wo.push {b j t:Nat} (w:Wo n nx but (some (b,j)) seen todo) (p:(nx b)[j]? =some t) (r:Free nx but b) (u:(t:Int)≠but) (q:seen[t]? =some false):Wo n nx but (some (b,j+1)) (seen.set t true) (todo++[t]):=by
 have d:=(wAB.1 q).1;have a:(seen.set t true)[t]? =some true:=wAK d;have up:∀v:Nat,seen[v]? =some true->(seen.set t true)[v]? =some true:=λv c=>by
  by_cases e:v=t
  ·rw[e];exact a
  ·rw[wAN λh=>e h.symm];exact c
 have down:∀v:Nat,(seen.set t true)[v]? =some true->v=t\/seen[v]? =some true:=λv c=>by
  by_cases e:v=t
  ·exact .inl e
  ·rw[wAN λh=>e h.symm]at c;exact .inr c
 refine⟨by rw[wA6];exact w.len,up 0 w.zero,λv c=>?_,λv c=>?_,λv c=>?_,?_⟩
 ·rcases down v c with rfl|h
  ·obtain ⟨l,y,z⟩:=r;exact⟨v::l,.step y (wAI p),λx f=>by
    rcases wAr.1 f with rfl|h
    ·exact u
    ·exact z x h⟩
  ·exact w.sound v h
 ·rcases wAV.1 c with h|h
  ·exact up v (w.work v h)
  ·rw[wAW.1 h];exact a
 ·rcases down v c with rfl|h
  ·exact .inl (by simp)
  ·rcases w.closed v h with g|g
   ·exact .inl (by simp[g])
   ·refine .inr λk s m hs=>?_;rcases g k s m hs with o|⟨i,o,A⟩
    ·exact .inl (up s o)
    ·cases o;by_cases e:k=j
     ·subst e;rw[p]at m;cases m;exact .inl a
     ·exact .inr ⟨j+1,rfl,by omega⟩
 ·have:=nR q;have:=w.less;rw[wAM,wBP];omega
theorem Wo.next {b:Nat} (w:Wo n nx but (some (b,(nx b).length)) seen todo):Wo n nx but none seen todo:=by
 refine⟨w.len,w.zero,w.sound,w.work,λv d=>(w.closed v d).imp id λh k t c e=>?_,w.less⟩;rcases h k t c e with a|⟨j,a,f⟩
 ·exact .inl a
 ·cases a;have:=(wAB.1 c).1;omega
theorem Wo.all (w:Wo n nx but none seen []):∀{b:Nat} {l:List Nat},Pt nx b l->(∀x∈l,(x:Int)≠but)->seen[b]? =some true
 |_,_,.nil,_=>w.zero
 | _,_,.step (p:=p) h e,hx=>by
   have d:=w.all h λx h=>hx x (wA0 _ h);obtain⟨k,f⟩:=wAD.1 e;rcases w.closed p d with a|a
   ·cases a
   ·rcases a k _ f (hx _ (wA9 ..))with c|⟨_,c,_⟩
    ·exact c
    ·cases c
theorem Wo.iff (w:Wo n nx but none seen []) (b:Nat):seen[b]? =some true↔Free nx but b:=
 ⟨w.sound b,λ⟨_,a,c⟩=>w.all a c⟩
theorem Gg {b:Nat} (h:but=0):¬Free nx but b:=by
 rintro⟨l,c,a⟩;have:0∈l:=by
  clear a
  induction c with
  |nil=>exact .head _
  |step _ _ d=>exact .tail _ d
 exact a 0 this (by omega)
end
