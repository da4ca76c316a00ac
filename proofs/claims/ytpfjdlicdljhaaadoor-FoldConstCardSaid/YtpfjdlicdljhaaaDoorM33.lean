/- Parts. -/
import Derived.Test.YtpfjdlicdljhaaaDoorM13
set_option maxHeartbeats 4000000
namespace Go.Proofs.YtpfjdlicdljhaaaDoor.Un
open Dm
def iy(l:List Nat):List Nat:=l.foldl (λa s=>if s∈a then a else a++[s]) []
theorem sR(l:List Nat) (s:Nat):iy (l++[s])=if s∈iy l then iy l else iy l++[s]:=by
 grind[iy]
theorem Gx{P:List Nat->Prop} (h0:P []) (hs:∀l s,P l->P (l++[s])) (l:List Nat):P l:=by
 have:∀r:List Nat,P r.reverse:=λr=>by
  induction r <;> grind
 rw[<-List.reverse_reverse l]
 grind
theorem pj(l:List Nat):∀x,x∈iy l↔x∈l:=by
 induction l using Gx with
 |h0=>exact λ_=>Iff.rfl
 | hs l s a=>
   grind[sR,Ut,id]
theorem Jp(l:List Nat):(iy l).Nodup:=by
 induction l using Gx with
 |h0=>exact List.nodup_nil
 | hs l s a=>
   grind[sR,Wh,T9,List.nodup_nil,Ut]
theorem yG{l:List Nat} {x:Nat} (h:x∈l):l[l.idxOf x]? =some x:=by
 grind
theorem my{l:List Nat} (a:l.Nodup) {i j x:Nat} (hi:l[i]? =some x) (b:l[j]? =some x):i=j:=by
 grind[gL,V7,YI,absurd]
theorem US{l:List Nat}(a:l.Nodup){i x:Nat}(h:l[i]? =some x):l.idxOf x=i:=by grind
theorem J0{l:List Nat} {x y:Nat} (a:x∈l) (b:y∈l) (h:l.idxOf x=l.idxOf y):x=y:=by
 grind[yG,Option.some.inj]
theorem Fg{p:Nat->Bool}:∀{l:List Nat} {k v:Nat},l[k]? =some v->p v=true->(l.filter p)[((l.take k).filter p).length]? =some v
 |[],k,v,h,_=>by simp_all
 | a::l,0,v,h,hp=>by
   simp_all
 | a::l,k+1,v,h,hp=>by
   have b:=Fg (l:=l) (k:=k) (by simp_all) hp
   grind
theorem TF{p:Nat->Bool} {l:List Nat} {j k w:Nat} (h:l[j]? =some w) (b:p w=true) (a:j<k):((l.take j).filter p).length<((l.take k).filter p).length:=by
 obtain ⟨c,rfl⟩:=gL.1 h;have e:l.take k=l.take j++l[j]::((l.take k).drop (j+1)):=by
  conv=>lhs;rw[<-Sj j (l.take k)]
  rw[List.take_take,Wb (by omega)];congr 1;rw[SE (by grind),List.getElem_take]
 grind
section
variable (u:U)(as:Nat->Int)
def stays(v:Nat):Bool:=as v == (v:Int)
def de:List Nat:=u.blocks.flatMap λB=>B.cR.filter (stays as)
def px:Nat->Nat->Nat
 |0,v=>v
 |k+1,v=>if 0<=as v/\as v≠(v:Int) then px k (as v).toNat else v
def nm(v:Nat):Nat:=if px as (u.cR.length+1) v∈de u as then(de u as).idxOf (px as (u.cR.length+1) v) else 0
def DS:List Nat:=(de u as).filterMap (λn=>match u.cR[n]? with
  |some x=>if leaves x.op=true then some x.state else none
  |none=>none)++u.blocks.filterMap λB=>if B.fin=3 then some B.state else none
def AN:List Nat:=iy (DS u as)
def eO(x:Vl):Vl where
 op:=x.op
 a:=if 0<(if two x.op=true then 2 else if om x.op=true then 1 else 0) then nm u as x.a else x.a
 b:=if two x.op=true then nm u as x.b else x.b
 n:=x.n
 args:=if x.op=21\/x.op=20 then x.args.map (nm u as) else x.args
 state:=if leaves x.op=true then(AN u as).idxOf x.state else x.state
def iG(B:Bk):Bk where
 cR:=(B.cR.filter (stays as)).map (de u as).idxOf
 fin:=B.fin
 cond:=if B.fin=2 then nm u as B.cond else B.cond
 next:=B.next
 c8:=B.c8
 state:=if B.fin=3 then(AN u as).idxOf B.state else B.state
def Pk(f:Fm):Fm:=⟨f.func,f.pc,f.locals.map (nm u as),f.stack.map (nm u as)⟩
def ey:U where
 func:=u.func
 pc:=u.pc
 cR:=(de u as).map λn=>eO u as (u.cR.getD n ⟨0,0,0,0,[],0⟩)
 blocks:=u.blocks.map (iG u as)
 cZ:=(AN u as).map λs=>(u.cZ.getD s []).map (Pk u as)
end
def TS(u:U):Prop:=∀(v:Nat) (b:Nat) (k:Nat) (b':Nat) (k':Nat),At u v b k->At u v b' k'->b=b'/\k=k'
theorem BZ{u:U} (c:TS u) {b:Nat} {B:Bk} (a:u.blocks[b]? =some B):B.cR.Nodup:=by
 refine V7.2 λi j hi d f e=>?_;have g:At u B.cR[i] b i:=⟨B,a,fg hi⟩
 have h:At u B.cR[i] b j:=⟨B,a,by rw[e];exact fg d⟩
 have:=(c _ _ _ _ _ g h).2;omega
theorem uc{u:U} {as:Nat->Int} (f:TS u):(de u as).Nodup:=by
 unfold de;have b:∀(l:List Bk) (i:Nat),(∀k B,l[k]? =some B->u.blocks[i+k]? =some B)->(l.flatMap λB=>B.cR.filter (stays as)).Nodup:=by
  intro l
  induction l with
  |nil=>simp_all
  | cons B l g=>
    intro i h;rw[Zs,Wh];have j:u.blocks[i]? =some B:=h 0 B rfl;refine⟨by grind[BZ],g (i+1) λk C hk=>by rw[show i+1+k=i+(k+1) by omega];simp_all,λa m c hc e=>?_⟩;subst e;obtain⟨C,n,d⟩:=Sf.1 hc;obtain⟨k,hk⟩:=kh.1 n;obtain⟨o,p⟩:=kh.1 (DG.1 m).1;obtain⟨q,r⟩:=kh.1 (DG.1 d).1;have:=(f a i o (i+(k+1)) q ⟨B,j,p⟩ ⟨C,h (k+1) C (by simpa using hk),r⟩).1;omega
 exact b u.blocks 0 (by simp_all)
theorem Pt.short{nx:Nat->List Nat} {x:Nat}:∀{b l},Pt nx b l->x∈l->x≠b->∃a,Pt nx x a/\a.length<l.length
 | _,_,.nil,h,hn=>by
   simp_all
 | _,_,.step (p:=p) (b:=b) (l:=l) h e,c,hn=>by
   rcases HS.1 c with rfl|c
   ·omega
   ·by_cases hp:x=p
    ·subst hp
     exact⟨l,h,by simp⟩
    ·obtain⟨a,d,f⟩:=Pt.short h c hp
     exact⟨a,d,by simp;omega⟩
theorem lE.Ss{nx:Nat->List Nat} {a b:Nat} (c:lE nx a b) (d:lE nx b a) {l:List Nat} (e:Pt nx b l):a=b:=by
 have f:∀n (l:List Nat),l.length<=n->(Pt nx b l->a≠b->False)/\(Pt nx a l->a≠b->False):=by
  intro n
  induction n with
  | zero=>
    intro l e;have:l=[]:=by simp_all
    subst this
    exact⟨λh _=>(nomatch h),λh _=>(nomatch h)⟩
  | succ n m=>
    intro l e;refine⟨λh g=>?_,λh g=>?_⟩
    ·obtain⟨i,j,k⟩:=h.short (c l h) g
     grind
    ·obtain⟨i,j,k⟩:=h.short (d l h) g.symm
     grind
 by_cases h:a=b
 ·exact h
 ·exact((f l.length l (iC _)).1 e h).elim
theorem lE.trans{nx:Nat->List Nat} {a b c:Nat} (g:lE nx a b) (j:lE nx b c):lE nx a c:=λl i=>by
 have d:∀{y l},Pt nx y l->b∈l->a∈l:=by
  intro y l k
  induction k with
  | nil=>
    intro f;obtain rfl:b=0:=by simp_all
    exact g _ .nil
  | step h e m=>
    intro f;rcases HS.1 f with rfl|f
    ·exact g _ (.step h e)
    simp_all
 exact d i (j l i)
structure Fit (u:U) (as:Nat->Int):Prop where
 root:∀v,v<u.cR.length->0<=as v->∃w:Nat,as v=(w:Int)/\w<u.cR.length/\as w=(w:Int)
 up:∀(v w b k:Nat),as v=(w:Int)->At u v b k->∃c j,At u w c j/\(c=b/\j<=k\/c≠b/\lE (next u) c b)
 YR:∀(v w:Nat),as v=(w:Int)->jo u v->jo u w
 use:∀(v:Nat) (x:Vl),u.cR[v]? =some x->stays as v=true->∀w∈fu x,0<=as w
 st:∀(v:Nat) (x:Vl) (fs:List Fm),u.cR[v]? =some x->stays as v=true->leaves x.op=true->u.cZ[x.state]? =some fs->∀w∈ff fs,0<=as w
 cond:∀(b:Nat) (B:Bk),u.blocks[b]? =some B->B.fin=2->0<=as B.cond
 out:∀(b:Nat) (B:Bk) (fs:List Fm),u.blocks[b]? =some B->B.fin=3->u.cZ[B.state]? =some fs->∀w∈ff fs,0<=as w
class NW (P:Nat->Prop) (as:Nat->Int):Prop where
 h:∀v,stays as v=true->P v
instance (as:Nat->Int):NW (λ_=>True) as:=⟨λ_ _=>trivial⟩
instance (as:Nat->Int):NW (λv=>stays as v=true) as:=⟨λ_ h=>h⟩
section
variable{u:U}{P:Nat->Prop}{as:Nat->Int}[hP:NW P as] (g:Gd u P)(f:Fit u as)
include g
theorem ft{v:Nat}:v∈de u as↔v<u.cR.length/\stays as v=true:=by
 unfold de;rw[Sf];constructor
 ·rintro⟨B,e,f⟩;obtain⟨a,c⟩:=DG.1 f;obtain⟨b,d⟩:=kh.1 e;obtain⟨k,hk⟩:=kh.1 a;exact⟨g.gz v b k ⟨B,d,hk⟩,c⟩
 ·rintro⟨a,c⟩;obtain⟨b,k,B,d,hk⟩:=g.yx v a (hP.h v c)
  grind
theorem En{b:Nat}{B:Bk}(a:u.blocks[b]? =some B):B.cR.Nodup:=BZ g.CE a
omit hP in
theorem wG:(de u as).Nodup:=uc g.CE
omit g in
include f in
theorem T0 {v:Nat} (hv:v<u.cR.length) (h0:0<=as v):∃w:Nat,px as (u.cR.length+1) v=w/\as v=(w:Int)/\w<u.cR.length/\as w=(w:Int):=by
 obtain⟨w,h1,h2,h3⟩:=f.root v hv h0;refine⟨w,?_,h1,h2,h3⟩;unfold px;split
 ·rename_i h;rw[h1];show px as u.cR.length w=w;cases u.cR.length <;> simp_all[px,if_neg]
 omega
include f
theorem Nl{v:Nat} (a:v<u.cR.length) (h0:0<=as v):∃w:Nat,as v=(w:Int)/\w∈de u as/\nm u as v=(de u as).idxOf w:=by
 obtain⟨w,e,b,c,h⟩:=T0 f a h0;have d:w∈de u as:=(ft g).2 ⟨c,by simp_all[stays]⟩;exact⟨w,b,d,by simp_all[nm,if_pos]⟩
omit f g
theorem GR{i n:Nat} {x:Vl} (hi:(de u as)[i]? =some n) (a:u.cR[n]? =some x):(ey u as).cR[i]? =some (eO u as x):=by
 show((de u as).map _)[i]? =_
 simp_all
theorem wY(g:Gd u P) {i:Nat} {y:Vl} (h:(ey u as).cR[i]? =some y):∃n x,(de u as)[i]? =some n/\u.cR[n]? =some x/\y=eO u as x/\stays as n=true:=by
 have h:((de u as).map _)[i]? =some y:=h;rw[w5]at h
 cases hn:(de u as)[i]? with
 |none=>simp_all
 | some n=>
   obtain⟨a,b⟩:=(ft g).1 (zD hn)
   simp_all
theorem ME{b:Nat} {B:Bk} (a:u.blocks[b]? =some B):(ey u as).blocks[b]? =some (iG u as B):=by
 show(u.blocks.map _)[b]? =_
 simp_all
theorem yv{b:Nat} {a:Bk} (h:(ey u as).blocks[b]? =some a):∃B,u.blocks[b]? =some B/\a=iG u as B:=by
 have h:(u.blocks.map _)[b]? =some a:=h
 grind
theorem Ra(b:Nat):next (ey u as) b=next u b:=by
 unfold next
 cases hb:u.blocks[b]? with
 | none=>
   grind[ey]
 |some B=>rw[ME hb];rfl
theorem J7:next (ey u as)=next u:=funext Ra
theorem EL{h:Bk->Bk} (a:∀B,(h B).next=B.next) (b:Nat):∀(l:List Bk) (i:Nat),gF (l.map h) i b=gF l i b
 |[],_=>rfl
 | B::l,i=>by
   show((h B).next.filter (·= b)).map (λ_=>i)++gF (l.map h) (i+1) b=_;rw[a,EL a b l];rfl
theorem Jh(b:Nat):ahead (ey u as) b=ahead u b:=EL (h:=iG u as) (λ_=>rfl) b u.blocks 0
def pk(u:U) (as:Nat->Int) (b k:Nat):Nat:=match u.blocks[b]? with
 |some B=>((B.cR.take k).filter (stays as)).length
 |none=>0
theorem VX{v b k:Nat} (h:At u v b k) (hs:stays as v=true):At (ey u as) ((de u as).idxOf v) b (pk u as b k):=by
 obtain⟨B,a,c⟩:=h;refine⟨_,ME a,?_⟩;show((B.cR.filter (stays as)).map _)[pk u as b k]? =_
 grind[pk,Fg]
theorem Us{v b j k:Nat} (h:At u v b j) (hs:stays as v=true) (a:j<k):pk u as b j<pk u as b k:=by
 obtain⟨B,c,d⟩:=h
 simp_all[pk,TF]
theorem CQ(g:Gd u P) {i b k:Nat} (h:At (ey u as) i b k):∃v j,At u v b j/\stays as v=true/\i=(de u as).idxOf v/\k=pk u as b j/\(de u as)[i]? =some v:=by
 obtain⟨m,c,hi⟩:=h;obtain⟨B,e,rfl⟩:=yv c;have hi:((B.cR.filter (stays as)).map _)[k]? =some i:=hi;rw[w5]at hi
 cases hv:(B.cR.filter (stays as))[k]? with
 |none=>simp_all
 | some v=>
   rw[hv]at hi;obtain rfl:(de u as).idxOf v=i:=Option.some.inj hi;obtain⟨l,d⟩:=DG.1 (zD hv);obtain⟨j,f⟩:=kh.1 l;have a:At u v b j:=⟨B,e,f⟩
   refine⟨v,j,a,d,rfl,?_,yG ((ft g).2 ⟨g.gz _ _ _ a,d⟩)⟩;unfold pk;rw[e];exact my (by grind[En]) hv (Fg f d)
theorem MR(x:Vl):fu (eO u as x)=(fu x).map (nm u as):=by
 unfold fu;show(if x.op=21 then(eO u as x).args else if x.op=20 then(eO u as x).a::(eO u as x).b::(eO u as x).args.take 1 else if two x.op=true then[(eO u as x).a,(eO u as x).b] else if om x.op=true then[(eO u as x).a] else[])=_;unfold eO;simp only;by_cases c:x.op=21
 ·simp[c]
 ·rw[if_neg c,if_neg c];by_cases d:x.op=20
  ·simp_all[if_pos,two,List.map_take]
  grind
include g f
theorem Fl{w:Nat} (h:jo u w) (h0:0<=as w):jo (ey u as) (nm u as w):=by
 obtain⟨x,i,_⟩:=id h;obtain⟨r,a,b,c⟩:=Nl g f (by grind) h0;obtain⟨y,d,e⟩:=f.YR w r a h;exact⟨eO u as y,by rw[c];exact GR (yG b) d,e⟩
theorem Rh{w b k:Nat} (h:vQ u w b k) (s:b<u.blocks.length) (h0:0<=as w):vQ (ey u as) (nm u as w) b (pk u as b k):=by
 obtain⟨c,j,d,hc⟩:=h;obtain⟨r,t,v,z⟩:=Nl g f (g.gz _ _ _ d) h0;obtain⟨c',x,i,m⟩:=f.up w r c j t d;have hs:=((ft g).1 v).2;refine⟨c',pk u as c' x,by grind[VX],?_⟩;rw[J7];rcases hc with⟨rfl,A⟩|⟨o,q⟩
 ·rcases m with⟨rfl,p⟩|⟨n,a⟩
  ·exact .inl ⟨rfl,Us i hs (by omega)⟩
  simp_all
 ·rcases m with⟨rfl,p⟩|⟨n,a⟩
  ·simp_all
  ·refine .inr ⟨λe=>?_,a.trans q⟩;subst e;obtain⟨l,y⟩:=g.reach c' s;exact o (q.Ss a y)
theorem Ea{w b:Nat} (h:oQ u w b) (h0:0<=as w):oQ (ey u as) (nm u as w) b:=by
 obtain⟨c,j,a,i⟩:=h;obtain⟨r,l,n,o⟩:=Nl g f (g.gz _ _ _ a) h0;obtain⟨c',m,k,d⟩:=f.up w r c j l a;refine⟨c',pk u as c' m,by grind[VX,ft],?_⟩;rw[J7];rcases d with⟨rfl,_⟩|⟨_,e⟩
 ·exact i
 ·exact e.trans i
omit f in
theorem DM {s:Nat} (h:s∈DS u as):s<u.cZ.length/\((∃(v b k:Nat) (x:Vl),At u v b k/\stays as v=true/\u.cR[v]? =some x/\leaves x.op=true/\x.state=s)\/∃(b:Nat) (B:Bk),u.blocks[b]? =some B/\B.fin=3/\B.state=s):=by
 unfold DS at h;rcases EC.1 h with h|h
 ·obtain⟨n,hn,hs⟩:=List.mem_filterMap.1 h;obtain⟨h1,ZV⟩:=(ft g).1 hn;have hx:=fg h1;rw[hx]at hs;simp only at hs;split at hs
  ·rename_i hl;cases hs;obtain⟨b,k,Hy⟩:=g.yx n h1 (hP.h n ZV);exact⟨g.leave n _ hx hl,by grind⟩
  ·cases hs
 ·obtain ⟨B,hB,hs⟩:=List.mem_filterMap.1 h;obtain⟨b,hb⟩:=kh.1 hB;split at hs
  ·rename_i h3;cases hs;refine⟨?_,by grind⟩;rcases g.fin b B hb with⟨h4,_⟩|⟨h4,_⟩|⟨_,_,h4⟩
   ·omega
   ·omega
   ·exact h4
  ·cases hs
omit g f in
theorem Mx {s:Nat} {fs:List Fm} (h:s∈AN u as) (hs:u.cZ[s]? =some fs):(ey u as).cZ[(AN u as).idxOf s]? =some (fs.map (Pk u as)):=by
 show((AN u as).map _)[_]? =_
 grind
omit f in
theorem Vx {i:Nat} {gs:List Fm} (h:(ey u as).cZ[i]? =some gs):∃s fs,s∈AN u as/\u.cZ[s]? =some fs/\gs=fs.map (Pk u as):=by
 have h:((AN u as).map _)[i]? =some gs:=h;rw[w5]at h
 cases hn:(AN u as)[i]? with
 |none=>simp_all
 | some s=>
   rw[hn]at h;have hm:s∈AN u as:=zD hn;have hl:=(DM g ((pj _ _).1 hm)).1
   grind
omit g f in
theorem GQ (fs:List Fm):ff (fs.map (Pk u as))=(ff fs).map (nm u as):=by
 unfold ff;rw[List.flatMap_map,List.map_flatMap];congr 1;funext x;rw[LX];rfl
omit f in
theorem Xk {v:Nat} {x:Vl} (hs:stays as v=true) (hx:u.cR[v]? =some x) (hl:leaves x.op=true):x.state∈AN u as:=by
 refine(pj _ _).2 (PM _ (List.mem_filterMap.2 ⟨v,by grind[ft,gL],?_⟩))
 simp_all
omit g f in
theorem VD {b:Nat} {B:Bk} (hB:u.blocks[b]? =some B) (h3:B.fin=3):B.state∈AN u as:=
 (pj _ _).2 (List.mem_append_right _ (List.mem_filterMap.2 ⟨B,zD hB,by rw[if_pos h3]⟩))
omit f in
theorem I9 {v b k:Nat} {x:Vl} (h:At u v b k) (hx:u.cR[v]? =some x) (hh:fm x.op=true):∀{w j:Nat} {y:Vl},At u w b j->u.cR[w]? =some y->j<=k->fm y.op=true:=by
 have key:∀(n v k:Nat) (x:Vl),At u v b k->u.cR[v]? =some x->fm x.op=true->∀{w j:Nat} {y:Vl},At u w b j->u.cR[w]? =some y->j+n=k->fm y.op=true:=by
  intro n
  induction n with
  | zero=>
    intro v k x h hx hh w j y hw hy e;obtain rfl:j=k:=by omega
    obtain⟨B,h1,h2⟩:=h;obtain⟨B',h3,h4⟩:=hw
    simp_all
  | succ n ih=>
    intro v k x h hx hh w j y hw hy e;obtain⟨k,rfl⟩:∃i,k=i+1:=⟨k-1,by omega⟩
    obtain⟨B,h1,h2⟩:=h;have hk:k<B.cR.length:=by have:=(gL.1 h2).1;omega
    have h3:At u (B.cR[k]) b k:=⟨B,h1,fg hk⟩
    have hz:=fg (g.gz _ _ _ h3);exact ih _ k _ h3 hz (g.wo _ _ _ _ _ _ ⟨B,h1,h2⟩ h3 hx hz hh) hw hy (by omega)
 exact λ{w j y} hw hy hj=>key (k-j) v k x h hx hh hw hy (by omega)
theorem O1:Good (ey u as):=by
 have hL:(de u as).length<=u.cR.length:=gq _ _ (wG g) λv h=>((ft g).1 h).1;have hS:(AN u as).length<=u.cZ.length:=gq _ _ (Jp _) λs hs=>(DM g ((pj _ _).1 hs)).1;have hlen:(ey u as).cR.length=(de u as).length:=by
  show((de u as).map _).length=_;rw[yn]
 have J:(ey u as).blocks.length=u.blocks.length:=by
  show(u.blocks.map _).length=_;rw[yn]
 have M:(ey u as).cZ.length=(AN u as).length:=by
  show((AN u as).map _).length=_;rw[yn]
 have W:∀s fs,s∈AN u as->u.cZ[s]? =some fs->∀w∈ff fs,0<=as w:=by
  intro s fs hs q w e;rcases(DM g ((pj _ _).1 hs)).2 with⟨v,b,k,x,_,a,I,C,rfl⟩|⟨b,B,c,a,rfl⟩
  ·exact f.st v x fs I a C q w e
  ·exact f.out b B fs c a q w e
 have l:∀{i b k:Nat} {y:Vl},At (ey u as) i b k->(ey u as).cR[i]? =some y->∃v j x,At u v b j/\stays as v=true/\i=(de u as).idxOf v/\k=pk u as b j/\u.cR[v]? =some x/\y=eO u as x:=by
  intro i b k y N m;obtain⟨v,j,c,a,I,C,r⟩:=CQ g N;obtain⟨n,x,L,T,X,_⟩:=wY g m;rw[r]at L;cases L;exact by grind
 have S:∀{v b k:Nat},At u v b k->b<u.blocks.length:=λ⟨B,h,_⟩=>(gL.1 h).1
 refine
  { nv:=by rw[hlen];have:=g.nv;omega
    EE:=by rw[J];exact g.EE
    nb:=by rw[J];exact g.nb
    ns:=by rw[M];have:=g.ns;omega
    st:=?_,yx:=?_,CE:=?_,gz:=?_,wo:=?_,par:=?_,xI:=?_,op:=?_,use:=?_,leave:=?_,putAt:=?_,param:=?_,fin:=?_,nx:=?_,c8:=?_,uG:=?_,GJ:=?_,reach:=?_,uN:=?_,xo:=?_,Ad:=?_,xQ:=?_,zl:=?_}
 ·intro s gs hs;obtain⟨s0,fs,c,a,rfl⟩:=Vx g hs;obtain⟨I,C,r⟩:=g.st s0 fs a;refine⟨by simpa using I,by simpa using C,λf' Y=>?_⟩;obtain⟨O,Z,rfl⟩:=E7.1 Y;obtain⟨h6,h7,h8,h9⟩:=r O Z;have ag:∀w,w∈O.locals\/w∈O.stack->0<=as w:=λw e=>W s0 fs c a w (by
   grind[ff])
  refine⟨by show(O.locals.map _).length<=40;simpa using h6,by show(O.stack.map _).length<=60;simpa using h7,λv hv=>?_,λv hv=>?_⟩
  ·obtain⟨w,e,rfl⟩:=E7.1 (show v∈O.locals.map (nm u as) from hv)
   grind[Fl]
  ·obtain⟨w,e,rfl⟩:=E7.1 (show v∈O.stack.map (nm u as) from hv)
   grind[Fl]
 ·intro i hi _;rw[hlen]at hi;have hn:=fg hi;obtain⟨c,a⟩:=(ft g).1 (zD hn);obtain⟨b,k,N⟩:=g.yx _ c (hP.h _ a);refine⟨b,pk u as b k,?_⟩;have:=VX N a
  grind[US,wG]
 ·intro i b k b' k' h h';obtain⟨v,j,c,a,I,C,r⟩:=CQ g h;obtain⟨v',j',L,T,X,g4,U⟩:=CQ g h';rw[r]at U;cases U;obtain⟨rfl,rfl⟩:=g.CE _ _ _ _ _ c L;omega
 ·grind[CQ,gL]
 ·intro i i' b k y y' h h' m aa hh;obtain⟨v,j,x,c,a,_,C,r,rfl⟩:=l h m;obtain⟨v',j',x',L,T,_,g4,U,rfl⟩:=l h' aa;show fm x'.op=true;refine I9 g c r hh L U ?_
  grind[Us]
 ·intro i b k y h m F;obtain⟨v,j,x,c,_,_,_,r,rfl⟩:=l h m;exact g.par v b j x c r F
 ·intro i b k y R h m F d;obtain⟨v,j,x,c,_,_,_,r,rfl⟩:=l h m;obtain⟨B,A,rfl⟩:=yv d;obtain⟨h6,h7⟩:=g.xI v b j x B c r F A;refine⟨h6,?_⟩;have D:x.op=21:=F;show(if x.op=21\/x.op=20 then x.args.map (nm u as) else x.args).length=B.c8.length
  simp_all
 ·intro i y m;obtain⟨n,x,_,a,rfl,_⟩:=wY g m;exact g.op n x a
 ·intro i y m w e;obtain⟨n,x,_,a,rfl,C⟩:=wY g m;rw[MR]at e;obtain⟨w0,o,rfl⟩:=E7.1 e;exact Fl g f (g.use n x a w0 o) (f.use n x a C w0 o)
 ·intro i y m hl;obtain⟨n,x,_,a,rfl,C⟩:=wY g m;have E:leaves x.op=true:=hl;rw[M];show(if leaves x.op=true then(AN u as).idxOf x.state else x.state)<_;rw[if_pos E]
  grind[Ys,Xk]
 ·intro i y m F;obtain⟨n,x,_,a,rfl,C⟩:=wY g m;have D:x.op=20:=F;show(if x.op=21\/x.op=20 then x.args.map (nm u as) else x.args).length=1;rw[if_pos (.inr D),yn];exact g.putAt n x a D
 ·intro i y m F;obtain⟨n,x,c,a,rfl,C⟩:=wY g m;obtain⟨L,T,X⟩:=g.param n x a F;refine⟨L,T,λw z hz ab ac=>?_⟩;obtain⟨n',x',ae,G,rfl,_⟩:=wY g hz;obtain rfl:=X n' x' G ab ac;exact my (wG g) ae c
 ·intro b R d;obtain⟨B,A,rfl⟩:=yv d;rcases g.fin b B A with⟨c,a⟩|⟨c,a,I⟩|⟨c,a,I⟩
  ·exact .inl ⟨c,a⟩
  ·refine .inr (.inl ⟨c,a,?_⟩);show jo _ (if B.fin=2 then nm u as B.cond else B.cond);rw[if_pos c];exact Fl g f I (f.cond b B A c)
  ·refine .inr (.inr ⟨c,a,?_⟩);rw[M];show(if B.fin=3 then(AN u as).idxOf B.state else B.state)<_;rw[if_pos c];exact Ys (VD A c)
 ·intro b t V;rw[Ra]at V;rw[J];exact g.nx b t V
 ·intro b R d;obtain⟨B,A,rfl⟩:=yv d;rw[Jh];exact g.c8 b B A
 ·rw[Jh];exact g.uG
 ·intro b R d a t V;obtain⟨B,A,rfl⟩:=yv d;rw[Jh];exact g.GJ b B A a t V
 ·intro b hb;rw[J]at hb;rw[J7];exact g.reach b hb
 ·intro i b k y h m F w e;obtain⟨v,j,x,c,a,_,rfl,r,rfl⟩:=l h m;rw[MR]at e;obtain⟨w0,o,rfl⟩:=E7.1 e;exact Rh g f (g.uN v b j x c r F w0 o) (S c) (f.use v x r a w0 o)
 ·intro i b k y R h m F d j w p e hp;obtain⟨v,j0,x,c,a,_,rfl,r,rfl⟩:=l h m;obtain⟨B,A,rfl⟩:=yv d;have D:x.op=21:=F;have e:(if x.op=21\/x.op=20 then x.args.map (nm u as) else x.args)[j]? =some w:=e;rw[if_pos (.inl D),w5]at e
  cases hq:x.args[j]? with
  |none=>simp_all
  | some w0=>
    rw[hq]at e;obtain rfl:nm u as w0=w:=Option.some.inj e;exact Ea g f (g.xo v b j0 x B c r D A j w0 p hq hp) (f.use v x r a w0 (by
      unfold fu
      grind))
 ·intro i b k y gs h m hl H w e;obtain⟨v,j,x,c,a,_,rfl,r,rfl⟩:=l h m;have E:leaves x.op=true:=hl;have P:(eO u as x).state=(AN u as).idxOf x.state:=by
   show(if leaves x.op=true then _ else _)=_;rw[if_pos E]
  have Q:=g.leave v x r E;have q:=fg Q;rw[P,Mx (by grind) q]at H;cases H;rw[GQ]at e;obtain⟨w0,o,rfl⟩:=E7.1 e;exact Rh g f (g.Ad v b j x _ c r E q w0 o) (S c) (f.st v x _ r a E q w0 o)
 ·intro b R d a;obtain⟨B,A,rfl⟩:=yv d;have G:B.fin=2:=a;show oQ _ (if B.fin=2 then nm u as B.cond else B.cond) b;rw[if_pos G];exact Ea g f (g.xQ b B A G) (f.cond b B A G)
 ·intro b R gs d I H w e;obtain⟨B,A,rfl⟩:=yv d;have K:B.fin=3:=I;have P:(iG u as B).state=(AN u as).idxOf B.state:=by
   show(if B.fin=3 then _ else _)=_;rw[if_pos K]
  have Q:B.state<u.cZ.length:=by
   rcases g.fin b B A with⟨C,_⟩|⟨C,_⟩|⟨_,_,C⟩
   ·omega
   ·omega
   ·exact C
  have q:=fg Q;rw[P,Mx (VD A K) q]at H;cases H;rw[GQ]at e;obtain⟨w0,o,rfl⟩:=E7.1 e;exact Ea g f (g.zl b B _ A K q w0 o) (f.out b B _ A K q w0 o)
end
theorem OK{u:U}{as:Nat->Int}(g:Good u){v:Nat}:v∈de u as↔v<u.cR.length/\stays as v=true:=ft g
open Dm
section
variable (u:U)(kp:Nat->Bool)
def fR(b:Nat):Nat:=if kp b=true then((List.range b).filter kp).length else 0
def m0(i:Nat)(a:List Nat):List Nat:=(List.range a.length).filter λj=>kp (a.getD j 0)&&(next u (a.getD j 0)).contains i
def gN(i:Nat)(a:List Nat):List Nat:=(m0 u kp i a).map λj=>fR kp (a.getD j 0)
def jW(i:Nat)(a args:List Nat):List Nat:=(m0 u kp i a).map λj=>args.getD j 0
def HB:Bk:=⟨[],0,0,[],[],0⟩
def iF:List Nat:=(List.range u.blocks.length).filter kp
def ze(b:Nat):Bk:={u.blocks.getD b HB with next:=(u.blocks.getD b HB).next.map (fR kp),c8:=gN u kp b (u.blocks.getD b HB).c8}
structure Cut (u':U):Prop where
 func:u'.func=u.func
 pc:u'.pc=u.pc
 cZ:u'.cZ=u.cZ
 blocks:u'.blocks=(iF u kp).map (ze u kp)
 len:u'.cR.length=u.cR.length
 xI:∀(v b k:Nat) (x:Vl) (B:Bk),At u v b k->u.cR[v]? =some x->x.op=21->kp b=true->u.blocks[b]? =some B->u'.cR[v]? =some {x with args:=jW u kp b B.c8 x.args}
 same:∀(v:Nat) (x:Vl),u.cR[v]? =some x->¬(x.op=21/\∃b k,At u v b k/\kp b=true)->u'.cR[v]? =some x
structure Ey (az iz:List Int):Prop where
 len:iz.length=az.length
 gone:∀(v b k:Nat),At u v b k->kp b=false->v<az.length->iz[v]? =some (-1)
 same:∀(v:Nat),(¬∃b k,At u v b k/\kp b=false)->iz[v]? =az[v]?
end
section
variable{u u':U}{kp:Nat->Bool}
theorem filter_all{p:Nat->Bool}{l:List Nat}(h:∀x∈l,p x=true):l.filter p=l:=List.filter_eq_self.2 h
theorem KY(hk:∀b,b<u.blocks.length->kp b=true) {b:Nat} (a:b<u.blocks.length):fR kp b=b:=by
 unfold fR;rw[if_pos (hk b a),filter_all (by grind),Kc]
theorem Is(g:Good u) (hk:∀b,b<u.blocks.length->kp b=true) {b:Nat} {B:Bk} (d:u.blocks[b]? =some B):m0 u kp b B.c8=List.range B.c8.length:=by
 unfold m0;refine filter_all λj a=>?_;have a:=Mv.1 a;rw[Au,fg a];have e:B.c8[j]∈ahead u b:=by rw[<-g.c8 b B d];exact ym a
 obtain⟨q,f,h,i,c⟩:=pQ.1 e;rw[yD]at c;rw[VN,c,hk q (by grind),Sv,Wg]
 grind[next]
theorem FU(l:List Nat) (d:Nat):(List.range l.length).map (λj=>l.getD j d)=l:=by
 refine Uj λj=>?_
 grind
theorem Mb(g:Good u) (hk:∀b,b<u.blocks.length->kp b=true) {b:Nat} {B:Bk} (c:u.blocks[b]? =some B):ze u kp b=B:=by
 have e:u.blocks.getD b HB=B:=by rw[Au,c];rfl
 unfold ze;rw[e];have f:B.next.map (fR kp)=B.next:=by
  have:∀t∈B.next,fR kp t=t:=λt i=>KY hk (g.nx b t (by grind[next]));rw[MU this,List.map_id''];exact λ_=>rfl
 have k:gN u kp b B.c8=B.c8:=by
  unfold gN;rw[Is g hk c];have:∀j∈List.range B.c8.length,fR kp (B.c8.getD j 0)=B.c8.getD j 0:=λj a=>by
   have a:=Mv.1 a;rw[Au,fg a,VN];have h:B.c8[j]∈ahead u b:=by rw[<-g.c8 b B c];exact ym a
   obtain⟨q,l,f,_,d⟩:=pQ.1 h;rw[yD]at d;rw[d];exact KY hk (by grind)
  rw[MU this];exact FU _ _
 simp_all
theorem Cut.eq(g:Good u) (hk:∀b,b<u.blocks.length->kp b=true) (c:Cut u kp u'):u' = u:=by
 have m:u'.blocks=u.blocks:=by
  rw[c.blocks,iF,filter_all (by simp_all)];refine Uj λb=>?_;by_cases h:b<u.blocks.length
  ·grind[List.getElem?_range,Mb,fg]
  ·simp_all
 have n:u'.cR=u.cR:=by
  refine Uj λv=>?_;by_cases h:v<u.cR.length
  ·have d:=fg h;generalize u.cR[v]=x at*;rw[d];by_cases hp:x.op=21/\∃b k,At u v b k/\kp b=true
   ·obtain ⟨f,b,k,a,i⟩:=hp;obtain⟨B,j,l⟩:=id a;rw[c.xI v b k x B a d f i j];have e:jW u kp b B.c8 x.args=x.args:=by
     unfold jW;rw[Is g hk j,<-(g.xI v b k x B a d f j).2];exact FU _ _
    rw[e]
   ·exact c.same v x d hp
  ·rw[Sp (by rw[c.len];omega),Sp (by omega)]
 have f:=c.func;have o:=c.pc;have p:=c.cZ;cases u;cases u'
 simp_all
theorem Ey.eq{az iz:List Int} (c:Ey u kp az iz) (hk:∀b,b<u.blocks.length->kp b=true):iz=az:=by
 refine Uj λv=>c.same v ?_;rintro⟨b,k,⟨B,a,_⟩,h⟩
 grind
end
open Dm
theorem GX{l L:List Nat} (h:l <+: L) {v:Nat} (a:v∈l):L.idxOf v=l.idxOf v:=by
 obtain⟨r,rfl⟩:=h
 grind
theorem BH(l r:List Nat):iy l <+: iy (l++r):=by
 induction r using Gx with
 |h0=>simp_all
 | hs r s a=>
   grind[Hq,sR,List.prefix_append]
section
variable{u:U}{as:Nat->Int}
def gI(u:U) (as:Nat->Int) (i j:Nat):List Nat:=(u.blocks.take i).flatMap (λB=>B.cR.filter (stays as))++(match u.blocks[i]? with
 |some B=>(B.cR.take j).filter (stays as)
 |none=>[])
theorem EG:gI u as 0 0=[]:=by
 grind[gI]
theorem LO{i:Nat} {B:Bk} (a:u.blocks[i]? =some B):gI u as i B.cR.length=gI u as (i+1) 0:=by
 unfold gI;rw[a];obtain⟨b,rfl⟩:=gL.1 a
 grind[LV,List.flatMap_singleton,E5,stays]
theorem Md:gI u as u.blocks.length 0=de u as:=by
 simp_all[gI,de,E5,Sp,iC,GK]
theorem ET{i j v:Nat} {B:Bk} (a:u.blocks[i]? =some B) (b:B.cR[j]? =some v):gI u as i (j+1)=if stays as v=true then gI u as i j++[v] else gI u as i j:=by
 unfold gI;rw[a];obtain⟨c,rfl⟩:=gL.1 b
 grind[LV,Hq]
theorem Bw{i j:Nat} {B:Bk} (a:u.blocks[i]? =some B):gI u as i j <+: de u as:=by
 unfold gI de;rw[a];obtain⟨b,rfl⟩:=gL.1 a;have e:u.blocks=u.blocks.take i++u.blocks[i]::u.blocks.drop (i+1):=by
  conv=>lhs;rw[<-Sj i u.blocks]
  rw[SE b]
 grind[stays,Sj,Hq,List.prefix_append]
theorem VP(c:TS u) {i j v:Nat} {B:Bk} (a:u.blocks[i]? =some B) (d:B.cR[j]? =some v) (hs:stays as v=true):(de u as).idxOf v=(gI u as i j).length/\v ∉ gI u as i j:=by
 have b:=Bw (as:=as) (j:=j+1) a;rw[ET a d,if_pos hs]at b;have e:=uc (as:=as) c;obtain⟨r,f⟩:=b
 grind
theorem AV(c:∀v b k,At u v b k->v<u.cR.length) {v:Nat} (a:v∈de u as):v<u.cR.length:=by
 unfold de at a;obtain⟨B,d,a⟩:=Sf.1 a;obtain⟨b,e⟩:=kh.1 d;obtain⟨k,hk⟩:=kh.1 (DG.1 a).1;exact c v b k ⟨B,e,hk⟩
theorem LN{n:Nat} (h:∀v,v<n->as v<(n:Int)):∀(k v:Nat),v<n->px as k v<n
 |0,_,hv=>hv
 | k + 1,v,hv=>by
   unfold px;split
   ·rename_i a
    exact LN h k _ (by simp_all)
   ·exact hv
def mC(u:U) (l:List Nat):List Nat:=l.filterMap λn=>match u.cR[n]? with
 |some x=>if leaves x.op=true then some x.state else none
 |none=>none
def wq(l:List Bk):List Nat:=l.filterMap λB=>if B.fin=3 then some B.state else none
theorem Ir:DS u as=mC u (de u as)++wq u.blocks:=rfl
end
open Dm
def YU(u:U) (v:Nat):Prop:=(∃x,u.cR[v]? =some x/\(x.op=19\/x.op=20\/x.op=22\/x.op=23))\/ (∃(i:Nat) (x:Vl) (fs:List Fm),u.cR[i]? =some x/\leaves x.op=true/\u.cZ[x.state]? =some fs/\v∈ff fs)\/ (∃(b:Nat) (B:Bk),u.blocks[b]? =some B/\B.fin=2/\v=B.cond)\/ (∃(b:Nat) (B:Bk) (fs:List Fm),u.blocks[b]? =some B/\B.fin=3/\u.cZ[B.state]? =some fs/\v∈ff fs)
inductive Live (u:U):Nat->Prop
 |root {v:Nat} (h:YU u v):Live u v
 |use {v w:Nat} {x:Vl} (h:Live u v) (a:u.cR[v]? =some x) (b:w∈fu x):Live u w
section
variable{ops:List Int}
end
open Dm
def MA(nx:Nat->List Nat)(zm:Int)(b:Nat):Prop:=∃l,Pt nx b l/\∀x∈l,(x:Int)≠zm
theorem Pz{nx:Nat->List Nat} {a b:Nat}:¬MA nx (a:Int) b↔lE nx a b:=by
 constructor
 ·intro h l c;refine Classical.byContradiction λf=>h ⟨l,c,λx d e=>f ?_⟩
  grind
 ·rintro h ⟨l,c,d⟩;exact d a (h l c) rfl
structure Wo (n:Nat) (nx:Nat->List Nat) (zm:Int) (c:Option (Nat×Nat)) (seen:List Bool) (todo:List Nat):Prop where
 len:seen.length=n
 zero:seen[0]? =some true
 sound:∀v:Nat,seen[v]? =some true->MA nx zm v
 work:∀v∈todo,seen[v]? =some true
 closed:∀v:Nat,seen[v]? =some true->v∈todo\/∀(k t:Nat),(nx v)[k]? =some t->(t:Int)≠zm->seen[t]? =some true\/∃j,c=some (v,j)/\j<=k
 less:todo.length+seen.count false<=n
theorem count_set{l:List Bool}:∀{v:Nat},l[v]? =some false->(l.set v true).count false+1=l.count false:=by
 grind
section
variable{n:Nat}{nx:Nat->List Nat}{zm:Int}{seen:List Bool}{todo:List Nat}
theorem Wo.start(c:0<n) (h0:zm≠0):Wo n nx zm none ((List.replicate n false).set 0 true) [0]:=by
 have hs:∀v:Nat,((List.replicate n false).set 0 true)[v]? =some true->v=0:=λv a=>by
  grind
 have b:((List.replicate n false).set 0 true)[0]? =some true:=by simp_all
 refine⟨by simp,b,λv a=>?_,λv a=>?_,by simp_all,?_⟩
 ·rw[hs v a];exact⟨[0],.nil,by grind⟩
 ·simp_all
 grind
theorem Wo.pop{b:Nat} (w:Wo n nx zm none seen (b::todo)):Wo n nx zm (some (b,0)) seen todo/\MA nx zm b:=by
 have c:=w.less;rw[LU]at c;refine⟨⟨w.len,w.zero,w.sound,λv a=>w.work v (by simp[a]),λv a=>?_,by omega⟩,w.sound b (w.work b (by simp))⟩;rcases w.closed v a with h|h
 ·grind
 grind
theorem Wo.skip{b j t:Nat} (w:Wo n nx zm (some (b,j)) seen todo) (d:(nx b)[j]? =some t) (h:(t:Int)=zm\/seen[t]? =some true):Wo n nx zm (some (b,j+1)) seen todo:=by
 refine⟨w.len,w.zero,w.sound,w.work,λv a=>?_,w.less⟩;rcases w.closed v a with c|c
 ·simp_all
 grind
theorem Wo.push{b j t:Nat} (w:Wo n nx zm (some (b,j)) seen todo) (e:(nx b)[j]? =some t) (f:MA nx zm b) (m:(t:Int)≠zm) (d:seen[t]? =some false):Wo n nx zm (some (b,j+1)) (seen.set t true) (todo++[t]):=by
 have g:=(gL.1 d).1;have c:(seen.set t true)[t]? =some true:=by simp_all
 have up:∀v:Nat,seen[v]? =some true->(seen.set t true)[v]? =some true:=by grind
 have down:∀v:Nat,(seen.set t true)[v]? =some true->v=t\/seen[v]? =some true:=by grind
 refine⟨by rw[Hb];exact w.len,up 0 w.zero,λv a=>?_,λv a=>?_,λv a=>?_,?_⟩
 ·rcases down v a with rfl|h
  ·obtain⟨l,i,o⟩:=f;exact⟨v::l,.step i (zD e),by simp_all⟩
  ·exact w.sound v h
 ·rcases EC.1 a with h|h
  ·exact up v (w.work v h)
  simp_all
 ·rcases down v a with rfl|h
  ·simp_all
  ·rcases w.closed v h with k|k
   ·simp_all
   grind
 ·have:=count_set d;have:=w.less
  grind
theorem Wo.next{b:Nat} (w:Wo n nx zm (some (b,(nx b).length)) seen todo):Wo n nx zm none seen todo:=by
 refine⟨w.len,w.zero,w.sound,w.work,λv a=>(w.closed v a).imp id λh k t hk c=>?_,w.less⟩
 grind
theorem Wo.all(w:Wo n nx zm none seen []):∀{b:Nat} {l:List Nat},Pt nx b l->(∀x∈l,(x:Int)≠zm)->seen[b]? =some true
 |_,_,.nil,_=>w.zero
 | _,_,.step (p:=p) h e,hx=>by
   have c:=w.all h (by simp_all);obtain⟨k,hk⟩:=kh.1 e;rcases w.closed p c with a|a
   ·cases a
   grind
theorem Wo.iff(w:Wo n nx zm none seen []) (b:Nat):seen[b]? =some true↔MA nx zm b:=
 ⟨w.sound b,λ⟨_,a,c⟩=>w.all a c⟩
theorem Pj{b:Nat} (h:zm=0):¬MA nx zm b:=by
 rintro⟨l,a,c⟩;have:0∈l:=by
  clear c
  induction a with
  |nil=>simp_all
  |step _ _ d=>simp_all
 grind
end
open Dm
def kK(n:Int):Int:=n % 18446744073709551616
def nX(n:Int):Int:=if n<9223372036854775808 then n else n-18446744073709551616
def BC(b:Bool):Int:=if b=true then 1 else 0
def uV(op:Nat) (a b:Int):Int:=
 if op=3 then kK (a+b) else if op=4 then kK (a-b) else if op=5 then kK (a*b)
 else if op=6 then(if nX b=0 then 0 else if nX b = -1 then kK (-a) else kK ((nX a).tdiv (nX b)))
 else if op=7 then(if nX b=0\/nX b = -1 then 0 else kK ((nX a).tmod (nX b)))
 else if op=8 then kK (-a) else if op=9 then BC (decide (a=0)) else if op=10 then BC (decide (a=b)) else if op=11 then BC (decide (a≠b))
 else if op=12 then BC (decide (nX a<nX b)) else if op=13 then BC (decide (nX a<=nX b)) else if op=14 then BC (decide (a<b)) else 0
def NX(h:List Int)(a:Int):Int:=h.getD a.toNat 0
def X8(h:List Int)(a v:Int):List Int:=if a=0 then h else h.set a.toNat v
def HU(x:Vl) (val:Nat->Int) (h:List Int):Int:=
 if x.op=2 then kK x.n else if x.op=15 then NX h (val x.a) / 4294967296 else if x.op=16 then NX h (val x.a) % 4294967296
 else if x.op=17 then NX h (kK (val x.a+kK x.n)) else if x.op=18 then NX h (kK (kK (val x.a+1)+val x.b))
 else if x.op=8\/x.op=9 then uV x.op (val x.a) 0 else uV x.op (val x.a) (val x.b)
structure Rs where
 val:List Int
 heap:List Int
 steps:Nat
 polls:Nat
def Rs.of(s:Rs)(v:Nat):Int:=s.val.getD v 0
structure Fw where
 func:Int
 pc:Int
 locals:List Int
 stack:List Int
inductive Ex where
 |NI
 |left (steps:Nat) (fr:List Fw) (heap:List Int)
 |stuck
def uH(u:U)(s:Rs)(st:Nat):Ex:= .left s.steps (((u.cZ[st]?).getD []).map λf=>⟨f.func,f.pc,f.locals.map s.of,f.stack.map s.of⟩) s.heap
def tk(u:U) (gv:Int) (n:Nat) (x:Vl) (s:Rs):Ex ⊕ Rs:=
 if x.op=19 then .inr {s with heap:=X8 s.heap (kK (s.of x.a+kK x.n)) (s.of x.b),steps:=s.steps+1}
 else if x.op=20 then .inr {s with heap:=X8 s.heap (kK (kK (s.of x.a+1)+s.of x.b)) (s.of (x.args.getD 0 0)),steps:=s.steps+1}
 else if x.op=22 then(if s.of x.a=0 then .inl (uH u {s with steps:=s.steps+1} x.state) else .inr {s with steps:=s.steps+1})
 else if x.op=23 then(if 0<=gv/\(s.polls:Int)=gv then .inl (uH u {s with steps:=s.steps+1} x.state) else .inr {s with steps:=s.steps+1,polls:=s.polls+1})
 else .inr {s with val:=s.val.set n (HU x s.of s.heap),steps:=s.steps+1}
def tG(u:U) (gv:Int) (fuel:Nat):List Nat->Rs->Ex ⊕ Rs
 |[],s=> .inr s
 | n ::l,s=>if fuel<=s.steps then .inl .NI else match u.cR[n]? with
   |none=> .inl .stuck
   | some x=>match tk u gv n x s with
     | .inl e=> .inl e
     | .inr s=>tG u gv fuel l s
def dK(u:U) (v:Nat):Bool:=match u.cR[v]? with
 |some x=>fm x.op
 |none=>false
def qX(u:U) (locals:List Int) (tI:Option Nat) (B:Bk) (val:Nat->Int) (v:Nat):Int:=match u.cR[v]? with
 | some x=>if x.op=1 then locals.getD x.n.toNat 0 else match tI with
   | some p=>match B.c8.findIdx? (·== p)with
     |some j=>val (x.args.getD j 0)
     |none=>0
   |none=>0
 |none=>0
def yJ(val:List Int)(l:List (Nat×Int)):List Int:=l.foldl (λa p=>a.set p.1 p.2) val
def jR(u:U) (locals:List Int) (tI:Option Nat) (B:Bk) (s:Rs):Rs:=
 let hs:=B.cR.takeWhile (dK u)
 {s with val:=yJ s.val (hs.map λv=>(v,qX u locals tI B s.of v)),steps:=s.steps+hs.length}
def pV(B:Bk)(s:Rs):Option Nat:=if B.fin=1 then B.next[0]? else if B.fin=2 then(if s.of B.cond=0 then B.next[1]? else B.next[0]?) else none
def runM(u:U) (locals:List Int) (gv:Int) (fuel:Nat):Nat->Option Nat->Nat->Rs->Ex
 |0,_,_,_=> .stuck
 | Hn+1,tI,b,s=>match u.blocks[b]? with
   |none=> .stuck
   | some B=>match tG u gv fuel (B.cR.dropWhile (dK u)) (jR u locals tI B s)with
     | .inl e=>e
     | .inr s=>if fuel<=s.steps then .NI else if B.fin=3 then uH u {s with steps:=s.steps+1} B.state else match pV B s with
       |none=> .stuck
       |some t=>runM u locals gv fuel Hn (some b) t {s with steps:=s.steps+1}
def kW(u:U)(heap:List Int):Rs:=⟨List.replicate u.cR.length 0,heap,0,0⟩
def Ex.As:Ex->Ex->Prop
 | .left n fr h,.left n' YS h'=>n'<=n/\YS=fr/\h' = h
 | .left _ _ _,_=>False
 |_,_=>True
section
variable{u:U}{as:Nat->Int}
structure Alike (u:U) (as:Nat->Int) (s s':Rs):Prop where
 len:s.val.length=u.cR.length
 yF:s'.val.length=(de u as).length
 val:∀v∈de u as,s'.of ((de u as).idxOf v)=s.of v
 heap:s'.heap=s.heap
 steps:s'.steps<=s.steps
 polls:s'.polls=s.polls
structure Way (u:U) (as:Nat->Int) (locals:List Int) (gv:Int) (heap:List Int) (I:Nat->Nat->Rs->Prop):Prop where
 start:∀B:Bk,u.blocks[0]? =some B->I 0 (B.cR.takeWhile (dK u)).length (jR u locals none B (kW u heap))
 wo:∀(b t:Nat) (B T:Bk) (s:Rs),u.blocks[b]? =some B->u.blocks[t]? =some T->t∈B.next->I b B.cR.length s->s.val.length=u.cR.length->I t (T.cR.takeWhile (dK u)).length (jR u locals (some b) T {s with steps:=s.steps+1})
 one:∀(b k v:Nat) (x:Vl) (s a:Rs),At u v b k->u.cR[v]? =some x->dK u v=false->I b k s->s.val.length=u.cR.length->tk u gv v x s = .inr a->I b (k+1) a
 use:∀(b k w:Nat) (r:Nat) (s:Rs),I b k s->s.val.length=u.cR.length->vQ u w b k->as w=(r:Int)->s.of r=s.of w
theorem uY{l:List Int} {i j:Nat} {x:Int} (hi:i<l.length):(l.set i x).getD j 0=if j=i then x else l.getD j 0:=by
 grind
theorem Cu(l:List (Nat×Int)):∀val:List Int,(yJ val l).length=val.length:=by
 induction l with
 |nil=>exact λ_=>rfl
 | cons p l a=>
   grind[yJ,Hb]
theorem uz{f:Nat->Int} {j:Nat}:∀(l:List Nat) (val:List Int),(∀v∈l,v<val.length)->(yJ val (l.map λv=>(v,f v))).getD j 0=if j∈l then f j else val.getD j 0
 |[],_,_=>by rfl
 | v::l,val,h=>by
   show(yJ (val.set v (f v)) (l.map λv=>(v,f v))).getD j 0=_;rw[uz l _ (by simp_all),uY (by simp_all)]
   grind
end
theorem pq{u:U} {w b:Nat} {B:Bk} (d:u.blocks[b]? =some B) (h:oQ u w b):vQ u w b B.cR.length:=by
 obtain⟨c,j,a,f⟩:=h;refine⟨c,j,a,?_⟩;by_cases e:c=b
 ·subst e;obtain⟨g,i,k⟩:=a
  grind
 simp_all
section
variable{u:U}{P:Nat->Prop}{as:Nat->Int}[hP:NW P as] (g:Gd u P)(f:Fit u as){I:Nat->Nat->Rs->Prop}{locals:List Int}{gv:Int}{heap:List Int}(W:Way u as locals gv heap I)
include g f W
theorem Jc{b k w:Nat} {s s':Rs} (e:I b k s) (d:Alike u as s s') (hs:vQ u w b k) (h0:0<=as w):s'.of (nm u as w)=s.of w:=by
 obtain⟨c,j,a,_⟩:=id hs;obtain⟨r,h,i,l⟩:=Nl g f (g.gz _ _ _ a) h0;rw[l,d.val r i];exact W.use b k w r s e d.len hs h
theorem GV{b k st:Nat} {s s':Rs} {fs:List Fm} (h:I b k s) (d:Alike u as s s') (f:st∈AN u as) (c:u.cZ[st]? =some fs) (hs:∀w∈ff fs,vQ u w b k/\0<=as w) :
  ∃fr,uH u {s with steps:=s.steps+1} st = .left (s.steps+1) fr s.heap/\uH (ey u as) {s' with steps:=s'.steps+1} ((AN u as).idxOf st) = .left (s'.steps+1) fr s.heap:=by
 refine ⟨_,rfl,?_⟩;unfold uH;rw[Mx f c,c,d.heap];simp only[VN,List.map_map];congr 1;refine MU λa g=>?_;have e:∀l:List Nat,(∀w∈l,w∈ff fs)->(l.map (nm u as)).map s'.of=l.map s.of:=λl i=>by
  grind[List.map_map,MU,Jc]
 show Fw.mk a.func a.pc ((a.locals.map (nm u as)).map s'.of) ((a.stack.map (nm u as)).map s'.of)=_;rw[e a.locals (by grind[ff,PM]),e a.stack (by grind[ff,List.mem_append_right])];rfl
variable (zo:∀(v b k:Nat)(x:Vl),At u v b k->u.cR[v]? =some x->stays as v=false->x.op≠19/\x.op≠20/\(x.op=22->∀s,I b k s->s.of x.a≠0)/\x.op≠23)
include zo
omit g f W zo in
theorem AW {x:Vl}:(two x.op=true->x.op≠21->x.a∈fu x/\x.b∈fu x)/\(om x.op=true->x.op≠21->x.a∈fu x):=by
 constructor
 ·intro h h1;unfold fu
  grind
 ·intro h h1;unfold fu
  grind
omit zo in
theorem UY {b k v:Nat} {x:Vl} {s s':Rs} (Hy:At u v b k) (hx:u.cR[v]? =some x) (hh:dK u v=false) (RX:stays as v=true) (hI:I b k s) (ha:Alike u as s s') :
  (∀n fr hp,tk u gv v x s = .inl (.left n fr hp)->∃n',n'<=n/\tk (ey u as) gv ((de u as).idxOf v) (eO u as x) s' = .inl (.left n' fr hp))/\
  (∀s1,tk u gv v x s = .inr s1->∃Zq,tk (ey u as) gv ((de u as).idxOf v) (eO u as x) s' = .inr Zq/\Alike u as s1 Zq):=by
 have Yp:x.op≠21:=by grind[dK,fm]
 have YB:=(gL.1 hx).1;have hm:v∈de u as:=(ft g).2 ⟨YB,RX⟩;have eu:∀w∈fu x,s'.of (nm u as w)=s.of w:=λw hw=>Jc g f W hI ha (g.uN v b k x Hy hx Yp w hw) (f.use v x hx RX w hw);have ea:two x.op=true\/om x.op=true->s'.of (eO u as x).a=s.of x.a:=λh=>by
  have:(eO u as x).a=nm u as x.a:=by
   show(if _ then nm u as x.a else x.a)=_;rcases h with h|h
   ·simp_all
   ·grind
  grind[AW]
 have eb:two x.op=true->s'.of (eO u as x).b=s.of x.b:=by simp_all[eO,nm,if_pos,AW]
 have XV:=g.op v x hx;have stp:=ha.steps;have Zd:=ha.polls;have hp:=ha.heap;have Z2:∀(q q':List Int),q' = q->Alike u as {s with heap:=q,steps:=s.steps+1} {s' with heap:=q',steps:=s'.steps+1}:=λq q' e=>⟨ha.len,ha.yF,ha.val,e,by simp only;omega,Zd⟩
 have lv:leaves x.op=true->∃fs,u.cZ[x.state]? =some fs/\(eO u as x).state=(AN u as).idxOf x.state/\x.state∈AN u as/\∀w∈ff fs,vQ u w b k/\0<=as w:=λhl=>by
  have Z0:=g.leave v x hx hl;have Wd:=fg Z0;exact⟨_,Wd,if_pos hl,Xk g RX hx hl,λw hw=>⟨g.Ad v b k x _ Hy hx hl Wd w hw,f.st v x _ hx RX hl Wd w hw⟩⟩
 unfold tk;rw[show(eO u as x).op=x.op from rfl,show(eO u as x).n=x.n from rfl];by_cases h19:x.op=19
 ·have e2:two x.op=true:=by rw[h19];rfl
  simp_all
 rw[if_neg h19,if_neg h19];by_cases h20:x.op=20
 ·have e2:two x.op=true:=by rw[h20];rfl
  rw [if_pos h20,if_pos h20];refine⟨λ_ _ _ h=>(nomatch h),λs1 h=>?_⟩;cases h;refine⟨_,rfl,Z2 _ _ ?_⟩;have hl:=g.putAt v x hx h20;have eC:s'.of ((eO u as x).args.getD 0 0)=s.of (x.args.getD 0 0):=by
   have:(eO u as x).args=x.args.map (nm u as):=if_pos (.inr h20);rw[this]
   match hq:x.args,hl with
   | [w],_=>
     simp_all[fu,if_neg,if_pos]
  simp_all
 rw[if_neg h20,if_neg h20];by_cases h22:x.op=22
 ·have e1:om x.op=true:=by rw[h22];rfl
  rw[if_pos h22,if_pos h22,ea (.inr e1)];obtain⟨fs,l1,l2,l3,l4⟩:=lv (by rw[h22];rfl);by_cases hz:s.of x.a=0
  ·rw[if_pos hz,if_pos hz];refine⟨λn fr q h=>?_,λ_ h=>(nomatch h)⟩;obtain⟨YS,g1,g2⟩:=GV g f W hI ha l3 l1 l4
   grind
  simp_all
 rw[if_neg h22,if_neg h22];by_cases h23:x.op=23
 ·rw [if_pos h23,if_pos h23,Zd];obtain⟨fs,l1,l2,l3,l4⟩:=lv (by rw[h23];rfl);by_cases hz:0<=gv/\(s.polls:Int)=gv
  ·rw[if_pos hz,if_pos hz];refine⟨λn fr q h=>?_,λ_ h=>(nomatch h)⟩;obtain⟨YS,g1,g2⟩:=GV g f W hI ha l3 l1 l4
   grind
  ·rw[if_neg hz,if_neg hz];refine⟨λ_ _ _ h=>(nomatch h),λs1 h=>?_⟩;cases h;exact⟨_,rfl,ha.len,ha.yF,ha.val,hp,by simp only;omega,by simp only⟩
 rw [if_neg h23,if_neg h23];refine⟨λ_ _ _ h=>(nomatch h),λs1 h=>?_⟩;cases h;have eV:HU (eO u as x) s'.of s'.heap=HU x s.of s.heap:=by
  have h1:x.op≠1:=by grind[dK,fm]
  unfold HU;rw[show(eO u as x).op=x.op from rfl,show(eO u as x).n=x.n from rfl,hp];have ht:x.op≠2->two x.op=true\/om x.op=true:=λh2=>by
   unfold two om;simp only[Ie,rm,zv,CG];omega
  by_cases h2:x.op=2
  ·rw[if_pos h2,if_pos h2]
  rw [if_neg h2,if_neg h2,ea (ht h2)];have htw:x.op≠15->x.op≠16->x.op≠17->¬(x.op=8\/x.op=9)->two x.op=true:=λa1 a2 a3 a4=>by
   unfold two;simp only[Ie,rm,zv,CG];omega
  by_cases h15:x.op=15
  ·rw[if_pos h15,if_pos h15]
  rw[if_neg h15,if_neg h15];by_cases h16:x.op=16
  ·rw[if_pos h16,if_pos h16]
  rw[if_neg h16,if_neg h16];by_cases h17:x.op=17
  ·rw[if_pos h17,if_pos h17]
  rw[if_neg h17,if_neg h17];by_cases h18:x.op=18
  ·simp_all
  rw[if_neg h18,if_neg h18];by_cases h89:x.op=8\/x.op=9
  ·rw[if_pos h89,if_pos h89]
  ·simp_all
 rw[eV];refine⟨_,rfl,by simp only[Hb];exact ha.len,by simp only[Hb];exact ha.yF,λw hw=>?_,hp,by simp only;omega,Zd⟩;show(s'.val.set _ _).getD _ 0=(s.val.set _ _).getD _ 0;rw[uY (by rw[ha.yF];exact Ys hm),uY (by rw[ha.len];exact YB)];by_cases e:w=v
 ·subst e;rw[if_pos rfl,if_pos rfl]
 ·rw[if_neg e,if_neg λh=>e (J0 hw hm h)];exact ha.val w hw
theorem Ob{fuel b:Nat} {B:Bk} (C:u.blocks[b]? =some B):∀(l:List Nat) (k:Nat) (s s':Rs),B.cR.drop k=l->k+l.length=B.cR.length->(∀v∈l,dK u v=false)->I b k s->Alike u as s s'->
  (∀n fr o,tG u gv fuel l s = .inl (.left n fr o)->∃r,r<=n/\tG (ey u as) gv fuel ((l.filter (stays as)).map (de u as).idxOf) s' = .inl (.left r fr o))/\
  (∀c,tG u gv fuel l s = .inr c->∃a,tG (ey u as) gv fuel ((l.filter (stays as)).map (de u as).idxOf) s' = .inr a/\Alike u as c a/\I b B.cR.length c)
 | [],k,s,s',hl,hk,_,hI,ha=>by
   refine⟨λn fr o h=>(nomatch h),λc h=>?_⟩;cases h;have hk:k=B.cR.length:=by simpa using hk
   subst hk
   exact⟨s',rfl,ha,hI⟩
 | v ::l,k,s,s',hl,hk,hh,hI,ha=>by
   have p:k<B.cR.length:=by rw[LU]at hk;omega
   rw[SE p]at hl;obtain⟨E,t⟩:=List.cons.inj hl;have d:At u v b k:=⟨B,C,by rw[<-E];exact fg p⟩
   have q:=g.gz _ _ _ d;have j:=fg q;generalize u.cR[v]=x at j;have i:=hh v (by simp);have y:=λ(c a:Rs) (z:I b (k+1) c) (A:Alike u as c a)=>Ob C (fuel:=fuel) l (k+1) c a t (by grind) (by simp_all) z A;show(∀n fr o,(if fuel<=s.steps then _ else _)=_->_)/\(∀c,(if fuel<=s.steps then _ else _)=_->_);by_cases hf:fuel<=s.steps
   ·simp_all
   rw[if_neg hf,j];simp only;have F:=ha.steps
   cases RX:stays as v with
   | true=>
     have G:v∈de u as:=by grind[ft]
     have e:((v::l).filter (stays as)).map (de u as).idxOf=(de u as).idxOf v::(l.filter (stays as)).map (de u as).idxOf:=by rw[Wf,if_pos RX];rfl
     rw[e];show(∀n fr o,_->∃r,r<=n/\(if fuel<=s'.steps then _ else _)=_)/\(∀c,_->∃a,(if fuel<=s'.steps then _ else _)=_/\_);rw[if_neg (by omega),GR (yG G) j];simp only;obtain⟨O,H⟩:=UY g f W d j i RX hI ha
     cases hq:tk u gv v x s with
     | inl e=>
       grind
     | inr c=>
       obtain⟨a,J,K⟩:=H _ hq;rw[J]
       exact y c a (W.one b k v x s c d j i hI ha.len hq) K
   | false=>
     have e:((v::l).filter (stays as)).map (de u as).idxOf=(l.filter (stays as)).map (de u as).idxOf:=by rw[Wf,if_neg (by simp_all)]
     rw[e];obtain⟨d1,D,L,M⟩:=zo v b k x d j RX;by_cases m:x.op=22
     ·have hq:tk u gv v x s = .inr {s with steps:=s.steps+1}:=by
        unfold tk;rw[if_neg d1,if_neg D,if_pos m,if_neg (L m s hI)]
      rw[hq];exact y _ s' (W.one b k v x s _ d j i hI ha.len hq) ⟨ha.len,ha.yF,ha.val,ha.heap,by simp only;omega,ha.polls⟩
     have hq:tk u gv v x s = .inr {s with val:=s.val.set v (HU x s.of s.heap),steps:=s.steps+1}:=by
       unfold tk;rw[if_neg d1,if_neg D,if_neg m,if_neg M]
     rw[hq];refine y _ s' (W.one b k v x s _ d j i hI ha.len hq) ⟨by simp only[Hb];exact ha.len,ha.yF,λw N=>?_,ha.heap,by grind,ha.polls⟩;rw[ha.val w N];show _=(s.val.set _ _).getD _ 0;rw[uY (by rw[ha.len];exact q),if_neg (by grind[ft])];rfl
omit f W zo in
theorem B6 {b:Nat} {B:Bk} (hB:u.blocks[b]? =some B):∀v∈B.cR.dropWhile (dK u),dK u v=false:=by
 have e:=VF (p:=dK u) (l:=B.cR)
 cases hd:B.cR.dropWhile (dK u)with
 |nil=>simp_all
 | cons w r=>
   have hw:dK u w=false:=by
     have:=List.head?_dropWhile_not (dK u) B.cR;rw[hd]at this;simpa using this
   intro v hv
   cases hq:dK u v with
   |false=>rfl
   | true=>
     exfalso;rw[hd]at e;generalize B.cR.takeWhile (dK u)=hs at e;obtain⟨n,hn⟩:=kh.1 hv;have a1:At u v b (hs.length+n):=⟨B,hB,by rw[<-e,Se (by omega)];rw[ZA];exact hn⟩
     have a2:At u w b hs.length:=⟨B,hB,by rw[<-e,Se (by omega),Nat.sub_self];rfl⟩
     have hx:=fg (g.gz _ _ _ a1);have hy:=fg (g.gz _ _ _ a2)
     grind[dK,I9]
omit g f W zo in
theorem Ef {p:Nat->Bool} {x:Nat}:∀{l:List Nat},x∈l.takeWhile p->p x=true
 |[],h=>by cases h
 | a ::l,h=>by
   rw[List.takeWhile_cons]at h;split at h
   ·rename_i ha
    rcases HS.1 h with rfl|h
    ·exact ha
    ·exact Ef h
   ·cases h
omit g f W zo in
theorem Bx {p:Nat->Bool}:∀{a b:List Nat},(∀x∈a,p x=true)->(∀x∈b,p x=false)->(a++b).takeWhile p=a/\(a++b).dropWhile p=b
 | [],b,_,hb=>by
   cases b <;> simp_all
 | x::a,b,ha,hb=>by
   obtain⟨h1,h2⟩:=Bx (a:=a) (b:=b) (by simp_all) hb
   simp_all
omit f W zo in
theorem Ru {v:Nat} (hv:v∈de u as):dK (ey u as) ((de u as).idxOf v)=dK u v:=by
 have hx:=fg ((ft g).1 hv).1;unfold dK;rw[GR (yG hv) hx,hx];rfl
omit f W zo in
theorem NR {b:Nat} {B:Bk} (hB:u.blocks[b]? =some B) :
  (iG u as B).cR.takeWhile (dK (ey u as))=((B.cR.takeWhile (dK u)).filter (stays as)).map (de u as).idxOf/\(iG u as B).cR.dropWhile (dK (ey u as))=((B.cR.dropWhile (dK u)).filter (stays as)).map (de u as).idxOf:=by
 have e:(iG u as B).cR=((B.cR.takeWhile (dK u)).filter (stays as)).map (de u as).idxOf++((B.cR.dropWhile (dK u)).filter (stays as)).map (de u as).idxOf:=by
  rw[<-LX,<-Xu,VF];rfl
 have IS:∀v∈B.cR,stays as v=true->v∈de u as:=λv hv hs=>by
  obtain⟨k,hk⟩:=kh.1 hv;exact(ft g).2 ⟨g.gz v b k ⟨B,hB,hk⟩,hs⟩
 rw[e];refine Bx (λx hx=>?_) λx hx=>?_
 ·obtain⟨v,hv,rfl⟩:=E7.1 hx
  grind[Ru,VT,Ef]
 ·obtain⟨v,hv,rfl⟩:=E7.1 hx
  grind[Ru,List.dropWhile_subset,B6]
omit f W zo in
theorem RK {b:Nat} {B:Bk} {tI:Option Nat} {s s':Rs} (hB:u.blocks[b]? =some B) (ha:Alike u as s s')
  (Z5:∀(v k:Nat) (x:Vl) (j p a:Nat),At u v b k->stays as v=true->u.cR[v]? =some x->x.op=21->tI=some p->B.c8[j]? =some p->x.args[j]? =some a->s'.of (nm u as a)=s.of a) :
  Alike u as (jR u locals tI B s) (jR (ey u as) locals tI (iG u as B) s'):=by
 obtain ⟨e1,_⟩:=NR (as:=as) g hB;have PJ:∀v∈B.cR.takeWhile (dK u),∃k,At u v b k:=λv hv=>by
  obtain⟨k,hk⟩:=kh.1 (VT _ hv);exact⟨k,B,hB,hk⟩
 have hw:∀v∈B.cR.takeWhile (dK u),stays as v=true->qX (ey u as) locals tI (iG u as B) s'.of ((de u as).idxOf v)=qX u locals tI B s.of v:=by
  intro v hv hs;obtain⟨k,Hy⟩:=PJ v hv;have YB:=g.gz _ _ _ Hy;have hx:=fg YB;generalize u.cR[v]=x at hx;have hm:v∈de u as:=by grind[ft]
  unfold qX;rw[GR (yG hm) hx,hx];show(if x.op=1 then _ else _)=(if x.op=1 then _ else _)
  by_cases h1:x.op=1
  ·rw[if_pos h1,if_pos h1];rfl
  rw [if_neg h1,if_neg h1];have Yp:x.op=21:=by
   have:=Ef hv;unfold dK at this;rw[hx]at this;unfold fm at this;rw[Ie,CG,CG]at this;omega
  cases hf:tI with
  |none=>rfl
  | some p=>
    show (match B.c8.findIdx? (·== p)with
      |some j=>s'.of ((eO u as x).args.getD j 0)
      |none=>0)=(match B.c8.findIdx? (·== p)with
      |some j=>s.of (x.args.getD j 0)
      |none=>0)
    cases hj:B.c8.findIdx? (·== p)with
    |none=>rfl
    | some j=>
      simp only;obtain⟨hjl,Z9,_⟩:=List.findIdx?_eq_some_iff_getElem.1 hj;rw[CG]at Z9;have hpl:=(g.xI v b k x B Hy hx Yp hB).2;have hja:x.args[j]? =some x.args[j]:=by simp_all
      have e:(eO u as x).args=x.args.map (nm u as):=if_pos (.inl Yp)
      grind
 unfold jR;simp only;rw[e1];have Z7:∀v∈B.cR.takeWhile (dK u),v<s.val.length:=λv hv=>by
  obtain⟨k,Hy⟩:=PJ v hv;rw[ha.len];exact g.gz _ _ _ Hy
 refine⟨by simp only[Cu];exact ha.len,by simp only[Cu];exact ha.yF,λv hv=>?_,ha.heap,?_,ha.polls⟩
 ·show (yJ s'.val _).getD _ 0=(yJ s.val _).getD _ 0;rw[uz _ _ Z7,uz _ _ λw hw=>by
   obtain⟨v',VE,rfl⟩:=E7.1 hw;obtain⟨h1,h2⟩:=DG.1 VE;obtain⟨k,Hy⟩:=PJ v' h1;rw[ha.yF];exact Ys ((ft g).2 ⟨g.gz _ _ _ Hy,h2⟩)]
  by_cases hm:v∈B.cR.takeWhile (dK u)
  ·rw[if_pos hm,if_pos (E7.2 ⟨v,by grind[ft],rfl⟩)]
   grind[ft]
  ·rw [if_neg hm,if_neg λh=>by
    obtain⟨v',VE,e⟩:=E7.1 h;obtain⟨h1,h2⟩:=DG.1 VE;obtain⟨k,Hy⟩:=PJ v' h1;obtain rfl:=J0 ((ft g).2 ⟨g.gz _ _ _ Hy,h2⟩) hv e
    simp_all]
   exact ha.val v hv
 ·simp only[yn];have:=QY (stays as) (B.cR.takeWhile (dK u));have:=ha.steps;omega
theorem Rl{fuel:Nat}:∀(Hn:Nat) (tI:Option Nat) (b:Nat) (B:Bk) (s s':Rs),u.blocks[b]? =some B->Alike u as s s'->
  ((tI=none/\b=0/\s=kW u heap)\/∃(p:Nat) (P:Bk) (o i:Rs),tI=some p/\u.blocks[p]? =some P/\b∈P.next/\I p P.cR.length o/\Alike u as o i/\s = {o with steps:=o.steps+1}/\s' = {i with steps:=i.steps+1})->
  (runM u locals gv fuel Hn tI b s).As (runM (ey u as) locals gv fuel Hn tI b s')
 |0,_,_,_,_,_,_,_,_=>trivial
 | Hn+1,tI,b,B,s,s',hB,ha,he=>by
   have S:=(gL.1 hB).1;have E:Alike u as (jR u locals tI B s) (jR (ey u as) locals tI (iG u as B) s'):=by
     refine RK g hB ha λv k x j p a F hs O G A H hq=>?_;rcases he with⟨z,_⟩|⟨Q,P,o,i,z,h,C,q,J,rfl,rfl⟩
     ·simp_all
     ·rw[z]at A
      cases A;exact Jc g f W (s:=o) (s':=i) q J (pq h (g.xo v b k x B F O G hB j a p hq H)) (f.use v x O hs a (by
        unfold fu
        grind))
   have K:I b (B.cR.takeWhile (dK u)).length (jR u locals tI B s):=by
     rcases he with⟨rfl,rfl,rfl⟩|⟨Q,P,o,i,rfl,h,C,q,J,rfl,rfl⟩
     ·exact W.start B hB
     ·exact W.wo Q b P B o h hB C q J.len
   obtain ⟨_,T⟩:=NR (as:=as) g hB;have hlen:(B.cR.takeWhile (dK u)).length+(B.cR.dropWhile (dK u)).length=B.cR.length:=by
     rw[<-Ht,VF]
   have L:B.cR.drop (B.cR.takeWhile (dK u)).length=B.cR.dropWhile (dK u):=by
     have e:=VF (p:=dK u) (l:=B.cR);generalize B.cR.takeWhile (dK u)=a at e⊢;generalize B.cR.dropWhile (dK u)=d at e⊢;rw[<-e];exact List.drop_left' rfl
   obtain⟨r1,U⟩:=Ob g f W zo (fuel:=fuel) hB _ _ _ _ L hlen (B6 g hB) K E;unfold runM;rw[hB,ME hB];simp only;rw[T]
   cases hq:tG u gv fuel (B.cR.dropWhile (dK u)) (jR u locals tI B s)with
   | inl e=>
     simp only
     cases e with
     |NI=>exact trivial
     |stuck=>exact trivial
     | left n fr H=>
       obtain⟨n',z,h⟩:=r1 n fr H hq;rw[h]
       exact⟨z,rfl,rfl⟩
   | inr D=>
     obtain⟨r,z,h,C⟩:=U D hq;rw[z];simp only;have V:=h.steps;by_cases A:fuel<=D.steps
     ·rw[if_pos A];exact trivial
     rw[if_neg A,if_neg (show ¬fuel<=r.steps by omega)];show Ex.As (if B.fin=3 then _ else _) (if B.fin=3 then _ else _);by_cases c:B.fin=3
     ·rw[if_pos c,if_pos c]
      have M:B.state<u.cZ.length:=by
        rcases g.fin b B hB with⟨q,_⟩|⟨q,_⟩|⟨_,_,q⟩
        ·omega
        ·omega
        ·exact q
      have y:=fg M;obtain⟨fr,X,Y⟩:=GV g f W C h (VD hB c) y λw R=>⟨pq hB (g.zl b B _ hB c y w R),f.out b B _ hB c y w R⟩
      rw[X,show(iG u as B).state=(AN u as).idxOf B.state from if_pos c,Y];exact⟨by omega,rfl,rfl⟩
     rw[if_neg c,if_neg c];have Z:pV (iG u as B) r=pV B D:=by
       unfold pV;show(if B.fin=1 then B.next[0]? else if B.fin=2 then(if r.of (if B.fin=2 then nm u as B.cond else B.cond)=0 then B.next[1]? else B.next[0]?) else none)=_;by_cases m:B.fin=2
       ·rw[if_pos m,if_pos m,if_pos m,Jc g f W C h (pq hB (g.xQ b B hB m)) (f.cond b B hB m)]
       ·simp_all
     rw[Z]
     cases hn:pV B D with
     |none=>exact trivial
     | some t=>
       simp only;have ht:t∈B.next:=by
         unfold pV at hn
         repeat' split at hn
         all_goals grind
       have N:=g.nx b t (by grind[next]);exact Rl Hn (some b) t _ _ _ (fg N) ⟨h.len,h.yF,h.val,h.heap,by simp_all,h.polls⟩ (by grind)
theorem SJ{fuel:Nat} (Hn:Nat):(runM u locals gv fuel Hn none 0 (kW u heap)).As (runM (ey u as) locals gv fuel Hn none 0 (kW (ey u as) heap)):=by
 have a:(ey u as).cR.length=(de u as).length:=by
  show((de u as).map _).length=_;rw[yn]
 refine Rl g f W zo Hn none 0 _ _ _ (fg (show 0<u.blocks.length from g.EE)) ⟨by simp[kW],by grind[kW],λv _=>?_,rfl,iC _,rfl⟩ (by simp_all);have e:∀n m,(List.replicate n (0:Int)).getD m 0=0:=by grind
 exact(e _ _).trans (e _ _).symm
end
