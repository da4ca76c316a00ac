/- Parts. -/
import Derived.Test.YtpnddokajmjpbaaDoorM13
namespace Go.Proofs.YtpnddokajmjpbaaDoor.Un
open Go.Proofs.YtpnddokajmjpbaaDoor.Dm
def kJ (l:List Nat):List Nat:=l.foldl (λa s=>if s∈a then a else a++[s]) []
theorem wA (l:List Nat) (s:Nat):kJ (l++[s])=if s∈kJ l then kJ l else kJ l++[s]:=by
 unfold kJ;rw[List.foldl_append];rfl
theorem KU {P:List Nat->Prop} (h0:P []) (hs:∀l s,P l->P (l++[s])) (l:List Nat):P l:=by
 have:∀r:List Nat,P r.reverse:=λr=>by
  induction r with
  |nil=>exact h0
  |cons a r b=>rw[List.reverse_cons];exact hs _ _ b
 rw[<-List.reverse_reverse l];exact this _
theorem sH (l:List Nat):∀x,x∈kJ l↔x∈l:=by
 induction l using KU with
 |h0=>exact λ_=>Iff.rfl
 | hs l s a=>
   intro x;rw[wA];split
   ·rename_i h
    rw[a,xX,EB];exact⟨.inl,λb=>b.elim id λe=>by rw[e];exact(a s).1 h⟩
   ·rw[xX,xX,a]
theorem MI (l:List Nat):(kJ l).Nodup:=by
 induction l using KU with
 |h0=>exact wCM
 | hs l s c=>
   rw[wA];split
   ·exact c
   ·rename_i h
    rw[Qh];exact⟨c,ZY.2 ⟨by simp,wCM⟩,λa d b hb=>by
      rw[EB]at hb;subst hb;exact λe=>h (e▸d)⟩
theorem DS {l:List Nat} {x:Nat} (h:x∈l):l[l.idxOf x]? =some x:=by
 rw[gQ (wBw h),List.getElem_idxOf]
theorem p7 {l:List Nat} (f:l.Nodup) {i j x:Nat} (hi:l[i]? =some x) (g:l[j]? =some x):i=j:=by
 obtain⟨a,b⟩:=iB.1 hi;obtain⟨c,d⟩:=iB.1 g;have e:=VQ.1 f;rcases V2 i j with h|h|h
 ·exact absurd (b.trans d.symm) (e i j a c h)
 ·exact h
 ·exact absurd (d.trans b.symm) (e j i c a h)
theorem YR{l:List Nat}(a:l.Nodup){i x:Nat}(h:l[i]? =some x):l.idxOf x=i:=p7 a (DS (xQ h)) h
theorem Xx {l:List Nat} {x y:Nat} (hx:x∈l) (b:y∈l) (h:l.idxOf x=l.idxOf y):x=y:=by
 have a:=DS hx;rw[h,DS b]at a;exact(Option.some.inj a).symm
theorem Mr {p:Nat->Bool}:∀{l:List Nat} {k v:Nat},l[k]? =some v->p v=true->(l.filter p)[((l.take k).filter p).length]? =some v
 |[],k,v,h,_=>by simp at h
 | a::l,0,v,h,hp=>by
   obtain rfl:a=v:=by simpa using h
   simp[hp]
 | a::l,k+1,v,h,hp=>by
   have b:=Mr (l:=l) (k:=k) (by simpa using h) hp;rw[List.take_succ_cons,T7,T7];split
   ·rw[CM,O8];exact b
   ·exact b
theorem Xf {p:Nat->Bool} {l:List Nat} {j k w:Nat} (h:l[j]? =some w) (a:p w=true) (b:j<k):((l.take j).filter p).length<((l.take k).filter p).length:=by
 obtain ⟨c,rfl⟩:=iB.1 h;have e:l.take k=l.take j++l[j]::((l.take k).drop (j+1)):=by
  conv=>lhs;rw[<-VM j (l.take k)]
  rw[List.take_take,ZF (by omega)];congr 1;rw[Yh (by rw[FY];omega),List.getElem_take]
 rw[e,Ws,T7,if_pos a,zL,CM];omega
section
variable (u:U)(as:Nat->Int)
def stays (v:Nat):Bool:=as v == (v:Int)
def fR:List Nat:=u.blocks.flatMap λB=>B.ee.filter (stays as)
def vm:Nat->Nat->Nat
 |0,v=>v
 |k+1,v=>if 0<=as v/\as v≠(v:Int) then vm k (as v).toNat else v
def nm (v:Nat):Nat:=if vm as (u.ee.length+1) v∈fR u as then(fR u as).idxOf (vm as (u.ee.length+1) v) else 0
def Ha:List Nat:=(fR u as).filterMap (λn=>match u.ee[n]? with
  |some x=>if leaves x.op=true then some x.state else none
  |none=>none)++u.blocks.filterMap λB=>if B.fin=3 then some B.state else none
def GO:List Nat:=kJ (Ha u as)
def iD (x:Vl):Vl where
 op:=x.op
 a:=if 0<(if two x.op=true then 2 else if uD x.op=true then 1 else 0) then nm u as x.a else x.a
 b:=if two x.op=true then nm u as x.b else x.b
 n:=x.n
 args:=if x.op=21\/x.op=20 then x.args.map (nm u as) else x.args
 state:=if leaves x.op=true then(GO u as).idxOf x.state else x.state
def pe (B:Bk):Bk where
 ee:=(B.ee.filter (stays as)).map (fR u as).idxOf
 fin:=B.fin
 cond:=if B.fin=2 then nm u as B.cond else B.cond
 next:=B.next
 fe:=B.fe
 state:=if B.fin=3 then(GO u as).idxOf B.state else B.state
def Pw (f:Fm):Fm:=⟨f.func,f.pc,f.locals.map (nm u as),f.stack.map (nm u as)⟩
def iR:U where
 func:=u.func
 pc:=u.pc
 ee:=(fR u as).map λn=>iD u as (u.ee.getD n ⟨0,0,0,0,[],0⟩)
 blocks:=u.blocks.map (pe u as)
 eh:=(GO u as).map λs=>(u.eh.getD s []).map (Pw u as)
end
def XC (u:U):Prop:=∀(v:Nat) (b:Nat) (k:Nat) (a:Nat) (k':Nat),At u v b k->At u v a k'->b=a/\k=k'
theorem Fz {u:U} (c:XC u) {b:Nat} {B:Bk} (a:u.blocks[b]? =some B):B.ee.Nodup:=by
 refine VQ.2 λi j hi d f e=>?_;have g:At u B.ee[i] b i:=⟨B,a,gQ hi⟩
 have h:At u B.ee[i] b j:=⟨B,a,by rw[e];exact gQ d⟩
 have:=(c _ _ _ _ _ g h).2;omega
theorem yg {u:U} {as:Nat->Int} (g:XC u):(fR u as).Nodup:=by
 unfold fR;have d:∀(l:List Bk) (i:Nat),(∀k B,l[k]? =some B->u.blocks[i+k]? =some B)->(l.flatMap λB=>B.ee.filter (stays as)).Nodup:=by
  intro l
  induction l with
  |nil=>exact λ_ _=>wCM
  | cons B l m=>
    intro i h;rw[Za,Qh];have j:u.blocks[i]? =some B:=h 0 B rfl;refine⟨(Fz g j).filter _,m (i+1) λk C b=>by rw[show i+1+k=i+(k+1) by omega];exact h (k+1) C (by simpa using b),λa n c hc e=>?_⟩;subst e;obtain⟨C,o,f⟩:=Pp.1 hc;obtain⟨k,b⟩:=mA.1 o;obtain⟨p,q⟩:=mA.1 (NA.1 n).1;obtain⟨r,s⟩:=mA.1 (NA.1 f).1;have:=(g a i p (i+(k+1)) r ⟨B,j,q⟩ ⟨C,h (k+1) C (by simpa using b),s⟩).1;omega
 exact d u.blocks 0 λk B b=>by rw[vI];exact b
theorem Pt.short {nx:Nat->List Nat} {x:Nat}:∀{b l},Pt nx b l->x∈l->x≠b->∃a,Pt nx x a/\a.length<l.length
 | _,_,.nil,h,hn=>by
   obtain rfl:x=0:=by simpa using h
   exact absurd rfl hn
 | _,_,.step (p:=p) (b:=b) (l:=l) h e,hx,hn=>by
   rcases CL.1 hx with rfl|hx
   ·exact absurd rfl hn
   ·by_cases hp:x=p
    ·subst hp
     exact⟨l,h,by simp⟩
    ·obtain⟨a,c,d⟩:=Pt.short h hx hp
     exact⟨a,c,by simp;omega⟩
theorem mg.Zj {nx:Nat->List Nat} {a b:Nat} (d:mg nx a b) (e:mg nx b a) {l:List Nat} (f:Pt nx b l):a=b:=by
 have g:∀n (l:List Nat),l.length<=n->(Pt nx b l->a≠b->False)/\(Pt nx a l->a≠b->False):=by
  intro n
  induction n with
  | zero=>
    intro l f;have:l=[]:=Rf (by omega);subst this
    exact⟨λh _=>(nomatch h),λh _=>(nomatch h)⟩
  | succ n k=>
    intro l f;refine⟨λh c=>?_,λh c=>?_⟩
    ·obtain⟨i,j,m⟩:=h.short (d l h) c
     exact(k i (by omega)).2 j c
    ·obtain⟨i,j,m⟩:=h.short (e l h) c.symm
     exact(k i (by omega)).1 j c
 by_cases h:a=b
 ·exact h
 ·exact((g l.length l (iW _)).1 f h).elim
theorem mg.trans {nx:Nat->List Nat} {a b c:Nat} (f:mg nx a b) (i:mg nx b c):mg nx a c:=λl g=>by
 have d:∀{y l},Pt nx y l->b∈l->a∈l:=by
  intro y l j
  induction j with
  | nil=>
    intro hb;obtain rfl:b=0:=by simpa using hb
    exact f _ .nil
  | step h e k=>
    intro hb;rcases CL.1 hb with rfl|hb
    ·exact f _ (.step h e)
    ·exact Mh _ (k hb)
 exact d g (i l g)
structure Fit (u:U) (as:Nat->Int):Prop where
 root:∀v,v<u.ee.length->0<=as v->∃w:Nat,as v=(w:Int)/\w<u.ee.length/\as w=(w:Int)
 up:∀(v w b k:Nat),as v=(w:Int)->At u v b k->∃c j,At u w c j/\(c=b/\j<=k\/c≠b/\mg (next u) c b)
 PI:∀(v w:Nat),as v=(w:Int)->tI u v->tI u w
 use:∀(v:Nat) (x:Vl),u.ee[v]? =some x->stays as v=true->∀w∈gJ x,0<=as w
 st:∀(v:Nat) (x:Vl) (fs:List Fm),u.ee[v]? =some x->stays as v=true->leaves x.op=true->u.eh[x.state]? =some fs->∀w∈ie fs,0<=as w
 cond:∀(b:Nat) (B:Bk),u.blocks[b]? =some B->B.fin=2->0<=as B.cond
 out:∀(b:Nat) (B:Bk) (fs:List Fm),u.blocks[b]? =some B->B.fin=3->u.eh[B.state]? =some fs->∀w∈ie fs,0<=as w
section
variable{u:U}(g:Good u){as:Nat->Int}(f:Fit u as)
include g
theorem p8 {v:Nat}:v∈fR u as↔v<u.ee.length/\stays as v=true:=by
 unfold fR;rw[Pp];constructor
 ·rintro⟨B,e,hv⟩;obtain⟨a,c⟩:=NA.1 hv;obtain⟨b,hb⟩:=mA.1 e;obtain⟨k,d⟩:=mA.1 a;exact⟨g.l0 v b k ⟨B,hb,d⟩,c⟩
 ·rintro⟨a,c⟩;obtain⟨b,k,B,hb,d⟩:=g.AB v a;exact⟨B,xQ hb,NA.2 ⟨xQ d,c⟩⟩
theorem Eh{b:Nat}{B:Bk}(a:u.blocks[b]? =some B):B.ee.Nodup:=Fz g.EI a
theorem Ae:(fR u as).Nodup:=yg g.EI
omit g in
include f in
theorem V3 {v:Nat} (hv:v<u.ee.length) (h0:0<=as v):∃w:Nat,vm as (u.ee.length+1) v=w/\as v=(w:Int)/\w<u.ee.length/\as w=(w:Int):=by
 obtain⟨w,h1,h2,h3⟩:=f.root v hv h0;refine⟨w,?_,h1,h2,h3⟩;unfold vm;split
 ·rename_i h;rw[h1];show vm as u.ee.length w=w
  cases u.ee.length with
  |zero=>rfl
  | succ n=>
    unfold vm;rw[if_neg λhh=>hh.2 h3]
 ·rename_i h;have:as v=(v:Int):=by
   by_cases e:as v=(v:Int)
   ·exact e
   ·exact absurd ⟨h0,e⟩ h
  omega
include f
theorem Ol {v:Nat} (hv:v<u.ee.length) (h0:0<=as v):∃w:Nat,as v=(w:Int)/\w∈fR u as/\nm u as v=(fR u as).idxOf w:=by
 obtain⟨w,b,c,d,e⟩:=V3 f hv h0;have a:w∈fR u as:=(p8 g).2 ⟨d,by unfold stays;rw[CN];exact e⟩;exact⟨w,c,a,by unfold nm;rw[b,if_pos a]⟩
omit f g
theorem UR {i n:Nat} {x:Vl} (hi:(fR u as)[i]? =some n) (hx:u.ee[n]? =some x):(iR u as).ee[i]? =some (iD u as x):=by
 show((fR u as).map _)[i]? =_;rw[wq,hi];show some (iD u as (u.ee.getD n _))=_;rw[E3,hx];rfl
theorem BE (g:Good u) {i:Nat} {y:Vl} (h:(iR u as).ee[i]? =some y):∃n x,(fR u as)[i]? =some n/\u.ee[n]? =some x/\y=iD u as x/\stays as n=true:=by
 have h:((fR u as).map _)[i]? =some y:=h;rw[wq]at h
 cases hn:(fR u as)[i]? with
 |none=>rw[hn]at h;cases h
 | some n=>
   obtain ⟨b,c⟩:=(p8 g).1 (xQ hn);have hx:=gQ b;have:=UR hn hx;refine⟨n,_,rfl,hx,?_,c⟩;rw[hn]at h;have a:(iR u as).ee[i]? =some y:=by
     show((fR u as).map _)[i]? =_;rw[wq,hn];exact h
   rw[this]at a;exact(Option.some.inj a).symm
theorem Uj {b:Nat} {B:Bk} (a:u.blocks[b]? =some B):(iR u as).blocks[b]? =some (pe u as B):=by
 show(u.blocks.map _)[b]? =_;rw[wq,a];rfl
theorem CY {b:Nat} {a:Bk} (h:(iR u as).blocks[b]? =some a):∃B,u.blocks[b]? =some B/\a=pe u as B:=by
 have h:(u.blocks.map _)[b]? =some a:=h;rw[wq]at h
 cases hb:u.blocks[b]? with
 |none=>rw[hb]at h;cases h
 |some B=>rw[hb]at h;exact⟨B,rfl,(Option.some.inj h).symm⟩
theorem UY (b:Nat):next (iR u as) b=next u b:=by
 unfold next
 cases hb:u.blocks[b]? with
 | none=>
   have:(iR u as).blocks[b]? =none:=by
     show(u.blocks.map _)[b]? =_;rw[wq,hb];rfl
   rw[this]
 |some B=>rw[Uj hb];rfl
theorem I0:next (iR u as)=next u:=funext UY
theorem Iw {h:Bk->Bk} (a:∀B,(h B).next=B.next) (b:Nat):∀(l:List Bk) (i:Nat),kh (l.map h) i b=kh l i b
 |[],_=>rfl
 | B::l,i=>by
   show((h B).next.filter (·= b)).map (λ_=>i)++kh (l.map h) (i+1) b=_;rw[a,Iw a b l];rfl
theorem Mp (b:Nat):ahead (iR u as) b=ahead u b:=Iw (h:=pe u as) (λ_=>rfl) b u.blocks 0
def pk (u:U) (as:Nat->Int) (b k:Nat):Nat:=match u.blocks[b]? with
 |some B=>((B.ee.take k).filter (stays as)).length
 |none=>0
theorem Yt {v b k:Nat} (h:At u v b k) (hs:stays as v=true):At (iR u as) ((fR u as).idxOf v) b (pk u as b k):=by
 obtain⟨B,a,hv⟩:=h;refine⟨_,Uj a,?_⟩;show((B.ee.filter (stays as)).map _)[pk u as b k]? =_;unfold pk;rw[a,wq,Mr hv hs];rfl
theorem Yi {v b j k:Nat} (h:At u v b j) (hs:stays as v=true) (a:j<k):pk u as b j<pk u as b k:=by
 obtain⟨B,c,hv⟩:=h;unfold pk;rw[c];exact Xf hv hs a
theorem Ba (g:Good u) {i b k:Nat} (h:At (iR u as) i b k):∃v j,At u v b j/\stays as v=true/\i=(fR u as).idxOf v/\k=pk u as b j/\(fR u as)[i]? =some v:=by
 obtain⟨m,c,hi⟩:=h;obtain⟨B,d,rfl⟩:=CY c;have hi:((B.ee.filter (stays as)).map _)[k]? =some i:=hi;rw[wq]at hi
 cases hv:(B.ee.filter (stays as))[k]? with
 |none=>rw[hv]at hi;cases hi
 | some v=>
   rw[hv]at hi;obtain rfl:(fR u as).idxOf v=i:=Option.some.inj hi;obtain⟨l,e⟩:=NA.1 (xQ hv);obtain⟨j,f⟩:=mA.1 l;have a:At u v b j:=⟨B,d,f⟩
   refine⟨v,j,a,e,rfl,?_,DS ((p8 g).2 ⟨g.l0 _ _ _ a,e⟩)⟩;unfold pk;rw[d];exact p7 ((Eh g d).filter _) hv (Mr f e)
theorem Nn (x:Vl):gJ (iD u as x)=(gJ x).map (nm u as):=by
 unfold gJ;show(if x.op=21 then(iD u as x).args else if x.op=20 then(iD u as x).a::(iD u as x).b::(iD u as x).args.take 1 else if two x.op=true then[(iD u as x).a,(iD u as x).b] else if uD x.op=true then[(iD u as x).a] else[])=_;unfold iD;simp only;by_cases e:x.op=21
 ·simp[e]
 ·rw [if_neg e,if_neg e];by_cases c:x.op=20
  ·rw[if_pos c,if_pos c];simp[c,two,List.map_take]
  ·rw [if_neg c,if_neg c];by_cases d:two x.op=true
   ·simp[d]
   ·rw[if_neg d,if_neg d];by_cases f:uD x.op=true
    ·simp[d,f]
    ·simp[d,f]
include g f
theorem I3 {w:Nat} (h:tI u w) (h0:0<=as w):tI (iR u as) (nm u as w):=by
 obtain⟨x,hx,_⟩:=id h;obtain⟨r,a,b,c⟩:=Ol g f (iB.1 hx).1 h0;obtain⟨y,d,e⟩:=f.PI w r a h;exact⟨iD u as y,by rw[c];exact UR (DS b) d,e⟩
theorem UU {w b k:Nat} (h:Sb u w b k) (hb:b<u.blocks.length) (h0:0<=as w):Sb (iR u as) (nm u as w) b (pk u as b k):=by
 obtain⟨c,j,m,hc⟩:=h;obtain⟨r,s,t,v⟩:=Ol g f (g.l0 _ _ _ m) h0;obtain⟨c',x,d,n⟩:=f.up w r c j s m;have hs:=((p8 g).1 t).2;refine⟨c',pk u as c' x,by rw[v];exact Yt d hs,?_⟩;rw[I0];rcases hc with⟨rfl,z⟩|⟨o,p⟩
 ·rcases n with⟨rfl,q⟩|⟨i,a⟩
  ·exact .inl ⟨rfl,Yi d hs (by omega)⟩
  ·exact .inr ⟨i,a⟩
 ·rcases n with⟨rfl,q⟩|⟨i,a⟩
  ·exact .inr ⟨o,p⟩
  ·refine .inr ⟨λe=>?_,a.trans p⟩;subst e;obtain⟨l,y⟩:=g.reach c' hb;exact o (p.Zj a y)
theorem Hh {w b:Nat} (h:ye u w b) (h0:0<=as w):ye (iR u as) (nm u as w) b:=by
 obtain⟨c,j,a,k⟩:=h;obtain⟨r,l,m,n⟩:=Ol g f (g.l0 _ _ _ a) h0;obtain⟨c',o,d,e⟩:=f.up w r c j l a;refine⟨c',pk u as c' o,by rw[n];exact Yt d ((p8 g).1 m).2,?_⟩;rw[I0];rcases e with⟨rfl,_⟩|⟨_,i⟩
 ·exact k
 ·exact i.trans k
omit f in
theorem Hy {s:Nat} (h:s∈Ha u as):s<u.eh.length/\((∃(v b k:Nat) (x:Vl),At u v b k/\stays as v=true/\u.ee[v]? =some x/\leaves x.op=true/\x.state=s)\/∃(b:Nat) (B:Bk),u.blocks[b]? =some B/\B.fin=3/\B.state=s):=by
 unfold Ha at h;rcases xX.1 h with h|h
 ·obtain⟨n,hn,hs⟩:=List.mem_filterMap.1 h;obtain⟨h1,h2⟩:=(p8 g).1 hn;have hx:=gQ h1;rw[hx]at hs;simp only at hs;split at hs
  ·rename_i hl;cases hs;obtain⟨b,k,hat⟩:=g.AB n h1;exact⟨g.leave n _ hx hl,.inl ⟨n,b,k,_,hat,h2,hx,hl,rfl⟩⟩
  ·cases hs
 ·obtain ⟨B,hB,hs⟩:=List.mem_filterMap.1 h;obtain⟨b,hb⟩:=mA.1 hB;split at hs
  ·rename_i h3;cases hs;refine⟨?_,.inr ⟨b,B,hb,h3,rfl⟩⟩;rcases g.fin b B hb with⟨h4,_⟩|⟨h4,_⟩|⟨_,_,h4⟩
   ·omega
   ·omega
   ·exact h4
  ·cases hs
omit g f in
theorem Uu {s:Nat} {fs:List Fm} (h:s∈GO u as) (hs:u.eh[s]? =some fs):(iR u as).eh[(GO u as).idxOf s]? =some (fs.map (Pw u as)):=by
 show((GO u as).map _)[_]? =_;rw[wq,DS h];show some ((u.eh.getD s []).map _)=_;rw[E3,hs];rfl
omit f in
theorem Zr {i:Nat} {gs:List Fm} (h:(iR u as).eh[i]? =some gs):∃s fs,s∈GO u as/\u.eh[s]? =some fs/\gs=fs.map (Pw u as):=by
 have h:((GO u as).map _)[i]? =some gs:=h;rw[wq]at h
 cases hn:(GO u as)[i]? with
 |none=>rw[hn]at h;cases h
 | some s=>
   rw[hn]at h;have hm:s∈GO u as:=xQ hn;have hl:=(Hy g ((sH _ _).1 hm)).1;refine⟨s,u.eh[s],hm,gQ hl,?_⟩;have h:(u.eh.getD s []).map (Pw u as)=gs:=Option.some.inj h;rw[E3,gQ hl]at h;exact h.symm
omit g f in
theorem JY (fs:List Fm):ie (fs.map (Pw u as))=(ie fs).map (nm u as):=by
 unfold ie;rw[List.flatMap_map,List.map_flatMap];congr 1;funext x;rw[EV];rfl
omit f in
theorem zad {v:Nat} {x:Vl} (hs:stays as v=true) (hx:u.ee[v]? =some x) (hl:leaves x.op=true):x.state∈GO u as:=by
 refine(sH _ _).2 (LC _ (List.mem_filterMap.2 ⟨v,(p8 g).2 ⟨(iB.1 hx).1,hs⟩,?_⟩));rw[hx];simp only;rw[if_pos hl]
omit g f in
theorem zaf {b:Nat} {B:Bk} (hB:u.blocks[b]? =some B) (h3:B.fin=3):B.state∈GO u as:=
 (sH _ _).2 (XU _ (List.mem_filterMap.2 ⟨B,xQ hB,by rw[if_pos h3]⟩))
omit f in
theorem Mn {v b k:Nat} {x:Vl} (h:At u v b k) (hx:u.ee[v]? =some x) (hh:iG x.op=true):∀{w j:Nat} {y:Vl},At u w b j->u.ee[w]? =some y->j<=k->iG y.op=true:=by
 have key:∀(n v k:Nat) (x:Vl),At u v b k->u.ee[v]? =some x->iG x.op=true->∀{w j:Nat} {y:Vl},At u w b j->u.ee[w]? =some y->j+n=k->iG y.op=true:=by
  intro n
  induction n with
  | zero=>
    intro v k x h hx hh w j y hw hy e;obtain rfl:j=k:=by omega
    obtain⟨B,h1,h2⟩:=h;obtain⟨B',h3,h4⟩:=hw;rw[h1]at h3;cases h3;rw[h2]at h4;cases h4;rw[hx]at hy;cases hy
    exact hh
  | succ n ih=>
    intro v k x h hx hh w j y hw hy e;obtain⟨k,rfl⟩:∃i,k=i+1:=⟨k-1,by omega⟩
    obtain⟨B,h1,h2⟩:=h;have hk:k<B.ee.length:=by have:=(iB.1 h2).1;omega
    have h3:At u (B.ee[k]) b k:=⟨B,h1,gQ hk⟩
    have hz:=gQ (g.l0 _ _ _ h3);exact ih _ k _ h3 hz (g.G1 _ _ _ _ _ _ ⟨B,h1,h2⟩ h3 hx hz hh) hw hy (by omega)
 exact λ{w j y} hw hy hj=>key (k-j) v k x h hx hh hw hy (by omega)
theorem Te:Good (iR u as):=by
 have hL:(fR u as).length<=u.ee.length:=jy _ _ (Ae g) λv hv=>((p8 g).1 hv).1;have hS:(GO u as).length<=u.eh.length:=jy _ _ (MI _) λs hs=>(Hy g ((sH _ _).1 hs)).1;have hlen:(iR u as).ee.length=(fR u as).length:=by
  show((fR u as).map _).length=_;rw[Fk]
 have J:(iR u as).blocks.length=u.blocks.length:=by
  show(u.blocks.map _).length=_;rw[Fk]
 have N:(iR u as).eh.length=(GO u as).length:=by
  show((GO u as).map _).length=_;rw[Fk]
 have Y:∀s fs,s∈GO u as->u.eh[s]? =some fs->∀w∈ie fs,0<=as w:=by
  intro s fs hs r w d;rcases(Hy g ((sH _ _).1 hs)).2 with⟨v,b,k,x,_,a,G,C,rfl⟩|⟨b,B,c,a,rfl⟩
  ·exact f.st v x fs G a C r w d
  ·exact f.out b B fs c a r w d
 have m:∀{i b k:Nat} {y:Vl},At (iR u as) i b k->(iR u as).ee[i]? =some y->∃v j x,At u v b j/\stays as v=true/\i=(fR u as).idxOf v/\k=pk u as b j/\u.ee[v]? =some x/\y=iD u as x:=by
  intro i b k y O o;obtain⟨v,j,c,a,G,C,l⟩:=Ba g O;obtain⟨n,x,L,S,W,_⟩:=BE g o;rw[l]at L;cases L;exact⟨v,j,x,c,a,G,C,S,W⟩
 have T:∀{v b k:Nat},At u v b k->b<u.blocks.length:=λ⟨B,h,_⟩=>(iB.1 h).1
 refine
  { nv:=by rw[hlen];have:=g.nv;omega
    Ju:=by rw[J];exact g.Ju
    nb:=by rw[J];exact g.nb
    ns:=by rw[N];have:=g.ns;omega
    st:=?_,AB:=?_,EI:=?_,l0:=?_,G1:=?_,par:=?_,IE:=?_,op:=?_,use:=?_,leave:=?_,putAt:=?_,param:=?_,fin:=?_,nx:=?_,fe:=?_,Dj:=?_,Hg:=?_,reach:=?_,IB:=?_,JU:=?_,J4:=?_,JA:=?_,J2:=?_}
 ·intro s gs hs;obtain⟨s0,fs,c,a,rfl⟩:=Zr g hs;obtain⟨G,C,l⟩:=g.st s0 fs a;refine⟨by simpa using G,by simpa using C,λf' Z=>?_⟩;obtain⟨M,U,rfl⟩:=K2.1 Z;obtain⟨h6,h7,h8,h9⟩:=l M U;have V:∀w,w∈M.locals\/w∈M.stack->0<=as w:=λw d=>Y s0 fs c a w (by
   unfold ie;rw[Pp];exact⟨M,U,xX.2 d⟩)
  refine⟨by show(M.locals.map _).length<=40;simpa using h6,by show(M.stack.map _).length<=60;simpa using h7,λv hv=>?_,λv hv=>?_⟩
  ·obtain⟨w,d,rfl⟩:=K2.1 (show v∈M.locals.map (nm u as) from hv);exact I3 g f (h8 w d) (V w (.inl d))
  ·obtain⟨w,d,rfl⟩:=K2.1 (show v∈M.stack.map (nm u as) from hv);exact I3 g f (h9 w d) (V w (.inr d))
 ·intro i hi;rw[hlen]at hi;have hn:=gQ hi;obtain⟨c,a⟩:=(p8 g).1 (xQ hn);obtain⟨b,k,O⟩:=g.AB _ c;refine⟨b,pk u as b k,?_⟩;have:=Yt O a
  rwa [YR (Ae g) hn]at this
 ·intro i b k b' k' h h';obtain⟨v,j,c,a,G,C,l⟩:=Ba g h;obtain⟨v',j',L,S,W,g4,X⟩:=Ba g h';rw[l]at X;cases X;obtain⟨rfl,rfl⟩:=g.EI _ _ _ _ _ c L;exact⟨rfl,C.trans g4.symm⟩
 ·intro i b k h;obtain⟨v,j,_,_,_,_,l⟩:=Ba g h;rw[hlen];exact(iB.1 l).1
 ·intro i i' b k y y' h h' o aa hh;obtain⟨v,j,x,c,a,_,C,l,rfl⟩:=m h o;obtain⟨v',j',x',L,S,_,g4,X,rfl⟩:=m h' aa;show iG x'.op=true;refine Mn g c l hh L X ?_;by_cases hj:j'<=j
  ·exact hj
  ·have:=Yi c a (show j<j' by omega);omega
 ·intro i b k y h o F;obtain⟨v,j,x,c,_,_,_,l,rfl⟩:=m h o;exact g.par v b j x c l F
 ·intro i b k y R h o F e;obtain⟨v,j,x,c,_,_,_,l,rfl⟩:=m h o;obtain⟨B,A,rfl⟩:=CY e;obtain⟨h6,h7⟩:=g.IE v b j x B c l F A;refine⟨h6,?_⟩;have D:x.op=21:=F;show(if x.op=21\/x.op=20 then x.args.map (nm u as) else x.args).length=B.fe.length;rw[if_pos (.inl D),Fk,h7]
 ·intro i y o;obtain⟨n,x,_,a,rfl,_⟩:=BE g o;exact g.op n x a
 ·intro i y o w d;obtain⟨n,x,_,a,rfl,C⟩:=BE g o;rw[Nn]at d;obtain⟨w0,q,rfl⟩:=K2.1 d;exact I3 g f (g.use n x a w0 q) (f.use n x a C w0 q)
 ·intro i y o hl;obtain⟨n,x,_,a,rfl,C⟩:=BE g o;have E:leaves x.op=true:=hl;rw[N];show(if leaves x.op=true then(GO u as).idxOf x.state else x.state)<_;rw[if_pos E];exact wBw (zad g C a E)
 ·intro i y o F;obtain⟨n,x,_,a,rfl,C⟩:=BE g o;have D:x.op=20:=F;show(if x.op=21\/x.op=20 then x.args.map (nm u as) else x.args).length=1;rw[if_pos (.inr D),Fk];exact g.putAt n x a D
 ·intro i y o F;obtain⟨n,x,c,a,rfl,C⟩:=BE g o;obtain⟨L,S,W⟩:=g.param n x a F;refine⟨L,S,λw z hz ab ac=>?_⟩;obtain⟨n',x',ae,H,rfl,_⟩:=BE g hz;obtain rfl:=W n' x' H ab ac;exact p7 (Ae g) ae c
 ·intro b R e;obtain⟨B,A,rfl⟩:=CY e;rcases g.fin b B A with⟨c,a⟩|⟨c,a,G⟩|⟨c,a,G⟩
  ·exact .inl ⟨c,a⟩
  ·refine .inr (.inl ⟨c,a,?_⟩);show tI _ (if B.fin=2 then nm u as B.cond else B.cond);rw[if_pos c];exact I3 g f G (f.cond b B A c)
  ·refine .inr (.inr ⟨c,a,?_⟩);rw[N];show(if B.fin=3 then(GO u as).idxOf B.state else B.state)<_;rw[if_pos c];exact wBw (zaf A c)
 ·intro b t ht;rw[UY]at ht;rw[J];exact g.nx b t ht
 ·intro b R e;obtain⟨B,A,rfl⟩:=CY e;rw[Mp];exact g.fe b B A
 ·rw[Mp];exact g.Dj
 ·intro b R e a t ht;obtain⟨B,A,rfl⟩:=CY e;rw[Mp];exact g.Hg b B A a t ht
 ·intro b hb;rw[J]at hb;rw[I0];exact g.reach b hb
 ·intro i b k y h o F w d;obtain⟨v,j,x,c,a,_,rfl,l,rfl⟩:=m h o;rw[Nn]at d;obtain⟨w0,q,rfl⟩:=K2.1 d;exact UU g f (g.IB v b j x c l F w0 q) (T c) (f.use v x l a w0 q)
 ·intro i b k y R h o F e j w p d hp;obtain⟨v,j0,x,c,a,_,rfl,l,rfl⟩:=m h o;obtain⟨B,A,rfl⟩:=CY e;have D:x.op=21:=F;have d:(if x.op=21\/x.op=20 then x.args.map (nm u as) else x.args)[j]? =some w:=d;rw[if_pos (.inl D),wq]at d
  cases hq:x.args[j]? with
  |none=>rw[hq]at d;cases d
  | some w0=>
    rw[hq]at d;obtain rfl:nm u as w0=w:=Option.some.inj d;exact Hh g f (g.JU v b j0 x B c l D A j w0 p hq hp) (f.use v x l a w0 (by
      unfold gJ;rw[if_pos D];exact xQ hq))
 ·intro i b k y gs h o hl I w d;obtain⟨v,j,x,c,a,_,rfl,l,rfl⟩:=m h o;have E:leaves x.op=true:=hl;have P:(iD u as x).state=(GO u as).idxOf x.state:=by
   show(if leaves x.op=true then _ else _)=_;rw[if_pos E]
  have Q:=g.leave v x l E;have r:=gQ Q;rw[P,Uu (zad g a l E) r]at I;cases I;rw[JY]at d;obtain⟨w0,q,rfl⟩:=K2.1 d;exact UU g f (g.J4 v b j x _ c l E r w0 q) (T c) (f.st v x _ l a E r w0 q)
 ·intro b R e a;obtain⟨B,A,rfl⟩:=CY e;have H:B.fin=2:=a;show ye _ (if B.fin=2 then nm u as B.cond else B.cond) b;rw[if_pos H];exact Hh g f (g.JA b B A H) (f.cond b B A H)
 ·intro b R gs e G I w d;obtain⟨B,A,rfl⟩:=CY e;have K:B.fin=3:=G;have P:(pe u as B).state=(GO u as).idxOf B.state:=by
   show(if B.fin=3 then _ else _)=_;rw[if_pos K]
  have Q:B.state<u.eh.length:=by
   rcases g.fin b B A with⟨C,_⟩|⟨C,_⟩|⟨_,_,C⟩
   ·omega
   ·omega
   ·exact C
  have r:=gQ Q;rw[P,Uu (zaf A K) r]at I;cases I;rw[JY]at d;obtain⟨w0,q,rfl⟩:=K2.1 d;exact Hh g f (g.J2 b B _ A K r w0 q) (f.out b B _ A K r w0 q)
end
open Go.Proofs.YtpnddokajmjpbaaDoor.Dm
section
variable (u:U)(kp:Nat->Bool)
def uT (b:Nat):Nat:=if kp b=true then((List.range b).filter kp).length else 0
def vj (i:Nat)(ps:List Nat):List Nat:=(List.range ps.length).filter λj=>kp (ps.getD j 0)&&(next u (ps.getD j 0)).contains i
def wI (i:Nat)(ps:List Nat):List Nat:=(vj u kp i ps).map λj=>uT kp (ps.getD j 0)
def uB (i:Nat)(ps args:List Nat):List Nat:=(vj u kp i ps).map λj=>args.getD j 0
def Ms:Bk:=⟨[],0,0,[],[],0⟩
def lI:List Nat:=(List.range u.blocks.length).filter kp
def FG (b:Nat):Bk:={u.blocks.getD b Ms with next:=(u.blocks.getD b Ms).next.map (uT kp),fe:=wI u kp b (u.blocks.getD b Ms).fe}
structure Cut (u':U):Prop where
 func:u'.func=u.func
 pc:u'.pc=u.pc
 eh:u'.eh=u.eh
 blocks:u'.blocks=(lI u kp).map (FG u kp)
 len:u'.ee.length=u.ee.length
 IE:∀(v b k:Nat) (x:Vl) (B:Bk),At u v b k->u.ee[v]? =some x->x.op=21->kp b=true->u.blocks[b]? =some B->u'.ee[v]? =some {x with args:=uB u kp b B.fe x.args}
 same:∀(v:Nat) (x:Vl),u.ee[v]? =some x->¬(x.op=21/\∃b k,At u v b k/\kp b=true)->u'.ee[v]? =some x
structure LH (az a:List Int):Prop where
 len:a.length=az.length
 gone:∀(v b k:Nat),At u v b k->kp b=false->v<az.length->a[v]? =some (-1)
 same:∀(v:Nat),(¬∃b k,At u v b k/\kp b=false)->a[v]? =az[v]?
end
section
variable{u u':U}{kp:Nat->Bool}
theorem filter_all{p:Nat->Bool}{l:List Nat}(h:∀x∈l,p x=true):l.filter p=l:=List.filter_eq_self.2 h
theorem Pd (a:∀b,b<u.blocks.length->kp b=true) {b:Nat} (hb:b<u.blocks.length):uT kp b=b:=by
 unfold uT;rw[if_pos (a b hb),filter_all λx hx=>a x (by have:=Px.1 hx;omega),VO]
theorem Ma (g:Good u) (e:∀b,b<u.blocks.length->kp b=true) {b:Nat} {B:Bk} (f:u.blocks[b]? =some B):vj u kp b B.fe=List.range B.fe.length:=by
 unfold vj;refine filter_all λj a=>?_;have a:=Px.1 a;rw[E3,gQ a];have h:B.fe[j]∈ahead u b:=by rw[<-g.fe b B f];exact AO a
 obtain⟨q,k,c,i,d⟩:=tf.1 h;rw[vI]at d;rw[Option.getD_some,d,e q (iB.1 c).1,YY,List.contains_iff_mem];unfold next
 rw[c];exact i
theorem O9 (l:List Nat) (d:Nat):(List.range l.length).map (λj=>l.getD j d)=l:=by
 refine Wv λj=>?_;by_cases hj:j<l.length
 ·rw[wq,XT hj,gQ hj,Option.map_some,E3,gQ hj];rfl
 ·rw[Jp (by simp;omega),Jp (by omega)]
theorem QD (g:Good u) (d:∀b,b<u.blocks.length->kp b=true) {b:Nat} {B:Bk} (a:u.blocks[b]? =some B):FG u kp b=B:=by
 have e:u.blocks.getD b Ms=B:=by rw[E3,a];rfl
 unfold FG;rw[e];have f:B.next.map (uT kp)=B.next:=by
  have:∀t∈B.next,uT kp t=t:=λt ht=>Pd d (g.nx b t (by unfold next;rw[a];exact ht));rw[VS this,List.map_id''];exact λ_=>rfl
 have i:wI u kp b B.fe=B.fe:=by
  unfold wI;rw[Ma g d a];have:∀j∈List.range B.fe.length,uT kp (B.fe.getD j 0)=B.fe.getD j 0:=λj c=>by
   have c:=Px.1 c;rw[E3,gQ c,Option.getD_some];have k:B.fe[j]∈ahead u b:=by rw[<-g.fe b B a];exact AO c
   obtain⟨q,l,f,_,h⟩:=tf.1 k;rw[vI]at h;rw[h];exact Pd d (iB.1 f).1
  rw[VS this];exact O9 _ _
 rw[f,i]
theorem Cut.eq (g:Good u) (f:∀b,b<u.blocks.length->kp b=true) (c:Cut u kp u'):u' = u:=by
 have hb:u'.blocks=u.blocks:=by
  rw[c.blocks,lI,filter_all λx hx=>f x (Px.1 hx)];refine Wv λb=>?_;by_cases h:b<u.blocks.length
  ·rw[wq,XT h,Option.map_some,QD g f (gQ h),gQ h]
  ·rw[Jp (by simp;omega),Jp (by omega)]
 have hv:u'.ee=u.ee:=by
  refine Wv λv=>?_;by_cases h:v<u.ee.length
  ·have hx:=gQ h;generalize u.ee[v]=x at*;rw[hx];by_cases hp:x.op=21/\∃b k,At u v b k/\kp b=true
   ·obtain ⟨d,b,k,a,i⟩:=hp;obtain⟨B,j,l⟩:=id a;rw[c.IE v b k x B a hx d i j];have e:uB u kp b B.fe x.args=x.args:=by
     unfold uB;rw[Ma g f j,<-(g.IE v b k x B a hx d j).2];exact O9 _ _
    rw[e]
   ·exact c.same v x hx hp
  ·rw[Jp (by rw[c.len];omega),Jp (by omega)]
 have d:=c.func;have m:=c.pc;have n:=c.eh;cases u;cases u';simp only at*;subst hb hv d m n;rfl
theorem LH.eq {az a:List Int} (c:LH u kp az a) (d:∀b,b<u.blocks.length->kp b=true):a=az:=by
 refine Wv λv=>c.same v ?_;rintro⟨b,k,⟨B,e,_⟩,h⟩;rw[d b (iB.1 e).1]at h;cases h
end
open Go.Proofs.YtpnddokajmjpbaaDoor.Dm
theorem Kw {l L:List Nat} (h:l <+: L) {v:Nat} (hv:v∈l):L.idxOf v=l.idxOf v:=by
 obtain⟨r,rfl⟩:=h;rw[ZJ,if_pos hv]
theorem EX (l r:List Nat):kJ l <+: kJ (l++r):=by
 induction r using KU with
 |h0=>rw[Co];exact List.prefix_refl _
 | hs r s a=>
   rw[<-Cy,wA];split
   ·exact a
   ·exact a.trans (List.prefix_append _ _)
section
variable{u:U}{as:Nat->Int}
def ju (u:U) (as:Nat->Int) (i j:Nat):List Nat:=(u.blocks.take i).flatMap (λB=>B.ee.filter (stays as))++(match u.blocks[i]? with
 |some B=>(B.ee.take j).filter (stays as)
 |none=>[])
theorem IK:ju u as 0 0=[]:=by
 unfold ju;rw[YI,List.flatMap_nil,LG];split <;> rfl
theorem OY {i:Nat} {B:Bk} (a:u.blocks[i]? =some B):ju u as i B.ee.length=ju u as (i+1) 0:=by
 unfold ju;rw[a];obtain⟨b,rfl⟩:=iB.1 a;dsimp only;rw[Nw b,X1,List.flatMap_singleton,IT];have:(match u.blocks[i+1]? with|some B=>(B.ee.take 0).filter (stays as)|none=>[])=[]:=by split <;> rfl
 rw[this,Co]
theorem PY:ju u as u.blocks.length 0=fR u as:=by
 unfold ju fR;rw[IT,Jp (iW _),Co]
theorem IJ {i j v:Nat} {B:Bk} (a:u.blocks[i]? =some B) (hv:B.ee[j]? =some v):ju u as i (j+1)=if stays as v=true then ju u as i j++[v] else ju u as i j:=by
 unfold ju;rw[a];obtain⟨b,rfl⟩:=iB.1 hv;dsimp only;rw[Nw b,Ws,T7];split
 ·rw[List.filter_nil,<-Cy]
 ·rw[List.filter_nil,Co]
theorem EK {i j:Nat} {B:Bk} (a:u.blocks[i]? =some B):ju u as i j <+: fR u as:=by
 unfold ju fR;rw[a];obtain⟨b,rfl⟩:=iB.1 a;have e:u.blocks=u.blocks.take i++u.blocks[i]::u.blocks.drop (i+1):=by
  conv=>lhs;rw[<-VM i u.blocks]
  rw[Yh b]
 have c:(u.blocks[i].ee.take j).filter (stays as)++(u.blocks[i].ee.drop j).filter (stays as)=u.blocks[i].ee.filter (stays as):=by
  rw[<-Ws,VM]
 conv=>rhs;rw[e]
 rw[X1,Za,<-c,Cy,<-Cy];exact List.prefix_append _ _
theorem YC (f:XC u) {i j v:Nat} {B:Bk} (b:u.blocks[i]? =some B) (hv:B.ee[j]? =some v) (hs:stays as v=true):(fR u as).idxOf v=(ju u as i j).length/\v ∉ ju u as i j:=by
 have c:=EK (as:=as) (j:=j+1) b;rw[IJ b hv,if_pos hs]at c;have d:=yg (as:=as) f;obtain⟨r,e⟩:=c;rw[<-e,Cy]at d;have a:v ∉ ju u as i j:=λg=>by
  have:=(Qh.1 d).2.2 v g v (by simp);exact this rfl
 refine⟨?_,a⟩;rw[<-e,Cy,ZJ,if_neg a];simp
theorem En (a:∀v b k,At u v b k->v<u.ee.length) {v:Nat} (hv:v∈fR u as):v<u.ee.length:=by
 unfold fR at hv;obtain⟨B,c,hv⟩:=Pp.1 hv;obtain⟨b,hb⟩:=mA.1 c;obtain⟨k,d⟩:=mA.1 (NA.1 hv).1;exact a v b k ⟨B,hb,d⟩
theorem Ou {n:Nat} (h:∀v,v<n->as v<(n:Int)):∀(k v:Nat),v<n->vm as k v<n
 |0,_,hv=>hv
 | k + 1,v,hv=>by
   unfold vm;split
   ·rename_i a
    exact Ou h k _ (by have:=h v hv;omega)
   ·exact hv
def qJ (u:U) (l:List Nat):List Nat:=l.filterMap λn=>match u.ee[n]? with
 |some x=>if leaves x.op=true then some x.state else none
 |none=>none
def z6 (l:List Bk):List Nat:=l.filterMap λB=>if B.fin=3 then some B.state else none
theorem LB:Ha u as=qJ u (fR u as)++z6 u.blocks:=rfl
end
def AL (l:List Vl):Prop:=∀x∈l,x.args.length<=2
section
variable{ops:List Int}
theorem LV:∀(i:Nat) (s:Ds) (l:List Nat),(some_ ops i s l).2.ee=s.ee
 |0,_,_=>rfl
 | i+1,s,l=>by
   unfold some_;rw[LV i];rfl
theorem zU (s:Ds):(fw ops s).2.ee=s.ee:=by
 show(some_ ops (num ops s 4).1 (num ops s 4).2 []).2.ee=s.ee;rw[LV];rfl
theorem By {s:Ds} {x:Vl} (h:AL s.ee) (hx:x.args.length<=2):AL (put s x).ee:=λy a=>by
 have a:y∈s.ee++[x]:=a;rcases xX.1 a with b|b
 ·exact h y b
 ·rw[EB.1 b];exact hx
theorem yf{s:Ds}{x:Vl}(h:AL s.ee)(hx:x.args.length<=2):AL (il s x).ee:=By h hx
theorem Vu {s:Ds} {k a b:Nat} (h:AL s.ee):AL (qK ops s k a b).ee:=by
 have hs:AL (fw ops s).2.ee:=by rw[zU];exact h
 unfold qK;by_cases c:k<12
 ·rw[if_pos c];exact yf h (by simp[vl])
 rw[if_neg c];by_cases c:k=12
 ·rw[if_pos c];exact yf (s:=(num ops s 1048576).2) h (by simp[vl])
 rw[if_neg c];by_cases c:k=13
 ·rw[if_pos c];exact yf (s:=(num ops s 5).2) h (by simp[vl])
 rw[if_neg c];by_cases c:k=14
 ·rw[if_pos c];exact yf h (by simp[vl])
 rw[if_neg c];by_cases c:k=15
 ·rw[if_pos c];exact By (s:=(num ops s 5).2) h (by simp[vl])
 rw[if_neg c];by_cases c:k=16
 ·rw[if_pos c];exact By (s:=(fy ops s).2) h (by simp[vl])
 rw[if_neg c];by_cases c:k=17
 ·rw[if_pos c];exact By hs (by simp[vl])
 rw[if_neg c];by_cases c:k=18
 ·rw[if_pos c];exact By hs (by simp[vl])
 rw[if_neg c];exact yf (s:=(num ops s 2).2) h (by simp[vl])
theorem PQ{s:Ds}(h:AL s.ee):AL (su ops s).ee:=Vu h
theorem QS:∀(i:Nat) (s:Ds),AL s.ee->AL (rows ops i s).ee
 |0,_,h=>h
 | i+1,s,h=>by
   unfold rows;split
   ·exact QS i _ (PQ h)
   ·exact h
theorem CR{s:Ds}(h:AL s.ee):AL (row ops s).ee:=QS _ _ h
theorem BC {s:Ds} {v:Nat} {l:List Nat} (h:AL s.ee) (a:l.length<=2):AL (setArgs s v l).ee:=λy b=>by
 obtain⟨i,hi⟩:=mA.1 b;have hi:(s.ee.modify v λx=>{x with args:=l})[i]? =some y:=hi;rw[wB7]at hi
 cases hx:s.ee[i]? with
 |none=>rw[hx]at hi;cases hi
 | some x=>
   rw[hx]at hi;have hi:some (if v=i then{x with args:=l} else x)=some y:=hi;have:=Option.some.inj hi;subst this;split
   ·exact a
   ·exact h x (xQ hx)
theorem WS {t:Dt} (h:AL t.s.ee):AL (fork ops t).s.ee:=by
 unfold fork;refine CR (yf ?_ (by simp[vl]));refine CR (s:=(end_ _ _ _ _ _ _).s) ?_;exact CR (s:=(end_ _ _ _ _ _ _).s) h
theorem Wu {t:Dt} (h:AL t.s.ee):AL (we ops t).s.ee:=by
 unfold we;refine CR (s:=(end_ _ _ _ _ _ _).s) ?_;show AL (fw ops _).2.ee;rw[zU];exact CR (s:=(end_ _ _ _ _ _ _).s) h
theorem W4 {t:Dt} (h:AL t.s.ee):AL (loop ops t).s.ee:=by
 unfold loop;refine CR (s:=(end_ _ _ _ _ _ _).s) ?_;refine BC (s:=_) ?_ (by simp);have b:∀(a:Ds) (p:Nat) (l c:List Nat),l.length<=2->c.length<=2->AL a.ee->AL (if(num ops (setArgs a p l) 3).1=0 then setArgs (num ops (setArgs a p l) 3).2 p c else(num ops (setArgs a p l) 3).2).ee:=λa p l c d f e=>by
  split
  ·exact BC (s:=(num ops (setArgs a p l) 3).2) (BC e d) f
  ·exact BC e d
 refine b _ _ _ _ (by simp) (by simp) ?_;refine CR (s:=(end_ _ _ _ _ _ _).s) ?_;refine yf (By (By ?_ (by simp[vl])) (by simp[vl])) (by simp[vl]);rw[zU];refine By (s:=(fy ops _).2) ?_ (by simp[vl]);exact By (s:=(end_ _ _ _ _ _ _).s) h (by simp[vl])
theorem LI:∀(l:List Int) (t:Dt),AL t.s.ee->AL (kG ops l t).s.ee
 |[],_,h=>h
 | k ::l,t,h=>by
   unfold kG;split
   ·refine LI l _ ?_
    unfold sy;split
    ·exact WS h
    ·split
     ·exact W4 h
     ·exact Wu h
   ·exact h
theorem Me:∀(n i:Nat) (s:Ds),AL s.ee->AL (params n i s).ee
 |0,_,_,h=>h
 |n+1,i,s,h=>Me n (i+1) _ (yf h (by simp[vl]))
theorem V6 (ops a:List Int) (n:Int):AL (GG ops a n).ee:=by
 unfold GG;show AL (fw ops _).2.ee;rw[zU];refine LI _ _ ?_;exact CR (yf (Me _ _ _ (λ_ h=>nomatch h)) (by simp[vl]))
end
open Go.Proofs.YtpnddokajmjpbaaDoor.Dm
def Qe (nx:Nat->List Nat)(Cg:Int)(b:Nat):Prop:=∃l,Pt nx b l/\∀x∈l,(x:Int)≠Cg
theorem SL {nx:Nat->List Nat} {a b:Nat}:¬Qe nx (a:Int) b↔mg nx a b:=by
 constructor
 ·intro h l c;refine Classical.byContradiction λd=>h ⟨l,c,λx hx e=>d ?_⟩;have:x=a:=by omega
  rwa [this]at hx
 ·rintro h ⟨l,c,hx⟩;exact hx a (h l c) rfl
structure Wo (n:Nat) (nx:Nat->List Nat) (Cg:Int) (c:Option (Nat×Nat)) (seen:List Bool) (todo:List Nat):Prop where
 len:seen.length=n
 zero:seen[0]? =some true
 sound:∀v:Nat,seen[v]? =some true->Qe nx Cg v
 work:∀v∈todo,seen[v]? =some true
 closed:∀v:Nat,seen[v]? =some true->v∈todo\/∀(k t:Nat),(nx v)[k]? =some t->(t:Int)≠Cg->seen[t]? =some true\/∃j,c=some (v,j)/\j<=k
 less:todo.length+seen.count false<=n
theorem count_set {l:List Bool}:∀{v:Nat},l[v]? =some false->(l.set v true).count false+1=l.count false:=by
 induction l with
 |nil=>intro v h;simp at h
 | cons a l b=>
   intro v h
   cases v with
   | zero=>
     obtain rfl:a=false:=by simpa using h
     simp
   | succ v=>
     have:=b (v:=v) (by simpa using h);rw[kZ,List.count_cons,List.count_cons];omega
section
variable{n:Nat}{nx:Nat->List Nat}{Cg:Int}{seen:List Bool}{todo:List Nat}
theorem Wo.start (b:0<n) (h0:Cg≠0):Wo n nx Cg none ((List.replicate n false).set 0 true) [0]:=by
 have hs:∀v:Nat,((List.replicate n false).set 0 true)[v]? =some true->v=0:=λv hv=>by
  refine Classical.byContradiction λe=>?_;rw[AR λh=>e h.symm,VX]at hv;split at hv <;> cases hv
 have a:((List.replicate n false).set 0 true)[0]? =some true:=Ct (by simp;omega);refine⟨by simp,a,λv hv=>?_,λv hv=>?_,λv hv=> .inl (by rw[hs v hv];simp),?_⟩
 ·rw[hs v hv];exact⟨[0],.nil,λx hx=>by rw[EB.1 hx];omega⟩
 ·rw[EB.1 hv];exact a
 ·have:=count_set (l:=List.replicate n false) (v:=0) (by rw[VX,if_pos b]);rw[List.count_replicate_self]at this;simp only[ZO];omega
theorem Wo.pop {b:Nat} (w:Wo n nx Cg none seen (b::todo)):Wo n nx Cg (some (b,0)) seen todo/\Qe nx Cg b:=by
 have c:=w.less;rw[CM]at c;refine⟨⟨w.len,w.zero,w.sound,λv hv=>w.work v (by simp[hv]),λv hv=>?_,by omega⟩,w.sound b (w.work b (by simp))⟩;rcases w.closed v hv with h|h
 ·rcases CL.1 h with rfl|h
  ·exact .inr λk t _ _=> .inr ⟨0,rfl,by omega⟩
  ·exact .inl h
 ·refine .inr λk t d ht=> .inl ?_;rcases h k t d ht with a|⟨j,a,_⟩
  ·exact a
  ·cases a
theorem Wo.skip {b j t:Nat} (w:Wo n nx Cg (some (b,j)) seen todo) (ht:(nx b)[j]? =some t) (h:(t:Int)=Cg\/seen[t]? =some true):Wo n nx Cg (some (b,j+1)) seen todo:=by
 refine⟨w.len,w.zero,w.sound,w.work,λv hv=>?_,w.less⟩;rcases w.closed v hv with a|a
 ·exact .inl a
 ·refine .inr λk s c hs=>?_;rcases a k s c hs with d|⟨i,d,f⟩
  ·exact .inl d
  ·cases d;by_cases e:k=j
   ·subst e;rw[ht]at c;cases c;rcases h with h|h
    ·exact absurd h hs
    ·exact .inl h
   ·exact .inr ⟨j+1,rfl,by omega⟩
theorem Wo.push {b j t:Nat} (w:Wo n nx Cg (some (b,j)) seen todo) (ht:(nx b)[j]? =some t) (hb:Qe nx Cg b) (p:(t:Int)≠Cg) (o:seen[t]? =some false):Wo n nx Cg (some (b,j+1)) (seen.set t true) (todo++[t]):=by
 have c:=(iB.1 o).1;have a:(seen.set t true)[t]? =some true:=Ct c;have up:∀v:Nat,seen[v]? =some true->(seen.set t true)[v]? =some true:=λv hv=>by
  by_cases e:v=t
  ·rw[e];exact a
  ·rw[AR λh=>e h.symm];exact hv
 have down:∀v:Nat,(seen.set t true)[v]? =some true->v=t\/seen[v]? =some true:=λv hv=>by
  by_cases e:v=t
  ·exact .inl e
  ·rw[AR λh=>e h.symm]at hv;exact .inr hv
 refine⟨by rw[Nu];exact w.len,up 0 w.zero,λv hv=>?_,λv hv=>?_,λv hv=>?_,?_⟩
 ·rcases down v hv with rfl|h
  ·obtain ⟨l,q,hx⟩:=hb;exact⟨v::l,.step q (xQ ht),λx d=>by
    rcases CL.1 d with rfl|h
    ·exact p
    ·exact hx x h⟩
  ·exact w.sound v h
 ·rcases xX.1 hv with h|h
  ·exact up v (w.work v h)
  ·rw[EB.1 h];exact a
 ·rcases down v hv with rfl|h
  ·exact .inl (by simp)
  ·rcases w.closed v h with f|f
   ·exact .inl (by simp[f])
   ·refine .inr λk s g hs=>?_;rcases f k s g hs with m|⟨i,m,r⟩
    ·exact .inl (up s m)
    ·cases m;by_cases e:k=j
     ·subst e;rw[ht]at g;cases g;exact .inl a
     ·exact .inr ⟨j+1,rfl,by omega⟩
 ·have:=count_set o;have:=w.less;rw[zL,ZO];omega
theorem Wo.next {b:Nat} (w:Wo n nx Cg (some (b,(nx b).length)) seen todo):Wo n nx Cg none seen todo:=by
 refine⟨w.len,w.zero,w.sound,w.work,λv hv=>(w.closed v hv).imp id λh k t c ht=>?_,w.less⟩;rcases h k t c ht with a|⟨j,a,d⟩
 ·exact .inl a
 ·cases a;have:=(iB.1 c).1;omega
theorem Wo.all (w:Wo n nx Cg none seen []):∀{b:Nat} {l:List Nat},Pt nx b l->(∀x∈l,(x:Int)≠Cg)->seen[b]? =some true
 |_,_,.nil,_=>w.zero
 | _,_,.step (p:=p) h e,hx=>by
   have d:=w.all h λx h=>hx x (Mh _ h);obtain⟨k,f⟩:=mA.1 e;rcases w.closed p d with a|a
   ·cases a
   ·rcases a k _ f (hx _ (Sk ..))with c|⟨_,c,_⟩
    ·exact c
    ·cases c
theorem Wo.iff (w:Wo n nx Cg none seen []) (b:Nat):seen[b]? =some true↔Qe nx Cg b:=
 ⟨w.sound b,λ⟨_,a,c⟩=>w.all a c⟩
theorem SM {b:Nat} (h:Cg=0):¬Qe nx Cg b:=by
 rintro⟨l,a,hx⟩;have:0∈l:=by
  clear hx
  induction a with
  |nil=>exact .head _
  |step _ _ c=>exact .tail _ c
 exact hx 0 this (by omega)
end
open Go.Proofs.YtpnddokajmjpbaaDoor.Dm
def iM (op:Nat):Bool:=2<=op&&op<=16
theorem DL{op:Nat}:iM op=true↔2<=op/\op<=16:=by unfold iM;rw[tN,DY,DY]
def G5 (as:Nat->Int) (l:List Nat) (i:Nat):Int:=match l[i]? with
 |some w=>as w
 |none=>-1
def keyOf (as:Nat->Int)(x:Vl):Nat×Int×Int×Int:=(x.op,G5 as (gJ x) 0,G5 as (gJ x) 1,if x.op=2 then x.n else 0)
def Bc (u:U)(w v:Nat):Prop:=∃c j b k,At u w c j/\At u v b k/\(c=b/\j<k\/c≠b/\mg (next u) c b)
structure Mg (u:U) (as:Nat->Int):Prop where
 stay:∀(v:Nat) (x:Vl),u.ee[v]? =some x->iM x.op=false->as v=(v:Int)
 num:∀(v:Nat) (x:Vl),u.ee[v]? =some x->iM x.op=true->
  (as v=(v:Int)/\∀(w:Nat) (y:Vl),u.ee[w]? =some y->iM y.op=true->as w=(w:Int)->Bc u w v->keyOf as y≠keyOf as x)\/
  ∃(w:Nat) (y:Vl),as v=(w:Int)/\u.ee[w]? =some y/\iM y.op=true/\as w=(w:Int)/\Bc u w v/\keyOf as y=keyOf as x
section
variable{u:U}(g:Good u){as:Nat->Int}(d:Mg u as)
include d
theorem Mg.pos {v:Nat} (hv:v<u.ee.length):∃w:Nat,as v=(w:Int)/\w<u.ee.length/\as w=(w:Int)/\(w=v\/(Bc u w v/\∃y,u.ee[w]? =some y/\iM y.op=true)):=by
 have hx:=gQ hv
 cases hp:iM u.ee[v].op with
 |false=>have:=d.stay v _ hx hp;exact⟨v,this,hv,this,.inl rfl⟩
 | true=>
   rcases d.num v _ hx hp with⟨h,_⟩|⟨w,y,b,a,c,e,f,_⟩
   ·exact⟨v,h,hv,h,.inl rfl⟩
   ·exact⟨w,b,(iB.1 a).1,e,.inr ⟨f,y,a,c⟩⟩
include g
theorem Mg.fit (m:∀v,u.ee.length<=v->as v = -1):Fit u as:=by
 have lt:∀{v w:Nat},as v=(w:Int)->v<u.ee.length:=λ{v w} e=>by
  by_cases h:v<u.ee.length
  ·exact h
  ·have:=m v (by omega);omega
 have p:∀{v},v<u.ee.length->0<=as v:=λ{v} hv=>by obtain⟨w,h,_⟩:=d.pos hv;omega
 have gl:∀{w},tI u w->w<u.ee.length:=λ⟨_,h,_⟩=>(iB.1 h).1;have fl:∀{s fs},u.eh[s]? =some fs->∀w∈ie fs,w<u.ee.length:=λ{s fs} hs w a=>by
  unfold ie at a;obtain⟨f,t,a⟩:=Pp.1 a;obtain⟨_,_,n,q⟩:=(g.st s fs hs).2.2 f t;exact(xX.1 a).elim (λh=>gl (n w h)) λh=>gl (q w h)
 refine⟨λv hv _=>?_,λv w b k e i=>?_,λv w e z=>?_,λv x hx _ w a=>p (gl (g.use v x hx w a)),λ_ _ _ _ _ _ l w a=>p (fl l w a),λb B A q=>p ?_,λ_ _ _ _ _ l w a=>p (fl l w a)⟩
 ·obtain⟨w,n,q,o,_⟩:=d.pos hv;exact⟨w,n,q,o⟩
 ·obtain⟨w',n,_,_,r⟩:=d.pos (g.l0 _ _ _ i);obtain rfl:w=w':=by omega
  rcases r with rfl|⟨⟨c,j,H,k',C,D,E⟩,_⟩
  ·exact⟨b,k,i,.inl ⟨rfl,iW _⟩⟩
  ·obtain⟨rfl,rfl⟩:=g.EI _ _ _ _ _ i D;exact⟨c,j,C,E.imp (λh=>⟨h.1,YB h.2⟩) id⟩
 ·obtain⟨w',n,_,_,r⟩:=d.pos (lt e);obtain rfl:w=w':=by omega
  rcases r with rfl|⟨_,y,F,G⟩
  ·exact z
  ·refine⟨y,F,?_⟩;rw[DL]at G;unfold EM;rw[K6,DY];omega
 ·rcases g.fin b B A with⟨o,_⟩|⟨_,_,o⟩|⟨o,_⟩
  ·omega
  ·exact gl o
  ·omega
theorem T3 (D:∀v,u.ee.length<=v->as v = -1) {a b i j L M:Nat} {x y:Vl} (hx:(iR u as).ee[a]? =some x) (N:(iR u as).ee[b]? =some y) (hp:iM x.op=true) (O:a≠b) (ho:x.op=y.op) (hn:x.op=2->x.n=y.n) (P:gJ x=gJ y)
  (ha:At (iR u as) a L i) (hb:At (iR u as) b M j) (Z:mg (next (iR u as)) L M):False:=by
 have f:=d.fit g D;obtain⟨v,o,Q,R,rfl,h4⟩:=BE g hx;obtain⟨w,m,k1,S,rfl,k4⟩:=BE g N;obtain⟨v',i',I,p2,_,p4,p5⟩:=Ba g ha;obtain⟨w',j',J,q2,_,q4,q5⟩:=Ba g hb;rw[Q]at p5;cases p5;rw[k1]at q5;cases q5;have s:v≠w:=λe=>by
  subst e;exact O (p7 (Ae g) Q k1)
 have t:iM o.op=true:=hp;have E:o.op=m.op:=ho;have F:iM m.op=true:=by rw[<-E];exact t
 have sv:as v=(v:Int):=by unfold stays at h4;rwa [CN]at h4
 have sw:as w=(w:Int):=by unfold stays at k4;rwa [CN]at k4
 rw [I0]at Z;have G:keyOf as o=keyOf as m:=by
  rw[Nn,Nn]at P;have hl:(gJ o).length=(gJ m).length:=by have:=congrArg List.length P;simpa using this
  have e:∀n,G5 as (gJ o) n=G5 as (gJ m) n:=λn=>by
   unfold G5
   cases hq:(gJ o)[n]? with
   | none=>
     rw[List.getElem?_eq_none_iff]at hq
     rw[List.getElem?_eq_none_iff.2 (show(gJ m).length<=n by omega)]
   | some p=>
     obtain ⟨aa,ab⟩:=iB.1 hq;have A:(gJ m)[n]? =some (gJ m)[n]:=gQ (by omega);rw[A];simp only;have lx:p<u.ee.length:=by
       obtain⟨_,h,_⟩:=g.use v o R p (xQ hq);exact(iB.1 h).1
     have ly:(gJ m)[n]<u.ee.length:=by
       obtain⟨_,h,_⟩:=g.use w m S _ (xQ A);exact(iB.1 h).1
     obtain⟨r,r1,r2,r3⟩:=Ol g f lx (by obtain⟨z,h,_⟩:=d.pos lx;omega);obtain⟨r',T,U,V⟩:=Ol g f ly (by obtain⟨z,h,_⟩:=d.pos ly;omega);have H:=congrArg (λl=>l[n]?) P;simp only[wq,hq,A,Option.map_some]at H;have H:=Option.some.inj H;rw[r3,V]at H;rw[r1,T,Xx r2 U H]
  unfold keyOf;rw[e 0,e 1,E];by_cases q:m.op=2
  ·rw[if_pos q,if_pos q];have W:o.n=m.n:=hn (by show o.op=2;omega);rw[W]
  ·rw[if_neg q,if_neg q]
 have C:Bc u v w\/Bc u w v:=by
  by_cases e:L=M
  ·subst e;rcases V2 i' j' with h|h|h
   ·exact .inl ⟨_,_,_,_,I,J,.inl ⟨rfl,h⟩⟩
   ·subst h;obtain⟨B,X,Y⟩:=I;obtain⟨B',K,g4⟩:=J;rw[X]at K;cases K;rw[Y]at g4;exact absurd (Option.some.inj g4) s
   ·exact .inr ⟨_,_,_,_,J,I,.inl ⟨rfl,h⟩⟩
  ·exact .inl ⟨_,_,_,_,I,J,.inr ⟨e,Z⟩⟩
 have one:∀{v w:Nat} {x y:Vl},u.ee[v]? =some x->u.ee[w]? =some y->iM x.op=true->iM y.op=true->as v=(v:Int)->as w=(w:Int)->v≠w->keyOf as x=keyOf as y->Bc u v w->False:=by
  intro v w x y hx N px py sv sw ac hk hf;rcases d.num w y N py with⟨_,h⟩|⟨w',_,Q,_,_,_,h5,_⟩
  ·exact h v x hx px sv hf hk
  ·obtain rfl:w=w':=by omega
   obtain⟨c,j,b,k,X,Y,K⟩:=h5;obtain⟨rfl,rfl⟩:=g.EI _ _ _ _ _ X Y;rcases K with h|h
   ·omega
   ·exact h.1 rfl
 rcases C with h|h
 ·exact one R S t F sv sw s G h
 ·exact one S R F t sw sv s.symm G.symm h
end
open Go.Proofs.YtpnddokajmjpbaaDoor.Dm
abbrev mb:=Nat×Int×Int×Int
theorem tz {as a:Nat->Int} {x:Vl} (h:∀w∈gJ x,a w=as w):keyOf a x=keyOf as x:=by
 have e:∀n,G5 a (gJ x) n=G5 as (gJ x) n:=λn=>by
  unfold G5
  cases hq:(gJ x)[n]? with
  |none=>rfl
  |some p=>exact h p (xQ hq)
 unfold keyOf;rw[e 0,e 1]
def KR (u:U) (P O:Nat->Prop) (as:Nat->Int) (k:mb) (w:Nat):Prop:=
 ∃y c i,P w/\u.ee[w]? =some y/\iM y.op=true/\as w=(w:Int)/\At u w c i/\O c/\keyOf as y=k
structure NW (u:U) (P O:Nat->Prop) (as:Nat->Int) (S:mb->Option Nat):Prop where
 stay:∀v,v<u.ee.length->¬P v->as v=(v:Int)
 imp:∀(v:Nat) (x:Vl),u.ee[v]? =some x->iM x.op=false->as v=(v:Int)
 num:∀(v:Nat) (x:Vl),P v->u.ee[v]? =some x->iM x.op=true->
  (as v=(v:Int)/\∀(w:Nat) (y:Vl),u.ee[w]? =some y->iM y.op=true->as w=(w:Int)->Bc u w v->keyOf as y≠keyOf as x)\/
  ∃(w:Nat) (y:Vl),as v=(w:Int)/\u.ee[w]? =some y/\iM y.op=true/\as w=(w:Int)/\Bc u w v/\keyOf as y=keyOf as x
 closed:∀v w,P v->Bc u w v->P w
 known:∀k w,S k=some w↔KR u P O as k w
def Bb (u:U)(P:Nat->Prop)(as:Nat->Int)(c:Nat)(l:List mb):Prop:=∀k,k∈l↔∃w,KR u P (·= c) as k w
def Pv (u:U)(G8:Nat->Prop)(b k v:Nat):Prop:=∃c i,At u v c i/\(G8 c\/c=b/\i<k)
section
variable{u:U}(g:Good u){G8 O:Nat->Prop}{as:Nat->Int}{S:mb->Option Nat}{b k v:Nat}{x:Vl}
include g
theorem Fg {w p c i:Nat} {y:Vl} (a:At u w c i) (b:u.ee[w]? =some y) (d:iM y.op=true) (h:p∈gJ y):Bc u p w:=by
 rw[DL]at d;obtain⟨c',j,e,f⟩:=g.IB w c i y a b (by omega) p h;exact⟨c',j,c,i,e,a,f⟩
theorem NW.part {P:Nat->Prop} (n:NW u P O as S) {w p:Nat} {y:Vl} (b:P w) (a:u.ee[w]? =some y) (d:iM y.op=true) (h:p∈gJ y):P p:=by
 obtain⟨c,i,hc⟩:=g.AB w (iB.1 a).1;exact n.closed w p b (Fg g hc a d h)
theorem Bd (hb:¬G8 b) (hv:At u v b k) (Dz:∀c,c≠b->mg (next u) c b->G8 c) {w:Nat} (h:Bc u w v):Pv u G8 b k w:=by
 obtain⟨c,j,i,k',d,e,a⟩:=h;obtain⟨rfl,rfl⟩:=g.EI _ _ _ _ _ hv e;rcases a with⟨rfl,a⟩|⟨a,f⟩
 ·exact⟨c,j,d,.inr ⟨rfl,a⟩⟩
 ·exact⟨c,j,d,.inl (Dz c a f)⟩
theorem FV (hb:¬G8 b) (hv:At u v b k):¬Pv u G8 b k v:=λ⟨c,i,d,a⟩=>by
 obtain⟨rfl,rfl⟩:=g.EI _ _ _ _ _ hv d;rcases a with a|a
 ·exact hb a
 ·omega
omit g in
theorem yh (hv:At u v b k) (w:Nat):Pv u G8 b (k+1) w↔Pv u G8 b k w\/w=v:=by
 constructor
 ·rintro⟨c,i,h1,h2|⟨rfl,h2⟩⟩
  ·exact .inl ⟨c,i,h1,.inl h2⟩
  ·by_cases e:i=k
   ·subst e;obtain⟨B,e1,e2⟩:=h1;obtain⟨B',e3,e4⟩:=hv;rw[e1]at e3;cases e3;rw[e2]at e4;cases e4;exact .inr rfl
   ·exact .inl ⟨c,i,h1,.inr ⟨rfl,by omega⟩⟩
 ·rintro(⟨c,i,h1,h2⟩|rfl)
  ·exact⟨c,i,h1,h2.imp id λh=>⟨h.1,by omega⟩⟩
  ·exact⟨b,k,hv,.inr ⟨rfl,by omega⟩⟩
theorem NW.step (n:NW u (Pv u G8 b k) O as S) (hb:¬G8 b) (hv:At u v b k) (hx:u.ee[v]? =some x) (Dz:∀c,c≠b->mg (next u) c b->G8 c) {l:Nat->Int} (G:∀w,w≠v->l w=as w) {S':mb->Option Nat}
  (J:iM x.op=false->l v=(v:Int))
  (K:iM x.op=true->(l v=(v:Int)/\∀(w:Nat) (y:Vl),u.ee[w]? =some y->iM y.op=true->as w=(w:Int)->Bc u w v->keyOf as y≠keyOf as x)\/
   ∃(w:Nat) (y:Vl),l v=(w:Int)/\u.ee[w]? =some y/\iM y.op=true/\as w=(w:Int)/\Bc u w v/\keyOf as y=keyOf as x)
  (N:∀D w,S' D=some w↔S D=some w\/(w=v/\iM x.op=true/\l v=(v:Int)/\O b/\keyOf as x=D)):NW u (Pv u G8 b (k+1)) O l S':=by
 have M:=FV g hb hv;have m:∀w,Pv u G8 b k w->l w=as w:=λw f=>G w λe=>M (e▸f);have a:∀{w y},Pv u G8 b k w->u.ee[w]? =some y->iM y.op=true->keyOf l y=keyOf as y:=λf B s=>tz λp o=>m p (n.part g f B s o);have t:iM x.op=true->keyOf l x=keyOf as x:=λs=>tz λp o=>m p (Bd g hb hv Dz (Fg g hv hx s o));refine⟨λw P f=>?_,λw y B s=>?_,λw y f B s=>?_,λw w' f E=>?_,λD w=>?_⟩
 ·rw[yh hv]at f;rw[G w λe=>f (.inr e)];exact n.stay w P λh=>f (.inl h)
 ·by_cases e:w=v
  ·subst e;rw[hx]at B;cases B;exact J s
  ·rw[G w e];exact n.imp w y B s
 ·rw [yh hv]at f;rcases f with f|rfl
  ·rw[m w f,a f B s];rcases n.num w y f B s with⟨j,q⟩|⟨w',H,j,q,r,z,C,F⟩
   ·refine .inl ⟨j,λw' H A o L E=>?_⟩;have d:=n.closed w w' f E;rw[a d A o];rw[m w' d]at L;exact q w' H A o L E
   ·have d:=n.closed w w' f C;exact .inr ⟨w',H,j,q,r,by rw[m w' d];exact z,C,by rw[a d q r];exact F⟩
  ·rw[hx]at B;cases B;rw[t s];rcases K s with⟨j,q⟩|⟨w',H,j,q,r,z,C,F⟩
   ·refine .inl ⟨j,λw' H A o L E=>?_⟩;have d:=Bd g hb hv Dz E;rw[a d A o];rw[m w' d]at L;exact q w' H A o L E
   ·have d:=Bd g hb hv Dz C;exact .inr ⟨w',H,j,q,r,by rw[m w' d];exact z,C,by rw[a d q r];exact F⟩
 ·rw[yh hv]at f⊢;rcases f with f|rfl
  ·exact .inl (n.closed w w' f E)
  ·exact .inl (Bd g hb hv Dz E)
 ·rw [N,n.known];constructor
  ·rintro(⟨y,c,i,j,q,r,z,C,F,I⟩|⟨rfl,j,q,r,z⟩)
   ·exact⟨y,c,i,(yh hv w).2 (.inl j),q,r,by rw[m w j];exact z,C,F,by rw[a j q r];exact I⟩
   ·exact⟨x,b,k,(yh hv w).2 (.inr rfl),hx,j,q,hv,r,by rw[t j];exact z⟩
  ·rintro⟨y,c,i,j,q,r,z,C,F,I⟩;rcases(yh hv w).1 j with j|rfl
   ·rw[m w j]at z;rw[a j q r]at I;exact .inl ⟨y,c,i,j,q,r,z,C,F,I⟩
   ·rw[hx]at q;cases q;obtain⟨rfl,rfl⟩:=g.EI _ _ _ _ _ hv C;rw[t r]at I;exact .inr ⟨rfl,r,z,F,I⟩
section
variable (n:NW u (Pv u G8 b k) O as S)(hb:¬G8 b)(hv:At u v b k)(hx:u.ee[v]? =some x)(Dz:∀c,c≠b->mg (next u) c b->G8 c)(hO:∀c,O c↔mg (next u) c b)
include n hb hv hx Dz
theorem NW.skip (a:iM x.op=false):NW u (Pv u G8 b (k+1)) O as S:=
 n.step g hb hv hx Dz (λ_ _=>rfl) (λ_=>n.stay v (g.l0 v b k hv) (FV g hb hv)) (λh=>by rw[a]at h;cases h) λc w=>⟨.inl,λh=>h.elim id λh=>by rw[a]at h;cases h.2.1⟩
include hO
theorem NW.there (q:iM x.op=true) {w:Nat} (hs:S (keyOf as x)=some w) {a:Nat->Int} (m:a v=(w:Int)) (f:∀w,w≠v->a w=as w):NW u (Pv u G8 b (k+1)) O a S:=by
 have j:=FV g hb hv;obtain⟨y,c,i,o,r,s,t,p,z,A⟩:=(n.known _ _).1 hs;have l:w≠v:=λe=>j (e▸o);refine n.step g hb hv hx Dz f (λh=>by rw[q]at h;cases h) (λ_=> .inr ⟨w,y,m,r,s,t,⟨c,i,b,k,p,hv,?_⟩,A⟩) λB w'=>⟨.inl,λh=>h.elim id λh=>?_⟩
 ·by_cases e:c=b
  ·subst e;obtain⟨c',E,C,d⟩:=o;obtain⟨rfl,rfl⟩:=g.EI _ _ _ _ _ p C;rcases d with d|d
   ·exact absurd d hb
   ·exact .inl ⟨rfl,d.2⟩
  ·exact .inr ⟨e,(hO c).1 z⟩
 ·obtain⟨rfl,_,D,_⟩:=h;rw[m]at D;exact absurd (by omega) l
theorem NW.fresh (l:iM x.op=true) (hs:S (keyOf as x)=none) {S':mb->Option Nat} (m:S' (keyOf as x)=some v) (o:∀k,k≠keyOf as x->S' k=S k):NW u (Pv u G8 b (k+1)) O as S':=by
 have a:=n.stay v (g.l0 v b k hv) (FV g hb hv);refine n.step g hb hv hx Dz (λ_ _=>rfl) (λ_=>a) (λ_=> .inl ⟨a,λw y p f q i r=>?_⟩) λd w=>?_
 ·have s:=Bd g hb hv Dz i;obtain⟨c,j,t,k',a1,a2,a3⟩:=i;obtain⟨rfl,rfl⟩:=g.EI _ _ _ _ _ hv a2;have:S (keyOf as x)=some w:=(n.known _ _).2 ⟨y,c,j,s,p,f,q,a1,(hO c).2 (a3.elim (λh=>by rw[h.1];exact mg.self _ _) λh=>h.2),r⟩;rw[hs]at this;cases this
 ·by_cases e:d=keyOf as x
  ·subst e;rw[m,hs];exact⟨λh=> .inr ⟨(Option.some.inj h).symm,l,a,(hO b).2 (mg.self _ _),rfl⟩,λh=>h.elim (λh=>nomatch h) λh=>by rw[h.1]⟩
  ·rw[o d e];exact⟨.inl,λh=>h.elim id λh=>absurd h.2.2.2.2.symm e⟩
end
theorem Bb.step {c:Nat} {l:List mb} (a:Bb u (Pv u G8 b k) as c l) (hb:¬G8 b) (hv:At u v b k) (hx:u.ee[v]? =some x) (r:∀w y,Pv u G8 b k w->u.ee[w]? =some y->iM y.op=true->∀p∈gJ y,Pv u G8 b k p) (s:iM x.op=true->∀p∈gJ x,Pv u G8 b k p) {j:Nat->Int} (A:∀w,w≠v->j w=as w)
  {C:List mb} (D:∀h,h∈C↔h∈l\/(c=b/\iM x.op=true/\j v=(v:Int)/\keyOf as x=h)):Bb u (Pv u G8 b (k+1)) j c C:=by
 have B:=FV g hb hv;have d:∀w,Pv u G8 b k w->j w=as w:=λw E=>A w λe=>B (e▸E);intro h;rw[D,a h];constructor
 ·rintro(⟨w,y,c',i,f,m,n,t,z,rfl,q⟩|⟨rfl,f,m,n⟩)
  ·exact⟨w,y,c',i,(yh hv w).2 (.inl f),m,n,by rw[d w f];exact t,z,rfl,by rw[tz λp o=>d p (r w y f m n p o)];exact q⟩
  ·exact⟨v,x,c,k,(yh hv v).2 (.inr rfl),hx,f,m,hv,rfl,by rw[tz λp o=>d p (s f p o)];exact n⟩
 ·rintro⟨w,y,c',i,f,m,n,t,z,rfl,q⟩;rcases(yh hv w).1 f with f|rfl
  ·rw[d w f]at t;rw[tz λp o=>d p (r w y f m n p o)]at q;exact .inl ⟨w,y,c',i,f,m,n,t,z,rfl,q⟩
  ·rw[hx]at m;cases m;obtain⟨rfl,rfl⟩:=g.EI _ _ _ _ _ hv z;rw[tz λp o=>d p (s n p o)]at q;exact .inr ⟨rfl,n,t,q⟩
end
open Go.Proofs.YtpnddokajmjpbaaDoor.Dm
def kd (u:U)(I:Nat->Nat)(b:Nat):List Nat:=(List.range u.blocks.length).filter λt=>t != 0&&I t == b
theorem KJ {u:U} {I:Nat->Nat} {b t:Nat}:t∈kd u I b↔t<u.blocks.length/\t≠0/\I t=b:=by
 unfold kd;rw[NA,Px,tN,Pk,CN]
theorem Vn (u:U)(I:Nat->Nat)(b:Nat):(kd u I b).Nodup:=List.nodup_range.filter _
def Pl (u:U)(vl:List Nat)(v:Nat):Prop:=∃c i,At u v c i/\c∈vl
theorem Mm{u:U}{vl:List Nat}{b:Nat}:Pv u (·∈vl) b 0=Pl u vl:=funext λ_=>propext ⟨λ⟨c,i,a,d⟩=>⟨c,i,a,d.elim id λh=>by omega⟩,λ⟨c,i,a,d⟩=>⟨c,i,a,.inl d⟩⟩
theorem Zi {u:U} {vl:List Nat} {b:Nat} {B:Bk} (f:u.blocks[b]? =some B):Pv u (·∈vl) b B.ee.length=Pl u (b::vl):=funext λv=>propext ⟨λ⟨c,i,a,d⟩=>⟨c,i,a,CL.2 (d.elim .inr λh=> .inl h.1)⟩,λ⟨c,i,a,d⟩=>⟨c,i,a,(CL.1 d).elim (λh=> .inr ⟨h,by
  subst h;obtain⟨j,e,g⟩:=a;rw[f]at e;cases e;exact(iB.1 g).1⟩) .inl⟩⟩
theorem KR.mono{u:U}{P O a:Nat->Prop}{as:Nat->Int}{k:mb}{w:Nat}(h:∀c,O c->a c):KR u P O as k w->KR u P a as k w:=λ⟨y,c,i,b,d,e,f,g,j,l⟩=>⟨y,c,i,b,d,e,f,g,h c j,l⟩
structure NS (u:U) (I:Nat->Nat) (as:Nat->Int) (S:mb->Option Nat) (st:List (Nat×Nat×List mb)) (vl:List Nat):Prop where
 nw:NW u (Pl u vl) (λc=>c∈st.map (·.1)) as S
 add:∀f∈st,Bb u (Pl u vl) as f.1 f.2.2
 nd:vl.Nodup
 vlt:∀b∈vl,b<u.blocks.length
 par:∀t∈vl,t≠0->I t∈vl
 cl:∀b∈vl,b ∉ st.map (·.1)->∀t∈kd u I b,t∈vl
 fr:∀f∈st,f.2.1<=(kd u I f.1).length/\∀(j t:Nat),(kd u I f.1)[j]? =some t->(t∈vl↔j<f.2.1)
 sv:∀f∈st,f.1∈vl
 sn:(st.map (·.1)).Nodup
 ch:∀pre f post,st=pre++f::post->∀c,c∈pre.map (·.1)\/c=f.1↔ot I c f.1
 zero:0∈vl
section
variable{u:U}{I:Nat->Nat}{as:Nat->Int}{S:mb->Option Nat}{pre st:List (Nat×Nat×List mb)}{vl:List Nat}{b m:Nat}{l:List mb}
theorem NS.pop (g:Good u) (n:NS u I as S (pre++[(b,m,l)]) vl) (E:m=(kd u I b).length) {S':mb->Option Nat} (C:∀k,S' k=if k∈l then none else S k):NS u I as S' pre vl:=by
 have a:=n.sn;rw[EV,Qh]at a;have hb:b ∉ pre.map (·.1):=λh=>a.2.2 b h b (by simp) rfl;have hi:∀{f},f∈pre->f∈pre++[(b,m,l)]:=λh=>LC _ h;have v:(b,m,l)∈pre++[(b,m,l)]:=XU _ (by simp);refine⟨⟨n.nw.stay,n.nw.imp,n.nw.num,n.nw.closed,λk w=>?_⟩,λf h=>n.add f (hi h),n.nd,n.vlt,n.par,λc hc D t ht=>?_,λf h=>n.fr f (hi h),λf h=>n.sv f (hi h),a.1,λp f q e=>n.ch p f (q++[(b,m,l)]) (by rw[e];simp),n.zero⟩
 ·rw [C];by_cases hk:k∈l
  ·rw[if_pos hk];obtain⟨w',o⟩:=(n.add _ v k).1 hk;have s:=(n.nw.known k w').2 (o.mono λc hc=>by rw[hc];simp);refine⟨λh=>(nomatch h),λh=>?_⟩;have r:=(n.nw.known k w).2 (h.mono λc hc=>by rw[EV];exact LC _ hc);rw[s]at r;cases r;obtain⟨_,c,i,_,_,_,_,a1,a2,_⟩:=o;obtain⟨_,c',F,_,_,_,_,b1,b2,_⟩:=h;obtain⟨rfl,rfl⟩:=g.EI _ _ _ _ _ a1 b1;subst a2;exact absurd b2 hb
  ·rw [if_neg hk,n.nw.known];constructor
   ·rintro⟨y,c,i,o,s,r,x,z,d,A⟩;refine⟨y,c,i,o,s,r,x,z,?_,A⟩;rw[EV]at d;rcases xX.1 d with d|d
    ·exact d
    ·obtain rfl:c=b:=by simpa using d
     exact absurd ((n.add _ v k).2 ⟨w,y,c,i,o,s,r,x,z,rfl,A⟩) hk
   ·exact KR.mono λc hc=>by rw[EV];exact LC _ hc
 ·by_cases e:c=b
  ·subst e;obtain⟨j,B⟩:=mA.1 ht;have:=(iB.1 B).1;exact((n.fr _ v).2 j t B).2 (by show j<m;omega)
  ·exact n.cl c hc (λh=>by rw[EV]at h;exact(xX.1 h).elim D λh=>e (by simpa using h)) t ht
section
variable (n:NS u I as S (pre++[(b,m,l)]) vl){t:Nat}(ht:(kd u I b)[m]? =some t)
include n ht
theorem NS.new:t ∉ vl/\t<u.blocks.length/\t≠0/\I t=b:=by
 have a:=(n.fr (b,m,l) (XU _ (by simp))).2 m t ht;obtain⟨c,d,e⟩:=KJ.1 (xQ ht);exact⟨λh=>by have:=a.1 h;exact absurd this (Pj _),c,d,e⟩
theorem NS.Xj (c:Nat):(c∈(pre++[(b,m,l)]).map (·.1)\/c=t)↔ot I c t:=by
 obtain ⟨_,_,d,a⟩:=n.new ht;have h:=n.ch pre (b,m,l) [] rfl c;have h':c∈(pre++[(b,m,l)]).map (·.1)↔ot I c b:=by
  rw[<-h,EV,xX];simp
 rw[h'];constructor
 ·rintro(h|rfl)
  ·exact .up d (by rw[a];exact h)
  ·exact .refl _
 ·intro h
  cases h with
  |refl=>exact .inr rfl
  |up _ h=>rw[a]at h;exact .inl h
theorem NS.ready (g:Good u):NW u (Pv u (·∈vl) t 0) (λc=>c∈(pre++[(b,m,l)]).map (·.1)\/c=t) as S:=by
 rw[Mm];obtain⟨d,_⟩:=n.new ht;refine⟨n.nw.stay,n.nw.imp,n.nw.num,n.nw.closed,λk w=>?_⟩;rw[n.nw.known];refine⟨KR.mono λ_=> .inl,λ⟨y,c,i,a1,a2,a3,f,a,h,j⟩=>⟨y,c,i,a1,a2,a3,f,a,h.elim id λe=>?_,j⟩⟩;subst e;obtain⟨c',o,b1,b2⟩:=a1;obtain⟨rfl,rfl⟩:=g.EI _ _ _ _ _ a b1;exact absurd b2 d
theorem NS.push (g:Good u) {i:Nat->Int} {S':mb->Option Nat} {r:List mb} (V:NW u (Pl u (t::vl)) (λc=>c∈(pre++[(b,m,l)]).map (·.1)\/c=t) i S') (W:Bb u (Pl u (t::vl)) i t r) (S:∀c l,c≠t->Bb u (Pl u vl) as c l->Bb u (Pl u (t::vl)) i c l) :
  NS u I i S' (pre++[(b,m+1,l)]++[(t,0,r)]) (t::vl):=by
 obtain⟨C,X,t3,F⟩:=n.new ht;have G:(b,m,l)∈pre++[(b,m,l)]:=XU _ (by simp);have v:=n.sn;have D:=v;rw[EV,Qh]at v;have hb:b ∉ pre.map (·.1):=λh=>v.2.2 b h b (by simp) rfl;have w:b∈vl:=n.sv _ G;have o:∀c,c∈(pre++[(b,m+1,l)]++[(t,0,r)]:List (Nat×Nat×List mb)).map (·.1)↔c∈(pre++[(b,m,l)]).map (·.1)\/c=t:=λc=>by simp[or_assoc]
 have H:t ∉ (pre++[(b,m,l)]).map (·.1):=λh=>by
  obtain⟨f,A,J⟩:=K2.1 h;exact C (J▸n.sv f A)
 have d:∀{P:Nat×Nat×List mb->Prop},(∀f∈pre,P f)->P (b,m+1,l)->P (t,0,r)->∀f∈pre++[(b,m+1,l)]++[(t,0,r)],P f:=λA J Y f a=>by
  rcases xX.1 a with a|a
  ·rcases xX.1 a with a|a
   ·exact A f a
   ·rw[EB.1 a];exact J
  ·rw[EB.1 a];exact Y
 have hi:∀{f},f∈pre->f∈pre++[(b,m,l)]:=λh=>LC _ h;have K:∀{f},f∈pre->f.1≠t:=λh e=>C (e▸n.sv _ (hi h));have L:∀{f},f∈pre->f.1≠b:=λh e=>hb (e▸List.mem_map_of_mem h);have E:b≠t:=λe=>C (e▸w);refine⟨?_,d (λf a=>S _ _ (K a) (n.add f (hi a))) (show Bb u (Pl u (t::vl)) i b l from S _ _ E (n.add _ G)) W,ZY.2 ⟨C,n.nd⟩,λc hc=>(CL.1 hc).elim (λe=>e▸X) (n.vlt c),λc hc h0=>?_,λc hc M s hs=>?_,d (λf a=>⟨(n.fr f (hi a)).1,λj s k=>?_⟩) ⟨?_,λj s k=>?_⟩ ⟨Gl _,λj s k=>?_⟩,d (λf a=>Mh _ (n.sv f (hi a))) (Mh _ w) (by simp),?_,λp f q e c=>?_,Mh _ n.zero⟩
 ·have:(λc=>c∈(pre++[(b,m+1,l)]++[(t,0,r)]:List (Nat×Nat×List mb)).map (·.1))=λc=>c∈(pre++[(b,m,l)]).map (·.1)\/c=t:=funext λc=>propext (o c);rw[this];exact V
 ·rcases CL.1 hc with rfl|hc
  ·rw[F];exact Mh _ w
  ·exact Mh _ (n.par c hc h0)
 ·rw[o]at M;rcases CL.1 hc with rfl|hc
  ·exact absurd (.inr rfl) M
  ·exact Mh _ (n.cl c hc (λh=>M (.inl h)) s hs)
 ·have A:=(n.fr f (hi a)).2 j s k;rw[<-A,CL];refine⟨λh=>h.elim (λe=>?_) id,.inr⟩;subst e;have:=(KJ.1 (xQ k)).2.2;exact absurd (this.symm.trans F) (L a)
 ·exact(iB.1 ht).1
 ·have A:=(n.fr _ G).2 j s k;show s∈t::vl↔j<m+1;rw[CL,A];constructor
  ·rintro(rfl|h)
   ·rw[p7 (Vn u I b) k ht];omega
   ·have:j<m:=h;omega
  ·intro h;by_cases e:j=m
   ·subst e;rw[ht]at k;cases k;exact .inl rfl
   ·exact .inr (show j<m by omega)
 ·obtain⟨s1,Z,T⟩:=KJ.1 (xQ k);refine⟨λh=>?_,λh=>absurd h (Y5 _)⟩;rcases CL.1 h with rfl|h
  ·exact absurd (T.symm.trans F) E.symm
  ·exact absurd (show t∈vl from(show I s=t from T)▸n.par s h Z) C
 ·rw[EV,Qh];have e:(pre++[(b,m+1,l)]:List (Nat×Nat×List mb)).map (·.1)=(pre++[(b,m,l)]).map (·.1):=by simp
  rw[e];refine⟨D,by simp,λx hx y hy=>?_⟩;obtain rfl:y=t:=by simpa using hy
  exact λe=>H (e▸hx)
 ·rcases List.eq_nil_or_concat q with rfl|⟨N,z,rfl⟩
  ·obtain⟨O,Q⟩:=List.append_inj' e rfl;cases Q;rw[<-O,<-n.Xj ht c];simp
  ·have U:pre++[(b,m+1,l)]=p++f::N:=by
    have:pre++[(b,m+1,l)]++[(t,0,r)]=(p++f::N)++[z]:=by rw[e];simp
    exact(List.append_inj' this rfl).1
   rcases List.eq_nil_or_concat N with rfl|⟨B,z',rfl⟩
   ·obtain⟨O,Q⟩:=List.append_inj' U rfl;cases Q;subst O;exact n.ch pre (b,m,l) [] rfl c
   ·have R:pre=p++f::B:=by
     have:pre++[(b,m+1,l)]=(p++f::B)++[z']:=by rw[U];simp
     exact(List.append_inj' this rfl).1
    exact n.ch p f (B++[(b,m,l)]) (by rw[R];simp) c
end
theorem nw0 (u:U) {as:Nat->Int} (h:∀v,v<u.ee.length->as v=(v:Int)):NW u (Pv u (·∈([]:List Nat)) 0 0) (λc=>c=0) as (λ_=>none):=by
 have b:∀v,¬Pv u (·∈([]:List Nat)) 0 0 v:=λv ⟨c,i,_,a⟩=>by
  rcases a with a|a
  ·cases a
  ·omega
 exact⟨λv hv _=>h v hv,λv x hx _=>h v (iB.1 hx).1,λv _ hv=>absurd hv (b v),λv _ hv=>absurd hv (b v),λk w=>⟨λh=>(nomatch h),λ⟨_,_,_,d,_⟩=>absurd d (b w)⟩⟩
theorem Yl{nx:Nat->List Nat}{c:Nat}:c=0↔mg nx c 0:=⟨λh=>h▸mg.self _ _,λh=>by simpa using h [0] .nil⟩
theorem NS.start (g:Good u) {l:List mb} (i:NW u (Pl u [0]) (λc=>c=0) as S) (k:Bb u (Pl u [0]) as 0 l) (p:∀b,b≠0->b<u.blocks.length->I b≠b):NS u I as S [(0,0,l)] [0]:=by
 have nb:=g.Ju;refine⟨?_,λf d=>by rw[EB.1 d];exact k,by simp,λb hb=>by rw[EB.1 hb];omega,λt ht h0=>absurd (EB.1 ht) h0,λb hb m=>?_,λf d=>?_,λf d=>by rw[EB.1 d];simp,by simp,λpre f post e c=>?_,by simp⟩
 ·have:(λc=>c∈[((0:Nat),(0:Nat),l)].map (·.1))=λc=>c=0:=funext λc=>propext (by simp);rw[this];exact i
 ·exact absurd (by simpa using hb) m
 ·rw[EB.1 d];refine⟨Gl _,λj t n=>⟨λh=>?_,λh=>absurd h (Y5 _)⟩⟩;exact absurd (EB.1 h) (KJ.1 (xQ n)).2.1
 ·have o:pre=[]:=by
   cases pre with
   |nil=>rfl
   |cons a pre=>simp at e
  subst o;obtain⟨rfl,rfl⟩:=List.cons.inj e;refine⟨λh=>h.elim (λh=>by simp at h) λh=>h▸ .refl _,λh=>?_⟩
  cases h with
  |refl=>exact .inr rfl
  |up h0 _=>exact absurd rfl h0
theorem NS.done (g:Good u) {G:Gr} (a:Tree G I (λb=>b<u.blocks.length)) (n:NS u I as S [] vl):Mg u as:=by
 have all:∀k b,G.place b<=k->b<u.blocks.length->b∈vl:=by
  intro k
  induction k with
  | zero=>
    intro b c hb;by_cases h0:b=0
    ·subst h0;exact n.zero
    ·have:=(a.up b hb h0).2;omega
  | succ k d=>
    intro b c hb;by_cases h0:b=0
    ·subst h0;exact n.zero
    ·obtain⟨e,j⟩:=a.up b hb h0
     exact n.cl _ (d (I b) (by omega) e) (by simp) b (KJ.2 ⟨hb,h0,rfl⟩)
 have f:∀v,v<u.ee.length->Pl u vl v:=λv hv=>by
  obtain⟨b,k,h⟩:=g.AB v hv;exact⟨b,k,h,all _ b (iW _) (let⟨_,hB,_⟩:=h;(iB.1 hB).1)⟩
 exact⟨n.nw.imp,λv x hx i=>n.nw.num v x (f v (iB.1 hx).1) hx i⟩
theorem NS.le (n:NS u I as S st vl):vl.length<=u.blocks.length:=by
 exact jy _ vl n.nd n.vlt
end
open Go.Proofs.YtpnddokajmjpbaaDoor.Dm
def xH (v:Nat)(x:Vl):Vl:=if x.op=19\/x.op=20 then⟨2,0,0,(v:Int),[],0⟩ else x
def zW (u:U):U:={u with ee:=u.ee.mapIdx xH}
theorem Gm{v:Nat}{x:Vl}(h:¬(x.op=19\/x.op=20)):xH v x=x:=if_neg h
theorem LW{v:Nat}{x:Vl}(h:x.op=19\/x.op=20):xH v x=⟨2,0,0,(v:Int),[],0⟩:=if_pos h
theorem OJ {u:U} {v:Nat} {x:Vl} (h:u.ee[v]? =some x):(zW u).ee[v]? =some (xH v x):=by
 show(u.ee.mapIdx xH)[v]? =_;rw[List.getElem?_mapIdx,h];rfl
theorem NT {u:U} {v:Nat} {y:Vl} (h:(zW u).ee[v]? =some y):∃x,u.ee[v]? =some x/\y=xH v x:=by
 have h:(u.ee.mapIdx xH)[v]? =some y:=h;rw[List.getElem?_mapIdx]at h
 cases hx:u.ee[v]? with
 |none=>rw[hx]at h;cases h
 |some x=>rw[hx]at h;exact⟨x,rfl,(Option.some.inj h).symm⟩
theorem oL {u:U} {v:Nat} {y:Vl} (h:(zW u).ee[v]? =some y):u.ee[v]? =some y\/y=⟨2,0,0,(v:Int),[],0⟩:=by
 obtain⟨x,a,rfl⟩:=NT h;by_cases c:x.op=19\/x.op=20
 ·exact .inr (LW c)
 ·rw[Gm c];exact .inl a
theorem BO {u:U} {w:Nat} (h:tI u w):tI (zW u) w:=by
 obtain⟨x,b,a⟩:=h;have:=OJ b;rw[Gm (by rintro(c|c) <;> rw[c]at a <;> cases a)]at this;exact⟨x,this,a⟩
theorem RR {u:U} (g:Good u):Good (zW u) where
 nv:=by show(u.ee.mapIdx xH).length<=_;rw[List.length_mapIdx];exact g.nv
 Ju:=g.Ju
 nb:=g.nb
 ns:=g.ns
 st:=λs fs h=>by
  obtain⟨e,a,d⟩:=g.st s fs h;refine⟨e,a,λf D=>?_⟩;obtain⟨i,l,q,E⟩:=d f D;exact⟨i,l,λv hv=>BO (q v hv),λv hv=>BO (E v hv)⟩
 AB:=λv h=>g.AB v (by have h:v<(u.ee.mapIdx xH).length:=h;rwa [List.length_mapIdx]at h)
 EI:=g.EI
 l0:=λv b k h=>by show v<(u.ee.mapIdx xH).length;rw[List.length_mapIdx];exact g.l0 v b k h
 G1:=λv w b k x y e a d i l=>by
  rcases oL d with d|rfl
  ·rcases oL i with i|rfl
   ·exact g.G1 v w b k x y e a d i l
   ·obtain⟨z,t,A⟩:=NT i;by_cases c:z.op=19\/z.op=20
    ·have:=g.G1 v w b k x z e a d t l;unfold iG at this;rw[K6,CN,CN]at this;omega
    ·rw[Gm c]at A;exact g.G1 v w b k x _ e a d (A▸t) l
  ·cases l
 par:=λv b k x e a d=>by
  rcases oL a with a|rfl
  ·exact g.par v b k x e a d
  ·cases d
 IE:=λv b k x B e a d i=>by
  rcases oL a with a|rfl
  ·exact g.IE v b k x B e a d i
  ·cases d
 op:=λv x h=>by
  rcases oL h with h|rfl
  ·exact g.op v x h
  ·exact⟨G9 rfl,G9 rfl⟩
 use:=λv x h w m=>by
  rcases oL h with h|rfl
  ·exact BO (g.use v x h w m)
  ·exact absurd m (by simp[gJ,two,uD])
 leave:=λv x h C=>by
  rcases oL h with h|rfl
  ·exact g.leave v x h C
  ·cases C
 putAt:=λv x h n=>by
  rcases oL h with h|rfl
  ·exact g.putAt v x h n
  ·cases n
 param:=λv x h n=>by
  rcases oL h with h|rfl
  ·obtain⟨e,a,d⟩:=g.param v x h n;refine⟨e,a,λw y r o=>?_⟩;rcases oL r with r|rfl
   ·exact d w y r o
   ·cases o
  ·cases n
 fin:=λb B h=>by
  rcases g.fin b B h with h|⟨e,a,d⟩|h
  ·exact .inl h
  ·exact .inr (.inl ⟨e,a,BO d⟩)
  ·exact .inr (.inr h)
 nx:=g.nx
 fe:=g.fe
 Dj:=g.Dj
 Hg:=g.Hg
 reach:=g.reach
 IB:=λv b k x e a d w m=>by
  rcases oL a with a|rfl
  ·exact g.IB v b k x e a d w m
  ·exact absurd m (by simp[gJ,two,uD])
 JU:=λv b k x B e a d i j w p l q=>by
  rcases oL a with a|rfl
  ·exact g.JU v b k x B e a d i j w p l q
  ·cases d
 J4:=λv b k x fs e a d i w m=>by
  rcases oL a with a|rfl
  ·exact g.J4 v b k x fs e a d i w m
  ·cases d
 JA:=g.JA
 J2:=g.J2
