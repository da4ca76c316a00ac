/- Parts. -/
import Derived.Test.YtpnddokajmjpbaaDoorM02
import Derived.Laws.AppendOwn
import Derived.Laws.NewFold
import Derived.Laws.IdiomStrings
namespace Go.Proofs.YtpnddokajmjpbaaDoor.Hx
structure Gr (h:Hp) (Δ:Env) (h':Hp) (a:Env):Prop where
 next:h.next<=h'.next
 none:∀l,Δ l = .none->l<h.next->a l = .none
theorem Gr.refl (h:Hp)(Δ:Env):Gr h Δ h Δ:=⟨wAF _,λ_ h _=>h⟩
theorem Gr.trans {h h' c:Hp} {Δ e d:Env} (a:Gr h Δ h' e) (b:Gr h' e c d):Gr h Δ c d:=
 ⟨wAq a.next b.next,λl g f=>b.none l (a.none l g f) (wAO f a.next)⟩
theorem Gr.same{h h':Hp}{Δ:Env}(a:h.next<=h'.next):Gr h Δ h' Δ:=⟨a,λ_ h _=>h⟩
theorem Gr.set {h h':Hp} {Δ:Env} {d:D} (b:h.next<=h'.next):Gr h Δ h' (Δ.set h.next d):=
 ⟨b,λl c a=>by unfold Env.set;rw[if_neg (wBN a)];exact c⟩
theorem WR.alloc {Δ:Env} {h:Hp} {w:World} (a:WR Δ h w) {ob:O} {mk:Nat->V} {c:Obj} {mv:Nat->Value} (f:Made Δ ob mk c mv) :
  ∃b,WR b (h.new ob) (w.alloc c)/\VRel b (mk h.next) (mv w.heap.size)/\FR Δ b w (w.alloc c)/\Gr h Δ (h.new ob) b:=by
 obtain⟨d,e,g,i⟩:=f h.next w.heap.size a.none_next;exact⟨Δ.set h.next d,(a.more ob).lay a.none_next (wAk _) (by rw[pQ,if_pos rfl]) e g,i,FR.lay a.none_next e,Gr.set (wBZ _)⟩
theorem pB (g o e:Nat) (fr:Nat×Nat):∀(vs:List Value) (i:Nat) (cur:Array Value) (w:World),w.heap[g]? =some (.cells cur e fr)->(∀j,j<cur.size->¬(fr.1<=j/\j<fr.2))->
  o+i+vs.length<=cur.size->(∀v∈vs,v.oneCell' = true)->
  (storeCells ⟨g,o,none⟩ vs i).run P0 w = .ok () (w.setRow g (cur.toList.take (o+i)++vs++cur.toList.drop (o+i+vs.length)).toArray)
 | [],i,cur,w,hg,_,_,_=>by
   simp only[storeCells,wAa,wBe,wB0,wA8,Array.toArray_toList];rw[setRow_self w g cur e fr hg]
   rfl
 | v ::rest,i,cur,w,hg,hf,hl,d=>by
   have hi:o+i<cur.size:=by simp at hl;omega
   have a:w.cell? ⟨g,o+i,none⟩=some cur[o+i]:=by simp[World.cell?,hg,hi]
   have b:w.frozen? ⟨g,o+i,none⟩=false:=by
     have:=hf (o+i) hi;simp only[World.frozen?,hg];simpa using this
   have c:(store ((⟨g,o,none⟩:Addr).add i) v).run P0 w = .ok () (w.setRow g (cur.setIfInBounds (o+i) v)):=by
     rw[jY,run_store P0 w _ v _ (d v (by simp)),a];simp[b,setCell_eq_setRow w g (o+i) cur e fr v hg]
   have f:=pB g o e fr rest (i+1) (cur.setIfInBounds (o+i) v) (w.setRow g (cur.setIfInBounds (o+i) v)) (setRow_heap w g cur _ e _ hg) (by simpa using hf) (by simp at hl⊢;omega) (λx h=>d x (by simp[h]));simp only[storeCells,wAP,c,wAH,f,setRow_setRow];congr 3;have e:=list_seg_step cur.toList (o+i) v rest (by simp at hl⊢;omega);simpa[wBw,wBz]using e
theorem Fy (l vs:List Value) (k:Nat) (c:k+vs.length<=l.length) (j:Nat) :
  (l.take k++vs++l.drop (k+vs.length))[j]? =if k<=j/\j<k+vs.length then vs[j-k]? else l[j]?:=by
 rw[wAU,List.getElem?_append,wAc,wB7 (by omega)];by_cases a:j<k
 ·rw[if_pos a,if_neg (by omega),wBA a]
 ·rw[if_neg a,List.getElem?_append];by_cases b:j-k<vs.length
  ·rw[if_pos b,if_pos (by omega)]
  ·rw[if_neg b,if_neg (by omega),wBI];congr 1;omega
theorem Bc (l vs:List Value) (k:Nat) (a:k+vs.length<=l.length):(l.take k++vs++l.drop (k+vs.length)).length=l.length:=by
 simp;omega
theorem WR.set {Δ:Env} {h:Hp} {w w':World} (k:WR Δ h w) {l:Nat} {d:D} {o E:O} (G:Δ l=some d) (t:h.get l=some o) (v:o.live=true) (A:d.ro=false)
  (i:E.live=true->o.live=true) (N:ORel Δ d E w'.heap[d.b]?) (H:w'.heap.size=w.heap.size) (K:∀b,b≠d.b->w'.heap[b]? =w.heap[b]?):WR Δ (h.put l E) w' where
 fresh:=k.fresh
 blk:=λm e q=>by rw[H];exact k.blk m e q
 obj:=λm e q=>by
  by_cases he:l=m
  ·subst he;rw[G]at q;cases q;exact⟨E,by rw[kw _ _ (Hp.get_lt t),if_pos rfl],N⟩
  ·obtain ⟨p,u,B⟩:=k.obj m e q;refine⟨p,by rw[kw _ _ (Hp.get_lt t),if_neg he];exact u,?_⟩;by_cases hb:e.b=d.b
   ·have a:p.live=false:=by
     cases j:p.live with
     |false=>rfl
     |true=>exact absurd hb.symm (k.apart l m d e o p G q he t u v j (.inl A))
    cases p with
    | cells F sz live ro cs=>
      obtain⟨a1,a2,a3,a4,_⟩:=B
      exact⟨a1,a2,a3,a4,λL=>by simp only[O.live]at a;rw[a]at L;cases L⟩
    |map Q c=>cases a
    |iter m s x c=>cases a
   ·rw[K _ hb];exact B
 apart:=λm I e F p M q y r j f z n J=>by
  rw[kw _ _ (Hp.get_lt t)]at j f;by_cases u:l=m
  ·subst u;rw[if_pos rfl]at j;cases j;rw[if_neg r]at f;exact k.apart l I e F o M q y r t f (i z) n J
  ·rw[if_neg u]at j;by_cases B:l=I
   ·subst B;rw[if_pos rfl]at f;cases f;exact k.apart m l e F p o q y r j t z (i n) J
   ·rw[if_neg B]at f;exact k.apart m I e F p M q y r j f z n J
 glob:=λg p C j=>by
  rw[kw _ _ (Hp.get_lt t)]at j;by_cases u:l=g
  ·subst u;exact k.glob l o C t
  ·rw[if_neg u]at j;exact k.glob g p C j
 gnext:=k.gnext
 tab:=k.tab.step (λb _ P=>K b λe=>P ⟨l,d,G,A,e.symm⟩) λ_ _ h _=> .inl h
theorem FR.set {Δ:Env} {w w':World} {l:Nat} {d:D} (f:Δ l=some d) (a:d.ro=false) (c:w'.heap.size=w.heap.size) (g:∀b,b≠d.b->w'.heap[b]? =w.heap[b]?)
  (i:w'.os=w.os) (j:w'.tape=w.tape) (k:w'.output=w.output):FR Δ Δ w w':=
 ⟨Env.le_refl _,wB1 c.symm,i,j,k,λb _ m=>g b λe=>m ⟨l,d,f,a,e.symm⟩,λ_ _ h=> .inl h⟩
theorem WR.kill {Δ:Env} {h:Hp} {w:World} (c:WR Δ h w) {l e sz:Nat} {cs:List V} (f:h.get l=some (.cells e sz true false cs)) {d:D} (g:Δ l=some d) :
  WR Δ (h.put l (.cells e sz false false cs)) w/\(∀m a p,m≠l->Δ m=some a->h.get m=some p->p.live=true->a.b≠d.b)/\d.ro=false:=by
 obtain⟨o,k,n⟩:=c.obj l d g;rw[f]at k;cases k;obtain⟨a1,a2,a3,a4,s⟩:=n;refine⟨c.set g f rfl a4 (λh=>(nomatch h)) ⟨a1,a2,a3,a4,λh=>(nomatch h)⟩ rfl (λ_ _=>rfl),λm a p i q r j=>?_,a4⟩;exact c.apart m l a d p _ q g i r f j rfl (.inr a4)
section
variable{Δ:Env}{h:Hp}{w:World}{n:Nat}{t:Tm}{a:Act}
theorem AJ (B:WR Δ h w) {l:Nat} {d:D} (r:Δ l=some d) {off:Nat} {new:List V} {new':List Value} (s:VsRel Δ new new') {h':Hp} (f:stAt h l off new=some h') :
  ∃w',(storeCells ⟨d.b,d.base+off,none⟩ new' 0).run P0 w = .ok () w'/\WR Δ h' w'/\FR Δ Δ w w':=by
 unfold stAt at f;rw[gU]at f;obtain⟨e,sz,live,ro,cs,C,f⟩:=f;simp only[fm,ei]at f;obtain⟨rfl,t,m,cs',hs,f⟩:=f;cases f;have n:ro=false:=by simpa using t
 subst n;obtain⟨p,E,u⟩:=zJ hs;obtain⟨o,F,G⟩:=B.obj l d r;rw[C]at F;cases F;obtain⟨a1,a2,a3,a4,H⟩:=G;obtain⟨c,y,fr,b1,b2,b3,I,J⟩:=H rfl;have K:=s.length;have a:d.base+off+new'.length<=c.size:=by omega
 have g:=pB d.b (d.base+off) y fr new' 0 c w b1 (λj L=>frFree (b3 a4) j (by omega)) (by simpa using a) (s.ones m);simp only[wB0]at g;refine⟨_,g,B.set r C rfl a4 (λh=>h) ⟨a1,a2,by rw[p];exact a3,a4,λ_=>?_⟩ (by simp) (λb z=>setRow_other _ _ _ _ z),FR.set r a4 (by simp) (λb z=>setRow_other _ _ _ _ z) rfl rfl rfl⟩;refine⟨_,y,fr,setRow_heap w d.b c _ y fr b1,?_,b3,by rw[p];exact I,λi v hi=>?_⟩
 ·have:=Bc c.toList new' (d.base+off) (by simpa using a);simp only[wA2]at this;rw[<-b2,<-this];rfl
 ·rw[u i]at hi;have q:=Fy c.toList new' (d.base+off) (by simpa using a) (d.base+i);rw[wB2,q];by_cases hin:off<=i/\i<off+new.length
  ·rw[if_pos hin]at hi;rw[if_pos (by omega)];obtain⟨x,A,k⟩:=s.get _ _ hi;refine⟨x,?_,k⟩;rw[<-A];congr 1;omega
  ·rw[if_neg hin]at hi;rw[if_neg (by omega)];obtain⟨x,A,k⟩:=J i v hi;exact⟨x,by simpa using A,k⟩
end
structure After (Δ:Env) (h:Hp) (w:World) (v:V) (h':Hp) (a:Env) (x:Value) (w':World):Prop where
 val:VRel a v x
 world:WR a h' w'
 frame:FR Δ a w w'
 grow:Gr h Δ h' a
theorem WR.heap {Δ:Env} {h:Hp} {w w':World} (a:WR Δ h w) (b:w'.heap=w.heap):WR Δ h w':=
 ⟨a.fresh,λl d e=>by rw[b];exact a.blk l d e,λl d e=>by rw[b];exact a.obj l d e,a.apart,a.glob,a.gnext,λg c f=>by rw[b];exact a.tab g c f⟩
theorem WR.layAt {Δ:Env} {h:Hp} {w:World} (i:WR Δ h w) {l:Nat} {o:O} {d:D} (z:Δ l=none) (F:l<h.next) (G:h.get l=some o) (H:d.b<w.heap.size)
  (I:ORel (Δ.set l d) d o w.heap[d.b]?) (j:∀m A p,Δ m=some A->h.get m=some p->p.live=true->A.b≠d.b) (u:RW Δ d.b):WR (Δ.set l d) h w where
 fresh:=λm e a=>by
  rcases Env.set_other a with⟨rfl,rfl⟩|⟨_,a⟩
  ·exact F
  ·exact i.fresh m e a
 blk:=λm e a=>by
  rcases Env.set_other a with⟨rfl,rfl⟩|⟨_,a⟩
  ·exact H
  ·exact i.blk m e a
 obj:=λm e a=>by
  rcases Env.set_other a with⟨rfl,rfl⟩|⟨_,a⟩
  ·exact⟨o,G,I⟩
  ·obtain⟨J,c,k⟩:=i.obj m e a;exact⟨J,c,k.mono (Env.le_set z)⟩
 apart:=λm B e C p E a v n s q r f x=>by
  rcases Env.set_other a with⟨c,k⟩|⟨_,c⟩ <;> rcases Env.set_other v with⟨t,K⟩|⟨_,t⟩
  ·exact absurd (c.trans t.symm) n
  ·rw[k];exact(j B C E t q f).symm
  ·rw[K];exact j m e p c s r
  ·exact i.apart m B e C p E c t n s q r f x
 glob:=λg p y s=>by
  obtain⟨e,c,k⟩:=i.glob g p y s;exact⟨e,Env.le_set z _ _ c,k⟩
 gnext:=i.gnext
 tab:=i.tab.step (λ_ _ _=>rfl) λm e a _=>by
  rcases Env.set_other a with⟨rfl,rfl⟩|⟨_,a⟩
  ·exact .inr (.inr u)
  ·exact .inl a
theorem FR.layAt {Δ:Env} {w w':World} {l:Nat} {d:D} (f:Δ l=none) (h:FR Δ Δ w w') (a:RW Δ d.b):FR Δ (Δ.set l d) w w' where
 le:=Env.le_set f
 size:=h.size
 os:=h.os
 tape:=h.tape
 output:=h.output
 keep:=h.keep
 new:=λm e c=>by
  rcases Env.set_other c with⟨rfl,rfl⟩|⟨_,c⟩
  ·exact .inr (.inr a)
  ·exact .inl c
theorem FR.drew{Δ a:Env}{w w':World}(h:FR Δ a w.drew w'):FR Δ a w w':=⟨h.le,h.size,h.os,h.tape,h.output,h.keep,h.new⟩
section
variable{Δ:Env}{h:Hp}{w:World}{n:Nat}{t:Tm}{a:Act}
theorem CA (Δ:Env) (s:ByteArray):VsRel Δ (bytesV s.data.toList) (s.data.toList.map λb=>Value.int .u8 b.toNat):=by
 generalize s.data.toList=l
 induction l with
 |nil=>exact .nil
 |cons b l a=>exact .cons _ _ _ _ (.int .u8 _) a
theorem CB (n:WR Δ h w) {size:Nat} {x:V} {xv:Value} {m:Nat} {cs:List V} (c:VRel Δ x xv) (b:xcells h size x=some (m,cs)) :
  ∃a,VsRel Δ cs a/\(∀w',(Builtin.lenOf xv).run P0 w' = .ok m w')/\(Builtin.firstCells size m xv).run P0 w = .ok (Array.mk a) w/\a.length=m*size:=by
 unfold xcells at b;split at b
 ·cases b;cases c;exact⟨[],.nil,λ_=>rfl,rfl,by simp⟩
 ·cases b;cases c;exact⟨[],.nil,λ_=>rfl,by simp[Builtin.firstCells,loadCells,loadCellsFrom],by simp⟩
 ·rename_i l off k;rw[ei]at b;obtain⟨cs',e,f⟩:=b;cases f
  cases c with
  | slice _ _ _ cap o d p u g q=>
    rcases q with⟨rfl,_,_⟩|⟨rfl,_⟩
    ·obtain⟨xs,r,j⟩:=pg n p e
     exact⟨xs,j,λ_=>rfl,by simpa[Builtin.firstCells]using r,by rw[<-j.length,Ee e];rfl⟩
    ·simp at g
 ·rename_i s;rw[fm]at b;obtain⟨e,f⟩:=b;cases f;have i:size=1:=wAG e;subst i
  cases c with
  | str s=>
    refine ⟨_,CA Δ s,λ_=>by simp[Builtin.lenOf],?_,by simp⟩;have t:s.extract 0 s.size=s:=by
      rw[ByteArray.ext_iff];simp
    simp only[Builtin.firstCells];have:s.data.toList.length=s.size:=by simp
    rw[this,t];simp only[wAp];congr 1;apply Array.ext';simp
 ·cases b
theorem lF {n xT ty e:Nat} {j:TypeDesc} (hs:P0.underlying n=some (.slice e)) (o:P0.underlying xT=some j) (hi:∀k,j≠ .int k) {size:Nat} (p:szOf e=some size)
  {base:Option Addr} {a c m:Nat} {x:Value} (hlen:(Builtin.lenOf x).run P0 w = .ok m w) {f:List Value} (g:(Builtin.firstCells size m x).run P0 w = .ok (Array.mk f) w)
  (d:a+m<=c) {w':World} (l:∀b,base=some b->(storeCells (b.add (a*size)) f 0).run P0 w = .ok () w') (q:base=none->w' = w) :
  (Builtin.append_ #[n,xT] ty #[.slice base a c,x]).run P0 w = .ok (.slice base (a+m) c) w':=by
 have h:=pI (w:=w) p;have i:(match (generalizing:=false) j with| .int _=>true|_=>false)=false:=by cases j <;> first|rfl|exact absurd rfl (hi _)
 cases base with
 | none=>
   cases q rfl
   simp[Builtin.append_,ey hs,ey o,h,i,hlen,d,g]
 |some b=>simp[Builtin.append_,ey hs,ey o,h,i,hlen,d,g,l b rfl]
theorem zV {C xT ty c:Nat} {q:TypeDesc} (hs:P0.underlying C=some (.slice c)) (G:P0.underlying xT=some q) (hi:∀k,q≠ .int k) {size by_:Nat} {z:V}
  (H:elemOf c=some (size,by_,z)) {base:Option Addr} {a b m:Nat} {x:Value} (hlen:(Builtin.lenOf x).run P0 w = .ok m w) {d e:List Value}
  (f:(Builtin.firstCells size a (.slice base a b)).run P0 w.drew = .ok (Array.mk d) w.drew)
  (g:(Builtin.firstCells size m x).run P0 w.drew = .ok (Array.mk e) w.drew) (I:¬a+m<=b) (N:(a+m)*by_<=70368744177664) (O:a+m<=70368744177664) :
  ∃D,D.size=size/\(Builtin.append_ #[C,xT] ty #[.slice base a b,x]).run P0 w = .ok (.slice (some ⟨w.heap.size,0,none⟩) (a+m) (grownCap w (a+m) b c))
   (w.drew.alloc (.cells (Array.mk d++Array.mk e++Builtin.zeroCells D (grownCap w (a+m) b c-(a+m))) c)):=by
 obtain⟨r,h,s,E,J,_⟩:=xu H;obtain⟨K,L,l,i,j,t⟩:=sB s;have u:(match (generalizing:=false) q with| .int _=>true|_=>false)=false:=by cases q <;> first|rfl|exact absurd rfl (hi _)
 have v:i.bytes=by_:=by
  unfold byOf at h;rw[ei]at h;obtain⟨M,n,y⟩:=h;rw[j]at n;cases n;simpa using y
 have A:i.size=size:=by
  obtain⟨M,n,y⟩:=vh r;rw[j]at n;cases n;exact y
 have F:Builtin.nextslicecap (a+m) b*i.bytes<=281474976710656:=growslice_fits (by omega) (by rw[v];omega);have o:¬(281474976710656<Builtin.nextslicecap (a+m) b*i.bytes):=by omega
 have p:¬(9223372036854775807<((a:Int)+(m:Int))):=by omega
 have B:=(l λ_=>none).cells.length;refine⟨K.cells,by simp only[wA2]at B;omega,?_⟩;rw[<-A]at f g;have hq:(Question.appendCap (a+m) b c).forced=false:=rfl;simp[Builtin.append_,ey hs,ey G,sizeOf,typeInfo,zeroValue,j,t,u,hlen,I,p,o,hq,f,g,newRow,grownCap];congr 2;apply Array.ext';simp
theorem A6 (I : WR Δ h w) {sT xT ty g:Nat} {dx:TypeDesc} (hs:P0.underlying sT=some (.slice g)) (hx:P0.underlying xT=some dx) (hi:∀k,dx≠ .int k) {size by_:Nat} {z:V}
    (hz:elemOf g=some (size,by_,z)) {s x:V} {sv xv:Value} (Q:VRel Δ s sv) (al:VRel Δ x xv) {r:R} (hv:happend g size by_ s x h=some r) :
    ∃v h' P y w',r = .val v h'/\(Builtin.append_ #[sT,xT] ty #[sv,xv]).run P0 w = .ok y w'/\After Δ h w v h' P y w':=by
  obtain⟨S,aZ,a6,U,a7,_⟩:=xu hz;unfold happend at hv;rw[ei]at hv;obtain⟨⟨m,cs⟩,h1,t⟩:=hv;obtain⟨n,n1,n2,n3,n4⟩:=CB I al h1;have am:WR Δ h w.drew:=I.heap rfl;obtain⟨E,d1,d2,d3,d4⟩:=CB am al h1;have an:cs.length=m*size:=by rw[n1.length,n4]
  cases hm:Nat.beq m 0 with
  | true=>
    have aa:m=0:=wAG hm;subst aa;simp only[hm]at t;have aC:n=[]:=wAf (by simpa using n4);subst aC;split at t
    ·cases t;cases Q
     exact⟨_,_,Δ,_,w,rfl,lF hs hx hi S (n2 w) n3 (wAF _) (λb G=>by cases G) (λ_=>rfl),.nilSlice,I,.refl _ _,.refl _ _⟩
    ·cases t
     cases Q with
     | slice l off len cap o d J hk L ho=>
       exact⟨_,_,Δ,_,w,rfl,lF hs hx hi S (n2 w) n3 L (λb G=>rfl) (λ_=>rfl),.slice _ _ _ cap o d J hk L ho,I,.refl _ _,.refl _ _⟩
    ·cases t
  | false =>
    have aa:0<m:=Nat.pos_of_ne_zero λe=>by rw[e]at hm;cases hm
    simp only[hm,fm]at t;obtain⟨W,t⟩:=t
    have fresh:∀(base:Option Addr) (a A:Nat) (f:List Value) (old:List V) (h0:Hp),sv = .slice base a A->VsRel Δ old f->f.length=a*size->
        (Builtin.firstCells size a (.slice base a A)).run P0 w.drew = .ok (Array.mk f) w.drew->¬a+m<=A->(a+m)*by_<=70368744177664->a+m<=70368744177664->
        WR Δ h0 w->h0.next=h.next->
        ∃P y w',(Builtin.append_ #[sT,xT] ty #[sv,xv]).run P0 w = .ok y w'/\After Δ h w (.slice h.next 0 (a+m)) (h0.new (.cells g size true false (old++cs))) P y w':=by
      intro base a A f old h0 ao X M B hg G aD aE hnext;obtain⟨zc,aF,hr⟩:=zV (ty:=ty) hs hx hi hz (n2 w) B d3 hg G aD;have N:=grownCap_ge w (a+m) A g;generalize grownCap w (a+m) A g=nc at hr N
      have ab:Made Δ (.cells g size true false (old++cs)) (λl=> .slice l 0 (a+m)) (.cells (Array.mk f++Array.mk E++Builtin.zeroCells zc (nc-(a+m))) g)
          (λb=> .slice (some ⟨b,0,none⟩) (a+m) nc):=by
        intro l b hn;have L:=Env.le_set (d:=⟨b,0,size,(old++cs).length,nc*size,false,0⟩) hn;have ap:=X.append d1;have hlen:(old++cs).length=(a+m)*size:=by rw[wAM,X.length,M,an,wBB]
        have aV:(a+m)*size<=nc*size:=wB3 _ N;refine⟨⟨b,0,size,(old++cs).length,nc*size,false,0⟩,rfl,⟨rfl,rfl,rfl,rfl,λ_=>?_⟩,?_⟩
        ·refine tL ?_ rfl (by show(old++cs).length<=nc*size;omega) λi u C=>?_
         ·show(Array.mk f++Array.mk E++Builtin.zeroCells zc (nc-(a+m))).size=nc*size
          simp only[Array.size_append,List.size_toArray,size_zeroCells,aF,M,d4];rw[<-wBB,<-wBB];congr 1;omega
         ·obtain⟨y,hy,aG⟩:=ap.get i u C
          refine⟨y,?_,aG.mono L⟩;have D:i<(f++E).length:=(wAB.1 hy).1;rw[wBx (by simpa using D)];simpa using hy
        ·refine VRel.slice l 0 (a+m) nc 0 _ (Env.set_self _ _ _) rfl N (.inl ⟨rfl,?_,?_⟩)
         ·show(old++cs).length<=0+nc*size;omega
         ·show 0+0+nc*size<=nc*size;omega
      obtain⟨P,a1,a2,a3,a4⟩:=(aE.heap (w':=w.drew) rfl).alloc ab;have aH:Gr h Δ (h0.new (.cells g size true false (old++cs))) P:=⟨by rw[<-hnext];exact a4.next,λl hl D=>a4.none l hl (by rw[hnext];exact D)⟩
      rw[hnext]at a2;exact⟨P,_,_,ao▸hr,a2,a1,a3.drew,aH⟩
    split at t
    ·simp only[fm]at t
     obtain⟨h3,h4,h5⟩:=t;cases h5;cases Q;have T:m*by_<=70368744177664:=wAZ h3;have ac:m<=70368744177664:=wAZ h4;obtain⟨P,y,w',b1,b2⟩:=fresh none 0 0 [] [] h rfl .nil (by simp) rfl (by omega) (by simpa using T) (by simpa using ac) I rfl;exact⟨_,_,P,y,w',rfl,b1,by simpa using b2⟩
    ·rename_i l off len
     rw[gU]at t;obtain⟨e,sz,live,ro,all,hg,t⟩:=t;simp only[fm]at t;obtain⟨rfl,aI,aq,t⟩:=t;have ae:sz=size:=wAG aq;subst ae;have ar:ro=false:=by simpa using aI
     subst ar
     cases Q with
     | slice _ _ _ cap o d J hk L ho=>
       obtain⟨ob,au,hr⟩:=I.obj l d J;rw[hg]at au;cases au;obtain⟨a1,a2,a3,a4,a5⟩:=hr;obtain⟨c,e',fr,b1,b2,b3,b5,b4⟩:=a5 rfl;rw[a2]at ho;have aw:(len+m)*sz=len*sz+m*sz:=wBB _ _ _;have a8:0<m*sz:=Nat.mul_pos aa U
       cases hin:Nat.ble (Nat.add off (Nat.mul (Nat.add len m) sz)) all.length with
       | true =>
         simp only[hin,ei]at t;obtain⟨cs',h3,h4⟩:=t;cases h4;have aW:off+(len+m)*sz<=all.length:=wAZ hin;rcases ho with⟨rfl,K,ag⟩|⟨rfl,K⟩
         ·have q:len+m<=cap:=by
            rcases wBK cap (len+m)with D|N
            ·exfalso
             have:cap*sz<(len+m)*sz:=Nat.mul_lt_mul_of_pos_right D U;omega
            ·exact N
          have aJ:stAt h l (off+len*sz) cs=some (h.put l (.cells e sz true false cs')):=by
            unfold stAt;rw[gU];refine⟨e,sz,true,false,all,hg,?_⟩;simp only[fm,ei];exact⟨trivial,rfl,W,cs',h3,rfl⟩
          obtain⟨w',c1,c2,c3⟩:=AJ I J n1 aJ;refine⟨_,_,Δ,_,w',rfl,lF hs hx hi S (n2 w) n3 q (λb G=>?_) (λG=>by cases G),?_,c2,c3,.same (wAF _)⟩
          ·cases G
           rw[jY,wBz];exact c1
          ·exact .slice l off (len+m) cap _ d J hk q (.inl ⟨rfl,by rw[a2];exact K,by rw[a2];exact ag⟩)
         ·exfalso;omega
       | false =>
         simp only[hin,ei,fm]at t;obtain⟨old,h3,aK,h4,h5,h6⟩:=t;cases h6;have ac:(len+m)*by_<=70368744177664:=wAZ h4;have aL:len+m<=70368744177664:=wAZ h5;have T:sub all off (len*sz)=some old:=h3;obtain⟨ah,aM⟩:=Dn T;obtain⟨aN,aO,_⟩:=I.kill hg J;have aP:ldAt h l off (len*sz)=some old:=by
           unfold ldAt;rw[gU];exact⟨e,sz,true,false,all,hg,by rw[fm];exact⟨rfl,T⟩⟩
         by_cases q:len+m<=cap
         ·rcases ho with⟨rfl,K,ag⟩|⟨rfl,K⟩
          ·have aX : (len+m)*sz<=cap*sz:=wB3 _ q
           have Y:d.base+off+len*sz+n.length<=c.size:=by rw[n4];omega
           have B:=pB d.b (d.base+off+len*sz) e' fr n 0 c w b1 (λj hj=>frFree (b3 a4) j (by omega)) (by simpa using Y) (n1.ones W);simp only[wB0]at B;have O:d.base+off+len*sz+n.length<=c.toList.length:=by simpa using Y
           generalize hw':w.setRow d.b (c.toList.take (d.base+off+len*sz)++n++c.toList.drop (d.base+off+len*sz+n.length)).toArray=w' at B;have F:w'.heap.size=w.heap.size:=by rw[<-hw'];simp
           have H:∀b,b≠d.b->w'.heap[b]? =w.heap[b]?:=λb G=>by rw[<-hw'];exact setRow_other _ _ _ _ G
           have ax:w'.heap[d.b]? =some (.cells (c.toList.take (d.base+off+len*sz)++n++c.toList.drop (d.base+off+len*sz+n.length)).toArray e' fr):=by
             rw[<-hw'];exact setRow_heap w d.b c _ e' fr b1
           have ay:WR Δ (h.put l (.cells e sz false false all)) w':=I.set J hg rfl a4 (λh=>(nomatch h)) ⟨a1,a2,a3,a4,λh=>(nomatch h)⟩ F H;have aQ:FR Δ Δ w w':=FR.set J a4 F H (by rw[<-hw'];rfl) (by rw[<-hw'];rfl) (by rw[<-hw'];rfl);have hn:=I.none_next;have a9:(old++cs).length=(len+m)*sz:=by rw[wAM,ah,an,aw]
           have Z:=Env.le_set (d:=⟨d.b,d.base+off,sz,(old++cs).length,d.asz,false,0⟩) hn
           refine ⟨_,_,Δ.set h.next ⟨d.b,d.base+off,sz,(old++cs).length,d.asz,false,0⟩,_,w',rfl,
             lF hs hx hi S (n2 w) n3 q (λb G=>?_) (λG=>by cases G),?_,?_,aQ.layAt hn ⟨l,d,J,a4,rfl⟩,Gr.set (wBZ _)⟩
           ·cases G
            rw[jY];exact B
           ·refine .slice h.next 0 (len+m) cap (d.base+off) ⟨d.b,d.base+off,sz,(old++cs).length,d.asz,false,0⟩ (Env.set_self _ _ _) rfl q (.inl ⟨rfl,?_,?_⟩)
            ·show(old++cs).length<=0+cap*sz;omega
            ·show d.base+off+0+cap*sz<=d.asz;omega
           ·refine (ay.more (.cells g sz true false (old++cs))).layAt (o:= .cells g sz true false (old++cs)) (d:=⟨d.b,d.base+off,sz,(old++cs).length,d.asz,false,0⟩) hn (wAk _) (by rw[pQ];exact if_pos rfl) (by rw[F];exact I.blk l d J) ⟨rfl,rfl,rfl,rfl,λ_=>?_⟩ (λm' d' p aA hp aB=>?_) ⟨l,d,J,a4,rfl⟩
            ·refine ⟨_,e',fr,ax,?_,λ_=>b3 a4,?_,λi v C=>?_⟩
             ·have:=Bc c.toList n _ O
              simp only[wA2]at this;show _=d.asz;rw[<-b2,<-this];rfl
             ·show d.base+off+(old++cs).length<=d.asz;omega
             ·show ∃x,(List.toArray _)[d.base+off+i]? =some x/\_
              rw[wB2,Fy c.toList n _ O];rw[List.getElem?_append]at C;by_cases D:i<old.length
              ·rw[if_pos D,aM i (by omega)]at C
               obtain⟨x,ai,aj⟩:=b4 _ _ C;rw[if_neg (by omega)];exact⟨x,by rw[wAv,wBz];exact ai,aj.mono Z⟩
              ·rw[if_neg D]at C
               obtain⟨x,ai,aj⟩:=n1.get _ _ C;have aY:=(wAB.1 C).1;rw[if_pos (by omega)];refine⟨x,?_,aj.mono Z⟩;rw[<-ai];congr 1;omega
            ·have aR:h.next≠m':=Nat.ne_of_gt (I.fresh _ _ aA)
             rw[pQ]at hp;rw[if_neg (by exact aR)]at hp;rw[kw _ _ (I.fresh _ _ J)]at hp;by_cases he:l=m'
             ·subst he
              rw[if_pos rfl]at hp;cases hp;cases aB
             ·rw[if_neg he]at hp
              exact aO m' d' p (Ne.symm he) aA hp aB
          ·exfalso;omega
         ·have aS:∃f,VsRel Δ old f/\(Builtin.firstCells sz len (.slice (some ⟨d.b,o,none⟩) len cap)).run P0 w.drew = .ok (Array.mk f) w.drew:=by
            rcases ho with⟨rfl,K,ag⟩|⟨rfl,K⟩
            ·obtain⟨xs,c1,c2⟩:=pg am J aP
             exact⟨xs,c2,by simpa[Builtin.firstCells]using c1⟩
            ·have aT:len=0:=by omega
             subst aT;have aU:old=[]:=wAf (by rw[ah];simp);subst aU;exact⟨[],.nil,by simp[Builtin.firstCells,loadCells,loadCellsFrom]⟩
          obtain⟨f,c1,c2⟩:=aS;obtain⟨P,y,w',e1,e2⟩:=fresh _ len cap f old (h.put l (.cells e sz false false all)) rfl c1 (by rw[<-c1.length,ah]) c2 q ac aL aN rfl;exact⟨_,_,P,y,w',rfl,e1,e2⟩
    ·cases t
end
section
variable{Δ:Env}{h:Hp}{w:World}{n:Nat}{t:Tm}{a:Act}
theorem GB (f:WR Δ h w) {ty size:Nat} (g:szOf ty=some size) {l off:Nat} {v:V} {pv xv:Value} (i:VRel Δ (.ptr l off) pv) (j:VRel Δ v xv)
  (hlen:Nat.beq v.cells.length size=true) {h':Hp} (hs:stAt h l off v.cells=some h') :
  ∃w',(Instr.storeAt ty pv xv).run P0 w = .ok () w'/\WR Δ h' w'/\FR Δ Δ w w'/\Gr h Δ h' Δ:=by
 cases i with
 | ptr _ _ d k=>
   have hc:=j.cells;obtain⟨w',m,n,o⟩:=AJ f k hc hs;have p:=wAG hlen;have b:=hc.length;simp only[wA2]at b;have c:h'.next=h.next:=by
     unfold stAt at hs;rw[gU]at hs;obtain⟨e,sz,live,ro,cs,q,a⟩:=hs;simp only[fm,ei]at a;obtain⟨_,_,_,_,_,a⟩:=a;cases a;rfl
   refine⟨w',?_,n,o,.same (wB1 c.symm)⟩;have:¬(xv.cells.size≠size):=by omega
   simp[Instr.storeAt,Instr.sureAddr,storeVar,pI g,this,m]
theorem ERel.length {b:List (V×V×Nat)} {a:List MapEntry} (h:ERel Δ b a):b.length=a.length:=by
 induction h with
 |nil=>rfl
 |cons k v n e b a d f g _ c=>simp[c]
theorem ERel.get {c:List (V×V×Nat)} {a:List MapEntry} (h:ERel Δ c a) {i:Nat} {e:V×V×Nat} (hi:c[i]? =some e) :
  ∃b,a[i]? =some b/\VRel Δ e.1 b.key/\VRel Δ e.2.1 b.val/\b.born=e.2.2:=by
 induction h generalizing i with
 |nil=>simp at hi
 | cons k v n e0 c a d f g _ j=>
   cases i with
   |zero=>simp at hi;subst hi;exact⟨e0,rfl,d,f,g⟩
   |succ i=>exact j (by simpa using hi)
theorem ERel.set {c:List (V×V×Nat)} {a:List MapEntry} (h:ERel Δ c a) {i:Nat} {k v:V} {m:Nat} {b:MapEntry} (g:VRel Δ k b.key) (j:VRel Δ v b.val) (l:b.born=m) :
  ERel Δ (c.set i (k,v,m)) (a.set i b):=by
 induction h generalizing i with
 |nil=>exact .nil
 | cons k0 p n e0 c a d e f hs o=>
   cases i with
   |zero=>exact .cons _ _ _ _ _ _ g j l hs
   |succ i=>exact .cons _ _ _ _ _ _ d e f o
theorem ERel.snoc {c:List (V×V×Nat)} {a:List MapEntry} (h:ERel Δ c a) {k v:V} {m:Nat} {b:MapEntry} (g:VRel Δ k b.key) (i:VRel Δ v b.val) (j:b.born=m) :
  ERel Δ (c++[(k,v,m)]) (a++[b]):=by
 induction h with
 |nil=>exact .cons _ _ _ _ _ _ g i j .nil
 |cons k0 o n e0 c a d e f hs l=>exact .cons _ _ _ _ _ _ d e f l
theorem ERel.erase {b:List (V×V×Nat)} {a:List MapEntry} (h:ERel Δ b a) {i:Nat}:ERel Δ (b.eraseIdx i) (a.eraseIdx i):=by
 induction h generalizing i with
 |nil=>exact .nil
 | cons k0 g n e0 b a c d e hs f=>
   cases i with
   |zero=>exact hs
   |succ i=>exact .cons _ _ _ _ _ _ c d e f
theorem yu {k:V} {x y:Value} (m:Nat) (d:flatKey k=true) (c:VRel Δ k x) (b:VRel Δ k y):Instr.sameBits m x y=true:=by
 cases k <;> simp[flatKey]at d
 ·cases c;cases b;cases m <;> simp[Instr.sameBits]
 ·cases c;cases b;cases m <;> simp[Instr.sameBits]
 ·rename_i s
  cases c with
  | str a=>
    generalize hs:a.data.toList=l at b
    cases b with
    | str e=>
      have:a=e:=by
        rw[ByteArray.ext_iff];exact Array.ext' hs
      subst this;have f:(a == a)=true:=by show(a.data == a.data)=true;simp
      cases m <;> simpa[Instr.sameBits]using f
theorem Ig (m:Nat) {cs:List V} {xs ys:List Value} (d:cs.all flatKey=true) (a:VsRel Δ cs xs) (b:VsRel Δ cs ys):xs.length=ys.length/\(xs.zip ys).all (λp=>Instr.sameBits m p.1 p.2)=true:=by
 induction cs generalizing xs ys with
 |nil=>cases a;cases b;exact⟨rfl,rfl⟩
 | cons c cs g=>
   cases a with
   | cons _ x _ xs a e=>
     cases b with
     | cons _ y _ ys b f=>
       simp only[wCD,wAJ]at d;obtain⟨h,i⟩:=g d.2 e f;exact⟨by simp[h],by simp only[List.zip_cons_cons,wCD,wAJ];exact⟨yu m d.1 a b,i⟩⟩
theorem AE {k:V} {x y:Value} (m:Nat) (c:simpleKey k=true) (a:VRel Δ k x) (b:VRel Δ k y):Instr.sameBits (m+1) x y=true:=by
 cases k with
 | agg cs=>
   cases a with|agg _ xs a=>cases b with|agg _ ys b=>
   obtain⟨d,e⟩:=Ig m c a b;simp only[Instr.sameBits,wAJ]
   exact⟨by simpa using d,e⟩
 |_=>exact yu (m+1) (by simpa[simpleKey]using c) a b
theorem y6 (i:WR Δ h w) {l:Nat} {d:D} (g:Δ l=some d) {n f:List (V×V×Nat)} {c c2:Nat} (k:h.get l=some (.map n c)) {es2':Array MapEntry} (p:ERel Δ f es2'.toList) :
  (setObj d.b (.map es2' c2)).run P0 w = .ok () {w with heap:=w.heap.setIfInBounds d.b (.map es2' c2)}/\
  WR Δ (h.put l (.map f c2)) {w with heap:=w.heap.setIfInBounds d.b (.map es2' c2)}/\FR Δ Δ w {w with heap:=w.heap.setIfInBounds d.b (.map es2' c2)}:=by
 obtain ⟨o,m,q⟩:=i.obj l d g;rw[k]at m;cases m;obtain⟨a1,a2,a3,r,s,u⟩:=q;have j:=i.blk l d g;have a:∀b,b≠d.b->({w with heap:=w.heap.setIfInBounds d.b (.map es2' c2)}:World).heap[b]? =w.heap[b]?:=λb t=>by
  simp only;rw[wBk (λe=>t e.symm)]
 refine⟨by simp[setObj,Sem.run,s],i.set g k rfl a2 (λh=>h) ⟨a1,a2,a3,es2',?_,p⟩ (by simp) a,FR.set g a2 (by simp) a rfl rfl rfl⟩;simp[j]
theorem FM (z:WR Δ h w) {L A S:Nat} (M:P0.underlying L=some (.map A S)) {d:Option (List Field)} (N:keyD A=some d) {m k v:V} {mv j vv:Value} (T:VRel Δ m mv) (n:VRel Δ k j) (O:VRel Δ v vv)
  {r:R} (f:hput A d m k v h=some r):∃h' w',r = .val .undef h'/\(Instr.mapUpdate L mv j vv).run P0 w = .ok () w'/\WR Δ h' w'/\FR Δ Δ w w'/\Gr h Δ h' Δ:=by
 unfold hput at f;rw[fm]at f;obtain⟨U,f⟩:=f;split at f
 ·rename_i l;simp only[sN,ei]at f;obtain⟨es,c,B,ob,g,f⟩:=f;cases f
  cases T with
  | map _ dd C=>
    obtain⟨a,P,y⟩:=yF z C B;have o:=qA (em:=false) 9999 (by omega) w N n U;unfold mapPut at g;rw[ei]at g;obtain⟨fr,W,g⟩:=g;obtain⟨q,s,b⟩:=vS N n w y W
    cases fr with
    | none=>
      cases g
      cases q with
      |some _=>cases b
      | none=>
        obtain⟨D,E,F⟩:=y6 z C B (es2':=a.push {key:=j,val:=vv,born:=c}) (c2:=c+1) (by rw[Array.toList_push];exact y.snoc (m:=c) n O rfl);refine⟨_,_,rfl,?_,E,F,.same (wAF _)⟩
        simp only[Instr.mapUpdate,wAP,ey M,wAH,gf P,o,s,D]
    | some p=>
      obtain⟨i,u⟩:=p;simp only[ei,fm]at g;obtain⟨e,G,H,I,g⟩:=g;cases g
      cases q with
      |none=>cases b
      | some X=>
        obtain⟨i',u'⟩:=X;obtain⟨rfl,_⟩:=b;obtain⟨J,Y,Q,g3,Z⟩:=y.get G;rw[V.eq_of_beq _ _ H]at Q;have K:Instr.sameBits 10000 J.key j=true:=AE 9999 I Q n;have t:a[i]? =some J:=by simpa using Y
        have x:(a.modify i λe=>{e with key:=j,val:=vv}).toList=a.toList.set i {J with key:=j,val:=vv}:=by
          rw[Array.toList_modify];rw[List.modify_eq_set];simp[t]
        obtain⟨D,E,F⟩:=y6 z C B (es2':=a.modify i λe=>{e with key:=j,val:=vv}) (c2:=c) (by rw[x];exact y.set (i:=i) (k:=k) (v:=v) (m:=e.2.2) n O Z);refine⟨_,_,rfl,?_,E,F,.same (wAF _)⟩;simp only[Instr.mapUpdate,wAP,ey M,wAH,gf P,o,s,Instr.keyThatStays,t,Option.map_some,Option.getD_some,K,if_true,wAp,D]
 ·cases f
theorem EZ (o:WR Δ h w) {J A P rt:Nat} {q:Array Nat} (j:q[0]? =some J) (B:P0.underlying J=some (.map A P)) {d:Option (List Field)} (C:keyD A=some d) {m k:V} {mv K:Value} (L:VRel Δ m mv) (D:VRel Δ k K)
  {r:R} (e:hdelete A d m k h=some r):∃h' w',r = .val (.tuple []) h'/\(Builtin.delete_ q rt #[mv,K]).run P0 w = .ok (.tuple #[]) w'/\WR Δ h' w'/\FR Δ Δ w w'/\Gr h Δ h' Δ:=by
 unfold hdelete at e;rw[fm]at e;obtain⟨M,e⟩:=e;split at e
 ·cases e;cases L;have g:=qA (em:=true) 9999 (by omega) w C D M;refine⟨h,w,rfl,?_,o,.refl _ _,.refl _ _⟩;simp only[Builtin.delete_,j,wB2,List.getElem?_cons_zero,wAj,wAP,ey B,wAH,g,wAp]
 ·rename_i l;simp only[sN,ei]at e;obtain⟨T,c,E,fr,Q,e⟩:=e
  cases L with
  | map _ x y =>
    obtain⟨a,F,G⟩:=yF o y E;have g:=qA (em:=a.isEmpty) 9999 (by omega) w C D M;obtain⟨s,t,f⟩:=vS C D w G Q
    cases fr with
    | none =>
      cases e
      cases s with
      |some _=>cases f
      | none =>
        obtain ⟨z,N,O⟩:=y6 o y E (es2':=a) (c2:=c) G;have n:({w with heap:=w.heap.setIfInBounds x.b (.map a c)}:World)=w:=by
          have:w.heap.setIfInBounds x.b (.map a c)=w.heap:=by
            apply Array.ext_getElem?;intro i;by_cases hi:x.b=i
            ·subst hi
             have v:=o.blk l x y;simp[v];simpa[v]using F.symm
            ·rw[wBk hi]
          rw[this]
        rw[n]at z;refine⟨h,w,rfl,?_,o,.refl _ _,.refl _ _⟩
        simp only[Builtin.delete_,j,wB2,List.getElem?_cons_zero,wAj,wAP,ey B,wAH,gf F,g,t,z,wAp]
    | some p=>
      obtain⟨i,u⟩:=p;cases e
      cases s with
      |none=>cases f
      | some S=>
        obtain ⟨U,u'⟩:=S;obtain⟨rfl,_⟩:=f;have H:(a.eraseIdxIfInBounds i).toList=a.toList.eraseIdx i:=by
          rw[Array.eraseIdxIfInBounds_eq];split
          ·rw[Array.toList_eraseIdx]
          ·rename_i I
           rw[List.eraseIdx_of_length_le (by simpa using I)]
        obtain⟨z,N,O⟩:=y6 o y E (es2':=a.eraseIdxIfInBounds i) (c2:=c) (by rw[H];exact G.erase);refine⟨_,_,rfl,?_,N,O,.same (wAF _)⟩;simp only[Builtin.delete_,j,wB2,List.getElem?_cons_zero,wAj,wAP,ey B,wAH,gf F,g,t,z,wAp]
 ·cases e
end
section
variable{Δ:Env}{h:Hp}{w:World}{n:Nat}{t:Tm}{a:Act}
theorem Cr {l off:Nat} {new:List V} {h':Hp} (hs:stAt h l off new=some h'):h'.next=h.next:=by
 unfold stAt at hs;rw[gU]at hs;obtain⟨e,sz,live,ro,cs,b,a⟩:=hs;simp only[fm,ei]at a;obtain⟨_,_,_,_,_,a⟩:=a;cases a;rfl
theorem E2 (s:ByteArray) (m:Nat):((s.extract 0 m).data.map λb=>Value.int .u8 b.toNat)=Array.mk ((s.data.toList.take m).map λb=>Value.int .u8 b.toNat):=by
 apply Array.ext';have:=zd s 0 m;simp only[wBT,Nat.sub_zero]at this;rw[Array.toList_map,this]
theorem E6 (Δ:Env) (l:List UInt8):VsRel Δ (bytesV l) (l.map λb=>Value.int .u8 b.toNat):=by
 induction l with
 |nil=>exact .nil
 |cons b l a=>exact .cons _ _ _ _ (.int .u8 _) a
theorem Hs (p:WR Δ h w) {P t size rt:Nat} {q:Array Nat} (z:q[0]? =some P) (Q:P0.underlying P=some (.slice t)) (S:szOf t=some size) {d s:V} {y sv:Value}
  (T:VRel Δ d y) (hs:VRel Δ s sv) {r:R} (f:hcopy size d s h=some r) :
  ∃h' m w',r = .val (.int .i64 (.ofNat m)) h'/\(Builtin.copy_ q rt #[y,sv]).run P0 w = .ok (.int .i64 m) w'/\WR Δ h' w'/\FR Δ Δ w w'/\Gr h Δ h' Δ:=by
 have a:∀(base:Option Addr) (c g:Nat) (m:Nat),y = .slice base c g->(Builtin.lenOf sv).run P0 w = .ok m w->Nat.min m c=0->(Builtin.firstCells size 0 sv).run P0 w = .ok #[] w->
   (Builtin.copy_ q rt #[y,sv]).run P0 w = .ok (.int .i64 (0:Nat)) w:=by
  intro base c g m u B k C;subst u;have v:=pI (w:=w) S;cases base <;> simp[Builtin.copy_,z,ey Q,B,k,v,C,storeCells,goInt]
 have m0:∀(base:Addr) (c g:Nat) (m:Nat) (xs:List Value) (w':World),y = .slice (some base) c g->(Builtin.lenOf sv).run P0 w = .ok m w->
   (Builtin.firstCells size (Nat.min m c) sv).run P0 w = .ok (Array.mk xs) w->(storeCells base xs 0).run P0 w = .ok () w'->
   (Builtin.copy_ q rt #[y,sv]).run P0 w = .ok (.int .i64 (Nat.min m c:Nat)) w':=by
  intro base c g m xs w' u B C D;subst u;have v:=pI (w:=w) S;simp[Builtin.copy_,z,ey Q,B,v,C,D,goInt]
 unfold hcopy at f;split at f
 ·cases T;split at f
  ·cases f;cases hs;exact⟨_,0,w,rfl,a none 0 0 0 rfl rfl rfl rfl,p,.refl _ _,.refl _ _⟩
  ·cases f
   cases hs with
   | slice l off len cap o Y x Z E F=>
     exact⟨_,0,w,rfl,a none 0 0 _ rfl rfl (Nat.min_zero _) (by simp[Builtin.firstCells,loadCells,loadCellsFrom]),p,.refl _ _,.refl _ _⟩
  ·cases f
   cases hs with
   |str s=>exact⟨_,0,w,rfl,a none 0 0 s.size rfl rfl (Nat.min_zero _) (by simp[Builtin.firstCells]),p,.refl _ _,.refl _ _⟩
  ·cases f
 ·rename_i l off len
  cases T with
  | slice _ _ _ i o Y x Z E F=>
    split at f
    ·cases f;cases hs
     exact⟨_,0,w,rfl,a _ len i 0 rfl rfl (Nat.zero_min _) rfl,p,.refl _ _,.refl _ _⟩
    ·rename_i l' U j
     cases hs with
     | slice _ _ _ W so sd G aa X H=>
       cases k:Nat.beq (min j len) 0 with
       | true=>
         simp only[k]at f;cases f;have n:Nat.min j len=0:=wAG k
         exact⟨_,0,w,rfl,a _ len i j rfl rfl n (by simp[Builtin.firstCells,loadCells,loadCellsFrom]),p,.refl _ _,.refl _ _⟩
       | false=>
         have n:0<min j len:=Nat.pos_of_ne_zero λe=>by rw[e]at k;cases k
         simp only[k,ei]at f;obtain⟨cs,I,h2,A,J⟩:=f;cases J;rcases H with⟨rfl,_,_⟩|⟨rfl,_⟩
         ·rcases F with⟨rfl,_,_⟩|⟨rfl,_⟩
          ·obtain⟨xs,c1,c2⟩:=pg p G I
           obtain⟨w',K,L,M⟩:=AJ p x c2 A;exact⟨_,_,w',rfl,m0 _ len i j xs w' rfl rfl (by simpa[Builtin.firstCells]using c1) K,L,M,.same (wB1 (Cr A).symm)⟩
          ·omega
         ·omega
    ·rename_i b
     rw[fm]at f;obtain⟨I,f⟩:=f;have N:size=1:=wAG I;subst N
     cases hs with
     | str s=>
       have O:s.data.toList.length=s.size:=by simp
       rw[O]at f
       cases k:Nat.beq (min s.size len) 0 with
       | true=>
         simp only[k]at f;cases f;have n:Nat.min s.size len=0:=wAG k
         exact⟨_,0,w,rfl,a _ len i s.size rfl rfl n (by simp[Builtin.firstCells]),p,.refl _ _,.refl _ _⟩
       | false=>
         have n:0<min s.size len:=Nat.pos_of_ne_zero λe=>by rw[e]at k;cases k
         simp only[k,ei]at f;obtain⟨h2,A,J⟩:=f;cases J;rcases F with⟨rfl,_,_⟩|⟨rfl,_⟩
         ·obtain⟨w',K,L,M⟩:=AJ p x (E6 Δ _) A
          refine⟨_,_,w',rfl,m0 _ len i s.size _ w' rfl rfl ?_ K,L,M,.same (wB1 (Cr A).symm)⟩;simp only[Builtin.firstCells,E2];rfl
         ·omega
    ·cases f
 ·cases f
theorem BV {d:D} {cs:List V} {c:Array Value} {e:Nat} (hs:c.size=d.asz) (a:d.base=0) (b:cs.length<=d.asz) (hc:∀(i:Nat) (v:V),cs[i]? =some v->∃x,c[i]? =some x/\VRel Δ v x) :
  CellsOk Δ d cs (some (.cells c e (c.size,c.size+1))):=
 ⟨c,e,(c.size,c.size+1),rfl,hs,λ_=> .inr (wB1 hs.symm),by omega,λi v hi=>by rw[a,wAY];exact hc i v hi⟩
theorem FY (o:WR Δ h w) {src dst e:Nat} (hs:P0.underlying src=some .string) (p:P0.underlying dst=some (.slice e)) (q:P0.underlying e=some (.int .u8)) (s:ByteArray) :
  ∃d x w',(convert src dst (.string s)).run P0 w = .ok x w'/\After Δ h w (.slice h.next 0 s.data.toList.length) (h.new (.cells e 1 true false (bytesV s.data.toList))) d x w':=by
 have m:=run_bytes_of_string (P:=P0) w src dst e s hs p q;have c:=grownCap_ge w s.size 0 e;generalize grownCap w s.size 0 e=cap at m c;have f:s.data.toList.length=s.size:=by simp
 have r:(bytesV s.data.toList).length=s.size:=by simp[bytesV]
 have g:(bytesRow s cap).size=cap:=by
  have:s.data.size=s.size:=rfl;simp[bytesRow];omega
 have a:Made Δ (.cells e 1 true false (bytesV s.data.toList)) (λl=> .slice l 0 s.data.toList.length) (.cells (bytesRow s cap) e ((bytesRow s cap).size,(bytesRow s cap).size+1))
   (λb=> .slice (some ⟨b,0,none⟩) s.size cap):=by
  intro l b t;refine⟨⟨b,0,1,(bytesV s.data.toList).length,cap,false,0⟩,rfl,⟨rfl,rfl,rfl,rfl,λ_=>?_⟩,?_⟩
  ·refine BV g rfl (by show(bytesV s.data.toList).length<=cap;omega) λi u hi=>?_;obtain⟨x,n,j⟩:=(CA _ s).get i u hi;refine⟨x,?_,j⟩;have k:i<(s.data.toList.map λb=>Value.int .u8 b.toNat).length:=(wAB.1 n).1;unfold bytesRow;rw[wBx (by simpa using k)];rw[<-n];simp
  ·rw[f];refine VRel.slice l 0 s.size cap 0 ⟨b,0,1,(bytesV s.data.toList).length,cap,false,0⟩ (Env.set_self _ _ _) rfl c (.inl ⟨rfl,?_,?_⟩)
   ·show(bytesV s.data.toList).length<=0+cap*1;omega
   ·show 0+0+cap*1<=cap;omega
 obtain⟨d,a1,a2,a3,a4⟩:=(o.heap (w':=w.drew) rfl).alloc a;exact⟨d,_,_,m,a2,a1,a3.drew,a4⟩
theorem G2 (s:WR Δ h w) {src dst e0 e:Nat} {x:V} {y:Value} (F:VRel Δ x y) (hs:P0.underlying src=some (.slice e0)) (t:P0.underlying dst=some (.slice e)) (G:P0.underlying e=some (.int .u8)) (u:src=dst)
  {r:R} (a:hmark x h=some r):∃C h' w',r = .val C h'/\(convert src dst y).run P0 w = .ok y w'/\After Δ h w C h' Δ y w':=by
 unfold hmark at a;split at a
 ·rename_i l off n;rw[gU]at a;obtain⟨P,sz,live,ro,cs,D,a⟩:=a;simp only[fm]at a;obtain⟨rfl,v,a⟩:=a;cases a;have j:ro=false:=by simpa using v
  subst j
  cases F with
  | slice _ _ _ cap o d k H z I=>
    obtain⟨p,E,J⟩:=s.obj l d k;rw[D]at E;cases E;obtain⟨a1,a2,a3,a4,K⟩:=J;obtain⟨c,A,fr,b1,b2,b3,L,M⟩:=K rfl;subst u;obtain rfl:e0=e:=by rw[hs]at t;cases t;rfl
    obtain ⟨lo,hi⟩:=fr;have N:d.b<w.heap.size:=s.blk l d k;have B:(w.freeze ⟨d.b,c.size,none⟩ 1).heap[d.b]? =some (.cells c A (if lo == hi then(c.size,c.size+1) else(min lo c.size,max hi (c.size+1)))):=by
      unfold World.freeze;rw[if_neg (by omega)];simp only[Array.getElem?_modify,b1,if_true,Option.map_some]
    have g:∀b,b≠d.b->(w.freeze ⟨d.b,c.size,none⟩ 1).heap[b]? =w.heap[b]?:=by
      intro b O;unfold World.freeze;rw[if_neg (by omega)];simp only[Array.getElem?_modify];rw[if_neg (λe=>O e.symm)]
    have m:(w.freeze ⟨d.b,c.size,none⟩ 1).heap.size=w.heap.size:=by
      unfold World.freeze;rw[if_neg (by omega)];simp
    have i:∀b,(w.freeze b 1).os=w.os/\(w.freeze b 1).tape=w.tape/\(w.freeze b 1).output=w.output:=by
      intro b;unfold World.freeze;rw[if_neg (by omega)];exact⟨rfl,rfl,rfl⟩
    refine⟨_,_,w.freeze ⟨d.b,c.size,none⟩ 1,rfl,?_,⟨.slice l off n cap o d k H z I,?_,FR.set k a4 m g (i _).1 (i _).2.1 (i _).2.2,Gr.same (wAF _)⟩⟩
    ·have f:(Go.shape d.b).run P0 w = .ok (some (A,c.size)) w:=by
       show Result.ok (w.shape? d.b) w=_;unfold World.shape?;rw[b1]
     simp only[convert,wAP,ey hs,ey t,wAH,ey G,beq_self_eq_true,markStringish,f,run_freeze];rfl
    ·refine s.set k D rfl a4 (λh=>h) ⟨a1,a2,a3,a4,λ_=>⟨c,A,_,B,b2,λ_=>?_,L,M⟩⟩ m g
     have q:=b3 a4;simp only at q;by_cases hlh:lo=hi
     ·subst hlh
      simp only[beq_self_eq_true,if_true];right;omega
     ·have:(lo == hi)=false:=by simpa using hlh
      simp only[this,wAo,if_false];right;rcases q with q|q
      ·exact absurd q hlh
      ·omega
 ·cases a
end
section
variable{Δ:Env}{h:Hp}{w:World}{n:Nat}{t:Tm}{a:Act}
theorem GV (g:WR Δ h w) {ty o p:Nat} (i:P0.underlying ty=some (.map o p)) {m:V} {mv:Value} (j:VRel Δ m mv) {r:R} (e:hrange m h=some r) :
  ∃v h' f x w',r = .val v h'/\(Instr.range ty mv).run P0 w = .ok x w'/\After Δ h w v h' f x w':=by
 unfold hrange at e;split at e
 ·cases e;cases j
  have a:Made Δ (.iter none 0 [] 0) (λl=> .ptr l 0) (.mapIter none 0 #[] 0) (λb=> .pointer (some ⟨b,0,none⟩)):=λl b k=>
   ⟨⟨b,0,0,0,0,false,2⟩,rfl,⟨rfl,rfl,rfl,none,rfl,rfl⟩,VRel.ptr l 0 ⟨b,0,0,0,0,false,2⟩ (Env.set_self _ _ _)⟩
  obtain⟨f,a1,a2,a3,a4⟩:=g.alloc a;exact⟨_,_,f,_,_,rfl,by simp[Instr.range,ey i],a2,a1,a3,a4⟩
 ·rename_i l;rw[sN]at e;obtain⟨y,c,q,e⟩:=e;cases e
  cases j with
  | map _ d n=>
    obtain⟨s,t,z⟩:=yF g n q
    have a:Made Δ (.iter (some l) c [] c) (λl=> .ptr l 0) (.mapIter (some d.b) c #[] c) (λb=> .pointer (some ⟨b,0,none⟩)):=λu b k=>
      ⟨⟨b,0,0,0,0,false,2⟩,rfl,⟨rfl,rfl,rfl,some d.b,rfl,d,Env.le_set k _ _ n,rfl⟩,VRel.ptr u 0 ⟨b,0,0,0,0,false,2⟩ (Env.set_self _ _ _)⟩
    obtain⟨f,a1,a2,a3,a4⟩:=g.alloc a;exact⟨_,_,f,_,_,rfl,by simp[Instr.range,ey i,gf t],a2,a1,a3,a4⟩
 ·cases e
theorem nt{r:Nat}{m:Option Nat}{s l:Nat}{seen:Array Nat}(a:w.heap[r]? =some (.mapIter m s seen l)):(getObj r).run P0 w = .ok (.mapIter m s seen l) w:=by simp[getObj,Sem.run,a]
theorem Fg {b:List (V×V×Nat)} {a:List MapEntry} (d:ERel Δ b a) (p:Nat->Bool):ERel Δ (b.filter λe=>p e.2.2) (a.filter λe=>p e.born):=by
 induction d with
 |nil=>exact .nil
 | cons k v n e b a f g h _ c=>
   subst h;simp only[wBh];by_cases hp:p e.born=true
   ·simp only[hp,if_true];exact .cons _ _ _ _ _ _ f g rfl c
   ·simp only[hp];exact c
theorem IE {b:List (V×V×Nat)} {a:List MapEntry} (c:ERel Δ b a) (p:Nat->Bool):a.all (λe=>p e.born)=b.all λe=>p e.2.2:=by
 induction c with
 |nil=>rfl
 |cons k v n e b a g h d _ f=>subst d;simp[f]
theorem Hz (s:WR Δ h w) {it:V} {M:Value} {ty:Nat} (hi:VRel Δ it M) {r:R} (f:hnext it h=some r) :
  ∃v h' x w',r = .val v h'/\(Instr.next M false ty).run P0 w = .ok x w'/\After Δ h w v h' Δ x w':=by
 unfold hnext at f;rw[pm]at f;obtain⟨Q,off,rfl,f⟩:=f;rw[fm,ei]at f;obtain⟨h0,o,N,f⟩:=f;have E:off=0:=wAG h0;subst E
 cases hi with
 | ptr _ _ d B=>
   obtain⟨o',O,P⟩:=s.obj Q d B;rw[N]at O;cases O;split at f
   ·cases f
    obtain⟨a1,a2,a3,S,a4,T⟩:=P;subst T;refine⟨_,_,_,w,rfl,?_,.tuple _ #[.bool false] (.one (.bool false)),s,.refl _ _,.refl _ _⟩;rw[a3];simp[Instr.next,nt a4]
   ·rename_i m since seen last
    obtain ⟨a1,a2,a3,S,a4,C,t,rfl⟩:=P;rw[sN]at f;obtain⟨F,c,G,f⟩:=f;rw[fm]at f;obtain⟨u,f⟩:=f;obtain⟨g,D,H⟩:=yF s t G;have j:(!seen.toArray.isEmpty&&!g.isEmpty&&g.all (λe=>decide (e.born >= last)))=false:=by
      have U:g.isEmpty=F.isEmpty:=by
        have:=H.length;cases F <;> cases hes:g with|mk l=>cases l <;> simp_all
      have W:g.all (λe=>decide (e.born >= last))=F.all (λe=>Nat.ble last e.2.2):=by
        rw[<-Array.all_toList];have:=IE H (λn=>Nat.ble last n);rw[<-this];congr 1;funext e;rw[wBn];simp[Nat.ble_eq]
      have X:seen.toArray.isEmpty=seen.isEmpty:=by simp
      rw[X,U,W];simpa only[wBl]using u
    have a:=Fg H (λn=>!seen.contains n);have p:(g.filter λe=>!seen.toArray.contains e.born)=Array.mk (g.toList.filter λe=>!seen.contains e.born):=by
      apply Array.ext';rw[Array.toList_filter];simp
    rw[a3];split at f
    ·rename_i I
     cases f;rw[I]at a;generalize (g.toList.filter λe=>!seen.contains e.born)=L at a p;cases a;refine⟨_,_,_,w,rfl,?_,.tuple _ #[.bool false] (.one (.bool false)),s,.refl _ _,.refl _ _⟩;simp only[Instr.next,wAP,nt a4,wAH,gf D,j,p];simp[Question.forced]
    ·rename_i e I
     rw[fm]at f;obtain⟨y,f⟩:=f;cases f;rw[I]at a;generalize (g.toList.filter λe=>!seen.contains e.born)=L at a p
     cases a with
     | cons k v nb q _ L Y Z z hs=>
       cases hs;have A:q.born<since:=by rw[wBV]at y;rw[z];exact y
       have J:=s.blk _ _ B;have i:∀b,b≠d.b->({w with heap:=w.heap.setIfInBounds d.b (.mapIter (some C.b) since (seen++[nb]).toArray c)}:World).heap[b]? =w.heap[b]?:=λb D=>by
         simp only;rw[wBk (λe=>D e.symm)]
       refine ⟨_,_,_,{w with heap:=w.heap.setIfInBounds d.b (.mapIter (some C.b) since (seen++[nb]).toArray c)},rfl,?_,
         .tuple _ #[.bool true,q.key,q.val] (.cons _ _ _ _ (.bool true) (.cons _ _ _ _ Y (.one Z))),?_,FR.set B a2 (by simp) i rfl rfl rfl,.same (wAF _)⟩
       ·have K:¬(q.born >= since):=by omega
        have f1:(Array.mk [q]).filter (λx=>decide (x.born<since)) = #[q]:=by simp[A]
        have f2:(Array.mk [q]).filter (λx=>decide (x.born >= since)) = #[]:=by simp[K]
        simp only[Instr.next,wAP,nt a4,wAH,gf D,j,p,f1,f2];simp[Question.forced,setObj,Sem.run,a4,z]
       ·refine s.set B N rfl a2 (λh=>h) ⟨a1,a2,a3,some C.b,?_,C,t,rfl⟩ (by simp) i
        simp[J]
    ·cases f
   ·cases f
theorem Hv {c:List (V×V×Nat)} {a:List MapEntry} (g:ERel Δ c a) (st:Nat) {e:V×V×Nat} (b:(c.find? λe=>Nat.beq e.2.2 st)=some e) :
  ∃d,(a.find? λe=>e.born == st)=some d/\VRel Δ e.1 d.key/\VRel Δ e.2.1 d.val:=by
 induction g with
 |nil=>cases b
 | cons k v n e0 c a h i j _ l=>
   subst j;simp only[List.find?_cons]at b⊢;have f:(e0.born == st)=Nat.beq e0.born st:=by rw[wBn];simp
   rw[f]
   cases hq:Nat.beq e0.born st with
   |true=>rw[hq]at b;cases b;exact⟨e0,rfl,h,i⟩
   |false=>rw[hq]at b;exact l b
theorem GC (s:WR Δ h w) {it:V} {t:Value} (hi:VRel Δ it t) {r:R} (a:hentry it h=some r) :
  ∃v x,r = .val v h/\(Instr.entry t).run P0 w = .ok x w/\VRel Δ v x:=by
 unfold hentry at a;rw[pm]at a;obtain⟨y,off,rfl,a⟩:=a;rw[fm,ei]at a;obtain⟨h0,o,z,a⟩:=a;have g:off=0:=wAG h0;subst g
 cases hi with
 | ptr _ _ d A=>
   obtain⟨H,u,B⟩:=s.obj y d A;rw[z]at u;cases u;split at a
   ·rename_i m since seen last
    obtain⟨a1,a2,a3,I,a4,J,i,rfl⟩:=B;rw[sN]at a;obtain⟨K,c,j,a⟩:=a;simp only[fm,ei]at a;obtain⟨hc,st,k,e,l,a⟩:=a;cases a;obtain⟨n,C,D⟩:=yF s i j;obtain⟨p,E,F,G⟩:=Hv D st l;refine⟨_,.tuple #[p.key,p.val],rfl,?_,.tuple _ _ (.cons _ _ _ _ F (.one G))⟩;have q:c=last:=wAG hc;subst q;have b:seen.toArray.back? = some st:=by rw[List.back?_toArray];exact k
    have f:(n.find? λe=>e.born == st)=some p:=by rw[<-Array.find?_toList];exact E
    rw[a3];simp only[Instr.entry,wAP,nt a4,wAH,b,gf C,bne_self_eq_false,wAo,if_false,wAp,f]
   ·cases a
theorem HQ {f:V} {k:Value} {args:List V} {b:Array Value} {ty:Nat} {c:Go.Call} {op:Operand} (hc:c.callee = .value op) (m:a.eval op=k) (j:c.args.map a.eval=b) (n:VRel Δ f k) (o:VsRel Δ args b.toList) {r:R}
  (i:hcall f args=some r):∃g l args',r = .call g l/\VsRel Δ l args'.toList/\(do let d <-resolve a.eval c ty;invoke d.target d.args:Sem Next)=callFunc g args':=by
 unfold hcall at i;split at i
 ·cases i
  cases n with
  | func _ _ _ e h p q=>
    refine⟨_,_,e++b++h,rfl,?_,?_⟩
    ·simp only[Array.toList_append,wAU]
     exact p.append (o.append q)
    ·simp only[resolve,hc,m,j,Deferred.ofValue]
     rfl
 ·cases i
theorem E0 (hW:WR Δ h w) {j:String} {r:V} {rv:Value} {args:List V} {n:Array Value} {ty:Nat} {c:Go.Call} {op:Operand} (hc:c.callee = .invoke op j) (ho:a.eval op=rv) (T:c.args.map a.eval=n)
  (hr:VRel Δ r rv) (ha:VsRel Δ args n.toList) {x:R} (z:hinvoke j r args h=some x) :
  ∃g l args',x = .call g l/\VsRel Δ l args'.toList/\(do let d <-resolve a.eval c ty;invoke d.target d.args:Sem Next).run P0 w=(callFunc g args').run P0 w:=by
 unfold hinvoke at z;split at z
 ·rename_i t v
  cases hr with
  | iface _ _ s K=>
    have D:(do let d <-resolve a.eval c ty;invoke d.target d.args:Sem Next)=callMethod (.iface t s) j n:=by
      simp only[resolve,hc,ho,T];show invoke (.fn (.method j) #[]) (#[.iface t s]++n)=_;have L:(#[Value.iface t s]++n)[0]? =some (.iface t s):=by
        rw[wBx (by simp)];rfl
      have M:(#[Value.iface t s]++n).extract 1 (#[Value.iface t s]++n).size=n:=by
        apply Array.ext';simp
      simp only[invoke,L,M]
    have A:∀{f:Nat} {o:Option Nat},methodOf t j=some (f,o)->∃i m b,P0.info? t=some i/\i.methods.find? (λm=>m.name == j)=some m/\m.path = #[]/\m.func=some (f,b)/\
        ((∃e,P0.underlying t=some (.pointer e)/\((b=true/\o=none)\/(b=false/\o=some e)))\/(b=false/\o=none/\∃J,P0.underlying t=some J/\∀e,J≠ .pointer e)):=by
      intro f o q;unfold methodOf at q;rw[ei]at q;obtain⟨i,hi,q⟩:=q;split at q
      ·rename_i m hf
       refine⟨i,m,?_⟩;have E:i.methods.find? (λm=>m.name == j)=some m:=by rw[<-Array.find?_toList];exact hf
       split at q
       ·rename_i f' e N B u
        cases q;exact⟨true,hi,E,by apply Array.ext';exact N,B,.inl ⟨e,u,.inl ⟨rfl,rfl⟩⟩⟩
       ·rename_i f' e N B u
        cases q;exact⟨false,hi,E,by apply Array.ext';exact N,B,.inl ⟨e,u,.inr ⟨rfl,rfl⟩⟩⟩
       ·rename_i f' J F N B u
        cases q;refine⟨false,hi,E,by apply Array.ext';exact N,B,.inr ⟨rfl,rfl,J,u,λe he=>?_⟩⟩;subst he;exact F e rfl
       ·cases q
      ·cases q
    obtain⟨fuel,O⟩:∃k,P0.types.size+Made.depth=k+1:=⟨P0.types.size+99,rfl⟩
    split at z
    ·rename_i f q
     cases z;obtain⟨i,m,b,L,M,U,W,X⟩:=A q;refine⟨f,_,#[s]++n,rfl,by simp only[Array.toList_append];exact .cons _ _ _ _ K ha,?_⟩;rw[D];have C:(receiverAt t (.val s) b (some ((j.splitOn ".").getLastD j))).run P0 w = .ok s w:=by
       rcases X with⟨e,u,⟨rfl,_⟩|⟨_,G⟩⟩|⟨rfl,_,J,u,F⟩
       ·simp[receiverAt,ey u,Place.get]
       ·cases G
       ·simp only[receiverAt,wAP,ey u,wAH]
        cases J <;> first|rfl|exact absurd rfl (F _)
     have H:(method (P0.types.size+Made.depth) t s j).run P0 w = .ok (f,s) w:=by
       rw[O];simp only[method,wAP,typeInfo,run_program,wAH,L,wAp,M,U,W,follow,C,Array.isEmpty,Array.size_empty,if_true,decide_true]
     simp only[callMethod,wAP,run_program,wAH,H]
    ·rename_i f e q
     rw[ei]at z;obtain⟨y,hy,z⟩:=z;cases z;obtain⟨i,m,b,L,M,U,W,X⟩:=A q;have Y:P0.underlying t=some (.pointer e)/\b=false:=by
       rcases X with⟨e',u,⟨_,G⟩|⟨hb,G⟩⟩|⟨_,G,_⟩
       ·cases G
       ·cases G;exact⟨u,hb⟩
       ·cases G
     obtain ⟨u,rfl⟩:=Y;obtain⟨S,I,Z⟩:=Bt (t:= .tree .leaf []) (xv:=s) hW (λv z=>by cases z;exact K) hy;refine⟨f,_,#[S]++n,rfl,by simp only[Array.toList_append];exact .cons _ _ _ _ Z ha,?_⟩;rw[D];have P:∃ad,s = .pointer (some ad):=by
       cases s with
       | pointer p=>cases p with
         |some ad=>exact⟨ad,rfl⟩
         |none=>simp[Instr.loadAt,Instr.sureAddr]at I
       |_=>simp[Instr.loadAt,Instr.sureAddr]at I
     obtain⟨ad,rfl⟩:=P;have aa:(loadVar e ad).run P0 w = .ok S w:=by simpa[Instr.loadAt,Instr.sureAddr]using I
     have C:(receiverAt t (.val (.pointer (some ad))) false (some ((j.splitOn ".").getLastD j))).run P0 w = .ok S w:=by
       have Q:∀s1 s2,(Builtin.ssaWrapNilChk_ #[t] t #[.pointer (some ad),strVal s1,strVal s2]).run P0 w = .ok (.pointer (some ad)) w:=λ_ _=>rfl;simp only[receiverAt,wAP,ey u,wAH,Place.get,wAp,Q,asAddr,aa]
     have H:(method (P0.types.size+Made.depth) t (.pointer (some ad)) j).run P0 w = .ok (f,S) w:=by
       rw[O];simp only[method,wAP,typeInfo,run_program,wAH,L,wAp,M,U,W,follow,C,Array.isEmpty,Array.size_empty,if_true,decide_true]
     simp only[callMethod,wAP,run_program,wAH,H]
    ·cases z
 ·cases z
theorem G0 (j:WR Δ h w) (A:TR Δ n t a) {o:Oper} {r:R} (i:(writeC o).f t h=some r) :
  (∃v h' J x w',r = .val v h'/\((execOp a.eval o).run P0 w = .ok (.value x) w'\/(x=undef/\(execOp a.eval o).run P0 w = .ok .skip w'))/\After Δ h w v h' J x w')\/
  (∃g l args',r = .call g l/\VsRel Δ l args'.toList/\(execOp a.eval o).run P0 w=(callFunc g args').run P0 w):=by
 obtain⟨dst,op,E,pos,af,gd⟩:=o
 cases op with
 | store ty p x=>
   simp only[writeC]at i;split at i
   ·rename_i size T
    simp only[ei,pm,fm]at i;obtain⟨pv,u,v,q,l,off,rfl,C,h',N,h5⟩:=i;cases h5;obtain⟨w',r1,r2,r3,r4⟩:=GB j T (gW j A u) (gW j A q) C N;exact .inl ⟨_,_,Δ,undef,w',rfl,.inr ⟨rfl,by simp[execOp,r1]⟩,.undef Δ,r2,r3,r4⟩
   ·cases i
 | mapUpdate ty m k x=>
   simp only[writeC]at i;split at i
   ·rename_i U V F
    split at i
    ·rename_i d K
     simp only[ei]at i;obtain⟨mv,u,Z,q,xv,C,N⟩:=i;obtain⟨h',w',rfl,r1,r2,r3,r4⟩:=FM j F K (gW j A u) (gW j A q) (gW j A C) N;exact .inl ⟨_,_,Δ,undef,w',rfl,.inr ⟨rfl,by simp[execOp,r1]⟩,.undef Δ,r2,r3,r4⟩
    ·cases i
   ·cases i
 | insert ty m k x=>
   simp only[writeC]at i;split at i
   ·rename_i U V F
    split at i
    ·rename_i d K
     simp only[ei]at i;obtain⟨mv,u,Z,q,xv,C,N⟩:=i;obtain⟨h',w',rfl,r1,r2,r3,r4⟩:=FM j F K (gW j A u) (gW j A q) (gW j A C) N;exact .inl ⟨_,_,Δ,undef,w',rfl,.inr ⟨rfl,by simp[execOp,r1]⟩,.undef Δ,r2,r3,r4⟩
    ·cases i
   ·cases i
 | range ty x=>
   simp only[writeC]at i;split at i
   ·rename_i U V F
    simp only[ei]at i;obtain⟨mv,u,q⟩:=i;obtain⟨v,h',J,y,w',rfl,r1,r2⟩:=GV j F (gW j A u) q;exact .inl ⟨_,_,J,y,w',rfl,.inl (iK r1),r2⟩
   ·cases i
 | next x isS=>
   cases isS with
   |true=>cases i
   | false=>
     simp only[writeC,ei]at i;obtain⟨mv,u,q⟩:=i;obtain⟨v,h',y,w',rfl,r1,r2⟩:=Hz (ty:=E) j (gW j A u) q
     exact .inl ⟨_,_,Δ,y,w',rfl,.inl (iK r1),r2⟩
 | entry x=>
   simp only[writeC,ei]at i;obtain⟨mv,u,q⟩:=i;obtain⟨v,y,rfl,r1,r2⟩:=GC j (gW j A u) q
   exact .inl ⟨_,_,Δ,y,w,rfl,.inl (iK r1),r2,j,.refl _ _,.refl _ _⟩
 | convert src O x=>
   simp only[writeC]at i;split at i
   ·rename_i e hs K
    split at i
    ·rename_i M T
     simp only[ei]at i;obtain⟨xv,u,q⟩:=i;have P:=gW j A u;split at q
     ·cases q
      generalize hy:a.eval x=y at P
      cases P with
      | str s=>
        obtain⟨J,z,w',r1,r2⟩:=FY j hs K M s;refine .inl ⟨_,_,J,z,w',rfl,.inl (iK ?_),r2⟩;rw[hy];exact r1
     ·cases q
    ·cases i
   ·rename_i e0 e hs K
    split at i
    ·rename_i M hb
     simp only[ei]at i;obtain⟨xv,u,q⟩:=i;have P:=gW j A u;generalize hy:a.eval x=y at P;obtain⟨v',h',w',r1,r3,r2⟩:=G2 j P (src:=src) (dst:=O) (e0:=e0) (e:=e) hs K M (wAG hb) q;refine .inl ⟨v',h',Δ,y,w',r1,.inl (iK ?_),r2⟩;rw[hy];exact r3
    ·cases i
   ·cases i
 | call c =>
   obtain⟨W,args,G⟩:=c
   cases W with
   | builtin b=>
     simp only[writeC]at i
     cases b with
     | append=>
       simp only at i;split at i
       ·rename_i s x sT xT B D
        have Q:args = #[s,x]:=by apply Array.ext';exact B
        have H:G = #[sT,xT]:=by apply Array.ext';exact D
        subst Q;subst H;split at i
        ·rename_i L e' hs F
         have I:=sx hs;split at i
         ·rename_i size by_ z M
          simp only[ei]at i;obtain⟨sv,u,xv,q,C⟩:=i;obtain⟨v,h',J,y,w',rfl,r1,r2⟩:=A6 (ty:=E) (xT:=xT) j I F (λk X=>by cases X) M (gW j A u) (gW j A q) C;refine .inl ⟨_,_,J,y,w',rfl,.inl ?_,r2⟩;simp only[execOp,resolve,List.map_toArray];exact iK r1
         ·cases i
        ·rename_i L hs F
         have I:=sx hs;split at i
         ·rename_i size by_ z M
          simp only[ei]at i;obtain⟨sv,u,xv,q,C⟩:=i;obtain⟨v,h',J,y,w',rfl,r1,r2⟩:=A6 (ty:=E) (xT:=xT) j I F (λk X=>by cases X) M (gW j A u) (gW j A q) C;refine .inl ⟨_,_,J,y,w',rfl,.inl ?_,r2⟩;simp only[execOp,resolve,List.map_toArray];exact iK r1
         ·cases i
        ·cases i
       ·cases i
     | copy =>
       simp only at i;split at i
       ·rename_i d s dT S B D
        have Q:args = #[d,s]:=by apply Array.ext';exact B
        have H:G[0]? =some dT:=by rw[<-wAv,D];rfl
        subst Q;split at i
        ·rename_i L hs
         have I:=sx hs;split at i
         ·rename_i size T
          simp only[ei]at i;obtain⟨dv,u,sv,q,C⟩:=i;obtain⟨h',m,w',rfl,r1,r2,r3,r4⟩:=Hs (rt:=E) j H I T (gW j A u) (gW j A q) C;refine .inl ⟨_,_,Δ,_,w',rfl,.inl ?_,.int _ _,r2,r3,r4⟩;simp only[execOp,resolve,List.map_toArray];exact iK r1
         ·cases i
        ·cases i
       ·cases i
     | delete=>
       simp only at i;split at i
       ·rename_i m k mT S B D
        have Q:args = #[m,k]:=by apply Array.ext';exact B
        have H:G[0]? =some mT:=by rw[<-wAv,D];rfl
        subst Q;split at i
        ·rename_i U V F
         split at i
         ·rename_i d K
          simp only[ei]at i;obtain⟨mv,u,Z,q,C⟩:=i;obtain⟨h',w',rfl,r1,r2,r3,r4⟩:=EZ (rt:=E) j H F K (gW j A u) (gW j A q) C;refine .inl ⟨_,_,Δ,_,w',rfl,.inl ?_,.tuple _ #[] .nil,r2,r3,r4⟩;simp only[execOp,resolve,List.map_toArray];exact iK r1
         ·cases i
        ·cases i
       ·cases i
     |_=>cases i
   | value f=>
     simp only[writeC,ei]at i;obtain⟨fv,u,l,q,C⟩:=i;obtain⟨g,l,args',rfl,r1,r2⟩:=HQ (a:=a) (c:=⟨.value f,args,G⟩) (ty:=E) (args:=l) rfl rfl rfl (gW j A u) (by simpa using tP A q) C;refine .inr ⟨g,l,args',rfl,r1,?_⟩;simp only[execOp]
     rw[r2]
   | invoke Y m=>
     simp only[writeC,ei]at i;obtain⟨fv,u,l,q,C⟩:=i;obtain⟨g,l,args',rfl,r1,r2⟩:=E0 (a:=a) (c:=⟨.invoke Y m,args,G⟩) (ty:=E) j (args:=l) rfl rfl rfl (gW j A u) (by simpa using tP A q) C
     exact .inr ⟨g,l,args',rfl,r1,r2⟩
 |_=>cases i
end
