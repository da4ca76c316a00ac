/- Parts. -/
import Derived.Test.YtpnddokajmjpbaaDoorM02
import Derived.Laws.AppendOwn
import Derived.Laws.NewFold
import Derived.Laws.IdiomStrings
namespace Go.Proofs.YtpnddokajmjpbaaDoor.Hx
structure Gr (h:Hp) (Δ:Env) (h':Hp) (a:Env):Prop where
 next:h.next<=h'.next
 none:∀l,Δ l = .none->l<h.next->a l = .none
theorem Gr.refl (h:Hp)(Δ:Env):Gr h Δ h Δ:=⟨iW _,λ_ h _=>h⟩
theorem Gr.trans {h h' c:Hp} {Δ e d:Env} (a:Gr h Δ h' e) (b:Gr h' e c d):Gr h Δ c d:=
 ⟨Ez a.next b.next,λl g f=>b.none l (a.none l g f) (Ac f a.next)⟩
theorem Gr.same{h h':Hp}{Δ:Env}(a:h.next<=h'.next):Gr h Δ h' Δ:=⟨a,λ_ h _=>h⟩
theorem Gr.set {h h':Hp} {Δ:Env} {d:D} (b:h.next<=h'.next):Gr h Δ h' (Δ.set h.next d):=
 ⟨b,λl c a=>by unfold Env.set;rw[if_neg (O6 a)];exact c⟩
theorem WR.alloc {Δ:Env} {h:Hp} {w:World} (a:WR Δ h w) {ob:O} {mk:Nat->V} {c:Obj} {e:Nat->Value} (f:Made Δ ob mk c e) :
  ∃b,WR b (h.new ob) (w.alloc c)/\fI b (mk h.next) (e w.heap.size)/\FR Δ b w (w.alloc c)/\Gr h Δ (h.new ob) b:=by
 obtain⟨d,hb,g,hv⟩:=f h.next w.heap.size a.DR;exact⟨Δ.set h.next d,(a.more ob).lay a.DR (IS _) (by rw[uE,if_pos rfl]) hb g,hv,FR.lay a.DR hb,Gr.set (Nv _)⟩
theorem uw (g o e:Nat) (fr:Nat×Nat):∀(vs:List Value) (i:Nat) (cur:Array Value) (w:World),w.heap[g]? =some (.cells cur e fr)->(∀j,j<cur.size->¬(fr.1<=j/\j<fr.2))->
  o+i+vs.length<=cur.size->(∀v∈vs,v.oneCell' = true)->
  (storeCells ⟨g,o,none⟩ vs i).run P0 w = .ok () (w.setRow g (cur.toList.take (o+i)++vs++cur.toList.drop (o+i+vs.length)).toArray)
 | [],i,cur,w,hg,_,_,_=>by
   simp only[storeCells,Co,VR,VP,VM,Array.toArray_toList];rw[setRow_self w g cur e fr hg]
   rfl
 | v ::rest,i,cur,w,hg,hf,hl,d=>by
   have hi:o+i<cur.size:=by simp at hl;omega
   have a:w.cell? ⟨g,o+i,none⟩=some cur[o+i]:=by simp[World.cell?,hg,hi]
   have b:w.frozen? ⟨g,o+i,none⟩=false:=by
     have:=hf (o+i) hi;simp only[World.frozen?,hg];simpa using this
   have c:(store ((⟨g,o,none⟩:Addr).add i) v).run P0 w = .ok () (w.setRow g (cur.setIfInBounds (o+i) v)):=by
     rw[nY,run_store P0 w _ v _ (d v (by simp)),a];simp[b,setCell_eq_setRow w g (o+i) cur e fr v hg]
   have f:=uw g o e fr rest (i+1) (cur.setIfInBounds (o+i) v) (w.setRow g (cur.setIfInBounds (o+i) v)) (setRow_heap w g cur _ e _ hg) (by simpa using hf) (by simp at hl⊢;omega) (λx hx=>d x (by simp[hx]));simp only[storeCells,pB,c,oD,f,setRow_setRow];congr 3;have e:=list_seg_step cur.toList (o+i) v rest (by simp at hl⊢;omega);simpa[wBx,Xy]using e
theorem Ry (l vs:List Value) (k:Nat) (c:k+vs.length<=l.length) (j:Nat) :
  (l.take k++vs++l.drop (k+vs.length))[j]? =if k<=j/\j<k+vs.length then vs[j-k]? else l[j]?:=by
 rw[Cy,List.getElem?_append,FY,ZF (by omega)];by_cases a:j<k
 ·rw[if_pos a,if_neg (by omega),VF a]
 ·rw[if_neg a,List.getElem?_append];by_cases b:j-k<vs.length
  ·rw[if_pos b,if_pos (by omega)]
  ·rw[if_neg b,if_neg (by omega),Tj];congr 1;omega
theorem Jr (l vs:List Value) (k:Nat) (a:k+vs.length<=l.length):(l.take k++vs++l.drop (k+vs.length)).length=l.length:=by
 simp;omega
theorem WR.set {Δ:Env} {h:Hp} {w w':World} (k:WR Δ h w) {l:Nat} {d:D} {o E:O} (G:Δ l=some d) (t:h.get l=some o) (v:o.live=true) (A:d.ro=false)
  (i:E.live=true->o.live=true) (N:O7 Δ d E w'.heap[d.b]?) (H:w'.heap.size=w.heap.size) (K:∀b,b≠d.b->w'.heap[b]? =w.heap[b]?):WR Δ (h.put l E) w' where
 fresh:=k.fresh
 mS:=λm e q=>by rw[H];exact k.mS m e q
 obj:=λm e q=>by
  by_cases he:l=m
  ·subst he;rw[G]at q;cases q;exact⟨E,by rw[oE _ _ (Hp.KV t),if_pos rfl],N⟩
  ·obtain ⟨p,u,B⟩:=k.obj m e q;refine⟨p,by rw[oE _ _ (Hp.KV t),if_neg he];exact u,?_⟩;by_cases hb:e.b=d.b
   ·have a:p.live=false:=by
     cases j:p.live with
     |false=>rfl
     |true=>exact absurd hb.symm (k.apart l m d e o p G q he t u v j (.inl A))
    cases p with
    | cells F sz live ro cs=>
      obtain⟨a1,a2,a3,P,_⟩:=B
      exact⟨a1,a2,a3,P,λL=>by simp only[O.live]at a;rw[a]at L;cases L⟩
    |map R c=>cases a
    |iter m s x c=>cases a
   ·rw[K _ hb];exact B
 apart:=λm I e F p M q y r j f z n J=>by
  rw[oE _ _ (Hp.KV t)]at j f;by_cases u:l=m
  ·subst u;rw[if_pos rfl]at j;cases j;rw[if_neg r]at f;exact k.apart l I e F o M q y r t f (i z) n J
  ·rw[if_neg u]at j;by_cases B:l=I
   ·subst B;rw[if_pos rfl]at f;cases f;exact k.apart m l e F p o q y r j t z (i n) J
   ·rw[if_neg B]at f;exact k.apart m I e F p M q y r j f z n J
 Fo:=λg p C j=>by
  rw[oE _ _ (Hp.KV t)]at j;by_cases u:l=g
  ·subst u;exact k.Fo l o C t
  ·rw[if_neg u]at j;exact k.Fo g p C j
 xu:=k.xu
 Rg:=k.Rg.step (λb _ Q=>K b λe=>Q ⟨l,d,G,A,e.symm⟩) λ_ _ h _=> .inl h
theorem FR.set {Δ:Env} {w w':World} {l:Nat} {d:D} (f:Δ l=some d) (a:d.ro=false) (c:w'.heap.size=w.heap.size) (g:∀b,b≠d.b->w'.heap[b]? =w.heap[b]?)
  (i:w'.os=w.os) (j:w'.tape=w.tape) (k:w'.output=w.output):FR Δ Δ w w':=
 ⟨Env.le_refl _,VH c.symm,i,j,k,λb _ hb=>g b λe=>hb ⟨l,d,f,a,e.symm⟩,λ_ _ h=> .inl h⟩
theorem WR.kill {Δ:Env} {h:Hp} {w:World} (f:WR Δ h w) {l e sz:Nat} {cs:List V} (g:h.get l=some (.cells e sz true false cs)) {d:D} (i:Δ l=some d) :
  WR Δ (h.put l (.cells e sz false false cs)) w/\(∀m a p,m≠l->Δ m=some a->h.get m=some p->p.live=true->a.b≠d.b)/\d.ro=false:=by
 obtain⟨o,n,q⟩:=f.obj l d i;rw[g]at n;cases n;obtain⟨a1,a2,a3,c,t⟩:=q;refine⟨f.set i g rfl c (λh=>(nomatch h)) ⟨a1,a2,a3,c,λh=>(nomatch h)⟩ rfl (λ_ _=>rfl),λm a p j r s k=>?_,c⟩;exact f.apart m l a d p _ r i j s g k rfl (.inr c)
section
variable{Δ:Env}{h:Hp}{w:World}{n:Nat}{t:Tm}{a:Act}
theorem Jq (z:WR Δ h w) {l:Nat} {d:D} (r:Δ l=some d) {off:Nat} {new:List V} {Oi:List Value} (s:gh Δ new Oi) {h':Hp} (hv:CB h l off new=some h') :
  ∃w',(storeCells ⟨d.b,d.base+off,none⟩ Oi 0).run P0 w = .ok () w'/\WR Δ h' w'/\FR Δ Δ w w':=by
 unfold CB at hv;rw[j8]at hv;obtain⟨e,sz,live,ro,cs,A,hv⟩:=hv;simp only[gM,fj]at hv;obtain⟨rfl,t,k,mR,hs,hv⟩:=hv;cases hv;have m:ro=false:=by simpa using t
 subst m;obtain⟨n,B,u⟩:=HC hs;obtain⟨o,C,E⟩:=z.obj l d r;rw[A]at C;cases C;obtain⟨a1,a2,a3,q,F⟩:=E;obtain⟨c,y,fr,b1,b2,b3,G,H⟩:=F rfl;have I:=s.length;have a:d.base+off+Oi.length<=c.size:=by omega
 have f:=uw d.b (d.base+off) y fr Oi 0 c w b1 (λj J=>Vc (b3 q) j (by omega)) (by simpa using a) (s.zaT k);simp only[VP]at f;refine⟨_,f,z.set r A rfl q (λh=>h) ⟨a1,a2,by rw[n];exact a3,q,λ_=>?_⟩ (by simp) (λb hb=>setRow_other _ _ _ _ hb),FR.set r q (by simp) (λb hb=>setRow_other _ _ _ _ hb) rfl rfl rfl⟩;refine⟨_,y,fr,setRow_heap w d.b c _ y fr b1,?_,b3,by rw[n];exact G,λi v hi=>?_⟩
 ·have:=Jr c.toList Oi (d.base+off) (by simpa using a);simp only[Rp]at this;rw[<-b2,<-this];rfl
 ·rw[u i]at hi;have p:=Ry c.toList Oi (d.base+off) (by simpa using a) (d.base+i);rw[wB5,p];by_cases hin:off<=i/\i<off+new.length
  ·rw[if_pos hin]at hi;rw[if_pos (by omega)];obtain⟨x,hx,g⟩:=s.get _ _ hi;refine⟨x,?_,g⟩;rw[<-hx];congr 1;omega
  ·rw[if_neg hin]at hi;rw[if_neg (by omega)];obtain⟨x,hx,g⟩:=H i v hi;exact⟨x,by simpa using hx,g⟩
end
structure xE (Δ:Env) (h:Hp) (w:World) (v:V) (h':Hp) (a:Env) (x:Value) (w':World):Prop where
 val:fI a v x
 world:WR a h' w'
 frame:FR Δ a w w'
 grow:Gr h Δ h' a
theorem WR.heap {Δ:Env} {h:Hp} {w w':World} (a:WR Δ h w) (b:w'.heap=w.heap):WR Δ h w':=
 ⟨a.fresh,λl d e=>by rw[b];exact a.mS l d e,λl d e=>by rw[b];exact a.obj l d e,a.apart,a.Fo,a.xu,λg c f=>by rw[b];exact a.Rg g c f⟩
theorem WR.UB {Δ:Env} {h:Hp} {w:World} (i:WR Δ h w) {l:Nat} {o:O} {d:D} (z:Δ l=none) (F:l<h.next) (G:h.get l=some o) (hb:d.b<w.heap.size)
  (H:O7 (Δ.set l d) d o w.heap[d.b]?) (j:∀m A p,Δ m=some A->h.get m=some p->p.live=true->A.b≠d.b) (u:RW Δ d.b):WR (Δ.set l d) h w where
 fresh:=λm e a=>by
  rcases Env.kT a with⟨rfl,rfl⟩|⟨_,a⟩
  ·exact F
  ·exact i.fresh m e a
 mS:=λm e a=>by
  rcases Env.kT a with⟨rfl,rfl⟩|⟨_,a⟩
  ·exact hb
  ·exact i.mS m e a
 obj:=λm e a=>by
  rcases Env.kT a with⟨rfl,rfl⟩|⟨_,a⟩
  ·exact⟨o,G,H⟩
  ·obtain⟨I,c,k⟩:=i.obj m e a;exact⟨I,c,k.mono (Env.xe z)⟩
 apart:=λm B e C p E a v n s q r f x=>by
  rcases Env.kT a with⟨c,k⟩|⟨_,c⟩ <;> rcases Env.kT v with⟨t,J⟩|⟨_,t⟩
  ·exact absurd (c.trans t.symm) n
  ·rw[k];exact(j B C E t q f).symm
  ·rw[J];exact j m e p c s r
  ·exact i.apart m B e C p E c t n s q r f x
 Fo:=λg p y s=>by
  obtain⟨e,c,k⟩:=i.Fo g p y s;exact⟨e,Env.xe z _ _ c,k⟩
 xu:=i.xu
 Rg:=i.Rg.step (λ_ _ _=>rfl) λm e a _=>by
  rcases Env.kT a with⟨rfl,rfl⟩|⟨_,a⟩
  ·exact .inr (.inr u)
  ·exact .inl a
theorem FR.UB {Δ:Env} {w w':World} {l:Nat} {d:D} (f:Δ l=none) (h:FR Δ Δ w w') (a:RW Δ d.b):FR Δ (Δ.set l d) w w' where
 le:=Env.xe f
 size:=h.size
 os:=h.os
 tape:=h.tape
 output:=h.output
 fc:=h.fc
 new:=λm e c=>by
  rcases Env.kT c with⟨rfl,rfl⟩|⟨_,c⟩
  ·exact .inr (.inr a)
  ·exact .inl c
theorem FR.drew{Δ a:Env}{w w':World}(h:FR Δ a w.drew w'):FR Δ a w w':=⟨h.le,h.size,h.os,h.tape,h.output,h.fc,h.new⟩
section
variable{Δ:Env}{h:Hp}{w:World}{n:Nat}{t:Tm}{a:Act}
theorem LZ (Δ:Env) (s:ByteArray):gh Δ (vH s.data.toList) (s.data.toList.map λb=>Value.int .u8 b.toNat):=by
 generalize s.data.toList=l
 induction l with
 |nil=>exact .nil
 |cons b l a=>exact .cons _ _ _ _ (.int .u8 _) a
theorem LO (i:WR Δ h w) {size:Nat} {x:V} {xv:Value} {m:Nat} {cs:List V} (hx:fI Δ x xv) (hv:jM h size x=some (m,cs)) :
  ∃a,gh Δ cs a/\(∀w',(Builtin.lenOf xv).run P0 w' = .ok m w')/\(Builtin.firstCells size m xv).run P0 w = .ok (Array.mk a) w/\a.length=m*size:=by
 unfold jM at hv;split at hv
 ·cases hv;cases hx;exact⟨[],.nil,λ_=>rfl,rfl,by simp⟩
 ·cases hv;cases hx;exact⟨[],.nil,λ_=>rfl,by simp[Builtin.firstCells,loadCells,loadCellsFrom],by simp⟩
 ·rename_i l off k;rw[fj]at hv;obtain⟨mR,b,c⟩:=hv;cases c
  cases hx with
  | slice _ _ _ cap o d j r e n=>
    rcases n with⟨rfl,_,_⟩|⟨rfl,_⟩
    ·obtain⟨xs,p,g⟩:=uy i j b
     exact⟨xs,g,λ_=>rfl,by simpa[Builtin.firstCells]using p,by rw[<-g.length,Of b];rfl⟩
    ·simp at e
 ·rename_i s;rw[gM]at hv;obtain⟨b,c⟩:=hv;cases c;have f:size=1:=tU b;subst f
  cases hx with
  | str s=>
    refine ⟨_,LZ Δ s,λ_=>by simp[Builtin.lenOf],?_,by simp⟩;have q:s.extract 0 s.size=s:=by
      rw[ByteArray.ext_iff];simp
    simp only[Builtin.firstCells];have:s.data.toList.length=s.size:=by simp
    rw[this,q];simp only[DW];congr 1;apply Array.ext';simp
 ·cases hv
theorem p6 {n xT ty e:Nat} {j:TypeDesc} (hs:P0.underlying n=some (.slice e)) (hx:P0.underlying xT=some j) (hi:∀k,j≠ .int k) {size:Nat} (o:wU e=some size)
  {base:Option Addr} {a c m:Nat} {x:Value} (hlen:(Builtin.lenOf x).run P0 w = .ok m w) {f:List Value} (g:(Builtin.firstCells size m x).run P0 w = .ok (Array.mk f) w)
  (d:a+m<=c) {w':World} (l:∀b,base=some b->(storeCells (b.add (a*size)) f 0).run P0 w = .ok () w') (p:base=none->w' = w) :
  (Builtin.append_ #[n,xT] ty #[.slice base a c,x]).run P0 w = .ok (.slice base (a+m) c) w':=by
 have h:=uJ (w:=w) o;have i:(match (generalizing:=false) j with| .int _=>true|_=>false)=false:=by cases j <;> first|rfl|exact absurd rfl (hi _)
 cases base with
 | none=>
   cases p rfl
   simp[Builtin.append_,fG hs,fG hx,h,i,hlen,d,g]
 |some b=>simp[Builtin.append_,fG hs,fG hx,h,i,hlen,d,g,l b rfl]
theorem HB {C xT ty c:Nat} {q:TypeDesc} (hs:P0.underlying C=some (.slice c)) (hx:P0.underlying xT=some q) (hi:∀k,q≠ .int k) {size jr:Nat} {z:V}
  (G:elemOf c=some (size,jr,z)) {base:Option Addr} {a b m:Nat} {x:Value} (hlen:(Builtin.lenOf x).run P0 w = .ok m w) {d e:List Value}
  (f:(Builtin.firstCells size a (.slice base a b)).run P0 w.drew = .ok (Array.mk d) w.drew)
  (g:(Builtin.firstCells size m x).run P0 w.drew = .ok (Array.mk e) w.drew) (H:¬a+m<=b) (hb:(a+m)*jr<=70368744177664) (M:a+m<=70368744177664) :
  ∃D,D.size=size/\(Builtin.append_ #[C,xT] ty #[.slice base a b,x]).run P0 w = .ok (.slice (some ⟨w.heap.size,0,none⟩) (a+m) (grownCap w (a+m) b c))
   (w.drew.alloc (.cells (Array.mk d++Array.mk e++Builtin.zeroCells D (grownCap w (a+m) b c-(a+m))) c)):=by
 obtain⟨r,h,s,E,I,_⟩:=D1 G;obtain⟨J,K,l,i,j,t⟩:=ym s;have u:(match (generalizing:=false) q with| .int _=>true|_=>false)=false:=by cases q <;> first|rfl|exact absurd rfl (hi _)
 have v:i.bytes=jr:=by
  unfold WG at h;rw[fj]at h;obtain⟨L,n,y⟩:=h;rw[j]at n;cases n;simpa using y
 have A:i.size=size:=by
  obtain⟨L,n,y⟩:=Bw r;rw[j]at n;cases n;exact y
 have F:Builtin.nextslicecap (a+m) b*i.bytes<=281474976710656:=growslice_fits (by omega) (by rw[v];omega);have o:¬(281474976710656<Builtin.nextslicecap (a+m) b*i.bytes):=by omega
 have p:¬(9223372036854775807<((a:Int)+(m:Int))):=by omega
 have B:=(l λ_=>none).cells.length;refine⟨J.cells,by simp only[Rp]at B;omega,?_⟩;rw[<-A]at f g;have hq:(Question.appendCap (a+m) b c).forced=false:=rfl;simp[Builtin.append_,fG hs,fG hx,sizeOf,typeInfo,zeroValue,j,t,u,hlen,H,p,o,hq,f,g,newRow,grownCap];congr 2;apply Array.ext';simp
theorem JW (H : WR Δ h w) {sT xT ty g:Nat} {dx:TypeDesc} (hs:P0.underlying sT=some (.slice g)) (hx:P0.underlying xT=some dx) (hi:∀k,dx≠ .int k) {size jr:Nat} {z:V}
    (hz:elemOf g=some (size,jr,z)) {s x:V} {sv xv:Value} (Q:fI Δ s sv) (ak:fI Δ x xv) {r:R} (hv:eR g size jr s x h=some r) :
    ∃v h' O y w',r = .val v h'/\(Builtin.append_ #[sT,xT] ty #[sv,xv]).run P0 w = .ok y w'/\xE Δ h w v h' O y w':=by
  obtain⟨S,aY,aZ,U,a6,_⟩:=D1 hz;unfold eR at hv;rw[fj]at hv;obtain⟨⟨m,cs⟩,h1,t⟩:=hv;obtain⟨n,n1,n2,n3,n4⟩:=LO H ak h1;have al:WR Δ h w.drew:=H.heap rfl;obtain⟨E,d1,d2,d3,d4⟩:=LO al ak h1;have am:cs.length=m*size:=by rw[n1.length,n4]
  cases hm:Nat.beq m 0 with
  | true=>
    have aa:m=0:=tU hm;subst aa;simp only[hm]at t;have aB:n=[]:=Rf (by simpa using n4);subst aB;split at t
    ·cases t;cases Q
     exact⟨_,_,Δ,_,w,rfl,p6 hs hx hi S (n2 w) n3 (iW _) (λb hb=>by cases hb) (λ_=>rfl),.ec,H,.refl _ _,.refl _ _⟩
    ·cases t
     cases Q with
     | slice l off len cap o d I hk K ho=>
       exact⟨_,_,Δ,_,w,rfl,p6 hs hx hi S (n2 w) n3 K (λb hb=>rfl) (λ_=>rfl),.slice _ _ _ cap o d I hk K ho,H,.refl _ _,.refl _ _⟩
    ·cases t
  | false =>
    have aa:0<m:=Nat.pos_of_ne_zero λe=>by rw[e]at hm;cases hm
    simp only[hm,gM]at t;obtain⟨W,t⟩:=t
    have fresh:∀(base:Option Addr) (a A:Nat) (f:List Value) (vR:List V) (h0:Hp),sv = .slice base a A->gh Δ vR f->f.length=a*size->
        (Builtin.firstCells size a (.slice base a A)).run P0 w.drew = .ok (Array.mk f) w.drew->¬a+m<=A->(a+m)*jr<=70368744177664->a+m<=70368744177664->
        WR Δ h0 w->h0.next=h.next->
        ∃O y w',(Builtin.append_ #[sT,xT] ty #[sv,xv]).run P0 w = .ok y w'/\xE Δ h w (.slice h.next 0 (a+m)) (h0.new (.cells g size true false (vR++cs))) O y w':=by
      intro base a A f vR h0 an X L B hg hb aC aD wm;obtain⟨zc,aE,hr⟩:=HB (ty:=ty) hs hx hi hz (n2 w) B d3 hg hb aC;have M:=grownCap_ge w (a+m) A g;generalize grownCap w (a+m) A g=nc at hr M
      have ab:Made Δ (.cells g size true false (vR++cs)) (λl=> .slice l 0 (a+m)) (.cells (Array.mk f++Array.mk E++Builtin.zeroCells zc (nc-(a+m))) g)
          (λb=> .slice (some ⟨b,0,none⟩) (a+m) nc):=by
        intro l b hn;have K:=Env.xe (d:=⟨b,0,size,(vR++cs).length,nc*size,false,0⟩) hn;have ao:=X.append d1;have hlen:(vR++cs).length=(a+m)*size:=by rw[zL,X.length,L,am,JJ]
        have aU:(a+m)*size<=nc*size:=wB6 _ M;refine⟨⟨b,0,size,(vR++cs).length,nc*size,false,0⟩,rfl,⟨rfl,rfl,rfl,rfl,λ_=>?_⟩,?_⟩
        ·refine z7 ?_ rfl (by show(vR++cs).length<=nc*size;omega) λi u C=>?_
         ·show(Array.mk f++Array.mk E++Builtin.zeroCells zc (nc-(a+m))).size=nc*size
          simp only[Array.size_append,List.size_toArray,size_zeroCells,aE,L,d4];rw[<-JJ,<-JJ];congr 1;omega
         ·obtain⟨y,hy,aF⟩:=ao.get i u C
          refine⟨y,?_,aF.mono K⟩;have D:i<(f++E).length:=(iB.1 hy).1;rw[wBy (by simpa using D)];simpa using hy
        ·refine fI.slice l 0 (a+m) nc 0 _ (Env.tP _ _ _) rfl M (.inl ⟨rfl,?_,?_⟩)
         ·show(vR++cs).length<=0+nc*size;omega
         ·show 0+0+nc*size<=nc*size;omega
      obtain⟨O,a1,a2,a3,P⟩:=(aD.heap (w':=w.drew) rfl).alloc ab;have aG:Gr h Δ (h0.new (.cells g size true false (vR++cs))) O:=⟨by rw[<-wm];exact P.next,λl hl D=>P.none l hl (by rw[wm];exact D)⟩
      rw[wm]at a2;exact⟨O,_,_,an▸hr,a2,a1,a3.drew,aG⟩
    split at t
    ·simp only[gM]at t
     obtain⟨h3,h4,h5⟩:=t;cases h5;cases Q;have T:m*jr<=70368744177664:=G9 h3;have ac:m<=70368744177664:=G9 h4;obtain⟨O,y,w',b1,b2⟩:=fresh none 0 0 [] [] h rfl .nil (by simp) rfl (by omega) (by simpa using T) (by simpa using ac) H rfl;exact⟨_,_,O,y,w',rfl,b1,by simpa using b2⟩
    ·rename_i l off len
     rw[j8]at t;obtain⟨e,sz,live,ro,all,hg,t⟩:=t;simp only[gM]at t;obtain⟨rfl,aH,ap,t⟩:=t;have ae:sz=size:=tU ap;subst ae;have aq:ro=false:=by simpa using aH
     subst aq
     cases Q with
     | slice _ _ _ cap o d I hk K ho=>
       obtain⟨ob,ar,hr⟩:=H.obj l d I;rw[hg]at ar;cases ar;obtain⟨a1,a2,a3,P,a5⟩:=hr;obtain⟨c,e',fr,b1,b2,b3,b5,b4⟩:=a5 rfl;rw[a2]at ho;have au:(len+m)*sz=len*sz+m*sz:=JJ _ _ _;have a7:0<m*sz:=Nat.mul_pos aa U
       cases hin:Nat.ble (Nat.add off (Nat.mul (Nat.add len m) sz)) all.length with
       | true =>
         simp only[hin,fj]at t;obtain⟨mR,h3,h4⟩:=t;cases h4;have aV:off+(len+m)*sz<=all.length:=G9 hin;rcases ho with⟨rfl,J,ag⟩|⟨rfl,J⟩
         ·have q:len+m<=cap:=by
            rcases Nq cap (len+m)with D|M
            ·exfalso
             have:cap*sz<(len+m)*sz:=Nat.mul_lt_mul_of_pos_right D U;omega
            ·exact M
          have aI:CB h l (off+len*sz) cs=some (h.put l (.cells e sz true false mR)):=by
            unfold CB;rw[j8];refine⟨e,sz,true,false,all,hg,?_⟩;simp only[gM,fj];exact⟨trivial,rfl,W,mR,h3,rfl⟩
          obtain⟨w',c1,c2,c3⟩:=Jq H I n1 aI;refine⟨_,_,Δ,_,w',rfl,p6 hs hx hi S (n2 w) n3 q (λb hb=>?_) (λhb=>by cases hb),?_,c2,c3,.same (iW _)⟩
          ·cases hb
           rw[nY,Xy];exact c1
          ·exact .slice l off (len+m) cap _ d I hk q (.inl ⟨rfl,by rw[a2];exact J,by rw[a2];exact ag⟩)
         ·exfalso;omega
       | false =>
         simp only[hin,fj,gM]at t;obtain⟨vR,h3,aJ,h4,h5,h6⟩:=t;cases h6;have ac:(len+m)*jr<=70368744177664:=G9 h4;have aK:len+m<=70368744177664:=G9 h5;have T:sub all off (len*sz)=some vR:=h3;obtain⟨ah,aL⟩:=sub_eq T;obtain⟨aM,aN,_⟩:=H.kill hg I;have aO:Ey h l off (len*sz)=some vR:=by
           unfold Ey;rw[j8];exact⟨e,sz,true,false,all,hg,by rw[gM];exact⟨rfl,T⟩⟩
         by_cases q:len+m<=cap
         ·rcases ho with⟨rfl,J,ag⟩|⟨rfl,J⟩
          ·have aW : (len+m)*sz<=cap*sz:=wB6 _ q
           have Y:d.base+off+len*sz+n.length<=c.size:=by rw[n4];omega
           have B:=uw d.b (d.base+off+len*sz) e' fr n 0 c w b1 (λj hj=>Vc (b3 P) j (by omega)) (by simpa using Y) (n1.zaT W);simp only[VP]at B;have N:d.base+off+len*sz+n.length<=c.toList.length:=by simpa using Y
           generalize hw':w.setRow d.b (c.toList.take (d.base+off+len*sz)++n++c.toList.drop (d.base+off+len*sz+n.length)).toArray=w' at B;have F:w'.heap.size=w.heap.size:=by rw[<-hw'];simp
           have G:∀b,b≠d.b->w'.heap[b]? =w.heap[b]?:=λb hb=>by rw[<-hw'];exact setRow_other _ _ _ _ hb
           have aw:w'.heap[d.b]? =some (.cells (c.toList.take (d.base+off+len*sz)++n++c.toList.drop (d.base+off+len*sz+n.length)).toArray e' fr):=by
             rw[<-hw'];exact setRow_heap w d.b c _ e' fr b1
           have ax:WR Δ (h.put l (.cells e sz false false all)) w':=H.set I hg rfl P (λh=>(nomatch h)) ⟨a1,a2,a3,P,λh=>(nomatch h)⟩ F G;have aP:FR Δ Δ w w':=FR.set I P F G (by rw[<-hw'];rfl) (by rw[<-hw'];rfl) (by rw[<-hw'];rfl);have hn:=H.DR;have a8:(vR++cs).length=(len+m)*sz:=by rw[zL,ah,am,au]
           have Z:=Env.xe (d:=⟨d.b,d.base+off,sz,(vR++cs).length,d.Pg,false,0⟩) hn
           refine ⟨_,_,Δ.set h.next ⟨d.b,d.base+off,sz,(vR++cs).length,d.Pg,false,0⟩,_,w',rfl,
             p6 hs hx hi S (n2 w) n3 q (λb hb=>?_) (λhb=>by cases hb),?_,?_,aP.UB hn ⟨l,d,I,P,rfl⟩,Gr.set (Nv _)⟩
           ·cases hb
            rw[nY];exact B
           ·refine .slice h.next 0 (len+m) cap (d.base+off) ⟨d.b,d.base+off,sz,(vR++cs).length,d.Pg,false,0⟩ (Env.tP _ _ _) rfl q (.inl ⟨rfl,?_,?_⟩)
            ·show(vR++cs).length<=0+cap*sz;omega
            ·show d.base+off+0+cap*sz<=d.Pg;omega
           ·refine (ax.more (.cells g sz true false (vR++cs))).UB (o:= .cells g sz true false (vR++cs)) (d:=⟨d.b,d.base+off,sz,(vR++cs).length,d.Pg,false,0⟩) hn (IS _) (by rw[uE];exact if_pos rfl) (by rw[F];exact H.mS l d I) ⟨rfl,rfl,rfl,rfl,λ_=>?_⟩ (λm' d' p ay hp aA=>?_) ⟨l,d,I,P,rfl⟩
            ·refine ⟨_,e',fr,aw,?_,λ_=>b3 P,?_,λi v C=>?_⟩
             ·have:=Jr c.toList n _ N
              simp only[Rp]at this;show _=d.Pg;rw[<-b2,<-this];rfl
             ·show d.base+off+(vR++cs).length<=d.Pg;omega
             ·show ∃x,(List.toArray _)[d.base+off+i]? =some x/\_
              rw[wB5,Ry c.toList n _ N];rw[List.getElem?_append]at C;by_cases D:i<vR.length
              ·rw[if_pos D,aL i (by omega)]at C
               obtain⟨x,ai,aj⟩:=b4 _ _ C;rw[if_neg (by omega)];exact⟨x,by rw[QM,Xy];exact ai,aj.mono Z⟩
              ·rw[if_neg D]at C
               obtain⟨x,ai,aj⟩:=n1.get _ _ C;have aX:=(iB.1 C).1;rw[if_pos (by omega)];refine⟨x,?_,aj.mono Z⟩;rw[<-ai];congr 1;omega
            ·have aQ:h.next≠m':=Nat.ne_of_gt (H.fresh _ _ ay)
             rw[uE]at hp;rw[if_neg (by exact aQ)]at hp;rw[oE _ _ (H.fresh _ _ I)]at hp;by_cases he:l=m'
             ·subst he
              rw[if_pos rfl]at hp;cases hp;cases aA
             ·rw[if_neg he]at hp
              exact aN m' d' p (Ne.symm he) ay hp aA
          ·exfalso;omega
         ·have aR:∃f,gh Δ vR f/\(Builtin.firstCells sz len (.slice (some ⟨d.b,o,none⟩) len cap)).run P0 w.drew = .ok (Array.mk f) w.drew:=by
            rcases ho with⟨rfl,J,ag⟩|⟨rfl,J⟩
            ·obtain⟨xs,c1,c2⟩:=uy al I aO
             exact⟨xs,c2,by simpa[Builtin.firstCells]using c1⟩
            ·have aS:len=0:=by omega
             subst aS;have aT:vR=[]:=Rf (by rw[ah];simp);subst aT;exact⟨[],.nil,by simp[Builtin.firstCells,loadCells,loadCellsFrom]⟩
          obtain⟨f,c1,c2⟩:=aR;obtain⟨O,y,w',e1,e2⟩:=fresh _ len cap f vR (h.put l (.cells e sz false false all)) rfl c1 (by rw[<-c1.length,ah]) c2 q ac aK aM rfl;exact⟨_,_,O,y,w',rfl,e1,e2⟩
    ·cases t
end
section
variable{Δ:Env}{h:Hp}{w:World}{n:Nat}{t:Tm}{a:Act}
theorem SC (c:WR Δ h w) {ty size:Nat} (f:wU ty=some size) {l off:Nat} {v:V} {pv xv:Value} (g:fI Δ (.ptr l off) pv) (hx:fI Δ v xv)
  (hlen:Nat.beq v.cells.length size=true) {h':Hp} (hs:CB h l off v.cells=some h') :
  ∃w',(Instr.storeAt ty pv xv).run P0 w = .ok () w'/\WR Δ h' w'/\FR Δ Δ w w'/\Gr h Δ h' Δ:=by
 cases g with
 | ptr _ _ d i=>
   have hc:=hx.cells;obtain⟨w',j,k,m⟩:=Jq c i hc hs;have n:=tU hlen;have a:=hc.length;simp only[Rp]at a;have b:h'.next=h.next:=by
     unfold CB at hs;rw[j8]at hs;obtain⟨e,sz,live,ro,cs,o,hv⟩:=hs;simp only[gM,fj]at hv;obtain⟨_,_,_,_,_,hv⟩:=hv;cases hv;rfl
   refine⟨w',?_,k,m,.same (VH b.symm)⟩;have:¬(xv.cells.size≠size):=by omega
   simp[Instr.storeAt,Instr.sureAddr,storeVar,uJ f,this,j]
theorem sO.length {b:List (V×V×Nat)} {a:List MapEntry} (h:sO Δ b a):b.length=a.length:=by
 induction h with
 |nil=>rfl
 |cons k v n e b a d hv hb _ c=>simp[c]
theorem sO.get {c:List (V×V×Nat)} {a:List MapEntry} (h:sO Δ c a) {i:Nat} {e:V×V×Nat} (hi:c[i]? =some e) :
  ∃b,a[i]? =some b/\fI Δ e.1 b.key/\fI Δ e.2.1 b.val/\b.born=e.2.2:=by
 induction h generalizing i with
 |nil=>simp at hi
 | cons k v n e0 c a d hv hb _ f=>
   cases i with
   |zero=>simp at hi;subst hi;exact⟨e0,rfl,d,hv,hb⟩
   |succ i=>exact f (by simpa using hi)
theorem sO.set {c:List (V×V×Nat)} {a:List MapEntry} (h:sO Δ c a) {i:Nat} {k v:V} {m:Nat} {b:MapEntry} (g:fI Δ k b.key) (hv:fI Δ v b.val) (hb:b.born=m) :
  sO Δ (c.set i (k,v,m)) (a.set i b):=by
 induction h generalizing i with
 |nil=>exact .nil
 | cons k0 l n e0 c a d e f hs j=>
   cases i with
   |zero=>exact .cons _ _ _ _ _ _ g hv hb hs
   |succ i=>exact .cons _ _ _ _ _ _ d e f j
theorem sO.snoc {c:List (V×V×Nat)} {a:List MapEntry} (h:sO Δ c a) {k v:V} {m:Nat} {b:MapEntry} (g:fI Δ k b.key) (hv:fI Δ v b.val) (hb:b.born=m) :
  sO Δ (c++[(k,v,m)]) (a++[b]):=by
 induction h with
 |nil=>exact .cons _ _ _ _ _ _ g hv hb .nil
 |cons k0 j n e0 c a d e f hs i=>exact .cons _ _ _ _ _ _ d e f i
theorem sO.erase {b:List (V×V×Nat)} {a:List MapEntry} (h:sO Δ b a) {i:Nat}:sO Δ (b.eraseIdx i) (a.eraseIdx i):=by
 induction h generalizing i with
 |nil=>exact .nil
 | cons k0 g n e0 b a c d e hs f=>
   cases i with
   |zero=>exact hs
   |succ i=>exact .cons _ _ _ _ _ _ c d e f
theorem E4 {k:V} {x y:Value} (m:Nat) (c:GZ k=true) (hx:fI Δ k x) (b:fI Δ k y):Instr.sameBits m x y=true:=by
 cases k <;> simp[GZ]at c
 ·cases hx;cases b;cases m <;> simp[Instr.sameBits]
 ·cases hx;cases b;cases m <;> simp[Instr.sameBits]
 ·rename_i s
  cases hx with
  | str a=>
    generalize hs:a.data.toList=l at b
    cases b with
    | str d=>
      have:a=d:=by
        rw[ByteArray.ext_iff];exact Array.ext' hs
      subst this;have hb:(a == a)=true:=by show(a.data == a.data)=true;simp
      cases m <;> simpa[Instr.sameBits]using hb
theorem U8 (m:Nat) {cs:List V} {xs ys:List Value} (b:cs.all GZ=true) (hx:gh Δ cs xs) (a:gh Δ cs ys):xs.length=ys.length/\(xs.zip ys).all (λp=>Instr.sameBits m p.1 p.2)=true:=by
 induction cs generalizing xs ys with
 |nil=>cases hx;cases a;exact⟨rfl,rfl⟩
 | cons c cs f=>
   cases hx with
   | cons _ x _ xs hx d=>
     cases a with
     | cons _ y _ ys a e=>
       simp only[W7,tN]at b;obtain⟨g,h⟩:=f b.2 d e;exact⟨by simp[g],by simp only[List.zip_cons_cons,W7,tN];exact⟨E4 m b.1 hx a,h⟩⟩
theorem IZ {k:V} {x y:Value} (m:Nat) (b:Hv k=true) (hx:fI Δ k x) (a:fI Δ k y):Instr.sameBits (m+1) x y=true:=by
 cases k with
 | agg cs=>
   cases hx with|agg _ xs hx=>cases a with|agg _ ys a=>
   obtain⟨c,d⟩:=U8 m b hx a;simp only[Instr.sameBits,tN]
   exact⟨by simpa using c,d⟩
 |_=>exact E4 (m+1) (by simpa[Hv]using b) hx a
theorem map_set (i:WR Δ h w) {l:Nat} {d:D} (g:Δ l=some d) {n f:List (V×V×Nat)} {c c2:Nat} (k:h.get l=some (.map n c)) {KS:Array MapEntry} (p:sO Δ f KS.toList) :
  (setObj d.b (.map KS c2)).run P0 w = .ok () {w with heap:=w.heap.setIfInBounds d.b (.map KS c2)}/\
  WR Δ (h.put l (.map f c2)) {w with heap:=w.heap.setIfInBounds d.b (.map KS c2)}/\FR Δ Δ w {w with heap:=w.heap.setIfInBounds d.b (.map KS c2)}:=by
 obtain ⟨o,m,q⟩:=i.obj l d g;rw[k]at m;cases m;obtain⟨a1,a2,a3,r,s,t⟩:=q;have j:=i.mS l d g;have a:∀b,b≠d.b->({w with heap:=w.heap.setIfInBounds d.b (.map KS c2)}:World).heap[b]? =w.heap[b]?:=λb hb=>by
  simp only;rw[wBm (λe=>hb e.symm)]
 refine⟨by simp[setObj,Sem.run,s],i.set g k rfl a2 (λh=>h) ⟨a1,a2,a3,KS,?_,p⟩ (by simp) a,FR.set g a2 (by simp) a rfl rfl rfl⟩;simp[j]
theorem Re (x:WR Δ h w) {J y O:Nat} (K:P0.underlying J=some (.map y O)) {d:Option (List Field)} (L:FO y=some d) {m k v:V} {M kv vv:Value} (P:fI Δ m M) (g:fI Δ k kv) (hx:fI Δ v vv)
  {r:R} (hv:GD y d m k v h=some r):∃h' w',r = .val .undef h'/\(Instr.mapUpdate J M kv vv).run P0 w = .ok () w'/\WR Δ h' w'/\FR Δ Δ w w'/\Gr h Δ h' Δ:=by
 unfold GD at hv;rw[gM]at hv;obtain⟨Q,hv⟩:=hv;split at hv
 ·rename_i l;simp only[yI,fj]at hv;obtain⟨X,c,z,ob,f,hv⟩:=hv;cases hv
  cases P with
  | map _ Y A=>
    obtain⟨a,hb,t⟩:=FQ x A z;have j:=wJ (em:=false) 9999 (by omega) w L g Q;unfold Hu at f;rw[fj]at f;obtain⟨fr,S,f⟩:=f;obtain⟨n,o,b⟩:=BT L g w t S
    cases fr with
    | none=>
      cases f
      cases n with
      |some _=>cases b
      | none=>
        obtain⟨B,C,D⟩:=map_set x A z (KS:=a.push {key:=kv,val:=vv,born:=c}) (c2:=c+1) (by rw[Array.toList_push];exact t.snoc (m:=c) g hx rfl);refine⟨_,_,rfl,?_,C,D,.same (iW _)⟩
        simp only[Instr.mapUpdate,pB,fG K,oD,run_getObj_map hb,j,o,B]
    | some p=>
      obtain⟨i,u⟩:=p;simp only[fj,gM]at f;obtain⟨e,E,F,G,f⟩:=f;cases f
      cases n with
      |none=>cases b
      | some T=>
        obtain⟨Z,u'⟩:=T;obtain⟨rfl,_⟩:=b;obtain⟨H,U,N,g3,W⟩:=t.get E;rw[V.eq_of_beq _ _ F]at N;have I:Instr.sameBits 10000 H.key kv=true:=IZ 9999 G N g;have q:a[i]? =some H:=by simpa using U
        have s:(a.modify i λe=>{e with key:=kv,val:=vv}).toList=a.toList.set i {H with key:=kv,val:=vv}:=by
          rw[Array.toList_modify];rw[List.modify_eq_set];simp[q]
        obtain⟨B,C,D⟩:=map_set x A z (KS:=a.modify i λe=>{e with key:=kv,val:=vv}) (c2:=c) (by rw[s];exact t.set (i:=i) (k:=k) (v:=v) (m:=e.2.2) g hx W);refine⟨_,_,rfl,?_,C,D,.same (iW _)⟩;simp only[Instr.mapUpdate,pB,fG K,oD,run_getObj_map hb,j,o,Instr.keyThatStays,q,Option.map_some,Option.getD_some,I,if_true,DW,B]
 ·cases hv
theorem QI (n:WR Δ h w) {H z N rt:Nat} {o:Array Nat} (g:o[0]? =some H) (A:P0.underlying H=some (.map z N)) {d:Option (List Field)} (B:FO z=some d) {m k:V} {I kv:Value} (J:fI Δ m I) (C:fI Δ k kv)
  {r:R} (hv:zQ z d m k h=some r):∃h' w',r = .val (.tuple []) h'/\(Builtin.delete_ o rt #[I,kv]).run P0 w = .ok (.tuple #[]) w'/\WR Δ h' w'/\FR Δ Δ w w'/\Gr h Δ h' Δ:=by
 unfold zQ at hv;rw[gM]at hv;obtain⟨K,hv⟩:=hv;split at hv
 ·cases hv;cases J;have f:=wJ (em:=true) 9999 (by omega) w B C K;refine⟨h,w,rfl,?_,n,.refl _ _,.refl _ _⟩;simp only[Builtin.delete_,g,wB5,List.getElem?_cons_zero,O8,pB,fG A,oD,f,DW]
 ·rename_i l;simp only[yI,fj]at hv;obtain⟨Q,c,D,fr,O,hv⟩:=hv
  cases J with
  | map _ v x =>
    obtain⟨a,hb,E⟩:=FQ n x D;have f:=wJ (em:=a.isEmpty) 9999 (by omega) w B C K;obtain⟨q,s,e⟩:=BT B C w E O
    cases fr with
    | none =>
      cases hv
      cases q with
      |some _=>cases e
      | none =>
        obtain ⟨y,L,M⟩:=map_set n x D (KS:=a) (c2:=c) E;have j:({w with heap:=w.heap.setIfInBounds v.b (.map a c)}:World)=w:=by
          have:w.heap.setIfInBounds v.b (.map a c)=w.heap:=by
            apply Array.ext_getElem?;intro i;by_cases hi:v.b=i
            ·subst hi
             have t:=n.mS l v x;simp[t];simpa[t]using hb.symm
            ·rw[wBm hi]
          rw[this]
        rw[j]at y;refine⟨h,w,rfl,?_,n,.refl _ _,.refl _ _⟩
        simp only[Builtin.delete_,g,wB5,List.getElem?_cons_zero,O8,pB,fG A,oD,run_getObj_map hb,f,s,y,DW]
    | some p=>
      obtain⟨i,u⟩:=p;cases hv
      cases q with
      |none=>cases e
      | some P=>
        obtain ⟨S,u'⟩:=P;obtain⟨rfl,_⟩:=e;have F:(a.eraseIdxIfInBounds i).toList=a.toList.eraseIdx i:=by
          rw[Array.eraseIdxIfInBounds_eq];split
          ·rw[Array.toList_eraseIdx]
          ·rename_i G
           rw[List.eraseIdx_of_length_le (by simpa using G)]
        obtain⟨y,L,M⟩:=map_set n x D (KS:=a.eraseIdxIfInBounds i) (c2:=c) (by rw[F];exact E.erase);refine⟨_,_,rfl,?_,L,M,.same (iW _)⟩;simp only[Builtin.delete_,g,wB5,List.getElem?_cons_zero,O8,pB,fG A,oD,run_getObj_map hb,f,s,y,DW]
 ·cases hv
end
section
variable{Δ:Env}{h:Hp}{w:World}{n:Nat}{t:Tm}{a:Act}
theorem L6 {l off:Nat} {new:List V} {h':Hp} (hs:CB h l off new=some h'):h'.next=h.next:=by
 unfold CB at hs;rw[j8]at hs;obtain⟨e,sz,live,ro,cs,a,hv⟩:=hs;simp only[gM,fj]at hv;obtain⟨_,_,_,_,_,hv⟩:=hv;cases hv;rfl
theorem PV (s:ByteArray) (m:Nat):((s.extract 0 m).data.map λb=>Value.int .u8 b.toNat)=Array.mk ((s.data.toList.take m).map λb=>Value.int .u8 b.toNat):=by
 apply Array.ext';have:=GJ s 0 m;simp only[Ss,Nat.sub_zero]at this;rw[Array.toList_map,this]
theorem Qy (Δ:Env) (l:List UInt8):gh Δ (vH l) (l.map λb=>Value.int .u8 b.toNat):=by
 induction l with
 |nil=>exact .nil
 |cons b l a=>exact .cons _ _ _ _ (.int .u8 _) a
theorem TT (n:WR Δ h w) {O q size rt:Nat} {p:Array Nat} (y:p[0]? =some O) (P:P0.underlying O=some (.slice q)) (Q:wU q=some size) {d s:V} {x sv:Value}
  (S:fI Δ d x) (hs:fI Δ s sv) {r:R} (hv:U9 size d s h=some r) :
  ∃h' m w',r = .val (.int .i64 (.ofNat m)) h'/\(Builtin.copy_ p rt #[x,sv]).run P0 w = .ok (.int .i64 m) w'/\WR Δ h' w'/\FR Δ Δ w w'/\Gr h Δ h' Δ:=by
 have a:∀(base:Option Addr) (c f:Nat) (m:Nat),x = .slice base c f->(Builtin.lenOf sv).run P0 w = .ok m w->Nat.min m c=0->(Builtin.firstCells size 0 sv).run P0 w = .ok #[] w->
   (Builtin.copy_ p rt #[x,sv]).run P0 w = .ok (.int .i64 (0:Nat)) w:=by
  intro base c f m t A j B;subst t;have u:=uJ (w:=w) Q;cases base <;> simp[Builtin.copy_,y,fG P,A,j,u,B,storeCells,goInt]
 have some_:∀(base:Addr) (c f:Nat) (m:Nat) (xs:List Value) (w':World),x = .slice (some base) c f->(Builtin.lenOf sv).run P0 w = .ok m w->
   (Builtin.firstCells size (Nat.min m c) sv).run P0 w = .ok (Array.mk xs) w->(storeCells base xs 0).run P0 w = .ok () w'->
   (Builtin.copy_ p rt #[x,sv]).run P0 w = .ok (.int .i64 (Nat.min m c:Nat)) w':=by
  intro base c f m xs w' t A B C;subst t;have u:=uJ (w:=w) Q;simp[Builtin.copy_,y,fG P,A,u,B,C,goInt]
 unfold U9 at hv;split at hv
 ·cases S;split at hv
  ·cases hv;cases hs;exact⟨_,0,w,rfl,a none 0 0 0 rfl rfl rfl rfl,n,.refl _ _,.refl _ _⟩
  ·cases hv
   cases hs with
   | slice l off len cap o X v Y D E=>
     exact⟨_,0,w,rfl,a none 0 0 _ rfl rfl (Nat.min_zero _) (by simp[Builtin.firstCells,loadCells,loadCellsFrom]),n,.refl _ _,.refl _ _⟩
  ·cases hv
   cases hs with
   |str s=>exact⟨_,0,w,rfl,a none 0 0 s.size rfl rfl (Nat.min_zero _) (by simp[Builtin.firstCells]),n,.refl _ _,.refl _ _⟩
  ·cases hv
 ·rename_i l off len
  cases S with
  | slice _ _ _ g o X v Y D E=>
    split at hv
    ·cases hv;cases hs
     exact⟨_,0,w,rfl,a _ len g 0 rfl rfl (Nat.zero_min _) rfl,n,.refl _ _,.refl _ _⟩
    ·rename_i l' T i
     cases hs with
     | slice _ _ _ U so sd F Z W G=>
       cases j:Nat.beq (min i len) 0 with
       | true=>
         simp only[j]at hv;cases hv;have k:Nat.min i len=0:=tU j
         exact⟨_,0,w,rfl,a _ len g i rfl rfl k (by simp[Builtin.firstCells,loadCells,loadCellsFrom]),n,.refl _ _,.refl _ _⟩
       | false=>
         have k:0<min i len:=Nat.pos_of_ne_zero λe=>by rw[e]at j;cases j
         simp only[j,fj]at hv;obtain⟨cs,H,h2,z,I⟩:=hv;cases I;rcases G with⟨rfl,_,_⟩|⟨rfl,_⟩
         ·rcases E with⟨rfl,_,_⟩|⟨rfl,_⟩
          ·obtain⟨xs,c1,c2⟩:=uy n F H
           obtain⟨w',J,K,L⟩:=Jq n v c2 z;exact⟨_,_,w',rfl,some_ _ len g i xs w' rfl rfl (by simpa[Builtin.firstCells]using c1) J,K,L,.same (VH (L6 z).symm)⟩
          ·omega
         ·omega
    ·rename_i b
     rw[gM]at hv;obtain⟨H,hv⟩:=hv;have M:size=1:=tU H;subst M
     cases hs with
     | str s=>
       have N:s.data.toList.length=s.size:=by simp
       rw[N]at hv
       cases j:Nat.beq (min s.size len) 0 with
       | true=>
         simp only[j]at hv;cases hv;have k:Nat.min s.size len=0:=tU j
         exact⟨_,0,w,rfl,a _ len g s.size rfl rfl k (by simp[Builtin.firstCells]),n,.refl _ _,.refl _ _⟩
       | false=>
         have k:0<min s.size len:=Nat.pos_of_ne_zero λe=>by rw[e]at j;cases j
         simp only[j,fj]at hv;obtain⟨h2,z,I⟩:=hv;cases I;rcases E with⟨rfl,_,_⟩|⟨rfl,_⟩
         ·obtain⟨w',J,K,L⟩:=Jq n v (Qy Δ _) z
          refine⟨_,_,w',rfl,some_ _ len g s.size _ w' rfl rfl ?_ J,K,L,.same (VH (L6 z).symm)⟩;simp only[Builtin.firstCells,PV];rfl
         ·omega
    ·cases hv
 ·cases hv
theorem JL {d:D} {cs:List V} {c:Array Value} {e:Nat} (hs:c.size=d.Pg) (hb:d.base=0) (a:cs.length<=d.Pg) (hc:∀(i:Nat) (v:V),cs[i]? =some v->∃x,c[i]? =some x/\fI Δ v x) :
  Ef Δ d cs (some (.cells c e (c.size,c.size+1))):=
 ⟨c,e,(c.size,c.size+1),rfl,hs,λ_=> .inr (VH hs.symm),by omega,λi v hi=>by rw[hb,vI];exact hc i v hi⟩
theorem Sy (n:WR Δ h w) {src dst e:Nat} (hs:P0.underlying src=some .string) (o:P0.underlying dst=some (.slice e)) (p:P0.underlying e=some (.int .u8)) (s:ByteArray) :
  ∃d x w',(convert src dst (.string s)).run P0 w = .ok x w'/\xE Δ h w (.slice h.next 0 s.data.toList.length) (h.new (.cells e 1 true false (vH s.data.toList))) d x w':=by
 have m:=run_bytes_of_string (P:=P0) w src dst e s hs o p;have c:=grownCap_ge w s.size 0 e;generalize grownCap w s.size 0 e=cap at m c;have f:s.data.toList.length=s.size:=by simp
 have q:(vH s.data.toList).length=s.size:=by simp[vH]
 have g:(bytesRow s cap).size=cap:=by
  have:s.data.size=s.size:=rfl;simp[bytesRow];omega
 have a:Made Δ (.cells e 1 true false (vH s.data.toList)) (λl=> .slice l 0 s.data.toList.length) (.cells (bytesRow s cap) e ((bytesRow s cap).size,(bytesRow s cap).size+1))
   (λb=> .slice (some ⟨b,0,none⟩) s.size cap):=by
  intro l b t;refine⟨⟨b,0,1,(vH s.data.toList).length,cap,false,0⟩,rfl,⟨rfl,rfl,rfl,rfl,λ_=>?_⟩,?_⟩
  ·refine JL g rfl (by show(vH s.data.toList).length<=cap;omega) λi u hi=>?_;obtain⟨x,hx,j⟩:=(LZ _ s).get i u hi;refine⟨x,?_,j⟩;have k:i<(s.data.toList.map λb=>Value.int .u8 b.toNat).length:=(iB.1 hx).1;unfold bytesRow;rw[wBy (by simpa using k)];rw[<-hx];simp
  ·rw[f];refine fI.slice l 0 s.size cap 0 ⟨b,0,1,(vH s.data.toList).length,cap,false,0⟩ (Env.tP _ _ _) rfl c (.inl ⟨rfl,?_,?_⟩)
   ·show(vH s.data.toList).length<=0+cap*1;omega
   ·show 0+0+cap*1<=cap;omega
 obtain⟨d,a1,a2,a3,r⟩:=(n.heap (w':=w.drew) rfl).alloc a;exact⟨d,_,_,m,a2,a1,a3.drew,r⟩
theorem Ur (s:WR Δ h w) {src dst e0 e:Nat} {x:V} {y:Value} (hx:fI Δ x y) (hs:P0.underlying src=some (.slice e0)) (t:P0.underlying dst=some (.slice e)) (F:P0.underlying e=some (.int .u8)) (u:src=dst)
  {r:R} (hv:TZ x h=some r):∃C h' w',r = .val C h'/\(convert src dst y).run P0 w = .ok y w'/\xE Δ h w C h' Δ y w':=by
 unfold TZ at hv;split at hv
 ·rename_i l off n;rw[j8]at hv;obtain⟨N,sz,live,ro,cs,D,hv⟩:=hv;simp only[gM]at hv;obtain⟨rfl,v,hv⟩:=hv;cases hv;have i:ro=false:=by simpa using v
  subst i
  cases hx with
  | slice _ _ _ cap o d j G z H=>
    obtain⟨p,E,I⟩:=s.obj l d j;rw[D]at E;cases E;obtain⟨a1,a2,a3,q,J⟩:=I;obtain⟨c,A,fr,b1,b2,b3,K,L⟩:=J rfl;subst u;obtain rfl:e0=e:=by rw[hs]at t;cases t;rfl
    obtain ⟨lo,hi⟩:=fr;have M:d.b<w.heap.size:=s.mS l d j;have B:(w.freeze ⟨d.b,c.size,none⟩ 1).heap[d.b]? =some (.cells c A (if lo == hi then(c.size,c.size+1) else(min lo c.size,max hi (c.size+1)))):=by
      unfold World.freeze;rw[if_neg (by omega)];simp only[Array.getElem?_modify,b1,if_true,Option.map_some]
    have f:∀b,b≠d.b->(w.freeze ⟨d.b,c.size,none⟩ 1).heap[b]? =w.heap[b]?:=by
      intro b hb;unfold World.freeze;rw[if_neg (by omega)];simp only[Array.getElem?_modify];rw[if_neg (λe=>hb e.symm)]
    have k:(w.freeze ⟨d.b,c.size,none⟩ 1).heap.size=w.heap.size:=by
      unfold World.freeze;rw[if_neg (by omega)];simp
    have g:∀b,(w.freeze b 1).os=w.os/\(w.freeze b 1).tape=w.tape/\(w.freeze b 1).output=w.output:=by
      intro b;unfold World.freeze;rw[if_neg (by omega)];exact⟨rfl,rfl,rfl⟩
    refine⟨_,_,w.freeze ⟨d.b,c.size,none⟩ 1,rfl,?_,⟨.slice l off n cap o d j G z H,?_,FR.set j q k f (g _).1 (g _).2.1 (g _).2.2,Gr.same (iW _)⟩⟩
    ·have a:(Go.shape d.b).run P0 w = .ok (some (A,c.size)) w:=by
       show Result.ok (w.shape? d.b) w=_;unfold World.shape?;rw[b1]
     simp only[convert,pB,fG hs,fG t,oD,fG F,beq_self_eq_true,markStringish,a,run_freeze];rfl
    ·refine s.set j D rfl q (λh=>h) ⟨a1,a2,a3,q,λ_=>⟨c,A,_,B,b2,λ_=>?_,K,L⟩⟩ k f
     have m:=b3 q;simp only at m;by_cases hlh:lo=hi
     ·subst hlh
      simp only[beq_self_eq_true,if_true];right;omega
     ·have:(lo == hi)=false:=by simpa using hlh
      simp only[this,Li,if_false];right;rcases m with m|m
      ·exact absurd m hlh
      ·omega
 ·cases hv
end
section
variable{Δ:Env}{h:Hp}{w:World}{n:Nat}{t:Tm}{a:Act}
theorem SQ (f:WR Δ h w) {ty p q:Nat} (i:P0.underlying ty=some (.map p q)) {m:V} {j:Value} (k:fI Δ m j) {r:R} (hv:JR m h=some r) :
  ∃v h' e x w',r = .val v h'/\(Instr.range ty j).run P0 w = .ok x w'/\xE Δ h w v h' e x w':=by
 unfold JR at hv;split at hv
 ·cases hv;cases k
  have a:Made Δ (.iter none 0 [] 0) (λl=> .ptr l 0) (.mapIter none 0 #[] 0) (λb=> .pointer (some ⟨b,0,none⟩)):=λl b n=>
   ⟨⟨b,0,0,0,0,false,2⟩,rfl,⟨rfl,rfl,rfl,none,rfl,rfl⟩,fI.ptr l 0 ⟨b,0,0,0,0,false,2⟩ (Env.tP _ _ _)⟩
  obtain⟨e,a1,a2,a3,g⟩:=f.alloc a;exact⟨_,_,e,_,_,rfl,by simp[Instr.range,fG i],a2,a1,a3,g⟩
 ·rename_i l;rw[yI]at hv;obtain⟨y,c,s,hv⟩:=hv;cases hv
  cases k with
  | map _ d o=>
    obtain⟨t,hb,z⟩:=FQ f o s
    have a:Made Δ (.iter (some l) c [] c) (λl=> .ptr l 0) (.mapIter (some d.b) c #[] c) (λb=> .pointer (some ⟨b,0,none⟩)):=λu b n=>
      ⟨⟨b,0,0,0,0,false,2⟩,rfl,⟨rfl,rfl,rfl,some d.b,rfl,d,Env.xe n _ _ o,rfl⟩,fI.ptr u 0 ⟨b,0,0,0,0,false,2⟩ (Env.tP _ _ _)⟩
    obtain⟨e,a1,a2,a3,g⟩:=f.alloc a;exact⟨_,_,e,_,_,rfl,by simp[Instr.range,fG i,run_getObj_map hb],a2,a1,a3,g⟩
 ·cases hv
theorem sm{r:Nat}{m:Option Nat}{s l:Nat}{seen:Array Nat}(a:w.heap[r]? =some (.mapIter m s seen l)):(getObj r).run P0 w = .ok (.mapIter m s seen l) w:=by simp[getObj,Sem.run,a]
theorem PJ {b:List (V×V×Nat)} {a:List MapEntry} (d:sO Δ b a) (p:Nat->Bool):sO Δ (b.filter λe=>p e.2.2) (a.filter λe=>p e.born):=by
 induction d with
 |nil=>exact .nil
 | cons k v n e b a f hv hb _ c=>
   subst hb;simp only[T7];by_cases hp:p e.born=true
   ·simp only[hp,if_true];exact .cons _ _ _ _ _ _ f hv rfl c
   ·simp only[hp];exact c
theorem WH {b:List (V×V×Nat)} {a:List MapEntry} (c:sO Δ b a) (p:Nat->Bool):a.all (λe=>p e.born)=b.all λe=>p e.2.2:=by
 induction c with
 |nil=>rfl
 |cons k v n e b a f hv hb _ d=>subst hb;simp[d]
theorem Ty (q:WR Δ h w) {it:V} {K:Value} {ty:Nat} (hi:fI Δ it K) {r:R} (hv:wm it h=some r) :
  ∃v h' x w',r = .val v h'/\(Instr.next K false ty).run P0 w = .ok x w'/\xE Δ h w v h' Δ x w':=by
 unfold wm at hv;rw[uc]at hv;obtain⟨P,off,rfl,hv⟩:=hv;rw[gM,fj]at hv;obtain⟨h0,o,M,hv⟩:=hv;have D:off=0:=tU h0;subst D
 cases hi with
 | ptr _ _ d B=>
   obtain⟨o',N,O⟩:=q.obj P d B;rw[M]at N;cases N;split at hv
   ·cases hv
    obtain⟨a1,a2,a3,Q,s,S⟩:=O;subst S;refine⟨_,_,_,w,rfl,?_,.tuple _ #[.bool false] (.one (.bool false)),q,.refl _ _,.refl _ _⟩;rw[a3];simp[Instr.next,sm s]
   ·rename_i m since seen last
    obtain ⟨a1,a2,a3,Q,s,C,t,rfl⟩:=O;rw[yI]at hv;obtain⟨E,c,F,hv⟩:=hv;rw[gM]at hv;obtain⟨u,hv⟩:=hv;obtain⟨f,hb,G⟩:=FQ q t F;have i:(!seen.toArray.isEmpty&&!f.isEmpty&&f.all (λe=>decide (e.born >= last)))=false:=by
      have T:f.isEmpty=E.isEmpty:=by
        have:=G.length;cases E <;> cases hes:f with|mk l=>cases l <;> simp_all
      have U:f.all (λe=>decide (e.born >= last))=E.all (λe=>Nat.ble last e.2.2):=by
        rw[<-Array.all_toList];have:=WH G (λn=>Nat.ble last n);rw[<-this];congr 1;funext e;rw[U6];simp[Nat.ble_eq]
      have W:seen.toArray.isEmpty=seen.isEmpty:=by simp
      rw[W,T,U];simpa only[X9]using u
    have a:=PJ G (λn=>!seen.contains n);have j:(f.filter λe=>!seen.toArray.contains e.born)=Array.mk (f.toList.filter λe=>!seen.contains e.born):=by
      apply Array.ext';rw[Array.toList_filter];simp
    rw[a3];split at hv
    ·rename_i H
     cases hv;rw[H]at a;generalize (f.toList.filter λe=>!seen.contains e.born)=L at a j;cases a;refine⟨_,_,_,w,rfl,?_,.tuple _ #[.bool false] (.one (.bool false)),q,.refl _ _,.refl _ _⟩;simp only[Instr.next,pB,sm s,oD,run_getObj_map hb,i,j];simp[Question.forced]
    ·rename_i e H
     rw[gM]at hv;obtain⟨y,hv⟩:=hv;cases hv;rw[H]at a;generalize (f.toList.filter λe=>!seen.contains e.born)=L at a j
     cases a with
     | cons k v nb p _ L X hx z hs=>
       cases hs;have A:p.born<since:=by rw[LS]at y;rw[z];exact y
       have I:=q.mS _ _ B;have g:∀b,b≠d.b->({w with heap:=w.heap.setIfInBounds d.b (.mapIter (some C.b) since (seen++[nb]).toArray c)}:World).heap[b]? =w.heap[b]?:=λb hb=>by
         simp only;rw[wBm (λe=>hb e.symm)]
       refine ⟨_,_,_,{w with heap:=w.heap.setIfInBounds d.b (.mapIter (some C.b) since (seen++[nb]).toArray c)},rfl,?_,
         .tuple _ #[.bool true,p.key,p.val] (.cons _ _ _ _ (.bool true) (.cons _ _ _ _ X (.one hx))),?_,FR.set B a2 (by simp) g rfl rfl rfl,.same (iW _)⟩
       ·have J:¬(p.born >= since):=by omega
        have Y:(Array.mk [p]).filter (λx=>decide (x.born<since)) = #[p]:=by simp[A]
        have Z:(Array.mk [p]).filter (λx=>decide (x.born >= since)) = #[]:=by simp[J]
        simp only[Instr.next,pB,sm s,oD,run_getObj_map hb,i,j,Y,Z];simp[Question.forced,setObj,Sem.run,s,z]
       ·refine q.set B M rfl a2 (λh=>h) ⟨a1,a2,a3,some C.b,?_,C,t,rfl⟩ (by simp) g
        simp[I]
    ·cases hv
   ·cases hv
theorem Vt {c:List (V×V×Nat)} {a:List MapEntry} (g:sO Δ c a) (st:Nat) {e:V×V×Nat} (b:(c.find? λe=>Nat.beq e.2.2 st)=some e) :
  ∃d,(a.find? λe=>e.born == st)=some d/\fI Δ e.1 d.key/\fI Δ e.2.1 d.val:=by
 induction g with
 |nil=>cases b
 | cons k v n e0 c a h hv hb _ i=>
   subst hb;simp only[List.find?_cons]at b⊢;have f:(e0.born == st)=Nat.beq e0.born st:=by rw[U6];simp
   rw[f]
   cases hq:Nat.beq e0.born st with
   |true=>rw[hq]at b;cases b;exact⟨e0,rfl,h,hv⟩
   |false=>rw[hq]at b;exact i b
theorem Se (q:WR Δ h w) {it:V} {s:Value} (hi:fI Δ it s) {r:R} (hv:Pr it h=some r) :
  ∃v x,r = .val v h/\(Instr.entry s).run P0 w = .ok x w/\fI Δ v x:=by
 unfold Pr at hv;rw[uc]at hv;obtain⟨u,off,rfl,hv⟩:=hv;rw[gM,fj]at hv;obtain⟨h0,o,y,hv⟩:=hv;have f:off=0:=tU h0;subst f
 cases hi with
 | ptr _ _ d z=>
   obtain⟨G,t,A⟩:=q.obj u d z;rw[y]at t;cases t;split at hv
   ·rename_i m since seen last
    obtain⟨a1,a2,a3,H,B,I,g,rfl⟩:=A;rw[yI]at hv;obtain⟨J,c,i,hv⟩:=hv;simp only[gM,fj]at hv;obtain⟨hc,st,j,e,k,hv⟩:=hv;cases hv;obtain⟨l,hb,C⟩:=FQ q g i;obtain⟨n,D,E,F⟩:=Vt C st k;refine⟨_,.tuple #[n.key,n.val],rfl,?_,.tuple _ _ (.cons _ _ _ _ E (.one F))⟩;have p:c=last:=tU hc;subst p;have a:seen.toArray.back? = some st:=by rw[List.back?_toArray];exact j
    have b:(l.find? λe=>e.born == st)=some n:=by rw[<-Array.find?_toList];exact D
    rw[a3];simp only[Instr.entry,pB,sm B,oD,a,run_getObj_map hb,bne_self_eq_false,Li,if_false,DW,b]
   ·cases hv
theorem Uq {f:V} {j:Value} {args:List V} {b:Array Value} {ty:Nat} {c:Go.Call} {op:Operand} (hc:c.callee = .value op) (k:a.eval op=j) (i:c.args.map a.eval=b) (m:fI Δ f j) (n:gh Δ args b.toList) {r:R}
  (hv:fU f args=some r):∃g l gq,r = .call g l/\gh Δ l gq.toList/\(do let d <-resolve a.eval c ty;invoke d.target d.args:Sem Next)=callFunc g gq:=by
 unfold fU at hv;split at hv
 ·cases hv
  cases m with
  | func _ _ _ e h o p=>
    refine⟨_,_,e++b++h,rfl,?_,?_⟩
    ·simp only[Array.toList_append,Cy]
     exact o.append (n.append p)
    ·simp only[resolve,hc,k,i,Deferred.ofValue]
     rfl
 ·cases hv
theorem Qr (hW:WR Δ h w) {j:String} {r:V} {rv:Value} {args:List V} {n:Array Value} {ty:Nat} {c:Go.Call} {op:Operand} (hc:c.callee = .invoke op j) (ho:a.eval op=rv) (S:c.args.map a.eval=n)
  (hr:fI Δ r rv) (ha:gh Δ args n.toList) {x:R} (hv:MO j r args h=some x) :
  ∃g l gq,x = .call g l/\gh Δ l gq.toList/\(do let d <-resolve a.eval c ty;invoke d.target d.args:Sem Next).run P0 w=(callFunc g gq).run P0 w:=by
 unfold MO at hv;split at hv
 ·rename_i t v
  cases hr with
  | iface _ _ s J=>
    have C:(do let d <-resolve a.eval c ty;invoke d.target d.args:Sem Next)=callMethod (.iface t s) j n:=by
      simp only[resolve,hc,ho,S];show invoke (.fn (.method j) #[]) (#[.iface t s]++n)=_;have K:(#[Value.iface t s]++n)[0]? =some (.iface t s):=by
        rw[wBy (by simp)];rfl
      have L:(#[Value.iface t s]++n).extract 1 (#[Value.iface t s]++n).size=n:=by
        apply Array.ext';simp
      simp only[invoke,K,L]
    have z:∀{f:Nat} {o:Option Nat},methodOf t j=some (f,o)->∃i m b,P0.info? t=some i/\i.methods.find? (λm=>m.name == j)=some m/\m.path = #[]/\m.func=some (f,b)/\
        ((∃e,P0.underlying t=some (.pointer e)/\((b=true/\o=none)\/(b=false/\o=some e)))\/(b=false/\o=none/\∃I,P0.underlying t=some I/\∀e,I≠ .pointer e)):=by
      intro f o q;unfold methodOf at q;rw[fj]at q;obtain⟨i,hi,q⟩:=q;split at q
      ·rename_i m hf
       refine⟨i,m,?_⟩;have D:i.methods.find? (λm=>m.name == j)=some m:=by rw[<-Array.find?_toList];exact hf
       split at q
       ·rename_i f' e M A u
        cases q;exact⟨true,hi,D,by apply Array.ext';exact M,A,.inl ⟨e,u,.inl ⟨rfl,rfl⟩⟩⟩
       ·rename_i f' e M A u
        cases q;exact⟨false,hi,D,by apply Array.ext';exact M,A,.inl ⟨e,u,.inr ⟨rfl,rfl⟩⟩⟩
       ·rename_i f' I E M A u
        cases q;refine⟨false,hi,D,by apply Array.ext';exact M,A,.inr ⟨rfl,rfl,I,u,λe he=>?_⟩⟩;subst he;exact E e rfl
       ·cases q
      ·cases q
    obtain⟨fuel,N⟩:∃k,P0.types.size+Made.depth=k+1:=⟨P0.types.size+99,rfl⟩
    split at hv
    ·rename_i f q
     cases hv;obtain⟨i,m,b,K,L,T,U,W⟩:=z q;refine⟨f,_,#[s]++n,rfl,by simp only[Array.toList_append];exact .cons _ _ _ _ J ha,?_⟩;rw[C];have B:(receiverAt t (.val s) b (some ((j.splitOn ".").getLastD j))).run P0 w = .ok s w:=by
       rcases W with⟨e,u,⟨rfl,_⟩|⟨_,F⟩⟩|⟨rfl,_,I,u,E⟩
       ·simp[receiverAt,fG u,Place.get]
       ·cases F
       ·simp only[receiverAt,pB,fG u,oD]
        cases I <;> first|rfl|exact absurd rfl (E _)
     have G:(method (P0.types.size+Made.depth) t s j).run P0 w = .ok (f,s) w:=by
       rw[N];simp only[method,pB,typeInfo,run_program,oD,K,DW,L,T,U,follow,B,Array.isEmpty,Array.size_empty,if_true,decide_true]
     simp only[callMethod,pB,run_program,oD,G]
    ·rename_i f e q
     rw[fj]at hv;obtain⟨y,hy,hv⟩:=hv;cases hv;obtain⟨i,m,b,K,L,T,U,W⟩:=z q;have X:P0.underlying t=some (.pointer e)/\b=false:=by
       rcases W with⟨e',u,⟨_,F⟩|⟨hb,F⟩⟩|⟨_,F,_⟩
       ·cases F
       ·cases F;exact⟨u,hb⟩
       ·cases F
     obtain ⟨u,rfl⟩:=X;obtain⟨Q,H,Y⟩:=KD (t:= .tree .leaf []) (xv:=s) hW (λv hv=>by cases hv;exact J) hy;refine⟨f,_,#[Q]++n,rfl,by simp only[Array.toList_append];exact .cons _ _ _ _ Y ha,?_⟩;rw[C];have O:∃ad,s = .pointer (some ad):=by
       cases s with
       | pointer p=>cases p with
         |some ad=>exact⟨ad,rfl⟩
         |none=>simp[Instr.loadAt,Instr.sureAddr]at H
       |_=>simp[Instr.loadAt,Instr.sureAddr]at H
     obtain⟨ad,rfl⟩:=O;have Z:(loadVar e ad).run P0 w = .ok Q w:=by simpa[Instr.loadAt,Instr.sureAddr]using H
     have B:(receiverAt t (.val (.pointer (some ad))) false (some ((j.splitOn ".").getLastD j))).run P0 w = .ok Q w:=by
       have P:∀s1 s2,(Builtin.ssaWrapNilChk_ #[t] t #[.pointer (some ad),strVal s1,strVal s2]).run P0 w = .ok (.pointer (some ad)) w:=λ_ _=>rfl;simp only[receiverAt,pB,fG u,oD,Place.get,DW,P,asAddr,Z]
     have G:(method (P0.types.size+Made.depth) t (.pointer (some ad)) j).run P0 w = .ok (f,Q) w:=by
       rw[N];simp only[method,pB,typeInfo,run_program,oD,K,DW,L,T,U,follow,B,Array.isEmpty,Array.size_empty,if_true,decide_true]
     simp only[callMethod,pB,run_program,oD,G]
    ·cases hv
 ·cases hv
theorem T6 (i:WR Δ h w) (u:TR Δ n t a) {o:Oper} {r:R} (hv:(jz o).f t h=some r) :
  (∃v h' I x w',r = .val v h'/\((execOp a.eval o).run P0 w = .ok (.value x) w'\/(x=undef/\(execOp a.eval o).run P0 w = .ok .skip w'))/\xE Δ h w v h' I x w')\/
  (∃g l gq,r = .call g l/\gh Δ l gq.toList/\(execOp a.eval o).run P0 w=(callFunc g gq).run P0 w):=by
 obtain⟨dst,op,D,pos,af,gd⟩:=o
 cases op with
 | store ty p x=>
   simp only[jz]at hv;split at hv
   ·rename_i size S
    simp only[fj,uc,gM]at hv;obtain⟨pv,q,v,j,l,off,rfl,B,h',M,Y⟩:=hv;cases Y;obtain⟨w',r1,r2,r3,r4⟩:=SC i S (j6 i u q) (j6 i u j) B M;exact .inl ⟨_,_,Δ,undef,w',rfl,.inr ⟨rfl,by simp[execOp,r1]⟩,.undef Δ,r2,r3,r4⟩
   ·cases hv
 | mapUpdate ty m k x=>
   simp only[jz]at hv;split at hv
   ·rename_i T U E
    split at hv
    ·rename_i d J
     simp only[fj]at hv;obtain⟨N,q,kv,j,xv,B,M⟩:=hv;obtain⟨h',w',rfl,r1,r2,r3,r4⟩:=Re i E J (j6 i u q) (j6 i u j) (j6 i u B) M;exact .inl ⟨_,_,Δ,undef,w',rfl,.inr ⟨rfl,by simp[execOp,r1]⟩,.undef Δ,r2,r3,r4⟩
    ·cases hv
   ·cases hv
 | insert ty m k x=>
   simp only[jz]at hv;split at hv
   ·rename_i T U E
    split at hv
    ·rename_i d J
     simp only[fj]at hv;obtain⟨N,q,kv,j,xv,B,M⟩:=hv;obtain⟨h',w',rfl,r1,r2,r3,r4⟩:=Re i E J (j6 i u q) (j6 i u j) (j6 i u B) M;exact .inl ⟨_,_,Δ,undef,w',rfl,.inr ⟨rfl,by simp[execOp,r1]⟩,.undef Δ,r2,r3,r4⟩
    ·cases hv
   ·cases hv
 | range ty x=>
   simp only[jz]at hv;split at hv
   ·rename_i T U E
    simp only[fj]at hv;obtain⟨N,q,j⟩:=hv;obtain⟨v,h',I,y,w',rfl,r1,r2⟩:=SQ i E (j6 i u q) j;exact .inl ⟨_,_,I,y,w',rfl,.inl (lQ r1),r2⟩
   ·cases hv
 | next x XE=>
   cases XE with
   |true=>cases hv
   | false=>
     simp only[jz,fj]at hv;obtain⟨N,q,j⟩:=hv;obtain⟨v,h',y,w',rfl,r1,r2⟩:=Ty (ty:=D) i (j6 i u q) j
     exact .inl ⟨_,_,Δ,y,w',rfl,.inl (lQ r1),r2⟩
 | entry x=>
   simp only[jz,fj]at hv;obtain⟨N,q,j⟩:=hv;obtain⟨v,y,rfl,r1,r2⟩:=Se i (j6 i u q) j
   exact .inl ⟨_,_,Δ,y,w,rfl,.inl (lQ r1),r2,i,.refl _ _,.refl _ _⟩
 | convert src O x=>
   simp only[jz]at hv;split at hv
   ·rename_i e hs J
    split at hv
    ·rename_i L S
     simp only[fj]at hv;obtain⟨xv,q,j⟩:=hv;have hx:=j6 i u q;split at j
     ·cases j
      generalize hy:a.eval x=y at hx
      cases hx with
      | str s=>
        obtain⟨I,z,w',r1,r2⟩:=Sy i hs J L s;refine .inl ⟨_,_,I,z,w',rfl,.inl (lQ ?_),r2⟩;rw[hy];exact r1
     ·cases j
    ·cases hv
   ·rename_i e0 e hs J
    split at hv
    ·rename_i L hb
     simp only[fj]at hv;obtain⟨xv,q,j⟩:=hv;have hx:=j6 i u q;generalize hy:a.eval x=y at hx;obtain⟨Z,h',w',r1,r3,r2⟩:=Ur i hx (src:=src) (dst:=O) (e0:=e0) (e:=e) hs J L (tU hb) j;refine .inl ⟨Z,h',Δ,y,w',r1,.inl (lQ ?_),r2⟩;rw[hy];exact r3
    ·cases hv
   ·cases hv
 | call c =>
   obtain⟨V,args,F⟩:=c
   cases V with
   | builtin b=>
     simp only[jz]at hv
     cases b with
     | append=>
       simp only at hv;split at hv
       ·rename_i s x sT xT A C
        have P:args = #[s,x]:=by apply Array.ext';exact A
        have G:F = #[sT,xT]:=by apply Array.ext';exact C
        subst P;subst G;split at hv
        ·rename_i K e' hs E
         have H:=yz hs;split at hv
         ·rename_i size jr z L
          simp only[fj]at hv;obtain⟨sv,q,xv,j,B⟩:=hv;obtain⟨v,h',I,y,w',rfl,r1,r2⟩:=JW (ty:=D) (xT:=xT) i H E (λk W=>by cases W) L (j6 i u q) (j6 i u j) B;refine .inl ⟨_,_,I,y,w',rfl,.inl ?_,r2⟩;simp only[execOp,resolve,List.map_toArray];exact lQ r1
         ·cases hv
        ·rename_i K hs E
         have H:=yz hs;split at hv
         ·rename_i size jr z L
          simp only[fj]at hv;obtain⟨sv,q,xv,j,B⟩:=hv;obtain⟨v,h',I,y,w',rfl,r1,r2⟩:=JW (ty:=D) (xT:=xT) i H E (λk W=>by cases W) L (j6 i u q) (j6 i u j) B;refine .inl ⟨_,_,I,y,w',rfl,.inl ?_,r2⟩;simp only[execOp,resolve,List.map_toArray];exact lQ r1
         ·cases hv
        ·cases hv
       ·cases hv
     | copy =>
       simp only at hv;split at hv
       ·rename_i d s dT Q A C
        have P:args = #[d,s]:=by apply Array.ext';exact A
        have G:F[0]? =some dT:=by rw[<-QM,C];rfl
        subst P;split at hv
        ·rename_i K hs
         have H:=yz hs;split at hv
         ·rename_i size S
          simp only[fj]at hv;obtain⟨dv,q,sv,j,B⟩:=hv;obtain⟨h',m,w',rfl,r1,r2,r3,r4⟩:=TT (rt:=D) i G H S (j6 i u q) (j6 i u j) B;refine .inl ⟨_,_,Δ,_,w',rfl,.inl ?_,.int _ _,r2,r3,r4⟩;simp only[execOp,resolve,List.map_toArray];exact lQ r1
         ·cases hv
        ·cases hv
       ·cases hv
     | delete=>
       simp only at hv;split at hv
       ·rename_i m k mT Q A C
        have P:args = #[m,k]:=by apply Array.ext';exact A
        have G:F[0]? =some mT:=by rw[<-QM,C];rfl
        subst P;split at hv
        ·rename_i T U E
         split at hv
         ·rename_i d J
          simp only[fj]at hv;obtain⟨N,q,kv,j,B⟩:=hv;obtain⟨h',w',rfl,r1,r2,r3,r4⟩:=QI (rt:=D) i G E J (j6 i u q) (j6 i u j) B;refine .inl ⟨_,_,Δ,_,w',rfl,.inl ?_,.tuple _ #[] .nil,r2,r3,r4⟩;simp only[execOp,resolve,List.map_toArray];exact lQ r1
         ·cases hv
        ·cases hv
       ·cases hv
     |_=>cases hv
   | value f=>
     simp only[jz,fj]at hv;obtain⟨fv,q,l,j,B⟩:=hv;obtain⟨g,l,gq,rfl,r1,r2⟩:=Uq (a:=a) (c:=⟨.value f,args,F⟩) (ty:=D) (args:=l) rfl rfl rfl (j6 i u q) (by simpa using zT u j) B;refine .inr ⟨g,l,gq,rfl,r1,?_⟩;simp only[execOp]
     rw[r2]
   | invoke X m=>
     simp only[jz,fj]at hv;obtain⟨fv,q,l,j,B⟩:=hv;obtain⟨g,l,gq,rfl,r1,r2⟩:=Qr (a:=a) (c:=⟨.invoke X m,args,F⟩) (ty:=D) i (args:=l) rfl rfl rfl (j6 i u q) (by simpa using zT u j) B
     exact .inr ⟨g,l,gq,rfl,r1,r2⟩
 |_=>cases hv
end
