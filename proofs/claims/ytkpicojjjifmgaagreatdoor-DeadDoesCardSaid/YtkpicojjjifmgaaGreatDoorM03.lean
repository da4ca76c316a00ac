/- Parts. -/
import Derived.Test.YtkpicojjjifmgaaGreatDoorM02
import Derived.Laws.AppendOwn
import Derived.Laws.NewFold
import Derived.Laws.IdiomStrings
namespace Go.Proofs.YtkpicojjjifmgaaGreatDoor.Hx
structure Gr (h:Hp) (Δ:Env) (h':Hp) (a:Env):Prop where
 next:h.next<=h'.next
 none:∀l,Δ l = .none->l<h.next->a l = .none
theorem Gr.refl(h:Hp)(Δ:Env):Gr h Δ h Δ:=⟨jK _,by simp_all⟩
theorem Gr.trans{h h' c:Hp} {Δ e d:Env} (a:Gr h Δ h' e) (b:Gr h' e c d):Gr h Δ c d:=
 ⟨II a.next b.next,λl g f=>b.none l (a.none l g f) (Cb f a.next)⟩
theorem Gr.same{h h':Hp}{Δ:Env}(a:h.next<=h'.next):Gr h Δ h' Δ:=⟨a,by simp_all⟩
theorem Gr.set{h h':Hp} {Δ:Env} {d:D} (a:h.next<=h'.next):Gr h Δ h' (Δ.set h.next d):=
 ⟨a,by simp_all[Env.set,if_neg,RB]⟩
theorem WR.alloc{Δ:Env} {h:Hp} {w:World} (a:WR Δ h w) {ob:O} {mk:Nat->V} {c:Obj} {mv:Nat->Value} (f:Made Δ ob mk c mv) :
  ∃b,WR b (h.new ob) (w.alloc c)/\fP b (mk h.next) (mv w.heap.size)/\FR Δ b w (w.alloc c)/\Gr h Δ (h.new ob) b:=by
 obtain⟨d,e,g,hv⟩:=f h.next w.heap.size a.Gp;exact⟨Δ.set h.next d,(a.more ob).lay a.Gp (Mm _) (by rw[wC,if_pos rfl]) e g,hv,FR.lay a.Gp e,Gr.set (OH _)⟩
theorem wk(g o e:Nat) (fr:Nat×Nat):∀(vs:List Value) (i:Nat) (cur:Array Value) (w:World),w.heap[g]? =some (.cells cur e fr)->(∀j,j<cur.size->¬(fr.1<=j/\j<fr.2))->
  o+i+vs.length<=cur.size->(∀v∈vs,v.oneCell' = true)->
  (storeCells ⟨g,o,none⟩ vs i).run P0 w = .ok () (w.setRow g (cur.toList.take (o+i)++vs++cur.toList.drop (o+i+vs.length)).toArray)
 | [],i,cur,w,hg,_,_,_=>by
   simp only[storeCells,GP,Zi,YZ,Ym,Array.toArray_toList];rw[setRow_self w g cur e fr hg]
   rfl
 | v ::rest,i,cur,w,hg,hf,hl,f=>by
   have hi:o+i<cur.size:=by simp at hl;omega
   have a:w.cell? ⟨g,o+i,none⟩=some cur[o+i]:=by simp[World.cell?,hg,hi]
   have b:w.frozen? ⟨g,o+i,none⟩=false:=by
     have:=hf (o+i) hi;simp only[World.frozen?,hg];simpa using this
   have c:(store ((⟨g,o,none⟩:Addr).add i) v).run P0 w = .ok () (w.setRow g (cur.setIfInBounds (o+i) v)):=by
     rw[tS,run_store P0 w _ v _ (by simp_all),a];simp[b,setCell_eq_setRow w g (o+i) cur e fr v hg]
   have d:=wk g o e fr rest (i+1) (cur.setIfInBounds (o+i) v) (w.setRow g (cur.setIfInBounds (o+i) v)) (by grind[setRow_heap]) (by simp_all) (by grind) (by simp_all);simp only[storeCells,xk,c,vQ,d,setRow_setRow];congr 3;have e:=list_seg_step cur.toList (o+i) v rest (by simp at hl⊢;omega)
   grind
theorem Uq(l vs:List Value) (k:Nat) (a:k+vs.length<=l.length) (j:Nat) :
  (l.take k++vs++l.drop (k+vs.length))[j]? =if k<=j/\j<k+vs.length then vs[j-k]? else l[j]?:=by
 rw[Ii,List.getElem?_append,Ip,wBm (by omega)]
 grind
theorem WR.set{Δ:Env} {h:Hp} {w w':World} (j:WR Δ h w) {l:Nat} {d:D} {o B:O} (F:Δ l=some d) (r:h.get l=some o) (t:o.live=true) (z:d.ro=false)
  (i:B.live=true->o.live=true) (L:Ry Δ d B w'.heap[d.b]?) (G:w'.heap.size=w.heap.size) (M:∀b,b≠d.b->w'.heap[b]? =w.heap[b]?):WR Δ (h.put l B) w' where
 fresh:=j.fresh
 oW:=λm e n=>by rw[G];exact j.oW m e n
 obj:=λm e n=>by
  by_cases he:l=m
  ·subst he;rw[F]at n;cases n;exact⟨B,by rw[qn _ _ (Hp.M6 r),if_pos rfl],L⟩
  ·obtain ⟨p,u,C⟩:=j.obj m e n;refine⟨p,by simp_all[qn,Hp.M6,if_neg],?_⟩;by_cases hb:e.b=d.b
   ·have a:p.live=false:=by
     cases hp:p.live with
     |false=>rfl
     |true=>exact absurd hb.symm (j.apart l m d e o p F n he r u t hp (.inl z))
    cases p with
    | cells E sz live ro cs=>
      obtain⟨a1,a2,a3,a4,_⟩:=C
      exact⟨a1,a2,a3,a4,λJ=>by simp only[O.live]at a;rw[a]at J;cases J⟩
    |map P c=>cases a
    |iter m s x c=>cases a
   simp_all
 apart:=λm H e E p K n v q hp f y k I=>by
  rw[qn _ _ (Hp.M6 r)]at hp f;by_cases u:l=m
  ·subst u;rw[if_pos rfl]at hp;cases hp;rw[if_neg q]at f;exact j.apart l H e E o K n v q r f (i y) k I
  ·rw[if_neg u]at hp;by_cases C:l=H
   ·subst C;rw[if_pos rfl]at f;cases f;exact j.apart m l e E p o n v q hp r y (i k) I
   ·rw[if_neg C]at f;exact j.apart m H e E p K n v q hp f y k I
 Iu:=λg p A hp=>by
  rw[qn _ _ (Hp.M6 r)]at hp;by_cases u:l=g
  ·subst u;exact j.Iu l o A r
  ·rw[if_neg u]at hp;exact j.Iu g p A hp
 zb:=j.zb
 TL:=j.TL.step (λb _ N=>M b λe=>N ⟨l,d,F,z,e.symm⟩) (by simp_all)
theorem FR.set{Δ:Env} {w w':World} {l:Nat} {d:D} (f:Δ l=some d) (a:d.ro=false) (c:w'.heap.size=w.heap.size) (g:∀b,b≠d.b->w'.heap[b]? =w.heap[b]?)
  (h:w'.os=w.os) (i:w'.tape=w.tape) (j:w'.output=w.output):FR Δ Δ w w':=
 ⟨Env.le_refl _,YO c.symm,h,i,j,λb _ k=>g b λe=>k ⟨l,d,f,a,e.symm⟩,by simp_all⟩
theorem WR.kill{Δ:Env} {h:Hp} {w:World} (c:WR Δ h w) {l e sz:Nat} {cs:List V} (f:h.get l=some (.cells e sz true false cs)) {d:D} (g:Δ l=some d) :
  WR Δ (h.put l (.cells e sz false false cs)) w/\(∀m a p,m≠l->Δ m=some a->h.get m=some p->p.live=true->a.b≠d.b)/\d.ro=false:=by
 obtain⟨o,k,n⟩:=c.obj l d g;rw[f]at k;cases k;obtain⟨a1,a2,a3,a4,r⟩:=n;refine⟨c.set g f rfl a4 (λh=>(nomatch h)) ⟨a1,a2,a3,a4,λh=>(nomatch h)⟩ rfl (by simp_all),λm a p i q hp j=>?_,a4⟩;exact c.apart m l a d p _ q g i hp f j rfl (.inr a4)
section
variable{Δ:Env}{h:Hp}{w:World}{n:Nat}{t:Tm}{a:Act}
theorem Lv(s:WR Δ h w) {l:Nat} {d:D} (m:Δ l=some d) {off:Nat} {new:List V} {Ts:List Value} (n:gP Δ new Ts) {h':Hp} (hv:ER h l off new=some h') :
  ∃w',(storeCells ⟨d.b,d.base+off,none⟩ Ts 0).run P0 w = .ok () w'/\WR Δ h' w'/\FR Δ Δ w w':=by
 unfold ER at hv;rw[lE]at hv;obtain⟨e,sz,live,ro,cs,t,hv⟩:=hv;simp only[hY,fx]at hv;obtain⟨rfl,p,f,pD,hs,hv⟩:=hv;cases hv;have g:ro=false:=by simpa using p
 subst g;obtain⟨mM,u,q⟩:=Kc hs;obtain⟨o,y,z⟩:=s.obj l d m;rw[t]at y;cases y;obtain⟨a1,a2,a3,a4,A⟩:=z;obtain⟨c,r,fr,b1,b2,b3,E,F⟩:=A rfl;have B:=n.length;have j:d.base+off+Ts.length<=c.size:=by omega
 have a:=wk d.b (d.base+off) r fr Ts 0 c w b1 (by grind) (by omega) (n.zdK f);simp only[YZ]at a;refine⟨_,a,s.set m t rfl a4 (λh=>h) ⟨a1,a2,by omega,a4,λ_=>?_⟩ (by simp) (by grind[setRow_other]),FR.set m a4 (by simp) (by grind[setRow_other]) rfl rfl rfl⟩;refine⟨_,r,fr,setRow_heap w d.b c _ r fr b1,?_,b3,by omega,λi v hi=>?_⟩
 ·grind
 ·rw [q i]at hi;have k:=Uq c.toList Ts (d.base+off) (by simpa using j) (d.base+i);rw[wBs,k];by_cases hin:off<=i/\i<off+new.length
  ·rw[if_pos hin]at hi;rw[if_pos (by omega)];obtain⟨x,G,C⟩:=n.get _ _ hi
   grind
  grind
end
structure zo (Δ:Env) (h:Hp) (w:World) (v:V) (h':Hp) (a:Env) (x:Value) (w':World):Prop where
 val:fP a v x
 world:WR a h' w'
 frame:FR Δ a w w'
 grow:Gr h Δ h' a
theorem WR.heap{Δ:Env} {h:Hp} {w w':World} (a:WR Δ h w) (b:w'.heap=w.heap):WR Δ h w':=
 ⟨a.fresh,λl d e=>by rw[b];exact a.oW l d e,λl d e=>by rw[b];exact a.obj l d e,a.apart,a.Iu,a.zb,λg c f=>by rw[b];exact a.TL g c f⟩
theorem WR.W0{Δ:Env} {h:Hp} {w:World} (c:WR Δ h w) {l:Nat} {o:O} {d:D} (u:Δ l=none) (y:l<h.next) (H:h.get l=some o) (z:d.b<w.heap.size)
  (I:Ry (Δ.set l d) d o w.heap[d.b]?) (A:∀m v p,Δ m=some v->h.get m=some p->p.live=true->v.b≠d.b) (B:RW Δ d.b):WR (Δ.set l d) h w where
 fresh:=λm e a=>by
  rcases Env.ml a with⟨rfl,rfl⟩|⟨_,a⟩
  ·exact y
  ·exact c.fresh m e a
 oW:=λm e a=>by
  rcases Env.ml a with⟨rfl,rfl⟩|⟨_,a⟩
  ·exact z
  ·exact c.oW m e a
 obj:=λm e a=>by
  rcases Env.ml a with⟨rfl,rfl⟩|⟨_,a⟩
  ·simp_all
  ·obtain⟨C,f,j⟩:=c.obj m e a;exact⟨C,f,j.mono (Env.yV u)⟩
 apart:=λm E e F p G a k n hp q r i s=>by
  rcases Env.ml a with⟨f,j⟩|⟨_,f⟩ <;> rcases Env.ml k with⟨x,J⟩|⟨_,x⟩
  ·omega
  ·grind
  ·grind
  ·exact c.apart m E e F p G f x n hp q r i s
 Iu:=λg p t hp=>by
  obtain⟨e,f,j⟩:=c.Iu g p t hp;exact⟨e,Env.yV u _ _ f,j⟩
 zb:=c.zb
 TL:=c.TL.step (by simp_all) λm e a _=>by
  rcases Env.ml a with⟨rfl,rfl⟩|⟨_,a⟩
  ·simp_all
  simp_all
theorem FR.W0{Δ:Env} {w w':World} {l:Nat} {d:D} (c:Δ l=none) (h:FR Δ Δ w w') (f:RW Δ d.b):FR Δ (Δ.set l d) w w' where
 le:=Env.yV c
 size:=h.size
 os:=h.os
 tape:=h.tape
 output:=h.output
 fm:=h.fm
 new:=λm e a=>by
  rcases Env.ml a with⟨rfl,rfl⟩|⟨_,a⟩
  ·simp_all
  simp_all
theorem FR.drew{Δ a:Env}{w w':World}(h:FR Δ a w.drew w'):FR Δ a w w':=⟨h.le,h.size,h.os,h.tape,h.output,h.fm,h.new⟩
section
variable{Δ:Env}{h:Hp}{w:World}{n:Nat}{t:Tm}{a:Act}
theorem Oh(Δ:Env) (s:ByteArray):gP Δ (Ar s.data.toList) (s.data.toList.map λb=>Value.int .u8 b.toNat):=by
 generalize s.data.toList=l
 induction l with
 |nil=>exact .nil
 |cons b l a=>exact .cons _ _ _ _ (.int .u8 _) a
theorem Og(i:WR Δ h w) {size:Nat} {x:V} {xv:Value} {m:Nat} {cs:List V} (b:fP Δ x xv) (hv:lU h size x=some (m,cs)) :
  ∃a,gP Δ cs a/\(∀w',(Builtin.lenOf xv).run P0 w' = .ok m w')/\(Builtin.firstCells size m xv).run P0 w = .ok (Array.mk a) w/\a.length=m*size:=by
 unfold lU at hv;split at hv
 ·cases hv;cases b;exact⟨[],.nil,λ_=>rfl,rfl,by simp⟩
 ·cases hv;cases b;exact⟨[],.nil,λ_=>rfl,by simp[Builtin.firstCells,loadCells,loadCellsFrom],by simp⟩
 ·rename_i l off k;rw[fx]at hv;obtain⟨pD,c,e⟩:=hv;cases e
  cases b with
  | slice _ _ _ cap o d j r n p=>
    rcases p with⟨rfl,_,_⟩|⟨rfl,_⟩
    ·obtain⟨xs,t,g⟩:=vS i j c
     exact⟨xs,g,λ_=>rfl,by grind[Builtin.firstCells],by rw[<-g.length,Qi c];rfl⟩
    omega
 ·rename_i s;rw[hY]at hv;obtain⟨c,e⟩:=hv;cases e;have f:size=1:=AG c;subst f
  cases b with
  | str s=>
    refine ⟨_,Oh Δ s,by simp_all[Builtin.lenOf],?_,by simp⟩;have q:s.extract 0 s.size=s:=by
      rw[ByteArray.ext_iff];simp
    simp only[Builtin.firstCells];have:s.data.toList.length=s.size:=by simp
    rw[this,q];simp only[KL];congr 1
    grind
 ·cases hv
theorem rq{n xT ty e:Nat} {j:TypeDesc} (hs:P0.underlying n=some (.slice e)) (o:P0.underlying xT=some j) (hi:∀k,j≠ .int k) {size:Nat} (p:y0 e=some size)
  {base:Option Addr} {a c m:Nat} {x:Value} (hlen:(Builtin.lenOf x).run P0 w = .ok m w) {f:List Value} (g:(Builtin.firstCells size m x).run P0 w = .ok (Array.mk f) w)
  (d:a+m<=c) {w':World} (l:∀b,base=some b->(storeCells (b.add (a*size)) f 0).run P0 w = .ok () w') (q:base=none->w' = w) :
  (Builtin.append_ #[n,xT] ty #[.slice base a c,x]).run P0 w = .ok (.slice base (a+m) c) w':=by
 have h:=wm (w:=w) p;have i:(match (generalizing:=false) j with| .int _=>true|_=>false)=false:=by cases j <;> first|rfl|simp_all
 cases base with
 | none=>
   cases q rfl
   simp[Builtin.append_,fX hs,fX o,h,i,hlen,d,g]
 |some b=>simp[Builtin.append_,fX hs,fX o,h,i,hlen,d,g,l b rfl]
theorem JJ{A xT ty c:Nat} {q:TypeDesc} (hs:P0.underlying A=some (.slice c)) (E:P0.underlying xT=some q) (hi:∀k,q≠ .int k) {size j7:Nat} {z:V}
  (F:elemOf c=some (size,j7,z)) {base:Option Addr} {a b m:Nat} {x:Value} (hlen:(Builtin.lenOf x).run P0 w = .ok m w) {d e:List Value}
  (f:(Builtin.firstCells size a (.slice base a b)).run P0 w.drew = .ok (Array.mk d) w.drew)
  (g:(Builtin.firstCells size m x).run P0 w.drew = .ok (Array.mk e) w.drew) (G:¬a+m<=b) (N:(a+m)*j7<=70368744177664) (O:a+m<=70368744177664) :
  ∃B,B.size=size/\(Builtin.append_ #[A,xT] ty #[.slice base a b,x]).run P0 w = .ok (.slice (some ⟨w.heap.size,0,none⟩) (a+m) (grownCap w (a+m) b c))
   (w.drew.alloc (.cells (Array.mk d++Array.mk e++Builtin.zeroCells B (grownCap w (a+m) b c-(a+m))) c)):=by
 obtain⟨r,h,s,C,H,_⟩:=Gi F;obtain⟨I,J,l,i,j,t⟩:=z7 s;have u:(match (generalizing:=false) q with| .int _=>true|_=>false)=false:=by cases q <;> first|rfl|simp_all
 have K:i.bytes=j7:=by
  unfold ZH at h;rw[fx]at h;obtain⟨L,n,v⟩:=h;rw[j]at n;cases n;simpa using v
 have y:i.size=size:=by
  obtain⟨L,n,v⟩:=Dv r;rw[j]at n;cases n;exact v
 have D:Builtin.nextslicecap (a+m) b*i.bytes<=281474976710656:=growslice_fits (by omega) (by grind);have o:¬(281474976710656<Builtin.nextslicecap (a+m) b*i.bytes):=by omega
 have p:¬(9223372036854775807<((a:Int)+(m:Int))):=by omega
 have M:=(l λ_=>none).cells.length;refine⟨I.cells,by simp_all,?_⟩;rw[<-y]at f g;have hq:(Question.appendCap (a+m) b c).forced=false:=rfl;simp[Builtin.append_,fX hs,fX E,sizeOf,typeInfo,zeroValue,j,t,u,hlen,G,p,o,hq,f,g,newRow,grownCap]
 grind
theorem L9(E : WR Δ h w) {sT xT ty f:Nat} {dx:TypeDesc} (hs:P0.underlying sT=some (.slice f)) (hx:P0.underlying xT=some dx) (hi:∀k,dx≠ .int k) {size j7:Nat} {z:V}
    (hz:elemOf f=some (size,j7,z)) {s x:V} {sv xv:Value} (N:fP Δ s sv) (aj:fP Δ x xv) {r:R} (hv:fg f size j7 s x h=some r) :
    ∃v h' O y w',r = .val v h'/\(Builtin.append_ #[sT,xT] ty #[sv,xv]).run P0 w = .ok y w'/\zo Δ h w v h' O y w':=by
  obtain⟨P,aW,aX,S,aY,_⟩:=Gi hz;unfold fg at hv;rw[fx]at hv;obtain⟨⟨m,cs⟩,h1,q⟩:=hv;obtain⟨n,n1,n2,n3,n4⟩:=Og E aj h1;have ax:WR Δ h w.drew:=E.heap rfl;obtain⟨I,d1,d2,d3,d4⟩:=Og ax aj h1;have ak:cs.length=m*size:=by rw[n1.length,n4]
  cases hm:Nat.beq m 0 with
  | true=>
    have Y:m=0:=AG hm;subst Y;simp only[hm]at q;have ay:n=[]:=Wi (by simpa using n4);subst ay;split at q
    ·cases q;cases N
     exact⟨_,_,Δ,_,w,rfl,rq hs hx hi P (n2 w) n3 (jK _) (λb G=>by cases G) (λ_=>rfl),.ef,E,.refl _ _,.refl _ _⟩
    ·cases q
     cases N with
     | slice l off len cap o d H hk J ho=>
       exact⟨_,_,Δ,_,w,rfl,rq hs hx hi P (n2 w) n3 J (λb G=>rfl) (λ_=>rfl),.slice _ _ _ cap o d H hk J ho,E,.refl _ _,.refl _ _⟩
    ·cases q
  | false =>
    have Y:0<m:=Nat.pos_of_ne_zero λe=>by rw[e]at hm;cases hm
    simp only[hm,hY]at q;obtain⟨T,q⟩:=q
    have fresh:∀(base:Option Addr) (a t:Nat) (g:List Value) (yO:List V) (h0:Hp),sv = .slice base a t->gP Δ yO g->g.length=a*size->
        (Builtin.firstCells size a (.slice base a t)).run P0 w.drew = .ok (Array.mk g) w.drew->¬a+m<=t->(a+m)*j7<=70368744177664->a+m<=70368744177664->
        WR Δ h0 w->h0.next=h.next->
        ∃O y w',(Builtin.append_ #[sT,xT] ty #[sv,xv]).run P0 w = .ok y w'/\zo Δ h w (.slice h.next 0 (a+m)) (h0.new (.cells f size true false (yO++cs))) O y w':=by
      intro base a t g yO h0 al U K A Z G aA aB uh;obtain⟨zc,aC,hr⟩:=JJ (ty:=ty) hs hx hi hz (n2 w) A d3 Z G aA;have L:=grownCap_ge w (a+m) t f;generalize grownCap w (a+m) t f=nc at hr L
      have aa:Made Δ (.cells f size true false (yO++cs)) (λl=> .slice l 0 (a+m)) (.cells (Array.mk g++Array.mk I++Builtin.zeroCells zc (nc-(a+m))) f)
          (λb=> .slice (some ⟨b,0,none⟩) (a+m) nc):=by
        intro l b hn;have J:=Env.yV (d:=⟨b,0,size,(yO++cs).length,nc*size,false,0⟩) hn;have am:=U.append d1;have hlen:(yO++cs).length=(a+m)*size:=by rw[Ec,U.length,K,ak,Vx]
        have aS:(a+m)*size<=nc*size:=wBw _ L;refine⟨⟨b,0,size,(yO++cs).length,nc*size,false,0⟩,rfl,⟨rfl,rfl,rfl,rfl,λ_=>?_⟩,?_⟩
        ·refine By ?_ rfl (by show(yO++cs).length<=nc*size;omega) λi u B=>?_
         ·show(Array.mk g++Array.mk I++Builtin.zeroCells zc (nc-(a+m))).size=nc*size
          simp only[Array.size_append,List.size_toArray,size_zeroCells,aC,K,d4];rw[<-Vx,<-Vx];congr 1;omega
         ·obtain⟨y,hy,aD⟩:=am.get i u B
          refine⟨y,?_,aD.mono J⟩
          grind
        ·refine fP.slice l 0 (a+m) nc 0 _ (Env.w5 _ _ _) rfl L (.inl ⟨rfl,?_,?_⟩)
         ·simp_all
         ·show 0+0+nc*size<=nc*size;omega
      obtain⟨O,a1,a2,a3,a4⟩:=(aB.heap (w':=w.drew) rfl).alloc aa;have aE:Gr h Δ (h0.new (.cells f size true false (yO++cs))) O:=⟨by rw[<-uh];exact a4.next,λl hl F=>a4.none l hl (by rw[uh];exact F)⟩
      rw[uh]at a2;exact⟨O,_,_,al▸hr,a2,a1,a3.drew,aE⟩
    split at q
    ·simp only[hY]at q
     obtain⟨h3,h4,h5⟩:=q;cases h5;cases N;have Q:m*j7<=70368744177664:=JE h3;have ab:m<=70368744177664:=JE h4;obtain⟨O,y,w',b1,b2⟩:=fresh none 0 0 [] [] h rfl .nil (by simp) rfl (by omega) (by simpa using Q) (by simpa using ab) E rfl
     grind
    ·rename_i l off len
     rw[lE]at q;obtain⟨e,sz,live,ro,all,Z,q⟩:=q;simp only[hY]at q;obtain⟨rfl,aF,an,q⟩:=q;have ac:sz=size:=AG an;subst ac;have ao:ro=false:=by simpa using aF
     subst ao
     cases N with
     | slice _ _ _ cap o d H hk J ho=>
       obtain⟨ob,ap,hr⟩:=E.obj l d H;rw[Z]at ap;cases ap;obtain⟨a1,a2,a3,a4,a5⟩:=hr;obtain⟨c,e',fr,b1,b2,b3,b5,b4⟩:=a5 rfl;rw[a2]at ho;have aq:(len+m)*sz=len*sz+m*sz:=Vx _ _ _;have aZ:0<m*sz:=Nat.mul_pos Y S
       cases hin:Nat.ble (Nat.add off (Nat.mul (Nat.add len m) sz)) all.length with
       | true =>
         simp only[hin,fx]at q;obtain⟨pD,h3,h4⟩:=q;cases h4;have aT:off+(len+m)*sz<=all.length:=JE hin;rcases ho with⟨rfl,M,ar⟩|⟨rfl,M⟩
         ·have j:len+m<=cap:=by
            rcases P9 cap (len+m)with F|L
            ·exfalso
             have:cap*sz<(len+m)*sz:=Nat.mul_lt_mul_of_pos_right F S;omega
            ·exact L
          have aG:ER h l (off+len*sz) cs=some (h.put l (.cells e sz true false pD)):=by
            unfold ER;rw[lE];refine⟨e,sz,true,false,all,Z,?_⟩;simp only[hY,fx];exact⟨trivial,rfl,T,pD,h3,rfl⟩
          obtain⟨w',c1,c2,c3⟩:=Lv E H n1 aG;refine⟨_,_,Δ,_,w',rfl,rq hs hx hi P (n2 w) n3 j (λb G=>?_) (λG=>by cases G),?_,c2,c3,.same (jK _)⟩
          ·cases G
           rw[tS,Nat.add_assoc];exact c1
          ·exact .slice l off (len+m) cap _ d H hk j (by simp_all)
         ·exfalso;omega
       | false =>
         simp only[hin,fx,hY]at q;obtain⟨yO,h3,aH,h4,h5,h6⟩:=q;cases h6;have ab:(len+m)*j7<=70368744177664:=JE h4;have aI:len+m<=70368744177664:=JE h5;have Q:sub all off (len*sz)=some yO:=h3;obtain⟨ae,aJ⟩:=sub_eq Q;obtain⟨aK,a6,_⟩:=E.kill Z H;have a7:GN h l off (len*sz)=some yO:=by
           unfold GN;rw[lE];exact⟨e,sz,true,false,all,Z,by rw[hY];exact⟨rfl,Q⟩⟩
         by_cases j:len+m<=cap
         ·rcases ho with⟨rfl,M,ar⟩|⟨rfl,M⟩
          ·have aU : (len+m)*sz<=cap*sz:=wBw _ j
           have W:d.base+off+len*sz+n.length<=c.size:=by rw[n4];omega
           have A:=wk d.b (d.base+off+len*sz) e' fr n 0 c w b1 (by grind) (by simpa using W) (n1.zdK T);simp only[YZ]at A;have ag:d.base+off+len*sz+n.length<=c.toList.length:=by simpa using W
           generalize hw':w.setRow d.b (c.toList.take (d.base+off+len*sz)++n++c.toList.drop (d.base+off+len*sz+n.length)).toArray=w' at A;have C:w'.heap.size=w.heap.size:=by rw[<-hw'];simp
           have D:∀b,b≠d.b->w'.heap[b]? =w.heap[b]?:=by grind[setRow_other]
           have au:w'.heap[d.b]? =some (.cells (c.toList.take (d.base+off+len*sz)++n++c.toList.drop (d.base+off+len*sz+n.length)).toArray e' fr):=by
             rw[<-hw'];exact setRow_heap w d.b c _ e' fr b1
           have aw:WR Δ (h.put l (.cells e sz false false all)) w':=E.set H Z rfl a4 (λh=>(nomatch h)) ⟨a1,a2,a3,a4,λh=>(nomatch h)⟩ C D;have aL:FR Δ Δ w w':=FR.set H a4 C D (by rw[<-hw'];rfl) (by rw[<-hw'];rfl) (by rw[<-hw'];rfl);have hn:=E.Gp;have a8:(yO++cs).length=(len+m)*sz:=by rw[Ec,ae,ak,aq]
           have X:=Env.yV (d:=⟨d.b,d.base+off,sz,(yO++cs).length,d.VG,false,0⟩) hn
           refine ⟨_,_,Δ.set h.next ⟨d.b,d.base+off,sz,(yO++cs).length,d.VG,false,0⟩,_,w',rfl,
             rq hs hx hi P (n2 w) n3 j (λb G=>?_) (λG=>by cases G),?_,?_,aL.W0 hn ⟨l,d,H,a4,rfl⟩,Gr.set (OH _)⟩
           ·cases G
            rw[tS];exact A
           ·refine .slice h.next 0 (len+m) cap (d.base+off) ⟨d.b,d.base+off,sz,(yO++cs).length,d.VG,false,0⟩ (Env.w5 _ _ _) rfl j (.inl ⟨rfl,?_,?_⟩)
            ·simp_all
            omega
           ·refine (aw.more (.cells f sz true false (yO++cs))).W0 (o:= .cells f sz true false (yO++cs)) (d:=⟨d.b,d.base+off,sz,(yO++cs).length,d.VG,false,0⟩) hn (Mm _) (by rw[wC];exact if_pos rfl) (by rw[C];exact E.oW l d H) ⟨rfl,rfl,rfl,rfl,λ_=>?_⟩ (λm' d' p aM hp aN=>?_) ⟨l,d,H,a4,rfl⟩
            ·refine ⟨_,e',fr,au,?_,λ_=>b3 a4,?_,λi v B=>?_⟩
             ·grind
             ·grind
             ·show ∃x,(List.toArray _)[d.base+off+i]? =some x/\_
              rw[wBs,Uq c.toList n _ ag];rw[List.getElem?_append]at B;by_cases F:i<yO.length
              ·rw[if_pos F,aJ i (by omega)]at B
               obtain⟨x,ah,ai⟩:=b4 _ _ B;rw[if_neg (by omega)];exact⟨x,by rw[Wy,Nat.add_assoc];exact ah,ai.mono X⟩
              ·rw[if_neg F]at B
               obtain⟨x,ah,ai⟩:=n1.get _ _ B;have aV:=(jR.1 B).1;rw[if_pos (by omega)];refine⟨x,?_,ai.mono X⟩;rw[<-ah];congr 1;omega
            ·have aO:h.next≠m':=Nat.ne_of_gt (E.fresh _ _ aM)
             rw[wC]at hp;rw[if_neg (by exact aO)]at hp;rw[qn _ _ (E.fresh _ _ H)]at hp;by_cases he:l=m'
             ·subst he
              rw[if_pos rfl]at hp;cases hp;cases aN
             grind
          ·exfalso;omega
         ·have aP:∃g,gP Δ yO g/\(Builtin.firstCells sz len (.slice (some ⟨d.b,o,none⟩) len cap)).run P0 w.drew = .ok (Array.mk g) w.drew:=by
            rcases ho with⟨rfl,M,ar⟩|⟨rfl,M⟩
            ·grind[vS,Builtin.firstCells]
            ·have aQ:len=0:=by omega
             subst aQ;have aR:yO=[]:=Wi (by rw[ae];simp);subst aR;exact⟨[],.nil,by simp[Builtin.firstCells,loadCells,loadCellsFrom]⟩
          obtain⟨g,c1,c2⟩:=aP;obtain⟨O,y,w',e1,e2⟩:=fresh _ len cap g yO (h.put l (.cells e sz false false all)) rfl c1 (by rw[<-c1.length,ae]) c2 j ab aI aK rfl;exact⟨_,_,O,y,w',rfl,e1,e2⟩
    ·cases q
end
section
variable{Δ:Env}{h:Hp}{w:World}{n:Nat}{t:Tm}{a:Act}
theorem VP(c:WR Δ h w) {ty size:Nat} (k:y0 ty=some size) {l off:Nat} {v:V} {pv xv:Value} (hp:fP Δ (.ptr l off) pv) (f:fP Δ v xv)
  (hlen:Nat.beq v.cells.length size=true) {h':Hp} (hs:ER h l off v.cells=some h') :
  ∃w',(Instr.storeAt ty pv xv).run P0 w = .ok () w'/\WR Δ h' w'/\FR Δ Δ w w'/\Gr h Δ h' Δ:=by
 cases hp with
 | ptr _ _ d g=>
   have hc:=f.cells;obtain⟨w',m,i,j⟩:=Lv c g hc hs;have n:=AG hlen;have a:=hc.length;simp only[Yw]at a;have b:h'.next=h.next:=by
     unfold ER at hs;rw[lE]at hs;obtain⟨e,sz,live,ro,cs,o,hv⟩:=hs;simp only[hY,fx]at hv;obtain⟨_,_,_,_,_,hv⟩:=hv;cases hv;rfl
   refine⟨w',?_,i,j,.same (YO b.symm)⟩
   simp_all[Instr.storeAt,Instr.sureAddr,storeVar,wm]
theorem uF.length{b:List (V×V×Nat)} {a:List MapEntry} (h:uF Δ b a):b.length=a.length:=by
 induction h <;> grind
theorem uF.get{c:List (V×V×Nat)} {a:List MapEntry} (h:uF Δ c a) {i:Nat} {e:V×V×Nat} (hi:c[i]? =some e) :
  ∃b,a[i]? =some b/\fP Δ e.1 b.key/\fP Δ e.2.1 b.val/\b.born=e.2.2:=by
 induction h generalizing i <;> grind
theorem uF.set{c:List (V×V×Nat)} {a:List MapEntry} (h:uF Δ c a) {i:Nat} {k v:V} {m:Nat} {b:MapEntry} (g:fP Δ k b.key) (hv:fP Δ v b.val) (j:b.born=m) :
  uF Δ (c.set i (k,v,m)) (a.set i b):=by
 induction h generalizing i with
 |nil=>exact .nil
 | cons k0 o n e0 c a d e f hs l=>
   cases i with
   |zero=>exact .cons _ _ _ _ _ _ g hv j hs
   |succ i=>exact .cons _ _ _ _ _ _ d e f l
theorem uF.snoc{c:List (V×V×Nat)} {a:List MapEntry} (h:uF Δ c a) {k v:V} {m:Nat} {b:MapEntry} (g:fP Δ k b.key) (hv:fP Δ v b.val) (i:b.born=m) :
  uF Δ (c++[(k,v,m)]) (a++[b]):=by
 induction h with
 |nil=>exact .cons _ _ _ _ _ _ g hv i .nil
 |cons k0 l n e0 c a d e f hs j=>exact .cons _ _ _ _ _ _ d e f j
theorem uF.erase{b:List (V×V×Nat)} {a:List MapEntry} (h:uF Δ b a) {i:Nat}:uF Δ (b.eraseIdx i) (a.eraseIdx i):=by
 induction h generalizing i with
 |nil=>exact .nil
 | cons k0 g n e0 b a c d e hs f=>
   cases i with
   |zero=>exact hs
   |succ i=>exact .cons _ _ _ _ _ _ c d e f
theorem Ho{k:V} {x y:Value} (m:Nat) (d:Jn k=true) (c:fP Δ k x) (b:fP Δ k y):Instr.sameBits m x y=true:=by
 cases k <;> simp[Jn]at d
 ·cases c;cases b;grind[Instr.sameBits]
 ·cases c;cases b;grind[Instr.sameBits]
 ·rename_i s
  cases c with
  | str a=>
    generalize hs:a.data.toList=l at b
    cases b with
    | str e=>
      have:a=e:=by
        rw[ByteArray.ext_iff];exact Array.ext' hs
      subst this;have f:(a == a)=true:=by show(a.data == a.data)=true;simp
      grind[Instr.sameBits]
theorem Yd(m:Nat) {cs:List V} {xs ys:List Value} (f:cs.all Jn=true) (a:gP Δ cs xs) (b:gP Δ cs ys):xs.length=ys.length/\(xs.zip ys).all (λp=>Instr.sameBits m p.1 p.2)=true:=by
 induction cs generalizing xs ys with
 |nil=>cases a;cases b;simp_all
 | cons c cs g=>
   cases a with
   | cons _ x _ xs a d=>
     cases b with
     | cons _ y _ ys b e=>
       simp only[wB6,vR]at f;obtain⟨h,i⟩:=g f.2 d e;exact⟨by simp[h],by simp only[List.zip_cons_cons,wB6,vR];grind[Ho]⟩
theorem KZ{k:V} {x y:Value} (m:Nat) (c:JR k=true) (a:fP Δ k x) (b:fP Δ k y):Instr.sameBits (m+1) x y=true:=by
 cases k with
 | agg cs=>
   cases a with|agg _ xs a=>cases b with|agg _ ys b=>
   obtain⟨d,e⟩:=Yd m c a b
   simp_all[Instr.sameBits,vR]
 |_=>grind[Ho,JR]
theorem map_set(g:WR Δ h w) {l:Nat} {d:D} (f:Δ l=some d) {k e:List (V×V×Nat)} {c c2:Nat} (i:h.get l=some (.map k c)) {LX:Array MapEntry} (m:uF Δ e LX.toList) :
  (setObj d.b (.map LX c2)).run P0 w = .ok () {w with heap:=w.heap.setIfInBounds d.b (.map LX c2)}/\
  WR Δ (h.put l (.map e c2)) {w with heap:=w.heap.setIfInBounds d.b (.map LX c2)}/\FR Δ Δ w {w with heap:=w.heap.setIfInBounds d.b (.map LX c2)}:=by
 obtain⟨o,j,n⟩:=g.obj l d f;rw[i]at j;cases j;obtain⟨a1,a2,a3,p,r,s⟩:=n;have q:=g.oW l d f;have a:∀b,b≠d.b->({w with heap:=w.heap.setIfInBounds d.b (.map LX c2)}:World).heap[b]? =w.heap[b]?:=by grind
 refine⟨by grind[setObj,Sem.run],g.set f i rfl a2 (λh=>h) ⟨a1,a2,a3,LX,?_,m⟩ (by simp) a,FR.set f a2 (by simp) a rfl rfl rfl⟩
 simp_all
theorem TN(x:WR Δ h w) {I y N:Nat} (J:P0.underlying I=some (.map y N)) {d:Option (List Field)} (K:IZ y=some d) {m k v:V} {mv f vv:Value} (O:fP Δ m mv) (s:fP Δ k f) (L:fP Δ v vv)
  {r:R} (hv:NB y d m k v h=some r):∃h' w',r = .val .undef h'/\(Instr.mapUpdate I mv f vv).run P0 w = .ok () w'/\WR Δ h' w'/\FR Δ Δ w w'/\Gr h Δ h' Δ:=by
 unfold NB at hv;rw[hY]at hv;obtain⟨P,hv⟩:=hv;split at hv
 ·rename_i l;simp only[Aq,fx]at hv;obtain⟨Y,c,z,ob,hp,hv⟩:=hv;cases hv
  cases O with
  | map _ Z A=>
    obtain⟨a,M,t⟩:=Ia x A z;have g:=yu (em:=false) 9999 (by omega) w K s P;unfold O4 at hp;rw[fx]at hp;obtain⟨fr,Q,hp⟩:=hp;obtain⟨j,n,b⟩:=DM K s w t Q
    cases fr with
    | none=>
      cases hp
      cases j with
      |some _=>cases b
      | none=>
        obtain⟨B,C,D⟩:=map_set x A z (LX:=a.push {key:=f,val:=vv,born:=c}) (c2:=c+1) (by rw[Array.toList_push];exact t.snoc (m:=c) s L rfl);refine⟨_,_,rfl,?_,C,D,.same (jK _)⟩
        simp only[Instr.mapUpdate,xk,fX J,vQ,run_getObj_map M,g,n,B]
    | some p=>
      obtain⟨i,u⟩:=p;simp only[fx,hY]at hp;obtain⟨e,E,F,S,hp⟩:=hp;cases hp
      cases j with
      |none=>cases b
      | some T=>
        obtain⟨i',u'⟩:=T;obtain⟨rfl,_⟩:=b;obtain⟨G,U,W,g3,X⟩:=t.get E;rw[V.eq_of_beq _ _ F]at W;have H:Instr.sameBits 10000 G.key f=true:=by grind[KZ]
        have o:a[i]? =some G:=by simpa using U
        have q:(a.modify i λe=>{e with key:=f,val:=vv}).toList=a.toList.set i {G with key:=f,val:=vv}:=by
          rw[Array.toList_modify];rw[List.modify_eq_set];simp[o]
        obtain⟨B,C,D⟩:=map_set x A z (LX:=a.modify i λe=>{e with key:=f,val:=vv}) (c2:=c) (by rw[q];exact t.set (i:=i) (k:=k) (v:=v) (m:=e.2.2) s L X);refine⟨_,_,rfl,?_,C,D,.same (jK _)⟩;simp only[Instr.mapUpdate,xk,fX J,vQ,run_getObj_map M,g,n,Instr.keyThatStays,o,Option.map_some,Option.getD_some,H,if_true,KL,B]
 ·cases hv
theorem SH(n:WR Δ h w) {F v M rt:Nat} {o:Array Nat} (g:o[0]? =some F) (x:P0.underlying F=some (.map v M)) {d:Option (List Field)} (y:IZ v=some d) {m k:V} {mv G:Value} (H:fP Δ m mv) (z:fP Δ k G)
  {r:R} (hv:OY v d m k h=some r):∃h' w',r = .val (.tuple []) h'/\(Builtin.delete_ o rt #[mv,G]).run P0 w = .ok (.tuple #[]) w'/\WR Δ h' w'/\FR Δ Δ w w'/\Gr h Δ h' Δ:=by
 unfold OY at hv;rw[hY]at hv;obtain⟨I,hv⟩:=hv;split at hv
 ·cases hv;cases H;have f:=yu (em:=true) 9999 (by omega) w y z I;refine⟨h,w,rfl,?_,n,.refl _ _,.refl _ _⟩;simp only[Builtin.delete_,g,wBs,List.getElem?_cons_zero,X3,xk,fX x,vQ,f,KL]
 ·rename_i l;simp only[Aq,fx]at hv;obtain⟨P,c,A,fr,N,hv⟩:=hv
  cases H with
  | map _ B C=>
    obtain⟨a,J,D⟩:=Ia n C A;have f:=yu (em:=a.isEmpty) 9999 (by omega) w y z I;obtain⟨q,s,e⟩:=DM y z w D N
    cases fr with
    | none =>
      cases hv
      cases q with
      |some _=>cases e
      | none=>
        obtain ⟨t,K,L⟩:=map_set n C A (LX:=a) (c2:=c) D;have j:({w with heap:=w.heap.setIfInBounds B.b (.map a c)}:World)=w:=by
          have:w.heap.setIfInBounds B.b (.map a c)=w.heap:=by
            apply Array.ext_getElem?;intro i;by_cases hi:B.b=i
            ·grind
            ·simp_all
          rw[this]
        rw[j]at t;refine⟨h,w,rfl,?_,n,.refl _ _,.refl _ _⟩
        simp only[Builtin.delete_,g,wBs,List.getElem?_cons_zero,X3,xk,fX x,vQ,run_getObj_map J,f,s,t,KL]
    | some p=>
      obtain⟨i,u⟩:=p;cases hv
      cases q with
      |none=>cases e
      | some O=>
        obtain ⟨Q,u'⟩:=O;obtain⟨rfl,_⟩:=e;have E:(a.eraseIdxIfInBounds i).toList=a.toList.eraseIdx i:=by
          rw[Array.eraseIdxIfInBounds_eq];split
          ·rw[Array.toList_eraseIdx]
          ·grind[List.eraseIdx_of_length_le]
        obtain⟨t,K,L⟩:=map_set n C A (LX:=a.eraseIdxIfInBounds i) (c2:=c) (by rw[E];exact D.erase);refine⟨_,_,rfl,?_,K,L,.same (jK _)⟩;simp only[Builtin.delete_,g,wBs,List.getElem?_cons_zero,X3,xk,fX x,vQ,run_getObj_map J,f,s,t,KL]
 ·cases hv
end
section
variable{Δ:Env}{h:Hp}{w:World}{n:Nat}{t:Tm}{a:Act}
theorem OD{l off:Nat} {new:List V} {h':Hp} (hs:ER h l off new=some h'):h'.next=h.next:=by
 unfold ER at hs;rw[lE]at hs;obtain⟨e,sz,live,ro,cs,a,hv⟩:=hs;simp only[hY,fx]at hv;obtain⟨_,_,_,_,_,hv⟩:=hv;cases hv;rfl
theorem Sv(s:ByteArray) (m:Nat):((s.extract 0 m).data.map λb=>Value.int .u8 b.toNat)=Array.mk ((s.data.toList.take m).map λb=>Value.int .u8 b.toNat):=by
 apply Array.ext'
 simp_all
theorem Tj(Δ:Env) (l:List UInt8):gP Δ (Ar l) (l.map λb=>Value.int .u8 b.toNat):=by
 induction l with
 |nil=>exact .nil
 |cons b l a=>exact .cons _ _ _ _ (.int .u8 _) a
theorem Xr(j:WR Δ h w) {N p size rt:Nat} {k:Array Nat} (y:k[0]? =some N) (O:P0.underlying N=some (.slice p)) (P:y0 p=some size) {d s:V} {x q:Value}
  (Q:fP Δ d x) (hs:fP Δ s q) {r:R} (hv:V8 size d s h=some r) :
  ∃h' m w',r = .val (.int .i64 (.ofNat m)) h'/\(Builtin.copy_ k rt #[x,q]).run P0 w = .ok (.int .i64 m) w'/\WR Δ h' w'/\FR Δ Δ w w'/\Gr h Δ h' Δ:=by
 have a:∀(base:Option Addr) (c f:Nat) (m:Nat),x = .slice base c f->(Builtin.lenOf q).run P0 w = .ok m w->Nat.min m c=0->(Builtin.firstCells size 0 q).run P0 w = .ok #[] w->
   (Builtin.copy_ k rt #[x,q]).run P0 w = .ok (.int .i64 (0:Nat)) w:=by
  intro base c f m t A n B;subst t;have u:=wm (w:=w) P;cases base <;> simp[Builtin.copy_,y,fX O,A,n,u,B,storeCells,goInt]
 have some_:∀(base:Addr) (c f:Nat) (m:Nat) (xs:List Value) (w':World),x = .slice (some base) c f->(Builtin.lenOf q).run P0 w = .ok m w->
   (Builtin.firstCells size (Nat.min m c) q).run P0 w = .ok (Array.mk xs) w->(storeCells base xs 0).run P0 w = .ok () w'->
   (Builtin.copy_ k rt #[x,q]).run P0 w = .ok (.int .i64 (Nat.min m c:Nat)) w':=by
  intro base c f m xs w' t A B C;subst t;have u:=wm (w:=w) P;simp[Builtin.copy_,y,fX O,A,u,B,C,goInt]
 unfold V8 at hv;split at hv
 ·cases Q;split at hv
  ·cases hv;cases hs;exact⟨_,0,w,rfl,a none 0 0 0 rfl rfl rfl rfl,j,.refl _ _,.refl _ _⟩
  ·cases hv
   cases hs with
   | slice l off len cap o W v X D E=>
     exact⟨_,0,w,rfl,a none 0 0 _ rfl rfl (Nat.min_zero _) (by simp[Builtin.firstCells,loadCells,loadCellsFrom]),j,.refl _ _,.refl _ _⟩
  ·cases hv
   cases hs with
   |str s=>exact⟨_,0,w,rfl,a none 0 0 s.size rfl rfl (Nat.min_zero _) (by simp[Builtin.firstCells]),j,.refl _ _,.refl _ _⟩
  ·cases hv
 ·rename_i l off len
  cases Q with
  | slice _ _ _ g o W v X D E=>
    split at hv
    ·cases hv;cases hs
     exact⟨_,0,w,rfl,a _ len g 0 rfl rfl (Nat.zero_min _) rfl,j,.refl _ _,.refl _ _⟩
    ·rename_i l' S DG
     cases hs with
     | slice _ _ _ T so sd F Y U G=>
       cases n:Nat.beq (min DG len) 0 with
       | true=>
         simp only[n]at hv;cases hv;have i:Nat.min DG len=0:=AG n
         exact⟨_,0,w,rfl,a _ len g DG rfl rfl i (by simp[Builtin.firstCells,loadCells,loadCellsFrom]),j,.refl _ _,.refl _ _⟩
       | false=>
         have i:0<min DG len:=Nat.pos_of_ne_zero λe=>by simp_all
         simp only[n,fx]at hv;obtain⟨cs,H,Z,z,I⟩:=hv;cases I;rcases G with⟨rfl,_,_⟩|⟨rfl,_⟩
         ·rcases E with⟨rfl,_,_⟩|⟨rfl,_⟩
          ·obtain⟨xs,c1,c2⟩:=vS j F H
           obtain⟨w',J,K,L⟩:=Lv j v c2 z;exact⟨_,_,w',rfl,some_ _ len g DG xs w' rfl rfl (by grind[Builtin.firstCells]) J,K,L,.same (YO (OD z).symm)⟩
          ·omega
         ·omega
    ·rename_i b
     rw[hY]at hv;obtain⟨H,hv⟩:=hv;have M:size=1:=AG H;subst M
     cases hs with
     | str s=>
       have mM:s.data.toList.length=s.size:=by simp
       rw[mM]at hv
       cases n:Nat.beq (min s.size len) 0 with
       | true=>
         simp only[n]at hv;cases hv;have i:Nat.min s.size len=0:=AG n
         exact⟨_,0,w,rfl,a _ len g s.size rfl rfl i (by simp[Builtin.firstCells]),j,.refl _ _,.refl _ _⟩
       | false=>
         have i:0<min s.size len:=Nat.pos_of_ne_zero λe=>by simp_all
         simp only[n,fx]at hv;obtain⟨Z,z,I⟩:=hv;cases I;rcases E with⟨rfl,_,_⟩|⟨rfl,_⟩
         ·obtain⟨w',J,K,L⟩:=Lv j v (Tj Δ _) z
          refine⟨_,_,w',rfl,some_ _ len g s.size _ w' rfl rfl ?_ J,K,L,.same (YO (OD z).symm)⟩;simp only[Builtin.firstCells,Sv];rfl
         ·omega
    ·cases hv
 ·cases hv
theorem MZ{d:D} {cs:List V} {c:Array Value} {e:Nat} (hs:c.size=d.VG) (a:d.base=0) (b:cs.length<=d.VG) (hc:∀(i:Nat) (v:V),cs[i]? =some v->∃x,c[i]? =some x/\fP Δ v x) :
  Gn Δ d cs (some (.cells c e (c.size,c.size+1))):=
 ⟨c,e,(c.size,c.size+1),rfl,hs,λ_=> .inr (YO hs.symm),by omega,λi v hi=>by rw[a,zA];exact hc i v hi⟩
theorem VO(k:WR Δ h w) {src dst e:Nat} (hs:P0.underlying src=some .string) (m:P0.underlying dst=some (.slice e)) (n:P0.underlying e=some (.int .u8)) (s:ByteArray) :
  ∃d x w',(convert src dst (.string s)).run P0 w = .ok x w'/\zo Δ h w (.slice h.next 0 s.data.toList.length) (h.new (.cells e 1 true false (Ar s.data.toList))) d x w':=by
 have j:=run_bytes_of_string (P:=P0) w src dst e s hs m n;have c:=grownCap_ge w s.size 0 e;generalize grownCap w s.size 0 e=cap at j c;have mM:s.data.toList.length=s.size:=by simp
 have o:(Ar s.data.toList).length=s.size:=by simp[Ar]
 have f:(bytesRow s cap).size=cap:=by
  have:s.data.size=s.size:=rfl;simp[bytesRow];omega
 have a:Made Δ (.cells e 1 true false (Ar s.data.toList)) (λl=> .slice l 0 s.data.toList.length) (.cells (bytesRow s cap) e ((bytesRow s cap).size,(bytesRow s cap).size+1))
   (λb=> .slice (some ⟨b,0,none⟩) s.size cap):=by
  intro l b p;refine⟨⟨b,0,1,(Ar s.data.toList).length,cap,false,0⟩,rfl,⟨rfl,rfl,rfl,rfl,λ_=>?_⟩,?_⟩
  ·refine MZ f rfl (by simp_all) λi u hi=>?_;obtain⟨x,q,g⟩:=(Oh _ s).get i u hi;refine⟨x,?_,g⟩
   grind[jR,bytesRow,Array.getElem?_append_left]
  ·rw[mM];refine fP.slice l 0 s.size cap 0 ⟨b,0,1,(Ar s.data.toList).length,cap,false,0⟩ (Env.w5 _ _ _) rfl c (.inl ⟨rfl,?_,?_⟩)
   ·simp_all
   simp_all
 obtain⟨d,a1,a2,a3,a4⟩:=(k.heap (w':=w.drew) rfl).alloc a;exact⟨d,_,_,j,a2,a1,a3.drew,a4⟩
theorem XY(m:WR Δ h w) {src dst e0 e:Nat} {x:V} {y:Value} (B:fP Δ x y) (hs:P0.underlying src=some (.slice e0)) (J:P0.underlying dst=some (.slice e)) (K:P0.underlying e=some (.int .u8)) (q:src=dst)
  {r:R} (hv:W7 x h=some r):∃z h' w',r = .val z h'/\(convert src dst y).run P0 w = .ok y w'/\zo Δ h w z h' Δ y w':=by
 unfold W7 at hv;split at hv
 ·rename_i l off n;rw[lE]at hv;obtain⟨L,sz,live,ro,cs,A,hv⟩:=hv;simp only[hY]at hv;obtain⟨rfl,s,hv⟩:=hv;cases hv;have g:ro=false:=by simpa using s
  subst g
  cases B with
  | slice _ _ _ cap o d i C t D=>
    obtain⟨p,hp,E⟩:=m.obj l d i;rw[A]at hp;cases hp;obtain⟨a1,a2,a3,a4,F⟩:=E;obtain⟨c,u,fr,b1,b2,b3,G,H⟩:=F rfl;subst q;obtain rfl:e0=e:=by simp_all
    obtain ⟨lo,hi⟩:=fr;have I:d.b<w.heap.size:=m.oW l d i;have v:(w.freeze ⟨d.b,c.size,none⟩ 1).heap[d.b]? =some (.cells c u (if lo == hi then(c.size,c.size+1) else(min lo c.size,max hi (c.size+1)))):=by
      unfold World.freeze;rw[if_neg (by omega)];simp only[Array.getElem?_modify,b1,if_true,Option.map_some]
    have a:∀b,b≠d.b->(w.freeze ⟨d.b,c.size,none⟩ 1).heap[b]? =w.heap[b]?:=by
      intro b M;unfold World.freeze;rw[if_neg (by omega)];simp only[Array.getElem?_modify];rw[if_neg (by omega)]
    have j:(w.freeze ⟨d.b,c.size,none⟩ 1).heap.size=w.heap.size:=by
      unfold World.freeze;rw[if_neg (by omega)];simp
    have f:∀b,(w.freeze b 1).os=w.os/\(w.freeze b 1).tape=w.tape/\(w.freeze b 1).output=w.output:=by
      intro b;unfold World.freeze;rw[if_neg (by omega)];exact by simp_all
    refine⟨_,_,w.freeze ⟨d.b,c.size,none⟩ 1,rfl,?_,⟨.slice l off n cap o d i C t D,?_,FR.set i a4 j a (f _).1 (f _).2.1 (f _).2.2,Gr.same (jK _)⟩⟩
    ·have k:(Go.shape d.b).run P0 w = .ok (some (u,c.size)) w:=by
       show Result.ok (w.shape? d.b) w=_;unfold World.shape?;rw[b1]
     simp_all[convert,xk,fX,vQ,beq_self_eq_true,markStringish,run_freeze]
    ·refine m.set i A rfl a4 (λh=>h) ⟨a1,a2,a3,a4,λ_=>⟨c,u,_,v,b2,λ_=>?_,G,H⟩⟩ j a
     grind
 ·cases hv
end
section
variable{Δ:Env}{h:Hp}{w:World}{n:Nat}{t:Tm}{a:Act}
theorem UU(f:WR Δ h w) {ty k n:Nat} (o:P0.underlying ty=some (.map k n)) {m:V} {mv:Value} (g:fP Δ m mv) {r:R} (hv:MN m h=some r) :
  ∃v h' e x w',r = .val v h'/\(Instr.range ty mv).run P0 w = .ok x w'/\zo Δ h w v h' e x w':=by
 unfold MN at hv;split at hv
 ·cases hv;cases g
  have a:Made Δ (.iter none 0 [] 0) (λl=> .ptr l 0) (.mapIter none 0 #[] 0) (λb=> .pointer (some ⟨b,0,none⟩)):=λl b i=>
   ⟨⟨b,0,0,0,0,false,2⟩,rfl,⟨rfl,rfl,rfl,none,rfl,rfl⟩,fP.ptr l 0 ⟨b,0,0,0,0,false,2⟩ (Env.w5 _ _ _)⟩
  obtain⟨e,a1,a2,a3,a4⟩:=f.alloc a;exact⟨_,_,e,_,_,rfl,by simp_all[Instr.range,fX],a2,a1,a3,a4⟩
 ·rename_i l;rw[Aq]at hv;obtain⟨u,c,p,hv⟩:=hv;cases hv
  cases g with
  | map _ d j=>
    obtain⟨q,s,y⟩:=Ia f j p
    have a:Made Δ (.iter (some l) c [] c) (λl=> .ptr l 0) (.mapIter (some d.b) c #[] c) (λb=> .pointer (some ⟨b,0,none⟩)):=λt b i=>
      ⟨⟨b,0,0,0,0,false,2⟩,rfl,⟨rfl,rfl,rfl,some d.b,rfl,d,Env.yV i _ _ j,rfl⟩,fP.ptr t 0 ⟨b,0,0,0,0,false,2⟩ (Env.w5 _ _ _)⟩
    obtain⟨e,a1,a2,a3,a4⟩:=f.alloc a;exact⟨_,_,e,_,_,rfl,by simp[Instr.range,fX o,run_getObj_map s],a2,a1,a3,a4⟩
 ·cases hv
theorem uq{r:Nat}{m:Option Nat}{s l:Nat}{seen:Array Nat}(a:w.heap[r]? =some (.mapIter m s seen l)):(getObj r).run P0 w = .ok (.mapIter m s seen l) w:=by grind[getObj,Sem.run]
theorem Tq{b:List (V×V×Nat)} {a:List MapEntry} (c:uF Δ b a) (p:Nat->Bool):uF Δ (b.filter λe=>p e.2.2) (a.filter λe=>p e.born):=by
 induction c with
 |nil=>exact .nil
 | cons k v n e b a d hv f _ g=>
   subst f;simp only[wBp];by_cases hp:p e.born=true
   ·simp only[hp,if_true];exact .cons _ _ _ _ _ _ d hv rfl g
   simp_all
theorem Yy{b:List (V×V×Nat)} {a:List MapEntry} (c:uF Δ b a) (p:Nat->Bool):a.all (λe=>p e.born)=b.all λe=>p e.2.2:=by
 induction c <;> grind
theorem WG(q:WR Δ h w) {it:V} {I:Value} {ty:Nat} (hi:fP Δ it I) {r:R} (hv:uh it h=some r) :
  ∃v h' x w',r = .val v h'/\(Instr.next I false ty).run P0 w = .ok x w'/\zo Δ h w v h' Δ x w':=by
 unfold uh at hv;rw[wO]at hv;obtain⟨O,off,rfl,hv⟩:=hv;rw[hY,fx]at hv;obtain⟨h0,o,J,hv⟩:=hv;have B:off=0:=AG h0;subst B
 cases hi with
 | ptr _ _ d z=>
   obtain⟨o',K,M⟩:=q.obj O d z;rw[J]at K;cases K;split at hv
   ·cases hv
    obtain⟨a1,a2,a3,P,a4,Q⟩:=M;subst Q;refine⟨_,_,_,w,rfl,?_,.tuple _ #[.bool false] (.one (.bool false)),q,.refl _ _,.refl _ _⟩;rw[a3];simp[Instr.next,uq a4]
   ·rename_i m since seen last
    obtain ⟨a1,a2,a3,P,a4,A,s,rfl⟩:=M;rw[Aq]at hv;obtain⟨C,c,D,hv⟩:=hv;rw[hY]at hv;obtain⟨t,hv⟩:=hv;obtain⟨f,N,E⟩:=Ia q s D;have i:(!seen.toArray.isEmpty&&!f.isEmpty&&f.all (λe=>decide (e.born >= last)))=false:=by
      have S:f.isEmpty=C.isEmpty:=by
        have:=E.length;cases C <;> cases hes:f with|mk l=>grind
      have T:f.all (λe=>decide (e.born >= last))=C.all (λe=>Nat.ble last e.2.2):=by
        rw[<-Array.all_toList];have:=Yy E (λn=>Nat.ble last n);rw[<-this];congr 1;funext e;rw[V4];simp[Nat.ble_eq]
      have U:seen.toArray.isEmpty=seen.isEmpty:=by simp
      rw[U,S,T];simpa only[wBh]using t
    have a:=Tq E (λn=>!seen.contains n);have j:(f.filter λe=>!seen.toArray.contains e.born)=Array.mk (f.toList.filter λe=>!seen.contains e.born):=by
      apply Array.ext';rw[Array.toList_filter];simp
    rw[a3];split at hv
    ·rename_i F
     cases hv;rw[F]at a;generalize (f.toList.filter λe=>!seen.contains e.born)=L at a j;cases a;refine⟨_,_,_,w,rfl,?_,.tuple _ #[.bool false] (.one (.bool false)),q,.refl _ _,.refl _ _⟩;simp only[Instr.next,xk,uq a4,vQ,run_getObj_map N,i,j];simp[Question.forced]
    ·rename_i e F
     rw[hY]at hv;obtain⟨u,hv⟩:=hv;cases hv;rw[F]at a;generalize (f.toList.filter λe=>!seen.contains e.born)=L at a j
     cases a with
     | cons k v nb p _ L W X G hs=>
       cases hs;have y:p.born<since:=by rw[PM]at u;rw[G];exact u
       have Y:=q.oW _ _ z;have g:∀b,b≠d.b->({w with heap:=w.heap.setIfInBounds d.b (.mapIter (some A.b) since (seen++[nb]).toArray c)}:World).heap[b]? =w.heap[b]?:=by grind
       refine ⟨_,_,_,{w with heap:=w.heap.setIfInBounds d.b (.mapIter (some A.b) since (seen++[nb]).toArray c)},rfl,?_,
         .tuple _ #[.bool true,p.key,p.val] (.cons _ _ _ _ (.bool true) (.cons _ _ _ _ W (.one X))),?_,FR.set z a2 (by simp) g rfl rfl rfl,.same (jK _)⟩
       ·have H:¬(p.born >= since):=by omega
        have Z:(Array.mk [p]).filter (λx=>decide (x.born<since)) = #[p]:=by simp[y]
        have f2:(Array.mk [p]).filter (λx=>decide (x.born >= since)) = #[]:=by simp[H]
        simp only[Instr.next,xk,uq a4,vQ,run_getObj_map N,i,j,Z,f2]
        simp_all[Question.forced,setObj,Sem.run]
       ·refine q.set z J rfl a2 (λh=>h) ⟨a1,a2,a3,some A.b,?_,A,s,rfl⟩ (by simp) g
        simp_all
    ·cases hv
   ·cases hv
theorem Xk{b:List (V×V×Nat)} {a:List MapEntry} (f:uF Δ b a) (st:Nat) {e:V×V×Nat} (d:(b.find? λe=>Nat.beq e.2.2 st)=some e) :
  ∃c,(a.find? λe=>e.born == st)=some c/\fP Δ e.1 c.key/\fP Δ e.2.1 c.val:=by
 induction f with
 |nil=>cases d
 | cons k v n e0 b a i hv g _ j=>
   subst g;simp only[List.find?_cons]at d⊢;have h:(e0.born == st)=Nat.beq e0.born st:=by rw[V4];simp
   grind
theorem Vb(q:WR Δ h w) {it:V} {s:Value} (hi:fP Δ it s) {r:R} (hv:TD it h=some r) :
  ∃v x,r = .val v h/\(Instr.entry s).run P0 w = .ok x w/\fP Δ v x:=by
 unfold TD at hv;rw[wO]at hv;obtain⟨u,off,rfl,hv⟩:=hv;rw[hY,fx]at hv;obtain⟨h0,o,y,hv⟩:=hv;have f:off=0:=AG h0;subst f
 cases hi with
 | ptr _ _ d z=>
   obtain⟨G,t,A⟩:=q.obj u d z;rw[y]at t;cases t;split at hv
   ·rename_i m since seen last
    obtain⟨a1,a2,a3,H,a4,I,g,rfl⟩:=A;rw[Aq]at hv;obtain⟨J,c,i,hv⟩:=hv;simp only[hY,fx]at hv;obtain⟨hc,st,j,e,k,hv⟩:=hv;cases hv;obtain⟨l,B,C⟩:=Ia q g i;obtain⟨n,D,E,F⟩:=Xk C st k;refine⟨_,.tuple #[n.key,n.val],rfl,?_,.tuple _ _ (.cons _ _ _ _ E (.one F))⟩;have p:c=last:=AG hc;subst p;have a:seen.toArray.back? = some st:=by rw[List.back?_toArray];exact j
    have b:(l.find? λe=>e.born == st)=some n:=by rw[<-Array.find?_toList];exact D
    rw[a3];simp only[Instr.entry,xk,uq a4,vQ,a,run_getObj_map B,bne_self_eq_false,PT,if_false,KL,b]
   ·cases hv
theorem XH{f:V} {j:Value} {args:List V} {b:Array Value} {ty:Nat} {c:Go.Call} {op:Operand} (hc:c.callee = .value op) (k:a.eval op=j) (i:c.args.map a.eval=b) (m:fP Δ f j) (n:gP Δ args b.toList) {r:R}
  (hv:gh f args=some r):∃g l gQ,r = .call g l/\gP Δ l gQ.toList/\(do let d <-resolve a.eval c ty;invoke d.target d.args:Sem Next)=callFunc g gQ:=by
 unfold gh at hv;split at hv
 ·cases hv
  cases m with
  | func _ _ _ e h o p=>
    refine⟨_,_,e++b++h,rfl,?_,?_⟩
    ·simp only[Array.toList_append,Ii]
     exact o.append (n.append p)
    ·simp only[resolve,hc,k,i,Deferred.ofValue]
     rfl
 ·cases hv
theorem SL(Y:WR Δ h w) {j:String} {r:V} {W:Value} {args:List V} {n:Array Value} {ty:Nat} {c:Go.Call} {op:Operand} (hc:c.callee = .invoke op j) (Z:a.eval op=W) (J:c.args.map a.eval=n)
  (hr:fP Δ r W) (X:gP Δ args n.toList) {x:R} (hv:O6 j r args h=some x) :
  ∃g l gQ,x = .call g l/\gP Δ l gQ.toList/\(do let d <-resolve a.eval c ty;invoke d.target d.args:Sem Next).run P0 w=(callFunc g gQ).run P0 w:=by
 unfold O6 at hv;split at hv
 ·rename_i t v
  cases hr with
  | iface _ _ q K=>
    have A:(do let d <-resolve a.eval c ty;invoke d.target d.args:Sem Next)=callMethod (.iface t q) j n:=by
      simp only[resolve,hc,Z,J];show invoke (.fn (.method j) #[]) (#[.iface t q]++n)=_;have C:(#[Value.iface t q]++n)[0]? =some (.iface t q):=by
        rw[Array.getElem?_append_left (by simp)];rfl
      have D:(#[Value.iface t q]++n).extract 1 (#[Value.iface t q]++n).size=n:=by
        apply Array.ext';simp
      simp only[invoke,C,D]
    have u:∀{f:Nat} {o:Option Nat},methodOf t j=some (f,o)->∃i m b,P0.info? t=some i/\i.methods.find? (λm=>m.name == j)=some m/\m.path = #[]/\m.func=some (f,b)/\
        ((∃e,P0.underlying t=some (.pointer e)/\((b=true/\o=none)\/(b=false/\o=some e)))\/(b=false/\o=none/\∃L,P0.underlying t=some L/\∀e,L≠ .pointer e)):=by
      intro f o s;unfold methodOf at s;rw[fx]at s;obtain⟨i,hi,s⟩:=s;split at s
      ·rename_i m hf
       refine⟨i,m,?_⟩;have aa:i.methods.find? (λm=>m.name == j)=some m:=by rw[<-Array.find?_toList];exact hf
       split at s
       ·simp_all
       ·simp_all
       ·simp_all
       ·cases s
      ·cases s
    obtain⟨fuel,E⟩:∃k,P0.types.size+Made.depth=k+1:=⟨P0.types.size+99,rfl⟩
    split at hv
    ·rename_i f s
     cases hv;obtain⟨i,m,b,C,D,M,N,O⟩:=u s;refine⟨f,_,#[q]++n,rfl,by simp only[Array.toList_append];exact .cons _ _ _ _ K X,?_⟩;rw[A];have z:(receiverAt t (.val q) b (some ((j.splitOn ".").getLastD j))).run P0 w = .ok q w:=by
       rcases O with⟨e,F,⟨rfl,_⟩|⟨_,B⟩⟩|⟨rfl,_,L,F,ab⟩
       ·simp_all[receiverAt,fX,Place.get]
       ·cases B
       ·simp only[receiverAt,xk,fX F,vQ]
        rfl
     have P:(method (P0.types.size+Made.depth) t q j).run P0 w = .ok (f,q) w:=by
       rw[E];simp only[method,xk,typeInfo,run_program,vQ,C,KL,D,M,N,follow,z,Array.isEmpty,Array.size_empty,if_true,decide_true]
     grind[callMethod,xk,run_program,vQ]
    ·rename_i f e s
     rw[fx]at hv;obtain⟨y,hy,hv⟩:=hv;cases hv;obtain⟨i,m,b,C,D,M,N,O⟩:=u s;have Q:P0.underlying t=some (.pointer e)/\b=false:=by
       rcases O with⟨e',F,⟨_,B⟩|⟨hb,B⟩⟩|⟨_,B,_⟩
       ·cases B
       ·simp_all
       ·cases B
     obtain ⟨F,rfl⟩:=Q;obtain⟨I,S,T⟩:=MI (t:= .tree .leaf []) (xv:=q) Y (by simp_all) hy;refine⟨f,_,#[I]++n,rfl,by simp only[Array.toList_append];exact .cons _ _ _ _ T X,?_⟩;rw[A];have G:∃ad,q = .pointer (some ad):=by
       cases q with
       | pointer p=>cases p with
         |some ad=>simp_all
         |none=>simp_all[Instr.loadAt,Instr.sureAddr]
       |_=>simp_all[Instr.loadAt,Instr.sureAddr]
     obtain⟨ad,rfl⟩:=G;have U:(loadVar e ad).run P0 w = .ok I w:=by simpa[Instr.loadAt,Instr.sureAddr]using S
     have z:(receiverAt t (.val (.pointer (some ad))) false (some ((j.splitOn ".").getLastD j))).run P0 w = .ok I w:=by
       have H:∀s1 s2,(Builtin.ssaWrapNilChk_ #[t] t #[.pointer (some ad),strVal s1,strVal s2]).run P0 w = .ok (.pointer (some ad)) w:=λ_ _=>rfl;simp only[receiverAt,xk,fX F,vQ,Place.get,KL,H,asAddr,U]
     have P:(method (P0.types.size+Made.depth) t (.pointer (some ad)) j).run P0 w = .ok (f,I) w:=by
       rw[E];simp only[method,xk,typeInfo,run_program,vQ,C,KL,D,M,N,follow,z,Array.isEmpty,Array.size_empty,if_true,decide_true]
     grind[callMethod,xk,run_program,vQ]
    ·cases hv
 ·cases hv
theorem Wr(i:WR Δ h w) (A:TR Δ n t a) {o:Oper} {r:R} (hv:(ku o).f t h=some r) :
  (∃v h' K x w',r = .val v h'/\((execOp a.eval o).run P0 w = .ok (.value x) w'\/(x=undef/\(execOp a.eval o).run P0 w = .ok .skip w'))/\zo Δ h w v h' K x w')\/
  (∃g l gQ,r = .call g l/\gP Δ l gQ.toList/\(execOp a.eval o).run P0 w=(callFunc g gQ).run P0 w):=by
 obtain⟨dst,op,E,pos,af,gd⟩:=o
 cases op with
 | store ty p x=>
   simp only[ku]at hv;split at hv
   ·rename_i size U
    simp only[fx,wO,hY]at hv;obtain⟨pv,q,v,j,l,off,rfl,C,h',O,h5⟩:=hv;cases h5;obtain⟨w',r1,u,J,r4⟩:=VP i U (lH i A q) (lH i A j) C O;exact .inl ⟨_,_,Δ,undef,w',rfl,.inr ⟨rfl,by simp_all[execOp]⟩,.undef Δ,u,J,r4⟩
   ·cases hv
 | mapUpdate ty m k x=>
   simp only[ku]at hv;split at hv
   ·rename_i V W F
    split at hv
    ·rename_i d L
     simp only[fx]at hv;obtain⟨mv,q,Z,j,xv,C,O⟩:=hv;obtain⟨h',w',rfl,r1,u,J,r4⟩:=TN i F L (lH i A q) (lH i A j) (lH i A C) O;exact .inl ⟨_,_,Δ,undef,w',rfl,.inr ⟨rfl,by simp_all[execOp]⟩,.undef Δ,u,J,r4⟩
    ·cases hv
   ·cases hv
 | insert ty m k x=>
   simp only[ku]at hv;split at hv
   ·rename_i V W F
    split at hv
    ·rename_i d L
     simp only[fx]at hv;obtain⟨mv,q,Z,j,xv,C,O⟩:=hv;obtain⟨h',w',rfl,r1,u,J,r4⟩:=TN i F L (lH i A q) (lH i A j) (lH i A C) O;exact .inl ⟨_,_,Δ,undef,w',rfl,.inr ⟨rfl,by simp_all[execOp]⟩,.undef Δ,u,J,r4⟩
    ·cases hv
   ·cases hv
 | range ty x=>
   simp only[ku]at hv;split at hv
   ·rename_i V W F
    simp only[fx]at hv;obtain⟨mv,q,j⟩:=hv;obtain⟨v,h',K,y,w',rfl,r1,u⟩:=UU i F (lH i A q) j;exact .inl ⟨_,_,K,y,w',rfl,.inl (mW r1),u⟩
   ·cases hv
 | next x isS=>
   cases isS with
   |true=>cases hv
   | false=>
     simp only[ku,fx]at hv;obtain⟨mv,q,j⟩:=hv;obtain⟨v,h',y,w',rfl,r1,u⟩:=WG (ty:=E) i (lH i A q) j
     exact .inl ⟨_,_,Δ,y,w',rfl,.inl (mW r1),u⟩
 | entry x=>
   simp only[ku,fx]at hv;obtain⟨mv,q,j⟩:=hv;obtain⟨v,y,rfl,r1,u⟩:=Vb i (lH i A q) j
   exact .inl ⟨_,_,Δ,y,w,rfl,.inl (mW r1),u,i,.refl _ _,.refl _ _⟩
 | convert src P x=>
   simp only[ku]at hv;split at hv
   ·rename_i e hs L
    split at hv
    ·rename_i N U
     simp only[fx]at hv;obtain⟨xv,q,j⟩:=hv;have Q:=lH i A q;split at j
     ·cases j
      generalize hy:a.eval x=y at Q
      cases Q with
      | str s=>
        obtain⟨K,z,w',r1,u⟩:=VO i hs L N s;refine .inl ⟨_,_,K,z,w',rfl,.inl (mW ?_),u⟩
        simp_all
     ·cases j
    ·cases hv
   ·rename_i e0 e hs L
    split at hv
    ·rename_i N hb
     simp only[fx]at hv;obtain⟨xv,q,j⟩:=hv;have Q:=lH i A q;generalize hy:a.eval x=y at Q;obtain⟨v',h',w',r1,J,u⟩:=XY i Q (src:=src) (dst:=P) (e0:=e0) (e:=e) hs L N (AG hb) j;refine .inl ⟨v',h',Δ,y,w',r1,.inl (mW ?_),u⟩
     simp_all
    ·cases hv
   ·cases hv
 | call c =>
   obtain⟨X,args,G⟩:=c
   cases X with
   | builtin b=>
     simp only[ku]at hv
     cases b with
     | append=>
       simp only at hv;split at hv
       ·rename_i s x sT xT B D
        have S:args = #[s,x]:=by apply Array.ext';exact B
        have H:G = #[sT,xT]:=by apply Array.ext';exact D
        subst S;subst H;split at hv
        ·rename_i M e' hs F
         have I:=zX hs;split at hv
         ·rename_i size j7 z N
          simp only[fx]at hv;obtain⟨sv,q,xv,j,C⟩:=hv;obtain⟨v,h',K,y,w',rfl,r1,u⟩:=L9 (ty:=E) (xT:=xT) i I F (by simp_all) N (lH i A q) (lH i A j) C;refine .inl ⟨_,_,K,y,w',rfl,.inl ?_,u⟩;simp only[execOp,resolve,List.map_toArray];exact mW r1
         ·cases hv
        ·rename_i M hs F
         have I:=zX hs;split at hv
         ·rename_i size j7 z N
          simp only[fx]at hv;obtain⟨sv,q,xv,j,C⟩:=hv;obtain⟨v,h',K,y,w',rfl,r1,u⟩:=L9 (ty:=E) (xT:=xT) i I F (by simp_all) N (lH i A q) (lH i A j) C;refine .inl ⟨_,_,K,y,w',rfl,.inl ?_,u⟩;simp only[execOp,resolve,List.map_toArray];exact mW r1
         ·cases hv
        ·cases hv
       ·cases hv
     | copy =>
       simp only at hv;split at hv
       ·rename_i d s dT T B D
        have S:args = #[d,s]:=by apply Array.ext';exact B
        have H:G[0]? =some dT:=by rw[<-Wy,D];rfl
        subst S;split at hv
        ·rename_i M hs
         have I:=zX hs;split at hv
         ·rename_i size U
          simp only[fx]at hv;obtain⟨dv,q,sv,j,C⟩:=hv;obtain⟨h',m,w',rfl,r1,u,J,r4⟩:=Xr (rt:=E) i H I U (lH i A q) (lH i A j) C;refine .inl ⟨_,_,Δ,_,w',rfl,.inl ?_,.int _ _,u,J,r4⟩;simp only[execOp,resolve,List.map_toArray];exact mW r1
         ·cases hv
        ·cases hv
       ·cases hv
     | delete=>
       simp only at hv;split at hv
       ·rename_i m k mT T B D
        have S:args = #[m,k]:=by apply Array.ext';exact B
        have H:G[0]? =some mT:=by rw[<-Wy,D];rfl
        subst S;split at hv
        ·rename_i V W F
         split at hv
         ·rename_i d L
          simp only[fx]at hv;obtain⟨mv,q,Z,j,C⟩:=hv;obtain⟨h',w',rfl,r1,u,J,r4⟩:=SH (rt:=E) i H F L (lH i A q) (lH i A j) C;refine .inl ⟨_,_,Δ,_,w',rfl,.inl ?_,.tuple _ #[] .nil,u,J,r4⟩;simp only[execOp,resolve,List.map_toArray];exact mW r1
         ·cases hv
        ·cases hv
       ·cases hv
     |_=>cases hv
   | value f=>
     simp only[ku,fx]at hv;obtain⟨fv,q,l,j,C⟩:=hv;obtain⟨g,l,gQ,rfl,r1,u⟩:=XH (a:=a) (c:=⟨.value f,args,G⟩) (ty:=E) (args:=l) rfl rfl rfl (lH i A q) (by simpa using Bv A j) C;refine .inr ⟨g,l,gQ,rfl,r1,?_⟩
     grind[execOp]
   | invoke Y m=>
     simp only[ku,fx]at hv;obtain⟨fv,q,l,j,C⟩:=hv;obtain⟨g,l,gQ,rfl,r1,u⟩:=SL (a:=a) (c:=⟨.invoke Y m,args,G⟩) (ty:=E) i (args:=l) rfl rfl rfl (lH i A q) (by simpa using Bv A j) C
     exact .inr ⟨g,l,gQ,rfl,r1,u⟩
 |_=>cases hv
end
