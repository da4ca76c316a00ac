/- Parts. -/
import Derived.Test.YtcoaokdoecgcbaaGreatDoorM02
import Derived.Laws.AppendOwn
import Derived.Laws.NewFold
import Derived.Laws.IdiomStrings
set_option maxHeartbeats 4000000
namespace Go.Proofs.YtcoaokdoecgcbaaGreatDoor.Hx
variable{es:List (V×V×Nat)}{jL:List MapEntry}{h h':Hp}
structure Gr (h:Hp) (Δ:Env) (h':Hp) (a:Env):Prop where
 next:h.next<=h'.next
 none:∀l,Δ l = .none->l<h.next->a l = .none
theorem Gr.refl(h:Hp)(Δ:Env):Gr h Δ h Δ:=⟨jJ _,by simp_all⟩
theorem Gr.trans{c:Hp} {Δ e d:Env} (a:Gr h Δ h' e) (b:Gr h' e c d):Gr h Δ c d:=
 ⟨OA a.next b.next,λl hl f=>b.none l (a.none l hl f) (NY f a.next)⟩
theorem Gr.same{Δ:Env}(a:h.next<=h'.next):Gr h Δ h' Δ:=⟨a,by simp_all⟩
theorem Gr.set {Δ:Env} {d:D} (a:h.next<=h'.next):Gr h Δ h' (Δ.set h.next d):=
 ⟨a,by simp_all[Env.set,if_neg,Nat.ne_of_lt]⟩
theorem WR.alloc{Δ:Env} {h:Hp} {w:World} (a:WR Δ h w) {ob:O} {mk:Nat->V} {c:Obj} {e:Nat->Value} (g:Made Δ ob mk c e) :
  ∃b,WR b (h.new ob) (w.alloc c)/\fV b (mk h.next) (e w.heap.size)/\FR Δ b w (w.alloc c)/\Gr h Δ (h.new ob) b:=by
 obtain⟨d,f,i,hv⟩:=g h.next w.heap.size a.Jt;exact⟨Δ.set h.next d,(a.more ob).lay a.Jt (TU _) (by rw[xm,if_pos rfl]) f i,hv,FR.lay a.Jt f,Gr.set (K5 _)⟩
theorem xe(g o e:Nat) (fr:Nat×Nat):∀(vs:List Value) (i:Nat) (cur:Array Value) (w:World),w.heap[g]? =some (.cells cur e fr)->(∀j,j<cur.size->¬(fr.1<=j/\j<fr.2))->
  o+i+vs.length<=cur.size->(∀v∈vs,v.oneCell' = true)->
  (storeCells ⟨g,o,none⟩ vs i).run P0 w = .ok () (w.setRow g (cur.toList.take (o+i)++vs++cur.toList.drop (o+i+vs.length)).toArray)
 | [],i,cur,w,hg,_,_,_=>by
   simp only[storeCells,Ku,wBu,Nat.add_zero,wAu,Array.toArray_toList];rw[setRow_self w g cur e fr hg]
   rfl
 | v ::rest,i,cur,w,hg,hf,hl,f=>by
   have hi:o+i<cur.size:=by simp at hl;omega
   have a:w.cell? ⟨g,o+i,none⟩=some cur[o+i]:=by simp[World.cell?,hg,hi]
   have b:w.frozen? ⟨g,o+i,none⟩=false:=by
     have:=hf (o+i) hi;simp only[World.frozen?,hg];simpa using this
   have c:(store ((⟨g,o,none⟩:Addr).add i) v).run P0 w = .ok () (w.setRow g (cur.setIfInBounds (o+i) v)):=by
     rw[uY,run_store P0 w _ v _ (by simp_all),a];simp[b,setCell_eq_setRow w g (o+i) cur e fr v hg]
   have d:=xe g o e fr rest (i+1) (cur.setIfInBounds (o+i) v) (w.setRow g (cur.setIfInBounds (o+i) v)) (by grind[setRow_heap]) (by simp_all) (by grind) (by simp_all);simp only[storeCells,DO,c,Hi,d,setRow_setRow];congr 3;have e:=list_seg_step cur.toList (o+i) v rest (by simp at hl⊢;omega)
   grind
theorem YG(l vs:List Value) (k:Nat) (a:k+vs.length<=l.length) (j:Nat) :
  (l.take k++vs++l.drop (k+vs.length))[j]? =if k<=j/\j<k+vs.length then vs[j-k]? else l[j]?:=by
 rw[Cy,List.getElem?_append,TV,wBU (by omega)]
 grind
theorem WR.set{Δ:Env} {h:Hp} {w w':World} (i:WR Δ h w) {l:Nat} {d:D} {o x:O} (hl:Δ l=some d) (n:h.get l=some o) (q:o.live=true) (u:d.ro=false)
  (f:x.live=true->o.live=true) (F:VX Δ d x w'.heap[d.b]?) (z:w'.heap.size=w.heap.size) (G:∀b,b≠d.b->w'.heap[b]? =w.heap[b]?):WR Δ (h.put l x) w' where
 fresh:=i.fresh
 B8:=λm e k=>by rw[z];exact i.B8 m e k
 obj:=λm e k=>by
  by_cases he:l=m
  ·subst he;rw[hl]at k;cases k;exact⟨x,by rw[jP _ _ (Hp.Dg n),if_pos rfl],F⟩
  ·obtain ⟨p,r,y⟩:=i.obj m e k;refine⟨p,by simp_all[jP,Hp.Dg,if_neg],?_⟩;by_cases hb:e.b=d.b
   ·have a:p.live=false:=by
     cases hp:p.live with
     |false=>rfl
     |true=>exact absurd hb.symm (i.apart l m d e o p hl k he n r q hp (.inl u))
    cases p with
    | cells e' sz live ro cs=>
      obtain⟨H,I,J,K,_⟩:=y
      exact⟨H,I,J,K,λC=>by simp only[O.live]at a;rw[a]at C;cases C⟩
    |_=>cases a
   simp_all
 apart:=λm A e e' p E k s nw hp c t j B=>by
  rw[jP _ _ (Hp.Dg n)]at hp c;by_cases r:l=m
  ·subst r;rw[if_pos rfl]at hp;cases hp;rw[if_neg nw]at c;exact i.apart l A e e' o E k s nw n c (f t) j B
  ·rw[if_neg r]at hp;by_cases y:l=A
   ·subst y;rw[if_pos rfl]at c;cases c;exact i.apart m l e e' p o k s nw hp n t (f j) B
   ·rw[if_neg y]at c;exact i.apart m A e e' p E k s nw hp c t j B
 JT:=λg p v hp=>by
  rw[jP _ _ (Hp.Dg n)]at hp;by_cases r:l=g
  ·subst r;exact i.JT l o v n
  ·rw[if_neg r]at hp;exact i.JT g p v hp
 yQ:=i.yQ
 XK:=i.XK.step (λb _ L=>G b λe=>L ⟨l,d,hl,u,e.symm⟩) (by simp_all)
theorem FR.set{Δ:Env} {w w':World} {l:Nat} {d:D} (hl:Δ l=some d) (a:d.ro=false) (c:w'.heap.size=w.heap.size) (f:∀b,b≠d.b->w'.heap[b]? =w.heap[b]?)
  (g:w'.os=w.os) (h:w'.tape=w.tape) (i:w'.output=w.output):FR Δ Δ w w':=
 ⟨Env.le_refl _,Nat.le_of_eq c.symm,g,h,i,λb _ j=>f b λe=>j ⟨l,d,hl,a,e.symm⟩,by simp_all⟩
theorem WR.kill{Δ:Env} {h:Hp} {w:World} (f:WR Δ h w) {l e sz:Nat} {cs:List V} (g:h.get l=some (.cells e sz true false cs)) {d:D} (hl:Δ l=some d) :
  WR Δ (h.put l (.cells e sz false false cs)) w/\(∀m a p,m≠l->Δ m=some a->h.get m=some p->p.live=true->a.b≠d.b)/\d.ro=false:=by
 obtain⟨o,j,k⟩:=f.obj l d hl;rw[g]at j;cases j;obtain⟨n,q,r,c,t⟩:=k;refine⟨f.set hl g rfl c (λh=>(nomatch h)) ⟨n,q,r,c,λh=>(nomatch h)⟩ rfl (by simp_all),λm a p nw s hp i=>?_,c⟩;exact f.apart m l a d p _ s hl nw hp g i rfl (.inr c)
section
variable{Δ:Env}{h:Hp}{w:World}{n:Nat}{t:Tm}{a:Act}
theorem ZB(r:WR Δ h w) {l:Nat} {d:D} (hl:Δ l=some d) {off:Nat} {new:List V} {Xs:List Value} (m:gR Δ new Xs) {h':Hp} (hv:LX h l off new=some h') :
  ∃w',(storeCells ⟨d.b,d.base+off,none⟩ Xs 0).run P0 w = .ok () w'/\WR Δ h' w'/\FR Δ Δ w w':=by
 unfold LX at hv;rw[mO]at hv;obtain⟨e,sz,live,ro,cs,s,hv⟩:=hv;simp only[ik,fD]at hv;obtain⟨rfl,n,f,uD,hs,hv⟩:=hv;cases hv;have g:ro=false:=by simpa using n
 subst g;obtain⟨pO,t,p⟩:=NW hs;obtain⟨o,u,z⟩:=r.obj l d hl;rw[s]at u;cases u;obtain⟨A,B,H,q,C⟩:=z;obtain⟨c,e',fr,y,I,E,J,K⟩:=C rfl;have F:=m.length;have j:d.base+off+Xs.length<=c.size:=by omega
 have a:=xe d.b (d.base+off) e' fr Xs 0 c w y (by grind) (by omega) (m.zbB f);simp only[Nat.add_zero]at a;refine⟨_,a,r.set hl s rfl q (λh=>h) ⟨A,B,by omega,q,λ_=>?_⟩ (by simp) (by grind[setRow_other]),FR.set hl q (by simp) (by grind[setRow_other]) rfl rfl rfl⟩;refine⟨_,e',fr,setRow_heap w d.b c _ e' fr y,?_,E,by omega,λi v hi=>?_⟩
 ·grind
 ·rw [p i]at hi;have k:=YG c.toList Xs (d.base+off) (by simpa using j) (d.base+i);rw[List.getElem?_toArray,k];by_cases hin:off<=i/\i<off+new.length
  ·rw[if_pos hin]at hi;rw[if_pos (by omega)];obtain⟨x,L,G⟩:=m.get _ _ hi
   grind
  grind
structure GN (Δ:Env) (h:Hp) (w:World) (v:V) (h':Hp) (a:Env) (x:Value) (w':World):Prop where
 val:fV a v x
 world:WR a h' w'
 frame:FR Δ a w w'
 grow:Gr h Δ h' a
theorem WR.heap{Δ:Env} {h:Hp} {w w':World} (a:WR Δ h w) (b:w'.heap=w.heap):WR Δ h w':=
 ⟨a.fresh,λl d hl=>by rw[b];exact a.B8 l d hl,λl d hl=>by rw[b];exact a.obj l d hl,a.apart,a.JT,a.yQ,λg c e=>by rw[b];exact a.XK g c e⟩
theorem WR.zbF{Δ:Env} {h:Hp} {w:World} (c:WR Δ h w) {l:Nat} {o:O} {d:D} (t:Δ l=none) (hl:l<h.next) (C:h.get l=some o) (x:d.b<w.heap.size)
  (E:VX (Δ.set l d) d o w.heap[d.b]?) (y:∀m u p,Δ m=some u->h.get m=some p->p.live=true->u.b≠d.b) (z:RW Δ d.b):WR (Δ.set l d) h w where
 fresh:=λm e a=>by
  rcases Env.mc a with⟨rfl,rfl⟩|⟨_,a⟩
  ·exact hl
  ·exact c.fresh m e a
 B8:=λm e a=>by
  rcases Env.mc a with⟨rfl,rfl⟩|⟨_,a⟩
  ·exact x
  ·exact c.B8 m e a
 obj:=λm e a=>by
  rcases Env.mc a with⟨rfl,rfl⟩|⟨_,a⟩
  ·simp_all
  ·let⟨o',f,j⟩:=c.obj m e a
   exact⟨o',f,j.mono (Env.zA t)⟩
 apart:=λm A e e' p B a k nw hp n q i r=>by
  rcases Env.mc a with⟨f,j⟩|⟨_,f⟩ <;> rcases Env.mc k with⟨v,F⟩|⟨_,v⟩
  ·omega
  ·grind
  ·grind
  ·exact c.apart m A e e' p B f v nw hp n q i r
 JT:=λg p s hp=>by
  let⟨e,f,j⟩:=c.JT g p s hp
  exact⟨e,Env.zA t _ _ f,j⟩
 yQ:=c.yQ
 XK:=c.XK.step (by simp_all) λm e a _=>by
  rcases Env.mc a with⟨rfl,rfl⟩|⟨_,a⟩
  ·simp_all
  simp_all
theorem FR.zbF{Δ:Env} {w w':World} {l:Nat} {d:D} (c:Δ l=none) (h:FR Δ Δ w w') (f:RW Δ d.b):FR Δ (Δ.set l d) w w' where
 le:=Env.zA c
 size:=h.size
 os:=h.os
 tape:=h.tape
 output:=h.output
 fy:=h.fy
 new:=λm e a=>by
  rcases Env.mc a with⟨rfl,rfl⟩|⟨_,a⟩
  ·simp_all
  simp_all
theorem FR.drew{Δ a:Env}{w w':World}(h:FR Δ a w.drew w'):FR Δ a w w':=⟨h.le,h.size,h.os,h.tape,h.output,h.fy,h.new⟩
theorem So(f:WR Δ h w) {size:Nat} {x:V} {xv:Value} {m:Nat} {cs:List V} (b:fV Δ x xv) (hv:mV h size x=some (m,cs)) :
  ∃a,gR Δ cs a/\(∀w',(Builtin.lenOf xv).run P0 w' = .ok m w')/\(Builtin.firstCells size m xv).run P0 w = .ok (Array.mk a) w/\a.length=m*size:=by
 unfold mV at hv;split at hv
 ·cases hv;cases b;exact⟨[],.nil,λ_=>rfl,rfl,by simp⟩
 ·cases hv;cases b <;> exact⟨[],.nil,λ_=>rfl,by simp[Builtin.firstCells,loadCells,loadCellsFrom],by simp⟩
 ·rename_i l off k;rw[fD]at hv
  let⟨uD,c,g⟩:=hv
  cases g
  cases b with
  | slice _ _ _ cap o d hd n i j=>
    rcases j with⟨rfl,_,_⟩|⟨rfl,_⟩
    ·let⟨xs,p,e⟩:=Ih f hd c
     exact⟨xs,e,λ_=>rfl,by grind[Builtin.firstCells],by rw[<-e.length,zby c];rfl⟩
    omega
 ·cases hv
theorem px{n xT ty e:Nat} {i:TypeDesc} (hs:P0.underlying n=some (.slice e)) (o:P0.underlying xT=some i) (hi:∀k,i≠ .int k) {size:Nat} (p:Dr e=some size)
  {base:Option Addr} {a c m:Nat} {x:Value} (hlen:(Builtin.lenOf x).run P0 w = .ok m w) {f:List Value} (g:(Builtin.firstCells size m x).run P0 w = .ok (Array.mk f) w)
  (d:a+m<=c) {w':World} (j:∀b,base=some b->(storeCells (b.add (a*size)) f 0).run P0 w = .ok () w') (q:base=none->w' = w) :
  (Builtin.append_ #[n,xT] ty #[.slice base a c,x]).run P0 w = .ok (.slice base (a+m) c) w':=by
 have h:=zR (w:=w) p;have l:(match (generalizing:=false) i with| .int _=>true|_=>false)=false:=by cases i <;> first|rfl|simp_all
 cases base with
 | none=>
   cases q rfl
   simp[Builtin.append_,gK hs,gK o,h,hlen,d,g]
 |some b=>simp[Builtin.append_,gK hs,gK o,h,l,hlen,d,g,j b rfl]
theorem Nu{r xT ty c:Nat} {n:TypeDesc} (hs:P0.underlying r=some (.slice c)) (u:P0.underlying xT=some n) (hi:∀k,n≠ .int k) {size iU:Nat} {z:V}
  (v:elemOf c=some (size,iU,z)) {base:Option Addr} {a b m:Nat} {x:Value} (hlen:(Builtin.lenOf x).run P0 w = .ok m w) {d e:List Value}
  (f:(Builtin.firstCells size a (.slice base a b)).run P0 w.drew = .ok (Array.mk d) w.drew)
  (g:(Builtin.firstCells size m x).run P0 w.drew = .ok (Array.mk e) w.drew) (y:¬a+m<=b) (C:(a+m)*iU<=70368744177664) (D:a+m<=70368744177664) :
  ∃s,s.size=size/\(Builtin.append_ #[r,xT] ty #[.slice base a b,x]).run P0 w = .ok (.slice (some ⟨w.heap.size,0,none⟩) (a+m) (grownCap w (a+m) b c))
   (w.drew.alloc (.cells (Array.mk d++Array.mk e++Builtin.zeroCells s (grownCap w (a+m) b c-(a+m))) c)):=by
 let⟨hsz,hby,hzv,hpos,hzl,_⟩:=Jw v
 let⟨zv,hzr,hzvr,i,hi',hzi⟩:=EJ hzv
 have o:(match (generalizing:=false) n with| .int _=>true|_=>false)=false:=by cases n <;> first|rfl|simp_all
 have A:i.bytes=iU:=by
  unfold zdO at hby;rw[fD]at hby
  let⟨i',h,p⟩:=hby
  rw[hi']at h;cases h;simpa using p
 have q:i.size=size:=by
  let⟨i',h,p⟩:=Gb hsz
  rw[hi']at h;cases h;exact p
 have t:Builtin.nextslicecap (a+m) b*i.bytes<=281474976710656:=growslice_fits (by omega) (by grind);have j:¬(281474976710656<Builtin.nextslicecap (a+m) b*i.bytes):=by omega
 have l:¬(9223372036854775807<((a:Int)+(m:Int))):=by omega
 have B:=(hzvr λ_=>none).cells.length;refine⟨zv.cells,by simp_all,?_⟩;rw[<-q]at f g;have hq:(Question.appendCap (a+m) b c).forced=false:=rfl;simp[Builtin.append_,gK hs,gK u,sizeOf,typeInfo,zeroValue,hi',hzi,o,hlen,y,l,j,hq,f,g,newRow,grownCap]
 grind
theorem X1(B : WR Δ h w) {sT xT ty g:Nat} {dx:TypeDesc} (hs:P0.underlying sT=some (.slice g)) (hx:P0.underlying xT=some dx) (hi:∀k,dx≠ .int k) {size iU:Nat} {z:V}
    (hz:elemOf g=some (size,iU,z)) {s x:V} {sv xv:Value} (O:fV Δ s sv) (ag:fV Δ x xv) {r:R} (hv:fg g size iU s x h=some r) :
    ∃v h' P y w',r = .val v h'/\(Builtin.append_ #[sT,xT] ty #[sv,xv]).run P0 w = .ok y w'/\GN Δ h w v h' P y w':=by
  let⟨hsz,hby,hzv,hpos,hzl,_⟩:=Jw hz
  unfold fg at hv;rw[fD]at hv
  let⟨⟨m,cs⟩,h1,q⟩:=hv
  let⟨news,n1,n2,n3,n4⟩:=So B ag h1
  have ao:WR Δ h w.drew:=B.heap rfl
  let⟨newsd,d1,d2,d3,d4⟩:=So ao ag h1
  have aq:cs.length=m*size:=by rw[n1.length,n4]
  cases hm:Nat.beq m 0 with
  | true=>
    have aa:=DG hm;subst aa;have ar:=wBR (by simpa using n4);subst ar;split at q
    ·cases q;cases O
     exact⟨_,_,Δ,_,w,rfl,px hs hx hi hsz (n2 w) n3 (jJ _) (λb G=>by cases G) (λ_=>rfl),.ed,B,.refl _ _,.refl _ _⟩
    ·cases q
     cases O with
     | slice l off len cap o d hd hk J ho=>
       exact⟨_,_,Δ,_,w,rfl,px hs hx hi hsz (n2 w) n3 J (λb G=>rfl) (λ_=>rfl),.slice _ _ _ cap o d hd hk J ho,B,.refl _ _,.refl _ _⟩
     | wild _ _ a d hd hk S T=>
       exact⟨_,_,Δ,_,w,rfl,px hs hx hi hsz (n2 w) n3 (jJ _) (λb G=>rfl) (λ_=>rfl),.wild _ _ a d hd hk S T,B,.refl _ _,.refl _ _⟩
    ·cases q
  | false =>
    have aa:0<m:=Nat.pos_of_ne_zero λe=>by rw[e]at hm;cases hm
    simp only[hm,ik]at q;obtain⟨U,q⟩:=q
    have fresh:∀base f t j yK h0,sv = .slice base f t->gR Δ yK j->j.length=f*size->
        (Builtin.firstCells size f (.slice base f t)).run P0 w.drew = .ok (Array.mk j) w.drew->¬f+m<=t->(f+m)*iU<=70368744177664->f+m<=70368744177664->
        WR Δ h0 w->h0.next=h.next->
        ∃P y w',(Builtin.append_ #[sT,xT] ty #[sv,xv]).run P0 w = .ok y w'/\GN Δ h w (.slice h.next 0 (f+m)) (h0.new (.cells g size true false (yK++cs))) P y w':=by
      intro base f t j yK h0 ah W K E X G au aw C
      let⟨zc,hzc,S⟩:=Nu (ty:=ty) hs hx hi hz (n2 w) E d3 X G au
      have L:=grownCap_ge w (f+m) t g;generalize grownCap w (f+m) t g=nc at S L
      have ab:Made Δ (.cells g size true false (yK++cs)) (λl=> .slice l 0 (f+m)) (.cells (Array.mk j++Array.mk newsd++Builtin.zeroCells zc (nc-(f+m))) g)
          (λb=> .slice (some ⟨b,0,none⟩) (f+m) nc):=by
        intro l b T;have J:=Env.zA (d:=⟨b,0,size,(yK++cs).length,nc*size,false,0⟩) T;have ai:=W.append d1;have hlen:(yK++cs).length=(f+m)*size:=by rw[qu,W.length,K,aq,ZX]
        have aI:(f+m)*size<=nc*size:=wBJ _ L;refine⟨⟨b,0,size,(yK++cs).length,nc*size,false,0⟩,rfl,⟨rfl,rfl,rfl,rfl,λ_=>?_⟩,?_⟩
        ·refine CE ?_ rfl (by show(yK++cs).length<=nc*size;omega) λi u A=>?_
         ·show(Array.mk j++Array.mk newsd++Builtin.zeroCells zc (nc-(f+m))).size=nc*size
          simp[Array.size_append,List.size_toArray,size_zeroCells,hzc,K,d4];rw[<-ZX,<-ZX];congr 1;omega
         ·let⟨y,hy,hry⟩:=ai.get i u A
          refine⟨y,?_,hry.mono J⟩
          grind
        ·refine fV.slice l 0 (f+m) nc 0 _ (Env.Bx _ _ _) rfl L (.inl ⟨rfl,?_,?_⟩)
         ·simp_all
         ·show 0+0+nc*size<=nc*size;omega
      let⟨P,a1,a2,a3,I⟩:=(aw.heap (w':=w.drew) rfl).alloc ab
      have ax:Gr h Δ (h0.new (.cells g size true false (yK++cs))) P:=⟨by rw[<-C];exact I.next,λl hl H=>I.none l hl (by rw[C];exact H)⟩
      rw[C]at a2;exact⟨P,_,_,ah▸S,a2,a1,a3.drew,ax⟩
    split at q
    ·simp only[ik]at q
     let⟨h3,h4,h5⟩:=q
     cases h5;cases O;have Q:=Oz h3;have ac:=Oz h4
     let⟨P,y,w',b1,b2⟩:=fresh none 0 0 [] [] h rfl .nil (by simp) rfl (by omega) (by simpa using Q) (by simpa using ac) B rfl
     grind
    ·rename_i l off len
     rw[mO]at q
     let⟨e,sz,live,ro,all,X,q⟩:=q
     simp only[ik]at q;obtain⟨rfl,ay,aj,q⟩:=q;have ad:=DG aj;subst ad;have ak:ro=false:=by simpa using ay
     subst ak
     cases O with
     | wild _ _ a d hd hk S T=>
       obtain⟨ob,M,az⟩:=B.obj l d hd;rw[X]at M;cases M;obtain⟨a1,a2,a3,I,a5⟩:=az
       rw[S]at I;cases I
     | slice _ _ _ cap o d hd hk J ho=>
       let⟨ob,M,S⟩:=B.obj l d hd
       rw[X]at M;cases M
       let⟨a1,a2,a3,I,a5⟩:=S
       let⟨c,e',fr,b1,b2,b3,b5,b4⟩:=a5 rfl
       rw[a2]at ho;have aJ:(len+m)*sz=len*sz+m*sz:=ZX _ _ _;have aN:=Nat.mul_pos aa hpos
       cases hin:Nat.ble (Nat.add off (Nat.mul (Nat.add len m) sz)) all.length with
       | true =>
         simp only[hin,fD]at q
         let⟨uD,h3,h4⟩:=q
         cases h4;have aK:off+(len+m)*sz<=all.length:=Oz hin;rcases ho with⟨rfl,N,al⟩|⟨rfl,N⟩
         ·have n:len+m<=cap:=by
            rcases Sf cap (len+m)with H|L
            ·exfalso
             have:=Nat.mul_lt_mul_of_pos_right H hpos;omega
            ·exact L
          have aA:LX h l (off+len*sz) cs=some (h.put l (.cells e sz true false uD)):=by
            unfold LX;rw[mO];refine⟨e,sz,true,false,all,X,?_⟩;simp only[ik,fD];exact⟨trivial,rfl,U,uD,h3,rfl⟩
          let⟨w',c1,c2,c3⟩:=ZB B hd n1 aA
          refine⟨_,_,Δ,_,w',rfl,px hs hx hi hsz (n2 w) n3 n (λb G=>?_) (λG=>by cases G),?_,c2,c3,.same (jJ _)⟩
          ·cases G
           rw[uY,Zz];exact c1
          ·exact .slice l off (len+m) cap _ d hd hk n (by simp_all)
         ·exfalso;omega
       | false =>
         simp only[hin,fD,ik]at q
         let⟨yK,h3,hold1,h4,h5,h6⟩:=q
         cases h6;have ac:=Oz h4;have aB:=Oz h5;have Q:sub all off (len*sz)=some yK:=h3
         let⟨hol,hog⟩:=sub_eq Q
         let⟨hWk,hap,_⟩:=B.kill X hd
         have aO:Mb h l off (len*sz)=some yK:=by
           unfold Mb;rw[mO];exact⟨e,sz,true,false,all,X,by rw[ik];exact⟨rfl,Q⟩⟩
         by_cases n:len+m<=cap
         ·rcases ho with⟨rfl,N,al⟩|⟨rfl,N⟩
          ·have aL : (len+m)*sz<=cap*sz:=wBJ _ n
           have Y:d.base+off+len*sz+news.length<=c.size:=by rw[n4];omega
           have E:=xe d.b (d.base+off+len*sz) e' fr news 0 c w b1 (by grind) (by simpa using Y) (n1.zbB U);have ae:d.base+off+len*sz+news.length<=c.toList.length:=by simpa using Y
           generalize hw':w.setRow d.b (c.toList.take (d.base+off+len*sz)++news++c.toList.drop (d.base+off+len*sz+news.length)).toArray=w' at E;have D:w'.heap.size=w.heap.size:=by rw[<-hw'];simp
           have F:∀b,b≠d.b->w'.heap[b]? =w.heap[b]?:=by grind[setRow_other]
           have am:w'.heap[d.b]? =some (.cells (c.toList.take (d.base+off+len*sz)++news++c.toList.drop (d.base+off+len*sz+news.length)).toArray e' fr):=by
             rw[<-hw'];exact setRow_heap w d.b c _ e' fr b1
           have an:WR Δ (h.put l (.cells e sz false false all)) w':=B.set hd X rfl I (λh=>(nomatch h)) ⟨a1,a2,a3,I,λh=>(nomatch h)⟩ D F;have aC:=FR.set hd I D F (by rw[<-hw'];rfl) (by rw[<-hw'];rfl) (by rw[<-hw'];rfl);have T:=B.Jt;have Z:=Env.zA (d:=⟨d.b,d.base+off,sz,(yK++cs).length,d.asz,false,0⟩) T
           refine ⟨_,_,Δ.set h.next ⟨d.b,d.base+off,sz,(yK++cs).length,d.asz,false,0⟩,_,w',rfl,
             px hs hx hi hsz (n2 w) n3 n (λb G=>?_) (λG=>by cases G),?_,?_,aC.zbF T ⟨l,d,hd,I,rfl⟩,Gr.set (K5 _)⟩
           ·cases G
            rw[uY];exact E
           ·refine .slice h.next 0 (len+m) cap (d.base+off) ⟨d.b,d.base+off,sz,(yK++cs).length,d.asz,false,0⟩ (Env.Bx _ _ _) rfl n (.inl ⟨rfl,?_,?_⟩)
            ·simp_all
            omega
           ·refine (an.more (.cells g sz true false (yK++cs))).zbF (o:= .cells g sz true false (yK++cs)) T (TU _) (by rw[xm];exact if_pos rfl) (by rw[D];exact B.B8 l d hd) ⟨rfl,rfl,rfl,rfl,λ_=>?_⟩ (λm' d' p aD hp aE=>?_) ⟨l,d,hd,I,rfl⟩
            ·refine ⟨_,e',fr,am,?_,λ_=>b3 I,?_,λi v A=>?_⟩
             ·grind
             ·grind
             ·show ∃x,(List.toArray _)[d.base+off+i]? =some x/\_
              rw[List.getElem?_toArray,YG c.toList news _ ae];rw[List.getElem?_append]at A;by_cases H:i<yK.length
              ·rw[if_pos H,hog i (by omega)]at A
               let⟨x,hx1,hx2⟩:=b4 _ _ A
               rw[if_neg (by omega)];exact⟨x,by rw[wBC,Zz];exact hx1,hx2.mono Z⟩
              ·rw[if_neg H]at A
               let⟨x,hx1,hx2⟩:=n1.get _ _ A
               have aM:=(ke.1 A).1;rw[if_pos (by omega)];refine⟨x,?_,hx2.mono Z⟩;rw[<-hx1];congr 1;omega
            ·have nw:=Nat.ne_of_gt (B.fresh _ _ aD)
             rw[xm]at hp;rw[if_neg (by exact nw)]at hp;rw[jP _ _ (B.fresh _ _ hd)]at hp;by_cases he:l=m'
             ·subst he
              rw[if_pos rfl]at hp;cases hp;cases aE
             grind
          ·exfalso;omega
         ·have aF:∃j,gR Δ yK j/\(Builtin.firstCells sz len (.slice (some ⟨d.b,o,none⟩) len cap)).run P0 w.drew = .ok (Array.mk j) w.drew:=by
            rcases ho with⟨rfl,N,al⟩|⟨rfl,N⟩
            ·grind[Ih,Builtin.firstCells]
            ·have aG:len=0:=by omega
             subst aG;have aH:=wBR (by rw[hol];simp);subst aH;exact⟨[],.nil,by simp[Builtin.firstCells,loadCells,loadCellsFrom]⟩
          let⟨j,c1,c2⟩:=aF
          let⟨P,y,w',e1,e2⟩:=fresh _ len cap j yK (h.put l (.cells e sz false false all)) rfl c1 (by rw[<-c1.length,hol]) c2 n ac aB hWk rfl
          exact⟨_,_,P,y,w',rfl,e1,e2⟩
    ·cases q
theorem zaS(b:WR Δ h w) {ty size:Nat} (j:Dr ty=some size) {l off:Nat} {v:V} {pv xv:Value} (hp:fV Δ (.ptr l off) pv) (c:fV Δ v xv)
  (hlen:Nat.beq v.cells.length size=true) {h':Hp} (hs:LX h l off v.cells=some h') :
  ∃w',(Instr.storeAt ty pv xv).run P0 w = .ok () w'/\WR Δ h' w'/\FR Δ Δ w w'/\Gr h Δ h' Δ:=by
 cases hp with
 | ptr _ _ d hd=>
   have hc:=c.cells
   let⟨w',k,f,g⟩:=ZB b hd hc hs
   have i:=hc.length;have a:h'.next=h.next:=by
     unfold LX at hs;rw[mO]at hs
     let⟨e,sz,live,ro,cs,hg,hv⟩:=hs
     simp[ik,fD]at hv
     let⟨_,_,_,_,_,hv⟩:=hv
     cases hv;rfl
   refine⟨w',?_,f,g,.same (Nat.le_of_eq a.symm)⟩
   simp_all[Instr.storeAt,Instr.sureAddr,storeVar,zR]
theorem uB.length  (h:uB Δ es jL):es.length=jL.length:=by
 induction h <;> grind
theorem uB.get  (h:uB Δ es jL) {i:Nat} {e:V×V×Nat} (hi:es[i]? =some e) :
  ∃e',jL[i]? =some e'/\fV Δ e.1 e'.key/\fV Δ e.2.1 e'.val/\e'.born=e.2.2:=by
 induction h generalizing i <;> grind
theorem uB.set  (h:uB Δ es jL) {i:Nat} {k v:V} {m:Nat} {e':MapEntry} (c:fV Δ k e'.key) (hv:fV Δ v e'.val) (d:e'.born=m) :
  uB Δ (es.set i (k,v,m)) (jL.set i e'):=by
 induction h generalizing i with
 |nil=>exact .nil
 | cons k0 f n e0 es jL a hv0 b hs e=>
   cases i with
   |zero=>exact .cons _ _ _ _ _ _ c hv d hs
   |succ i=>exact .cons _ _ _ _ _ _ a hv0 b e
theorem uB.snoc  (h:uB Δ es jL) {k v:V} {m:Nat} {e':MapEntry} (c:fV Δ k e'.key) (hv:fV Δ v e'.val) (d:e'.born=m) :
  uB Δ (es++[(k,v,m)]) (jL++[e']):=by
 induction h with
 |nil=>exact .cons _ _ _ _ _ _ c hv d .nil
 |cons k0 f n e0 es jL a hv0 b hs e=>exact .cons _ _ _ _ _ _ a hv0 b e
theorem uB.erase  (h:uB Δ es jL) {i:Nat}:uB Δ (es.eraseIdx i) (jL.eraseIdx i):=by
 induction h generalizing i with
 |nil=>exact .nil
 | cons k0 d n e0 es jL a hv0 b hs c=>
   cases i with
   |zero=>exact hs
   |succ i=>exact .cons _ _ _ _ _ _ a hv0 b c
theorem KA{k:V} {x y:Value} (m:Nat) (c:LM k=true) (b:fV Δ k x) (a:fV Δ k y):Instr.sameBits m x y=true:=by
 cases k <;> simp[LM]at c
 ·cases b;cases a;grind[Instr.sameBits]
 ·cases b;cases a;grind[Instr.sameBits]
 ·rename_i s
  cases b with
  | str s1=>
    generalize hs:s1.data.toList=l at a
    cases a with
    | str d=>
      have:s1=d:=by
        rw[ByteArray.ext_iff];exact Array.ext' hs
      subst this;have e:(s1 == s1)=true:=by show(s1.data == s1.data)=true;simp
      grind[Instr.sameBits]
theorem zbR(m:Nat) {cs:List V} {xs ys:List Value} (f:cs.all LM=true) (a:gR Δ cs xs) (b:gR Δ cs ys):xs.length=ys.length/\(xs.zip ys).all (λp=>Instr.sameBits m p.1 p.2)=true:=by
 induction cs generalizing xs ys with
 |nil=>cases a;cases b;simp_all
 | cons c cs g=>
   cases a with
   | cons _ x _ xs a d=>
     cases b with
     | cons _ y _ ys b e=>
       simp only[wBo,yF]at f
       let⟨h,i⟩:=g f.2 d e
       exact⟨by simp[h],by simp[ wBo];grind[KA]⟩
theorem GL{k:V} {x y:Value} (m:Nat) (c:Nk k=true) (a:fV Δ k x) (b:fV Δ k y):Instr.sameBits (m+1) x y=true:=by
 cases k with
 | agg cs=>
   cases a with|agg _ xs a=>cases b with|agg _ ys b=>
   let⟨d,e⟩:=zbR m c a b
   simp_all[Instr.sameBits,yF]
 |_=>grind[KA,Nk]
theorem Uo(n:WR Δ h w) {l:Nat} {d:D} (hl:Δ l=some d) {o o2:O} (q:h.get l=some o) {EH:Array MapEntry} {c2:Nat} (r:(∃es c,o = .map es c)\/∃k ks,o = .Rt k ks)
  (p:((∃es,o2 = .map es c2/\uB Δ es EH.toList/\wW es c2)\/∃k ks,o2 = .Rt k ks/\zgF k ks EH.toList)) :
  (setObj d.b (.map EH c2)).run P0 w = .ok () {w with heap:=w.heap.setIfInBounds d.b (.map EH c2)}/\
  WR Δ (h.put l o2) {w with heap:=w.heap.setIfInBounds d.b (.map EH c2)}/\FR Δ Δ w {w with heap:=w.heap.setIfInBounds d.b (.map EH c2)}:=by
 let⟨o',ho',hr⟩:=n.obj l d hl
 rw[q]at ho';cases ho';have s:=n.B8 l d hl;have a:∀b,b≠d.b->({w with heap:=w.heap.setIfInBounds d.b (.map EH c2)}:World).heap[b]? =w.heap[b]?:=by grind
 have t:d.kind=1/\d.ro=false/\d.base=0/\(∃jL c',w.heap[d.b]? =some (.map jL c'))/\o.live=true:=by
  rcases r with⟨es,c,rfl⟩|⟨k,ks,rfl⟩
  ·let⟨g,e,i,jL,m,j⟩:=hr
   exact⟨g,e,i,⟨_,_,m⟩,rfl⟩
  ·let⟨g,e,i,jL,c',m,j⟩:=hr
   exact⟨g,e,i,⟨_,_,m⟩,rfl⟩
 let⟨g,e,i,⟨jL,c',m⟩,hlv⟩:=t
 have f:({w with heap:=w.heap.setIfInBounds d.b (.map EH c2)}:World).heap[d.b]? =some (.map EH c2):=by simp_all
 refine⟨by grind[setObj,Sem.run],n.set hl q hlv e (λ_=>hlv) ?_ (by simp) a,FR.set hl e (by simp) a rfl rfl rfl⟩;rcases p with⟨es,rfl,j,u⟩|⟨k,ks,rfl,j⟩
 ·exact⟨g,e,i,EH,f,j,u⟩
 ·exact⟨g,e,i,EH,c2,f,j⟩
theorem map_set(e:WR Δ h w) {l:Nat} {d:D} (hl:Δ l=some d) {es a:List (V×V×Nat)} {c c2:Nat} (f:h.get l=some (.map es c)) {EH:Array MapEntry} (g:uB Δ a EH.toList) (i:wW a c2) :
  (setObj d.b (.map EH c2)).run P0 w = .ok () {w with heap:=w.heap.setIfInBounds d.b (.map EH c2)}/\
  WR Δ (h.put l (.map a c2)) {w with heap:=w.heap.setIfInBounds d.b (.map EH c2)}/\FR Δ Δ w {w with heap:=w.heap.setIfInBounds d.b (.map EH c2)}:=
 Uo e hl f (.inl ⟨_,_,rfl⟩) (.inl ⟨_,rfl,g,i⟩)
theorem wW.snoc {c:Nat} (h:wW es c) (k v:V):wW (es++[(k,v,c)]) (c+1):=by
 refine⟨?_,λe d=>?_⟩
 ·rw[SL,wBk];refine⟨h.1,by simp,λa f b g=>?_⟩;obtain⟨e,d,rfl⟩:=V7.1 f;have:=h.2 e d;simp at g;omega
 ·rcases yX.1 d with d|d
  ·have:=h.2 e d;omega
  ·simp at d;subst d;show c<c+1;omega
theorem wW.set {c:Nat} (h:wW es c) {i:Nat} {e:V×V×Nat} (hi:es[i]? =some e) (k v:V):wW (es.set i (k,v,e.2.2)) c:=by
 have a:(es.set i (k,v,e.2.2)).map (λe=>e.2.2)=es.map λe=>e.2.2:=by
  rw[List.map_set];apply wBw;intro j;rw[List.getElem?_set];split
  ·rename_i b;subst b;split
   ·simp[hi]
   ·grind
  ·rfl
 refine⟨by rw[a];exact h.1,λx d=>?_⟩;have:x.2.2∈(es.set i (k,v,e.2.2)).map λe=>e.2.2:=V7.2 ⟨x,d,rfl⟩;rw[a]at this
 let⟨y,hy,he⟩:=V7.1 this
 rw[<-he];exact h.2 y hy
theorem wW.erase {c:Nat} (h:wW es c) (i:Nat):wW (es.eraseIdx i) c:=
 ⟨h.1.sublist ((List.eraseIdx_sublist es i).map _),λe a=>h.2 e (List.mem_of_mem_eraseIdx a)⟩
theorem zdh(y : WR Δ h w) {M kt Q:Nat} (I:P0.underlying M=some (.map kt Q)) {d:Option (List Field)} (hd:LC kt=some d) {m k v:V} {N E vv:Value} (A:fV Δ m N) (g:fV Δ k E) (J:fV Δ v vv)
    {r:R} (hv:xN kt d m k v h=some r):∃h' w',r = .val .undef h'/\(Instr.mapUpdate M N E vv).run P0 w = .ok () w'/\WR Δ h' w'/\FR Δ Δ w w'/\Gr h Δ h' Δ:=by
  unfold xN at hv;rw[ik]at hv
  let⟨hh,hv⟩:=hv
  split at hv
  ·rename_i l
   simp[RO]at hv
   cases A with
   |map _ W hl =>
    rcases hv with⟨es,c,x,hv⟩|⟨X,ks,x,hv⟩
    ·rw[fD]at hv
     let⟨ob,hp,hv⟩:=hv
     cases hv;have F:=IG y hl x
     let⟨jL,hb,f⟩:=N2 y hl x
     have o:=vP (em:=false) 9999 (by omega) w hd g hh;unfold BG at hp;rw[fD]at hp
     let⟨fr,hf,hp⟩:=hp
     let⟨fr',hf',hrel⟩:=yn hd g w f hf
     cases fr with
     | none=>
       cases hp
       cases fr' with
       |some _=>cases hrel
       | none=>
         obtain⟨s1,B,C⟩:=map_set y hl x (EH:=jL.push {key:=E,val:=vv,born:=c}) (by rw[Array.toList_push];exact f.snoc g J rfl) (F.snoc _ _);refine⟨_,_,rfl,?_,B,C,.same (jJ _)⟩
         simp[Instr.mapUpdate,DO,gK I,run_getObj_map hb,o,hf',s1]
     | some p=>
       let⟨i,u⟩:=p
       simp only[fD,ik]at hp
       let⟨e,he1,he2,hsk,hp⟩:=hp
       cases hp
       cases fr' with
       |none=>cases hrel
       | some K=>
         let⟨i',u'⟩:=K
         obtain⟨rfl,_⟩:=hrel
         let⟨e',G,H,S,O⟩:=f.get he1
         rw[V.eq_of_beq _ _ he2]at H;have D:Instr.sameBits 10000 e'.key E=true:=by grind[GL]
         have s:jL[i]? =some e':=by simpa using G
         have t:(jL.modify i λe=>{e with key:=E,val:=vv}).toList=jL.toList.set i {e' with key:=E,val:=vv}:=by
           rw[Array.toList_modify];rw[List.modify_eq_set];simp[s]
         obtain⟨s1,B,C⟩:=map_set y hl x (by rw[t];exact f.set g J O) (F.set he1 _ _);refine⟨_,_,rfl,?_,B,C,.same (jJ _)⟩;simp[Instr.mapUpdate,DO,gK I,Hi,run_getObj_map hb,o,hf',Instr.keyThatStays,s,Option.map_some,Option.getD_some,D,if_true,UE,s1]
    ·let ⟨es,jL,c,hb,f,hs1,hs2⟩:=Wr y hl x
     have o:=vP (em:=false) 9999 (by omega) w hd g hh;unfold WX at hv;split at hv
     ·rename_i k' n
      simp[ik]at hv
      let⟨hi,hkk,hv⟩:=hv
      obtain rfl:=EF hkk;cases hv;cases g;cases J
      let⟨o',ho',hr⟩:=y.obj _ _ hl
      rw[x]at ho';cases ho'
      let⟨_,_,_,es1,Y,hb1,hB1,hB2⟩:=hr
      rw[hb]at hb1;cases hb1;rcases L3 hi k' n 0 λe f=>⟨(hs1 e f).1,let⟨n,_,h⟩:=(hs1 e f).2;⟨n,h⟩⟩ with⟨L,P⟩|⟨j,e,L,P,T⟩
      ·let ⟨fr',hf',hrel⟩:=yn hd (.int k' n) w f L
       cases fr' with
       |some _=>cases hrel
       | none =>
         let ⟨s1,B,C⟩:=Uo y hl x (o2:= .Rt k' (n::ks)) (EH:=jL.push {key:= .int k' n,val:= .bool true,born:=c}) (c2:=c+1) (.inr ⟨_,_,rfl⟩) (.inr ⟨_,_,rfl,by
           rw[Array.toList_push];refine⟨λe f=>?_,λm A=>?_⟩
           ·rcases yX.1 f with f|f
            ·let⟨a,m,b,c⟩:=hB1 e f
             exact⟨a,m,by simp[b],c⟩
            ·simp at f;subst f;exact⟨rfl,n,by simp,rfl⟩
           ·rcases Aw.1 A with rfl|A
            ·exact⟨_,wBL _ (Hh.2 rfl),rfl⟩
            ·let⟨e,f,g⟩:=hB2 m A
             exact⟨e,Zu _ f,g⟩⟩)
         refine⟨_,_,rfl,?_,B,C,.same (jJ _)⟩;simp[Instr.mapUpdate,DO,gK I,Hi,run_getObj_map hb,o,hf',s1]
      ·let ⟨fr',hf',hrel⟩:=yn hd (.int k' n) w f L
       cases fr' with
       |none=>cases hrel
       | some K =>
         let⟨i',u'⟩:=K
         obtain⟨rfl,_⟩:=hrel;rw[Jn]at*
         let⟨e',G,H,S,O⟩:=f.get P
         rw[T]at H;have z:e'.key = .int k' n:=by cases h:e'.key <;> rw[h]at H <;> cases H;rfl
         have D:Instr.sameBits 10000 e'.key (.int k' n)=true:=by rw[z];exact GL (Δ:=Δ) 9999 rfl (.int k' n) (.int k' n)
         have s:jL[j]? =some e':=by simpa using G
         have t:(jL.modify j λe=>{e with key:= .int k' n,val:= .bool true}).toList=jL.toList.set j {e' with key:= .int k' n,val:= .bool true}:=by
           rw[Array.toList_modify];rw[List.modify_eq_set];simp[s]
         let ⟨s1,B,C⟩:=Uo y hl x (o2:= .Rt k' (n::ks)) (EH:=jL.modify j λe=>{e with key:= .int k' n,val:= .bool true}) (c2:=c) (.inr ⟨_,_,rfl⟩) (.inr ⟨_,_,rfl,by
           rw[t];refine⟨λe f=>?_,λm A=>?_⟩
           ·rcases wBG f with f|rfl
            ·let⟨a,m,b,c⟩:=hB1 e f
             exact⟨a,m,by simp[b],c⟩
            ·exact⟨rfl,n,by simp,rfl⟩
           ·by_cases hmn:m=n
            ·subst hmn
             exact⟨{e' with key:= .int k' m,val:= .bool true},by rw[mz];exact⟨j,by rw[Tt (ke.1 G).1]⟩,rfl⟩
            ·let ⟨e,f,g⟩:=hB2 m ((Aw.1 A).resolve_left hmn)
             let⟨q,hq⟩:=mz.1 f
             refine⟨e,mz.2 ⟨q,?_⟩,g⟩;rw[VL (λU=>?_)]
             ·exact hq
             ·subst U
              rw[G]at hq;cases hq;rw[z]at g;cases g;exact hmn rfl⟩)
         refine⟨_,_,rfl,?_,B,C,.same (jJ _)⟩;simp[Instr.mapUpdate,DO,gK I,Hi,run_getObj_map hb,o,hf',Instr.keyThatStays,s,Option.map_some,Option.getD_some,D,if_true,UE,s1]
     ·cases hv
  ·cases hv
theorem XA(e:WR Δ h w) {t kt B rt:Nat} {j:Array Nat} (f:j[0]? =some t) (n:P0.underlying t=some (.map kt B)) {d:Option (List Field)} (hd:LC kt=some d) {m k:V} {v x:Value} (y:fV Δ m v) (o:fV Δ k x)
  {r:R} (hv:Cg kt d m k h=some r):∃h' w',r = .val (.tuple []) h'/\(Builtin.delete_ j rt #[v,x]).run P0 w = .ok (.tuple #[]) w'/\WR Δ h' w'/\FR Δ Δ w w'/\Gr h Δ h' Δ:=by
 unfold Cg at hv;rw[ik]at hv
 let⟨hh,hv⟩:=hv
 split at hv
 ·cases hv;cases y;have a:=vP (em:=true) 9999 (by omega) w hd o hh;refine⟨h,w,rfl,?_,e,.refl _ _,.refl _ _⟩;simp[Builtin.delete_,f,gK n,a]
 ·rename_i l;simp[BJ,fD]at hv
  let⟨es,c,hg,fr,hf,hv⟩:=hv
  cases y with
  | map _ q hl=>
    let⟨jL,hb,he⟩:=N2 e hl hg
    have a:=vP (em:=jL.isEmpty) 9999 (by omega) w hd o hh
    let⟨fr',hf',hrel⟩:=yn hd o w he hf
    cases fr with
    | none =>
      cases hv
      cases fr' with
      |some _=>cases hrel
      | none=>
        let⟨s1,z,A⟩:=map_set e hl hg he (IG e hl hg)
        have g:({w with heap:=w.heap.setIfInBounds q.b (.map jL c)}:World)=w:=by
          have:w.heap.setIfInBounds q.b (.map jL c)=w.heap:=by
            apply Array.ext_getElem?;intro i;by_cases hi:q.b=i
            ·grind
            ·simp_all
          rw[this]
        rw[g]at s1;refine⟨h,w,rfl,?_,e,.refl _ _,.refl _ _⟩
        simp[Builtin.delete_,f,gK n,run_getObj_map hb,a,hf',s1]
    | some p=>
      let⟨i,u⟩:=p
      cases hv
      cases fr' with
      |none=>cases hrel
      | some C=>
        let⟨i',u'⟩:=C
        obtain ⟨rfl,_⟩:=hrel;have s:(jL.eraseIdxIfInBounds i).toList=jL.toList.eraseIdx i:=by
          rw[Array.eraseIdxIfInBounds_eq];split
          ·rw[Array.toList_eraseIdx]
          ·grind[List.eraseIdx_of_length_le]
        obtain⟨s1,z,A⟩:=map_set e hl hg (by rw[s];exact he.erase) ((IG e hl hg).erase _);refine⟨_,_,rfl,?_,z,A,.same (jJ _)⟩;simp[Builtin.delete_,f,gK n,run_getObj_map hb,a,hf',s1]
 ·cases hv
theorem zaX(f:WR Δ h w) {ty kt i:Nat} (j:P0.underlying ty=some (.map kt i)) {m:V} {g:Value} (k:fV Δ m g) {r:R} (hv:ND m h=some r) :
  ∃v h' e x w',r = .val v h'/\(Instr.range ty g).run P0 w = .ok x w'/\GN Δ h w v h' e x w':=by
 unfold ND at hv;split at hv
 ·rename_i l;rw[BJ]at hv
  let⟨es,c,hg,hv⟩:=hv
  cases hv
  cases k with
  | map _ d hd=>
    let⟨jL,hb,he⟩:=N2 f hd hg
    have a:Made Δ (.iter (some l) c [] c) (λl=> .ptr l 0) (.mapIter (some d.b) c #[] c) (λb=> .pointer (some ⟨b,0,none⟩)):=λn b o=>
      ⟨⟨b,0,0,0,0,false,2⟩,rfl,⟨rfl,rfl,rfl,some d.b,rfl,d,Env.zA o _ _ hd,rfl⟩,fV.ptr n 0 ⟨b,0,0,0,0,false,2⟩ (Env.Bx _ _ _)⟩
    let⟨e,p,q,s,t⟩:=f.alloc a
    exact⟨_,_,e,_,_,rfl,by simp[Instr.range,gK j,run_getObj_map hb],q,p,s,t⟩
 ·cases hv
theorem zT{r:Nat}{m:Option Nat}{s l:Nat}{seen:Array Nat}(a:w.heap[r]? =some (.mapIter m s seen l)):(getObj r).run P0 w = .ok (.mapIter m s seen l) w:=by grind[getObj,Sem.run]
theorem XC  (a:uB Δ es jL) (p:Nat->Bool):uB Δ (es.filter λe=>p e.2.2) (jL.filter λe=>p e.born):=by
 induction a with
 |nil=>exact .nil
 | cons k v n e es jL b hv c _ d=>
   subst c;simp[List.filter_cons];by_cases hp:p e.born=true
   ·simp[hp,if_true];exact .cons _ _ _ _ _ _ b hv rfl d
   simp_all
theorem zbV  (a:uB Δ es jL) (st:Nat) {e:V×V×Nat} (b:(es.find? λe=>Nat.beq e.2.2 st)=some e) :
  ∃e',(jL.find? λe=>e.born == st)=some e'/\fV Δ e.1 e'.key/\fV Δ e.2.1 e'.val:=by
 induction a with
 |nil=>cases b
 | cons k v n e0 es jL f hv c _ g=>
   subst c;have d:(e0.born == st)=Nat.beq e0.born st:=by rw[WK];simp
   grind
theorem ZU(j:WR Δ h w) {it:V} {k:Value} (hi:fV Δ it k) {r:R} (hv:NJ it h=some r) :
  ∃v x,r = .val v h/\(Instr.entry k).run P0 w = .ok x w/\fV Δ v x:=by
 unfold NJ at hv;rw[uJ]at hv;obtain⟨l,off,rfl,hv⟩:=hv;rw[ik,fD]at hv;obtain⟨h0,o,n,hv⟩:=hv;have f:=DG h0;subst f
 cases hi with
 | ptr _ _ d hd=>
   let⟨o',ho,hr⟩:=j.obj l d hd
   rw[n]at ho;cases ho;split at hv
   ·rename_i m since seen last
    obtain⟨s,t,p,u,q,y,g,rfl⟩:=hr;rw[BJ]at hv
    let⟨es,c,hgm,hv⟩:=hv
    simp only[ik,fD]at hv
    let⟨hc,st,hst,e,he1,hv⟩:=hv
    cases hv
    let⟨jL,hb,he⟩:=N2 j g hgm
    let⟨e',f1,f2,f3⟩:=zbV he st he1
    refine⟨_,.tuple #[e'.key,e'.val],rfl,?_,.tuple _ _ (.cons _ _ _ _ f2 (.one f3))⟩;have i:=DG hc;subst i;have a:seen.toArray.back? = some st:=by rw[List.back?_toArray];exact hst
    have b:(jL.find? λe=>e.born == st)=some e':=by rw[<-Array.find?_toList];exact f1
    rw[p];simp[Instr.entry,DO,zT q,Hi,a,run_getObj_map hb,bne_self_eq_false,wBK,if_false,UE,b]
   ·cases hv
theorem zcZ{f:V} {j:Value} {args:List V} {b:Array Value} {ty:Nat} {c:Go.Call} {op:Operand} (hc:c.callee = .value op) (k:a.eval op=j) (i:c.args.map a.eval=b) (m:fV Δ f j) (n:gR Δ args b.toList) {r:R}
  (hv:gh f args=some r):∃g l gW,r = .call g l/\gR Δ l gW.toList/\(do let d <-resolve a.eval c ty;invoke d.target d.args:Sem Next)=callFunc g gW:=by
 unfold gh at hv;split at hv
 ·cases hv
  cases m with
  | func _ _ _ e h o p=>
    refine⟨_,_,e++b++h,rfl,?_,?_⟩
    ·simp
     exact o.append (n.append p)
    ·simp only[resolve,hc,k,i]
     rfl
 ·cases hv
theorem XJ(W:WR Δ h w) {j:String} {r:V} {T:Value} {args:List V} {n:Array Value} {ty:Nat} {c:Go.Call} {op:Operand} (hc:c.callee = .invoke op j) (X:a.eval op=T) (J:c.args.map a.eval=n)
  (Y:fV Δ r T) (U:gR Δ args n.toList) {x:R} (hv:kh j r args h=some x) :
  ∃g l gW,x = .call g l/\gR Δ l gW.toList/\(do let d <-resolve a.eval c ty;invoke d.target d.args:Sem Next).run P0 w=(callFunc g gW).run P0 w:=by
 unfold kh at hv;split at hv
 ·rename_i t v
  cases Y with
  | iface _ _ q K=>
    have A:(do let d <-resolve a.eval c ty;invoke d.target d.args:Sem Next)=callMethod (.iface t q) j n:=by
      simp [resolve,hc,X,J];show invoke (.fn (.method j) #[]) (#[.iface t q]++n)=_;have D:(#[Value.iface t q]++n)[0]? =some (.iface t q):=by
        rw[Array.getElem?_append_left (by simp)];rfl
      have I:(#[Value.iface t q]++n).extract 1 (#[Value.iface t q]++n).size=n:=by
        apply Array.ext';simp
      simp[invoke,D]
    have u:∀{f:Nat} {o:Option Nat},methodOf t j=some (f,o)->∃i m b,P0.info? t=some i/\i.methods.find? (λm=>m.name == j)=some m/\m.path = #[]/\m.func=some (f,b)/\
        ((∃e,P0.underlying t=some (.pointer e)/\((b=true/\o=none)\/(b=false/\o=some e)))\/(b=false/\o=none/\∃L,P0.underlying t=some L/\∀e,L≠ .pointer e)):=by
      intro f o s;unfold methodOf at s;rw[fD]at s
      let⟨i,hi,s⟩:=s
      split at s
      ·rename_i m Z
       refine⟨i,m,?_⟩;have aa:i.methods.find? (λm=>m.name == j)=some m:=by rw[<-Array.find?_toList];exact Z
       split at s
       ·simp_all
       ·simp_all
       ·simp_all
       ·cases s
      ·cases s
    obtain⟨fuel,E⟩:∃k,P0.types.size+Made.depth=k+1:=⟨P0.types.size+99,rfl⟩
    split at hv
    ·rename_i f s
     cases hv
     let⟨i,m,b,D,I,M,N,O⟩:=u s
     refine ⟨f,_,#[q]++n,rfl,by simp[Array.toList_append];exact .cons _ _ _ _ K U,?_⟩;rw[A];have z:(receiverAt t (.val q) b (some ((j.splitOn ".").getLastD j))).run P0 w = .ok q w:=by
       rcases O with⟨e,F,⟨rfl,_⟩|⟨_,C⟩⟩|⟨rfl,_,L,F,nw⟩
       ·simp_all[receiverAt,gK,Place.get]
       ·cases C
       ·simp[receiverAt,DO,gK F,Hi]
        rfl
     have P:(method (P0.types.size+Made.depth) t q j).run P0 w = .ok (f,q) w:=by
       rw[E];simp only[method,DO,typeInfo,run_program,Hi,D,UE,I,M,N,follow,z,Array.isEmpty,Array.size_empty,if_true,decide_true]
     grind[callMethod,DO,run_program,Hi]
    ·rename_i f e s
     rw[fD]at hv
     let⟨y,hy,hv⟩:=hv
     cases hv
     let⟨i,m,b,D,I,M,N,O⟩:=u s
     have Q:P0.underlying t=some (.pointer e)/\b=false:=by
       rcases O with⟨e',F,⟨_,C⟩|⟨hb,C⟩⟩|⟨_,C,_⟩
       ·cases C
       ·simp_all
       ·cases C
     obtain⟨F,rfl⟩:=Q
     let⟨xl,hxl,hxr⟩:=PZ (xv:=q) W (by simp_all) hy
     refine ⟨f,_,#[xl]++n,rfl,by simp[Array.toList_append];exact .cons _ _ _ _ hxr U,?_⟩;rw[A];have G:∃B,q = .pointer (some B):=by
       cases q with
       | pointer p=>cases p with
         |some B=>simp_all
         |none=>simp_all[Instr.loadAt,Instr.sureAddr]
       |_=>simp_all[Instr.loadAt,Instr.sureAddr]
     obtain⟨B,rfl⟩:=G;have S:(loadVar e B).run P0 w = .ok xl w:=by simpa[Instr.loadAt,Instr.sureAddr]using hxl
     have z:(receiverAt t (.val (.pointer (some B))) false (some ((j.splitOn ".").getLastD j))).run P0 w = .ok xl w:=by
       have H:∀s1 s2,(Builtin.ssaWrapNilChk_ #[t] t #[.pointer (some B),strVal s1,strVal s2]).run P0 w = .ok (.pointer (some B)) w:=λ_ _=>rfl;simp[receiverAt,DO,gK F,Hi,Place.get,UE,H,asAddr,S]
     have P:(method (P0.types.size+Made.depth) t (.pointer (some B)) j).run P0 w = .ok (f,xl) w:=by
       rw[E];simp only[method,DO,typeInfo,run_program,Hi,D,UE,I,M,N,follow,z,Array.isEmpty,Array.size_empty,if_true,decide_true]
     grind[callMethod,DO,run_program,Hi]
    ·cases hv
 ·cases hv
theorem zci(e:WR Δ h w) (i:TR Δ n t a) {o:Oper} {r:R} (hv:(j5 o).f t h=some r) :
  (∃v h' E x w',r = .val v h'/\((execOp a.eval o).run P0 w = .ok (.value x) w'\/(x=undef/\(execOp a.eval o).run P0 w = .ok .skip w'))/\GN Δ h w v h' E x w')\/
  (∃g l gW,r = .call g l/\gR Δ l gW.toList/\(execOp a.eval o).run P0 w=(callFunc g gW).run P0 w):=by
 let⟨dst,op,oty,pos,af,gd⟩:=o
 cases op with
 | store ty p x=>
   simp[j5]at hv;split at hv
   ·rename_i size O
    simp only[fD,uJ,ik]at hv;obtain⟨pv,j,v,q,l,off,rfl,A,h',H,P⟩:=hv;cases P
    let⟨w',r1,r2,F,G⟩:=zaS e O (uf e i j) (uf e i q) A H
    exact .inl ⟨_,_,Δ,undef,w',rfl,.inr ⟨rfl,by simp_all[execOp]⟩,.undef Δ,r2,F,G⟩
   ·cases hv
 | mapUpdate ty m k x=>
   simp[j5]at hv;split at hv
   ·rename_i kt L C
    split at hv
    ·rename_i d hd
     simp[fD]at hv
     let⟨mv,j,kv,q,xv,A,H⟩:=hv
     obtain⟨h',w',rfl,r1,r2,F,G⟩:=zdh e C hd (uf e i j) (uf e i q) (uf e i A) H;exact .inl ⟨_,_,Δ,undef,w',rfl,.inr ⟨rfl,by simp_all[execOp]⟩,.undef Δ,r2,F,G⟩
    ·cases hv
   ·cases hv
 | range ty x=>
   simp[j5]at hv;split at hv
   ·rename_i kt L C
    simp[fD]at hv
    let⟨mv,j,q⟩:=hv
    obtain⟨v,h',E,y,w',rfl,r1,r2⟩:=zaX e C (uf e i j) q;exact .inl ⟨_,_,E,y,w',rfl,.inl (pU r1),r2⟩
   ·cases hv
 | entry x=>
   simp[j5,fD]at hv
   let⟨mv,j,q⟩:=hv
   obtain⟨v,y,rfl,r1,r2⟩:=ZU e (uf e i j) q
   exact .inl ⟨_,_,Δ,y,w,rfl,.inl (pU r1),r2,e,.refl _ _,.refl _ _⟩
 | call c =>
   let⟨cal,args,tys⟩:=c
   cases cal with
   | builtin b=>
     simp[j5]at hv
     cases b with
     | append=>
       simp only at hv;split at hv
       ·rename_i s x Q xT u B
        have I:args = #[s,x]:=by apply Array.ext';exact u
        have D:tys = #[Q,xT]:=by apply Array.ext';exact B
        subst I;subst D;split at hv
        ·rename_i M e' hs C
         have J:=Lo hs;split at hv
         ·rename_i size iU z S
          simp[fD]at hv
          let⟨sv,j,xv,q,A⟩:=hv
          obtain⟨v,h',E,y,w',rfl,r1,r2⟩:=X1 e J C (by simp_all) S (uf e i j) (uf e i q) A;refine .inl ⟨_,_,E,y,w',rfl,.inl ?_,r2⟩;simp[execOp,resolve];exact pU r1
         ·cases hv
        ·cases hv
       ·cases hv
     | delete=>
       simp only at hv;split at hv
       ·rename_i m k T N u B
        have I:args = #[m,k]:=by apply Array.ext';exact u
        have D:tys[0]? =some T:=by rw[<-wBC,B];rfl
        subst I;split at hv
        ·rename_i kt L C
         split at hv
         ·rename_i d hd
          simp[fD]at hv
          let⟨mv,j,kv,q,A⟩:=hv
          obtain⟨h',w',rfl,r1,r2,F,G⟩:=XA e D C hd (uf e i j) (uf e i q) A;refine .inl ⟨_,_,Δ,_,w',rfl,.inl ?_,.tuple _ #[] .nil,r2,F,G⟩;simp[execOp,resolve];exact pU r1
         ·cases hv
        ·cases hv
       ·cases hv
     |_=>cases hv
   | value f=>
     simp[j5,fD]at hv
     let⟨fv,j,l,q,A⟩:=hv
     obtain⟨g,l,gW,rfl,r1,r2⟩:=zcZ (c:=⟨.value f,args,tys⟩) (ty:=oty) rfl rfl rfl (uf e i j) (by simpa using Gi i q) A;refine .inr ⟨g,l,gW,rfl,r1,?_⟩
     grind[execOp]
   | invoke K m=>
     simp[j5,fD]at hv
     let⟨fv,j,l,q,A⟩:=hv
     obtain⟨g,l,gW,rfl,r1,r2⟩:=XJ (c:=⟨.invoke K m,args,tys⟩) e rfl rfl rfl (uf e i j) (by simpa using Gi i q) A
     exact .inr ⟨g,l,gW,rfl,r1,r2⟩
 |_=>cases hv
