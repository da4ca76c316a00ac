/- Parts. -/
import Derived.Test.YtbdcpiokodljaaaGreatDoorM02
import Derived.Laws.AppendOwn
import Derived.Laws.NewFold
import Derived.Laws.IdiomStrings
set_option maxHeartbeats 4000000
namespace Go.Proofs.YtbdcpiokodljaaaGreatDoor.Hx
structure Gr (h:Hp) (Δ:Env) (h':Hp) (a:Env):Prop where
 next:h.next<=h'.next
 none:∀l,Δ l = .none->l<h.next->a l = .none
theorem Gr.refl(h:Hp)(Δ:Env):Gr h Δ h Δ:=⟨ju _,by simp_all⟩
theorem Gr.trans{h h' c:Hp} {Δ e d:Env} (a:Gr h Δ h' e) (b:Gr h' e c d):Gr h Δ c d:=
 ⟨Ix a.next b.next,λl g f=>b.none l (a.none l g f) (ET f a.next)⟩
theorem Gr.same{h h':Hp}{Δ:Env}(a:h.next<=h'.next):Gr h Δ h' Δ:=⟨a,by simp_all⟩
theorem Gr.set{h h':Hp} {Δ:Env} {d:D} (a:h.next<=h'.next):Gr h Δ h' (Δ.set h.next d):=
 ⟨a,by simp_all[Env.set,if_neg,Sp]⟩
theorem WR.alloc{Δ:Env} {h:Hp} {w:World} (a:WR Δ h w) {ob:O} {mk:Nat->V} {c:Obj} {e:Nat->Value} (g:Made Δ ob mk c e) :
  ∃b,WR b (h.new ob) (w.alloc c)/\fO b (mk h.next) (e w.heap.size)/\FR Δ b w (w.alloc c)/\Gr h Δ (h.new ob) b:=by
 obtain⟨d,f,i,hv⟩:=g h.next w.heap.size a.Ic;exact⟨Δ.set h.next d,(a.more ob).lay a.Ic (Pv _) (by rw[xz,if_pos rfl]) f i,hv,FR.lay a.Ic f,Gr.set (PT _)⟩
theorem yc(g o e:Nat) (fr:Nat×Nat):∀(vs:List Value) (i:Nat) (cur:Array Value) (w:World),w.heap[g]? =some (.cells cur e fr)->(∀j,j<cur.size->¬(fr.1<=j/\j<fr.2))->
  o+i+vs.length<=cur.size->(∀v∈vs,v.oneCell' = true)->
  (storeCells ⟨g,o,none⟩ vs i).run P0 w = .ok () (w.setRow g (cur.toList.take (o+i)++vs++cur.toList.drop (o+i+vs.length)).toArray)
 | [],i,cur,w,hg,_,_,_=>by
   simp only[storeCells,JY,wB4,wBw,Zb,Array.toArray_toList];rw[setRow_self w g cur e fr hg]
   rfl
 | v ::rest,i,cur,w,hg,hf,hl,f=>by
   have hi:o+i<cur.size:=by simp at hl;omega
   have a:w.cell? ⟨g,o+i,none⟩=some cur[o+i]:=by simp[World.cell?,hg,hi]
   have b:w.frozen? ⟨g,o+i,none⟩=false:=by
     have:=hf (o+i) hi;simp only[World.frozen?,hg];simpa using this
   have c:(store ((⟨g,o,none⟩:Addr).add i) v).run P0 w = .ok () (w.setRow g (cur.setIfInBounds (o+i) v)):=by
     rw[ur,run_store P0 w _ v _ (by simp_all),a];simp[b,setCell_eq_setRow w g (o+i) cur e fr v hg]
   have d:=yc g o e fr rest (i+1) (cur.setIfInBounds (o+i) v) (w.setRow g (cur.setIfInBounds (o+i) v)) (by grind[setRow_heap]) (by simp_all) (by grind) (by simp_all);simp only[storeCells,yo,c,wT,d,setRow_setRow];congr 3;have e:=list_seg_step cur.toList (o+i) v rest (by simp at hl⊢;omega)
   grind
theorem WQ(l vs:List Value) (k:Nat) (hk:k+vs.length<=l.length) (j:Nat) :
  (l.take k++vs++l.drop (k+vs.length))[j]? =if k<=j/\j<k+vs.length then vs[j-k]? else l[j]?:=by
 rw[M6,List.getElem?_append,NM,wBk (by omega)]
 grind
theorem WR.set{Δ:Env} {h:Hp} {w w':World} (j:WR Δ h w) {l:Nat} {d:D} {o B:O} (E:Δ l=some d) (r:h.get l=some o) (t:o.live=true) (z:d.ro=false)
  (i:B.live=true->o.live=true) (K:St Δ d B w'.heap[d.b]?) (F:w'.heap.size=w.heap.size) (hk:∀b,b≠d.b->w'.heap[b]? =w.heap[b]?):WR Δ (h.put l B) w' where
 fresh:=j.fresh
 nV:=λm e n=>by rw[F];exact j.nV m e n
 obj:=λm e n=>by
  by_cases he:l=m
  ·subst he;rw[E]at n;cases n;exact⟨B,by rw[qE _ _ (Hp.N0 r),if_pos rfl],K⟩
  ·obtain ⟨p,u,C⟩:=j.obj m e n;refine⟨p,by simp_all[qE,Hp.N0,if_neg],?_⟩;by_cases hb:e.b=d.b
   ·have a:p.live=false:=by
     cases hp:p.live with
     |false=>rfl
     |true=>exact absurd hb.symm (j.apart l m d e o p E n he r u t hp (.inl z))
    cases p with
    | cells e' sz live ro cs=>
      obtain⟨a1,a2,a3,L,_⟩:=C
      exact⟨a1,a2,a3,L,λI=>by simp only[O.live]at a;rw[a]at I;cases I⟩
    |map N c=>cases a
    |iter m s x c=>cases a
   simp_all
 apart:=λm G e e' p J n v q hp f y k H=>by
  rw[qE _ _ (Hp.N0 r)]at hp f;by_cases u:l=m
  ·subst u;rw[if_pos rfl]at hp;cases hp;rw[if_neg q]at f;exact j.apart l G e e' o J n v q r f (i y) k H
  ·rw[if_neg u]at hp;by_cases C:l=G
   ·subst C;rw[if_pos rfl]at f;cases f;exact j.apart m l e e' p o n v q hp r y (i k) H
   ·rw[if_neg C]at f;exact j.apart m G e e' p J n v q hp f y k H
 Jq:=λg p A hp=>by
  rw[qE _ _ (Hp.N0 r)]at hp;by_cases u:l=g
  ·subst u;exact j.Jq l o A r
  ·rw[if_neg u]at hp;exact j.Jq g p A hp
 An:=j.An
 Wj:=j.Wj.step (λb _ M=>hk b λe=>M ⟨l,d,E,z,e.symm⟩) (by simp_all)
theorem FR.set{Δ:Env} {w w':World} {l:Nat} {d:D} (f:Δ l=some d) (a:d.ro=false) (c:w'.heap.size=w.heap.size) (hk:∀b,b≠d.b->w'.heap[b]? =w.heap[b]?)
  (g:w'.os=w.os) (h:w'.tape=w.tape) (i:w'.output=w.output):FR Δ Δ w w':=
 ⟨Env.le_refl _,wB9 c.symm,g,h,i,λb _ j=>hk b λe=>j ⟨l,d,f,a,e.symm⟩,by simp_all⟩
theorem WR.kill{Δ:Env} {h:Hp} {w:World} (c:WR Δ h w) {l e sz:Nat} {cs:List V} (f:h.get l=some (.cells e sz true false cs)) {d:D} (g:Δ l=some d) :
  WR Δ (h.put l (.cells e sz false false cs)) w/\(∀m d' p,m≠l->Δ m=some d'->h.get m=some p->p.live=true->d'.b≠d.b)/\d.ro=false:=by
 obtain⟨o,k,n⟩:=c.obj l d g;rw[f]at k;cases k;obtain⟨a1,a2,a3,a,r⟩:=n;refine⟨c.set g f rfl a (λh=>(nomatch h)) ⟨a1,a2,a3,a,λh=>(nomatch h)⟩ rfl (by simp_all),λm d' p i q hp j=>?_,a⟩;exact c.apart m l d' d p _ q g i hp f j rfl (.inr a)
section
variable{Δ:Env}{h:Hp}{w:World}{n:Nat}{t:Tm}{a:Act}
theorem M3(s:WR Δ h w) {l:Nat} {d:D} (m:Δ l=some d) {off:Nat} {new:List V} {UR:List Value} (n:gN Δ new UR) {h':Hp} (hv:Gk h l off new=some h') :
  ∃w',(storeCells ⟨d.b,d.base+off,none⟩ UR 0).run P0 w = .ok () w'/\WR Δ h' w'/\FR Δ Δ w w':=by
 unfold Gk at hv;rw[lW]at hv;obtain⟨e,sz,live,ro,cs,t,hv⟩:=hv;simp only[hK,ft]at hv;obtain⟨rfl,p,f,qj,hs,hv⟩:=hv;cases hv;have g:ro=false:=by simpa using p
 subst g;obtain⟨oV,u,q⟩:=Lo hs;obtain⟨o,y,z⟩:=s.obj l d m;rw[t]at y;cases y;obtain⟨a1,a2,a3,r,A⟩:=z;obtain⟨c,e',fr,b1,b2,b3,E,F⟩:=A rfl;have B:=n.length;have j:d.base+off+UR.length<=c.size:=by omega
 have a:=yc d.b (d.base+off) e' fr UR 0 c w b1 (by grind) (by omega) (n.zeN f);simp only[wBw]at a;refine⟨_,a,s.set m t rfl r (λh=>h) ⟨a1,a2,by omega,r,λ_=>?_⟩ (by simp) (by grind[setRow_other]),FR.set m r (by simp) (by grind[setRow_other]) rfl rfl rfl⟩;refine⟨_,e',fr,setRow_heap w d.b c _ e' fr b1,?_,b3,by omega,λi v hi=>?_⟩
 ·grind
 ·rw [q i]at hi;have k:=WQ c.toList UR (d.base+off) (by simpa using j) (d.base+i);rw[wBq,k];by_cases hin:off<=i/\i<off+new.length
  ·rw[if_pos hin]at hi;rw[if_pos (by omega)];obtain⟨x,G,C⟩:=n.get _ _ hi
   grind
  grind
end
structure Am (Δ:Env) (h:Hp) (w:World) (v:V) (h':Hp) (a:Env) (x:Value) (w':World):Prop where
 val:fO a v x
 world:WR a h' w'
 frame:FR Δ a w w'
 grow:Gr h Δ h' a
theorem WR.heap{Δ:Env} {h:Hp} {w w':World} (a:WR Δ h w) (b:w'.heap=w.heap):WR Δ h w':=
 ⟨a.fresh,λl d e=>by rw[b];exact a.nV l d e,λl d e=>by rw[b];exact a.obj l d e,a.apart,a.Jq,a.An,λg c f=>by rw[b];exact a.Wj g c f⟩
theorem WR.YL{Δ:Env} {h:Hp} {w:World} (c:WR Δ h w) {l:Nat} {o:O} {d:D} (u:Δ l=none) (x:l<h.next) (F:h.get l=some o) (y:d.b<w.heap.size)
  (G:St (Δ.set l d) d o w.heap[d.b]?) (z:∀m d' p,Δ m=some d'->h.get m=some p->p.live=true->d'.b≠d.b) (A:RW Δ d.b):WR (Δ.set l d) h w where
 fresh:=λm e a=>by
  rcases Env.mH a with⟨rfl,rfl⟩|⟨_,a⟩
  ·exact x
  ·exact c.fresh m e a
 nV:=λm e a=>by
  rcases Env.mH a with⟨rfl,rfl⟩|⟨_,a⟩
  ·exact y
  ·exact c.nV m e a
 obj:=λm e a=>by
  rcases Env.mH a with⟨rfl,rfl⟩|⟨_,a⟩
  ·simp_all
  ·obtain⟨B,f,j⟩:=c.obj m e a;exact⟨B,f,j.mono (Env.zP u)⟩
 apart:=λm C e e' p E a k n hp q r i s=>by
  rcases Env.mH a with⟨f,j⟩|⟨_,f⟩ <;> rcases Env.mH k with⟨v,H⟩|⟨_,v⟩
  ·omega
  ·grind
  ·grind
  ·exact c.apart m C e e' p E f v n hp q r i s
 Jq:=λg p t hp=>by
  obtain⟨e,f,j⟩:=c.Jq g p t hp;exact⟨e,Env.zP u _ _ f,j⟩
 An:=c.An
 Wj:=c.Wj.step (by simp_all) λm e a _=>by
  rcases Env.mH a with⟨rfl,rfl⟩|⟨_,a⟩
  ·simp_all
  simp_all
theorem FR.YL{Δ:Env} {w w':World} {l:Nat} {d:D} (c:Δ l=none) (h:FR Δ Δ w w') (f:RW Δ d.b):FR Δ (Δ.set l d) w w' where
 le:=Env.zP c
 size:=h.size
 os:=h.os
 tape:=h.tape
 output:=h.output
 fi:=h.fi
 new:=λm e a=>by
  rcases Env.mH a with⟨rfl,rfl⟩|⟨_,a⟩
  ·simp_all
  simp_all
theorem FR.drew{Δ a:Env}{w w':World}(h:FR Δ a w.drew w'):FR Δ a w w':=⟨h.le,h.size,h.os,h.tape,h.output,h.fi,h.new⟩
section
variable{Δ:Env}{h:Hp}{w:World}{n:Nat}{t:Tm}{a:Act}
theorem Qb(Δ:Env) (s:ByteArray):gN Δ (Bz s.data.toList) (s.data.toList.map λb=>Value.int .u8 b.toNat):=by
 generalize s.data.toList=l
 induction l with
 |nil=>exact .nil
 |cons b l a=>exact .cons _ _ _ _ (.int .u8 _) a
theorem Pz(i:WR Δ h w) {size:Nat} {x:V} {xv:Value} {m:Nat} {cs:List V} (b:fO Δ x xv) (hv:ml h size x=some (m,cs)) :
  ∃a,gN Δ cs a/\(∀w',(Builtin.lenOf xv).run P0 w' = .ok m w')/\(Builtin.firstCells size m xv).run P0 w = .ok (Array.mk a) w/\a.length=m*size:=by
 unfold ml at hv;split at hv
 ·cases hv;cases b;exact⟨[],.nil,λ_=>rfl,rfl,by simp⟩
 ·cases hv;cases b;exact⟨[],.nil,λ_=>rfl,by simp[Builtin.firstCells,loadCells,loadCellsFrom],by simp⟩
 ·rename_i l off k;rw[ft]at hv;obtain⟨qj,c,e⟩:=hv;cases e
  cases b with
  | slice _ _ _ cap o d j hk n p=>
    rcases p with⟨rfl,_,_⟩|⟨rfl,_⟩
    ·obtain⟨xs,r,g⟩:=wW i j c
     exact⟨xs,g,λ_=>rfl,by grind[Builtin.firstCells],by rw[<-g.length,Si c];rfl⟩
    omega
 ·rename_i s;rw[hK]at hv;obtain⟨c,e⟩:=hv;cases e;have f:size=1:=CI c;subst f
  cases b with
  | str s=>
    refine ⟨_,Qb Δ s,by simp_all[Builtin.lenOf],?_,by simp⟩;have q:s.extract 0 s.size=s:=by
      rw[ByteArray.ext_iff];simp
    simp only[Builtin.firstCells];have:s.data.toList.length=s.size:=by simp
    rw[this,q];simp only[L9];congr 1
    grind
 ·cases hv
theorem rU{n xT ty e:Nat} {j:TypeDesc} (hs:P0.underlying n=some (.slice e)) (o:P0.underlying xT=some j) (hi:∀k,j≠ .int k) {size:Nat} (p:zR e=some size)
  {base:Option Addr} {a c m:Nat} {x:Value} (hlen:(Builtin.lenOf x).run P0 w = .ok m w) {f:List Value} (g:(Builtin.firstCells size m x).run P0 w = .ok (Array.mk f) w)
  (d:a+m<=c) {w':World} (l:∀b,base=some b->(storeCells (b.add (a*size)) f 0).run P0 w = .ok () w') (q:base=none->w' = w) :
  (Builtin.append_ #[n,xT] ty #[.slice base a c,x]).run P0 w = .ok (.slice base (a+m) c) w':=by
 have h:=xy (w:=w) p;have i:(match (generalizing:=false) j with| .int _=>true|_=>false)=false:=by cases j <;> first|rfl|simp_all
 cases base with
 | none=>
   cases q rfl
   simp[Builtin.append_,gf hs,gf o,h,i,hlen,d,g]
 |some b=>simp[Builtin.append_,gf hs,gf o,h,i,hlen,d,g,l b rfl]
theorem Lf{A xT ty c:Nat} {q:TypeDesc} (hs:P0.underlying A=some (.slice c)) (E:P0.underlying xT=some q) (hi:∀k,q≠ .int k) {size kL:Nat} {z:V}
  (F:elemOf c=some (size,kL,z)) {base:Option Addr} {a b m:Nat} {x:Value} (hlen:(Builtin.lenOf x).run P0 w = .ok m w) {d e:List Value}
  (f:(Builtin.firstCells size a (.slice base a b)).run P0 w.drew = .ok (Array.mk d) w.drew)
  (g:(Builtin.firstCells size m x).run P0 w.drew = .ok (Array.mk e) w.drew) (G:¬a+m<=b) (N:(a+m)*kL<=70368744177664) (O:a+m<=70368744177664) :
  ∃B,B.size=size/\(Builtin.append_ #[A,xT] ty #[.slice base a b,x]).run P0 w = .ok (.slice (some ⟨w.heap.size,0,none⟩) (a+m) (grownCap w (a+m) b c))
   (w.drew.alloc (.cells (Array.mk d++Array.mk e++Builtin.zeroCells B (grownCap w (a+m) b c-(a+m))) c)):=by
 obtain⟨r,h,s,C,H,_⟩:=Im F;obtain⟨I,J,l,i,j,t⟩:=Bp s;have u:(match (generalizing:=false) q with| .int _=>true|_=>false)=false:=by cases q <;> first|rfl|simp_all
 have K:i.bytes=kL:=by
  unfold zb3 at h;rw[ft]at h;obtain⟨L,n,v⟩:=h;rw[j]at n;cases n;simpa using v
 have y:i.size=size:=by
  obtain⟨L,n,v⟩:=Fy r;rw[j]at n;cases n;exact v
 have D:Builtin.nextslicecap (a+m) b*i.bytes<=281474976710656:=growslice_fits (by omega) (by grind);have o:¬(281474976710656<Builtin.nextslicecap (a+m) b*i.bytes):=by omega
 have p:¬(9223372036854775807<((a:Int)+(m:Int))):=by omega
 have M:=(l λ_=>none).cells.length;refine⟨I.cells,by simp_all,?_⟩;rw[<-y]at f g;have hq:(Question.appendCap (a+m) b c).forced=false:=rfl;simp[Builtin.append_,gf hs,gf E,sizeOf,typeInfo,zeroValue,j,t,u,hlen,G,p,o,hq,f,g,newRow,grownCap]
 grind
theorem Oe(E : WR Δ h w) {sT xT ty f:Nat} {dx:TypeDesc} (hs:P0.underlying sT=some (.slice f)) (hx:P0.underlying xT=some dx) (hi:∀k,dx≠ .int k) {size kL:Nat} {z:V}
    (hz:elemOf f=some (size,kL,z)) {s x:V} {sv xv:Value} (N:fO Δ s sv) (aj:fO Δ x xv) {r:R} (hv:eR f size kL s x h=some r) :
    ∃v h' O y w',r = .val v h'/\(Builtin.append_ #[sT,xT] ty #[sv,xv]).run P0 w = .ok y w'/\Am Δ h w v h' O y w':=by
  obtain⟨P,aW,aX,T,aY,_⟩:=Im hz;unfold eR at hv;rw[ft]at hv;obtain⟨⟨m,cs⟩,h1,q⟩:=hv;obtain⟨n,n1,n2,n3,n4⟩:=Pz E aj h1;have ax:WR Δ h w.drew:=E.heap rfl;obtain⟨I,d1,d2,d3,d4⟩:=Pz ax aj h1;have ak:cs.length=m*size:=by rw[n1.length,n4]
  cases hm:Nat.beq m 0 with
  | true=>
    have Z:m=0:=CI hm;subst Z;simp only[hm]at q;have ay:n=[]:=wA4 (by simpa using n4);subst ay;split at q
    ·cases q;cases N
     exact⟨_,_,Δ,_,w,rfl,rU hs hx hi P (n2 w) n3 (ju _) (λb G=>by cases G) (λ_=>rfl),.ee,E,.refl _ _,.refl _ _⟩
    ·cases q
     cases N with
     | slice l off len cap o d H hk J ho=>
       exact⟨_,_,Δ,_,w,rfl,rU hs hx hi P (n2 w) n3 J (λb G=>rfl) (λ_=>rfl),.slice _ _ _ cap o d H hk J ho,E,.refl _ _,.refl _ _⟩
    ·cases q
  | false =>
    have Z:0<m:=Nat.pos_of_ne_zero λe=>by rw[e]at hm;cases hm
    simp only[hm,hK]at q;obtain⟨U,q⟩:=q
    have fresh:∀(base:Option Addr) (a t:Nat) (g:List Value) (AK:List V) (h0:Hp),sv = .slice base a t->gN Δ AK g->g.length=a*size->
        (Builtin.firstCells size a (.slice base a t)).run P0 w.drew = .ok (Array.mk g) w.drew->¬a+m<=t->(a+m)*kL<=70368744177664->a+m<=70368744177664->
        WR Δ h0 w->h0.next=h.next->
        ∃O y w',(Builtin.append_ #[sT,xT] ty #[sv,xv]).run P0 w = .ok y w'/\Am Δ h w (.slice h.next 0 (a+m)) (h0.new (.cells f size true false (AK++cs))) O y w':=by
      intro base a t g AK h0 al W K A hg G aA aB Ez;obtain⟨zc,aC,hr⟩:=Lf (ty:=ty) hs hx hi hz (n2 w) A d3 hg G aA;have L:=grownCap_ge w (a+m) t f;generalize grownCap w (a+m) t f=nc at hr L
      have aa:Made Δ (.cells f size true false (AK++cs)) (λl=> .slice l 0 (a+m)) (.cells (Array.mk g++Array.mk I++Builtin.zeroCells zc (nc-(a+m))) f)
          (λb=> .slice (some ⟨b,0,none⟩) (a+m) nc):=by
        intro l b hn;have J:=Env.zP (d:=⟨b,0,size,(AK++cs).length,nc*size,false,0⟩) hn;have am:=W.append d1;have hlen:(AK++cs).length=(a+m)*size:=by rw[K8,W.length,K,ak,Yt]
        have aS:(a+m)*size<=nc*size:=wBr _ L;refine⟨⟨b,0,size,(AK++cs).length,nc*size,false,0⟩,rfl,⟨rfl,rfl,rfl,rfl,λ_=>?_⟩,?_⟩
        ·refine Cn ?_ rfl (by show(AK++cs).length<=nc*size;omega) λi u B=>?_
         ·show(Array.mk g++Array.mk I++Builtin.zeroCells zc (nc-(a+m))).size=nc*size
          simp only[Array.size_append,List.size_toArray,size_zeroCells,aC,K,d4];rw[<-Yt,<-Yt];congr 1;omega
         ·obtain⟨y,hy,aD⟩:=am.get i u B
          refine⟨y,?_,aD.mono J⟩
          grind
        ·refine fO.slice l 0 (a+m) nc 0 _ (Env.xD _ _ _) rfl L (.inl ⟨rfl,?_,?_⟩)
         ·simp_all
         ·show 0+0+nc*size<=nc*size;omega
      obtain⟨O,a1,a2,a3,Q⟩:=(aB.heap (w':=w.drew) rfl).alloc aa;have aE:Gr h Δ (h0.new (.cells f size true false (AK++cs))) O:=⟨by rw[<-Ez];exact Q.next,λl hl F=>Q.none l hl (by rw[Ez];exact F)⟩
      rw[Ez]at a2;exact⟨O,_,_,al▸hr,a2,a1,a3.drew,aE⟩
    split at q
    ·simp only[hK]at q
     obtain⟨h3,h4,h5⟩:=q;cases h5;cases N;have S:m*kL<=70368744177664:=K7 h3;have ab:m<=70368744177664:=K7 h4;obtain⟨O,y,w',b1,b2⟩:=fresh none 0 0 [] [] h rfl .nil (by simp) rfl (by omega) (by simpa using S) (by simpa using ab) E rfl
     grind
    ·rename_i l off len
     rw[lW]at q;obtain⟨e,sz,live,ro,all,hg,q⟩:=q;simp only[hK]at q;obtain⟨rfl,aF,an,q⟩:=q;have ac:sz=size:=CI an;subst ac;have ao:ro=false:=by simpa using aF
     subst ao
     cases N with
     | slice _ _ _ cap o d H hk J ho=>
       obtain⟨ob,ap,hr⟩:=E.obj l d H;rw[hg]at ap;cases ap;obtain⟨a1,a2,a3,Q,a5⟩:=hr;obtain⟨c,e',fr,b1,b2,b3,b5,b4⟩:=a5 rfl;rw[a2]at ho;have aq:(len+m)*sz=len*sz+m*sz:=Yt _ _ _;have aZ:0<m*sz:=Nat.mul_pos Z T
       cases hin:Nat.ble (Nat.add off (Nat.mul (Nat.add len m) sz)) all.length with
       | true =>
         simp only[hin,ft]at q;obtain⟨qj,h3,h4⟩:=q;cases h4;have aT:off+(len+m)*sz<=all.length:=K7 hin;rcases ho with⟨rfl,M,ar⟩|⟨rfl,M⟩
         ·have j:len+m<=cap:=by
            rcases Ud cap (len+m)with F|L
            ·exfalso
             have:cap*sz<(len+m)*sz:=Nat.mul_lt_mul_of_pos_right F T;omega
            ·exact L
          have aG:Gk h l (off+len*sz) cs=some (h.put l (.cells e sz true false qj)):=by
            unfold Gk;rw[lW];refine⟨e,sz,true,false,all,hg,?_⟩;simp only[hK,ft];exact⟨trivial,rfl,U,qj,h3,rfl⟩
          obtain⟨w',c1,c2,c3⟩:=M3 E H n1 aG;refine⟨_,_,Δ,_,w',rfl,rU hs hx hi P (n2 w) n3 j (λb G=>?_) (λG=>by cases G),?_,c2,c3,.same (ju _)⟩
          ·cases G
           rw[ur,Nat.add_assoc];exact c1
          ·exact .slice l off (len+m) cap _ d H hk j (by simp_all)
         ·exfalso;omega
       | false =>
         simp only[hin,ft,hK]at q;obtain⟨AK,h3,aH,h4,h5,h6⟩:=q;cases h6;have ab:(len+m)*kL<=70368744177664:=K7 h4;have aI:len+m<=70368744177664:=K7 h5;have S:sub all off (len*sz)=some AK:=h3;obtain⟨ae,aJ⟩:=sub_eq S;obtain⟨aK,a6,_⟩:=E.kill hg H;have a7:IS h l off (len*sz)=some AK:=by
           unfold IS;rw[lW];exact⟨e,sz,true,false,all,hg,by rw[hK];exact⟨rfl,S⟩⟩
         by_cases j:len+m<=cap
         ·rcases ho with⟨rfl,M,ar⟩|⟨rfl,M⟩
          ·have aU : (len+m)*sz<=cap*sz:=wBr _ j
           have X:d.base+off+len*sz+n.length<=c.size:=by rw[n4];omega
           have A:=yc d.b (d.base+off+len*sz) e' fr n 0 c w b1 (by grind) (by simpa using X) (n1.zeN U);simp only[wBw]at A;have ag:d.base+off+len*sz+n.length<=c.toList.length:=by simpa using X
           generalize hw':w.setRow d.b (c.toList.take (d.base+off+len*sz)++n++c.toList.drop (d.base+off+len*sz+n.length)).toArray=w' at A;have C:w'.heap.size=w.heap.size:=by rw[<-hw'];simp
           have D:∀b,b≠d.b->w'.heap[b]? =w.heap[b]?:=by grind[setRow_other]
           have au:w'.heap[d.b]? =some (.cells (c.toList.take (d.base+off+len*sz)++n++c.toList.drop (d.base+off+len*sz+n.length)).toArray e' fr):=by
             rw[<-hw'];exact setRow_heap w d.b c _ e' fr b1
           have aw:WR Δ (h.put l (.cells e sz false false all)) w':=E.set H hg rfl Q (λh=>(nomatch h)) ⟨a1,a2,a3,Q,λh=>(nomatch h)⟩ C D;have aL:FR Δ Δ w w':=FR.set H Q C D (by rw[<-hw'];rfl) (by rw[<-hw'];rfl) (by rw[<-hw'];rfl);have hn:=E.Ic;have a8:(AK++cs).length=(len+m)*sz:=by rw[K8,ae,ak,aq]
           have Y:=Env.zP (d:=⟨d.b,d.base+off,sz,(AK++cs).length,d.XG,false,0⟩) hn
           refine ⟨_,_,Δ.set h.next ⟨d.b,d.base+off,sz,(AK++cs).length,d.XG,false,0⟩,_,w',rfl,
             rU hs hx hi P (n2 w) n3 j (λb G=>?_) (λG=>by cases G),?_,?_,aL.YL hn ⟨l,d,H,Q,rfl⟩,Gr.set (PT _)⟩
           ·cases G
            rw[ur];exact A
           ·refine .slice h.next 0 (len+m) cap (d.base+off) ⟨d.b,d.base+off,sz,(AK++cs).length,d.XG,false,0⟩ (Env.xD _ _ _) rfl j (.inl ⟨rfl,?_,?_⟩)
            ·simp_all
            omega
           ·refine (aw.more (.cells f sz true false (AK++cs))).YL (o:= .cells f sz true false (AK++cs)) (d:=⟨d.b,d.base+off,sz,(AK++cs).length,d.XG,false,0⟩) hn (Pv _) (by rw[xz];exact if_pos rfl) (by rw[C];exact E.nV l d H) ⟨rfl,rfl,rfl,rfl,λ_=>?_⟩ (λm' d' p aM hp aN=>?_) ⟨l,d,H,Q,rfl⟩
            ·refine ⟨_,e',fr,au,?_,λ_=>b3 Q,?_,λi v B=>?_⟩
             ·grind
             ·grind
             ·show ∃x,(List.toArray _)[d.base+off+i]? =some x/\_
              rw[wBq,WQ c.toList n _ ag];rw[List.getElem?_append]at B;by_cases F:i<AK.length
              ·rw[if_pos F,aJ i (by omega)]at B
               obtain⟨x,ah,ai⟩:=b4 _ _ B;rw[if_neg (by omega)];exact⟨x,by rw[wBC,Nat.add_assoc];exact ah,ai.mono Y⟩
              ·rw[if_neg F]at B
               obtain⟨x,ah,ai⟩:=n1.get _ _ B;have aV:=(kj.1 B).1;rw[if_pos (by omega)];refine⟨x,?_,ai.mono Y⟩;rw[<-ah];congr 1;omega
            ·have aO:h.next≠m':=Nat.ne_of_gt (E.fresh _ _ aM)
             rw[xz]at hp;rw[if_neg (by exact aO)]at hp;rw[qE _ _ (E.fresh _ _ H)]at hp;by_cases he:l=m'
             ·subst he
              rw[if_pos rfl]at hp;cases hp;cases aN
             grind
          ·exfalso;omega
         ·have aP:∃g,gN Δ AK g/\(Builtin.firstCells sz len (.slice (some ⟨d.b,o,none⟩) len cap)).run P0 w.drew = .ok (Array.mk g) w.drew:=by
            rcases ho with⟨rfl,M,ar⟩|⟨rfl,M⟩
            ·grind[wW,Builtin.firstCells]
            ·have aQ:len=0:=by omega
             subst aQ;have aR:AK=[]:=wA4 (by rw[ae];simp);subst aR;exact⟨[],.nil,by simp[Builtin.firstCells,loadCells,loadCellsFrom]⟩
          obtain⟨g,c1,c2⟩:=aP;obtain⟨O,y,w',e1,e2⟩:=fresh _ len cap g AK (h.put l (.cells e sz false false all)) rfl c1 (by rw[<-c1.length,ae]) c2 j ab aI aK rfl;exact⟨_,_,O,y,w',rfl,e1,e2⟩
    ·cases q
end
section
variable{Δ:Env}{h:Hp}{w:World}{n:Nat}{t:Tm}{a:Act}
theorem Xi(c:WR Δ h w) {ty size:Nat} (k:zR ty=some size) {l off:Nat} {v:V} {pv xv:Value} (hp:fO Δ (.ptr l off) pv) (f:fO Δ v xv)
  (hlen:Nat.beq v.cells.length size=true) {h':Hp} (hs:Gk h l off v.cells=some h') :
  ∃w',(Instr.storeAt ty pv xv).run P0 w = .ok () w'/\WR Δ h' w'/\FR Δ Δ w w'/\Gr h Δ h' Δ:=by
 cases hp with
 | ptr _ _ d g=>
   have hc:=f.cells;obtain⟨w',m,i,j⟩:=M3 c g hc hs;have n:=CI hlen;have a:=hc.length;simp only[wBE]at a;have b:h'.next=h.next:=by
     unfold Gk at hs;rw[lW]at hs;obtain⟨e,sz,live,ro,cs,o,hv⟩:=hs;simp only[hK,ft]at hv;obtain⟨_,_,_,_,_,hv⟩:=hv;cases hv;rfl
   refine⟨w',?_,i,j,.same (wB9 b.symm)⟩
   simp_all[Instr.storeAt,Instr.sureAddr,storeVar,xy]
theorem vw.length{b:List (V×V×Nat)} {a:List MapEntry} (h:vw Δ b a):b.length=a.length:=by
 induction h <;> grind
theorem vw.get{b:List (V×V×Nat)} {a:List MapEntry} (h:vw Δ b a) {i:Nat} {e:V×V×Nat} (hi:b[i]? =some e) :
  ∃e',a[i]? =some e'/\fO Δ e.1 e'.key/\fO Δ e.2.1 e'.val/\e'.born=e.2.2:=by
 induction h generalizing i <;> grind
theorem vw.set{b:List (V×V×Nat)} {a:List MapEntry} (h:vw Δ b a) {i:Nat} {k v:V} {m:Nat} {e':MapEntry} (hk:fO Δ k e'.key) (hv:fO Δ v e'.val) (f:e'.born=m) :
  vw Δ (b.set i (k,v,m)) (a.set i e'):=by
 induction h generalizing i with
 |nil=>exact .nil
 | cons k0 j n e0 b a c d e hs g=>
   cases i with
   |zero=>exact .cons _ _ _ _ _ _ hk hv f hs
   |succ i=>exact .cons _ _ _ _ _ _ c d e g
theorem vw.snoc{b:List (V×V×Nat)} {a:List MapEntry} (h:vw Δ b a) {k v:V} {m:Nat} {e':MapEntry} (hk:fO Δ k e'.key) (hv:fO Δ v e'.val) (f:e'.born=m) :
  vw Δ (b++[(k,v,m)]) (a++[e']):=by
 induction h with
 |nil=>exact .cons _ _ _ _ _ _ hk hv f .nil
 |cons k0 i n e0 b a c d e hs g=>exact .cons _ _ _ _ _ _ c d e g
theorem vw.erase{b:List (V×V×Nat)} {a:List MapEntry} (h:vw Δ b a) {i:Nat}:vw Δ (b.eraseIdx i) (a.eraseIdx i):=by
 induction h generalizing i with
 |nil=>exact .nil
 | cons k0 g n e0 b a c d e hs f=>
   cases i with
   |zero=>exact hs
   |succ i=>exact .cons _ _ _ _ _ _ c d e f
theorem Jf{k:V} {x y:Value} (m:Nat) (d:Ki k=true) (c:fO Δ k x) (b:fO Δ k y):Instr.sameBits m x y=true:=by
 cases k <;> simp[Ki]at d
 ·cases c;cases b;grind[Instr.sameBits]
 ·cases c;cases b;grind[Instr.sameBits]
 ·rename_i s
  cases c with
  | str a=>
    generalize hs:a.data.toList=l at b
    cases b with
    | str e=>
      have:a=e:=by
        rw[ByteArray.ext_iff];exact Array.ext' hs
      subst this;have f:(a == a)=true:=by show(a.data == a.data)=true;simp
      grind[Instr.sameBits]
theorem YU(m:Nat) {cs:List V} {xs ys:List Value} (f:cs.all Ki=true) (a:gN Δ cs xs) (b:gN Δ cs ys):xs.length=ys.length/\(xs.zip ys).all (λp=>Instr.sameBits m p.1 p.2)=true:=by
 induction cs generalizing xs ys with
 |nil=>cases a;cases b;simp_all
 | cons c cs g=>
   cases a with
   | cons _ x _ xs a d=>
     cases b with
     | cons _ y _ ys b e=>
       simp only[wBy,yl]at f;obtain⟨h,i⟩:=g f.2 d e;exact⟨by simp[h],by simp only[List.zip_cons_cons,wBy,yl];grind[Jf]⟩
theorem MH{k:V} {x y:Value} (m:Nat) (c:LY k=true) (a:fO Δ k x) (b:fO Δ k y):Instr.sameBits (m+1) x y=true:=by
 cases k with
 | agg cs=>
   cases a with|agg _ xs a=>cases b with|agg _ ys b=>
   obtain⟨d,e⟩:=YU m c a b
   simp_all[Instr.sameBits,yl]
 |_=>grind[Jf,LY]
theorem map_set(g:WR Δ h w) {l:Nat} {d:D} (f:Δ l=some d) {k e:List (V×V×Nat)} {c c2:Nat} (i:h.get l=some (.map k c)) {Of:Array MapEntry} (m:vw Δ e Of.toList) :
  (setObj d.b (.map Of c2)).run P0 w = .ok () {w with heap:=w.heap.setIfInBounds d.b (.map Of c2)}/\
  WR Δ (h.put l (.map e c2)) {w with heap:=w.heap.setIfInBounds d.b (.map Of c2)}/\FR Δ Δ w {w with heap:=w.heap.setIfInBounds d.b (.map Of c2)}:=by
 obtain⟨o,j,n⟩:=g.obj l d f;rw[i]at j;cases j;obtain⟨a1,a2,a3,p,r,s⟩:=n;have q:=g.nV l d f;have a:∀b,b≠d.b->({w with heap:=w.heap.setIfInBounds d.b (.map Of c2)}:World).heap[b]? =w.heap[b]?:=by grind
 refine⟨by grind[setObj,Sem.run],g.set f i rfl a2 (λh=>h) ⟨a1,a2,a3,Of,?_,m⟩ (by simp) a,FR.set f a2 (by simp) a rfl rfl rfl⟩
 simp_all
theorem VR(t:WR Δ h w) {G x M:Nat} (H:P0.underlying G=some (.map x M)) {d:Option (List Field)} (I:KM x=some d) {m k v:V} {J f vv:Value} (N:fO Δ m J) (hk:fO Δ k f) (K:fO Δ v vv)
  {r:R} (hv:Pk x d m k v h=some r):∃h' w',r = .val .undef h'/\(Instr.mapUpdate G J f vv).run P0 w = .ok () w'/\WR Δ h' w'/\FR Δ Δ w w'/\Gr h Δ h' Δ:=by
 unfold Pk at hv;rw[hK]at hv;obtain⟨O,hv⟩:=hv;split at hv
 ·rename_i l;simp only[AW,ft]at hv;obtain⟨X,c,y,ob,hp,hv⟩:=hv;cases hv
  cases N with
  | map _ Y z=>
    obtain⟨a,L,s⟩:=JW t z y;have g:=zI (em:=false) 9999 (by omega) w I hk O;unfold QV at hp;rw[ft]at hp;obtain⟨fr,P,hp⟩:=hp;obtain⟨j,n,b⟩:=Fh I hk w s P
    cases fr with
    | none=>
      cases hp
      cases j with
      |some _=>cases b
      | none=>
        obtain⟨A,B,C⟩:=map_set t z y (Of:=a.push {key:=f,val:=vv,born:=c}) (c2:=c+1) (by rw[Array.toList_push];exact s.snoc (m:=c) hk K rfl);refine⟨_,_,rfl,?_,B,C,.same (ju _)⟩
        simp only[Instr.mapUpdate,yo,gf H,wT,run_getObj_map L,g,n,A]
    | some p=>
      obtain⟨i,u⟩:=p;simp only[ft,hK]at hp;obtain⟨e,D,E,Q,hp⟩:=hp;cases hp
      cases j with
      |none=>cases b
      | some S=>
        obtain⟨Z,u'⟩:=S;obtain⟨rfl,_⟩:=b;obtain⟨e',T,U,g3,W⟩:=s.get D;rw[V.eq_of_beq _ _ E]at U;have F:Instr.sameBits 10000 e'.key f=true:=by grind[MH]
        have o:a[i]? =some e':=by simpa using T
        have q:(a.modify i λe=>{e with key:=f,val:=vv}).toList=a.toList.set i {e' with key:=f,val:=vv}:=by
          rw[Array.toList_modify];rw[List.modify_eq_set];simp[o]
        obtain⟨A,B,C⟩:=map_set t z y (Of:=a.modify i λe=>{e with key:=f,val:=vv}) (c2:=c) (by rw[q];exact s.set (i:=i) (k:=k) (v:=v) (m:=e.2.2) hk K W);refine⟨_,_,rfl,?_,B,C,.same (ju _)⟩;simp only[Instr.mapUpdate,yo,gf H,wT,run_getObj_map L,g,n,Instr.keyThatStays,o,Option.map_some,Option.getD_some,F,if_true,L9,A]
 ·cases hv
theorem Uo(n:WR Δ h w) {E v M rt:Nat} {o:Array Nat} (g:o[0]? =some E) (x:P0.underlying E=some (.map v M)) {d:Option (List Field)} (y:KM v=some d) {m k:V} {F G:Value} (H:fO Δ m F) (hk:fO Δ k G)
  {r:R} (hv:Q2 v d m k h=some r):∃h' w',r = .val (.tuple []) h'/\(Builtin.delete_ o rt #[F,G]).run P0 w = .ok (.tuple #[]) w'/\WR Δ h' w'/\FR Δ Δ w w'/\Gr h Δ h' Δ:=by
 unfold Q2 at hv;rw[hK]at hv;obtain⟨I,hv⟩:=hv;split at hv
 ·cases hv;cases H;have f:=zI (em:=true) 9999 (by omega) w y hk I;refine⟨h,w,rfl,?_,n,.refl _ _,.refl _ _⟩;simp only[Builtin.delete_,g,wBq,List.getElem?_cons_zero,wBb,yo,gf x,wT,f,L9]
 ·rename_i l;simp only[AW,ft]at hv;obtain⟨P,c,z,fr,N,hv⟩:=hv
  cases H with
  | map _ A B=>
    obtain⟨a,J,C⟩:=JW n B z;have f:=zI (em:=a.isEmpty) 9999 (by omega) w y hk I;obtain⟨q,s,e⟩:=Fh y hk w C N
    cases fr with
    | none =>
      cases hv
      cases q with
      |some _=>cases e
      | none=>
        obtain ⟨t,K,L⟩:=map_set n B z (Of:=a) (c2:=c) C;have j:({w with heap:=w.heap.setIfInBounds A.b (.map a c)}:World)=w:=by
          have:w.heap.setIfInBounds A.b (.map a c)=w.heap:=by
            apply Array.ext_getElem?;intro i;by_cases hi:A.b=i
            ·grind
            ·simp_all
          rw[this]
        rw[j]at t;refine⟨h,w,rfl,?_,n,.refl _ _,.refl _ _⟩
        simp only[Builtin.delete_,g,wBq,List.getElem?_cons_zero,wBb,yo,gf x,wT,run_getObj_map J,f,s,t,L9]
    | some p=>
      obtain⟨i,u⟩:=p;cases hv
      cases q with
      |none=>cases e
      | some O=>
        obtain ⟨Q,u'⟩:=O;obtain⟨rfl,_⟩:=e;have D:(a.eraseIdxIfInBounds i).toList=a.toList.eraseIdx i:=by
          rw[Array.eraseIdxIfInBounds_eq];split
          ·rw[Array.toList_eraseIdx]
          ·grind[List.eraseIdx_of_length_le]
        obtain⟨t,K,L⟩:=map_set n B z (Of:=a.eraseIdxIfInBounds i) (c2:=c) (by rw[D];exact C.erase);refine⟨_,_,rfl,?_,K,L,.same (ju _)⟩;simp only[Builtin.delete_,g,wBq,List.getElem?_cons_zero,wBb,yo,gf x,wT,run_getObj_map J,f,s,t,L9]
 ·cases hv
end
section
variable{Δ:Env}{h:Hp}{w:World}{n:Nat}{t:Tm}{a:Act}
theorem PQ{l off:Nat} {new:List V} {h':Hp} (hs:Gk h l off new=some h'):h'.next=h.next:=by
 unfold Gk at hs;rw[lW]at hs;obtain⟨e,sz,live,ro,cs,a,hv⟩:=hs;simp only[hK,ft]at hv;obtain⟨_,_,_,_,_,hv⟩:=hv;cases hv;rfl
theorem Vp(s:ByteArray) (m:Nat):((s.extract 0 m).data.map λb=>Value.int .u8 b.toNat)=Array.mk ((s.data.toList.take m).map λb=>Value.int .u8 b.toNat):=by
 apply Array.ext'
 simp_all
theorem Vn(Δ:Env) (l:List UInt8):gN Δ (Bz l) (l.map λb=>Value.int .u8 b.toNat):=by
 induction l with
 |nil=>exact .nil
 |cons b l a=>exact .cons _ _ _ _ (.int .u8 _) a
theorem ZJ(j:WR Δ h w) {N p size rt:Nat} {k:Array Nat} (y:k[0]? =some N) (O:P0.underlying N=some (.slice p)) (P:zR p=some size) {d s:V} {x q:Value}
  (Q:fO Δ d x) (hs:fO Δ s q) {r:R} (hv:zaa size d s h=some r) :
  ∃h' m w',r = .val (.int .i64 (.ofNat m)) h'/\(Builtin.copy_ k rt #[x,q]).run P0 w = .ok (.int .i64 m) w'/\WR Δ h' w'/\FR Δ Δ w w'/\Gr h Δ h' Δ:=by
 have a:∀(base:Option Addr) (c f:Nat) (m:Nat),x = .slice base c f->(Builtin.lenOf q).run P0 w = .ok m w->Nat.min m c=0->(Builtin.firstCells size 0 q).run P0 w = .ok #[] w->
   (Builtin.copy_ k rt #[x,q]).run P0 w = .ok (.int .i64 (0:Nat)) w:=by
  intro base c f m t A n B;subst t;have u:=xy (w:=w) P;cases base <;> simp[Builtin.copy_,y,gf O,A,n,u,B,storeCells,goInt]
 have some_:∀(base:Addr) (c f:Nat) (m:Nat) (xs:List Value) (w':World),x = .slice (some base) c f->(Builtin.lenOf q).run P0 w = .ok m w->
   (Builtin.firstCells size (Nat.min m c) q).run P0 w = .ok (Array.mk xs) w->(storeCells base xs 0).run P0 w = .ok () w'->
   (Builtin.copy_ k rt #[x,q]).run P0 w = .ok (.int .i64 (Nat.min m c:Nat)) w':=by
  intro base c f m xs w' t A B C;subst t;have u:=xy (w:=w) P;simp[Builtin.copy_,y,gf O,A,u,B,C,goInt]
 unfold zaa at hv;split at hv
 ·cases Q;split at hv
  ·cases hv;cases hs;exact⟨_,0,w,rfl,a none 0 0 0 rfl rfl rfl rfl,j,.refl _ _,.refl _ _⟩
  ·cases hv
   cases hs with
   | slice l off len cap o W v hk D E=>
     exact⟨_,0,w,rfl,a none 0 0 _ rfl rfl (Nat.min_zero _) (by simp[Builtin.firstCells,loadCells,loadCellsFrom]),j,.refl _ _,.refl _ _⟩
  ·cases hv
   cases hs with
   |str s=>exact⟨_,0,w,rfl,a none 0 0 s.size rfl rfl (Nat.min_zero _) (by simp[Builtin.firstCells]),j,.refl _ _,.refl _ _⟩
  ·cases hv
 ·rename_i l off len
  cases Q with
  | slice _ _ _ g o W v hk D E=>
    split at hv
    ·cases hv;cases hs
     exact⟨_,0,w,rfl,a _ len g 0 rfl rfl (Nat.zero_min _) rfl,j,.refl _ _,.refl _ _⟩
    ·rename_i Z S FD
     cases hs with
     | slice _ _ _ T so sd F X U G=>
       cases n:Nat.beq (min FD len) 0 with
       | true=>
         simp only[n]at hv;cases hv;have i:Nat.min FD len=0:=CI n
         exact⟨_,0,w,rfl,a _ len g FD rfl rfl i (by simp[Builtin.firstCells,loadCells,loadCellsFrom]),j,.refl _ _,.refl _ _⟩
       | false=>
         have i:0<min FD len:=Nat.pos_of_ne_zero λe=>by simp_all
         simp only[n,ft]at hv;obtain⟨cs,H,Y,z,I⟩:=hv;cases I;rcases G with⟨rfl,_,_⟩|⟨rfl,_⟩
         ·rcases E with⟨rfl,_,_⟩|⟨rfl,_⟩
          ·obtain⟨xs,c1,c2⟩:=wW j F H
           obtain⟨w',J,K,L⟩:=M3 j v c2 z;exact⟨_,_,w',rfl,some_ _ len g FD xs w' rfl rfl (by grind[Builtin.firstCells]) J,K,L,.same (wB9 (PQ z).symm)⟩
          ·omega
         ·omega
    ·rename_i b
     rw[hK]at hv;obtain⟨H,hv⟩:=hv;have M:size=1:=CI H;subst M
     cases hs with
     | str s=>
       have oV:s.data.toList.length=s.size:=by simp
       rw[oV]at hv
       cases n:Nat.beq (min s.size len) 0 with
       | true=>
         simp only[n]at hv;cases hv;have i:Nat.min s.size len=0:=CI n
         exact⟨_,0,w,rfl,a _ len g s.size rfl rfl i (by simp[Builtin.firstCells]),j,.refl _ _,.refl _ _⟩
       | false=>
         have i:0<min s.size len:=Nat.pos_of_ne_zero λe=>by simp_all
         simp only[n,ft]at hv;obtain⟨Y,z,I⟩:=hv;cases I;rcases E with⟨rfl,_,_⟩|⟨rfl,_⟩
         ·obtain⟨w',J,K,L⟩:=M3 j v (Vn Δ _) z
          refine⟨_,_,w',rfl,some_ _ len g s.size _ w' rfl rfl ?_ J,K,L,.same (wB9 (PQ z).symm)⟩;simp only[Builtin.firstCells,Vp];rfl
         ·omega
    ·cases hv
 ·cases hv
theorem Nr{d:D} {cs:List V} {c:Array Value} {e:Nat} (hs:c.size=d.XG) (a:d.base=0) (b:cs.length<=d.XG) (hc:∀(i:Nat) (v:V),cs[i]? =some v->∃x,c[i]? =some x/\fO Δ v x) :
  Ia Δ d cs (some (.cells c e (c.size,c.size+1))):=
 ⟨c,e,(c.size,c.size+1),rfl,hs,λ_=> .inr (wB9 hs.symm),by omega,λi v hi=>by rw[a,zO];exact hc i v hi⟩
theorem Ye(k:WR Δ h w) {src dst e:Nat} (hs:P0.underlying src=some .string) (m:P0.underlying dst=some (.slice e)) (n:P0.underlying e=some (.int .u8)) (s:ByteArray) :
  ∃d x w',(convert src dst (.string s)).run P0 w = .ok x w'/\Am Δ h w (.slice h.next 0 s.data.toList.length) (h.new (.cells e 1 true false (Bz s.data.toList))) d x w':=by
 have j:=run_bytes_of_string (P:=P0) w src dst e s hs m n;have c:=grownCap_ge w s.size 0 e;generalize grownCap w s.size 0 e=cap at j c;have oV:s.data.toList.length=s.size:=by simp
 have o:(Bz s.data.toList).length=s.size:=by simp[Bz]
 have f:(bytesRow s cap).size=cap:=by
  have:s.data.size=s.size:=rfl;simp[bytesRow];omega
 have a:Made Δ (.cells e 1 true false (Bz s.data.toList)) (λl=> .slice l 0 s.data.toList.length) (.cells (bytesRow s cap) e ((bytesRow s cap).size,(bytesRow s cap).size+1))
   (λb=> .slice (some ⟨b,0,none⟩) s.size cap):=by
  intro l b q;refine⟨⟨b,0,1,(Bz s.data.toList).length,cap,false,0⟩,rfl,⟨rfl,rfl,rfl,rfl,λ_=>?_⟩,?_⟩
  ·refine Nr f rfl (by simp_all) λi u hi=>?_;obtain⟨x,r,g⟩:=(Qb _ s).get i u hi;refine⟨x,?_,g⟩
   grind[kj,bytesRow,Array.getElem?_append_left]
  ·rw[oV];refine fO.slice l 0 s.size cap 0 ⟨b,0,1,(Bz s.data.toList).length,cap,false,0⟩ (Env.xD _ _ _) rfl c (.inl ⟨rfl,?_,?_⟩)
   ·simp_all
   simp_all
 obtain⟨d,a1,a2,a3,p⟩:=(k.heap (w':=w.drew) rfl).alloc a;exact⟨d,_,_,j,a2,a1,a3.drew,p⟩
theorem Zp(m:WR Δ h w) {src dst e0 e:Nat} {x:V} {y:Value} (C:fO Δ x y) (hs:P0.underlying src=some (.slice e0)) (J:P0.underlying dst=some (.slice e)) (K:P0.underlying e=some (.int .u8)) (q:src=dst)
  {r:R} (hv:Zy x h=some r):∃A h' w',r = .val A h'/\(convert src dst y).run P0 w = .ok y w'/\Am Δ h w A h' Δ y w':=by
 unfold Zy at hv;split at hv
 ·rename_i l off n;rw[lW]at hv;obtain⟨L,sz,live,ro,cs,B,hv⟩:=hv;simp only[hK]at hv;obtain⟨rfl,s,hv⟩:=hv;cases hv;have g:ro=false:=by simpa using s
  subst g
  cases C with
  | slice _ _ _ cap o d i hk t D=>
    obtain⟨p,hp,E⟩:=m.obj l d i;rw[B]at hp;cases hp;obtain⟨a1,a2,a3,u,F⟩:=E;obtain⟨c,v,fr,b1,b2,b3,G,H⟩:=F rfl;subst q;obtain rfl:e0=e:=by simp_all
    obtain ⟨lo,hi⟩:=fr;have I:d.b<w.heap.size:=m.nV l d i;have z:(w.freeze ⟨d.b,c.size,none⟩ 1).heap[d.b]? =some (.cells c v (if lo == hi then(c.size,c.size+1) else(min lo c.size,max hi (c.size+1)))):=by
      unfold World.freeze;rw[if_neg (by omega)];simp only[Array.getElem?_modify,b1,if_true,Option.map_some]
    have a:∀b,b≠d.b->(w.freeze ⟨d.b,c.size,none⟩ 1).heap[b]? =w.heap[b]?:=by
      intro b M;unfold World.freeze;rw[if_neg (by omega)];simp only[Array.getElem?_modify];rw[if_neg (by omega)]
    have j:(w.freeze ⟨d.b,c.size,none⟩ 1).heap.size=w.heap.size:=by
      unfold World.freeze;rw[if_neg (by omega)];simp
    have f:∀b,(w.freeze b 1).os=w.os/\(w.freeze b 1).tape=w.tape/\(w.freeze b 1).output=w.output:=by
      intro b;unfold World.freeze;rw[if_neg (by omega)];exact by simp_all
    refine⟨_,_,w.freeze ⟨d.b,c.size,none⟩ 1,rfl,?_,⟨.slice l off n cap o d i hk t D,?_,FR.set i u j a (f _).1 (f _).2.1 (f _).2.2,Gr.same (ju _)⟩⟩
    ·have k:(Go.shape d.b).run P0 w = .ok (some (v,c.size)) w:=by
       show Result.ok (w.shape? d.b) w=_;unfold World.shape?;rw[b1]
     simp_all[convert,yo,gf,wT,beq_self_eq_true,markStringish,run_freeze]
    ·refine m.set i B rfl u (λh=>h) ⟨a1,a2,a3,u,λ_=>⟨c,v,_,z,b2,λ_=>?_,G,H⟩⟩ j a
     grind
 ·cases hv
end
section
variable{Δ:Env}{h:Hp}{w:World}{n:Nat}{t:Tm}{a:Act}
theorem W8(f:WR Δ h w) {ty o p:Nat} (q:P0.underlying ty=some (.map o p)) {m:V} {i:Value} (j:fO Δ m i) {r:R} (hv:NK m h=some r) :
  ∃v h' e x w',r = .val v h'/\(Instr.range ty i).run P0 w = .ok x w'/\Am Δ h w v h' e x w':=by
 unfold NK at hv;split at hv
 ·cases hv;cases j
  have a:Made Δ (.iter none 0 [] 0) (λl=> .ptr l 0) (.mapIter none 0 #[] 0) (λb=> .pointer (some ⟨b,0,none⟩)):=λl b k=>
   ⟨⟨b,0,0,0,0,false,2⟩,rfl,⟨rfl,rfl,rfl,none,rfl,rfl⟩,fO.ptr l 0 ⟨b,0,0,0,0,false,2⟩ (Env.xD _ _ _)⟩
  obtain⟨e,a1,a2,a3,g⟩:=f.alloc a;exact⟨_,_,e,_,_,rfl,by simp_all[Instr.range,gf],a2,a1,a3,g⟩
 ·rename_i l;rw[AW]at hv;obtain⟨z,c,s,hv⟩:=hv;cases hv
  cases j with
  | map _ d n=>
    obtain⟨t,u,A⟩:=JW f n s
    have a:Made Δ (.iter (some l) c [] c) (λl=> .ptr l 0) (.mapIter (some d.b) c #[] c) (λb=> .pointer (some ⟨b,0,none⟩)):=λy b k=>
      ⟨⟨b,0,0,0,0,false,2⟩,rfl,⟨rfl,rfl,rfl,some d.b,rfl,d,Env.zP k _ _ n,rfl⟩,fO.ptr y 0 ⟨b,0,0,0,0,false,2⟩ (Env.xD _ _ _)⟩
    obtain⟨e,a1,a2,a3,g⟩:=f.alloc a;exact⟨_,_,e,_,_,rfl,by simp[Instr.range,gf q,run_getObj_map u],a2,a1,a3,g⟩
 ·cases hv
theorem uY{r:Nat}{m:Option Nat}{s l:Nat}{seen:Array Nat}(a:w.heap[r]? =some (.mapIter m s seen l)):(getObj r).run P0 w = .ok (.mapIter m s seen l) w:=by grind[getObj,Sem.run]
theorem UG{b:List (V×V×Nat)} {a:List MapEntry} (c:vw Δ b a) (p:Nat->Bool):vw Δ (b.filter λe=>p e.2.2) (a.filter λe=>p e.born):=by
 induction c with
 |nil=>exact .nil
 | cons k v n e b a hk hv d _ f=>
   subst d;simp only[wB0];by_cases hp:p e.born=true
   ·simp only[hp,if_true];exact .cons _ _ _ _ _ _ hk hv rfl f
   simp_all
theorem zbW{b:List (V×V×Nat)} {a:List MapEntry} (c:vw Δ b a) (p:Nat->Bool):a.all (λe=>p e.born)=b.all λe=>p e.2.2:=by
 induction c <;> grind
theorem Y6(p:WR Δ h w) {it:V} {I:Value} {ty:Nat} (hi:fO Δ it I) {r:R} (hv:Ez it h=some r) :
  ∃v h' x w',r = .val v h'/\(Instr.next I false ty).run P0 w = .ok x w'/\Am Δ h w v h' Δ x w':=by
 unfold Ez at hv;rw[yf]at hv;obtain⟨O,off,rfl,hv⟩:=hv;rw[hK,ft]at hv;obtain⟨h0,o,J,hv⟩:=hv;have B:off=0:=CI h0;subst B
 cases hi with
 | ptr _ _ d y=>
   obtain⟨o',K,M⟩:=p.obj O d y;rw[J]at K;cases K;split at hv
   ·cases hv
    obtain⟨a1,a2,a3,P,z,Q⟩:=M;subst Q;refine⟨_,_,_,w,rfl,?_,.tuple _ #[.bool false] (.one (.bool false)),p,.refl _ _,.refl _ _⟩;rw[a3];simp[Instr.next,uY z]
   ·rename_i m since seen last
    obtain ⟨a1,a2,a3,P,z,A,q,rfl⟩:=M;rw[AW]at hv;obtain⟨C,c,D,hv⟩:=hv;rw[hK]at hv;obtain⟨s,hv⟩:=hv;obtain⟨f,N,E⟩:=JW p q D;have i:(!seen.toArray.isEmpty&&!f.isEmpty&&f.all (λe=>decide (e.born >= last)))=false:=by
      have S:f.isEmpty=C.isEmpty:=by
        have:=E.length;cases C <;> cases hes:f with|mk l=>grind
      have T:f.all (λe=>decide (e.born >= last))=C.all (λe=>Nat.ble last e.2.2):=by
        rw[<-Array.all_toList];have:=zbW E (λn=>Nat.ble last n);rw[<-this];congr 1;funext e;rw[Ue];simp[Nat.ble_eq]
      have U:seen.toArray.isEmpty=seen.isEmpty:=by simp
      rw[U,S,T];simpa only[wBi]using s
    have a:=UG E (λn=>!seen.contains n);have j:(f.filter λe=>!seen.toArray.contains e.born)=Array.mk (f.toList.filter λe=>!seen.contains e.born):=by
      apply Array.ext';rw[Array.toList_filter];simp
    rw[a3];split at hv
    ·rename_i F
     cases hv;rw[F]at a;generalize (f.toList.filter λe=>!seen.contains e.born)=L at a j;cases a;refine⟨_,_,_,w,rfl,?_,.tuple _ #[.bool false] (.one (.bool false)),p,.refl _ _,.refl _ _⟩;simp only[Instr.next,yo,uY z,wT,run_getObj_map N,i,j];simp[Question.forced]
    ·rename_i e F
     rw[hK]at hv;obtain⟨t,hv⟩:=hv;cases hv;rw[F]at a;generalize (f.toList.filter λe=>!seen.contains e.born)=L at a j
     cases a with
     | cons k v nb e' _ L hk W G hs=>
       cases hs;have u:e'.born<since:=by rw[Q8]at t;rw[G];exact t
       have X:=p.nV _ _ y;have g:∀b,b≠d.b->({w with heap:=w.heap.setIfInBounds d.b (.mapIter (some A.b) since (seen++[nb]).toArray c)}:World).heap[b]? =w.heap[b]?:=by grind
       refine ⟨_,_,_,{w with heap:=w.heap.setIfInBounds d.b (.mapIter (some A.b) since (seen++[nb]).toArray c)},rfl,?_,
         .tuple _ #[.bool true,e'.key,e'.val] (.cons _ _ _ _ (.bool true) (.cons _ _ _ _ hk (.one W))),?_,FR.set y a2 (by simp) g rfl rfl rfl,.same (ju _)⟩
       ·have H:¬(e'.born >= since):=by omega
        have Y:(Array.mk [e']).filter (λx=>decide (x.born<since)) = #[e']:=by simp[u]
        have Z:(Array.mk [e']).filter (λx=>decide (x.born >= since)) = #[]:=by simp[H]
        simp only[Instr.next,yo,uY z,wT,run_getObj_map N,i,j,Y,Z]
        simp_all[Question.forced,setObj,Sem.run]
       ·refine p.set y J rfl a2 (λh=>h) ⟨a1,a2,a3,some A.b,?_,A,q,rfl⟩ (by simp) g
        simp_all
    ·cases hv
   ·cases hv
theorem zan{b:List (V×V×Nat)} {a:List MapEntry} (d:vw Δ b a) (st:Nat) {e:V×V×Nat} (c:(b.find? λe=>Nat.beq e.2.2 st)=some e) :
  ∃e',(a.find? λe=>e.born == st)=some e'/\fO Δ e.1 e'.key/\fO Δ e.2.1 e'.val:=by
 induction d with
 |nil=>cases c
 | cons k v n e0 b a hk hv f _ h=>
   subst f;simp only[List.find?_cons]at c⊢;have g:(e0.born == st)=Nat.beq e0.born st:=by rw[Ue];simp
   grind
theorem XB(p:WR Δ h w) {it:V} {q:Value} (hi:fO Δ it q) {r:R} (hv:Ur it h=some r) :
  ∃v x,r = .val v h/\(Instr.entry q).run P0 w = .ok x w/\fO Δ v x:=by
 unfold Ur at hv;rw[yf]at hv;obtain⟨t,off,rfl,hv⟩:=hv;rw[hK,ft]at hv;obtain⟨h0,o,u,hv⟩:=hv;have f:off=0:=CI h0;subst f
 cases hi with
 | ptr _ _ d y=>
   obtain⟨G,s,z⟩:=p.obj t d y;rw[u]at s;cases s;split at hv
   ·rename_i m since seen last
    obtain⟨a1,a2,a3,H,A,I,g,rfl⟩:=z;rw[AW]at hv;obtain⟨J,c,i,hv⟩:=hv;simp only[hK,ft]at hv;obtain⟨hc,st,j,e,k,hv⟩:=hv;cases hv;obtain⟨l,B,C⟩:=JW p g i;obtain⟨e',D,E,F⟩:=zan C st k;refine⟨_,.tuple #[e'.key,e'.val],rfl,?_,.tuple _ _ (.cons _ _ _ _ E (.one F))⟩;have n:c=last:=CI hc;subst n;have a:seen.toArray.back? = some st:=by rw[List.back?_toArray];exact j
    have b:(l.find? λe=>e.born == st)=some e':=by rw[<-Array.find?_toList];exact D
    rw[a3];simp only[Instr.entry,yo,uY A,wT,a,run_getObj_map B,bne_self_eq_false,RY,if_false,L9,b]
   ·cases hv
theorem ZC{f:V} {j:Value} {args:List V} {b:Array Value} {ty:Nat} {c:Go.Call} {op:Operand} (hc:c.callee = .value op) (k:a.eval op=j) (i:c.args.map a.eval=b) (m:fO Δ f j) (n:gN Δ args b.toList) {r:R}
  (hv:gi f args=some r):∃g l gS,r = .call g l/\gN Δ l gS.toList/\(do let d <-resolve a.eval c ty;invoke d.target d.args:Sem Next)=callFunc g gS:=by
 unfold gi at hv;split at hv
 ·cases hv
  cases m with
  | func _ _ _ e h o p=>
    refine⟨_,_,e++b++h,rfl,?_,?_⟩
    ·simp only[Array.toList_append,M6]
     exact o.append (n.append p)
    ·simp only[resolve,hc,k,i,Deferred.ofValue]
     rfl
 ·cases hv
theorem Vu(Y:WR Δ h w) {j:String} {r:V} {W:Value} {args:List V} {n:Array Value} {ty:Nat} {c:Go.Call} {op:Operand} (hc:c.callee = .invoke op j) (Z:a.eval op=W) (J:c.args.map a.eval=n)
  (hr:fO Δ r W) (X:gN Δ args n.toList) {x:R} (hv:RG j r args h=some x) :
  ∃g l gS,x = .call g l/\gN Δ l gS.toList/\(do let d <-resolve a.eval c ty;invoke d.target d.args:Sem Next).run P0 w=(callFunc g gS).run P0 w:=by
 unfold RG at hv;split at hv
 ·rename_i t v
  cases hr with
  | iface _ _ q K=>
    have A:(do let d <-resolve a.eval c ty;invoke d.target d.args:Sem Next)=callMethod (.iface t q) j n:=by
      simp only[resolve,hc,Z,J];show invoke (.fn (.method j) #[]) (#[.iface t q]++n)=_;have C:(#[Value.iface t q]++n)[0]? =some (.iface t q):=by
        rw[Array.getElem?_append_left (by simp)];rfl
      have D:(#[Value.iface t q]++n).extract 1 (#[Value.iface t q]++n).size=n:=by
        apply Array.ext';simp
      simp only[invoke,C,D]
    have u:∀{f:Nat} {o:Option Nat},methodOf t j=some (f,o)->∃i m b,P0.info? t=some i/\i.methods.find? (λm=>m.name == j)=some m/\m.path = #[]/\m.func=some (f,b)/\
        ((∃e,P0.underlying t=some (.pointer e)/\((b=true/\o=none)\/(b=false/\o=some e)))\/(b=false/\o=none/\∃L,P0.underlying t=some L/\∀e,L≠ .pointer e)):=by
      intro f o s;unfold methodOf at s;rw[ft]at s;obtain⟨i,hi,s⟩:=s;split at s
      ·rename_i m hf
       refine⟨i,m,?_⟩;have aa:i.methods.find? (λm=>m.name == j)=some m:=by rw[<-Array.find?_toList];exact hf
       split at s
       ·simp_all
       ·simp_all
       ·simp_all
       ·cases s
      ·cases s
    obtain⟨fuel,E⟩:∃k,P0.types.size+Made.depth=k+1:=⟨P0.types.size+99,rfl⟩
    split at hv
    ·rename_i f s
     cases hv;obtain⟨i,m,b,C,D,M,N,O⟩:=u s;refine⟨f,_,#[q]++n,rfl,by simp only[Array.toList_append];exact .cons _ _ _ _ K X,?_⟩;rw[A];have z:(receiverAt t (.val q) b (some ((j.splitOn ".").getLastD j))).run P0 w = .ok q w:=by
       rcases O with⟨e,F,⟨rfl,_⟩|⟨_,B⟩⟩|⟨rfl,_,L,F,ab⟩
       ·simp_all[receiverAt,gf,Place.get]
       ·cases B
       ·simp only[receiverAt,yo,gf F,wT]
        rfl
     have P:(method (P0.types.size+Made.depth) t q j).run P0 w = .ok (f,q) w:=by
       rw[E];simp only[method,yo,typeInfo,run_program,wT,C,L9,D,M,N,follow,z,Array.isEmpty,Array.size_empty,if_true,decide_true]
     grind[callMethod,yo,run_program,wT]
    ·rename_i f e s
     rw[ft]at hv;obtain⟨y,hy,hv⟩:=hv;cases hv;obtain⟨i,m,b,C,D,M,N,O⟩:=u s;have Q:P0.underlying t=some (.pointer e)/\b=false:=by
       rcases O with⟨e',F,⟨_,B⟩|⟨hb,B⟩⟩|⟨_,B,_⟩
       ·cases B
       ·simp_all
       ·cases B
     obtain ⟨F,rfl⟩:=Q;obtain⟨I,S,T⟩:=Ox (t:= .tree .leaf []) (xv:=q) Y (by simp_all) hy;refine⟨f,_,#[I]++n,rfl,by simp only[Array.toList_append];exact .cons _ _ _ _ T X,?_⟩;rw[A];have G:∃ad,q = .pointer (some ad):=by
       cases q with
       | pointer p=>cases p with
         |some ad=>simp_all
         |none=>simp_all[Instr.loadAt,Instr.sureAddr]
       |_=>simp_all[Instr.loadAt,Instr.sureAddr]
     obtain⟨ad,rfl⟩:=G;have U:(loadVar e ad).run P0 w = .ok I w:=by simpa[Instr.loadAt,Instr.sureAddr]using S
     have z:(receiverAt t (.val (.pointer (some ad))) false (some ((j.splitOn ".").getLastD j))).run P0 w = .ok I w:=by
       have H:∀s1 s2,(Builtin.ssaWrapNilChk_ #[t] t #[.pointer (some ad),strVal s1,strVal s2]).run P0 w = .ok (.pointer (some ad)) w:=λ_ _=>rfl;simp only[receiverAt,yo,gf F,wT,Place.get,L9,H,asAddr,U]
     have P:(method (P0.types.size+Made.depth) t (.pointer (some ad)) j).run P0 w = .ok (f,I) w:=by
       rw[E];simp only[method,yo,typeInfo,run_program,wT,C,L9,D,M,N,follow,z,Array.isEmpty,Array.size_empty,if_true,decide_true]
     grind[callMethod,yo,run_program,wT]
    ·cases hv
 ·cases hv
theorem ZR(i:WR Δ h w) (A:TR Δ n t a) {o:Oper} {r:R} (hv:(kJ o).f t h=some r) :
  (∃v h' J x w',r = .val v h'/\((execOp a.eval o).run P0 w = .ok (.value x) w'\/(x=undef/\(execOp a.eval o).run P0 w = .ok .skip w'))/\Am Δ h w v h' J x w')\/
  (∃g l gS,r = .call g l/\gN Δ l gS.toList/\(execOp a.eval o).run P0 w=(callFunc g gS).run P0 w):=by
 obtain⟨dst,op,E,pos,af,gd⟩:=o
 cases op with
 | store ty p x=>
   simp only[kJ]at hv;split at hv
   ·rename_i size V
    simp only[ft,yf,hK]at hv;obtain⟨pv,q,v,j,l,off,rfl,C,h',O,h5⟩:=hv;cases h5;obtain⟨w',r1,u,r3,K⟩:=Xi i V (lX i A q) (lX i A j) C O;exact .inl ⟨_,_,Δ,undef,w',rfl,.inr ⟨rfl,by simp_all[execOp]⟩,.undef Δ,u,r3,K⟩
   ·cases hv
 | mapUpdate ty m k x=>
   simp only[kJ]at hv;split at hv
   ·rename_i W X F
    split at hv
    ·rename_i d L
     simp only[ft]at hv;obtain⟨P,q,kv,j,xv,C,O⟩:=hv;obtain⟨h',w',rfl,r1,u,r3,K⟩:=VR i F L (lX i A q) (lX i A j) (lX i A C) O;exact .inl ⟨_,_,Δ,undef,w',rfl,.inr ⟨rfl,by simp_all[execOp]⟩,.undef Δ,u,r3,K⟩
    ·cases hv
   ·cases hv
 | insert ty m k x=>
   simp only[kJ]at hv;split at hv
   ·rename_i W X F
    split at hv
    ·rename_i d L
     simp only[ft]at hv;obtain⟨P,q,kv,j,xv,C,O⟩:=hv;obtain⟨h',w',rfl,r1,u,r3,K⟩:=VR i F L (lX i A q) (lX i A j) (lX i A C) O;exact .inl ⟨_,_,Δ,undef,w',rfl,.inr ⟨rfl,by simp_all[execOp]⟩,.undef Δ,u,r3,K⟩
    ·cases hv
   ·cases hv
 | range ty x=>
   simp only[kJ]at hv;split at hv
   ·rename_i W X F
    simp only[ft]at hv;obtain⟨P,q,j⟩:=hv;obtain⟨v,h',J,y,w',rfl,r1,u⟩:=W8 i F (lX i A q) j;exact .inl ⟨_,_,J,y,w',rfl,.inl (nM r1),u⟩
   ·cases hv
 | next x isS=>
   cases isS with
   |true=>cases hv
   | false=>
     simp only[kJ,ft]at hv;obtain⟨P,q,j⟩:=hv;obtain⟨v,h',y,w',rfl,r1,u⟩:=Y6 (ty:=E) i (lX i A q) j
     exact .inl ⟨_,_,Δ,y,w',rfl,.inl (nM r1),u⟩
 | entry x=>
   simp only[kJ,ft]at hv;obtain⟨P,q,j⟩:=hv;obtain⟨v,y,rfl,r1,u⟩:=XB i (lX i A q) j
   exact .inl ⟨_,_,Δ,y,w,rfl,.inl (nM r1),u,i,.refl _ _,.refl _ _⟩
 | convert src Q x=>
   simp only[kJ]at hv;split at hv
   ·rename_i e hs L
    split at hv
    ·rename_i N V
     simp only[ft]at hv;obtain⟨xv,q,j⟩:=hv;have S:=lX i A q;split at j
     ·cases j
      generalize hy:a.eval x=y at S
      cases S with
      | str s=>
        obtain⟨J,z,w',r1,u⟩:=Ye i hs L N s;refine .inl ⟨_,_,J,z,w',rfl,.inl (nM ?_),u⟩
        simp_all
     ·cases j
    ·cases hv
   ·rename_i e0 e hs L
    split at hv
    ·rename_i N hb
     simp only[ft]at hv;obtain⟨xv,q,j⟩:=hv;have S:=lX i A q;generalize hy:a.eval x=y at S;obtain⟨v',h',w',r1,r3,u⟩:=Zp i S (src:=src) (dst:=Q) (e0:=e0) (e:=e) hs L N (CI hb) j;refine .inl ⟨v',h',Δ,y,w',r1,.inl (nM ?_),u⟩
     simp_all
    ·cases hv
   ·cases hv
 | call c =>
   obtain⟨Y,args,G⟩:=c
   cases Y with
   | builtin b=>
     simp only[kJ]at hv
     cases b with
     | append=>
       simp only at hv;split at hv
       ·rename_i s x sT xT B D
        have T:args = #[s,x]:=by apply Array.ext';exact B
        have H:G = #[sT,xT]:=by apply Array.ext';exact D
        subst T;subst H;split at hv
        ·rename_i M e' hs F
         have I:=AY hs;split at hv
         ·rename_i size kL z N
          simp only[ft]at hv;obtain⟨sv,q,xv,j,C⟩:=hv;obtain⟨v,h',J,y,w',rfl,r1,u⟩:=Oe (ty:=E) (xT:=xT) i I F (by simp_all) N (lX i A q) (lX i A j) C;refine .inl ⟨_,_,J,y,w',rfl,.inl ?_,u⟩;simp only[execOp,resolve,List.map_toArray];exact nM r1
         ·cases hv
        ·rename_i M hs F
         have I:=AY hs;split at hv
         ·rename_i size kL z N
          simp only[ft]at hv;obtain⟨sv,q,xv,j,C⟩:=hv;obtain⟨v,h',J,y,w',rfl,r1,u⟩:=Oe (ty:=E) (xT:=xT) i I F (by simp_all) N (lX i A q) (lX i A j) C;refine .inl ⟨_,_,J,y,w',rfl,.inl ?_,u⟩;simp only[execOp,resolve,List.map_toArray];exact nM r1
         ·cases hv
        ·cases hv
       ·cases hv
     | copy =>
       simp only at hv;split at hv
       ·rename_i d s dT U B D
        have T:args = #[d,s]:=by apply Array.ext';exact B
        have H:G[0]? =some dT:=by rw[<-wBC,D];rfl
        subst T;split at hv
        ·rename_i M hs
         have I:=AY hs;split at hv
         ·rename_i size V
          simp only[ft]at hv;obtain⟨dv,q,sv,j,C⟩:=hv;obtain⟨h',m,w',rfl,r1,u,r3,K⟩:=ZJ (rt:=E) i H I V (lX i A q) (lX i A j) C;refine .inl ⟨_,_,Δ,_,w',rfl,.inl ?_,.int _ _,u,r3,K⟩;simp only[execOp,resolve,List.map_toArray];exact nM r1
         ·cases hv
        ·cases hv
       ·cases hv
     | delete=>
       simp only at hv;split at hv
       ·rename_i m k mT U B D
        have T:args = #[m,k]:=by apply Array.ext';exact B
        have H:G[0]? =some mT:=by rw[<-wBC,D];rfl
        subst T;split at hv
        ·rename_i W X F
         split at hv
         ·rename_i d L
          simp only[ft]at hv;obtain⟨P,q,kv,j,C⟩:=hv;obtain⟨h',w',rfl,r1,u,r3,K⟩:=Uo (rt:=E) i H F L (lX i A q) (lX i A j) C;refine .inl ⟨_,_,Δ,_,w',rfl,.inl ?_,.tuple _ #[] .nil,u,r3,K⟩;simp only[execOp,resolve,List.map_toArray];exact nM r1
         ·cases hv
        ·cases hv
       ·cases hv
     |_=>cases hv
   | value f=>
     simp only[kJ,ft]at hv;obtain⟨fv,q,l,j,C⟩:=hv;obtain⟨g,l,gS,rfl,r1,u⟩:=ZC (a:=a) (c:=⟨.value f,args,G⟩) (ty:=E) (args:=l) rfl rfl rfl (lX i A q) (by simpa using Cz A j) C;refine .inr ⟨g,l,gS,rfl,r1,?_⟩
     grind[execOp]
   | invoke Z m=>
     simp only[kJ,ft]at hv;obtain⟨fv,q,l,j,C⟩:=hv;obtain⟨g,l,gS,rfl,r1,u⟩:=Vu (a:=a) (c:=⟨.invoke Z m,args,G⟩) (ty:=E) i (args:=l) rfl rfl rfl (lX i A q) (by simpa using Cz A j) C
     exact .inr ⟨g,l,gS,rfl,r1,u⟩
 |_=>cases hv
end
