/- Parts. -/
import Derived.Test.YtloecllhljfidaaDoorM02
import Derived.Laws.AppendOwn
import Derived.Laws.NewFold
import Derived.Laws.IdiomStrings
set_option maxHeartbeats 4000000
namespace Go.Proofs.YtloecllhljfidaaDoor.Hx
structure Gr (h:Hp) (Δ:Env) (h':Hp) (a:Env):Prop where
 next:h.next<=h'.next
 none:∀l,Δ l = .none->l<h.next->a l = .none
theorem Gr.refl(h:Hp)(Δ:Env):Gr h Δ h Δ:=⟨jb _,by simp_all⟩
theorem Gr.trans{h h' c:Hp} {Δ e d:Env} (a:Gr h Δ h' e) (b:Gr h' e c d):Gr h Δ c d:=
 ⟨BX a.next b.next,λl g f=>b.none l (a.none l g f) (BF f a.next)⟩
theorem Gr.same{h h':Hp}{Δ:Env}(a:h.next<=h'.next):Gr h Δ h' Δ:=⟨a,by simp_all⟩
theorem Gr.set{h h':Hp} {Δ:Env} {d:D} (a:h.next<=h'.next):Gr h Δ h' (Δ.set h.next d):=
 ⟨a,by simp_all[Env.set,if_neg,Po]⟩
theorem WR.alloc{Δ:Env} {h:Hp} {w:World} (a:WR Δ h w) {ob:O} {mk:Nat->V} {c:Obj} {mv:Nat->Value} (e:Made Δ ob mk c mv) :
  ∃b,WR b (h.new ob) (w.alloc c)/\fG b (mk h.next) (mv w.heap.size)/\FR Δ b w (w.alloc c)/\Gr h Δ (h.new ob) b:=by
 obtain⟨d,hb,f,hv⟩:=e h.next w.heap.size a.EB;exact⟨Δ.set h.next d,(a.more ob).lay a.EB (Pd _) (by rw[tz,if_pos rfl]) hb f,hv,FR.lay a.EB hb,Gr.set (Qd _)⟩
theorem uB(g o e:Nat) (fr:Nat×Nat):∀(vs:List Value) (i:Nat) (cur:Array Value) (w:World),w.heap[g]? =some (.cells cur e fr)->(∀j,j<cur.size->¬(fr.1<=j/\j<fr.2))->
  o+i+vs.length<=cur.size->(∀v∈vs,v.oneCell' = true)->
  (storeCells ⟨g,o,none⟩ vs i).run P0 w = .ok () (w.setRow g (cur.toList.take (o+i)++vs++cur.toList.drop (o+i+vs.length)).toArray)
 | [],i,cur,w,hg,_,_,_=>by
   simp only[storeCells,HU,wBk,wB8,VY,Array.toArray_toList];rw[setRow_self w g cur e fr hg]
   rfl
 | v ::rest,i,cur,w,hg,hf,hl,f=>by
   have hi:o+i<cur.size:=by simp at hl;omega
   have a:w.cell? ⟨g,o+i,none⟩=some cur[o+i]:=by simp[World.cell?,hg,hi]
   have b:w.frozen? ⟨g,o+i,none⟩=false:=by
     have:=hf (o+i) hi;simp only[World.frozen?,hg];simpa using this
   have c:(store ((⟨g,o,none⟩:Addr).add i) v).run P0 w = .ok () (w.setRow g (cur.setIfInBounds (o+i) v)):=by
     rw[rl,run_store P0 w _ v _ (by simp_all),a];simp[b,setCell_eq_setRow w g (o+i) cur e fr v hg]
   have d:=uB g o e fr rest (i+1) (cur.setIfInBounds (o+i) v) (w.setRow g (cur.setIfInBounds (o+i) v)) (by grind[setRow_heap]) (by simp_all) (by grind) (by simp_all);simp only[storeCells,uG,c,tn,d,setRow_setRow];congr 3;have e:=list_seg_step cur.toList (o+i) v rest (by simp at hl⊢;omega)
   grind
theorem Tq(l vs:List Value) (k:Nat) (hk:k+vs.length<=l.length) (j:Nat) :
  (l.take k++vs++l.drop (k+vs.length))[j]? =if k<=j/\j<k+vs.length then vs[j-k]? else l[j]?:=by
 rw[Mb,List.getElem?_append,JT,wBy (by omega)]
 grind
theorem WR.set{Δ:Env} {h:Hp} {w w':World} (k:WR Δ h w) {l:Nat} {d:D} {o C:O} (F:Δ l=some d) (t:h.get l=some o) (u:o.live=true) (A:d.ro=false)
  (i:C.live=true->o.live=true) (L:PE Δ d C w'.heap[d.b]?) (G:w'.heap.size=w.heap.size) (hk:∀b,b≠d.b->w'.heap[b]? =w.heap[b]?):WR Δ (h.put l C) w' where
 fresh:=k.fresh
 vf:=λm e q=>by rw[G];exact k.vf m e q
 obj:=λm e q=>by
  by_cases he:l=m
  ·subst he;rw[F]at q;cases q;exact⟨C,by rw[oY _ _ (Hp.LO t),if_pos rfl],L⟩
  ·obtain ⟨p,v,E⟩:=k.obj m e q;refine⟨p,by simp_all[oY,Hp.LO,if_neg],?_⟩;by_cases hb:e.b=d.b
   ·have a:p.live=false:=by
     cases j:p.live with
     |false=>rfl
     |true=>exact absurd hb.symm (k.apart l m d e o p F q he t v u j (.inl A))
    cases p with
    | cells e' sz live ro cs=>
      obtain⟨a1,a2,a3,a4,_⟩:=E
      exact⟨a1,a2,a3,a4,λJ=>by simp only[O.live]at a;rw[a]at J;cases J⟩
    |map N c=>cases a
    |iter m s x c=>cases a
   simp_all
 apart:=λm H e e' p K q y r j f z n I=>by
  rw[oY _ _ (Hp.LO t)]at j f;by_cases v:l=m
  ·subst v;rw[if_pos rfl]at j;cases j;rw[if_neg r]at f;exact k.apart l H e e' o K q y r t f (i z) n I
  ·rw[if_neg v]at j;by_cases E:l=H
   ·subst E;rw[if_pos rfl]at f;cases f;exact k.apart m l e e' p o q y r j t z (i n) I
   ·rw[if_neg E]at f;exact k.apart m H e e' p K q y r j f z n I
 GI:=λg p B j=>by
  rw[oY _ _ (Hp.LO t)]at j;by_cases v:l=g
  ·subst v;exact k.GI l o B t
  ·rw[if_neg v]at j;exact k.GI g p B j
 xd:=k.xd
 Tz:=k.Tz.step (λb _ M=>hk b λe=>M ⟨l,d,F,A,e.symm⟩) (by simp_all)
theorem FR.set{Δ:Env} {w w':World} {l:Nat} {d:D} (f:Δ l=some d) (a:d.ro=false) (c:w'.heap.size=w.heap.size) (hk:∀b,b≠d.b->w'.heap[b]? =w.heap[b]?)
  (g:w'.os=w.os) (h:w'.tape=w.tape) (i:w'.output=w.output):FR Δ Δ w w':=
 ⟨Env.le_refl _,wCB c.symm,g,h,i,λb _ hb=>hk b λe=>hb ⟨l,d,f,a,e.symm⟩,by simp_all⟩
theorem WR.kill{Δ:Env} {h:Hp} {w:World} (a:WR Δ h w) {l e sz:Nat} {cs:List V} (c:h.get l=some (.cells e sz true false cs)) {d:D} (f:Δ l=some d) :
  WR Δ (h.put l (.cells e sz false false cs)) w/\(∀m d' p,m≠l->Δ m=some d'->h.get m=some p->p.live=true->d'.b≠d.b)/\d.ro=false:=by
 obtain⟨o,j,k⟩:=a.obj l d f;rw[c]at j;cases j;obtain⟨a1,a2,a3,a4,r⟩:=k;refine⟨a.set f c rfl a4 (λh=>(nomatch h)) ⟨a1,a2,a3,a4,λh=>(nomatch h)⟩ rfl (by simp_all),λm d' p g n q i=>?_,a4⟩;exact a.apart m l d' d p _ n f g q c i rfl (.inr a4)
section
variable{Δ:Env}{h:Hp}{w:World}{n:Nat}{t:Tm}{a:Act}
theorem JX(r:WR Δ h w) {l:Nat} {d:D} (m:Δ l=some d) {off:Nat} {new:List V} {Ry:List Value} (n:gj Δ new Ry) {h':Hp} (hv:CK h l off new=some h') :
  ∃w',(storeCells ⟨d.b,d.base+off,none⟩ Ry 0).run P0 w = .ok () w'/\WR Δ h' w'/\FR Δ Δ w w':=by
 unfold CK at hv;rw[km]at hv;obtain⟨e,sz,live,ro,cs,s,hv⟩:=hv;simp only[gP,fj]at hv;obtain⟨rfl,p,f,ot,hs,hv⟩:=hv;cases hv;have g:ro=false:=by simpa using p
 subst g;obtain⟨y,t,q⟩:=Iq hs;obtain⟨o,u,z⟩:=r.obj l d m;rw[s]at u;cases u;obtain⟨a1,a2,a3,a4,A⟩:=z;obtain⟨c,e',fr,b1,b2,b3,E,F⟩:=A rfl;have B:=n.length;have j:d.base+off+Ry.length<=c.size:=by omega
 have a:=uB d.b (d.base+off) e' fr Ry 0 c w b1 (by grind) (by omega) (n.zb2 f);simp only[wB8]at a;refine⟨_,a,r.set m s rfl a4 (λh=>h) ⟨a1,a2,by omega,a4,λ_=>?_⟩ (by simp) (by grind[setRow_other]),FR.set m a4 (by simp) (by grind[setRow_other]) rfl rfl rfl⟩;refine⟨_,e',fr,setRow_heap w d.b c _ e' fr b1,?_,b3,by omega,λi v hi=>?_⟩
 ·grind
 ·rw [q i]at hi;have k:=Tq c.toList Ry (d.base+off) (by simpa using j) (d.base+i);rw[wBq,k];by_cases hin:off<=i/\i<off+new.length
  ·rw[if_pos hin]at hi;rw[if_pos (by omega)];obtain⟨x,hx,C⟩:=n.get _ _ hi
   grind
  grind
end
structure xD (Δ:Env) (h:Hp) (w:World) (v:V) (h':Hp) (a:Env) (x:Value) (w':World):Prop where
 val:fG a v x
 world:WR a h' w'
 frame:FR Δ a w w'
 grow:Gr h Δ h' a
theorem WR.heap{Δ:Env} {h:Hp} {w w':World} (a:WR Δ h w) (b:w'.heap=w.heap):WR Δ h w':=
 ⟨a.fresh,λl d e=>by rw[b];exact a.vf l d e,λl d e=>by rw[b];exact a.obj l d e,a.apart,a.GI,a.xd,λg c f=>by rw[b];exact a.Tz g c f⟩
theorem WR.WB{Δ:Env} {h:Hp} {w:World} (c:WR Δ h w) {l:Nat} {o:O} {d:D} (v:Δ l=none) (y:l<h.next) (F:h.get l=some o) (hb:d.b<w.heap.size)
  (G:PE (Δ.set l d) d o w.heap[d.b]?) (z:∀m d' p,Δ m=some d'->h.get m=some p->p.live=true->d'.b≠d.b) (A:RW Δ d.b):WR (Δ.set l d) h w where
 fresh:=λm e a=>by
  rcases Env.lI a with⟨rfl,rfl⟩|⟨_,a⟩
  ·exact y
  ·exact c.fresh m e a
 vf:=λm e a=>by
  rcases Env.lI a with⟨rfl,rfl⟩|⟨_,a⟩
  ·exact hb
  ·exact c.vf m e a
 obj:=λm e a=>by
  rcases Env.lI a with⟨rfl,rfl⟩|⟨_,a⟩
  ·simp_all
  ·obtain⟨B,f,j⟩:=c.obj m e a;exact⟨B,f,j.mono (Env.wX v)⟩
 apart:=λm C e e' p E a k n q r s i t=>by
  rcases Env.lI a with⟨f,j⟩|⟨_,f⟩ <;> rcases Env.lI k with⟨x,H⟩|⟨_,x⟩
  ·omega
  ·grind
  ·grind
  ·exact c.apart m C e e' p E f x n q r s i t
 GI:=λg p u q=>by
  obtain⟨e,f,j⟩:=c.GI g p u q;exact⟨e,Env.wX v _ _ f,j⟩
 xd:=c.xd
 Tz:=c.Tz.step (by simp_all) λm e a _=>by
  rcases Env.lI a with⟨rfl,rfl⟩|⟨_,a⟩
  ·simp_all
  simp_all
theorem FR.WB{Δ:Env} {w w':World} {l:Nat} {d:D} (c:Δ l=none) (h:FR Δ Δ w w') (f:RW Δ d.b):FR Δ (Δ.set l d) w w' where
 le:=Env.wX c
 size:=h.size
 os:=h.os
 tape:=h.tape
 output:=h.output
 fe:=h.fe
 new:=λm e a=>by
  rcases Env.lI a with⟨rfl,rfl⟩|⟨_,a⟩
  ·simp_all
  simp_all
theorem FR.drew{Δ a:Env}{w w':World}(h:FR Δ a w.drew w'):FR Δ a w w':=⟨h.le,h.size,h.os,h.tape,h.output,h.fe,h.new⟩
section
variable{Δ:Env}{h:Hp}{w:World}{n:Nat}{t:Tm}{a:Act}
theorem M6(Δ:Env) (s:ByteArray):gj Δ (yW s.data.toList) (s.data.toList.map λb=>Value.int .u8 b.toNat):=by
 generalize s.data.toList=l
 induction l with
 |nil=>exact .nil
 |cons b l a=>exact .cons _ _ _ _ (.int .u8 _) a
theorem MY(g:WR Δ h w) {size:Nat} {x:V} {xv:Value} {m:Nat} {cs:List V} (hx:fG Δ x xv) (hv:kW h size x=some (m,cs)) :
  ∃a,gj Δ cs a/\(∀w',(Builtin.lenOf xv).run P0 w' = .ok m w')/\(Builtin.firstCells size m xv).run P0 w = .ok (Array.mk a) w/\a.length=m*size:=by
 unfold kW at hv;split at hv
 ·cases hv;cases hx;exact⟨[],.nil,λ_=>rfl,rfl,by simp⟩
 ·cases hv;cases hx;exact⟨[],.nil,λ_=>rfl,by simp[Builtin.firstCells,loadCells,loadCellsFrom],by simp⟩
 ·rename_i l off k;rw[fj]at hv;obtain⟨ot,b,c⟩:=hv;cases c
  cases hx with
  | slice _ _ _ cap o d i hk j n=>
    rcases n with⟨rfl,_,_⟩|⟨rfl,_⟩
    ·obtain⟨xs,q,f⟩:=tD g i b
     exact⟨xs,f,λ_=>rfl,by grind[Builtin.firstCells],by rw[<-f.length,QH b];rfl⟩
    omega
 ·rename_i s;rw[gP]at hv;obtain⟨b,c⟩:=hv;cases c;have e:size=1:=zB b;subst e
  cases hx with
  | str s=>
    refine ⟨_,M6 Δ s,by simp_all[Builtin.lenOf],?_,by simp⟩;have p:s.extract 0 s.size=s:=by
      rw[ByteArray.ext_iff];simp
    simp only[Builtin.firstCells];have:s.data.toList.length=s.size:=by simp
    rw[this,p];simp only[Jh];congr 1
    grind
 ·cases hv
theorem p8{n xT ty e:Nat} {j:TypeDesc} (hs:P0.underlying n=some (.slice e)) (hx:P0.underlying xT=some j) (hi:∀k,j≠ .int k) {size:Nat} (o:wZ e=some size)
  {base:Option Addr} {a c m:Nat} {x:Value} (hlen:(Builtin.lenOf x).run P0 w = .ok m w) {f:List Value} (g:(Builtin.firstCells size m x).run P0 w = .ok (Array.mk f) w)
  (d:a+m<=c) {w':World} (l:∀b,base=some b->(storeCells (b.add (a*size)) f 0).run P0 w = .ok () w') (p:base=none->w' = w) :
  (Builtin.append_ #[n,xT] ty #[.slice base a c,x]).run P0 w = .ok (.slice base (a+m) c) w':=by
 have h:=tv (w:=w) o;have i:(match (generalizing:=false) j with| .int _=>true|_=>false)=false:=by cases j <;> first|rfl|simp_all
 cases base with
 | none=>
   cases p rfl
   simp[Builtin.append_,fN hs,fN hx,h,i,hlen,d,g]
 |some b=>simp[Builtin.append_,fN hs,fN hx,h,i,hlen,d,g,l b rfl]
theorem IU{A xT ty c:Nat} {q:TypeDesc} (hs:P0.underlying A=some (.slice c)) (hx:P0.underlying xT=some q) (hi:∀k,q≠ .int k) {size kj:Nat} {z:V}
  (E:elemOf c=some (size,kj,z)) {base:Option Addr} {a b m:Nat} {x:Value} (hlen:(Builtin.lenOf x).run P0 w = .ok m w) {d e:List Value}
  (f:(Builtin.firstCells size a (.slice base a b)).run P0 w.drew = .ok (Array.mk d) w.drew)
  (g:(Builtin.firstCells size m x).run P0 w.drew = .ok (Array.mk e) w.drew) (F:¬a+m<=b) (hb:(a+m)*kj<=70368744177664) (M:a+m<=70368744177664) :
  ∃B,B.size=size/\(Builtin.append_ #[A,xT] ty #[.slice base a b,x]).run P0 w = .ok (.slice (some ⟨w.heap.size,0,none⟩) (a+m) (grownCap w (a+m) b c))
   (w.drew.alloc (.cells (Array.mk d++Array.mk e++Builtin.zeroCells B (grownCap w (a+m) b c-(a+m))) c)):=by
 obtain⟨r,h,s,C,G,_⟩:=Ew E;obtain⟨H,I,l,i,j,t⟩:=yk s;have u:(match (generalizing:=false) q with| .int _=>true|_=>false)=false:=by cases q <;> first|rfl|simp_all
 have J:i.bytes=kj:=by
  unfold YY at h;rw[fj]at h;obtain⟨K,n,v⟩:=h;rw[j]at n;cases n;simpa using v
 have y:i.size=size:=by
  obtain⟨K,n,v⟩:=BU r;rw[j]at n;cases n;exact v
 have D:Builtin.nextslicecap (a+m) b*i.bytes<=281474976710656:=growslice_fits (by omega) (by grind);have o:¬(281474976710656<Builtin.nextslicecap (a+m) b*i.bytes):=by omega
 have p:¬(9223372036854775807<((a:Int)+(m:Int))):=by omega
 have L:=(l λ_=>none).cells.length;refine⟨H.cells,by simp_all,?_⟩;rw[<-y]at f g;have hq:(Question.appendCap (a+m) b c).forced=false:=rfl;simp[Builtin.append_,fN hs,fN hx,sizeOf,typeInfo,zeroValue,j,t,u,hlen,F,p,o,hq,f,g,newRow,grownCap]
 grind
theorem LW(E : WR Δ h w) {sT xT ty f:Nat} {dx:TypeDesc} (hs:P0.underlying sT=some (.slice f)) (hx:P0.underlying xT=some dx) (hi:∀k,dx≠ .int k) {size kj:Nat} {z:V}
    (hz:elemOf f=some (size,kj,z)) {s x:V} {sv xv:Value} (M:fG Δ s sv) (ai:fG Δ x xv) {r:R} (hv:eR f size kj s x h=some r) :
    ∃v h' N y w',r = .val v h'/\(Builtin.append_ #[sT,xT] ty #[sv,xv]).run P0 w = .ok y w'/\xD Δ h w v h' N y w':=by
  obtain⟨O,aV,aW,Q,aX,_⟩:=Ew hz;unfold eR at hv;rw[fj]at hv;obtain⟨⟨m,cs⟩,h1,q⟩:=hv;obtain⟨n,n1,n2,n3,n4⟩:=MY E ai h1;have aw:WR Δ h w.drew:=E.heap rfl;obtain⟨H,d1,d2,d3,d4⟩:=MY aw ai h1;have aj:cs.length=m*size:=by rw[n1.length,n4]
  cases hm:Nat.beq m 0 with
  | true=>
    have X:m=0:=zB hm;subst X;simp only[hm]at q;have ax:n=[]:=wBB (by simpa using n4);subst ax;split at q
    ·cases q;cases M
     exact⟨_,_,Δ,_,w,rfl,p8 hs hx hi O (n2 w) n3 (jb _) (λb hb=>by cases hb) (λ_=>rfl),.ee,E,.refl _ _,.refl _ _⟩
    ·cases q
     cases M with
     | slice l off len cap o d G hk I ho=>
       exact⟨_,_,Δ,_,w,rfl,p8 hs hx hi O (n2 w) n3 I (λb hb=>rfl) (λ_=>rfl),.slice _ _ _ cap o d G hk I ho,E,.refl _ _,.refl _ _⟩
    ·cases q
  | false =>
    have X:0<m:=Nat.pos_of_ne_zero λe=>by rw[e]at hm;cases hm
    simp only[hm,gP]at q;obtain⟨S,q⟩:=q
    have fresh:∀(base:Option Addr) (a t:Nat) (g:List Value) (uH:List V) (h0:Hp),sv = .slice base a t->gj Δ uH g->g.length=a*size->
        (Builtin.firstCells size a (.slice base a t)).run P0 w.drew = .ok (Array.mk g) w.drew->¬a+m<=t->(a+m)*kj<=70368744177664->a+m<=70368744177664->
        WR Δ h0 w->h0.next=h.next->
        ∃N y w',(Builtin.append_ #[sT,xT] ty #[sv,xv]).run P0 w = .ok y w'/\xD Δ h w (.slice h.next 0 (a+m)) (h0.new (.cells f size true false (uH++cs))) N y w':=by
      intro base a t g uH h0 ak T J A Y hb ay aA wc;obtain⟨zc,aB,hr⟩:=IU (ty:=ty) hs hx hi hz (n2 w) A d3 Y hb ay;have K:=grownCap_ge w (a+m) t f;generalize grownCap w (a+m) t f=nc at hr K
      have Z:Made Δ (.cells f size true false (uH++cs)) (λl=> .slice l 0 (a+m)) (.cells (Array.mk g++Array.mk H++Builtin.zeroCells zc (nc-(a+m))) f)
          (λb=> .slice (some ⟨b,0,none⟩) (a+m) nc):=by
        intro l b hn;have I:=Env.wX (d:=⟨b,0,size,(uH++cs).length,nc*size,false,0⟩) hn;have al:=T.append d1;have hlen:(uH++cs).length=(a+m)*size:=by rw[KC,T.length,J,aj,VQ]
        have aR:(a+m)*size<=nc*size:=wBw _ K;refine⟨⟨b,0,size,(uH++cs).length,nc*size,false,0⟩,rfl,⟨rfl,rfl,rfl,rfl,λ_=>?_⟩,?_⟩
        ·refine zx ?_ rfl (by show(uH++cs).length<=nc*size;omega) λi u B=>?_
         ·show(Array.mk g++Array.mk H++Builtin.zeroCells zc (nc-(a+m))).size=nc*size
          simp only[Array.size_append,List.size_toArray,size_zeroCells,aB,J,d4];rw[<-VQ,<-VQ];congr 1;omega
         ·obtain⟨y,hy,aC⟩:=al.get i u B
          refine⟨y,?_,aC.mono I⟩
          grind
        ·refine fG.slice l 0 (a+m) nc 0 _ (Env.uc _ _ _) rfl K (.inl ⟨rfl,?_,?_⟩)
         ·simp_all
         ·show 0+0+nc*size<=nc*size;omega
      obtain⟨N,a1,a2,a3,a4⟩:=(aA.heap (w':=w.drew) rfl).alloc Z;have aD:Gr h Δ (h0.new (.cells f size true false (uH++cs))) N:=⟨by rw[<-wc];exact a4.next,λl hl F=>a4.none l hl (by rw[wc];exact F)⟩
      rw[wc]at a2;exact⟨N,_,_,ak▸hr,a2,a1,a3.drew,aD⟩
    split at q
    ·simp only[gP]at q
     obtain⟨h3,h4,h5⟩:=q;cases h5;cases M;have P:m*kj<=70368744177664:=Jz h3;have aa:m<=70368744177664:=Jz h4;obtain⟨N,y,w',b1,b2⟩:=fresh none 0 0 [] [] h rfl .nil (by simp) rfl (by omega) (by simpa using P) (by simpa using aa) E rfl
     grind
    ·rename_i l off len
     rw[km]at q;obtain⟨e,sz,live,ro,all,Y,q⟩:=q;simp only[gP]at q;obtain⟨rfl,aE,am,q⟩:=q;have ab:sz=size:=zB am;subst ab;have an:ro=false:=by simpa using aE
     subst an
     cases M with
     | slice _ _ _ cap o d G hk I ho=>
       obtain⟨ob,ao,hr⟩:=E.obj l d G;rw[Y]at ao;cases ao;obtain⟨a1,a2,a3,a4,a5⟩:=hr;obtain⟨c,e',fr,b1,b2,b3,b5,b4⟩:=a5 rfl;rw[a2]at ho;have ap:(len+m)*sz=len*sz+m*sz:=VQ _ _ _;have aY:0<m*sz:=Nat.mul_pos X Q
       cases hin:Nat.ble (Nat.add off (Nat.mul (Nat.add len m) sz)) all.length with
       | true =>
         simp only[hin,fj]at q;obtain⟨ot,h3,h4⟩:=q;cases h4;have aS:off+(len+m)*sz<=all.length:=Jz hin;rcases ho with⟨rfl,L,aq⟩|⟨rfl,L⟩
         ·have j:len+m<=cap:=by
            rcases Re cap (len+m)with F|K
            ·exfalso
             have:cap*sz<(len+m)*sz:=Nat.mul_lt_mul_of_pos_right F Q;omega
            ·exact K
          have aF:CK h l (off+len*sz) cs=some (h.put l (.cells e sz true false ot)):=by
            unfold CK;rw[km];refine⟨e,sz,true,false,all,Y,?_⟩;simp only[gP,fj];exact⟨trivial,rfl,S,ot,h3,rfl⟩
          obtain⟨w',c1,c2,c3⟩:=JX E G n1 aF;refine⟨_,_,Δ,_,w',rfl,p8 hs hx hi O (n2 w) n3 j (λb hb=>?_) (λhb=>by cases hb),?_,c2,c3,.same (jb _)⟩
          ·cases hb
           rw[rl,Nat.add_assoc];exact c1
          ·exact .slice l off (len+m) cap _ d G hk j (by simp_all)
         ·exfalso;omega
       | false =>
         simp only[hin,fj,gP]at q;obtain⟨uH,h3,aG,h4,h5,h6⟩:=q;cases h6;have aa:(len+m)*kj<=70368744177664:=Jz h4;have aH:len+m<=70368744177664:=Jz h5;have P:sub all off (len*sz)=some uH:=h3;obtain⟨ac,aI⟩:=sub_eq P;obtain⟨aJ,aZ,_⟩:=E.kill Y G;have a6:ET h l off (len*sz)=some uH:=by
           unfold ET;rw[km];exact⟨e,sz,true,false,all,Y,by rw[gP];exact⟨rfl,P⟩⟩
         by_cases j:len+m<=cap
         ·rcases ho with⟨rfl,L,aq⟩|⟨rfl,L⟩
          ·have aT : (len+m)*sz<=cap*sz:=wBw _ j
           have U:d.base+off+len*sz+n.length<=c.size:=by rw[n4];omega
           have A:=uB d.b (d.base+off+len*sz) e' fr n 0 c w b1 (by grind) (by simpa using U) (n1.zb2 S);simp only[wB8]at A;have ae:d.base+off+len*sz+n.length<=c.toList.length:=by simpa using U
           generalize hw':w.setRow d.b (c.toList.take (d.base+off+len*sz)++n++c.toList.drop (d.base+off+len*sz+n.length)).toArray=w' at A;have C:w'.heap.size=w.heap.size:=by rw[<-hw'];simp
           have D:∀b,b≠d.b->w'.heap[b]? =w.heap[b]?:=by grind[setRow_other]
           have ar:w'.heap[d.b]? =some (.cells (c.toList.take (d.base+off+len*sz)++n++c.toList.drop (d.base+off+len*sz+n.length)).toArray e' fr):=by
             rw[<-hw'];exact setRow_heap w d.b c _ e' fr b1
           have au:WR Δ (h.put l (.cells e sz false false all)) w':=E.set G Y rfl a4 (λh=>(nomatch h)) ⟨a1,a2,a3,a4,λh=>(nomatch h)⟩ C D;have aK:FR Δ Δ w w':=FR.set G a4 C D (by rw[<-hw'];rfl) (by rw[<-hw'];rfl) (by rw[<-hw'];rfl);have hn:=E.EB;have a7:(uH++cs).length=(len+m)*sz:=by rw[KC,ac,aj,ap]
           have W:=Env.wX (d:=⟨d.b,d.base+off,sz,(uH++cs).length,d.Vw,false,0⟩) hn
           refine ⟨_,_,Δ.set h.next ⟨d.b,d.base+off,sz,(uH++cs).length,d.Vw,false,0⟩,_,w',rfl,
             p8 hs hx hi O (n2 w) n3 j (λb hb=>?_) (λhb=>by cases hb),?_,?_,aK.WB hn ⟨l,d,G,a4,rfl⟩,Gr.set (Qd _)⟩
           ·cases hb
            rw[rl];exact A
           ·refine .slice h.next 0 (len+m) cap (d.base+off) ⟨d.b,d.base+off,sz,(uH++cs).length,d.Vw,false,0⟩ (Env.uc _ _ _) rfl j (.inl ⟨rfl,?_,?_⟩)
            ·simp_all
            omega
           ·refine (au.more (.cells f sz true false (uH++cs))).WB (o:= .cells f sz true false (uH++cs)) (d:=⟨d.b,d.base+off,sz,(uH++cs).length,d.Vw,false,0⟩) hn (Pd _) (by rw[tz];exact if_pos rfl) (by rw[C];exact E.vf l d G) ⟨rfl,rfl,rfl,rfl,λ_=>?_⟩ (λm' d' p aL hp aM=>?_) ⟨l,d,G,a4,rfl⟩
            ·refine ⟨_,e',fr,ar,?_,λ_=>b3 a4,?_,λi v B=>?_⟩
             ·grind
             ·grind
             ·show ∃x,(List.toArray _)[d.base+off+i]? =some x/\_
              rw[wBq,Tq c.toList n _ ae];rw[List.getElem?_append]at B;by_cases F:i<uH.length
              ·rw[if_pos F,aI i (by omega)]at B
               obtain⟨x,ag,ah⟩:=b4 _ _ B;rw[if_neg (by omega)];exact⟨x,by rw[Yk,Nat.add_assoc];exact ag,ah.mono W⟩
              ·rw[if_neg F]at B
               obtain⟨x,ag,ah⟩:=n1.get _ _ B;have aU:=(jk.1 B).1;rw[if_pos (by omega)];refine⟨x,?_,ah.mono W⟩;rw[<-ag];congr 1;omega
            ·have aN:h.next≠m':=Nat.ne_of_gt (E.fresh _ _ aL)
             rw[tz]at hp;rw[if_neg (by exact aN)]at hp;rw[oY _ _ (E.fresh _ _ G)]at hp;by_cases he:l=m'
             ·subst he
              rw[if_pos rfl]at hp;cases hp;cases aM
             grind
          ·exfalso;omega
         ·have aO:∃g,gj Δ uH g/\(Builtin.firstCells sz len (.slice (some ⟨d.b,o,none⟩) len cap)).run P0 w.drew = .ok (Array.mk g) w.drew:=by
            rcases ho with⟨rfl,L,aq⟩|⟨rfl,L⟩
            ·grind[tD,Builtin.firstCells]
            ·have aP:len=0:=by omega
             subst aP;have aQ:uH=[]:=wBB (by rw[ac];simp);subst aQ;exact⟨[],.nil,by simp[Builtin.firstCells,loadCells,loadCellsFrom]⟩
          obtain⟨g,c1,c2⟩:=aO;obtain⟨N,y,w',e1,e2⟩:=fresh _ len cap g uH (h.put l (.cells e sz false false all)) rfl c1 (by rw[<-c1.length,ac]) c2 j aa aH aJ rfl;exact⟨_,_,N,y,w',rfl,e1,e2⟩
    ·cases q
end
section
variable{Δ:Env}{h:Hp}{w:World}{n:Nat}{t:Tm}{a:Act}
theorem Vg(c:WR Δ h w) {ty size:Nat} (k:wZ ty=some size) {l off:Nat} {v:V} {pv xv:Value} (f:fG Δ (.ptr l off) pv) (hx:fG Δ v xv)
  (hlen:Nat.beq v.cells.length size=true) {h':Hp} (hs:CK h l off v.cells=some h') :
  ∃w',(Instr.storeAt ty pv xv).run P0 w = .ok () w'/\WR Δ h' w'/\FR Δ Δ w w'/\Gr h Δ h' Δ:=by
 cases f with
 | ptr _ _ d g=>
   have hc:=hx.cells;obtain⟨w',m,i,j⟩:=JX c g hc hs;have n:=zB hlen;have a:=hc.length;simp only[Yg]at a;have b:h'.next=h.next:=by
     unfold CK at hs;rw[km]at hs;obtain⟨e,sz,live,ro,cs,o,hv⟩:=hs;simp only[gP,fj]at hv;obtain⟨_,_,_,_,_,hv⟩:=hv;cases hv;rfl
   refine⟨w',?_,i,j,.same (wCB b.symm)⟩
   simp_all[Instr.storeAt,Instr.sureAddr,storeVar,tv]
theorem rK.length{b:List (V×V×Nat)} {a:List MapEntry} (h:rK Δ b a):b.length=a.length:=by
 induction h <;> grind
theorem rK.get{b:List (V×V×Nat)} {a:List MapEntry} (h:rK Δ b a) {i:Nat} {e:V×V×Nat} (hi:b[i]? =some e) :
  ∃e',a[i]? =some e'/\fG Δ e.1 e'.key/\fG Δ e.2.1 e'.val/\e'.born=e.2.2:=by
 induction h generalizing i <;> grind
theorem rK.set{b:List (V×V×Nat)} {a:List MapEntry} (h:rK Δ b a) {i:Nat} {k v:V} {m:Nat} {e':MapEntry} (hk:fG Δ k e'.key) (hv:fG Δ v e'.val) (hb:e'.born=m) :
  rK Δ (b.set i (k,v,m)) (a.set i e'):=by
 induction h generalizing i with
 |nil=>exact .nil
 | cons k0 g n e0 b a c d e hs f=>
   cases i with
   |zero=>exact .cons _ _ _ _ _ _ hk hv hb hs
   |succ i=>exact .cons _ _ _ _ _ _ c d e f
theorem rK.snoc{b:List (V×V×Nat)} {a:List MapEntry} (h:rK Δ b a) {k v:V} {m:Nat} {e':MapEntry} (hk:fG Δ k e'.key) (hv:fG Δ v e'.val) (hb:e'.born=m) :
  rK Δ (b++[(k,v,m)]) (a++[e']):=by
 induction h with
 |nil=>exact .cons _ _ _ _ _ _ hk hv hb .nil
 |cons k0 g n e0 b a c d e hs f=>exact .cons _ _ _ _ _ _ c d e f
theorem rK.erase{b:List (V×V×Nat)} {a:List MapEntry} (h:rK Δ b a) {i:Nat}:rK Δ (b.eraseIdx i) (a.eraseIdx i):=by
 induction h generalizing i with
 |nil=>exact .nil
 | cons k0 g n e0 b a c d e hs f=>
   cases i with
   |zero=>exact hs
   |succ i=>exact .cons _ _ _ _ _ _ c d e f
theorem FB{k:V} {x y:Value} (m:Nat) (c:HO k=true) (hx:fG Δ k x) (b:fG Δ k y):Instr.sameBits m x y=true:=by
 cases k <;> simp[HO]at c
 ·cases hx;cases b;grind[Instr.sameBits]
 ·cases hx;cases b;grind[Instr.sameBits]
 ·rename_i s
  cases hx with
  | str a=>
    generalize hs:a.data.toList=l at b
    cases b with
    | str d=>
      have:a=d:=by
        rw[ByteArray.ext_iff];exact Array.ext' hs
      subst this;have hb:(a == a)=true:=by show(a.data == a.data)=true;simp
      grind[Instr.sameBits]
theorem Wr(m:Nat) {cs:List V} {xs ys:List Value} (e:cs.all HO=true) (hx:gj Δ cs xs) (a:gj Δ cs ys):xs.length=ys.length/\(xs.zip ys).all (λp=>Instr.sameBits m p.1 p.2)=true:=by
 induction cs generalizing xs ys with
 |nil=>cases hx;cases a;simp_all
 | cons c cs f=>
   cases hx with
   | cons _ x _ xs hx b=>
     cases a with
     | cons _ y _ ys a d=>
       simp only[Y9,uF]at e;obtain⟨g,h⟩:=f e.2 b d;exact⟨by simp[g],by simp only[List.zip_cons_cons,Y9,uF];grind[FB]⟩
theorem JO{k:V} {x y:Value} (m:Nat) (b:Ir k=true) (hx:fG Δ k x) (a:fG Δ k y):Instr.sameBits (m+1) x y=true:=by
 cases k with
 | agg cs=>
   cases hx with|agg _ xs hx=>cases a with|agg _ ys a=>
   obtain⟨c,d⟩:=Wr m b hx a
   simp_all[Instr.sameBits,uF]
 |_=>grind[FB,Ir]
theorem map_set(g:WR Δ h w) {l:Nat} {d:D} (f:Δ l=some d) {k e:List (V×V×Nat)} {c c2:Nat} (i:h.get l=some (.map k c)) {L0:Array MapEntry} (m:rK Δ e L0.toList) :
  (setObj d.b (.map L0 c2)).run P0 w = .ok () {w with heap:=w.heap.setIfInBounds d.b (.map L0 c2)}/\
  WR Δ (h.put l (.map e c2)) {w with heap:=w.heap.setIfInBounds d.b (.map L0 c2)}/\FR Δ Δ w {w with heap:=w.heap.setIfInBounds d.b (.map L0 c2)}:=by
 obtain⟨o,j,n⟩:=g.obj l d f;rw[i]at j;cases j;obtain⟨a1,a2,a3,p,r,s⟩:=n;have q:=g.vf l d f;have a:∀b,b≠d.b->({w with heap:=w.heap.setIfInBounds d.b (.map L0 c2)}:World).heap[b]? =w.heap[b]?:=by grind
 refine⟨by grind[setObj,Sem.run],g.set f i rfl a2 (λh=>h) ⟨a1,a2,a3,L0,?_,m⟩ (by simp) a,FR.set f a2 (by simp) a rfl rfl rfl⟩
 simp_all
theorem Ub(t:WR Δ h w) {G x J:Nat} (H:P0.underlying G=some (.map x J)) {d:Option (List Field)} (I:GA x=some d) {m k v:V} {mv kv vv:Value} (K:fG Δ m mv) (hk:fG Δ k kv) (hx:fG Δ v vv)
  {r:R} (hv:G2 x d m k v h=some r):∃h' w',r = .val .undef h'/\(Instr.mapUpdate G mv kv vv).run P0 w = .ok () w'/\WR Δ h' w'/\FR Δ Δ w w'/\Gr h Δ h' Δ:=by
 unfold G2 at hv;rw[gP]at hv;obtain⟨L,hv⟩:=hv;split at hv
 ·rename_i l;simp only[yK,fj]at hv;obtain⟨T,c,y,ob,f,hv⟩:=hv;cases hv
  cases K with
  | map _ U z=>
    obtain⟨a,hb,s⟩:=FI t z y;have g:=wM (em:=false) 9999 (by omega) w I hk L;unfold Ih at f;rw[fj]at f;obtain⟨fr,M,f⟩:=f;obtain⟨j,n,b⟩:=Be I hk w s M
    cases fr with
    | none=>
      cases f
      cases j with
      |some _=>cases b
      | none=>
        obtain⟨A,B,C⟩:=map_set t z y (L0:=a.push {key:=kv,val:=vv,born:=c}) (c2:=c+1) (by rw[Array.toList_push];exact s.snoc (m:=c) hk hx rfl);refine⟨_,_,rfl,?_,B,C,.same (jb _)⟩
        simp only[Instr.mapUpdate,uG,fN H,tn,run_getObj_map hb,g,n,A]
    | some p=>
      obtain⟨i,u⟩:=p;simp only[fj,gP]at f;obtain⟨e,D,E,N,f⟩:=f;cases f
      cases j with
      |none=>cases b
      | some O=>
        obtain⟨W,u'⟩:=O;obtain⟨rfl,_⟩:=b;obtain⟨e',P,Q,X,S⟩:=s.get D;rw[V.eq_of_beq _ _ E]at Q;have F:Instr.sameBits 10000 e'.key kv=true:=by grind[JO]
        have o:a[i]? =some e':=by simpa using P
        have q:(a.modify i λe=>{e with key:=kv,val:=vv}).toList=a.toList.set i {e' with key:=kv,val:=vv}:=by
          rw[Array.toList_modify];rw[List.modify_eq_set];simp[o]
        obtain⟨A,B,C⟩:=map_set t z y (L0:=a.modify i λe=>{e with key:=kv,val:=vv}) (c2:=c) (by rw[q];exact s.set (i:=i) (k:=k) (v:=v) (m:=e.2.2) hk hx S);refine⟨_,_,rfl,?_,B,C,.same (jb _)⟩;simp only[Instr.mapUpdate,uG,fN H,tn,run_getObj_map hb,g,n,Instr.keyThatStays,o,Option.map_some,Option.getD_some,F,if_true,Jh,A]
 ·cases hv
theorem RR(n:WR Δ h w) {E v J rt:Nat} {o:Array Nat} (g:o[0]? =some E) (x:P0.underlying E=some (.map v J)) {d:Option (List Field)} (y:GA v=some d) {m k:V} {mv kv:Value} (F:fG Δ m mv) (hk:fG Δ k kv)
  {r:R} (hv:zw v d m k h=some r):∃h' w',r = .val (.tuple []) h'/\(Builtin.delete_ o rt #[mv,kv]).run P0 w = .ok (.tuple #[]) w'/\WR Δ h' w'/\FR Δ Δ w w'/\Gr h Δ h' Δ:=by
 unfold zw at hv;rw[gP]at hv;obtain⟨G,hv⟩:=hv;split at hv
 ·cases hv;cases F;have f:=wM (em:=true) 9999 (by omega) w y hk G;refine⟨h,w,rfl,?_,n,.refl _ _,.refl _ _⟩;simp only[Builtin.delete_,g,wBq,List.getElem?_cons_zero,wBc,uG,fN x,tn,f,Jh]
 ·rename_i l;simp only[yK,fj]at hv;obtain⟨M,c,z,fr,K,hv⟩:=hv
  cases F with
  | map _ A B=>
    obtain⟨a,hb,C⟩:=FI n B z;have f:=wM (em:=a.isEmpty) 9999 (by omega) w y hk G;obtain⟨q,s,e⟩:=Be y hk w C K
    cases fr with
    | none =>
      cases hv
      cases q with
      |some _=>cases e
      | none=>
        obtain ⟨t,H,I⟩:=map_set n B z (L0:=a) (c2:=c) C;have j:({w with heap:=w.heap.setIfInBounds A.b (.map a c)}:World)=w:=by
          have:w.heap.setIfInBounds A.b (.map a c)=w.heap:=by
            apply Array.ext_getElem?;intro i;by_cases hi:A.b=i
            ·grind
            ·simp_all
          rw[this]
        rw[j]at t;refine⟨h,w,rfl,?_,n,.refl _ _,.refl _ _⟩
        simp only[Builtin.delete_,g,wBq,List.getElem?_cons_zero,wBc,uG,fN x,tn,run_getObj_map hb,f,s,t,Jh]
    | some p=>
      obtain⟨i,u⟩:=p;cases hv
      cases q with
      |none=>cases e
      | some L=>
        obtain ⟨N,u'⟩:=L;obtain⟨rfl,_⟩:=e;have D:(a.eraseIdxIfInBounds i).toList=a.toList.eraseIdx i:=by
          rw[Array.eraseIdxIfInBounds_eq];split
          ·rw[Array.toList_eraseIdx]
          ·grind[List.eraseIdx_of_length_le]
        obtain⟨t,H,I⟩:=map_set n B z (L0:=a.eraseIdxIfInBounds i) (c2:=c) (by rw[D];exact C.erase);refine⟨_,_,rfl,?_,H,I,.same (jb _)⟩;simp only[Builtin.delete_,g,wBq,List.getElem?_cons_zero,wBc,uG,fN x,tn,run_getObj_map hb,f,s,t,Jh]
 ·cases hv
end
section
variable{Δ:Env}{h:Hp}{w:World}{n:Nat}{t:Tm}{a:Act}
theorem MV{l off:Nat} {new:List V} {h':Hp} (hs:CK h l off new=some h'):h'.next=h.next:=by
 unfold CK at hs;rw[km]at hs;obtain⟨e,sz,live,ro,cs,a,hv⟩:=hs;simp only[gP,fj]at hv;obtain⟨_,_,_,_,_,hv⟩:=hv;cases hv;rfl
theorem Sd(s:ByteArray) (m:Nat):((s.extract 0 m).data.map λb=>Value.int .u8 b.toNat)=Array.mk ((s.data.toList.take m).map λb=>Value.int .u8 b.toNat):=by
 apply Array.ext'
 simp_all
theorem RG(Δ:Env) (l:List UInt8):gj Δ (yW l) (l.map λb=>Value.int .u8 b.toNat):=by
 induction l with
 |nil=>exact .nil
 |cons b l a=>exact .cons _ _ _ _ (.int .u8 _) a
theorem Wx(j:WR Δ h w) {N p size rt:Nat} {k:Array Nat} (x:k[0]? =some N) (O:P0.underlying N=some (.slice p)) (P:wZ p=some size) {d s:V} {v sv:Value}
  (Q:fG Δ d v) (hs:fG Δ s sv) {r:R} (hv:V3 size d s h=some r) :
  ∃h' m w',r = .val (.int .i64 (.ofNat m)) h'/\(Builtin.copy_ k rt #[v,sv]).run P0 w = .ok (.int .i64 m) w'/\WR Δ h' w'/\FR Δ Δ w w'/\Gr h Δ h' Δ:=by
 have a:∀(base:Option Addr) (c f:Nat) (m:Nat),v = .slice base c f->(Builtin.lenOf sv).run P0 w = .ok m w->Nat.min m c=0->(Builtin.firstCells size 0 sv).run P0 w = .ok #[] w->
   (Builtin.copy_ k rt #[v,sv]).run P0 w = .ok (.int .i64 (0:Nat)) w:=by
  intro base c f m q z n A;subst q;have t:=tv (w:=w) P;cases base <;> simp[Builtin.copy_,x,fN O,z,n,t,A,storeCells,goInt]
 have some_:∀(base:Addr) (c f:Nat) (m:Nat) (xs:List Value) (w':World),v = .slice (some base) c f->(Builtin.lenOf sv).run P0 w = .ok m w->
   (Builtin.firstCells size (Nat.min m c) sv).run P0 w = .ok (Array.mk xs) w->(storeCells base xs 0).run P0 w = .ok () w'->
   (Builtin.copy_ k rt #[v,sv]).run P0 w = .ok (.int .i64 (Nat.min m c:Nat)) w':=by
  intro base c f m xs w' q z A B;subst q;have t:=tv (w:=w) P;simp[Builtin.copy_,x,fN O,z,t,A,B,goInt]
 unfold V3 at hv;split at hv
 ·cases Q;split at hv
  ·cases hv;cases hs;exact⟨_,0,w,rfl,a none 0 0 0 rfl rfl rfl rfl,j,.refl _ _,.refl _ _⟩
  ·cases hv
   cases hs with
   | slice l off len cap o W u hk C D=>
     exact⟨_,0,w,rfl,a none 0 0 _ rfl rfl (Nat.min_zero _) (by simp[Builtin.firstCells,loadCells,loadCellsFrom]),j,.refl _ _,.refl _ _⟩
  ·cases hv
   cases hs with
   |str s=>exact⟨_,0,w,rfl,a none 0 0 s.size rfl rfl (Nat.min_zero _) (by simp[Builtin.firstCells]),j,.refl _ _,.refl _ _⟩
  ·cases hv
 ·rename_i l off len
  cases Q with
  | slice _ _ _ g o W u hk C D=>
    split at hv
    ·cases hv;cases hs
     exact⟨_,0,w,rfl,a _ len g 0 rfl rfl (Nat.zero_min _) rfl,j,.refl _ _,.refl _ _⟩
    ·rename_i Z S Bo
     cases hs with
     | slice _ _ _ T so sd E X U F=>
       cases n:Nat.beq (min Bo len) 0 with
       | true=>
         simp only[n]at hv;cases hv;have i:Nat.min Bo len=0:=zB n
         exact⟨_,0,w,rfl,a _ len g Bo rfl rfl i (by simp[Builtin.firstCells,loadCells,loadCellsFrom]),j,.refl _ _,.refl _ _⟩
       | false=>
         have i:0<min Bo len:=Nat.pos_of_ne_zero λe=>by simp_all
         simp only[n,fj]at hv;obtain⟨cs,G,Y,y,H⟩:=hv;cases H;rcases F with⟨rfl,_,_⟩|⟨rfl,_⟩
         ·rcases D with⟨rfl,_,_⟩|⟨rfl,_⟩
          ·obtain⟨xs,c1,c2⟩:=tD j E G
           obtain⟨w',I,J,K⟩:=JX j u c2 y;exact⟨_,_,w',rfl,some_ _ len g Bo xs w' rfl rfl (by grind[Builtin.firstCells]) I,J,K,.same (wCB (MV y).symm)⟩
          ·omega
         ·omega
    ·rename_i b
     rw[gP]at hv;obtain⟨G,hv⟩:=hv;have L:size=1:=zB G;subst L
     cases hs with
     | str s=>
       have M:s.data.toList.length=s.size:=by simp
       rw[M]at hv
       cases n:Nat.beq (min s.size len) 0 with
       | true=>
         simp only[n]at hv;cases hv;have i:Nat.min s.size len=0:=zB n
         exact⟨_,0,w,rfl,a _ len g s.size rfl rfl i (by simp[Builtin.firstCells]),j,.refl _ _,.refl _ _⟩
       | false=>
         have i:0<min s.size len:=Nat.pos_of_ne_zero λe=>by simp_all
         simp only[n,fj]at hv;obtain⟨Y,y,H⟩:=hv;cases H;rcases D with⟨rfl,_,_⟩|⟨rfl,_⟩
         ·obtain⟨w',I,J,K⟩:=JX j u (RG Δ _) y
          refine⟨_,_,w',rfl,some_ _ len g s.size _ w' rfl rfl ?_ I,J,K,.same (wCB (MV y).symm)⟩;simp only[Builtin.firstCells,Sd];rfl
         ·omega
    ·cases hv
 ·cases hv
theorem Km{d:D} {cs:List V} {c:Array Value} {e:Nat} (hs:c.size=d.Vw) (hb:d.base=0) (a:cs.length<=d.Vw) (hc:∀(i:Nat) (v:V),cs[i]? =some v->∃x,c[i]? =some x/\fG Δ v x) :
  Ef Δ d cs (some (.cells c e (c.size,c.size+1))):=
 ⟨c,e,(c.size,c.size+1),rfl,hs,λ_=> .inr (wCB hs.symm),by omega,λi v hi=>by rw[hb,wO];exact hc i v hi⟩
theorem UJ(m:WR Δ h w) {src dst e:Nat} (hs:P0.underlying src=some .string) (n:P0.underlying dst=some (.slice e)) (o:P0.underlying e=some (.int .u8)) (s:ByteArray) :
  ∃d x w',(convert src dst (.string s)).run P0 w = .ok x w'/\xD Δ h w (.slice h.next 0 s.data.toList.length) (h.new (.cells e 1 true false (yW s.data.toList))) d x w':=by
 have k:=run_bytes_of_string (P:=P0) w src dst e s hs n o;have c:=grownCap_ge w s.size 0 e;generalize grownCap w s.size 0 e=cap at k c;have f:s.data.toList.length=s.size:=by simp
 have p:(yW s.data.toList).length=s.size:=by simp[yW]
 have g:(bytesRow s cap).size=cap:=by
  have:s.data.size=s.size:=rfl;simp[bytesRow];omega
 have a:Made Δ (.cells e 1 true false (yW s.data.toList)) (λl=> .slice l 0 s.data.toList.length) (.cells (bytesRow s cap) e ((bytesRow s cap).size,(bytesRow s cap).size+1))
   (λb=> .slice (some ⟨b,0,none⟩) s.size cap):=by
  intro l b q;refine⟨⟨b,0,1,(yW s.data.toList).length,cap,false,0⟩,rfl,⟨rfl,rfl,rfl,rfl,λ_=>?_⟩,?_⟩
  ·refine Km g rfl (by simp_all) λi u hi=>?_;obtain⟨x,hx,j⟩:=(M6 _ s).get i u hi;refine⟨x,?_,j⟩
   grind[jk,bytesRow,Array.getElem?_append_left]
  ·rw[f];refine fG.slice l 0 s.size cap 0 ⟨b,0,1,(yW s.data.toList).length,cap,false,0⟩ (Env.uc _ _ _) rfl c (.inl ⟨rfl,?_,?_⟩)
   ·simp_all
   simp_all
 obtain⟨d,a1,a2,a3,a4⟩:=(m.heap (w':=w.drew) rfl).alloc a;exact⟨d,_,_,k,a2,a1,a3.drew,a4⟩
theorem XJ(m:WR Δ h w) {src dst e0 e:Nat} {x:V} {y:Value} (hx:fG Δ x y) (hs:P0.underlying src=some (.slice e0)) (I:P0.underlying dst=some (.slice e)) (J:P0.underlying e=some (.int .u8)) (q:src=dst)
  {r:R} (hv:X1 x h=some r):∃z h' w',r = .val z h'/\(convert src dst y).run P0 w = .ok y w'/\xD Δ h w z h' Δ y w':=by
 unfold X1 at hv;split at hv
 ·rename_i l off n;rw[km]at hv;obtain⟨K,sz,live,ro,cs,A,hv⟩:=hv;simp only[gP]at hv;obtain⟨rfl,s,hv⟩:=hv;cases hv;have g:ro=false:=by simpa using s
  subst g
  cases hx with
  | slice _ _ _ cap o d i hk t C=>
    obtain⟨p,B,D⟩:=m.obj l d i;rw[A]at B;cases B;obtain⟨a1,a2,a3,a4,E⟩:=D;obtain⟨c,u,fr,b1,b2,b3,F,G⟩:=E rfl;subst q;obtain rfl:e0=e:=by simp_all
    obtain ⟨lo,hi⟩:=fr;have H:d.b<w.heap.size:=m.vf l d i;have v:(w.freeze ⟨d.b,c.size,none⟩ 1).heap[d.b]? =some (.cells c u (if lo == hi then(c.size,c.size+1) else(min lo c.size,max hi (c.size+1)))):=by
      unfold World.freeze;rw[if_neg (by omega)];simp only[Array.getElem?_modify,b1,if_true,Option.map_some]
    have a:∀b,b≠d.b->(w.freeze ⟨d.b,c.size,none⟩ 1).heap[b]? =w.heap[b]?:=by
      intro b hb;unfold World.freeze;rw[if_neg (by omega)];simp only[Array.getElem?_modify];rw[if_neg (by omega)]
    have j:(w.freeze ⟨d.b,c.size,none⟩ 1).heap.size=w.heap.size:=by
      unfold World.freeze;rw[if_neg (by omega)];simp
    have f:∀b,(w.freeze b 1).os=w.os/\(w.freeze b 1).tape=w.tape/\(w.freeze b 1).output=w.output:=by
      intro b;unfold World.freeze;rw[if_neg (by omega)];exact by simp_all
    refine⟨_,_,w.freeze ⟨d.b,c.size,none⟩ 1,rfl,?_,⟨.slice l off n cap o d i hk t C,?_,FR.set i a4 j a (f _).1 (f _).2.1 (f _).2.2,Gr.same (jb _)⟩⟩
    ·have k:(Go.shape d.b).run P0 w = .ok (some (u,c.size)) w:=by
       show Result.ok (w.shape? d.b) w=_;unfold World.shape?;rw[b1]
     simp_all[convert,uG,fN,tn,beq_self_eq_true,markStringish,run_freeze]
    ·refine m.set i A rfl a4 (λh=>h) ⟨a1,a2,a3,a4,λ_=>⟨c,u,_,v,b2,λ_=>?_,F,G⟩⟩ j a
     grind
 ·cases hv
end
section
variable{Δ:Env}{h:Hp}{w:World}{n:Nat}{t:Tm}{a:Act}
theorem Vu(f:WR Δ h w) {ty k n:Nat} (o:P0.underlying ty=some (.map k n)) {m:V} {mv:Value} (g:fG Δ m mv) {r:R} (hv:L7 m h=some r) :
  ∃v h' e x w',r = .val v h'/\(Instr.range ty mv).run P0 w = .ok x w'/\xD Δ h w v h' e x w':=by
 unfold L7 at hv;split at hv
 ·cases hv;cases g
  have a:Made Δ (.iter none 0 [] 0) (λl=> .ptr l 0) (.mapIter none 0 #[] 0) (λb=> .pointer (some ⟨b,0,none⟩)):=λl b i=>
   ⟨⟨b,0,0,0,0,false,2⟩,rfl,⟨rfl,rfl,rfl,none,rfl,rfl⟩,fG.ptr l 0 ⟨b,0,0,0,0,false,2⟩ (Env.uc _ _ _)⟩
  obtain⟨e,a1,a2,a3,a4⟩:=f.alloc a;exact⟨_,_,e,_,_,rfl,by simp_all[Instr.range,fN],a2,a1,a3,a4⟩
 ·rename_i l;rw[yK]at hv;obtain⟨t,c,p,hv⟩:=hv;cases hv
  cases g with
  | map _ d j=>
    obtain⟨q,hb,u⟩:=FI f j p
    have a:Made Δ (.iter (some l) c [] c) (λl=> .ptr l 0) (.mapIter (some d.b) c #[] c) (λb=> .pointer (some ⟨b,0,none⟩)):=λs b i=>
      ⟨⟨b,0,0,0,0,false,2⟩,rfl,⟨rfl,rfl,rfl,some d.b,rfl,d,Env.wX i _ _ j,rfl⟩,fG.ptr s 0 ⟨b,0,0,0,0,false,2⟩ (Env.uc _ _ _)⟩
    obtain⟨e,a1,a2,a3,a4⟩:=f.alloc a;exact⟨_,_,e,_,_,rfl,by simp[Instr.range,fN o,run_getObj_map hb],a2,a1,a3,a4⟩
 ·cases hv
theorem rF{r:Nat}{m:Option Nat}{s l:Nat}{seen:Array Nat}(a:w.heap[r]? =some (.mapIter m s seen l)):(getObj r).run P0 w = .ok (.mapIter m s seen l) w:=by grind[getObj,Sem.run]
theorem RN{b:List (V×V×Nat)} {a:List MapEntry} (c:rK Δ b a) (p:Nat->Bool):rK Δ (b.filter λe=>p e.2.2) (a.filter λe=>p e.born):=by
 induction c with
 |nil=>exact .nil
 | cons k v n e b a hk hv hb _ d=>
   subst hb;simp only[wBb];by_cases hp:p e.born=true
   ·simp only[hp,if_true];exact .cons _ _ _ _ _ _ hk hv rfl d
   simp_all
theorem YG{b:List (V×V×Nat)} {a:List MapEntry} (c:rK Δ b a) (p:Nat->Bool):a.all (λe=>p e.born)=b.all λe=>p e.2.2:=by
 induction c <;> grind
theorem V1(p:WR Δ h w) {it:V} {H:Value} {ty:Nat} (hi:fG Δ it H) {r:R} (hv:wc it h=some r) :
  ∃v h' x w',r = .val v h'/\(Instr.next H false ty).run P0 w = .ok x w'/\xD Δ h w v h' Δ x w':=by
 unfold wc at hv;rw[uE]at hv;obtain⟨M,off,rfl,hv⟩:=hv;rw[gP,fj]at hv;obtain⟨h0,o,I,hv⟩:=hv;have A:off=0:=zB h0;subst A
 cases hi with
 | ptr _ _ d y=>
   obtain⟨X,J,K⟩:=p.obj M d y;rw[I]at J;cases J;split at hv
   ·cases hv
    obtain⟨a1,a2,a3,N,a4,O⟩:=K;subst O;refine⟨_,_,_,w,rfl,?_,.tuple _ #[.bool false] (.one (.bool false)),p,.refl _ _,.refl _ _⟩;rw[a3];simp[Instr.next,rF a4]
   ·rename_i m since seen last
    obtain ⟨a1,a2,a3,N,a4,z,q,rfl⟩:=K;rw[yK]at hv;obtain⟨B,c,C,hv⟩:=hv;rw[gP]at hv;obtain⟨s,hv⟩:=hv;obtain⟨f,hb,D⟩:=FI p q C;have i:(!seen.toArray.isEmpty&&!f.isEmpty&&f.all (λe=>decide (e.born >= last)))=false:=by
      have P:f.isEmpty=B.isEmpty:=by
        have:=D.length;cases B <;> cases hes:f with|mk l=>grind
      have Q:f.all (λe=>decide (e.born >= last))=B.all (λe=>Nat.ble last e.2.2):=by
        rw[<-Array.all_toList];have:=YG D (λn=>Nat.ble last n);rw[<-this];congr 1;funext e;rw[Th];simp[Nat.ble_eq]
      have S:seen.toArray.isEmpty=seen.isEmpty:=by simp
      rw[S,P,Q];simpa only[wBh]using s
    have a:=RN D (λn=>!seen.contains n);have j:(f.filter λe=>!seen.toArray.contains e.born)=Array.mk (f.toList.filter λe=>!seen.contains e.born):=by
      apply Array.ext';rw[Array.toList_filter];simp
    rw[a3];split at hv
    ·rename_i E
     cases hv;rw[E]at a;generalize (f.toList.filter λe=>!seen.contains e.born)=L at a j;cases a;refine⟨_,_,_,w,rfl,?_,.tuple _ #[.bool false] (.one (.bool false)),p,.refl _ _,.refl _ _⟩;simp only[Instr.next,uG,rF a4,tn,run_getObj_map hb,i,j];simp[Question.forced]
    ·rename_i e E
     rw[gP]at hv;obtain⟨t,hv⟩:=hv;cases hv;rw[E]at a;generalize (f.toList.filter λe=>!seen.contains e.born)=L at a j
     cases a with
     | cons k v nb e' _ L hk hx F hs=>
       cases hs;have u:e'.born<since:=by rw[O6]at t;rw[F];exact t
       have T:=p.vf _ _ y;have g:∀b,b≠d.b->({w with heap:=w.heap.setIfInBounds d.b (.mapIter (some z.b) since (seen++[nb]).toArray c)}:World).heap[b]? =w.heap[b]?:=by grind
       refine ⟨_,_,_,{w with heap:=w.heap.setIfInBounds d.b (.mapIter (some z.b) since (seen++[nb]).toArray c)},rfl,?_,
         .tuple _ #[.bool true,e'.key,e'.val] (.cons _ _ _ _ (.bool true) (.cons _ _ _ _ hk (.one hx))),?_,FR.set y a2 (by simp) g rfl rfl rfl,.same (jb _)⟩
       ·have G:¬(e'.born >= since):=by omega
        have U:(Array.mk [e']).filter (λx=>decide (x.born<since)) = #[e']:=by simp[u]
        have W:(Array.mk [e']).filter (λx=>decide (x.born >= since)) = #[]:=by simp[G]
        simp only[Instr.next,uG,rF a4,tn,run_getObj_map hb,i,j,U,W]
        simp_all[Question.forced,setObj,Sem.run]
       ·refine p.set y I rfl a2 (λh=>h) ⟨a1,a2,a3,some z.b,?_,z,q,rfl⟩ (by simp) g
        simp_all
    ·cases hv
   ·cases hv
theorem W3{b:List (V×V×Nat)} {a:List MapEntry} (d:rK Δ b a) (st:Nat) {e:V×V×Nat} (c:(b.find? λe=>Nat.beq e.2.2 st)=some e) :
  ∃e',(a.find? λe=>e.born == st)=some e'/\fG Δ e.1 e'.key/\fG Δ e.2.1 e'.val:=by
 induction d with
 |nil=>cases c
 | cons k v n e0 b a hk hv hb _ g=>
   subst hb;simp only[List.find?_cons]at c⊢;have f:(e0.born == st)=Nat.beq e0.born st:=by rw[Th];simp
   grind
theorem UB(p:WR Δ h w) {it:V} {q:Value} (hi:fG Δ it q) {r:R} (hv:RX it h=some r) :
  ∃v x,r = .val v h/\(Instr.entry q).run P0 w = .ok x w/\fG Δ v x:=by
 unfold RX at hv;rw[uE]at hv;obtain⟨t,off,rfl,hv⟩:=hv;rw[gP,fj]at hv;obtain⟨h0,o,u,hv⟩:=hv;have f:off=0:=zB h0;subst f
 cases hi with
 | ptr _ _ d y=>
   obtain⟨E,s,z⟩:=p.obj t d y;rw[u]at s;cases s;split at hv
   ·rename_i m since seen last
    obtain⟨a1,a2,a3,F,a4,G,g,rfl⟩:=z;rw[yK]at hv;obtain⟨H,c,i,hv⟩:=hv;simp only[gP,fj]at hv;obtain⟨hc,st,j,e,k,hv⟩:=hv;cases hv;obtain⟨l,hb,A⟩:=FI p g i;obtain⟨e',B,C,D⟩:=W3 A st k;refine⟨_,.tuple #[e'.key,e'.val],rfl,?_,.tuple _ _ (.cons _ _ _ _ C (.one D))⟩;have n:c=last:=zB hc;subst n;have a:seen.toArray.back? = some st:=by rw[List.back?_toArray];exact j
    have b:(l.find? λe=>e.born == st)=some e':=by rw[<-Array.find?_toList];exact B
    rw[a3];simp only[Instr.entry,uG,rF a4,tn,a,run_getObj_map hb,bne_self_eq_false,O8,if_false,Jh,b]
   ·cases hv
theorem Xn{f:V} {j:Value} {args:List V} {b:Array Value} {ty:Nat} {c:Go.Call} {op:Operand} (hc:c.callee = .value op) (k:a.eval op=j) (i:c.args.map a.eval=b) (m:fG Δ f j) (n:gj Δ args b.toList) {r:R}
  (hv:fO f args=some r):∃g l gB,r = .call g l/\gj Δ l gB.toList/\(do let d <-resolve a.eval c ty;invoke d.target d.args:Sem Next)=callFunc g gB:=by
 unfold fO at hv;split at hv
 ·cases hv
  cases m with
  | func _ _ _ e h o p=>
    refine⟨_,_,e++b++h,rfl,?_,?_⟩
    ·simp only[Array.toList_append,Mb]
     exact o.append (n.append p)
    ·simp only[resolve,hc,k,i,Deferred.ofValue]
     rfl
 ·cases hv
theorem RA(Y:WR Δ h w) {j:String} {r:V} {W:Value} {args:List V} {n:Array Value} {ty:Nat} {c:Go.Call} {op:Operand} (hc:c.callee = .invoke op j) (Z:a.eval op=W) (J:c.args.map a.eval=n)
  (hr:fG Δ r W) (X:gj Δ args n.toList) {x:R} (hv:OC j r args h=some x) :
  ∃g l gB,x = .call g l/\gj Δ l gB.toList/\(do let d <-resolve a.eval c ty;invoke d.target d.args:Sem Next).run P0 w=(callFunc g gB).run P0 w:=by
 unfold OC at hv;split at hv
 ·rename_i t v
  cases hr with
  | iface _ _ q K=>
    have A:(do let d <-resolve a.eval c ty;invoke d.target d.args:Sem Next)=callMethod (.iface t q) j n:=by
      simp only[resolve,hc,Z,J];show invoke (.fn (.method j) #[]) (#[.iface t q]++n)=_;have C:(#[Value.iface t q]++n)[0]? =some (.iface t q):=by
        rw[Array.getElem?_append_left (by simp)];rfl
      have D:(#[Value.iface t q]++n).extract 1 (#[Value.iface t q]++n).size=n:=by
        apply Array.ext';simp
      simp only[invoke,C,D]
    have u:∀{f:Nat} {o:Option Nat},methodOf t j=some (f,o)->∃i m b,P0.info? t=some i/\i.methods.find? (λm=>m.name == j)=some m/\m.path = #[]/\m.func=some (f,b)/\
        ((∃e,P0.underlying t=some (.pointer e)/\((b=true/\o=none)\/(b=false/\o=some e)))\/(b=false/\o=none/\∃L,P0.underlying t=some L/\∀e,L≠ .pointer e)):=by
      intro f o s;unfold methodOf at s;rw[fj]at s;obtain⟨i,hi,s⟩:=s;split at s
      ·rename_i m hf
       refine⟨i,m,?_⟩;have aa:i.methods.find? (λm=>m.name == j)=some m:=by rw[<-Array.find?_toList];exact hf
       split at s
       ·simp_all
       ·simp_all
       ·simp_all
       ·cases s
      ·cases s
    obtain⟨fuel,E⟩:∃k,P0.types.size+Made.depth=k+1:=⟨P0.types.size+99,rfl⟩
    split at hv
    ·rename_i f s
     cases hv;obtain⟨i,m,b,C,D,M,N,O⟩:=u s;refine⟨f,_,#[q]++n,rfl,by simp only[Array.toList_append];exact .cons _ _ _ _ K X,?_⟩;rw[A];have z:(receiverAt t (.val q) b (some ((j.splitOn ".").getLastD j))).run P0 w = .ok q w:=by
       rcases O with⟨e,F,⟨rfl,_⟩|⟨_,B⟩⟩|⟨rfl,_,L,F,ab⟩
       ·simp_all[receiverAt,fN,Place.get]
       ·cases B
       ·simp only[receiverAt,uG,fN F,tn]
        rfl
     have P:(method (P0.types.size+Made.depth) t q j).run P0 w = .ok (f,q) w:=by
       rw[E];simp only[method,uG,typeInfo,run_program,tn,C,Jh,D,M,N,follow,z,Array.isEmpty,Array.size_empty,if_true,decide_true]
     grind[callMethod,uG,run_program,tn]
    ·rename_i f e s
     rw[fj]at hv;obtain⟨y,hy,hv⟩:=hv;cases hv;obtain⟨i,m,b,C,D,M,N,O⟩:=u s;have Q:P0.underlying t=some (.pointer e)/\b=false:=by
       rcases O with⟨e',F,⟨_,B⟩|⟨hb,B⟩⟩|⟨_,B,_⟩
       ·cases B
       ·simp_all
       ·cases B
     obtain ⟨F,rfl⟩:=Q;obtain⟨I,S,T⟩:=KA (t:= .tree .leaf []) (xv:=q) Y (by simp_all) hy;refine⟨f,_,#[I]++n,rfl,by simp only[Array.toList_append];exact .cons _ _ _ _ T X,?_⟩;rw[A];have G:∃ad,q = .pointer (some ad):=by
       cases q with
       | pointer p=>cases p with
         |some ad=>simp_all
         |none=>simp_all[Instr.loadAt,Instr.sureAddr]
       |_=>simp_all[Instr.loadAt,Instr.sureAddr]
     obtain⟨ad,rfl⟩:=G;have U:(loadVar e ad).run P0 w = .ok I w:=by simpa[Instr.loadAt,Instr.sureAddr]using S
     have z:(receiverAt t (.val (.pointer (some ad))) false (some ((j.splitOn ".").getLastD j))).run P0 w = .ok I w:=by
       have H:∀s1 s2,(Builtin.ssaWrapNilChk_ #[t] t #[.pointer (some ad),strVal s1,strVal s2]).run P0 w = .ok (.pointer (some ad)) w:=λ_ _=>rfl;simp only[receiverAt,uG,fN F,tn,Place.get,Jh,H,asAddr,U]
     have P:(method (P0.types.size+Made.depth) t (.pointer (some ad)) j).run P0 w = .ok (f,I) w:=by
       rw[E];simp only[method,uG,typeInfo,run_program,tn,C,Jh,D,M,N,follow,z,Array.isEmpty,Array.size_empty,if_true,decide_true]
     grind[callMethod,uG,run_program,tn]
    ·cases hv
 ·cases hv
theorem Xv(i:WR Δ h w) (u:TR Δ n t a) {o:Oper} {r:R} (hv:(jL o).f t h=some r) :
  (∃v h' I x w',r = .val v h'/\((execOp a.eval o).run P0 w = .ok (.value x) w'\/(x=undef/\(execOp a.eval o).run P0 w = .ok .skip w'))/\xD Δ h w v h' I x w')\/
  (∃g l gB,r = .call g l/\gj Δ l gB.toList/\(execOp a.eval o).run P0 w=(callFunc g gB).run P0 w):=by
 obtain⟨dst,op,D,pos,af,gd⟩:=o
 cases op with
 | store ty p x=>
   simp only[jL]at hv;split at hv
   ·rename_i size Q
    simp only[fj,uE,gP]at hv;obtain⟨pv,q,v,j,l,off,rfl,B,h',M,W⟩:=hv;cases W;obtain⟨w',r1,r2,r3,r4⟩:=Vg i Q (kE i u q) (kE i u j) B M;exact .inl ⟨_,_,Δ,undef,w',rfl,.inr ⟨rfl,by simp_all[execOp]⟩,.undef Δ,r2,r3,r4⟩
   ·cases hv
 | mapUpdate ty m k x=>
   simp only[jL]at hv;split at hv
   ·rename_i S T E
    split at hv
    ·rename_i d J
     simp only[fj]at hv;obtain⟨mv,q,kv,j,xv,B,M⟩:=hv;obtain⟨h',w',rfl,r1,r2,r3,r4⟩:=Ub i E J (kE i u q) (kE i u j) (kE i u B) M;exact .inl ⟨_,_,Δ,undef,w',rfl,.inr ⟨rfl,by simp_all[execOp]⟩,.undef Δ,r2,r3,r4⟩
    ·cases hv
   ·cases hv
 | insert ty m k x=>
   simp only[jL]at hv;split at hv
   ·rename_i S T E
    split at hv
    ·rename_i d J
     simp only[fj]at hv;obtain⟨mv,q,kv,j,xv,B,M⟩:=hv;obtain⟨h',w',rfl,r1,r2,r3,r4⟩:=Ub i E J (kE i u q) (kE i u j) (kE i u B) M;exact .inl ⟨_,_,Δ,undef,w',rfl,.inr ⟨rfl,by simp_all[execOp]⟩,.undef Δ,r2,r3,r4⟩
    ·cases hv
   ·cases hv
 | range ty x=>
   simp only[jL]at hv;split at hv
   ·rename_i S T E
    simp only[fj]at hv;obtain⟨mv,q,j⟩:=hv;obtain⟨v,h',I,y,w',rfl,r1,r2⟩:=Vu i E (kE i u q) j;exact .inl ⟨_,_,I,y,w',rfl,.inl (me r1),r2⟩
   ·cases hv
 | next x isS=>
   cases isS with
   |true=>cases hv
   | false=>
     simp only[jL,fj]at hv;obtain⟨mv,q,j⟩:=hv;obtain⟨v,h',y,w',rfl,r1,r2⟩:=V1 (ty:=D) i (kE i u q) j
     exact .inl ⟨_,_,Δ,y,w',rfl,.inl (me r1),r2⟩
 | entry x=>
   simp only[jL,fj]at hv;obtain⟨mv,q,j⟩:=hv;obtain⟨v,y,rfl,r1,r2⟩:=UB i (kE i u q) j
   exact .inl ⟨_,_,Δ,y,w,rfl,.inl (me r1),r2,i,.refl _ _,.refl _ _⟩
 | convert src N x=>
   simp only[jL]at hv;split at hv
   ·rename_i e hs J
    split at hv
    ·rename_i L Q
     simp only[fj]at hv;obtain⟨xv,q,j⟩:=hv;have hx:=kE i u q;split at j
     ·cases j
      generalize hy:a.eval x=y at hx
      cases hx with
      | str s=>
        obtain⟨I,z,w',r1,r2⟩:=UJ i hs J L s;refine .inl ⟨_,_,I,z,w',rfl,.inl (me ?_),r2⟩
        simp_all
     ·cases j
    ·cases hv
   ·rename_i e0 e hs J
    split at hv
    ·rename_i L hb
     simp only[fj]at hv;obtain⟨xv,q,j⟩:=hv;have hx:=kE i u q;generalize hy:a.eval x=y at hx;obtain⟨X,h',w',r1,r3,r2⟩:=XJ i hx (src:=src) (dst:=N) (e0:=e0) (e:=e) hs J L (zB hb) j;refine .inl ⟨X,h',Δ,y,w',r1,.inl (me ?_),r2⟩
     simp_all
    ·cases hv
   ·cases hv
 | call c =>
   obtain⟨U,args,F⟩:=c
   cases U with
   | builtin b=>
     simp only[jL]at hv
     cases b with
     | append=>
       simp only at hv;split at hv
       ·rename_i s x Y xT A C
        have O:args = #[s,x]:=by apply Array.ext';exact A
        have G:F = #[Y,xT]:=by apply Array.ext';exact C
        subst O;subst G;split at hv
        ·rename_i K e' hs E
         have H:=yV hs;split at hv
         ·rename_i size kj z L
          simp only[fj]at hv;obtain⟨sv,q,xv,j,B⟩:=hv;obtain⟨v,h',I,y,w',rfl,r1,r2⟩:=LW (ty:=D) (xT:=xT) i H E (by simp_all) L (kE i u q) (kE i u j) B;refine .inl ⟨_,_,I,y,w',rfl,.inl ?_,r2⟩;simp only[execOp,resolve,List.map_toArray];exact me r1
         ·cases hv
        ·rename_i K hs E
         have H:=yV hs;split at hv
         ·rename_i size kj z L
          simp only[fj]at hv;obtain⟨sv,q,xv,j,B⟩:=hv;obtain⟨v,h',I,y,w',rfl,r1,r2⟩:=LW (ty:=D) (xT:=xT) i H E (by simp_all) L (kE i u q) (kE i u j) B;refine .inl ⟨_,_,I,y,w',rfl,.inl ?_,r2⟩;simp only[execOp,resolve,List.map_toArray];exact me r1
         ·cases hv
        ·cases hv
       ·cases hv
     | copy =>
       simp only at hv;split at hv
       ·rename_i d s Z P A C
        have O:args = #[d,s]:=by apply Array.ext';exact A
        have G:F[0]? =some Z:=by rw[<-Yk,C];rfl
        subst O;split at hv
        ·rename_i K hs
         have H:=yV hs;split at hv
         ·rename_i size Q
          simp only[fj]at hv;obtain⟨dv,q,sv,j,B⟩:=hv;obtain⟨h',m,w',rfl,r1,r2,r3,r4⟩:=Wx (rt:=D) i G H Q (kE i u q) (kE i u j) B;refine .inl ⟨_,_,Δ,_,w',rfl,.inl ?_,.int _ _,r2,r3,r4⟩;simp only[execOp,resolve,List.map_toArray];exact me r1
         ·cases hv
        ·cases hv
       ·cases hv
     | delete=>
       simp only at hv;split at hv
       ·rename_i m k mT P A C
        have O:args = #[m,k]:=by apply Array.ext';exact A
        have G:F[0]? =some mT:=by rw[<-Yk,C];rfl
        subst O;split at hv
        ·rename_i S T E
         split at hv
         ·rename_i d J
          simp only[fj]at hv;obtain⟨mv,q,kv,j,B⟩:=hv;obtain⟨h',w',rfl,r1,r2,r3,r4⟩:=RR (rt:=D) i G E J (kE i u q) (kE i u j) B;refine .inl ⟨_,_,Δ,_,w',rfl,.inl ?_,.tuple _ #[] .nil,r2,r3,r4⟩;simp only[execOp,resolve,List.map_toArray];exact me r1
         ·cases hv
        ·cases hv
       ·cases hv
     |_=>cases hv
   | value f=>
     simp only[jL,fj]at hv;obtain⟨fv,q,l,j,B⟩:=hv;obtain⟨g,l,gB,rfl,r1,r2⟩:=Xn (a:=a) (c:=⟨.value f,args,F⟩) (ty:=D) (args:=l) rfl rfl rfl (kE i u q) (by simpa using zN u j) B;refine .inr ⟨g,l,gB,rfl,r1,?_⟩
     grind[execOp]
   | invoke V m=>
     simp only[jL,fj]at hv;obtain⟨fv,q,l,j,B⟩:=hv;obtain⟨g,l,gB,rfl,r1,r2⟩:=RA (a:=a) (c:=⟨.invoke V m,args,F⟩) (ty:=D) i (args:=l) rfl rfl rfl (kE i u q) (by simpa using zN u j) B
     exact .inr ⟨g,l,gB,rfl,r1,r2⟩
 |_=>cases hv
end
