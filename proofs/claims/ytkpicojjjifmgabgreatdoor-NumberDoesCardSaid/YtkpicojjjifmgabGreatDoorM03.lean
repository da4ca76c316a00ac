/- Parts. -/
import Derived.Test.YtkpicojjjifmgabGreatDoorM02
import Derived.Laws.AppendOwn
import Derived.Laws.NewFold
import Derived.Laws.IdiomStrings
set_option maxHeartbeats 4000000
namespace Go.Proofs.YtkpicojjjifmgabGreatDoor.Hx
structure Gr (h:Hp) (Δ:Env) (h':Hp) (a:Env):Prop where
 next:h.next<=h'.next
 none:∀l,Δ l = .none->l<h.next->a l = .none
theorem Gr.refl(h:Hp)(Δ:Env):Gr h Δ h Δ:=⟨jO _,by simp_all⟩
theorem Gr.trans{h h' c:Hp} {Δ e d:Env} (a:Gr h Δ h' e) (b:Gr h' e c d):Gr h Δ c d:=
 ⟨KG a.next b.next,λl g f=>b.none l (a.none l g f) (EK f a.next)⟩
theorem Gr.same{h h':Hp}{Δ:Env}(a:h.next<=h'.next):Gr h Δ h' Δ:=⟨a,by simp_all⟩
theorem Gr.set{h h':Hp} {Δ:Env} {d:D} (a:h.next<=h'.next):Gr h Δ h' (Δ.set h.next d):=
 ⟨a,by simp_all[Env.set,if_neg,Tv]⟩
theorem WR.alloc{Δ:Env} {h:Hp} {w:World} (a:WR Δ h w) {ob:O} {mk:Nat->V} {c:Obj} {e:Nat->Value} (f:Made Δ ob mk c e) :
  ∃b,WR b (h.new ob) (w.alloc c)/\fR b (mk h.next) (e w.heap.size)/\FR Δ b w (w.alloc c)/\Gr h Δ (h.new ob) b:=by
 obtain⟨d,hb,g,hv⟩:=f h.next w.heap.size a.HT;exact⟨Δ.set h.next d,(a.more ob).lay a.HT (OF _) (by rw[yk,if_pos rfl]) hb g,hv,FR.lay a.HT hb,Gr.set (OK _)⟩
theorem xh(g o e:Nat) (fr:Nat×Nat):∀(vs:List Value) (i:Nat) (cur:Array Value) (w:World),w.heap[g]? =some (.cells cur e fr)->(∀j,j<cur.size->¬(fr.1<=j/\j<fr.2))->
  o+i+vs.length<=cur.size->(∀v∈vs,v.oneCell' = true)->
  (storeCells ⟨g,o,none⟩ vs i).run P0 w = .ok () (w.setRow g (cur.toList.take (o+i)++vs++cur.toList.drop (o+i+vs.length)).toArray)
 | [],i,cur,w,hg,_,_,_=>by
   simp only[storeCells,JL,wBk,wBu,ZI,Array.toArray_toList];rw[setRow_self w g cur e fr hg]
   rfl
 | v ::rest,i,cur,w,hg,hf,hl,f=>by
   have hi:o+i<cur.size:=by simp at hl;omega
   have a:w.cell? ⟨g,o+i,none⟩=some cur[o+i]:=by simp[World.cell?,hg,hi]
   have b:w.frozen? ⟨g,o+i,none⟩=false:=by
     have:=hf (o+i) hi;simp only[World.frozen?,hg];simpa using this
   have c:(store ((⟨g,o,none⟩:Addr).add i) v).run P0 w = .ok () (w.setRow g (cur.setIfInBounds (o+i) v)):=by
     rw[uV,run_store P0 w _ v _ (by simp_all),a];simp[b,setCell_eq_setRow w g (o+i) cur e fr v hg]
   have d:=xh g o e fr rest (i+1) (cur.setIfInBounds (o+i) v) (w.setRow g (cur.setIfInBounds (o+i) v)) (by grind[setRow_heap]) (by simp_all) (by grind) (by simp_all);simp only[storeCells,yo,c,wX,d,setRow_setRow];congr 3;have e:=list_seg_step cur.toList (o+i) v rest (by simp at hl⊢;omega)
   grind
theorem U2(l vs:List Value) (k:Nat) (a:k+vs.length<=l.length) (j:Nat) :
  (l.take k++vs++l.drop (k+vs.length))[j]? =if k<=j/\j<k+vs.length then vs[j-k]? else l[j]?:=by
 rw[Lb,List.getElem?_append,Mq,wBl (by omega)]
 grind
theorem WR.set{Δ:Env} {h:Hp} {w w':World} (j:WR Δ h w) {l:Nat} {d:D} {o B:O} (F:Δ l=some d) (r:h.get l=some o) (t:o.live=true) (z:d.ro=false)
  (i:B.live=true->o.live=true) (L:Tg Δ d B w'.heap[d.b]?) (G:w'.heap.size=w.heap.size) (M:∀b,b≠d.b->w'.heap[b]? =w.heap[b]?):WR Δ (h.put l B) w' where
 fresh:=j.fresh
 pE:=λm e n=>by rw[G];exact j.pE m e n
 obj:=λm e n=>by
  by_cases he:l=m
  ·subst he;rw[F]at n;cases n;exact⟨B,by rw[qL _ _ (Hp.NB r),if_pos rfl],L⟩
  ·obtain ⟨p,u,C⟩:=j.obj m e n;refine⟨p,by simp_all[qL,Hp.NB,if_neg],?_⟩;by_cases hb:e.b=d.b
   ·have a:p.live=false:=by
     cases hp:p.live with
     |false=>rfl
     |true=>exact absurd hb.symm (j.apart l m d e o p F n he r u t hp (.inl z))
    cases p with
    | cells E sz live ro cs=>
      obtain⟨a1,a2,a3,N,_⟩:=C
      exact⟨a1,a2,a3,N,λJ=>by simp only[O.live]at a;rw[a]at J;cases J⟩
    |map Q c=>cases a
    |iter m s x c=>cases a
   simp_all
 apart:=λm H e E p K n v q hp f y k I=>by
  rw[qL _ _ (Hp.NB r)]at hp f;by_cases u:l=m
  ·subst u;rw[if_pos rfl]at hp;cases hp;rw[if_neg q]at f;exact j.apart l H e E o K n v q r f (i y) k I
  ·rw[if_neg u]at hp;by_cases C:l=H
   ·subst C;rw[if_pos rfl]at f;cases f;exact j.apart m l e E p o n v q hp r y (i k) I
   ·rw[if_neg C]at f;exact j.apart m H e E p K n v q hp f y k I
 JJ:=λg p A hp=>by
  rw[qL _ _ (Hp.NB r)]at hp;by_cases u:l=g
  ·subst u;exact j.JJ l o A r
  ·rw[if_neg u]at hp;exact j.JJ g p A hp
 Ae:=j.Ae
 VM:=j.VM.step (λb _ P=>M b λe=>P ⟨l,d,F,z,e.symm⟩) (by simp_all)
theorem FR.set{Δ:Env} {w w':World} {l:Nat} {d:D} (f:Δ l=some d) (a:d.ro=false) (c:w'.heap.size=w.heap.size) (g:∀b,b≠d.b->w'.heap[b]? =w.heap[b]?)
  (h:w'.os=w.os) (i:w'.tape=w.tape) (j:w'.output=w.output):FR Δ Δ w w':=
 ⟨Env.le_refl _,wB5 c.symm,h,i,j,λb _ hb=>g b λe=>hb ⟨l,d,f,a,e.symm⟩,by simp_all⟩
theorem WR.kill{Δ:Env} {h:Hp} {w:World} (f:WR Δ h w) {l e sz:Nat} {cs:List V} (g:h.get l=some (.cells e sz true false cs)) {d:D} (i:Δ l=some d) :
  WR Δ (h.put l (.cells e sz false false cs)) w/\(∀m a p,m≠l->Δ m=some a->h.get m=some p->p.live=true->a.b≠d.b)/\d.ro=false:=by
 obtain⟨o,n,q⟩:=f.obj l d i;rw[g]at n;cases n;obtain⟨a1,a2,a3,c,s⟩:=q;refine⟨f.set i g rfl c (λh=>(nomatch h)) ⟨a1,a2,a3,c,λh=>(nomatch h)⟩ rfl (by simp_all),λm a p j r hp k=>?_,c⟩;exact f.apart m l a d p _ r i j hp g k rfl (.inr c)
section
variable{Δ:Env}{h:Hp}{w:World}{n:Nat}{t:Tm}{a:Act}
theorem MN(t:WR Δ h w) {l:Nat} {d:D} (m:Δ l=some d) {off:Nat} {new:List V} {TT:List Value} (n:gQ Δ new TT) {h':Hp} (hv:FX h l off new=some h') :
  ∃w',(storeCells ⟨d.b,d.base+off,none⟩ TT 0).run P0 w = .ok () w'/\WR Δ h' w'/\FR Δ Δ w w':=by
 unfold FX at hv;rw[lT]at hv;obtain⟨e,sz,live,ro,cs,u,hv⟩:=hv;simp only[ie,fy]at hv;obtain⟨rfl,p,f,ql,hs,hv⟩:=hv;cases hv;have g:ro=false:=by simpa using p
 subst g;obtain⟨oh,y,q⟩:=Lr hs;obtain⟨o,z,A⟩:=t.obj l d m;rw[u]at z;cases z;obtain⟨a1,a2,a3,r,B⟩:=A;obtain⟨c,s,fr,b1,b2,b3,F,G⟩:=B rfl;have C:=n.length;have j:d.base+off+TT.length<=c.size:=by omega
 have a:=xh d.b (d.base+off) s fr TT 0 c w b1 (by grind) (by omega) (n.zeY f);simp only[wBu]at a;refine⟨_,a,t.set m u rfl r (λh=>h) ⟨a1,a2,by omega,r,λ_=>?_⟩ (by simp) (by grind[setRow_other]),FR.set m r (by simp) (by grind[setRow_other]) rfl rfl rfl⟩;refine⟨_,s,fr,setRow_heap w d.b c _ s fr b1,?_,b3,by omega,λi v hi=>?_⟩
 ·grind
 ·rw [q i]at hi;have k:=U2 c.toList TT (d.base+off) (by simpa using j) (d.base+i);rw[wBq,k];by_cases hin:off<=i/\i<off+new.length
  ·rw[if_pos hin]at hi;rw[if_pos (by omega)];obtain⟨x,hx,E⟩:=n.get _ _ hi
   grind
  grind
end
structure zX (Δ:Env) (h:Hp) (w:World) (v:V) (h':Hp) (a:Env) (x:Value) (w':World):Prop where
 val:fR a v x
 world:WR a h' w'
 frame:FR Δ a w w'
 grow:Gr h Δ h' a
theorem WR.heap{Δ:Env} {h:Hp} {w w':World} (a:WR Δ h w) (b:w'.heap=w.heap):WR Δ h w':=
 ⟨a.fresh,λl d e=>by rw[b];exact a.pE l d e,λl d e=>by rw[b];exact a.obj l d e,a.apart,a.JJ,a.Ae,λg c f=>by rw[b];exact a.VM g c f⟩
theorem WR.Zr{Δ:Env} {h:Hp} {w:World} (c:WR Δ h w) {l:Nat} {o:O} {d:D} (u:Δ l=none) (y:l<h.next) (G:h.get l=some o) (hb:d.b<w.heap.size)
  (H:Tg (Δ.set l d) d o w.heap[d.b]?) (z:∀m v p,Δ m=some v->h.get m=some p->p.live=true->v.b≠d.b) (A:RW Δ d.b):WR (Δ.set l d) h w where
 fresh:=λm e a=>by
  rcases Env.mJ a with⟨rfl,rfl⟩|⟨_,a⟩
  ·exact y
  ·exact c.fresh m e a
 pE:=λm e a=>by
  rcases Env.mJ a with⟨rfl,rfl⟩|⟨_,a⟩
  ·exact hb
  ·exact c.pE m e a
 obj:=λm e a=>by
  rcases Env.mJ a with⟨rfl,rfl⟩|⟨_,a⟩
  ·simp_all
  ·obtain⟨B,f,j⟩:=c.obj m e a;exact⟨B,f,j.mono (Env.zM u)⟩
 apart:=λm C e E p F a k n hp q r i s=>by
  rcases Env.mJ a with⟨f,j⟩|⟨_,f⟩ <;> rcases Env.mJ k with⟨x,I⟩|⟨_,x⟩
  ·omega
  ·grind
  ·grind
  ·exact c.apart m C e E p F f x n hp q r i s
 JJ:=λg p t hp=>by
  obtain⟨e,f,j⟩:=c.JJ g p t hp;exact⟨e,Env.zM u _ _ f,j⟩
 Ae:=c.Ae
 VM:=c.VM.step (by simp_all) λm e a _=>by
  rcases Env.mJ a with⟨rfl,rfl⟩|⟨_,a⟩
  ·simp_all
  simp_all
theorem FR.Zr{Δ:Env} {w w':World} {l:Nat} {d:D} (c:Δ l=none) (h:FR Δ Δ w w') (f:RW Δ d.b):FR Δ (Δ.set l d) w w' where
 le:=Env.zM c
 size:=h.size
 os:=h.os
 tape:=h.tape
 output:=h.output
 fj:=h.fj
 new:=λm e a=>by
  rcases Env.mJ a with⟨rfl,rfl⟩|⟨_,a⟩
  ·simp_all
  simp_all
theorem FR.drew{Δ a:Env}{w w':World}(h:FR Δ a w.drew w'):FR Δ a w w':=⟨h.le,h.size,h.os,h.tape,h.output,h.fj,h.new⟩
section
variable{Δ:Env}{h:Hp}{w:World}{n:Nat}{t:Tm}{a:Act}
theorem Pz(Δ:Env) (s:ByteArray):gQ Δ (Bn s.data.toList) (s.data.toList.map λb=>Value.int .u8 b.toNat):=by
 generalize s.data.toList=l
 induction l with
 |nil=>exact .nil
 |cons b l a=>exact .cons _ _ _ _ (.int .u8 _) a
theorem O9(g:WR Δ h w) {size:Nat} {x:V} {xv:Value} {m:Nat} {cs:List V} (hx:fR Δ x xv) (hv:lQ h size x=some (m,cs)) :
  ∃a,gQ Δ cs a/\(∀w',(Builtin.lenOf xv).run P0 w' = .ok m w')/\(Builtin.firstCells size m xv).run P0 w = .ok (Array.mk a) w/\a.length=m*size:=by
 unfold lQ at hv;split at hv
 ·cases hv;cases hx;exact⟨[],.nil,λ_=>rfl,rfl,by simp⟩
 ·cases hv;cases hx;exact⟨[],.nil,λ_=>rfl,by simp[Builtin.firstCells,loadCells,loadCellsFrom],by simp⟩
 ·rename_i l off k;rw[fy]at hv;obtain⟨ql,b,c⟩:=hv;cases c
  cases hx with
  | slice _ _ _ cap o d i q j n=>
    rcases n with⟨rfl,_,_⟩|⟨rfl,_⟩
    ·obtain⟨xs,r,f⟩:=yh g i b
     exact⟨xs,f,λ_=>rfl,by grind[Builtin.firstCells],by rw[<-f.length,SM b];rfl⟩
    omega
 ·rename_i s;rw[ie]at hv;obtain⟨b,c⟩:=hv;cases c;have e:size=1:=Cr b;subst e
  cases hx with
  | str s=>
    refine ⟨_,Pz Δ s,by simp_all[Builtin.lenOf],?_,by simp⟩;have p:s.extract 0 s.size=s:=by
      rw[ByteArray.ext_iff];simp
    simp only[Builtin.firstCells];have:s.data.toList.length=s.size:=by simp
    rw[this,p];simp only[Me];congr 1
    grind
 ·cases hv
theorem rW{n xT ty e:Nat} {j:TypeDesc} (hs:P0.underlying n=some (.slice e)) (hx:P0.underlying xT=some j) (hi:∀k,j≠ .int k) {size:Nat} (o:zR e=some size)
  {base:Option Addr} {a c m:Nat} {x:Value} (hlen:(Builtin.lenOf x).run P0 w = .ok m w) {f:List Value} (g:(Builtin.firstCells size m x).run P0 w = .ok (Array.mk f) w)
  (d:a+m<=c) {w':World} (l:∀b,base=some b->(storeCells (b.add (a*size)) f 0).run P0 w = .ok () w') (p:base=none->w' = w) :
  (Builtin.append_ #[n,xT] ty #[.slice base a c,x]).run P0 w = .ok (.slice base (a+m) c) w':=by
 have h:=xL (w:=w) o;have i:(match (generalizing:=false) j with| .int _=>true|_=>false)=false:=by cases j <;> first|rfl|simp_all
 cases base with
 | none=>
   cases p rfl
   simp[Builtin.append_,gg hs,gg hx,h,i,hlen,d,g]
 |some b=>simp[Builtin.append_,gg hs,gg hx,h,i,hlen,d,g,l b rfl]
theorem LB{A xT ty c:Nat} {q:TypeDesc} (hs:P0.underlying A=some (.slice c)) (hx:P0.underlying xT=some q) (hi:∀k,q≠ .int k) {size jP:Nat} {z:V}
  (E:elemOf c=some (size,jP,z)) {base:Option Addr} {a b m:Nat} {x:Value} (hlen:(Builtin.lenOf x).run P0 w = .ok m w) {d e:List Value}
  (f:(Builtin.firstCells size a (.slice base a b)).run P0 w.drew = .ok (Array.mk d) w.drew)
  (g:(Builtin.firstCells size m x).run P0 w.drew = .ok (Array.mk e) w.drew) (F:¬a+m<=b) (hb:(a+m)*jP<=70368744177664) (M:a+m<=70368744177664) :
  ∃B,B.size=size/\(Builtin.append_ #[A,xT] ty #[.slice base a b,x]).run P0 w = .ok (.slice (some ⟨w.heap.size,0,none⟩) (a+m) (grownCap w (a+m) b c))
   (w.drew.alloc (.cells (Array.mk d++Array.mk e++Builtin.zeroCells B (grownCap w (a+m) b c-(a+m))) c)):=by
 obtain⟨r,h,s,C,G,_⟩:=Hl E;obtain⟨H,I,l,i,j,t⟩:=Bj s;have u:(match (generalizing:=false) q with| .int _=>true|_=>false)=false:=by cases q <;> first|rfl|simp_all
 have J:i.bytes=jP:=by
  unfold zax at h;rw[fy]at h;obtain⟨K,n,v⟩:=h;rw[j]at n;cases n;simpa using v
 have y:i.size=size:=by
  obtain⟨K,n,v⟩:=FA r;rw[j]at n;cases n;exact v
 have D:Builtin.nextslicecap (a+m) b*i.bytes<=281474976710656:=growslice_fits (by omega) (by grind);have o:¬(281474976710656<Builtin.nextslicecap (a+m) b*i.bytes):=by omega
 have p:¬(9223372036854775807<((a:Int)+(m:Int))):=by omega
 have L:=(l λ_=>none).cells.length;refine⟨H.cells,by simp_all,?_⟩;rw[<-y]at f g;have hq:(Question.appendCap (a+m) b c).forced=false:=rfl;simp[Builtin.append_,gg hs,gg hx,sizeOf,typeInfo,zeroValue,j,t,u,hlen,F,p,o,hq,f,g,newRow,grownCap]
 grind
theorem M3(E : WR Δ h w) {sT xT ty f:Nat} {dx:TypeDesc} (hs:P0.underlying sT=some (.slice f)) (hx:P0.underlying xT=some dx) (hi:∀k,dx≠ .int k) {size jP:Nat} {z:V}
    (hz:elemOf f=some (size,jP,z)) {s x:V} {sv xv:Value} (M:fR Δ s sv) (aj:fR Δ x xv) {r:R} (hv:fh f size jP s x h=some r) :
    ∃v h' N y w',r = .val v h'/\(Builtin.append_ #[sT,xT] ty #[sv,xv]).run P0 w = .ok y w'/\zX Δ h w v h' N y w':=by
  obtain⟨O,aW,aX,S,aY,_⟩:=Hl hz;unfold fh at hv;rw[fy]at hv;obtain⟨⟨m,cs⟩,h1,q⟩:=hv;obtain⟨n,n1,n2,n3,n4⟩:=O9 E aj h1;have ax:WR Δ h w.drew:=E.heap rfl;obtain⟨H,d1,d2,d3,d4⟩:=O9 ax aj h1;have ak:cs.length=m*size:=by rw[n1.length,n4]
  cases hm:Nat.beq m 0 with
  | true=>
    have Y:m=0:=Cr hm;subst Y;simp only[hm]at q;have ay:n=[]:=wAs (by simpa using n4);subst ay;split at q
    ·cases q;cases M
     exact⟨_,_,Δ,_,w,rfl,rW hs hx hi O (n2 w) n3 (jO _) (λb hb=>by cases hb) (λ_=>rfl),.ei,E,.refl _ _,.refl _ _⟩
    ·cases q
     cases M with
     | slice l off len cap o d G hk I ho=>
       exact⟨_,_,Δ,_,w,rfl,rW hs hx hi O (n2 w) n3 I (λb hb=>rfl) (λ_=>rfl),.slice _ _ _ cap o d G hk I ho,E,.refl _ _,.refl _ _⟩
    ·cases q
  | false =>
    have Y:0<m:=Nat.pos_of_ne_zero λe=>by rw[e]at hm;cases hm
    simp only[hm,ie]at q;obtain⟨T,q⟩:=q
    have fresh:∀(base:Option Addr) (a t:Nat) (g:List Value) (y6:List V) (h0:Hp),sv = .slice base a t->gQ Δ y6 g->g.length=a*size->
        (Builtin.firstCells size a (.slice base a t)).run P0 w.drew = .ok (Array.mk g) w.drew->¬a+m<=t->(a+m)*jP<=70368744177664->a+m<=70368744177664->
        WR Δ h0 w->h0.next=h.next->
        ∃N y w',(Builtin.append_ #[sT,xT] ty #[sv,xv]).run P0 w = .ok y w'/\zX Δ h w (.slice h.next 0 (a+m)) (h0.new (.cells f size true false (y6++cs))) N y w':=by
      intro base a t g y6 h0 al U J A Z hb aA aB Ee;obtain⟨zc,aC,hr⟩:=LB (ty:=ty) hs hx hi hz (n2 w) A d3 Z hb aA;have K:=grownCap_ge w (a+m) t f;generalize grownCap w (a+m) t f=nc at hr K
      have aa:Made Δ (.cells f size true false (y6++cs)) (λl=> .slice l 0 (a+m)) (.cells (Array.mk g++Array.mk H++Builtin.zeroCells zc (nc-(a+m))) f)
          (λb=> .slice (some ⟨b,0,none⟩) (a+m) nc):=by
        intro l b hn;have I:=Env.zM (d:=⟨b,0,size,(y6++cs).length,nc*size,false,0⟩) hn;have am:=U.append d1;have hlen:(y6++cs).length=(a+m)*size:=by rw[KC,U.length,J,ak,Xo]
        have aS:(a+m)*size<=nc*size:=wBs _ K;refine⟨⟨b,0,size,(y6++cs).length,nc*size,false,0⟩,rfl,⟨rfl,rfl,rfl,rfl,λ_=>?_⟩,?_⟩
        ·refine CB ?_ rfl (by show(y6++cs).length<=nc*size;omega) λi u B=>?_
         ·show(Array.mk g++Array.mk H++Builtin.zeroCells zc (nc-(a+m))).size=nc*size
          simp only[Array.size_append,List.size_toArray,size_zeroCells,aC,J,d4];rw[<-Xo,<-Xo];congr 1;omega
         ·obtain⟨y,hy,aD⟩:=am.get i u B
          refine⟨y,?_,aD.mono I⟩
          grind
        ·refine fR.slice l 0 (a+m) nc 0 _ (Env.xy _ _ _) rfl K (.inl ⟨rfl,?_,?_⟩)
         ·simp_all
         ·show 0+0+nc*size<=nc*size;omega
      obtain⟨N,a1,a2,a3,P⟩:=(aB.heap (w':=w.drew) rfl).alloc aa;have aE:Gr h Δ (h0.new (.cells f size true false (y6++cs))) N:=⟨by rw[<-Ee];exact P.next,λl hl F=>P.none l hl (by rw[Ee];exact F)⟩
      rw[Ee]at a2;exact⟨N,_,_,al▸hr,a2,a1,a3.drew,aE⟩
    split at q
    ·simp only[ie]at q
     obtain⟨h3,h4,h5⟩:=q;cases h5;cases M;have Q:m*jP<=70368744177664:=KS h3;have ab:m<=70368744177664:=KS h4;obtain⟨N,y,w',b1,b2⟩:=fresh none 0 0 [] [] h rfl .nil (by simp) rfl (by omega) (by simpa using Q) (by simpa using ab) E rfl
     grind
    ·rename_i l off len
     rw[lT]at q;obtain⟨e,sz,live,ro,all,Z,q⟩:=q;simp only[ie]at q;obtain⟨rfl,aF,an,q⟩:=q;have ac:sz=size:=Cr an;subst ac;have ao:ro=false:=by simpa using aF
     subst ao
     cases M with
     | slice _ _ _ cap o d G hk I ho=>
       obtain⟨ob,ap,hr⟩:=E.obj l d G;rw[Z]at ap;cases ap;obtain⟨a1,a2,a3,P,a5⟩:=hr;obtain⟨c,e',fr,b1,b2,b3,b5,b4⟩:=a5 rfl;rw[a2]at ho;have aq:(len+m)*sz=len*sz+m*sz:=Xo _ _ _;have aZ:0<m*sz:=Nat.mul_pos Y S
       cases hin:Nat.ble (Nat.add off (Nat.mul (Nat.add len m) sz)) all.length with
       | true =>
         simp only[hin,fy]at q;obtain⟨ql,h3,h4⟩:=q;cases h4;have aT:off+(len+m)*sz<=all.length:=KS hin;rcases ho with⟨rfl,L,ar⟩|⟨rfl,L⟩
         ·have j:len+m<=cap:=by
            rcases Tj cap (len+m)with F|K
            ·exfalso
             have:cap*sz<(len+m)*sz:=Nat.mul_lt_mul_of_pos_right F S;omega
            ·exact K
          have aG:FX h l (off+len*sz) cs=some (h.put l (.cells e sz true false ql)):=by
            unfold FX;rw[lT];refine⟨e,sz,true,false,all,Z,?_⟩;simp only[ie,fy];exact⟨trivial,rfl,T,ql,h3,rfl⟩
          obtain⟨w',c1,c2,c3⟩:=MN E G n1 aG;refine⟨_,_,Δ,_,w',rfl,rW hs hx hi O (n2 w) n3 j (λb hb=>?_) (λhb=>by cases hb),?_,c2,c3,.same (jO _)⟩
          ·cases hb
           rw[uV,Nat.add_assoc];exact c1
          ·exact .slice l off (len+m) cap _ d G hk j (by simp_all)
         ·exfalso;omega
       | false =>
         simp only[hin,fy,ie]at q;obtain⟨y6,h3,aH,h4,h5,h6⟩:=q;cases h6;have ab:(len+m)*jP<=70368744177664:=KS h4;have aI:len+m<=70368744177664:=KS h5;have Q:sub all off (len*sz)=some y6:=h3;obtain⟨ae,aJ⟩:=sub_eq Q;obtain⟨aK,a6,_⟩:=E.kill Z G;have a7:Ip h l off (len*sz)=some y6:=by
           unfold Ip;rw[lT];exact⟨e,sz,true,false,all,Z,by rw[ie];exact⟨rfl,Q⟩⟩
         by_cases j:len+m<=cap
         ·rcases ho with⟨rfl,L,ar⟩|⟨rfl,L⟩
          ·have aU : (len+m)*sz<=cap*sz:=wBs _ j
           have W:d.base+off+len*sz+n.length<=c.size:=by rw[n4];omega
           have A:=xh d.b (d.base+off+len*sz) e' fr n 0 c w b1 (by grind) (by simpa using W) (n1.zeY T);simp only[wBu]at A;have ag:d.base+off+len*sz+n.length<=c.toList.length:=by simpa using W
           generalize hw':w.setRow d.b (c.toList.take (d.base+off+len*sz)++n++c.toList.drop (d.base+off+len*sz+n.length)).toArray=w' at A;have C:w'.heap.size=w.heap.size:=by rw[<-hw'];simp
           have D:∀b,b≠d.b->w'.heap[b]? =w.heap[b]?:=by grind[setRow_other]
           have au:w'.heap[d.b]? =some (.cells (c.toList.take (d.base+off+len*sz)++n++c.toList.drop (d.base+off+len*sz+n.length)).toArray e' fr):=by
             rw[<-hw'];exact setRow_heap w d.b c _ e' fr b1
           have aw:WR Δ (h.put l (.cells e sz false false all)) w':=E.set G Z rfl P (λh=>(nomatch h)) ⟨a1,a2,a3,P,λh=>(nomatch h)⟩ C D;have aL:FR Δ Δ w w':=FR.set G P C D (by rw[<-hw'];rfl) (by rw[<-hw'];rfl) (by rw[<-hw'];rfl);have hn:=E.HT;have a8:(y6++cs).length=(len+m)*sz:=by rw[KC,ae,ak,aq]
           have X:=Env.zM (d:=⟨d.b,d.base+off,sz,(y6++cs).length,d.Wl,false,0⟩) hn
           refine ⟨_,_,Δ.set h.next ⟨d.b,d.base+off,sz,(y6++cs).length,d.Wl,false,0⟩,_,w',rfl,
             rW hs hx hi O (n2 w) n3 j (λb hb=>?_) (λhb=>by cases hb),?_,?_,aL.Zr hn ⟨l,d,G,P,rfl⟩,Gr.set (OK _)⟩
           ·cases hb
            rw[uV];exact A
           ·refine .slice h.next 0 (len+m) cap (d.base+off) ⟨d.b,d.base+off,sz,(y6++cs).length,d.Wl,false,0⟩ (Env.xy _ _ _) rfl j (.inl ⟨rfl,?_,?_⟩)
            ·simp_all
            omega
           ·refine (aw.more (.cells f sz true false (y6++cs))).Zr (o:= .cells f sz true false (y6++cs)) (d:=⟨d.b,d.base+off,sz,(y6++cs).length,d.Wl,false,0⟩) hn (OF _) (by rw[yk];exact if_pos rfl) (by rw[C];exact E.pE l d G) ⟨rfl,rfl,rfl,rfl,λ_=>?_⟩ (λm' d' p aM hp aN=>?_) ⟨l,d,G,P,rfl⟩
            ·refine ⟨_,e',fr,au,?_,λ_=>b3 P,?_,λi v B=>?_⟩
             ·grind
             ·grind
             ·show ∃x,(List.toArray _)[d.base+off+i]? =some x/\_
              rw[wBq,U2 c.toList n _ ag];rw[List.getElem?_append]at B;by_cases F:i<y6.length
              ·rw[if_pos F,aJ i (by omega)]at B
               obtain⟨x,ah,ai⟩:=b4 _ _ B;rw[if_neg (by omega)];exact⟨x,by rw[wBD,Nat.add_assoc];exact ah,ai.mono X⟩
              ·rw[if_neg F]at B
               obtain⟨x,ah,ai⟩:=n1.get _ _ B;have aV:=(ki.1 B).1;rw[if_pos (by omega)];refine⟨x,?_,ai.mono X⟩;rw[<-ah];congr 1;omega
            ·have aO:h.next≠m':=Nat.ne_of_gt (E.fresh _ _ aM)
             rw[yk]at hp;rw[if_neg (by exact aO)]at hp;rw[qL _ _ (E.fresh _ _ G)]at hp;by_cases he:l=m'
             ·subst he
              rw[if_pos rfl]at hp;cases hp;cases aN
             grind
          ·exfalso;omega
         ·have aP:∃g,gQ Δ y6 g/\(Builtin.firstCells sz len (.slice (some ⟨d.b,o,none⟩) len cap)).run P0 w.drew = .ok (Array.mk g) w.drew:=by
            rcases ho with⟨rfl,L,ar⟩|⟨rfl,L⟩
            ·grind[yh,Builtin.firstCells]
            ·have aQ:len=0:=by omega
             subst aQ;have aR:y6=[]:=wAs (by rw[ae];simp);subst aR;exact⟨[],.nil,by simp[Builtin.firstCells,loadCells,loadCellsFrom]⟩
          obtain⟨g,c1,c2⟩:=aP;obtain⟨N,y,w',e1,e2⟩:=fresh _ len cap g y6 (h.put l (.cells e sz false false all)) rfl c1 (by rw[<-c1.length,ae]) c2 j ab aI aK rfl;exact⟨_,_,N,y,w',rfl,e1,e2⟩
    ·cases q
end
section
variable{Δ:Env}{h:Hp}{w:World}{n:Nat}{t:Tm}{a:Act}
theorem W7(c:WR Δ h w) {ty size:Nat} (j:zR ty=some size) {l off:Nat} {v:V} {pv xv:Value} (hp:fR Δ (.ptr l off) pv) (hx:fR Δ v xv)
  (hlen:Nat.beq v.cells.length size=true) {h':Hp} (hs:FX h l off v.cells=some h') :
  ∃w',(Instr.storeAt ty pv xv).run P0 w = .ok () w'/\WR Δ h' w'/\FR Δ Δ w w'/\Gr h Δ h' Δ:=by
 cases hp with
 | ptr _ _ d f=>
   have hc:=hx.cells;obtain⟨w',k,g,i⟩:=MN c f hc hs;have m:=Cr hlen;have a:=hc.length;simp only[ZN]at a;have b:h'.next=h.next:=by
     unfold FX at hs;rw[lT]at hs;obtain⟨e,sz,live,ro,cs,n,hv⟩:=hs;simp only[ie,fy]at hv;obtain⟨_,_,_,_,_,hv⟩:=hv;cases hv;rfl
   refine⟨w',?_,g,i,.same (wB5 b.symm)⟩
   simp_all[Instr.storeAt,Instr.sureAddr,storeVar,xL]
theorem vm.length{b:List (V×V×Nat)} {a:List MapEntry} (h:vm Δ b a):b.length=a.length:=by
 induction h <;> grind
theorem vm.get{c:List (V×V×Nat)} {a:List MapEntry} (h:vm Δ c a) {i:Nat} {e:V×V×Nat} (hi:c[i]? =some e) :
  ∃b,a[i]? =some b/\fR Δ e.1 b.key/\fR Δ e.2.1 b.val/\b.born=e.2.2:=by
 induction h generalizing i <;> grind
theorem vm.set{c:List (V×V×Nat)} {a:List MapEntry} (h:vm Δ c a) {i:Nat} {k v:V} {m:Nat} {b:MapEntry} (g:fR Δ k b.key) (hv:fR Δ v b.val) (hb:b.born=m) :
  vm Δ (c.set i (k,v,m)) (a.set i b):=by
 induction h generalizing i with
 |nil=>exact .nil
 | cons k0 l n e0 c a d e f hs j=>
   cases i with
   |zero=>exact .cons _ _ _ _ _ _ g hv hb hs
   |succ i=>exact .cons _ _ _ _ _ _ d e f j
theorem vm.snoc{c:List (V×V×Nat)} {a:List MapEntry} (h:vm Δ c a) {k v:V} {m:Nat} {b:MapEntry} (g:fR Δ k b.key) (hv:fR Δ v b.val) (hb:b.born=m) :
  vm Δ (c++[(k,v,m)]) (a++[b]):=by
 induction h with
 |nil=>exact .cons _ _ _ _ _ _ g hv hb .nil
 |cons k0 j n e0 c a d e f hs i=>exact .cons _ _ _ _ _ _ d e f i
theorem vm.erase{b:List (V×V×Nat)} {a:List MapEntry} (h:vm Δ b a) {i:Nat}:vm Δ (b.eraseIdx i) (a.eraseIdx i):=by
 induction h generalizing i with
 |nil=>exact .nil
 | cons k0 g n e0 b a c d e hs f=>
   cases i with
   |zero=>exact hs
   |succ i=>exact .cons _ _ _ _ _ _ c d e f
theorem IF{k:V} {x y:Value} (m:Nat) (c:KD k=true) (hx:fR Δ k x) (b:fR Δ k y):Instr.sameBits m x y=true:=by
 cases k <;> simp[KD]at c
 ·cases hx;cases b;grind[Instr.sameBits]
 ·cases hx;cases b;grind[Instr.sameBits]
 ·rename_i s
  cases hx with
  | str a=>
    generalize hs:a.data.toList=l at b
    cases b with
    | str d=>
      have:a=d:=by
        rw[ByteArray.ext_iff];exact Array.ext' hs
      subst this;have hb:(a == a)=true:=by show(a.data == a.data)=true;simp
      grind[Instr.sameBits]
theorem XF(m:Nat) {cs:List V} {xs ys:List Value} (e:cs.all KD=true) (hx:gQ Δ cs xs) (a:gQ Δ cs ys):xs.length=ys.length/\(xs.zip ys).all (λp=>Instr.sameBits m p.1 p.2)=true:=by
 induction cs generalizing xs ys with
 |nil=>cases hx;cases a;simp_all
 | cons c cs f=>
   cases hx with
   | cons _ x _ xs hx b=>
     cases a with
     | cons _ y _ ys a d=>
       simp only[wBp,vH]at e;obtain⟨g,h⟩:=f e.2 b d;exact⟨by simp[g],by simp only[List.zip_cons_cons,wBp,vH];grind[IF]⟩
theorem Mp{k:V} {x y:Value} (m:Nat) (b:La k=true) (hx:fR Δ k x) (a:fR Δ k y):Instr.sameBits (m+1) x y=true:=by
 cases k with
 | agg cs=>
   cases hx with|agg _ xs hx=>cases a with|agg _ ys a=>
   obtain⟨c,d⟩:=XF m b hx a
   simp_all[Instr.sameBits,vH]
 |_=>grind[IF,La]
theorem map_set(g:WR Δ h w) {l:Nat} {d:D} (f:Δ l=some d) {k e:List (V×V×Nat)} {c c2:Nat} (i:h.get l=some (.map k c)) {NP:Array MapEntry} (m:vm Δ e NP.toList) :
  (setObj d.b (.map NP c2)).run P0 w = .ok () {w with heap:=w.heap.setIfInBounds d.b (.map NP c2)}/\
  WR Δ (h.put l (.map e c2)) {w with heap:=w.heap.setIfInBounds d.b (.map NP c2)}/\FR Δ Δ w {w with heap:=w.heap.setIfInBounds d.b (.map NP c2)}:=by
 obtain⟨o,j,n⟩:=g.obj l d f;rw[i]at j;cases j;obtain⟨a1,a2,a3,p,r,s⟩:=n;have q:=g.pE l d f;have a:∀b,b≠d.b->({w with heap:=w.heap.setIfInBounds d.b (.map NP c2)}:World).heap[b]? =w.heap[b]?:=by grind
 refine⟨by grind[setObj,Sem.run],g.set f i rfl a2 (λh=>h) ⟨a1,a2,a3,NP,?_,m⟩ (by simp) a,FR.set f a2 (by simp) a rfl rfl rfl⟩
 simp_all
theorem Vr(t:WR Δ h w) {H x L:Nat} (I:P0.underlying H=some (.map x L)) {d:Option (List Field)} (J:Jm x=some d) {m k v:V} {K kv vv:Value} (M:fR Δ m K) (q:fR Δ k kv) (hx:fR Δ v vv)
  {r:R} (hv:J4 x d m k v h=some r):∃h' w',r = .val .undef h'/\(Instr.mapUpdate H K kv vv).run P0 w = .ok () w'/\WR Δ h' w'/\FR Δ Δ w w'/\Gr h Δ h' Δ:=by
 unfold J4 at hv;rw[ie]at hv;obtain⟨N,hv⟩:=hv;split at hv
 ·rename_i l;simp only[A2,fy]at hv;obtain⟨W,c,y,ob,hp,hv⟩:=hv;cases hv
  cases M with
  | map _ X z=>
    obtain⟨a,hb,s⟩:=JH t z y;have f:=zu (em:=false) 9999 (by omega) w J q N;unfold Lf at hp;rw[fy]at hp;obtain⟨fr,O,hp⟩:=hp;obtain⟨g,j,b⟩:=E6 J q w s O
    cases fr with
    | none=>
      cases hp
      cases g with
      |some _=>cases b
      | none=>
        obtain⟨A,B,C⟩:=map_set t z y (NP:=a.push {key:=kv,val:=vv,born:=c}) (c2:=c+1) (by rw[Array.toList_push];exact s.snoc (m:=c) q hx rfl);refine⟨_,_,rfl,?_,B,C,.same (jO _)⟩
        simp only[Instr.mapUpdate,yo,gg I,wX,run_getObj_map hb,f,j,A]
    | some p=>
      obtain⟨i,u⟩:=p;simp only[fy,ie]at hp;obtain⟨e,D,E,P,hp⟩:=hp;cases hp
      cases g with
      |none=>cases b
      | some Q=>
        obtain⟨Y,u'⟩:=Q;obtain⟨rfl,_⟩:=b;obtain⟨F,S,T,Z,U⟩:=s.get D;rw[V.eq_of_beq _ _ E]at T;have G:Instr.sameBits 10000 F.key kv=true:=by grind[Mp]
        have n:a[i]? =some F:=by simpa using S
        have o:(a.modify i λe=>{e with key:=kv,val:=vv}).toList=a.toList.set i {F with key:=kv,val:=vv}:=by
          rw[Array.toList_modify];rw[List.modify_eq_set];simp[n]
        obtain⟨A,B,C⟩:=map_set t z y (NP:=a.modify i λe=>{e with key:=kv,val:=vv}) (c2:=c) (by rw[o];exact s.set (i:=i) (k:=k) (v:=v) (m:=e.2.2) q hx U);refine⟨_,_,rfl,?_,B,C,.same (jO _)⟩;simp only[Instr.mapUpdate,yo,gg I,wX,run_getObj_map hb,f,j,Instr.keyThatStays,n,Option.map_some,Option.getD_some,G,if_true,Me,A]
 ·cases hv
theorem Uw(n:WR Δ h w) {F v L rt:Nat} {o:Array Nat} (g:o[0]? =some F) (x:P0.underlying F=some (.map v L)) {d:Option (List Field)} (y:Jm v=some d) {m k:V} {G kv:Value} (H:fR Δ m G) (z:fR Δ k kv)
  {r:R} (hv:Cp v d m k h=some r):∃h' w',r = .val (.tuple []) h'/\(Builtin.delete_ o rt #[G,kv]).run P0 w = .ok (.tuple #[]) w'/\WR Δ h' w'/\FR Δ Δ w w'/\Gr h Δ h' Δ:=by
 unfold Cp at hv;rw[ie]at hv;obtain⟨I,hv⟩:=hv;split at hv
 ·cases hv;cases H;have f:=zu (em:=true) 9999 (by omega) w y z I;refine⟨h,w,rfl,?_,n,.refl _ _,.refl _ _⟩;simp only[Builtin.delete_,g,wBq,List.getElem?_cons_zero,wBU,yo,gg x,wX,f,Me]
 ·rename_i l;simp only[A2,fy]at hv;obtain⟨O,c,A,fr,M,hv⟩:=hv
  cases H with
  | map _ B C=>
    obtain⟨a,hb,D⟩:=JH n C A;have f:=zu (em:=a.isEmpty) 9999 (by omega) w y z I;obtain⟨q,s,e⟩:=E6 y z w D M
    cases fr with
    | none =>
      cases hv
      cases q with
      |some _=>cases e
      | none=>
        obtain ⟨t,J,K⟩:=map_set n C A (NP:=a) (c2:=c) D;have j:({w with heap:=w.heap.setIfInBounds B.b (.map a c)}:World)=w:=by
          have:w.heap.setIfInBounds B.b (.map a c)=w.heap:=by
            apply Array.ext_getElem?;intro i;by_cases hi:B.b=i
            ·grind
            ·simp_all
          rw[this]
        rw[j]at t;refine⟨h,w,rfl,?_,n,.refl _ _,.refl _ _⟩
        simp only[Builtin.delete_,g,wBq,List.getElem?_cons_zero,wBU,yo,gg x,wX,run_getObj_map hb,f,s,t,Me]
    | some p=>
      obtain⟨i,u⟩:=p;cases hv
      cases q with
      |none=>cases e
      | some N=>
        obtain ⟨P,u'⟩:=N;obtain⟨rfl,_⟩:=e;have E:(a.eraseIdxIfInBounds i).toList=a.toList.eraseIdx i:=by
          rw[Array.eraseIdxIfInBounds_eq];split
          ·rw[Array.toList_eraseIdx]
          ·grind[List.eraseIdx_of_length_le]
        obtain⟨t,J,K⟩:=map_set n C A (NP:=a.eraseIdxIfInBounds i) (c2:=c) (by rw[E];exact D.erase);refine⟨_,_,rfl,?_,J,K,.same (jO _)⟩;simp only[Builtin.delete_,g,wBq,List.getElem?_cons_zero,wBU,yo,gg x,wX,run_getObj_map hb,f,s,t,Me]
 ·cases hv
end
section
variable{Δ:Env}{h:Hp}{w:World}{n:Nat}{t:Tm}{a:Act}
theorem Pm{l off:Nat} {new:List V} {h':Hp} (hs:FX h l off new=some h'):h'.next=h.next:=by
 unfold FX at hs;rw[lT]at hs;obtain⟨e,sz,live,ro,cs,a,hv⟩:=hs;simp only[ie,fy]at hv;obtain⟨_,_,_,_,_,hv⟩:=hv;cases hv;rfl
theorem Ui(s:ByteArray) (m:Nat):((s.extract 0 m).data.map λb=>Value.int .u8 b.toNat)=Array.mk ((s.data.toList.take m).map λb=>Value.int .u8 b.toNat):=by
 apply Array.ext'
 simp_all
theorem T8(Δ:Env) (l:List UInt8):gQ Δ (Bn l) (l.map λb=>Value.int .u8 b.toNat):=by
 induction l with
 |nil=>exact .nil
 |cons b l a=>exact .cons _ _ _ _ (.int .u8 _) a
theorem YO(j:WR Δ h w) {M p size rt:Nat} {k:Array Nat} (x:k[0]? =some M) (N:P0.underlying M=some (.slice p)) (O:zR p=some size) {d s:V} {v sv:Value}
  (P:fR Δ d v) (hs:fR Δ s sv) {r:R} (hv:Xx size d s h=some r) :
  ∃h' m w',r = .val (.int .i64 (.ofNat m)) h'/\(Builtin.copy_ k rt #[v,sv]).run P0 w = .ok (.int .i64 m) w'/\WR Δ h' w'/\FR Δ Δ w w'/\Gr h Δ h' Δ:=by
 have a:∀(base:Option Addr) (c f:Nat) (m:Nat),v = .slice base c f->(Builtin.lenOf sv).run P0 w = .ok m w->Nat.min m c=0->(Builtin.firstCells size 0 sv).run P0 w = .ok #[] w->
   (Builtin.copy_ k rt #[v,sv]).run P0 w = .ok (.int .i64 (0:Nat)) w:=by
  intro base c f m q z n A;subst q;have t:=xL (w:=w) O;cases base <;> simp[Builtin.copy_,x,gg N,z,n,t,A,storeCells,goInt]
 have some_:∀(base:Addr) (c f:Nat) (m:Nat) (xs:List Value) (w':World),v = .slice (some base) c f->(Builtin.lenOf sv).run P0 w = .ok m w->
   (Builtin.firstCells size (Nat.min m c) sv).run P0 w = .ok (Array.mk xs) w->(storeCells base xs 0).run P0 w = .ok () w'->
   (Builtin.copy_ k rt #[v,sv]).run P0 w = .ok (.int .i64 (Nat.min m c:Nat)) w':=by
  intro base c f m xs w' q z A B;subst q;have t:=xL (w:=w) O;simp[Builtin.copy_,x,gg N,z,t,A,B,goInt]
 unfold Xx at hv;split at hv
 ·cases P;split at hv
  ·cases hv;cases hs;exact⟨_,0,w,rfl,a none 0 0 0 rfl rfl rfl rfl,j,.refl _ _,.refl _ _⟩
  ·cases hv
   cases hs with
   | slice l off len cap o U u W C D=>
     exact⟨_,0,w,rfl,a none 0 0 _ rfl rfl (Nat.min_zero _) (by simp[Builtin.firstCells,loadCells,loadCellsFrom]),j,.refl _ _,.refl _ _⟩
  ·cases hv
   cases hs with
   |str s=>exact⟨_,0,w,rfl,a none 0 0 s.size rfl rfl (Nat.min_zero _) (by simp[Builtin.firstCells]),j,.refl _ _,.refl _ _⟩
  ·cases hv
 ·rename_i l off len
  cases P with
  | slice _ _ _ g o U u W C D=>
    split at hv
    ·cases hv;cases hs
     exact⟨_,0,w,rfl,a _ len g 0 rfl rfl (Nat.zero_min _) rfl,j,.refl _ _,.refl _ _⟩
    ·rename_i Z Q Fu
     cases hs with
     | slice _ _ _ S so sd E X T F=>
       cases n:Nat.beq (min Fu len) 0 with
       | true=>
         simp only[n]at hv;cases hv;have i:Nat.min Fu len=0:=Cr n
         exact⟨_,0,w,rfl,a _ len g Fu rfl rfl i (by simp[Builtin.firstCells,loadCells,loadCellsFrom]),j,.refl _ _,.refl _ _⟩
       | false=>
         have i:0<min Fu len:=Nat.pos_of_ne_zero λe=>by simp_all
         simp only[n,fy]at hv;obtain⟨cs,G,Y,y,H⟩:=hv;cases H;rcases F with⟨rfl,_,_⟩|⟨rfl,_⟩
         ·rcases D with⟨rfl,_,_⟩|⟨rfl,_⟩
          ·obtain⟨xs,c1,c2⟩:=yh j E G
           obtain⟨w',I,J,K⟩:=MN j u c2 y;exact⟨_,_,w',rfl,some_ _ len g Fu xs w' rfl rfl (by grind[Builtin.firstCells]) I,J,K,.same (wB5 (Pm y).symm)⟩
          ·omega
         ·omega
    ·rename_i b
     rw[ie]at hv;obtain⟨G,hv⟩:=hv;have L:size=1:=Cr G;subst L
     cases hs with
     | str s=>
       have oh:s.data.toList.length=s.size:=by simp
       rw[oh]at hv
       cases n:Nat.beq (min s.size len) 0 with
       | true=>
         simp only[n]at hv;cases hv;have i:Nat.min s.size len=0:=Cr n
         exact⟨_,0,w,rfl,a _ len g s.size rfl rfl i (by simp[Builtin.firstCells]),j,.refl _ _,.refl _ _⟩
       | false=>
         have i:0<min s.size len:=Nat.pos_of_ne_zero λe=>by simp_all
         simp only[n,fy]at hv;obtain⟨Y,y,H⟩:=hv;cases H;rcases D with⟨rfl,_,_⟩|⟨rfl,_⟩
         ·obtain⟨w',I,J,K⟩:=MN j u (T8 Δ _) y
          refine⟨_,_,w',rfl,some_ _ len g s.size _ w' rfl rfl ?_ I,J,K,.same (wB5 (Pm y).symm)⟩;simp only[Builtin.firstCells,Ui];rfl
         ·omega
    ·cases hv
 ·cases hv
theorem NC{d:D} {cs:List V} {c:Array Value} {e:Nat} (hs:c.size=d.Wl) (hb:d.base=0) (a:cs.length<=d.Wl) (hc:∀(i:Nat) (v:V),cs[i]? =some v->∃x,c[i]? =some x/\fR Δ v x) :
  Hv Δ d cs (some (.cells c e (c.size,c.size+1))):=
 ⟨c,e,(c.size,c.size+1),rfl,hs,λ_=> .inr (wB5 hs.symm),by omega,λi v hi=>by rw[hb,zO];exact hc i v hi⟩
theorem V7(k:WR Δ h w) {src dst e:Nat} (hs:P0.underlying src=some .string) (m:P0.underlying dst=some (.slice e)) (n:P0.underlying e=some (.int .u8)) (s:ByteArray) :
  ∃d x w',(convert src dst (.string s)).run P0 w = .ok x w'/\zX Δ h w (.slice h.next 0 s.data.toList.length) (h.new (.cells e 1 true false (Bn s.data.toList))) d x w':=by
 have j:=run_bytes_of_string (P:=P0) w src dst e s hs m n;have c:=grownCap_ge w s.size 0 e;generalize grownCap w s.size 0 e=cap at j c;have oh:s.data.toList.length=s.size:=by simp
 have o:(Bn s.data.toList).length=s.size:=by simp[Bn]
 have f:(bytesRow s cap).size=cap:=by
  have:s.data.size=s.size:=rfl;simp[bytesRow];omega
 have a:Made Δ (.cells e 1 true false (Bn s.data.toList)) (λl=> .slice l 0 s.data.toList.length) (.cells (bytesRow s cap) e ((bytesRow s cap).size,(bytesRow s cap).size+1))
   (λb=> .slice (some ⟨b,0,none⟩) s.size cap):=by
  intro l b q;refine⟨⟨b,0,1,(Bn s.data.toList).length,cap,false,0⟩,rfl,⟨rfl,rfl,rfl,rfl,λ_=>?_⟩,?_⟩
  ·refine NC f rfl (by simp_all) λi u hi=>?_;obtain⟨x,hx,g⟩:=(Pz _ s).get i u hi;refine⟨x,?_,g⟩
   grind[ki,bytesRow,Array.getElem?_append_left]
  ·rw[oh];refine fR.slice l 0 s.size cap 0 ⟨b,0,1,(Bn s.data.toList).length,cap,false,0⟩ (Env.xy _ _ _) rfl c (.inl ⟨rfl,?_,?_⟩)
   ·simp_all
   simp_all
 obtain⟨d,a1,a2,a3,p⟩:=(k.heap (w':=w.drew) rfl).alloc a;exact⟨d,_,_,j,a2,a1,a3.drew,p⟩
theorem Yj(m:WR Δ h w) {src dst e0 e:Nat} {x:V} {y:Value} (hx:fR Δ x y) (hs:P0.underlying src=some (.slice e0)) (J:P0.underlying dst=some (.slice e)) (K:P0.underlying e=some (.int .u8)) (q:src=dst)
  {r:R} (hv:Ya x h=some r):∃A h' w',r = .val A h'/\(convert src dst y).run P0 w = .ok y w'/\zX Δ h w A h' Δ y w':=by
 unfold Ya at hv;split at hv
 ·rename_i l off n;rw[lT]at hv;obtain⟨L,sz,live,ro,cs,B,hv⟩:=hv;simp only[ie]at hv;obtain⟨rfl,s,hv⟩:=hv;cases hv;have g:ro=false:=by simpa using s
  subst g
  cases hx with
  | slice _ _ _ cap o d i C t D=>
    obtain⟨p,hp,E⟩:=m.obj l d i;rw[B]at hp;cases hp;obtain⟨a1,a2,a3,u,F⟩:=E;obtain⟨c,v,fr,b1,b2,b3,G,H⟩:=F rfl;subst q;obtain rfl:e0=e:=by simp_all
    obtain ⟨lo,hi⟩:=fr;have I:d.b<w.heap.size:=m.pE l d i;have z:(w.freeze ⟨d.b,c.size,none⟩ 1).heap[d.b]? =some (.cells c v (if lo == hi then(c.size,c.size+1) else(min lo c.size,max hi (c.size+1)))):=by
      unfold World.freeze;rw[if_neg (by omega)];simp only[Array.getElem?_modify,b1,if_true,Option.map_some]
    have a:∀b,b≠d.b->(w.freeze ⟨d.b,c.size,none⟩ 1).heap[b]? =w.heap[b]?:=by
      intro b hb;unfold World.freeze;rw[if_neg (by omega)];simp only[Array.getElem?_modify];rw[if_neg (by omega)]
    have j:(w.freeze ⟨d.b,c.size,none⟩ 1).heap.size=w.heap.size:=by
      unfold World.freeze;rw[if_neg (by omega)];simp
    have f:∀b,(w.freeze b 1).os=w.os/\(w.freeze b 1).tape=w.tape/\(w.freeze b 1).output=w.output:=by
      intro b;unfold World.freeze;rw[if_neg (by omega)];exact by simp_all
    refine⟨_,_,w.freeze ⟨d.b,c.size,none⟩ 1,rfl,?_,⟨.slice l off n cap o d i C t D,?_,FR.set i u j a (f _).1 (f _).2.1 (f _).2.2,Gr.same (jO _)⟩⟩
    ·have k:(Go.shape d.b).run P0 w = .ok (some (v,c.size)) w:=by
       show Result.ok (w.shape? d.b) w=_;unfold World.shape?;rw[b1]
     simp_all[convert,yo,gg,wX,beq_self_eq_true,markStringish,run_freeze]
    ·refine m.set i B rfl u (λh=>h) ⟨a1,a2,a3,u,λ_=>⟨c,v,_,z,b2,λ_=>?_,G,H⟩⟩ j a
     grind
 ·cases hv
end
section
variable{Δ:Env}{h:Hp}{w:World}{n:Nat}{t:Tm}{a:Act}
theorem Wy(f:WR Δ h w) {ty o p:Nat} (q:P0.underlying ty=some (.map o p)) {m:V} {i:Value} (j:fR Δ m i) {r:R} (hv:Nn m h=some r) :
  ∃v h' e x w',r = .val v h'/\(Instr.range ty i).run P0 w = .ok x w'/\zX Δ h w v h' e x w':=by
 unfold Nn at hv;split at hv
 ·cases hv;cases j
  have a:Made Δ (.iter none 0 [] 0) (λl=> .ptr l 0) (.mapIter none 0 #[] 0) (λb=> .pointer (some ⟨b,0,none⟩)):=λl b k=>
   ⟨⟨b,0,0,0,0,false,2⟩,rfl,⟨rfl,rfl,rfl,none,rfl,rfl⟩,fR.ptr l 0 ⟨b,0,0,0,0,false,2⟩ (Env.xy _ _ _)⟩
  obtain⟨e,a1,a2,a3,g⟩:=f.alloc a;exact⟨_,_,e,_,_,rfl,by simp_all[Instr.range,gg],a2,a1,a3,g⟩
 ·rename_i l;rw[A2]at hv;obtain⟨y,c,s,hv⟩:=hv;cases hv
  cases j with
  | map _ d n=>
    obtain⟨t,hb,z⟩:=JH f n s
    have a:Made Δ (.iter (some l) c [] c) (λl=> .ptr l 0) (.mapIter (some d.b) c #[] c) (λb=> .pointer (some ⟨b,0,none⟩)):=λu b k=>
      ⟨⟨b,0,0,0,0,false,2⟩,rfl,⟨rfl,rfl,rfl,some d.b,rfl,d,Env.zM k _ _ n,rfl⟩,fR.ptr u 0 ⟨b,0,0,0,0,false,2⟩ (Env.xy _ _ _)⟩
    obtain⟨e,a1,a2,a3,g⟩:=f.alloc a;exact⟨_,_,e,_,_,rfl,by simp[Instr.range,gg q,run_getObj_map hb],a2,a1,a3,g⟩
 ·cases hv
theorem vh{r:Nat}{m:Option Nat}{s l:Nat}{seen:Array Nat}(a:w.heap[r]? =some (.mapIter m s seen l)):(getObj r).run P0 w = .ok (.mapIter m s seen l) w:=by grind[getObj,Sem.run]
theorem T0{b:List (V×V×Nat)} {a:List MapEntry} (c:vm Δ b a) (p:Nat->Bool):vm Δ (b.filter λe=>p e.2.2) (a.filter λe=>p e.born):=by
 induction c with
 |nil=>exact .nil
 | cons k v n e b a d hv hb _ f=>
   subst hb;simp only[wBn];by_cases hp:p e.born=true
   ·simp only[hp,if_true];exact .cons _ _ _ _ _ _ d hv rfl f
   simp_all
theorem zaV{b:List (V×V×Nat)} {a:List MapEntry} (c:vm Δ b a) (p:Nat->Bool):a.all (λe=>p e.born)=b.all λe=>p e.2.2:=by
 induction c <;> grind
theorem YZ(q:WR Δ h w) {it:V} {J:Value} {ty:Nat} (hi:fR Δ it J) {r:R} (hv:Ee it h=some r) :
  ∃v h' x w',r = .val v h'/\(Instr.next J false ty).run P0 w = .ok x w'/\zX Δ h w v h' Δ x w':=by
 unfold Ee at hv;rw[yg]at hv;obtain⟨O,off,rfl,hv⟩:=hv;rw[ie,fy]at hv;obtain⟨h0,o,K,hv⟩:=hv;have C:off=0:=Cr h0;subst C
 cases hi with
 | ptr _ _ d z=>
   obtain⟨o',M,N⟩:=q.obj O d z;rw[K]at M;cases M;split at hv
   ·cases hv
    obtain⟨a1,a2,a3,P,A,Q⟩:=N;subst Q;refine⟨_,_,_,w,rfl,?_,.tuple _ #[.bool false] (.one (.bool false)),q,.refl _ _,.refl _ _⟩;rw[a3];simp[Instr.next,vh A]
   ·rename_i m since seen last
    obtain ⟨a1,a2,a3,P,A,B,s,rfl⟩:=N;rw[A2]at hv;obtain⟨D,c,E,hv⟩:=hv;rw[ie]at hv;obtain⟨t,hv⟩:=hv;obtain⟨f,hb,F⟩:=JH q s E;have i:(!seen.toArray.isEmpty&&!f.isEmpty&&f.all (λe=>decide (e.born >= last)))=false:=by
      have S:f.isEmpty=D.isEmpty:=by
        have:=F.length;cases D <;> cases hes:f with|mk l=>grind
      have T:f.all (λe=>decide (e.born >= last))=D.all (λe=>Nat.ble last e.2.2):=by
        rw[<-Array.all_toList];have:=zaV F (λn=>Nat.ble last n);rw[<-this];congr 1;funext e;rw[Xz];simp[Nat.ble_eq]
      have U:seen.toArray.isEmpty=seen.isEmpty:=by simp
      rw[U,S,T];simpa only[wBg]using t
    have a:=T0 F (λn=>!seen.contains n);have j:(f.filter λe=>!seen.toArray.contains e.born)=Array.mk (f.toList.filter λe=>!seen.contains e.born):=by
      apply Array.ext';rw[Array.toList_filter];simp
    rw[a3];split at hv
    ·rename_i G
     cases hv;rw[G]at a;generalize (f.toList.filter λe=>!seen.contains e.born)=L at a j;cases a;refine⟨_,_,_,w,rfl,?_,.tuple _ #[.bool false] (.one (.bool false)),q,.refl _ _,.refl _ _⟩;simp only[Instr.next,yo,vh A,wX,run_getObj_map hb,i,j];simp[Question.forced]
    ·rename_i e G
     rw[ie]at hv;obtain⟨u,hv⟩:=hv;cases hv;rw[G]at a;generalize (f.toList.filter λe=>!seen.contains e.born)=L at a j
     cases a with
     | cons k v nb p _ L W hx H hs=>
       cases hs;have y:p.born<since:=by rw[Qq]at u;rw[H];exact u
       have X:=q.pE _ _ z;have g:∀b,b≠d.b->({w with heap:=w.heap.setIfInBounds d.b (.mapIter (some B.b) since (seen++[nb]).toArray c)}:World).heap[b]? =w.heap[b]?:=by grind
       refine ⟨_,_,_,{w with heap:=w.heap.setIfInBounds d.b (.mapIter (some B.b) since (seen++[nb]).toArray c)},rfl,?_,
         .tuple _ #[.bool true,p.key,p.val] (.cons _ _ _ _ (.bool true) (.cons _ _ _ _ W (.one hx))),?_,FR.set z a2 (by simp) g rfl rfl rfl,.same (jO _)⟩
       ·have I:¬(p.born >= since):=by omega
        have Y:(Array.mk [p]).filter (λx=>decide (x.born<since)) = #[p]:=by simp[y]
        have Z:(Array.mk [p]).filter (λx=>decide (x.born >= since)) = #[]:=by simp[I]
        simp only[Instr.next,yo,vh A,wX,run_getObj_map hb,i,j,Y,Z]
        simp_all[Question.forced,setObj,Sem.run]
       ·refine q.set z K rfl a2 (λh=>h) ⟨a1,a2,a3,some B.b,?_,B,s,rfl⟩ (by simp) g
        simp_all
    ·cases hv
   ·cases hv
theorem YG{b:List (V×V×Nat)} {a:List MapEntry} (f:vm Δ b a) (st:Nat) {e:V×V×Nat} (d:(b.find? λe=>Nat.beq e.2.2 st)=some e) :
  ∃c,(a.find? λe=>e.born == st)=some c/\fR Δ e.1 c.key/\fR Δ e.2.1 c.val:=by
 induction f with
 |nil=>cases d
 | cons k v n e0 b a h hv hb _ i=>
   subst hb;simp only[List.find?_cons]at d⊢;have g:(e0.born == st)=Nat.beq e0.born st:=by rw[Xz];simp
   grind
theorem Xb(q:WR Δ h w) {it:V} {s:Value} (hi:fR Δ it s) {r:R} (hv:Ur it h=some r) :
  ∃v x,r = .val v h/\(Instr.entry s).run P0 w = .ok x w/\fR Δ v x:=by
 unfold Ur at hv;rw[yg]at hv;obtain⟨u,off,rfl,hv⟩:=hv;rw[ie,fy]at hv;obtain⟨h0,o,y,hv⟩:=hv;have f:off=0:=Cr h0;subst f
 cases hi with
 | ptr _ _ d z=>
   obtain⟨G,t,A⟩:=q.obj u d z;rw[y]at t;cases t;split at hv
   ·rename_i m since seen last
    obtain⟨a1,a2,a3,H,B,I,g,rfl⟩:=A;rw[A2]at hv;obtain⟨J,c,i,hv⟩:=hv;simp only[ie,fy]at hv;obtain⟨hc,st,j,e,k,hv⟩:=hv;cases hv;obtain⟨l,hb,C⟩:=JH q g i;obtain⟨n,D,E,F⟩:=YG C st k;refine⟨_,.tuple #[n.key,n.val],rfl,?_,.tuple _ _ (.cons _ _ _ _ E (.one F))⟩;have p:c=last:=Cr hc;subst p;have a:seen.toArray.back? = some st:=by rw[List.back?_toArray];exact j
    have b:(l.find? λe=>e.born == st)=some n:=by rw[<-Array.find?_toList];exact D
    rw[a3];simp only[Instr.entry,yo,vh B,wX,a,run_getObj_map hb,bne_self_eq_false,Rq,if_false,Me,b]
   ·cases hv
theorem XO{f:V} {j:Value} {args:List V} {b:Array Value} {ty:Nat} {c:Go.Call} {op:Operand} (hc:c.callee = .value op) (k:a.eval op=j) (i:c.args.map a.eval=b) (m:fR Δ f j) (n:gQ Δ args b.toList) {r:R}
  (hv:gv f args=some r):∃g l gW,r = .call g l/\gQ Δ l gW.toList/\(do let d <-resolve a.eval c ty;invoke d.target d.args:Sem Next)=callFunc g gW:=by
 unfold gv at hv;split at hv
 ·cases hv
  cases m with
  | func _ _ _ e h o p=>
    refine⟨_,_,e++b++h,rfl,?_,?_⟩
    ·simp only[Array.toList_append,Lb]
     exact o.append (n.append p)
    ·simp only[resolve,hc,k,i,Deferred.ofValue]
     rfl
 ·cases hv
theorem UD(Y:WR Δ h w) {j:String} {r:V} {W:Value} {args:List V} {n:Array Value} {ty:Nat} {c:Go.Call} {op:Operand} (hc:c.callee = .invoke op j) (Z:a.eval op=W) (J:c.args.map a.eval=n)
  (hr:fR Δ r W) (X:gQ Δ args n.toList) {x:R} (hv:PX j r args h=some x) :
  ∃g l gW,x = .call g l/\gQ Δ l gW.toList/\(do let d <-resolve a.eval c ty;invoke d.target d.args:Sem Next).run P0 w=(callFunc g gW).run P0 w:=by
 unfold PX at hv;split at hv
 ·rename_i t v
  cases hr with
  | iface _ _ q K=>
    have A:(do let d <-resolve a.eval c ty;invoke d.target d.args:Sem Next)=callMethod (.iface t q) j n:=by
      simp only[resolve,hc,Z,J];show invoke (.fn (.method j) #[]) (#[.iface t q]++n)=_;have C:(#[Value.iface t q]++n)[0]? =some (.iface t q):=by
        rw[Array.getElem?_append_left (by simp)];rfl
      have D:(#[Value.iface t q]++n).extract 1 (#[Value.iface t q]++n).size=n:=by
        apply Array.ext';simp
      simp only[invoke,C,D]
    have u:∀{f:Nat} {o:Option Nat},methodOf t j=some (f,o)->∃i m b,P0.info? t=some i/\i.methods.find? (λm=>m.name == j)=some m/\m.path = #[]/\m.func=some (f,b)/\
        ((∃e,P0.underlying t=some (.pointer e)/\((b=true/\o=none)\/(b=false/\o=some e)))\/(b=false/\o=none/\∃L,P0.underlying t=some L/\∀e,L≠ .pointer e)):=by
      intro f o s;unfold methodOf at s;rw[fy]at s;obtain⟨i,hi,s⟩:=s;split at s
      ·rename_i m hf
       refine⟨i,m,?_⟩;have aa:i.methods.find? (λm=>m.name == j)=some m:=by rw[<-Array.find?_toList];exact hf
       split at s
       ·simp_all
       ·simp_all
       ·simp_all
       ·cases s
      ·cases s
    obtain⟨fuel,E⟩:∃k,P0.types.size+Made.depth=k+1:=⟨P0.types.size+99,rfl⟩
    split at hv
    ·rename_i f s
     cases hv;obtain⟨i,m,b,C,D,M,N,O⟩:=u s;refine⟨f,_,#[q]++n,rfl,by simp only[Array.toList_append];exact .cons _ _ _ _ K X,?_⟩;rw[A];have z:(receiverAt t (.val q) b (some ((j.splitOn ".").getLastD j))).run P0 w = .ok q w:=by
       rcases O with⟨e,F,⟨rfl,_⟩|⟨_,B⟩⟩|⟨rfl,_,L,F,ab⟩
       ·simp_all[receiverAt,gg,Place.get]
       ·cases B
       ·simp only[receiverAt,yo,gg F,wX]
        rfl
     have P:(method (P0.types.size+Made.depth) t q j).run P0 w = .ok (f,q) w:=by
       rw[E];simp only[method,yo,typeInfo,run_program,wX,C,Me,D,M,N,follow,z,Array.isEmpty,Array.size_empty,if_true,decide_true]
     grind[callMethod,yo,run_program,wX]
    ·rename_i f e s
     rw[fy]at hv;obtain⟨y,hy,hv⟩:=hv;cases hv;obtain⟨i,m,b,C,D,M,N,O⟩:=u s;have Q:P0.underlying t=some (.pointer e)/\b=false:=by
       rcases O with⟨e',F,⟨_,B⟩|⟨hb,B⟩⟩|⟨_,B,_⟩
       ·cases B
       ·simp_all
       ·cases B
     obtain ⟨F,rfl⟩:=Q;obtain⟨I,S,T⟩:=Of (t:= .tree .leaf []) (xv:=q) Y (by simp_all) hy;refine⟨f,_,#[I]++n,rfl,by simp only[Array.toList_append];exact .cons _ _ _ _ T X,?_⟩;rw[A];have G:∃ad,q = .pointer (some ad):=by
       cases q with
       | pointer p=>cases p with
         |some ad=>simp_all
         |none=>simp_all[Instr.loadAt,Instr.sureAddr]
       |_=>simp_all[Instr.loadAt,Instr.sureAddr]
     obtain⟨ad,rfl⟩:=G;have U:(loadVar e ad).run P0 w = .ok I w:=by simpa[Instr.loadAt,Instr.sureAddr]using S
     have z:(receiverAt t (.val (.pointer (some ad))) false (some ((j.splitOn ".").getLastD j))).run P0 w = .ok I w:=by
       have H:∀s1 s2,(Builtin.ssaWrapNilChk_ #[t] t #[.pointer (some ad),strVal s1,strVal s2]).run P0 w = .ok (.pointer (some ad)) w:=λ_ _=>rfl;simp only[receiverAt,yo,gg F,wX,Place.get,Me,H,asAddr,U]
     have P:(method (P0.types.size+Made.depth) t (.pointer (some ad)) j).run P0 w = .ok (f,I) w:=by
       rw[E];simp only[method,yo,typeInfo,run_program,wX,C,Me,D,M,N,follow,z,Array.isEmpty,Array.size_empty,if_true,decide_true]
     grind[callMethod,yo,run_program,wX]
    ·cases hv
 ·cases hv
theorem Yk(i:WR Δ h w) (u:TR Δ n t a) {o:Oper} {r:R} (hv:(kO o).f t h=some r) :
  (∃v h' I x w',r = .val v h'/\((execOp a.eval o).run P0 w = .ok (.value x) w'\/(x=undef/\(execOp a.eval o).run P0 w = .ok .skip w'))/\zX Δ h w v h' I x w')\/
  (∃g l gW,r = .call g l/\gQ Δ l gW.toList/\(execOp a.eval o).run P0 w=(callFunc g gW).run P0 w):=by
 obtain⟨dst,op,D,pos,af,gd⟩:=o
 cases op with
 | store ty p x=>
   simp only[kO]at hv;split at hv
   ·rename_i size T
    simp only[fy,yg,ie]at hv;obtain⟨pv,q,v,j,l,off,rfl,B,h',N,Y⟩:=hv;cases Y;obtain⟨w',r1,r2,r3,J⟩:=W7 i T (lU i u q) (lU i u j) B N;exact .inl ⟨_,_,Δ,undef,w',rfl,.inr ⟨rfl,by simp_all[execOp]⟩,.undef Δ,r2,r3,J⟩
   ·cases hv
 | mapUpdate ty m k x=>
   simp only[kO]at hv;split at hv
   ·rename_i U V E
    split at hv
    ·rename_i d K
     simp only[fy]at hv;obtain⟨O,q,kv,j,xv,B,N⟩:=hv;obtain⟨h',w',rfl,r1,r2,r3,J⟩:=Vr i E K (lU i u q) (lU i u j) (lU i u B) N;exact .inl ⟨_,_,Δ,undef,w',rfl,.inr ⟨rfl,by simp_all[execOp]⟩,.undef Δ,r2,r3,J⟩
    ·cases hv
   ·cases hv
 | insert ty m k x=>
   simp only[kO]at hv;split at hv
   ·rename_i U V E
    split at hv
    ·rename_i d K
     simp only[fy]at hv;obtain⟨O,q,kv,j,xv,B,N⟩:=hv;obtain⟨h',w',rfl,r1,r2,r3,J⟩:=Vr i E K (lU i u q) (lU i u j) (lU i u B) N;exact .inl ⟨_,_,Δ,undef,w',rfl,.inr ⟨rfl,by simp_all[execOp]⟩,.undef Δ,r2,r3,J⟩
    ·cases hv
   ·cases hv
 | range ty x=>
   simp only[kO]at hv;split at hv
   ·rename_i U V E
    simp only[fy]at hv;obtain⟨O,q,j⟩:=hv;obtain⟨v,h',I,y,w',rfl,r1,r2⟩:=Wy i E (lU i u q) j;exact .inl ⟨_,_,I,y,w',rfl,.inl (nK r1),r2⟩
   ·cases hv
 | next x isS=>
   cases isS with
   |true=>cases hv
   | false=>
     simp only[kO,fy]at hv;obtain⟨O,q,j⟩:=hv;obtain⟨v,h',y,w',rfl,r1,r2⟩:=YZ (ty:=D) i (lU i u q) j
     exact .inl ⟨_,_,Δ,y,w',rfl,.inl (nK r1),r2⟩
 | entry x=>
   simp only[kO,fy]at hv;obtain⟨O,q,j⟩:=hv;obtain⟨v,y,rfl,r1,r2⟩:=Xb i (lU i u q) j
   exact .inl ⟨_,_,Δ,y,w,rfl,.inl (nK r1),r2,i,.refl _ _,.refl _ _⟩
 | convert src P x=>
   simp only[kO]at hv;split at hv
   ·rename_i e hs K
    split at hv
    ·rename_i M T
     simp only[fy]at hv;obtain⟨xv,q,j⟩:=hv;have hx:=lU i u q;split at j
     ·cases j
      generalize hy:a.eval x=y at hx
      cases hx with
      | str s=>
        obtain⟨I,z,w',r1,r2⟩:=V7 i hs K M s;refine .inl ⟨_,_,I,z,w',rfl,.inl (nK ?_),r2⟩
        simp_all
     ·cases j
    ·cases hv
   ·rename_i e0 e hs K
    split at hv
    ·rename_i M hb
     simp only[fy]at hv;obtain⟨xv,q,j⟩:=hv;have hx:=lU i u q;generalize hy:a.eval x=y at hx;obtain⟨Z,h',w',r1,r3,r2⟩:=Yj i hx (src:=src) (dst:=P) (e0:=e0) (e:=e) hs K M (Cr hb) j;refine .inl ⟨Z,h',Δ,y,w',r1,.inl (nK ?_),r2⟩
     simp_all
    ·cases hv
   ·cases hv
 | call c =>
   obtain⟨W,args,F⟩:=c
   cases W with
   | builtin b=>
     simp only[kO]at hv
     cases b with
     | append=>
       simp only at hv;split at hv
       ·rename_i s x sT xT A C
        have Q:args = #[s,x]:=by apply Array.ext';exact A
        have G:F = #[sT,xT]:=by apply Array.ext';exact C
        subst Q;subst G;split at hv
        ·rename_i L e' hs E
         have H:=Bf hs;split at hv
         ·rename_i size jP z M
          simp only[fy]at hv;obtain⟨sv,q,xv,j,B⟩:=hv;obtain⟨v,h',I,y,w',rfl,r1,r2⟩:=M3 (ty:=D) (xT:=xT) i H E (by simp_all) M (lU i u q) (lU i u j) B;refine .inl ⟨_,_,I,y,w',rfl,.inl ?_,r2⟩;simp only[execOp,resolve,List.map_toArray];exact nK r1
         ·cases hv
        ·rename_i L hs E
         have H:=Bf hs;split at hv
         ·rename_i size jP z M
          simp only[fy]at hv;obtain⟨sv,q,xv,j,B⟩:=hv;obtain⟨v,h',I,y,w',rfl,r1,r2⟩:=M3 (ty:=D) (xT:=xT) i H E (by simp_all) M (lU i u q) (lU i u j) B;refine .inl ⟨_,_,I,y,w',rfl,.inl ?_,r2⟩;simp only[execOp,resolve,List.map_toArray];exact nK r1
         ·cases hv
        ·cases hv
       ·cases hv
     | copy =>
       simp only at hv;split at hv
       ·rename_i d s dT S A C
        have Q:args = #[d,s]:=by apply Array.ext';exact A
        have G:F[0]? =some dT:=by rw[<-wBD,C];rfl
        subst Q;split at hv
        ·rename_i L hs
         have H:=Bf hs;split at hv
         ·rename_i size T
          simp only[fy]at hv;obtain⟨dv,q,sv,j,B⟩:=hv;obtain⟨h',m,w',rfl,r1,r2,r3,J⟩:=YO (rt:=D) i G H T (lU i u q) (lU i u j) B;refine .inl ⟨_,_,Δ,_,w',rfl,.inl ?_,.int _ _,r2,r3,J⟩;simp only[execOp,resolve,List.map_toArray];exact nK r1
         ·cases hv
        ·cases hv
       ·cases hv
     | delete=>
       simp only at hv;split at hv
       ·rename_i m k mT S A C
        have Q:args = #[m,k]:=by apply Array.ext';exact A
        have G:F[0]? =some mT:=by rw[<-wBD,C];rfl
        subst Q;split at hv
        ·rename_i U V E
         split at hv
         ·rename_i d K
          simp only[fy]at hv;obtain⟨O,q,kv,j,B⟩:=hv;obtain⟨h',w',rfl,r1,r2,r3,J⟩:=Uw (rt:=D) i G E K (lU i u q) (lU i u j) B;refine .inl ⟨_,_,Δ,_,w',rfl,.inl ?_,.tuple _ #[] .nil,r2,r3,J⟩;simp only[execOp,resolve,List.map_toArray];exact nK r1
         ·cases hv
        ·cases hv
       ·cases hv
     |_=>cases hv
   | value f=>
     simp only[kO,fy]at hv;obtain⟨fv,q,l,j,B⟩:=hv;obtain⟨g,l,gW,rfl,r1,r2⟩:=XO (a:=a) (c:=⟨.value f,args,F⟩) (ty:=D) (args:=l) rfl rfl rfl (lU i u q) (by simpa using Cu u j) B;refine .inr ⟨g,l,gW,rfl,r1,?_⟩
     grind[execOp]
   | invoke X m=>
     simp only[kO,fy]at hv;obtain⟨fv,q,l,j,B⟩:=hv;obtain⟨g,l,gW,rfl,r1,r2⟩:=UD (a:=a) (c:=⟨.invoke X m,args,F⟩) (ty:=D) i (args:=l) rfl rfl rfl (lU i u q) (by simpa using Cu u j) B
     exact .inr ⟨g,l,gW,rfl,r1,r2⟩
 |_=>cases hv
end
