/- Parts. -/
import Derived.Test.YtloecllhljfidaaGreatDoorM02
import Derived.Laws.AppendOwn
import Derived.Laws.NewFold
import Derived.Laws.IdiomStrings
set_option maxHeartbeats 4000000
namespace Go.Proofs.YtloecllhljfidaaGreatDoor.Hx
variable{b:List (V×V×Nat)}{h h':Hp}
structure Gr (h:Hp) (Δ:Env) (h':Hp) (a:Env):Prop where
 next:h.next<=h'.next
 none:∀l,Δ l = .none->l<h.next->a l = .none
theorem Gr.refl(h:Hp)(Δ:Env):Gr h Δ h Δ:=⟨iZ _,by simp_all⟩
theorem Gr.trans{c:Hp} {Δ e d:Env} (a:Gr h Δ h' e) (b:Gr h' e c d):Gr h Δ c d:=
 ⟨Gq a.next b.next,λl g f=>b.none l (a.none l g f) (Ep f a.next)⟩
theorem Gr.same{Δ:Env}(a:h.next<=h'.next):Gr h Δ h' Δ:=⟨a,by simp_all⟩
theorem Gr.set {Δ:Env} {d:D} (a:h.next<=h'.next):Gr h Δ h' (Δ.set h.next d):=
 ⟨a,by simp_all[Env.set,if_neg,TL]⟩
theorem WR.alloc{Δ:Env} {h:Hp} {w:World} (a:WR Δ h w) {ob:O} {mk:Nat->V} {c:Obj} {mv:Nat->Value} (e:Made Δ ob mk c mv) :
  ∃b,WR b (h.new ob) (w.alloc c)/\fZ b (mk h.next) (mv w.heap.size)/\FR Δ b w (w.alloc c)/\Gr h Δ (h.new ob) b:=by
 obtain⟨d,hb,f,hv⟩:=e h.next w.heap.size a.Il;exact⟨Δ.set h.next d,(a.more ob).lay a.Il (Pf _) (by rw[xN,if_pos rfl]) hb f,hv,FR.lay a.Il hb,Gr.set (PH _)⟩
theorem xE(g o e:Nat) (fr:Nat×Nat):∀(vs:List Value) (i:Nat) (cur:Array Value) (w:World),w.heap[g]? =some (.cells cur e fr)->(∀j,j<cur.size->¬(fr.1<=j/\j<fr.2))->
  o+i+vs.length<=cur.size->(∀v∈vs,v.oneCell' = true)->
  (storeCells ⟨g,o,none⟩ vs i).run P0 w = .ok () (w.setRow g (cur.toList.take (o+i)++vs++cur.toList.drop (o+i+vs.length)).toArray)
 | [],i,cur,w,hg,_,_,_=>by
   simp only[storeCells,Lg,List.length_nil,Nat.add_zero,wA1,Array.toArray_toList];rw[setRow_self w g cur e fr hg]
   rfl
 | v ::rest,i,cur,w,hg,hf,hl,f=>by
   have hi:o+i<cur.size:=by simp at hl;omega
   have a:w.cell? ⟨g,o+i,none⟩=some cur[o+i]:=by simp[World.cell?,hg,hi]
   have b:w.frozen? ⟨g,o+i,none⟩=false:=by
     have:=hf (o+i) hi;simp only[World.frozen?,hg];simpa using this
   have c:(store ((⟨g,o,none⟩:Addr).add i) v).run P0 w = .ok () (w.setRow g (cur.setIfInBounds (o+i) v)):=by
     rw[uR,run_store P0 w _ v _ (by simp_all),a];simp[b,setCell_eq_setRow w g (o+i) cur e fr v hg]
   have d:=xE g o e fr rest (i+1) (cur.setIfInBounds (o+i) v) (w.setRow g (cur.setIfInBounds (o+i) v)) (by grind[setRow_heap]) (by simp_all) (by grind) (by simp_all);simp only[storeCells,Lv,c,Pd,d,setRow_setRow];congr 3;have e:=list_seg_step cur.toList (o+i) v rest (by simp at hl⊢;omega)
   grind
theorem WH(l vs:List Value) (k:Nat) (hk:k+vs.length<=l.length) (j:Nat) :
  (l.take k++vs++l.drop (k+vs.length))[j]? =if k<=j/\j<k+vs.length then vs[j-k]? else l[j]?:=by
 rw[Pr,List.getElem?_append,Pw,wBi (by omega)]
 grind
theorem WR.set{Δ:Env} {h:Hp} {w w':World} (j:WR Δ h w) {l:Nat} {d:D} {o z:O} (B:Δ l=some d) (r:h.get l=some o) (s:o.live=true) (x:d.ro=false)
  (i:z.live=true->o.live=true) (I:TT Δ d z w'.heap[d.b]?) (C:w'.heap.size=w.heap.size) (hk:∀b,b≠d.b->w'.heap[b]? =w.heap[b]?):WR Δ (h.put l z) w' where
 fresh:=j.fresh
 nJ:=λm e n=>by rw[C];exact j.nJ m e n
 obj:=λm e n=>by
  by_cases he:l=m
  ·subst he;rw[B]at n;cases n;exact⟨z,by rw[qP _ _ (Hp.NC r),if_pos rfl],I⟩
  ·obtain ⟨p,t,A⟩:=j.obj m e n;refine⟨p,by simp_all[qP,Hp.NC,if_neg],?_⟩;by_cases hb:e.b=d.b
   ·have a:p.live=false:=by
     cases hp:p.live with
     |false=>rfl
     |true=>exact absurd hb.symm (j.apart l m d e o p B n he r t s hp (.inl x))
    cases p with
    | cells e' sz live ro cs=>
      obtain⟨a1,a2,a3,a4,_⟩:=A
      exact⟨a1,a2,a3,a4,λG=>by simp only[O.live]at a;rw[a]at G;cases G⟩
    |map K c=>cases a
   simp_all
 apart:=λm E e e' p H n u q hp f v k F=>by
  rw[qP _ _ (Hp.NC r)]at hp f;by_cases t:l=m
  ·subst t;rw[if_pos rfl]at hp;cases hp;rw[if_neg q]at f;exact j.apart l E e e' o H n u q r f (i v) k F
  ·rw[if_neg t]at hp;by_cases A:l=E
   ·subst A;rw[if_pos rfl]at f;cases f;exact j.apart m l e e' p o n u q hp r v (i k) F
   ·rw[if_neg A]at f;exact j.apart m E e e' p H n u q hp f v k F
 JN:=λg p y hp=>by
  rw[qP _ _ (Hp.NC r)]at hp;by_cases t:l=g
  ·subst t;exact j.JN l o y r
  ·rw[if_neg t]at hp;exact j.JN g p y hp
 zV:=j.zV
 V9:=j.V9.step (λb _ J=>hk b λe=>J ⟨l,d,B,x,e.symm⟩) (by simp_all)
theorem FR.set{Δ:Env} {w w':World} {l:Nat} {d:D} (f:Δ l=some d) (a:d.ro=false) (c:w'.heap.size=w.heap.size) (hk:∀b,b≠d.b->w'.heap[b]? =w.heap[b]?)
  (g:w'.os=w.os) (h:w'.tape=w.tape) (i:w'.output=w.output):FR Δ Δ w w':=
 ⟨Env.le_refl _,Nat.le_of_eq c.symm,g,h,i,λb _ hb=>hk b λe=>hb ⟨l,d,f,a,e.symm⟩,by simp_all⟩
theorem WR.kill{Δ:Env} {h:Hp} {w:World} (a:WR Δ h w) {l e sz:Nat} {cs:List V} (c:h.get l=some (.cells e sz true false cs)) {d:D} (f:Δ l=some d) :
  WR Δ (h.put l (.cells e sz false false cs)) w/\(∀m d' p,m≠l->Δ m=some d'->h.get m=some p->p.live=true->d'.b≠d.b)/\d.ro=false:=by
 obtain⟨o,j,k⟩:=a.obj l d f;rw[c]at j;cases j;obtain⟨a1,a2,a3,a4,q⟩:=k;refine⟨a.set f c rfl a4 (λh=>(nomatch h)) ⟨a1,a2,a3,a4,λh=>(nomatch h)⟩ rfl (by simp_all),λm d' p g n hp i=>?_,a4⟩;exact a.apart m l d' d p _ n f g hp c i rfl (.inr a4)
section
variable{Δ:Env}{h:Hp}{w:World}{n:Nat}{t:Tm}{a:Act}
theorem Wv(r:WR Δ h w) {l:Nat} {d:D} (m:Δ l=some d) {off:Nat} {new:List V} {Ve:List Value} (n:gW Δ new Ve) {h':Hp} (hv:Ky h l off new=some h') :
  ∃w',(storeCells ⟨d.b,d.base+off,none⟩ Ve 0).run P0 w = .ok () w'/\WR Δ h' w'/\FR Δ Δ w w':=by
 unfold Ky at hv;rw[mQ]at hv;obtain⟨e,sz,live,ro,cs,s,hv⟩:=hv;simp only[jf,fR]at hv;obtain⟨rfl,p,f,qY,hs,hv⟩:=hv;cases hv;have g:ro=false:=by simpa using p
 subst g;obtain⟨oS,t,q⟩:=Me hs;obtain⟨o,u,y⟩:=r.obj l d m;rw[s]at u;cases u;obtain⟨a1,a2,a3,a4,z⟩:=y;obtain⟨c,e',fr,b1,b2,b3,C,E⟩:=z rfl;have A:=n.length;have j:d.base+off+Ve.length<=c.size:=by omega
 have a:=xE d.b (d.base+off) e' fr Ve 0 c w b1 (by grind) (by omega) (n.zeD f);simp only[Nat.add_zero]at a;refine⟨_,a,r.set m s rfl a4 (λh=>h) ⟨a1,a2,by omega,a4,λ_=>?_⟩ (by simp) (by grind[setRow_other]),FR.set m a4 (by simp) (by grind[setRow_other]) rfl rfl rfl⟩;refine⟨_,e',fr,setRow_heap w d.b c _ e' fr b1,?_,b3,by omega,λi v hi=>?_⟩
 ·grind
 ·rw [q i]at hi;have k:=WH c.toList Ve (d.base+off) (by simpa using j) (d.base+i);rw[List.getElem?_toArray,k];by_cases hin:off<=i/\i<off+new.length
  ·rw[if_pos hin]at hi;rw[if_pos (by omega)];obtain⟨x,hx,B⟩:=n.get _ _ hi
   grind
  grind
end
structure Km (Δ:Env) (h:Hp) (w:World) (v:V) (h':Hp) (a:Env) (x:Value) (w':World):Prop where
 val:fZ a v x
 world:WR a h' w'
 frame:FR Δ a w w'
 grow:Gr h Δ h' a
theorem WR.heap{Δ:Env} {h:Hp} {w w':World} (a:WR Δ h w) (b:w'.heap=w.heap):WR Δ h w':=
 ⟨a.fresh,λl d e=>by rw[b];exact a.nJ l d e,λl d e=>by rw[b];exact a.obj l d e,a.apart,a.JN,a.zV,λg c f=>by rw[b];exact a.V9 g c f⟩
theorem WR.zak{Δ:Env} {h:Hp} {w:World} (c:WR Δ h w) {l:Nat} {o:O} {d:D} (u:Δ l=none) (x:l<h.next) (C:h.get l=some o) (hb:d.b<w.heap.size)
  (E:TT (Δ.set l d) d o w.heap[d.b]?) (y:∀m d' p,Δ m=some d'->h.get m=some p->p.live=true->d'.b≠d.b) (z:RW Δ d.b):WR (Δ.set l d) h w where
 fresh:=λm e a=>by
  rcases Env.lX a with⟨rfl,rfl⟩|⟨_,a⟩
  ·exact x
  ·exact c.fresh m e a
 nJ:=λm e a=>by
  rcases Env.lX a with⟨rfl,rfl⟩|⟨_,a⟩
  ·exact hb
  ·exact c.nJ m e a
 obj:=λm e a=>by
  rcases Env.lX a with⟨rfl,rfl⟩|⟨_,a⟩
  ·simp_all
  ·let⟨o',f,j⟩:=c.obj m e a
   exact⟨o',f,j.mono (Env.AX u)⟩
 apart:=λm A e e' p B a k n hp q r i s=>by
  rcases Env.lX a with⟨f,j⟩|⟨_,f⟩ <;> rcases Env.lX k with⟨v,F⟩|⟨_,v⟩
  ·omega
  ·grind
  ·grind
  ·exact c.apart m A e e' p B f v n hp q r i s
 JN:=λg p t hp=>by
  let⟨e,f,j⟩:=c.JN g p t hp
  exact⟨e,Env.AX u _ _ f,j⟩
 zV:=c.zV
 V9:=c.V9.step (by simp_all) λm e a _=>by
  rcases Env.lX a with⟨rfl,rfl⟩|⟨_,a⟩
  ·simp_all
  simp_all
theorem FR.zak{Δ:Env} {w w':World} {l:Nat} {d:D} (c:Δ l=none) (h:FR Δ Δ w w') (f:RW Δ d.b):FR Δ (Δ.set l d) w w' where
 le:=Env.AX c
 size:=h.size
 os:=h.os
 tape:=h.tape
 output:=h.output
 fk:=h.fk
 new:=λm e a=>by
  rcases Env.lX a with⟨rfl,rfl⟩|⟨_,a⟩
  ·simp_all
  simp_all
theorem FR.drew{Δ a:Env}{w w':World}(h:FR Δ a w.drew w'):FR Δ a w w':=⟨h.le,h.size,h.os,h.tape,h.output,h.fk,h.new⟩
section
variable{Δ:Env}{h:Hp}{w:World}{n:Nat}{t:Tm}{a:Act}
theorem QE(e:WR Δ h w) {size:Nat} {x:V} {xv:Value} {m:Nat} {cs:List V} (hx:fZ Δ x xv) (hv:kX h size x=some (m,cs)) :
  ∃a,gW Δ cs a/\(∀w',(Builtin.lenOf xv).run P0 w' = .ok m w')/\(Builtin.firstCells size m xv).run P0 w = .ok (Array.mk a) w/\a.length=m*size:=by
 unfold kX at hv;split at hv
 ·cases hv;cases hx;exact⟨[],.nil,λ_=>rfl,rfl,by simp⟩
 ·cases hv;cases hx;exact⟨[],.nil,λ_=>rfl,by simp[Builtin.firstCells,loadCells,loadCellsFrom],by simp⟩
 ·rename_i l off k;rw[fR]at hv
  let⟨qY,b,f⟩:=hv
  cases f
  cases hx with
  | slice _ _ _ g o d i hk j n=>
    rcases n with⟨rfl,_,_⟩|⟨rfl,_⟩
    ·let⟨xs,p,c⟩:=Hm e i b
     exact⟨xs,c,λ_=>rfl,by grind[Builtin.firstCells],by rw[<-c.length,ZY b];rfl⟩
    omega
 ·cases hv
theorem sU{n o ty e:Nat} {i:TypeDesc} (hs:P0.underlying n=some (.slice e)) (hx:P0.underlying o=some i) (hi:∀k,i≠ .int k) {size:Nat} (p:El e=some size)
  {base:Option Addr} {a c m:Nat} {x:Value} (hlen:(Builtin.lenOf x).run P0 w = .ok m w) {f:List Value} (g:(Builtin.firstCells size m x).run P0 w = .ok (Array.mk f) w)
  (d:a+m<=c) {w':World} (j:∀b,base=some b->(storeCells (b.add (a*size)) f 0).run P0 w = .ok () w') (q:base=none->w' = w) :
  (Builtin.append_ #[n,o] ty #[.slice base a c,x]).run P0 w = .ok (.slice base (a+m) c) w':=by
 have h:=AH (w:=w) p;have l:(match (generalizing:=false) i with| .int _=>true|_=>false)=false:=by cases i <;> first|rfl|simp_all
 cases base with
 | none=>
   cases q rfl
   simp[Builtin.append_,hH hs,hH hx,h,hlen,d,g]
 |some b=>simp[Builtin.append_,hH hs,hH hx,h,l,hlen,d,g,j b rfl]
theorem L3{r s ty c:Nat} {n:TypeDesc} (hs:P0.underlying r=some (.slice c)) (hx:P0.underlying s=some n) (hi:∀k,n≠ .int k) {size jL:Nat} {z:V}
  (v:elemOf c=some (size,jL,z)) {base:Option Addr} {a b m:Nat} {x:Value} (hlen:(Builtin.lenOf x).run P0 w = .ok m w) {d e:List Value}
  (f:(Builtin.firstCells size a (.slice base a b)).run P0 w.drew = .ok (Array.mk d) w.drew)
  (g:(Builtin.firstCells size m x).run P0 w.drew = .ok (Array.mk e) w.drew) (y:¬a+m<=b) (hb:(a+m)*jL<=70368744177664) (C:a+m<=70368744177664) :
  ∃t,t.size=size/\(Builtin.append_ #[r,s] ty #[.slice base a b,x]).run P0 w = .ok (.slice (some ⟨w.heap.size,0,none⟩) (a+m) (grownCap w (a+m) b c))
   (w.drew.alloc (.cells (Array.mk d++Array.mk e++Builtin.zeroCells t (grownCap w (a+m) b c-(a+m))) c)):=by
 let⟨hsz,hby,hzv,hpos,hzl,_⟩:=HU v
 let⟨zv,hzr,hzvr,i,hi',hzi⟩:=Dl hzv
 have o:(match (generalizing:=false) n with| .int _=>true|_=>false)=false:=by cases n <;> first|rfl|simp_all
 have A:i.bytes=jL:=by
  unfold zbx at hby;rw[fR]at hby
  let⟨i',h,p⟩:=hby
  rw[hi']at h;cases h;simpa using p
 have q:i.size=size:=by
  let⟨i',h,p⟩:=JL hsz
  rw[hi']at h;cases h;exact p
 have u:Builtin.nextslicecap (a+m) b*i.bytes<=281474976710656:=growslice_fits (by omega) (by grind);have j:¬(281474976710656<Builtin.nextslicecap (a+m) b*i.bytes):=by omega
 have l:¬(9223372036854775807<((a:Int)+(m:Int))):=by omega
 have B:=(hzvr λ_=>none).cells.length;refine⟨zv.cells,by simp_all,?_⟩;rw[<-q]at f g;have hq:(Question.appendCap (a+m) b c).forced=false:=rfl;simp[Builtin.append_,hH hs,hH hx,sizeOf,typeInfo,zeroValue,hi',hzi,o,hlen,y,l,j,hq,f,g,newRow,grownCap]
 grind
theorem UX(F : WR Δ h w) {sT xT ty f:Nat} {dx:TypeDesc} (hs:P0.underlying sT=some (.slice f)) (hx:P0.underlying xT=some dx) (hi:∀k,dx≠ .int k) {size jL:Nat} {z:V}
    (hz:elemOf f=some (size,jL,z)) {s x:V} {sv xv:Value} (M:fZ Δ s sv) (ab:fZ Δ x xv) {r:R} (hv:fi f size jL s x h=some r) :
    ∃v h' N y w',r = .val v h'/\(Builtin.append_ #[sT,xT] ty #[sv,xv]).run P0 w = .ok y w'/\Km Δ h w v h' N y w':=by
  let⟨hsz,hby,hzv,hpos,hzl,_⟩:=HU hz
  unfold fi at hv;rw[fR]at hv
  let⟨⟨m,cs⟩,h1,n⟩:=hv
  let⟨news,n1,n2,n3,n4⟩:=QE F ab h1
  have ak:WR Δ h w.drew:=F.heap rfl
  let⟨newsd,d1,d2,d3,d4⟩:=QE ak ab h1
  have al:cs.length=m*size:=by rw[n1.length,n4]
  cases hm:Nat.beq m 0 with
  | true=>
    have U:=Iw hm;subst U;have am:=wA9 (by simpa using n4);subst am;split at n
    ·cases n;cases M
     exact⟨_,_,Δ,_,w,rfl,sU hs hx hi hsz (n2 w) n3 (iZ _) (λb hb=>by cases hb) (λ_=>rfl),.ei,F,.refl _ _,.refl _ _⟩
    ·cases n
     cases M with
     | slice l off len q o d H hk I ho=>
       exact⟨_,_,Δ,_,w,rfl,sU hs hx hi hsz (n2 w) n3 I (λb hb=>rfl) (λ_=>rfl),.slice _ _ _ q o d H hk I ho,F,.refl _ _,.refl _ _⟩
    ·cases n
  | false =>
    have U:0<m:=Nat.pos_of_ne_zero λe=>by rw[e]at hm;cases hm
    simp only[hm,jf]at n;obtain⟨P,n⟩:=n
    have fresh:∀base a t g Ae h0,sv = .slice base a t->gW Δ Ae g->g.length=a*size->
        (Builtin.firstCells size a (.slice base a t)).run P0 w.drew = .ok (Array.mk g) w.drew->¬a+m<=t->(a+m)*jL<=70368744177664->a+m<=70368744177664->
        WR Δ h0 w->h0.next=h.next->
        ∃N y w',(Builtin.append_ #[sT,xT] ty #[sv,xv]).run P0 w = .ok y w'/\Km Δ h w (.slice h.next 0 (a+m)) (h0.new (.cells f size true false (Ae++cs))) N y w':=by
      intro base a t g Ae h0 ac Q J D W hb an ao B
      let⟨zc,hzc,hr⟩:=L3 (ty:=ty) hs hx hi hz (n2 w) D d3 W hb an
      have K:=grownCap_ge w (a+m) t f;generalize grownCap w (a+m) t f=nc at hr K
      have X:Made Δ (.cells f size true false (Ae++cs)) (λl=> .slice l 0 (a+m)) (.cells (Array.mk g++Array.mk newsd++Builtin.zeroCells zc (nc-(a+m))) f)
          (λb=> .slice (some ⟨b,0,none⟩) (a+m) nc):=by
        intro l b hn;have I:=Env.AX (d:=⟨b,0,size,(Ae++cs).length,nc*size,false,0⟩) hn;have ad:=Q.append d1;have hlen:(Ae++cs).length=(a+m)*size:=by rw[Lw,Q.length,J,al,YF]
        have aE:(a+m)*size<=nc*size:=wBs _ K;refine⟨⟨b,0,size,(Ae++cs).length,nc*size,false,0⟩,rfl,⟨rfl,rfl,rfl,rfl,λ_=>?_⟩,?_⟩
        ·refine Cg ?_ rfl (by show(Ae++cs).length<=nc*size;omega) λi u A=>?_
         ·show(Array.mk g++Array.mk newsd++Builtin.zeroCells zc (nc-(a+m))).size=nc*size
          simp[Array.size_append,List.size_toArray,size_zeroCells,hzc,J,d4];rw[<-YF,<-YF];congr 1;omega
         ·let⟨y,hy,hry⟩:=ad.get i u A
          refine⟨y,?_,hry.mono I⟩
          grind
        ·refine fZ.slice l 0 (a+m) nc 0 _ (Env.Du _ _ _) rfl K (.inl ⟨rfl,?_,?_⟩)
         ·simp_all
         ·show 0+0+nc*size<=nc*size;omega
      let⟨N,a1,a2,a3,a4⟩:=(ao.heap (w':=w.drew) rfl).alloc X
      have ap:Gr h Δ (h0.new (.cells f size true false (Ae++cs))) N:=⟨by rw[<-B];exact a4.next,λl hl G=>a4.none l hl (by rw[B];exact G)⟩
      rw[B]at a2;exact⟨N,_,_,ac▸hr,a2,a1,a3.drew,ap⟩
    split at n
    ·simp only[jf]at n
     let⟨h3,h4,h5⟩:=n
     cases h5;cases M;have O:=MY h3;have Y:=MY h4
     let⟨N,y,w',b1,b2⟩:=fresh none 0 0 [] [] h rfl .nil (by simp) rfl (by omega) (by simpa using O) (by simpa using Y) F rfl
     grind
    ·rename_i l off len
     rw[mQ]at n
     let⟨e,sz,live,ro,all,W,n⟩:=n
     simp only[jf]at n;obtain⟨rfl,aq,ae,n⟩:=n;have Z:=Iw ae;subst Z;have ag:ro=false:=by simpa using aq
     subst ag
     cases M with
     | slice _ _ _ q o d H hk I ho=>
       let⟨ob,hob,hr⟩:=F.obj l d H
       rw[W]at hob;cases hob
       let⟨a1,a2,a3,a4,a5⟩:=hr
       let⟨c,e',fr,b1,b2,b3,b5,b4⟩:=a5 rfl
       rw[a2]at ho;have aF:(len+m)*sz=len*sz+m*sz:=YF _ _ _;have aJ:=Nat.mul_pos U hpos
       cases hin:Nat.ble (Nat.add off (Nat.mul (Nat.add len m) sz)) all.length with
       | true =>
         simp only[hin,fR]at n
         let⟨qY,h3,h4⟩:=n
         cases h4;have aG:off+(len+m)*sz<=all.length:=MY hin;rcases ho with⟨rfl,L,ah⟩|⟨rfl,L⟩
         ·have j:len+m<=q:=by
            rcases Ub q (len+m)with G|K
            ·exfalso
             have:=Nat.mul_lt_mul_of_pos_right G hpos;omega
            ·exact K
          have ar:Ky h l (off+len*sz) cs=some (h.put l (.cells e sz true false qY)):=by
            unfold Ky;rw[mQ];refine⟨e,sz,true,false,all,W,?_⟩;simp only[jf,fR];exact⟨trivial,rfl,P,qY,h3,rfl⟩
          let⟨w',c1,c2,c3⟩:=Wv F H n1 ar
          refine⟨_,_,Δ,_,w',rfl,sU hs hx hi hsz (n2 w) n3 j (λb hb=>?_) (λhb=>by cases hb),?_,c2,c3,.same (iZ _)⟩
          ·cases hb
           rw[uR,Nat.add_assoc];exact c1
          ·exact .slice l off (len+m) q _ d H hk j (by simp_all)
         ·exfalso;omega
       | false =>
         simp only[hin,fR,jf]at n
         let⟨Ae,h3,hold1,h4,h5,h6⟩:=n
         cases h6;have Y:=MY h4;have au:=MY h5;have O:sub all off (len*sz)=some Ae:=h3
         let⟨hol,hog⟩:=sub_eq O
         let⟨hWk,hap,_⟩:=F.kill W H
         have aK:Lo h l off (len*sz)=some Ae:=by
           unfold Lo;rw[mQ];exact⟨e,sz,true,false,all,W,by rw[jf];exact⟨rfl,O⟩⟩
         by_cases j:len+m<=q
         ·rcases ho with⟨rfl,L,ah⟩|⟨rfl,L⟩
          ·have aH : (len+m)*sz<=q*sz:=wBs _ j
           have S:d.base+off+len*sz+news.length<=c.size:=by rw[n4];omega
           have D:=xE d.b (d.base+off+len*sz) e' fr news 0 c w b1 (by grind) (by simpa using S) (n1.zeD P);have aa:d.base+off+len*sz+news.length<=c.toList.length:=by simpa using S
           generalize hw':w.setRow d.b (c.toList.take (d.base+off+len*sz)++news++c.toList.drop (d.base+off+len*sz+news.length)).toArray=w' at D;have C:w'.heap.size=w.heap.size:=by rw[<-hw'];simp
           have E:∀b,b≠d.b->w'.heap[b]? =w.heap[b]?:=by grind[setRow_other]
           have ai:w'.heap[d.b]? =some (.cells (c.toList.take (d.base+off+len*sz)++news++c.toList.drop (d.base+off+len*sz+news.length)).toArray e' fr):=by
             rw[<-hw'];exact setRow_heap w d.b c _ e' fr b1
           have aj:WR Δ (h.put l (.cells e sz false false all)) w':=F.set H W rfl a4 (λh=>(nomatch h)) ⟨a1,a2,a3,a4,λh=>(nomatch h)⟩ C E;have aw:=FR.set H a4 C E (by rw[<-hw'];rfl) (by rw[<-hw'];rfl) (by rw[<-hw'];rfl);have hn:=F.Il;have T:=Env.AX (d:=⟨d.b,d.base+off,sz,(Ae++cs).length,d.asz,false,0⟩) hn
           refine ⟨_,_,Δ.set h.next ⟨d.b,d.base+off,sz,(Ae++cs).length,d.asz,false,0⟩,_,w',rfl,
             sU hs hx hi hsz (n2 w) n3 j (λb hb=>?_) (λhb=>by cases hb),?_,?_,aw.zak hn ⟨l,d,H,a4,rfl⟩,Gr.set (PH _)⟩
           ·cases hb
            rw[uR];exact D
           ·refine .slice h.next 0 (len+m) q (d.base+off) ⟨d.b,d.base+off,sz,(Ae++cs).length,d.asz,false,0⟩ (Env.Du _ _ _) rfl j (.inl ⟨rfl,?_,?_⟩)
            ·simp_all
            omega
           ·refine (aj.more (.cells f sz true false (Ae++cs))).zak (o:= .cells f sz true false (Ae++cs)) hn (Pf _) (by rw[xN];exact if_pos rfl) (by rw[C];exact F.nJ l d H) ⟨rfl,rfl,rfl,rfl,λ_=>?_⟩ (λm' d' p ax hp ay=>?_) ⟨l,d,H,a4,rfl⟩
            ·refine ⟨_,e',fr,ai,?_,λ_=>b3 a4,?_,λi v A=>?_⟩
             ·grind
             ·grind
             ·show ∃x,(List.toArray _)[d.base+off+i]? =some x/\_
              rw[List.getElem?_toArray,WH c.toList news _ aa];rw[List.getElem?_append]at A;by_cases G:i<Ae.length
              ·rw[if_pos G,hog i (by omega)]at A
               let⟨x,hx1,hx2⟩:=b4 _ _ A
               rw[if_neg (by omega)];exact⟨x,by rw[wBI,Nat.add_assoc];exact hx1,hx2.mono T⟩
              ·rw[if_neg G]at A
               let⟨x,hx1,hx2⟩:=n1.get _ _ A
               have aI:=(jo.1 A).1;rw[if_pos (by omega)];refine⟨x,?_,hx2.mono T⟩;rw[<-hx1];congr 1;omega
            ·have aA:=Nat.ne_of_gt (F.fresh _ _ ax)
             rw[xN]at hp;rw[if_neg (by exact aA)]at hp;rw[qP _ _ (F.fresh _ _ H)]at hp;by_cases he:l=m'
             ·subst he
              rw[if_pos rfl]at hp;cases hp;cases ay
             grind
          ·exfalso;omega
         ·have aB:∃g,gW Δ Ae g/\(Builtin.firstCells sz len (.slice (some ⟨d.b,o,none⟩) len q)).run P0 w.drew = .ok (Array.mk g) w.drew:=by
            rcases ho with⟨rfl,L,ah⟩|⟨rfl,L⟩
            ·grind[Hm,Builtin.firstCells]
            ·have aC:len=0:=by omega
             subst aC;have aD:=wA9 (by rw[hol];simp);subst aD;exact⟨[],.nil,by simp[Builtin.firstCells,loadCells,loadCellsFrom]⟩
          let⟨g,c1,c2⟩:=aB
          let⟨N,y,w',e1,e2⟩:=fresh _ len q g Ae (h.put l (.cells e sz false false all)) rfl c1 (by rw[<-c1.length,hol]) c2 j Y au hWk rfl
          exact⟨_,_,N,y,w',rfl,e1,e2⟩
    ·cases n
end
section
variable{Δ:Env}{h:Hp}{w:World}{n:Nat}{t:Tm}{a:Act}
theorem XY(b:WR Δ h w) {ty size:Nat} (j:El ty=some size) {l off:Nat} {v:V} {pv xv:Value} (hp:fZ Δ (.ptr l off) pv) (hx:fZ Δ v xv)
  (hlen:Nat.beq v.cells.length size=true) {h':Hp} (hs:Ky h l off v.cells=some h') :
  ∃w',(Instr.storeAt ty pv xv).run P0 w = .ok () w'/\WR Δ h' w'/\FR Δ Δ w w'/\Gr h Δ h' Δ:=by
 cases hp with
 | ptr _ _ d c=>
   have hc:=hx.cells
   let⟨w',k,f,g⟩:=Wv b c hc hs
   have i:=hc.length;have a:h'.next=h.next:=by
     unfold Ky at hs;rw[mQ]at hs
     let⟨e,sz,live,ro,cs,hg,hv⟩:=hs
     simp[jf,fR]at hv
     let⟨_,_,_,_,_,hv⟩:=hv
     cases hv;rfl
   refine⟨w',?_,f,g,.same (Nat.le_of_eq a.symm)⟩
   simp_all[Instr.storeAt,Instr.sureAddr,storeVar,AH]
theorem z6.get {a:List MapEntry} (h:z6 Δ b a) {i:Nat} {e:V×V×Nat} (hi:b[i]? =some e) :
  ∃e',a[i]? =some e'/\fZ Δ e.1 e'.key/\fZ Δ e.2.1 e'.val/\e'.born=e.2.2:=by
 induction h generalizing i <;> grind
theorem z6.set {a:List MapEntry} (h:z6 Δ b a) {i:Nat} {k v:V} {m:Nat} {e':MapEntry} (hk:fZ Δ k e'.key) (hv:fZ Δ v e'.val) (hb:e'.born=m) :
  z6 Δ (b.set i (k,v,m)) (a.set i e'):=by
 induction h generalizing i with
 |nil=>exact .nil
 | cons k0 g n j b a c d e hs f=>
   cases i with
   |zero=>exact .cons _ _ _ _ _ _ hk hv hb hs
   |succ i=>exact .cons _ _ _ _ _ _ c d e f
theorem z6.snoc {a:List MapEntry} (h:z6 Δ b a) {k v:V} {m:Nat} {e':MapEntry} (hk:fZ Δ k e'.key) (hv:fZ Δ v e'.val) (hb:e'.born=m) :
  z6 Δ (b++[(k,v,m)]) (a++[e']):=by
 induction h with
 |nil=>exact .cons _ _ _ _ _ _ hk hv hb .nil
 |cons k0 g n i b a c d e hs f=>exact .cons _ _ _ _ _ _ c d e f
theorem z6.erase {a:List MapEntry} (h:z6 Δ b a) {i:Nat}:z6 Δ (b.eraseIdx i) (a.eraseIdx i):=by
 induction h generalizing i with
 |nil=>exact .nil
 | cons k0 g n j b a c d e hs f=>
   cases i with
   |zero=>exact hs
   |succ i=>exact .cons _ _ _ _ _ _ c d e f
theorem Ji{k:V} {x y:Value} (m:Nat) (c:K3 k=true) (hx:fZ Δ k x) (b:fZ Δ k y):Instr.sameBits m x y=true:=by
 cases k <;> simp[K3]at c
 ·cases hx;cases b;grind[Instr.sameBits]
 ·cases hx;cases b;grind[Instr.sameBits]
 ·rename_i s
  cases hx with
  | str a=>
    generalize hs:a.data.toList=l at b
    cases b with
    | str d=>
      have:a=d:=by
        rw[ByteArray.ext_iff];exact Array.ext' hs
      subst this;have hb:(a == a)=true:=by show(a.data == a.data)=true;simp
      grind[Instr.sameBits]
theorem ZK(m:Nat) {cs:List V} {xs ys:List Value} (e:cs.all K3=true) (hx:gW Δ cs xs) (a:gW Δ cs ys):xs.length=ys.length/\(xs.zip ys).all (λp=>Instr.sameBits m p.1 p.2)=true:=by
 induction cs generalizing xs ys with
 |nil=>cases hx;cases a;simp_all
 | cons c cs f=>
   cases hx with
   | cons _ x _ xs hx b=>
     cases a with
     | cons _ y _ ys a d=>
       simp only[wBn,vU]at e
       let⟨g,h⟩:=f e.2 b d
       exact⟨by simp[g],by simp[ wBn];grind[Ji]⟩
theorem MV{k:V} {x y:Value} (m:Nat) (b:Mg k=true) (hx:fZ Δ k x) (a:fZ Δ k y):Instr.sameBits (m+1) x y=true:=by
 cases k with
 | agg cs=>
   cases hx with|agg _ xs hx=>cases a with|agg _ ys a=>
   let⟨c,d⟩:=ZK m b hx a
   simp_all[Instr.sameBits,vU]
 |_=>grind[Ji,Mg]
theorem map_set(g:WR Δ h w) {l:Nat} {d:D} (f:Δ l=some d) {j e:List (V×V×Nat)} {c c2:Nat} (i:h.get l=some (.map j c)) {S9:Array MapEntry} (k:z6 Δ e S9.toList) :
  (setObj d.b (.map S9 c2)).run P0 w = .ok () {w with heap:=w.heap.setIfInBounds d.b (.map S9 c2)}/\
  WR Δ (h.put l (.map e c2)) {w with heap:=w.heap.setIfInBounds d.b (.map S9 c2)}/\FR Δ Δ w {w with heap:=w.heap.setIfInBounds d.b (.map S9 c2)}:=by
 let⟨o,ho,hr⟩:=g.obj l d f
 rw[i]at ho;cases ho
 let⟨a1,a2,a3,es',n,p⟩:=hr
 have m:=g.nJ l d f;have a:∀b,b≠d.b->({w with heap:=w.heap.setIfInBounds d.b (.map S9 c2)}:World).heap[b]? =w.heap[b]?:=by grind
 refine⟨by grind[setObj,Sem.run],g.set f i rfl a2 (λh=>h) ⟨a1,a2,a3,S9,?_,k⟩ (by simp) a,FR.set f a2 (by simp) a rfl rfl rfl⟩
 simp_all
theorem zbO(g:WR Δ h w) {x j A:Nat} (y:P0.underlying x=some (.map j A)) {d:Option (List Field)} (z:K9 j=some d) {m k v:V} {mv kv vv:Value} (B:fZ Δ m mv) (hk:fZ Δ k kv) (hx:fZ Δ v vv)
  {r:R} (hv:MT j d m k v h=some r):∃h' w',r = .val .undef h'/\(Instr.mapUpdate x mv kv vv).run P0 w = .ok () w'/\WR Δ h' w'/\FR Δ Δ w w'/\Gr h Δ h' Δ:=by
 unfold MT at hv;rw[jf]at hv
 let⟨hh,hv⟩:=hv
 split at hv
 ·rename_i l;simp[Ou,fR]at hv
  let⟨es,c,hg,ob,hp,hv⟩:=hv
  cases hv
  cases B with
  | map _ G n=>
    let⟨es',hb,he⟩:=VB g n hg
    have a:=yZ (em:=false) 9999 (by omega) w z hk hh;unfold LD at hp;rw[fR]at hp
    let⟨fr,hf,hp⟩:=hp
    let⟨fr',hf',hrel⟩:=EU z hk w he hf
    cases fr with
    | none=>
      cases hp
      cases fr' with
      |some _=>cases hrel
      | none=>
        obtain⟨o,q,s⟩:=map_set g n hg (S9:=es'.push {key:=kv,val:=vv,born:=c}) (by rw[Array.toList_push];exact he.snoc hk hx rfl);refine⟨_,_,rfl,?_,q,s,.same (iZ _)⟩
        simp[Instr.mapUpdate,Lv,hH y,run_getObj_map hb,a,hf',o]
    | some p=>
      let⟨i,u⟩:=p
      simp only[fR,jf]at hp
      let⟨e,he1,he2,hsk,hp⟩:=hp
      cases hp
      cases fr' with
      |none=>cases hrel
      | some C=>
        let⟨i',u'⟩:=C
        obtain⟨rfl,_⟩:=hrel
        let⟨e',D,E,H,F⟩:=he.get he1
        rw[V.eq_of_beq _ _ he2]at E;have t:Instr.sameBits 10000 e'.key kv=true:=by grind[MV]
        have b:es'[i]? =some e':=by simpa using D
        have f:(es'.modify i λe=>{e with key:=kv,val:=vv}).toList=es'.toList.set i {e' with key:=kv,val:=vv}:=by
          rw[Array.toList_modify];rw[List.modify_eq_set];simp[b]
        obtain⟨o,q,s⟩:=map_set g n hg (by rw[f];exact he.set hk hx F);refine⟨_,_,rfl,?_,q,s,.same (iZ _)⟩;simp[Instr.mapUpdate,Lv,hH y,Pd,run_getObj_map hb,a,hf',Instr.keyThatStays,b,Option.map_some,Option.getD_some,t,if_true,YJ,o]
 ·cases hv
theorem UN(g:WR Δ h w) {y o C rt:Nat} {j:Array Nat} (e:j[0]? =some y) (q:P0.underlying y=some (.map o C)) {d:Option (List Field)} (s:K9 o=some d) {m k:V} {mv kv:Value} (z:fZ Δ m mv) (hk:fZ Δ k kv)
  {r:R} (hv:Ci o d m k h=some r):∃h' w',r = .val (.tuple []) h'/\(Builtin.delete_ j rt #[mv,kv]).run P0 w = .ok (.tuple #[]) w'/\WR Δ h' w'/\FR Δ Δ w w'/\Gr h Δ h' Δ:=by
 unfold Ci at hv;rw[jf]at hv
 let⟨hh,hv⟩:=hv
 split at hv
 ·cases hv;cases z;have a:=yZ (em:=true) 9999 (by omega) w s hk hh;refine⟨h,w,rfl,?_,g,.refl _ _,.refl _ _⟩;simp[Builtin.delete_,e,hH q,a]
 ·rename_i l;simp[Ou,fR]at hv
  let⟨es,c,hg,fr,hf,hv⟩:=hv
  cases z with
  | map _ t v=>
    let⟨es',hb,he⟩:=VB g v hg
    have a:=yZ (em:=es'.isEmpty) 9999 (by omega) w s hk hh
    let⟨fr',hf',hrel⟩:=EU s hk w he hf
    cases fr with
    | none =>
      cases hv
      cases fr' with
      |some _=>cases hrel
      | none=>
        let⟨n,A,B⟩:=map_set g v hg (c2:=c) he
        have f:({w with heap:=w.heap.setIfInBounds t.b (.map es' c)}:World)=w:=by
          have:w.heap.setIfInBounds t.b (.map es' c)=w.heap:=by
            apply Array.ext_getElem?;intro i;by_cases hi:t.b=i
            ·grind
            ·simp_all
          rw[this]
        rw[f]at n;refine⟨h,w,rfl,?_,g,.refl _ _,.refl _ _⟩
        simp[Builtin.delete_,e,hH q,run_getObj_map hb,a,hf',n]
    | some p=>
      let⟨i,u⟩:=p
      cases hv
      cases fr' with
      |none=>cases hrel
      | some D=>
        let⟨i',u'⟩:=D
        obtain ⟨rfl,_⟩:=hrel;have x:(es'.eraseIdxIfInBounds i).toList=es'.toList.eraseIdx i:=by
          rw[Array.eraseIdxIfInBounds_eq];split
          ·rw[Array.toList_eraseIdx]
          ·grind[List.eraseIdx_of_length_le]
        obtain⟨n,A,B⟩:=map_set g v hg (by rw[x];exact he.erase);refine⟨_,_,rfl,?_,A,B,.same (iZ _)⟩;simp[Builtin.delete_,e,hH q,run_getObj_map hb,a,hf',n]
 ·cases hv
end
section
variable{Δ:Env}{h:Hp}{w:World}{n:Nat}{t:Tm}{a:Act}
end
section
variable{Δ:Env}{h:Hp}{w:World}{n:Nat}{t:Tm}{a:Act}
theorem Z0{f:V} {j:Value} {args:List V} {b:Array Value} {ty:Nat} {c:Go.Call} {op:Operand} (hc:c.callee = .value op) (k:a.eval op=j) (i:c.args.map a.eval=b) (m:fZ Δ f j) (n:gW Δ args b.toList) {r:R}
  (hv:gi f args=some r):∃g l ie,r = .call g l/\gW Δ l ie.toList/\(do let d <-resolve a.eval c ty;invoke d.target d.args:Sem Next)=callFunc g ie:=by
 unfold gi at hv;split at hv
 ·cases hv
  cases m with
  | func _ _ _ e h o p=>
    refine⟨_,_,e++b++h,rfl,?_,?_⟩
    ·simp[ Pr]
     exact o.append (n.append p)
    ·simp only[resolve,hc,k,i]
     rfl
 ·cases hv
theorem ZD(i:WR Δ h w) (j:TR Δ n t a) {o:Oper} {r:R} (hv:(mr o).f t h=some r) :
  (∃v h' I x w',r = .val v h'/\((execOp a.eval o).run P0 w = .ok (.value x) w'\/(x=undef/\(execOp a.eval o).run P0 w = .ok .skip w'))/\Km Δ h w v h' I x w')\/
  (∃g l ie,r = .call g l/\gW Δ l ie.toList/\(execOp a.eval o).run P0 w=(callFunc g ie).run P0 w):=by
 let⟨dst,op,oty,pos,af,gd⟩:=o
 cases op with
 | store ty p x=>
   simp[mr]at hv;split at hv
   ·rename_i size P
    simp only[fR,Bc,jf]at hv;obtain⟨pv,u,v,A,l,off,rfl,B,h',J,Q⟩:=hv;cases Q
    let⟨w',D,C,F,G⟩:=XY i P (yO i j u) (yO i j A) B J
    exact .inl ⟨_,_,Δ,undef,w',rfl,.inr ⟨rfl,by simp_all[execOp]⟩,.undef Δ,C,F,G⟩
   ·cases hv
 | mapUpdate ty m k x=>
   simp[mr]at hv;split at hv
   ·rename_i S T H
    split at hv
    ·rename_i d K
     simp[fR]at hv
     let⟨mv,u,kv,A,xv,B,J⟩:=hv
     obtain⟨h',w',rfl,D,C,F,G⟩:=zbO i H K (yO i j u) (yO i j A) (yO i j B) J;exact .inl ⟨_,_,Δ,undef,w',rfl,.inr ⟨rfl,by simp_all[execOp]⟩,.undef Δ,C,F,G⟩
    ·cases hv
   ·cases hv
 | call c =>
   let⟨cal,args,tys⟩:=c
   cases cal with
   | builtin b=>
     simp[mr]at hv
     cases b with
     | append=>
       simp only at hv;split at hv
       ·rename_i s x U V e q
        have L:args = #[s,x]:=by apply Array.ext';exact e
        have E:tys = #[U,V]:=by apply Array.ext';exact q
        subst L;subst E;split at hv
        ·rename_i N e' hs H
         have M:=JQ hs;split at hv
         ·rename_i size jL z W
          simp[fR]at hv
          let⟨sv,u,xv,A,B⟩:=hv
          obtain⟨v,h',I,y,w',rfl,D,C⟩:=UX i M H (by simp_all) W (yO i j u) (yO i j A) B;refine .inl ⟨_,_,I,y,w',rfl,.inl ?_,C⟩;simp[execOp,resolve];exact wU D
         ·cases hv
        ·cases hv
       ·cases hv
     | delete=>
       simp only at hv;split at hv
       ·rename_i m k X O e q
        have L:args = #[m,k]:=by apply Array.ext';exact e
        have E:tys[0]? =some X:=by rw[<-wBI,q];rfl
        subst L;split at hv
        ·rename_i S T H
         split at hv
         ·rename_i d K
          simp[fR]at hv
          let⟨mv,u,kv,A,B⟩:=hv
          obtain⟨h',w',rfl,D,C,F,G⟩:=UN i E H K (yO i j u) (yO i j A) B;refine .inl ⟨_,_,Δ,_,w',rfl,.inl ?_,.tuple _ #[] .nil,C,F,G⟩;simp[execOp,resolve];exact wU D
         ·cases hv
        ·cases hv
       ·cases hv
     |_=>cases hv
   | value f=>
     simp[mr,fR]at hv
     let⟨fv,u,l,A,B⟩:=hv
     obtain⟨g,l,ie,rfl,D,C⟩:=Z0 (c:=⟨.value f,args,tys⟩) (ty:=oty) rfl rfl rfl (yO i j u) (by simpa using Lh j A) B;refine .inr ⟨g,l,ie,rfl,D,?_⟩
     grind[execOp]
   |_=>cases hv
 |_=>cases hv
end
