/- Parts. -/
import Derived.Test.YtjgjgngfjopaaaaDoorM02
import Derived.Laws.AppendOwn
import Derived.Laws.NewFold
import Derived.Laws.IdiomStrings
namespace Go.Proofs.YtjgjgngfjopaaaaDoor.Hx
structure Gr (h:Hp) (Δ:Env) (h':Hp) (a:Env):Prop where
 next:h.next<=h'.next
 none:∀l,Δ l = .none->l<h.next->a l = .none
theorem Gr.refl(h:Hp)(Δ:Env):Gr h Δ h Δ:=⟨jj _,λ_ h _=>h⟩
theorem Gr.trans{h h' c:Hp} {Δ e d:Env} (a:Gr h Δ h' e) (b:Gr h' e c d):Gr h Δ c d:=
 ⟨Gt a.next b.next,λl g f=>b.none l (a.none l g f) (BL f a.next)⟩
theorem Gr.same{h h':Hp}{Δ:Env}(a:h.next<=h'.next):Gr h Δ h' Δ:=⟨a,λ_ h _=>h⟩
theorem Gr.set{h h':Hp} {Δ:Env} {d:D} (b:h.next<=h'.next):Gr h Δ h' (Δ.set h.next d):=
 ⟨b,λl c a=>by unfold Env.set;rw[if_neg (Qe a)];exact c⟩
theorem WR.alloc{Δ:Env} {h:Hp} {w:World} (a:WR Δ h w) {ob:O} {mk:Nat->V} {c:Obj} {mv:Nat->Value} (f:Made Δ ob mk c mv) :
  ∃b,WR b (h.new ob) (w.alloc c)/\fM b (mk h.next) (mv w.heap.size)/\FR Δ b w (w.alloc c)/\Gr h Δ (h.new ob) b:=by
 obtain⟨d,e,g,hv⟩:=f h.next w.heap.size a.Gf;exact⟨Δ.set h.next d,(a.more ob).lay a.Gf (KX _) (by rw[vM,if_pos rfl]) e g,hv,FR.lay a.Gf e,Gr.set (Nk _)⟩
theorem wB(g o e:Nat) (fr:Nat×Nat):∀(vs:List Value) (i:Nat) (cur:Array Value) (w:World),w.heap[g]? =some (.cells cur e fr)->(∀j,j<cur.size->¬(fr.1<=j/\j<fr.2))->
  o+i+vs.length<=cur.size->(∀v∈vs,v.oneCell' = true)->
  (storeCells ⟨g,o,none⟩ vs i).run P0 w = .ok () (w.setRow g (cur.toList.take (o+i)++vs++cur.toList.drop (o+i+vs.length)).toArray)
 | [],i,cur,w,hg,_,_,_=>by
   simp only[storeCells,Eo,XZ,X8,X5,Array.toArray_toList];rw[setRow_self w g cur e fr hg]
   rfl
 | v ::rest,i,cur,w,hg,hf,hl,d=>by
   have hi:o+i<cur.size:=by simp at hl;omega
   have a:w.cell? ⟨g,o+i,none⟩=some cur[o+i]:=by simp[World.cell?,hg,hi]
   have b:w.frozen? ⟨g,o+i,none⟩=false:=by
     have:=hf (o+i) hi;simp only[World.frozen?,hg];simpa using this
   have c:(store ((⟨g,o,none⟩:Addr).add i) v).run P0 w = .ok () (w.setRow g (cur.setIfInBounds (o+i) v)):=by
     rw[pb,run_store P0 w _ v _ (d v (by simp)),a];simp[b,setCell_eq_setRow w g (o+i) cur e fr v hg]
   have f:=wB g o e fr rest (i+1) (cur.setIfInBounds (o+i) v) (w.setRow g (cur.setIfInBounds (o+i) v)) (setRow_heap w g cur _ e _ hg) (by simpa using hf) (by simp at hl⊢;omega) (λx h=>d x (by simp[h]));simp only[storeCells,qh,c,py,f,setRow_setRow];congr 3;have e:=list_seg_step cur.toList (o+i) v rest (by simp at hl⊢;omega);simpa[wBz,YE]using e
theorem TW(l vs:List Value) (k:Nat) (c:k+vs.length<=l.length) (j:Nat) :
  (l.take k++vs++l.drop (k+vs.length))[j]? =if k<=j/\j<k+vs.length then vs[j-k]? else l[j]?:=by
 rw[Ek,List.getElem?_append,GX,wBx (by omega)];by_cases a:j<k
 ·rw[if_pos a,if_neg (by omega),Y0 a]
 ·rw[if_neg a,List.getElem?_append];by_cases b:j-k<vs.length
  ·rw[if_pos b,if_pos (by omega)]
  ·rw[if_neg b,if_neg (by omega),Vr];congr 1;omega
theorem MI(l vs:List Value) (k:Nat) (a:k+vs.length<=l.length):(l.take k++vs++l.drop (k+vs.length)).length=l.length:=by
 simp;omega
theorem WR.set{Δ:Env} {h:Hp} {w w':World} (j:WR Δ h w) {l:Nat} {d:D} {o C:O} (F:Δ l=some d) (r:h.get l=some o) (u:o.live=true) (z:d.ro=false)
  (i:C.live=true->o.live=true) (M:Ra Δ d C w'.heap[d.b]?) (G:w'.heap.size=w.heap.size) (J:∀b,b≠d.b->w'.heap[b]? =w.heap[b]?):WR Δ (h.put l C) w' where
 fresh:=j.fresh
 nW:=λm e n=>by rw[G];exact j.nW m e n
 obj:=λm e n=>by
  by_cases he:l=m
  ·subst he;rw[F]at n;cases n;exact⟨C,by rw[pK _ _ (Hp.LR r),if_pos rfl],M⟩
  ·obtain ⟨p,t,A⟩:=j.obj m e n;refine⟨p,by rw[pK _ _ (Hp.LR r),if_neg he];exact t,?_⟩;by_cases hb:e.b=d.b
   ·have a:p.live=false:=by
     cases hp:p.live with
     |false=>rfl
     |true=>exact absurd hb.symm (j.apart l m d e o p F n he r t u hp (.inl z))
    cases p with
    | cells E sz live ro cs=>
      obtain⟨a1,a2,a3,a4,_⟩:=A
      exact⟨a1,a2,a3,a4,λK=>by simp only[O.live]at a;rw[a]at K;cases K⟩
    |map P c=>cases a
    |iter m s x c=>cases a
   ·rw[J _ hb];exact A
 apart:=λm H e E p L n v q hp f y k I=>by
  rw[pK _ _ (Hp.LR r)]at hp f;by_cases t:l=m
  ·subst t;rw[if_pos rfl]at hp;cases hp;rw[if_neg q]at f;exact j.apart l H e E o L n v q r f (i y) k I
  ·rw[if_neg t]at hp;by_cases A:l=H
   ·subst A;rw[if_pos rfl]at f;cases f;exact j.apart m l e E p o n v q hp r y (i k) I
   ·rw[if_neg A]at f;exact j.apart m H e E p L n v q hp f y k I
 HL:=λg p B hp=>by
  rw[pK _ _ (Hp.LR r)]at hp;by_cases t:l=g
  ·subst t;exact j.HL l o B r
  ·rw[if_neg t]at hp;exact j.HL g p B hp
 yJ:=j.yJ
 Ts:=j.Ts.step (λb _ N=>J b λe=>N ⟨l,d,F,z,e.symm⟩) λ_ _ h _=> .inl h
theorem FR.set{Δ:Env} {w w':World} {l:Nat} {d:D} (f:Δ l=some d) (a:d.ro=false) (c:w'.heap.size=w.heap.size) (g:∀b,b≠d.b->w'.heap[b]? =w.heap[b]?)
  (i:w'.os=w.os) (j:w'.tape=w.tape) (k:w'.output=w.output):FR Δ Δ w w':=
 ⟨Env.le_refl _,X2 c.symm,i,j,k,λb _ m=>g b λe=>m ⟨l,d,f,a,e.symm⟩,λ_ _ h=> .inl h⟩
theorem WR.kill{Δ:Env} {h:Hp} {w:World} (c:WR Δ h w) {l e sz:Nat} {cs:List V} (f:h.get l=some (.cells e sz true false cs)) {d:D} (g:Δ l=some d) :
  WR Δ (h.put l (.cells e sz false false cs)) w/\(∀m a p,m≠l->Δ m=some a->h.get m=some p->p.live=true->a.b≠d.b)/\d.ro=false:=by
 obtain⟨o,k,n⟩:=c.obj l d g;rw[f]at k;cases k;obtain⟨a1,a2,a3,a4,r⟩:=n;refine⟨c.set g f rfl a4 (λh=>(nomatch h)) ⟨a1,a2,a3,a4,λh=>(nomatch h)⟩ rfl (λ_ _=>rfl),λm a p i q hp j=>?_,a4⟩;exact c.apart m l a d p _ q g i hp f j rfl (.inr a4)
section
variable{Δ:Env}{h:Hp}{w:World}{n:Nat}{t:Tm}{a:Act}
theorem KR(z:WR Δ h w) {l:Nat} {d:D} (p:Δ l=some d) {off:Nat} {new:List V} {Qs:List Value} (q:gM Δ new Qs) {h':Hp} (hv:Fl h l off new=some h') :
  ∃w',(storeCells ⟨d.b,d.base+off,none⟩ Qs 0).run P0 w = .ok () w'/\WR Δ h' w'/\FR Δ Δ w w':=by
 unfold Fl at hv;rw[kQ]at hv;obtain⟨e,sz,live,ro,cs,A,hv⟩:=hv;simp only[g0,ft]at hv;obtain⟨rfl,r,k,nQ,hs,hv⟩:=hv;cases hv;have m:ro=false:=by simpa using r
 subst m;obtain⟨lT,B,s⟩:=JR hs;obtain⟨o,C,E⟩:=z.obj l d p;rw[A]at C;cases C;obtain⟨a1,a2,a3,a4,F⟩:=E;obtain⟨c,t,fr,b1,b2,b3,G,H⟩:=F rfl;have I:=q.length;have a:d.base+off+Qs.length<=c.size:=by omega
 have f:=wB d.b (d.base+off) t fr Qs 0 c w b1 (λj J=>VX (b3 a4) j (by omega)) (by simpa using a) (q.zbJ k);simp only[X8]at f;refine⟨_,f,z.set p A rfl a4 (λh=>h) ⟨a1,a2,by rw[lT];exact a3,a4,λ_=>?_⟩ (by simp) (λb u=>setRow_other _ _ _ _ u),FR.set p a4 (by simp) (λb u=>setRow_other _ _ _ _ u) rfl rfl rfl⟩;refine⟨_,t,fr,setRow_heap w d.b c _ t fr b1,?_,b3,by rw[lT];exact G,λi v hi=>?_⟩
 ·have:=MI c.toList Qs (d.base+off) (by simpa using a);simp only[Ui]at this;rw[<-b2,<-this];rfl
 ·rw[s i]at hi;have n:=TW c.toList Qs (d.base+off) (by simpa using a) (d.base+i);rw[wB6,n];by_cases hin:off<=i/\i<off+new.length
  ·rw[if_pos hin]at hi;rw[if_pos (by omega)];obtain⟨x,y,g⟩:=q.get _ _ hi;refine⟨x,?_,g⟩;rw[<-y];congr 1;omega
  ·rw[if_neg hin]at hi;rw[if_neg (by omega)];obtain⟨x,y,g⟩:=H i v hi;exact⟨x,by simpa using y,g⟩
end
structure yQ (Δ:Env) (h:Hp) (w:World) (v:V) (h':Hp) (a:Env) (x:Value) (w':World):Prop where
 val:fM a v x
 world:WR a h' w'
 frame:FR Δ a w w'
 grow:Gr h Δ h' a
theorem WR.heap{Δ:Env} {h:Hp} {w w':World} (a:WR Δ h w) (b:w'.heap=w.heap):WR Δ h w':=
 ⟨a.fresh,λl d e=>by rw[b];exact a.nW l d e,λl d e=>by rw[b];exact a.obj l d e,a.apart,a.HL,a.yJ,λg c f=>by rw[b];exact a.Ts g c f⟩
theorem WR.WX{Δ:Env} {h:Hp} {w:World} (i:WR Δ h w) {l:Nat} {o:O} {d:D} (y:Δ l=none) (E:l<h.next) (F:h.get l=some o) (G:d.b<w.heap.size)
  (H:Ra (Δ.set l d) d o w.heap[d.b]?) (j:∀m z p,Δ m=some z->h.get m=some p->p.live=true->z.b≠d.b) (t:RW Δ d.b):WR (Δ.set l d) h w where
 fresh:=λm e a=>by
  rcases Env.lR a with⟨rfl,rfl⟩|⟨_,a⟩
  ·exact E
  ·exact i.fresh m e a
 nW:=λm e a=>by
  rcases Env.lR a with⟨rfl,rfl⟩|⟨_,a⟩
  ·exact G
  ·exact i.nW m e a
 obj:=λm e a=>by
  rcases Env.lR a with⟨rfl,rfl⟩|⟨_,a⟩
  ·exact⟨o,F,H⟩
  ·obtain⟨I,c,k⟩:=i.obj m e a;exact⟨I,c,k.mono (Env.yD y)⟩
 apart:=λm A e B p C a u n hp q r f v=>by
  rcases Env.lR a with⟨c,k⟩|⟨_,c⟩ <;> rcases Env.lR u with⟨s,J⟩|⟨_,s⟩
  ·exact absurd (c.trans s.symm) n
  ·rw[k];exact(j A B C s q f).symm
  ·rw[J];exact j m e p c hp r
  ·exact i.apart m A e B p C c s n hp q r f v
 HL:=λg p x hp=>by
  obtain⟨e,c,k⟩:=i.HL g p x hp;exact⟨e,Env.yD y _ _ c,k⟩
 yJ:=i.yJ
 Ts:=i.Ts.step (λ_ _ _=>rfl) λm e a _=>by
  rcases Env.lR a with⟨rfl,rfl⟩|⟨_,a⟩
  ·exact .inr (.inr t)
  ·exact .inl a
theorem FR.WX{Δ:Env} {w w':World} {l:Nat} {d:D} (f:Δ l=none) (h:FR Δ Δ w w') (a:RW Δ d.b):FR Δ (Δ.set l d) w w' where
 le:=Env.yD f
 size:=h.size
 os:=h.os
 tape:=h.tape
 output:=h.output
 fk:=h.fk
 new:=λm e c=>by
  rcases Env.lR c with⟨rfl,rfl⟩|⟨_,c⟩
  ·exact .inr (.inr a)
  ·exact .inl c
theorem FR.drew{Δ a:Env}{w w':World}(h:FR Δ a w.drew w'):FR Δ a w w':=⟨h.le,h.size,h.os,h.tape,h.output,h.fk,h.new⟩
section
variable{Δ:Env}{h:Hp}{w:World}{n:Nat}{t:Tm}{a:Act}
theorem N6(Δ:Env) (s:ByteArray):gM Δ (xC s.data.toList) (s.data.toList.map λb=>Value.int .u8 b.toNat):=by
 generalize s.data.toList=l
 induction l with
 |nil=>exact .nil
 |cons b l a=>exact .cons _ _ _ _ (.int .u8 _) a
theorem NY(j:WR Δ h w) {size:Nat} {x:V} {xv:Value} {m:Nat} {cs:List V} (b:fM Δ x xv) (hv:lC h size x=some (m,cs)) :
  ∃a,gM Δ cs a/\(∀w',(Builtin.lenOf xv).run P0 w' = .ok m w')/\(Builtin.firstCells size m xv).run P0 w = .ok (Array.mk a) w/\a.length=m*size:=by
 unfold lC at hv;split at hv
 ·cases hv;cases b;exact⟨[],.nil,λ_=>rfl,rfl,by simp⟩
 ·cases hv;cases b;exact⟨[],.nil,λ_=>rfl,by simp[Builtin.firstCells,loadCells,loadCellsFrom],by simp⟩
 ·rename_i l off k;rw[ft]at hv;obtain⟨nQ,c,e⟩:=hv;cases e
  cases b with
  | slice _ _ _ cap o d n t f p=>
    rcases p with⟨rfl,_,_⟩|⟨rfl,_⟩
    ·obtain⟨xs,q,i⟩:=vQ j n c
     exact⟨xs,i,λ_=>rfl,by simpa[Builtin.firstCells]using q,by rw[<-i.length,Q9 c];rfl⟩
    ·simp at f
 ·rename_i s;rw[g0]at hv;obtain⟨c,e⟩:=hv;cases e;have g:size=1:=vK c;subst g
  cases b with
  | str s=>
    refine ⟨_,N6 Δ s,λ_=>by simp[Builtin.lenOf],?_,by simp⟩;have r:s.extract 0 s.size=s:=by
      rw[ByteArray.ext_iff];simp
    simp only[Builtin.firstCells];have:s.data.toList.length=s.size:=by simp
    rw[this,r];simp only[Gk];congr 1;apply Array.ext';simp
 ·cases hv
theorem qH{n xT ty e:Nat} {j:TypeDesc} (hs:P0.underlying n=some (.slice e)) (o:P0.underlying xT=some j) (hi:∀k,j≠ .int k) {size:Nat} (p:yq e=some size)
  {base:Option Addr} {a c m:Nat} {x:Value} (hlen:(Builtin.lenOf x).run P0 w = .ok m w) {f:List Value} (g:(Builtin.firstCells size m x).run P0 w = .ok (Array.mk f) w)
  (d:a+m<=c) {w':World} (l:∀b,base=some b->(storeCells (b.add (a*size)) f 0).run P0 w = .ok () w') (q:base=none->w' = w) :
  (Builtin.append_ #[n,xT] ty #[.slice base a c,x]).run P0 w = .ok (.slice base (a+m) c) w':=by
 have h:=vz (w:=w) p;have i:(match (generalizing:=false) j with| .int _=>true|_=>false)=false:=by cases j <;> first|rfl|exact absurd rfl (hi _)
 cases base with
 | none=>
   cases q rfl
   simp[Builtin.append_,fP hs,fP o,h,i,hlen,d,g]
 |some b=>simp[Builtin.append_,fP hs,fP o,h,i,hlen,d,g,l b rfl]
theorem JU{C xT ty c:Nat} {q:TypeDesc} (hs:P0.underlying C=some (.slice c)) (G:P0.underlying xT=some q) (hi:∀k,q≠ .int k) {size jM:Nat} {z:V}
  (H:elemOf c=some (size,jM,z)) {base:Option Addr} {a b m:Nat} {x:Value} (hlen:(Builtin.lenOf x).run P0 w = .ok m w) {d e:List Value}
  (f:(Builtin.firstCells size a (.slice base a b)).run P0 w.drew = .ok (Array.mk d) w.drew)
  (g:(Builtin.firstCells size m x).run P0 w.drew = .ok (Array.mk e) w.drew) (I:¬a+m<=b) (N:(a+m)*jM<=70368744177664) (O:a+m<=70368744177664) :
  ∃D,D.size=size/\(Builtin.append_ #[C,xT] ty #[.slice base a b,x]).run P0 w = .ok (.slice (some ⟨w.heap.size,0,none⟩) (a+m) (grownCap w (a+m) b c))
   (w.drew.alloc (.cells (Array.mk d++Array.mk e++Builtin.zeroCells D (grownCap w (a+m) b c-(a+m))) c)):=by
 obtain⟨r,h,s,E,J,_⟩:=Ga H;obtain⟨K,L,l,i,j,t⟩:=zI s;have u:(match (generalizing:=false) q with| .int _=>true|_=>false)=false:=by cases q <;> first|rfl|exact absurd rfl (hi _)
 have v:i.bytes=jM:=by
  unfold YD at h;rw[ft]at h;obtain⟨M,n,y⟩:=h;rw[j]at n;cases n;simpa using y
 have A:i.size=size:=by
  obtain⟨M,n,y⟩:=CJ r;rw[j]at n;cases n;exact y
 have F:Builtin.nextslicecap (a+m) b*i.bytes<=281474976710656:=growslice_fits (by omega) (by rw[v];omega);have o:¬(281474976710656<Builtin.nextslicecap (a+m) b*i.bytes):=by omega
 have p:¬(9223372036854775807<((a:Int)+(m:Int))):=by omega
 have B:=(l λ_=>none).cells.length;refine⟨K.cells,by simp only[Ui]at B;omega,?_⟩;rw[<-A]at f g;have hq:(Question.appendCap (a+m) b c).forced=false:=rfl;simp[Builtin.append_,fP hs,fP G,sizeOf,typeInfo,zeroValue,j,t,u,hlen,I,p,o,hq,f,g,newRow,grownCap];congr 2;apply Array.ext';simp
theorem Mo(I : WR Δ h w) {sT xT ty g:Nat} {dx:TypeDesc} (hs:P0.underlying sT=some (.slice g)) (hx:P0.underlying xT=some dx) (hi:∀k,dx≠ .int k) {size jM:Nat} {z:V}
    (hz:elemOf g=some (size,jM,z)) {s x:V} {sv xv:Value} (Q:fM Δ s sv) (ak:fM Δ x xv) {r:R} (hv:fe g size jM s x h=some r) :
    ∃v h' P y w',r = .val v h'/\(Builtin.append_ #[sT,xT] ty #[sv,xv]).run P0 w = .ok y w'/\yQ Δ h w v h' P y w':=by
  obtain⟨S,aY,aZ,U,a6,_⟩:=Ga hz;unfold fe at hv;rw[ft]at hv;obtain⟨⟨m,cs⟩,h1,t⟩:=hv;obtain⟨n,n1,n2,n3,n4⟩:=NY I ak h1;have al:WR Δ h w.drew:=I.heap rfl;obtain⟨E,d1,d2,d3,d4⟩:=NY al ak h1;have am:cs.length=m*size:=by rw[n1.length,n4]
  cases hm:Nat.beq m 0 with
  | true=>
    have aa:m=0:=vK hm;subst aa;simp only[hm]at t;have aB:n=[]:=UZ (by simpa using n4);subst aB;split at t
    ·cases t;cases Q
     exact⟨_,_,Δ,_,w,rfl,qH hs hx hi S (n2 w) n3 (jj _) (λb G=>by cases G) (λ_=>rfl),.ee,I,.refl _ _,.refl _ _⟩
    ·cases t
     cases Q with
     | slice l off len cap o d J hk L ho=>
       exact⟨_,_,Δ,_,w,rfl,qH hs hx hi S (n2 w) n3 L (λb G=>rfl) (λ_=>rfl),.slice _ _ _ cap o d J hk L ho,I,.refl _ _,.refl _ _⟩
    ·cases t
  | false =>
    have aa:0<m:=Nat.pos_of_ne_zero λe=>by rw[e]at hm;cases hm
    simp only[hm,g0]at t;obtain⟨W,t⟩:=t
    have fresh:∀(base:Option Addr) (a A:Nat) (f:List Value) (xB:List V) (h0:Hp),sv = .slice base a A->gM Δ xB f->f.length=a*size->
        (Builtin.firstCells size a (.slice base a A)).run P0 w.drew = .ok (Array.mk f) w.drew->¬a+m<=A->(a+m)*jM<=70368744177664->a+m<=70368744177664->
        WR Δ h0 w->h0.next=h.next->
        ∃P y w',(Builtin.append_ #[sT,xT] ty #[sv,xv]).run P0 w = .ok y w'/\yQ Δ h w (.slice h.next 0 (a+m)) (h0.new (.cells g size true false (xB++cs))) P y w':=by
      intro base a A f xB h0 an X M B hg G aC aD sU;obtain⟨zc,aE,hr⟩:=JU (ty:=ty) hs hx hi hz (n2 w) B d3 hg G aC;have N:=grownCap_ge w (a+m) A g;generalize grownCap w (a+m) A g=nc at hr N
      have ab:Made Δ (.cells g size true false (xB++cs)) (λl=> .slice l 0 (a+m)) (.cells (Array.mk f++Array.mk E++Builtin.zeroCells zc (nc-(a+m))) g)
          (λb=> .slice (some ⟨b,0,none⟩) (a+m) nc):=by
        intro l b hn;have L:=Env.yD (d:=⟨b,0,size,(xB++cs).length,nc*size,false,0⟩) hn;have ao:=X.append d1;have hlen:(xB++cs).length=(a+m)*size:=by rw[y6,X.length,M,am,Nl]
        have aU:(a+m)*size<=nc*size:=wB8 _ N;refine⟨⟨b,0,size,(xB++cs).length,nc*size,false,0⟩,rfl,⟨rfl,rfl,rfl,rfl,λ_=>?_⟩,?_⟩
        ·refine Bg ?_ rfl (by show(xB++cs).length<=nc*size;omega) λi u C=>?_
         ·show(Array.mk f++Array.mk E++Builtin.zeroCells zc (nc-(a+m))).size=nc*size
          simp only[Array.size_append,List.size_toArray,size_zeroCells,aE,M,d4];rw[<-Nl,<-Nl];congr 1;omega
         ·obtain⟨y,hy,aF⟩:=ao.get i u C
          refine⟨y,?_,aF.mono L⟩;have D:i<(f++E).length:=(iR.1 hy).1;rw[wB0 (by simpa using D)];simpa using hy
        ·refine fM.slice l 0 (a+m) nc 0 _ (Env.wA _ _ _) rfl N (.inl ⟨rfl,?_,?_⟩)
         ·show(xB++cs).length<=0+nc*size;omega
         ·show 0+0+nc*size<=nc*size;omega
      obtain⟨P,a1,a2,a3,a4⟩:=(aD.heap (w':=w.drew) rfl).alloc ab;have aG:Gr h Δ (h0.new (.cells g size true false (xB++cs))) P:=⟨by rw[<-sU];exact a4.next,λl hl D=>a4.none l hl (by rw[sU];exact D)⟩
      rw[sU]at a2;exact⟨P,_,_,an▸hr,a2,a1,a3.drew,aG⟩
    split at t
    ·simp only[g0]at t
     obtain⟨h3,h4,h5⟩:=t;cases h5;cases Q;have T:m*jM<=70368744177664:=Iu h3;have ac:m<=70368744177664:=Iu h4;obtain⟨P,y,w',b1,b2⟩:=fresh none 0 0 [] [] h rfl .nil (by simp) rfl (by omega) (by simpa using T) (by simpa using ac) I rfl;exact⟨_,_,P,y,w',rfl,b1,by simpa using b2⟩
    ·rename_i l off len
     rw[kQ]at t;obtain⟨e,sz,live,ro,all,hg,t⟩:=t;simp only[g0]at t;obtain⟨rfl,aH,ap,t⟩:=t;have ae:sz=size:=vK ap;subst ae;have aq:ro=false:=by simpa using aH
     subst aq
     cases Q with
     | slice _ _ _ cap o d J hk L ho=>
       obtain⟨ob,ar,hr⟩:=I.obj l d J;rw[hg]at ar;cases ar;obtain⟨a1,a2,a3,a4,a5⟩:=hr;obtain⟨c,e',fr,b1,b2,b3,b5,b4⟩:=a5 rfl;rw[a2]at ho;have au:(len+m)*sz=len*sz+m*sz:=Nl _ _ _;have a7:0<m*sz:=Nat.mul_pos aa U
       cases hin:Nat.ble (Nat.add off (Nat.mul (Nat.add len m) sz)) all.length with
       | true =>
         simp only[hin,ft]at t;obtain⟨nQ,h3,h4⟩:=t;cases h4;have aV:off+(len+m)*sz<=all.length:=Iu hin;rcases ho with⟨rfl,K,ag⟩|⟨rfl,K⟩
         ·have q:len+m<=cap:=by
            rcases Pm cap (len+m)with D|N
            ·exfalso
             have:cap*sz<(len+m)*sz:=Nat.mul_lt_mul_of_pos_right D U;omega
            ·exact N
          have aI:Fl h l (off+len*sz) cs=some (h.put l (.cells e sz true false nQ)):=by
            unfold Fl;rw[kQ];refine⟨e,sz,true,false,all,hg,?_⟩;simp only[g0,ft];exact⟨trivial,rfl,W,nQ,h3,rfl⟩
          obtain⟨w',c1,c2,c3⟩:=KR I J n1 aI;refine⟨_,_,Δ,_,w',rfl,qH hs hx hi S (n2 w) n3 q (λb G=>?_) (λG=>by cases G),?_,c2,c3,.same (jj _)⟩
          ·cases G
           rw[pb,YE];exact c1
          ·exact .slice l off (len+m) cap _ d J hk q (.inl ⟨rfl,by rw[a2];exact K,by rw[a2];exact ag⟩)
         ·exfalso;omega
       | false =>
         simp only[hin,ft,g0]at t;obtain⟨xB,h3,aJ,h4,h5,h6⟩:=t;cases h6;have ac:(len+m)*jM<=70368744177664:=Iu h4;have aK:len+m<=70368744177664:=Iu h5;have T:sub all off (len*sz)=some xB:=h3;obtain⟨ah,aL⟩:=sub_eq T;obtain⟨aM,aN,_⟩:=I.kill hg J;have aO:Gx h l off (len*sz)=some xB:=by
           unfold Gx;rw[kQ];exact⟨e,sz,true,false,all,hg,by rw[g0];exact⟨rfl,T⟩⟩
         by_cases q:len+m<=cap
         ·rcases ho with⟨rfl,K,ag⟩|⟨rfl,K⟩
          ·have aW : (len+m)*sz<=cap*sz:=wB8 _ q
           have Y:d.base+off+len*sz+n.length<=c.size:=by rw[n4];omega
           have B:=wB d.b (d.base+off+len*sz) e' fr n 0 c w b1 (λj hj=>VX (b3 a4) j (by omega)) (by simpa using Y) (n1.zbJ W);simp only[X8]at B;have O:d.base+off+len*sz+n.length<=c.toList.length:=by simpa using Y
           generalize hw':w.setRow d.b (c.toList.take (d.base+off+len*sz)++n++c.toList.drop (d.base+off+len*sz+n.length)).toArray=w' at B;have F:w'.heap.size=w.heap.size:=by rw[<-hw'];simp
           have H:∀b,b≠d.b->w'.heap[b]? =w.heap[b]?:=λb G=>by rw[<-hw'];exact setRow_other _ _ _ _ G
           have aw:w'.heap[d.b]? =some (.cells (c.toList.take (d.base+off+len*sz)++n++c.toList.drop (d.base+off+len*sz+n.length)).toArray e' fr):=by
             rw[<-hw'];exact setRow_heap w d.b c _ e' fr b1
           have ax:WR Δ (h.put l (.cells e sz false false all)) w':=I.set J hg rfl a4 (λh=>(nomatch h)) ⟨a1,a2,a3,a4,λh=>(nomatch h)⟩ F H;have aP:FR Δ Δ w w':=FR.set J a4 F H (by rw[<-hw'];rfl) (by rw[<-hw'];rfl) (by rw[<-hw'];rfl);have hn:=I.Gf;have a8:(xB++cs).length=(len+m)*sz:=by rw[y6,ah,am,au]
           have Z:=Env.yD (d:=⟨d.b,d.base+off,sz,(xB++cs).length,d.Rk,false,0⟩) hn
           refine ⟨_,_,Δ.set h.next ⟨d.b,d.base+off,sz,(xB++cs).length,d.Rk,false,0⟩,_,w',rfl,
             qH hs hx hi S (n2 w) n3 q (λb G=>?_) (λG=>by cases G),?_,?_,aP.WX hn ⟨l,d,J,a4,rfl⟩,Gr.set (Nk _)⟩
           ·cases G
            rw[pb];exact B
           ·refine .slice h.next 0 (len+m) cap (d.base+off) ⟨d.b,d.base+off,sz,(xB++cs).length,d.Rk,false,0⟩ (Env.wA _ _ _) rfl q (.inl ⟨rfl,?_,?_⟩)
            ·show(xB++cs).length<=0+cap*sz;omega
            ·show d.base+off+0+cap*sz<=d.Rk;omega
           ·refine (ax.more (.cells g sz true false (xB++cs))).WX (o:= .cells g sz true false (xB++cs)) (d:=⟨d.b,d.base+off,sz,(xB++cs).length,d.Rk,false,0⟩) hn (KX _) (by rw[vM];exact if_pos rfl) (by rw[F];exact I.nW l d J) ⟨rfl,rfl,rfl,rfl,λ_=>?_⟩ (λm' d' p ay hp aA=>?_) ⟨l,d,J,a4,rfl⟩
            ·refine ⟨_,e',fr,aw,?_,λ_=>b3 a4,?_,λi v C=>?_⟩
             ·have:=MI c.toList n _ O
              simp only[Ui]at this;show _=d.Rk;rw[<-b2,<-this];rfl
             ·show d.base+off+(xB++cs).length<=d.Rk;omega
             ·show ∃x,(List.toArray _)[d.base+off+i]? =some x/\_
              rw[wB6,TW c.toList n _ O];rw[List.getElem?_append]at C;by_cases D:i<xB.length
              ·rw[if_pos D,aL i (by omega)]at C
               obtain⟨x,ai,aj⟩:=b4 _ _ C;rw[if_neg (by omega)];exact⟨x,by rw[Rm,YE];exact ai,aj.mono Z⟩
              ·rw[if_neg D]at C
               obtain⟨x,ai,aj⟩:=n1.get _ _ C;have aX:=(iR.1 C).1;rw[if_pos (by omega)];refine⟨x,?_,aj.mono Z⟩;rw[<-ai];congr 1;omega
            ·have aQ:h.next≠m':=Nat.ne_of_gt (I.fresh _ _ ay)
             rw[vM]at hp;rw[if_neg (by exact aQ)]at hp;rw[pK _ _ (I.fresh _ _ J)]at hp;by_cases he:l=m'
             ·subst he
              rw[if_pos rfl]at hp;cases hp;cases aA
             ·rw[if_neg he]at hp
              exact aN m' d' p (Ne.symm he) ay hp aA
          ·exfalso;omega
         ·have aR:∃f,gM Δ xB f/\(Builtin.firstCells sz len (.slice (some ⟨d.b,o,none⟩) len cap)).run P0 w.drew = .ok (Array.mk f) w.drew:=by
            rcases ho with⟨rfl,K,ag⟩|⟨rfl,K⟩
            ·obtain⟨xs,c1,c2⟩:=vQ al J aO
             exact⟨xs,c2,by simpa[Builtin.firstCells]using c1⟩
            ·have aS:len=0:=by omega
             subst aS;have aT:xB=[]:=UZ (by rw[ah];simp);subst aT;exact⟨[],.nil,by simp[Builtin.firstCells,loadCells,loadCellsFrom]⟩
          obtain⟨f,c1,c2⟩:=aR;obtain⟨P,y,w',e1,e2⟩:=fresh _ len cap f xB (h.put l (.cells e sz false false all)) rfl c1 (by rw[<-c1.length,ah]) c2 q ac aK aM rfl;exact⟨_,_,P,y,w',rfl,e1,e2⟩
    ·cases t
end
section
variable{Δ:Env}{h:Hp}{w:World}{n:Nat}{t:Tm}{a:Act}
theorem U7(c:WR Δ h w) {ty size:Nat} (f:yq ty=some size) {l off:Nat} {v:V} {pv xv:Value} (hp:fM Δ (.ptr l off) pv) (g:fM Δ v xv)
  (hlen:Nat.beq v.cells.length size=true) {h':Hp} (hs:Fl h l off v.cells=some h') :
  ∃w',(Instr.storeAt ty pv xv).run P0 w = .ok () w'/\WR Δ h' w'/\FR Δ Δ w w'/\Gr h Δ h' Δ:=by
 cases hp with
 | ptr _ _ d i=>
   have hc:=g.cells;obtain⟨w',j,k,m⟩:=KR c i hc hs;have n:=vK hlen;have a:=hc.length;simp only[Ui]at a;have b:h'.next=h.next:=by
     unfold Fl at hs;rw[kQ]at hs;obtain⟨e,sz,live,ro,cs,o,hv⟩:=hs;simp only[g0,ft]at hv;obtain⟨_,_,_,_,_,hv⟩:=hv;cases hv;rfl
   refine⟨w',?_,k,m,.same (X2 b.symm)⟩;have:¬(xv.cells.size≠size):=by omega
   simp[Instr.storeAt,Instr.sureAddr,storeVar,vz f,this,j]
theorem tY.length{b:List (V×V×Nat)} {a:List MapEntry} (h:tY Δ b a):b.length=a.length:=by
 induction h with
 |nil=>rfl
 |cons k v n e b a d hv f _ c=>simp[c]
theorem tY.get{c:List (V×V×Nat)} {a:List MapEntry} (h:tY Δ c a) {i:Nat} {e:V×V×Nat} (hi:c[i]? =some e) :
  ∃b,a[i]? =some b/\fM Δ e.1 b.key/\fM Δ e.2.1 b.val/\b.born=e.2.2:=by
 induction h generalizing i with
 |nil=>simp at hi
 | cons k v n e0 c a d hv f _ g=>
   cases i with
   |zero=>simp at hi;subst hi;exact⟨e0,rfl,d,hv,f⟩
   |succ i=>exact g (by simpa using hi)
theorem tY.set{c:List (V×V×Nat)} {a:List MapEntry} (h:tY Δ c a) {i:Nat} {k v:V} {m:Nat} {b:MapEntry} (g:fM Δ k b.key) (hv:fM Δ v b.val) (j:b.born=m) :
  tY Δ (c.set i (k,v,m)) (a.set i b):=by
 induction h generalizing i with
 |nil=>exact .nil
 | cons k0 o n e0 c a d e f hs l=>
   cases i with
   |zero=>exact .cons _ _ _ _ _ _ g hv j hs
   |succ i=>exact .cons _ _ _ _ _ _ d e f l
theorem tY.snoc{c:List (V×V×Nat)} {a:List MapEntry} (h:tY Δ c a) {k v:V} {m:Nat} {b:MapEntry} (g:fM Δ k b.key) (hv:fM Δ v b.val) (i:b.born=m) :
  tY Δ (c++[(k,v,m)]) (a++[b]):=by
 induction h with
 |nil=>exact .cons _ _ _ _ _ _ g hv i .nil
 |cons k0 l n e0 c a d e f hs j=>exact .cons _ _ _ _ _ _ d e f j
theorem tY.erase{b:List (V×V×Nat)} {a:List MapEntry} (h:tY Δ b a) {i:Nat}:tY Δ (b.eraseIdx i) (a.eraseIdx i):=by
 induction h generalizing i with
 |nil=>exact .nil
 | cons k0 g n e0 b a c d e hs f=>
   cases i with
   |zero=>exact hs
   |succ i=>exact .cons _ _ _ _ _ _ c d e f
theorem G5{k:V} {x y:Value} (m:Nat) (d:Jc k=true) (c:fM Δ k x) (b:fM Δ k y):Instr.sameBits m x y=true:=by
 cases k <;> simp[Jc]at d
 ·cases c;cases b;cases m <;> simp[Instr.sameBits]
 ·cases c;cases b;cases m <;> simp[Instr.sameBits]
 ·rename_i s
  cases c with
  | str a=>
    generalize hs:a.data.toList=l at b
    cases b with
    | str e=>
      have:a=e:=by
        rw[ByteArray.ext_iff];exact Array.ext' hs
      subst this;have f:(a == a)=true:=by show(a.data == a.data)=true;simp
      cases m <;> simpa[Instr.sameBits]using f
theorem WM(m:Nat) {cs:List V} {xs ys:List Value} (d:cs.all Jc=true) (a:gM Δ cs xs) (b:gM Δ cs ys):xs.length=ys.length/\(xs.zip ys).all (λp=>Instr.sameBits m p.1 p.2)=true:=by
 induction cs generalizing xs ys with
 |nil=>cases a;cases b;exact⟨rfl,rfl⟩
 | cons c cs g=>
   cases a with
   | cons _ x _ xs a e=>
     cases b with
     | cons _ y _ ys b f=>
       simp only[wCH,uZ]at d;obtain⟨h,i⟩:=g d.2 e f;exact⟨by simp[h],by simp only[List.zip_cons_cons,wCH,uZ];exact⟨G5 m d.1 a b,i⟩⟩
theorem KL{k:V} {x y:Value} (m:Nat) (c:JE k=true) (a:fM Δ k x) (b:fM Δ k y):Instr.sameBits (m+1) x y=true:=by
 cases k with
 | agg cs=>
   cases a with|agg _ xs a=>cases b with|agg _ ys b=>
   obtain⟨d,e⟩:=WM m c a b;simp only[Instr.sameBits,uZ]
   exact⟨by simpa using d,e⟩
 |_=>exact G5 (m+1) (by simpa[JE]using c) a b
theorem map_set(i:WR Δ h w) {l:Nat} {d:D} (g:Δ l=some d) {n f:List (V×V×Nat)} {c c2:Nat} (k:h.get l=some (.map n c)) {Lp:Array MapEntry} (p:tY Δ f Lp.toList) :
  (setObj d.b (.map Lp c2)).run P0 w = .ok () {w with heap:=w.heap.setIfInBounds d.b (.map Lp c2)}/\
  WR Δ (h.put l (.map f c2)) {w with heap:=w.heap.setIfInBounds d.b (.map Lp c2)}/\FR Δ Δ w {w with heap:=w.heap.setIfInBounds d.b (.map Lp c2)}:=by
 obtain ⟨o,m,q⟩:=i.obj l d g;rw[k]at m;cases m;obtain⟨a1,a2,a3,r,s,u⟩:=q;have j:=i.nW l d g;have a:∀b,b≠d.b->({w with heap:=w.heap.setIfInBounds d.b (.map Lp c2)}:World).heap[b]? =w.heap[b]?:=λb t=>by
  simp only;rw[wBn (λe=>t e.symm)]
 refine⟨by simp[setObj,Sem.run,s],i.set g k rfl a2 (λh=>h) ⟨a1,a2,a3,Lp,?_,p⟩ (by simp) a,FR.set g a2 (by simp) a rfl rfl rfl⟩;simp[j]
theorem Tv(x:WR Δ h w) {J y P:Nat} (K:P0.underlying J=some (.map y P)) {d:Option (List Field)} (L:Jf y=some d) {m k v:V} {mv f vv:Value} (Q:fM Δ m mv) (g:fM Δ k f) (M:fM Δ v vv)
  {r:R} (hv:Nf y d m k v h=some r):∃h' w',r = .val .undef h'/\(Instr.mapUpdate J mv f vv).run P0 w = .ok () w'/\WR Δ h' w'/\FR Δ Δ w w'/\Gr h Δ h' Δ:=by
 unfold Nf at hv;rw[g0]at hv;obtain⟨S,hv⟩:=hv;split at hv
 ·rename_i l;simp only[zz,ft]at hv;obtain⟨Y,c,z,ob,hp,hv⟩:=hv;cases hv
  cases Q with
  | map _ Z A=>
    obtain⟨a,N,t⟩:=Hg x A z;have j:=ye (em:=false) 9999 (by omega) w L g S;unfold Oi at hp;rw[ft]at hp;obtain⟨fr,T,hp⟩:=hp;obtain⟨n,o,b⟩:=CQ L g w t T
    cases fr with
    | none=>
      cases hp
      cases n with
      |some _=>cases b
      | none=>
        obtain⟨B,C,D⟩:=map_set x A z (Lp:=a.push {key:=f,val:=vv,born:=c}) (c2:=c+1) (by rw[Array.toList_push];exact t.snoc (m:=c) g M rfl);refine⟨_,_,rfl,?_,C,D,.same (jj _)⟩
        simp only[Instr.mapUpdate,qh,fP K,py,run_getObj_map N,j,o,B]
    | some p=>
      obtain⟨i,u⟩:=p;simp only[ft,g0]at hp;obtain⟨e,E,F,G,hp⟩:=hp;cases hp
      cases n with
      |none=>cases b
      | some U=>
        obtain⟨i',u'⟩:=U;obtain⟨rfl,_⟩:=b;obtain⟨H,W,O,g3,X⟩:=t.get E;rw[V.eq_of_beq _ _ F]at O;have I:Instr.sameBits 10000 H.key f=true:=KL 9999 G O g;have q:a[i]? =some H:=by simpa using W
        have s:(a.modify i λe=>{e with key:=f,val:=vv}).toList=a.toList.set i {H with key:=f,val:=vv}:=by
          rw[Array.toList_modify];rw[List.modify_eq_set];simp[q]
        obtain⟨B,C,D⟩:=map_set x A z (Lp:=a.modify i λe=>{e with key:=f,val:=vv}) (c2:=c) (by rw[s];exact t.set (i:=i) (k:=k) (v:=v) (m:=e.2.2) g M X);refine⟨_,_,rfl,?_,C,D,.same (jj _)⟩;simp only[Instr.mapUpdate,qh,fP K,py,run_getObj_map N,j,o,Instr.keyThatStays,q,Option.map_some,Option.getD_some,I,if_true,Gk,B]
 ·cases hv
theorem SG(n:WR Δ h w) {I z O rt:Nat} {o:Array Nat} (g:o[0]? =some I) (A:P0.underlying I=some (.map z O)) {d:Option (List Field)} (B:Jf z=some d) {m k:V} {mv J:Value} (K:fM Δ m mv) (C:fM Δ k J)
  {r:R} (hv:OV z d m k h=some r):∃h' w',r = .val (.tuple []) h'/\(Builtin.delete_ o rt #[mv,J]).run P0 w = .ok (.tuple #[]) w'/\WR Δ h' w'/\FR Δ Δ w w'/\Gr h Δ h' Δ:=by
 unfold OV at hv;rw[g0]at hv;obtain⟨L,hv⟩:=hv;split at hv
 ·cases hv;cases K;have f:=ye (em:=true) 9999 (by omega) w B C L;refine⟨h,w,rfl,?_,n,.refl _ _,.refl _ _⟩;simp only[Builtin.delete_,g,wB6,List.getElem?_cons_zero,QB,qh,fP A,py,f,Gk]
 ·rename_i l;simp only[zz,ft]at hv;obtain⟨S,c,D,fr,P,hv⟩:=hv
  cases K with
  | map _ v x =>
    obtain⟨a,E,F⟩:=Hg n x D;have f:=ye (em:=a.isEmpty) 9999 (by omega) w B C L;obtain⟨q,s,e⟩:=CQ B C w F P
    cases fr with
    | none =>
      cases hv
      cases q with
      |some _=>cases e
      | none =>
        obtain ⟨y,M,N⟩:=map_set n x D (Lp:=a) (c2:=c) F;have j:({w with heap:=w.heap.setIfInBounds v.b (.map a c)}:World)=w:=by
          have:w.heap.setIfInBounds v.b (.map a c)=w.heap:=by
            apply Array.ext_getElem?;intro i;by_cases hi:v.b=i
            ·subst hi
             have t:=n.nW l v x;simp[t];simpa[t]using E.symm
            ·rw[wBn hi]
          rw[this]
        rw[j]at y;refine⟨h,w,rfl,?_,n,.refl _ _,.refl _ _⟩
        simp only[Builtin.delete_,g,wB6,List.getElem?_cons_zero,QB,qh,fP A,py,run_getObj_map E,f,s,y,Gk]
    | some p=>
      obtain⟨i,u⟩:=p;cases hv
      cases q with
      |none=>cases e
      | some Q=>
        obtain ⟨T,u'⟩:=Q;obtain⟨rfl,_⟩:=e;have G:(a.eraseIdxIfInBounds i).toList=a.toList.eraseIdx i:=by
          rw[Array.eraseIdxIfInBounds_eq];split
          ·rw[Array.toList_eraseIdx]
          ·rename_i H
           rw[List.eraseIdx_of_length_le (by simpa using H)]
        obtain⟨y,M,N⟩:=map_set n x D (Lp:=a.eraseIdxIfInBounds i) (c2:=c) (by rw[G];exact F.erase);refine⟨_,_,rfl,?_,M,N,.same (jj _)⟩;simp only[Builtin.delete_,g,wB6,List.getElem?_cons_zero,QB,qh,fP A,py,run_getObj_map E,f,s,y,Gk]
 ·cases hv
end
section
variable{Δ:Env}{h:Hp}{w:World}{n:Nat}{t:Tm}{a:Act}
theorem Oc{l off:Nat} {new:List V} {h':Hp} (hs:Fl h l off new=some h'):h'.next=h.next:=by
 unfold Fl at hs;rw[kQ]at hs;obtain⟨e,sz,live,ro,cs,a,hv⟩:=hs;simp only[g0,ft]at hv;obtain⟨_,_,_,_,_,hv⟩:=hv;cases hv;rfl
theorem SP(s:ByteArray) (m:Nat):((s.extract 0 m).data.map λb=>Value.int .u8 b.toNat)=Array.mk ((s.data.toList.take m).map λb=>Value.int .u8 b.toNat):=by
 apply Array.ext';have:=IJ s 0 m;simp only[Vt,Nat.sub_zero]at this;rw[Array.toList_map,this]
theorem SK(Δ:Env) (l:List UInt8):gM Δ (xC l) (l.map λb=>Value.int .u8 b.toNat):=by
 induction l with
 |nil=>exact .nil
 |cons b l a=>exact .cons _ _ _ _ (.int .u8 _) a
theorem XF(k:WR Δ h w) {M p size rt:Nat} {n:Array Nat} (y:n[0]? =some M) (N:P0.underlying M=some (.slice p)) (O:yq p=some size) {d s:V} {x q:Value}
  (P:fM Δ d x) (hs:fM Δ s q) {r:R} (hv:VL size d s h=some r) :
  ∃h' m w',r = .val (.int .i64 (.ofNat m)) h'/\(Builtin.copy_ n rt #[x,q]).run P0 w = .ok (.int .i64 m) w'/\WR Δ h' w'/\FR Δ Δ w w'/\Gr h Δ h' Δ:=by
 have a:∀(base:Option Addr) (c f:Nat) (m:Nat),x = .slice base c f->(Builtin.lenOf q).run P0 w = .ok m w->Nat.min m c=0->(Builtin.firstCells size 0 q).run P0 w = .ok #[] w->
   (Builtin.copy_ n rt #[x,q]).run P0 w = .ok (.int .i64 (0:Nat)) w:=by
  intro base c f m t A i B;subst t;have u:=vz (w:=w) O;cases base <;> simp[Builtin.copy_,y,fP N,A,i,u,B,storeCells,goInt]
 have some_:∀(base:Addr) (c f:Nat) (m:Nat) (xs:List Value) (w':World),x = .slice (some base) c f->(Builtin.lenOf q).run P0 w = .ok m w->
   (Builtin.firstCells size (Nat.min m c) q).run P0 w = .ok (Array.mk xs) w->(storeCells base xs 0).run P0 w = .ok () w'->
   (Builtin.copy_ n rt #[x,q]).run P0 w = .ok (.int .i64 (Nat.min m c:Nat)) w':=by
  intro base c f m xs w' t A B C;subst t;have u:=vz (w:=w) O;simp[Builtin.copy_,y,fP N,A,u,B,C,goInt]
 unfold VL at hv;split at hv
 ·cases P;split at hv
  ·cases hv;cases hs;exact⟨_,0,w,rfl,a none 0 0 0 rfl rfl rfl rfl,k,.refl _ _,.refl _ _⟩
  ·cases hv
   cases hs with
   | slice l off len cap o U v W D E=>
     exact⟨_,0,w,rfl,a none 0 0 _ rfl rfl (Nat.min_zero _) (by simp[Builtin.firstCells,loadCells,loadCellsFrom]),k,.refl _ _,.refl _ _⟩
  ·cases hv
   cases hs with
   |str s=>exact⟨_,0,w,rfl,a none 0 0 s.size rfl rfl (Nat.min_zero _) (by simp[Builtin.firstCells]),k,.refl _ _,.refl _ _⟩
  ·cases hv
 ·rename_i l off len
  cases P with
  | slice _ _ _ g o U v W D E=>
    split at hv
    ·cases hv;cases hs
     exact⟨_,0,w,rfl,a _ len g 0 rfl rfl (Nat.zero_min _) rfl,k,.refl _ _,.refl _ _⟩
    ·rename_i l' Q Ej
     cases hs with
     | slice _ _ _ S so sd F X T G=>
       cases i:Nat.beq (min Ej len) 0 with
       | true=>
         simp only[i]at hv;cases hv;have j:Nat.min Ej len=0:=vK i
         exact⟨_,0,w,rfl,a _ len g Ej rfl rfl j (by simp[Builtin.firstCells,loadCells,loadCellsFrom]),k,.refl _ _,.refl _ _⟩
       | false=>
         have j:0<min Ej len:=Nat.pos_of_ne_zero λe=>by rw[e]at i;cases i
         simp only[i,ft]at hv;obtain⟨cs,H,Y,z,I⟩:=hv;cases I;rcases G with⟨rfl,_,_⟩|⟨rfl,_⟩
         ·rcases E with⟨rfl,_,_⟩|⟨rfl,_⟩
          ·obtain⟨xs,Z,c2⟩:=vQ k F H
           obtain⟨w',J,K,e3⟩:=KR k v c2 z;exact⟨_,_,w',rfl,some_ _ len g Ej xs w' rfl rfl (by simpa[Builtin.firstCells]using Z) J,K,e3,.same (X2 (Oc z).symm)⟩
          ·omega
         ·omega
    ·rename_i b
     rw[g0]at hv;obtain⟨H,hv⟩:=hv;have L:size=1:=vK H;subst L
     cases hs with
     | str s=>
       have lT:s.data.toList.length=s.size:=by simp
       rw[lT]at hv
       cases i:Nat.beq (min s.size len) 0 with
       | true=>
         simp only[i]at hv;cases hv;have j:Nat.min s.size len=0:=vK i
         exact⟨_,0,w,rfl,a _ len g s.size rfl rfl j (by simp[Builtin.firstCells]),k,.refl _ _,.refl _ _⟩
       | false=>
         have j:0<min s.size len:=Nat.pos_of_ne_zero λe=>by rw[e]at i;cases i
         simp only[i,ft]at hv;obtain⟨Y,z,I⟩:=hv;cases I;rcases E with⟨rfl,_,_⟩|⟨rfl,_⟩
         ·obtain⟨w',J,K,e3⟩:=KR k v (SK Δ _) z
          refine⟨_,_,w',rfl,some_ _ len g s.size _ w' rfl rfl ?_ J,K,e3,.same (X2 (Oc z).symm)⟩;simp only[Builtin.firstCells,SP];rfl
         ·omega
    ·cases hv
 ·cases hv
theorem MB{d:D} {cs:List V} {c:Array Value} {e:Nat} (hs:c.size=d.Rk) (a:d.base=0) (b:cs.length<=d.Rk) (hc:∀(i:Nat) (v:V),cs[i]? =some v->∃x,c[i]? =some x/\fM Δ v x) :
  FJ Δ d cs (some (.cells c e (c.size,c.size+1))):=
 ⟨c,e,(c.size,c.size+1),rfl,hs,λ_=> .inr (X2 hs.symm),by omega,λi v hi=>by rw[a,yC];exact hc i v hi⟩
theorem UG(n:WR Δ h w) {src dst e:Nat} (hs:P0.underlying src=some .string) (o:P0.underlying dst=some (.slice e)) (p:P0.underlying e=some (.int .u8)) (s:ByteArray) :
  ∃d x w',(convert src dst (.string s)).run P0 w = .ok x w'/\yQ Δ h w (.slice h.next 0 s.data.toList.length) (h.new (.cells e 1 true false (xC s.data.toList))) d x w':=by
 have k:=run_bytes_of_string (P:=P0) w src dst e s hs o p;have c:=grownCap_ge w s.size 0 e;generalize grownCap w s.size 0 e=cap at k c;have lT:s.data.toList.length=s.size:=by simp
 have q:(xC s.data.toList).length=s.size:=by simp[xC]
 have f:(bytesRow s cap).size=cap:=by
  have:s.data.size=s.size:=rfl;simp[bytesRow];omega
 have a:Made Δ (.cells e 1 true false (xC s.data.toList)) (λl=> .slice l 0 s.data.toList.length) (.cells (bytesRow s cap) e ((bytesRow s cap).size,(bytesRow s cap).size+1))
   (λb=> .slice (some ⟨b,0,none⟩) s.size cap):=by
  intro l b r;refine⟨⟨b,0,1,(xC s.data.toList).length,cap,false,0⟩,rfl,⟨rfl,rfl,rfl,rfl,λ_=>?_⟩,?_⟩
  ·refine MB f rfl (by show(xC s.data.toList).length<=cap;omega) λi u hi=>?_;obtain⟨x,m,g⟩:=(N6 _ s).get i u hi;refine⟨x,?_,g⟩;have j:i<(s.data.toList.map λb=>Value.int .u8 b.toNat).length:=(iR.1 m).1;unfold bytesRow;rw[wB0 (by simpa using j)];rw[<-m];simp
  ·rw[lT];refine fM.slice l 0 s.size cap 0 ⟨b,0,1,(xC s.data.toList).length,cap,false,0⟩ (Env.wA _ _ _) rfl c (.inl ⟨rfl,?_,?_⟩)
   ·show(xC s.data.toList).length<=0+cap*1;omega
   ·show 0+0+cap*1<=cap;omega
 obtain⟨d,a1,a2,a3,a4⟩:=(n.heap (w':=w.drew) rfl).alloc a;exact⟨d,_,_,k,a2,a1,a3.drew,a4⟩
theorem W2(q:WR Δ h w) {src dst e0 e:Nat} {x:V} {y:Value} (D:fM Δ x y) (hs:P0.underlying src=some (.slice e0)) (s:P0.underlying dst=some (.slice e)) (E:P0.underlying e=some (.int .u8)) (t:src=dst)
  {r:R} (hv:W7 x h=some r):∃B h' w',r = .val B h'/\(convert src dst y).run P0 w = .ok y w'/\yQ Δ h w B h' Δ y w':=by
 unfold W7 at hv;split at hv
 ·rename_i l off n;rw[kQ]at hv;obtain⟨N,sz,live,ro,cs,C,hv⟩:=hv;simp only[g0]at hv;obtain⟨rfl,u,hv⟩:=hv;cases hv;have i:ro=false:=by simpa using u
  subst i
  cases D with
  | slice _ _ _ cap o d j F v G=>
    obtain⟨p,hp,H⟩:=q.obj l d j;rw[C]at hp;cases hp;obtain⟨a1,a2,a3,a4,I⟩:=H;obtain⟨c,z,fr,b1,b2,b3,J,K⟩:=I rfl;subst t;obtain rfl:e0=e:=by rw[hs]at s;cases s;rfl
    obtain ⟨lo,hi⟩:=fr;have L:d.b<w.heap.size:=q.nW l d j;have A:(w.freeze ⟨d.b,c.size,none⟩ 1).heap[d.b]? =some (.cells c z (if lo == hi then(c.size,c.size+1) else(min lo c.size,max hi (c.size+1)))):=by
      unfold World.freeze;rw[if_neg (by omega)];simp only[Array.getElem?_modify,b1,if_true,Option.map_some]
    have f:∀b,b≠d.b->(w.freeze ⟨d.b,c.size,none⟩ 1).heap[b]? =w.heap[b]?:=by
      intro b M;unfold World.freeze;rw[if_neg (by omega)];simp only[Array.getElem?_modify];rw[if_neg (λe=>M e.symm)]
    have k:(w.freeze ⟨d.b,c.size,none⟩ 1).heap.size=w.heap.size:=by
      unfold World.freeze;rw[if_neg (by omega)];simp
    have g:∀b,(w.freeze b 1).os=w.os/\(w.freeze b 1).tape=w.tape/\(w.freeze b 1).output=w.output:=by
      intro b;unfold World.freeze;rw[if_neg (by omega)];exact⟨rfl,rfl,rfl⟩
    refine⟨_,_,w.freeze ⟨d.b,c.size,none⟩ 1,rfl,?_,⟨.slice l off n cap o d j F v G,?_,FR.set j a4 k f (g _).1 (g _).2.1 (g _).2.2,Gr.same (jj _)⟩⟩
    ·have a:(Go.shape d.b).run P0 w = .ok (some (z,c.size)) w:=by
       show Result.ok (w.shape? d.b) w=_;unfold World.shape?;rw[b1]
     simp only[convert,qh,fP hs,fP s,py,fP E,beq_self_eq_true,markStringish,a,run_freeze];rfl
    ·refine q.set j C rfl a4 (λh=>h) ⟨a1,a2,a3,a4,λ_=>⟨c,z,_,A,b2,λ_=>?_,J,K⟩⟩ k f
     have m:=b3 a4;simp only at m;by_cases hlh:lo=hi
     ·subst hlh
      simp only[beq_self_eq_true,if_true];right;omega
     ·have:(lo == hi)=false:=by simpa using hlh
      simp only[this,MR,if_false];right;rcases m with m|m
      ·exact absurd m hlh
      ·omega
 ·cases hv
end
section
variable{Δ:Env}{h:Hp}{w:World}{n:Nat}{t:Tm}{a:Act}
theorem Vd(f:WR Δ h w) {ty n o:Nat} (g:P0.underlying ty=some (.map n o)) {m:V} {mv:Value} (i:fM Δ m mv) {r:R} (hv:LO m h=some r) :
  ∃v h' e x w',r = .val v h'/\(Instr.range ty mv).run P0 w = .ok x w'/\yQ Δ h w v h' e x w':=by
 unfold LO at hv;split at hv
 ·cases hv;cases i
  have a:Made Δ (.iter none 0 [] 0) (λl=> .ptr l 0) (.mapIter none 0 #[] 0) (λb=> .pointer (some ⟨b,0,none⟩)):=λl b j=>
   ⟨⟨b,0,0,0,0,false,2⟩,rfl,⟨rfl,rfl,rfl,none,rfl,rfl⟩,fM.ptr l 0 ⟨b,0,0,0,0,false,2⟩ (Env.wA _ _ _)⟩
  obtain⟨e,a1,a2,a3,a4⟩:=f.alloc a;exact⟨_,_,e,_,_,rfl,by simp[Instr.range,fP g],a2,a1,a3,a4⟩
 ·rename_i l;rw[zz]at hv;obtain⟨u,c,p,hv⟩:=hv;cases hv
  cases i with
  | map _ d k=>
    obtain⟨q,s,y⟩:=Hg f k p
    have a:Made Δ (.iter (some l) c [] c) (λl=> .ptr l 0) (.mapIter (some d.b) c #[] c) (λb=> .pointer (some ⟨b,0,none⟩)):=λt b j=>
      ⟨⟨b,0,0,0,0,false,2⟩,rfl,⟨rfl,rfl,rfl,some d.b,rfl,d,Env.yD j _ _ k,rfl⟩,fM.ptr t 0 ⟨b,0,0,0,0,false,2⟩ (Env.wA _ _ _)⟩
    obtain⟨e,a1,a2,a3,a4⟩:=f.alloc a;exact⟨_,_,e,_,_,rfl,by simp[Instr.range,fP g,run_getObj_map s],a2,a1,a3,a4⟩
 ·cases hv
theorem tS{r:Nat}{m:Option Nat}{s l:Nat}{seen:Array Nat}(a:w.heap[r]? =some (.mapIter m s seen l)):(getObj r).run P0 w = .ok (.mapIter m s seen l) w:=by simp[getObj,Sem.run,a]
theorem Sk{b:List (V×V×Nat)} {a:List MapEntry} (d:tY Δ b a) (p:Nat->Bool):tY Δ (b.filter λe=>p e.2.2) (a.filter λe=>p e.born):=by
 induction d with
 |nil=>exact .nil
 | cons k v n e b a f hv g _ c=>
   subst g;simp only[WC];by_cases hp:p e.born=true
   ·simp only[hp,if_true];exact .cons _ _ _ _ _ _ f hv rfl c
   ·simp only[hp];exact c
theorem ZT{b:List (V×V×Nat)} {a:List MapEntry} (c:tY Δ b a) (p:Nat->Bool):a.all (λe=>p e.born)=b.all λe=>p e.2.2:=by
 induction c with
 |nil=>rfl
 |cons k v n e b a g hv d _ f=>subst d;simp[f]
theorem Xo(q:WR Δ h w) {it:V} {K:Value} {ty:Nat} (hi:fM Δ it K) {r:R} (hv:sU it h=some r) :
  ∃v h' x w',r = .val v h'/\(Instr.next K false ty).run P0 w = .ok x w'/\yQ Δ h w v h' Δ x w':=by
 unfold sU at hv;rw[vx]at hv;obtain⟨P,off,rfl,hv⟩:=hv;rw[g0,ft]at hv;obtain⟨h0,o,M,hv⟩:=hv;have D:off=0:=vK h0;subst D
 cases hi with
 | ptr _ _ d A=>
   obtain⟨o',N,O⟩:=q.obj P d A;rw[M]at N;cases N;split at hv
   ·cases hv
    obtain⟨a1,a2,a3,Q,a4,S⟩:=O;subst S;refine⟨_,_,_,w,rfl,?_,.tuple _ #[.bool false] (.one (.bool false)),q,.refl _ _,.refl _ _⟩;rw[a3];simp[Instr.next,tS a4]
   ·rename_i m since seen last
    obtain ⟨a1,a2,a3,Q,a4,B,s,rfl⟩:=O;rw[zz]at hv;obtain⟨E,c,F,hv⟩:=hv;rw[g0]at hv;obtain⟨t,hv⟩:=hv;obtain⟨f,C,G⟩:=Hg q s F;have i:(!seen.toArray.isEmpty&&!f.isEmpty&&f.all (λe=>decide (e.born >= last)))=false:=by
      have T:f.isEmpty=E.isEmpty:=by
        have:=G.length;cases E <;> cases hes:f with|mk l=>cases l <;> simp_all
      have U:f.all (λe=>decide (e.born >= last))=E.all (λe=>Nat.ble last e.2.2):=by
        rw[<-Array.all_toList];have:=ZT G (λn=>Nat.ble last n);rw[<-this];congr 1;funext e;rw[Vw];simp[Nat.ble_eq]
      have W:seen.toArray.isEmpty=seen.isEmpty:=by simp
      rw[W,T,U];simpa only[wBo]using t
    have a:=Sk G (λn=>!seen.contains n);have j:(f.filter λe=>!seen.toArray.contains e.born)=Array.mk (f.toList.filter λe=>!seen.contains e.born):=by
      apply Array.ext';rw[Array.toList_filter];simp
    rw[a3];split at hv
    ·rename_i H
     cases hv;rw[H]at a;generalize (f.toList.filter λe=>!seen.contains e.born)=L at a j;cases a;refine⟨_,_,_,w,rfl,?_,.tuple _ #[.bool false] (.one (.bool false)),q,.refl _ _,.refl _ _⟩;simp only[Instr.next,qh,tS a4,py,run_getObj_map C,i,j];simp[Question.forced]
    ·rename_i e H
     rw[g0]at hv;obtain⟨u,hv⟩:=hv;cases hv;rw[H]at a;generalize (f.toList.filter λe=>!seen.contains e.born)=L at a j
     cases a with
     | cons k v nb p _ L X Y y hs=>
       cases hs;have z:p.born<since:=by rw[Ns]at u;rw[y];exact u
       have I:=q.nW _ _ A;have g:∀b,b≠d.b->({w with heap:=w.heap.setIfInBounds d.b (.mapIter (some B.b) since (seen++[nb]).toArray c)}:World).heap[b]? =w.heap[b]?:=λb C=>by
         simp only;rw[wBn (λe=>C e.symm)]
       refine ⟨_,_,_,{w with heap:=w.heap.setIfInBounds d.b (.mapIter (some B.b) since (seen++[nb]).toArray c)},rfl,?_,
         .tuple _ #[.bool true,p.key,p.val] (.cons _ _ _ _ (.bool true) (.cons _ _ _ _ X (.one Y))),?_,FR.set A a2 (by simp) g rfl rfl rfl,.same (jj _)⟩
       ·have J:¬(p.born >= since):=by omega
        have Z:(Array.mk [p]).filter (λx=>decide (x.born<since)) = #[p]:=by simp[z]
        have f2:(Array.mk [p]).filter (λx=>decide (x.born >= since)) = #[]:=by simp[J]
        simp only[Instr.next,qh,tS a4,py,run_getObj_map C,i,j,Z,f2];simp[Question.forced,setObj,Sem.run,a4,y]
       ·refine q.set A M rfl a2 (λh=>h) ⟨a1,a2,a3,some B.b,?_,B,s,rfl⟩ (by simp) g
        simp[I]
    ·cases hv
   ·cases hv
theorem VY{c:List (V×V×Nat)} {a:List MapEntry} (g:tY Δ c a) (st:Nat) {e:V×V×Nat} (b:(c.find? λe=>Nat.beq e.2.2 st)=some e) :
  ∃d,(a.find? λe=>e.born == st)=some d/\fM Δ e.1 d.key/\fM Δ e.2.1 d.val:=by
 induction g with
 |nil=>cases b
 | cons k v n e0 c a h hv i _ j=>
   subst i;simp only[List.find?_cons]at b⊢;have f:(e0.born == st)=Nat.beq e0.born st:=by rw[Vw];simp
   rw[f]
   cases hq:Nat.beq e0.born st with
   |true=>rw[hq]at b;cases b;exact⟨e0,rfl,h,hv⟩
   |false=>rw[hq]at b;exact j b
theorem Uz(q:WR Δ h w) {it:V} {s:Value} (hi:fM Δ it s) {r:R} (hv:SD it h=some r) :
  ∃v x,r = .val v h/\(Instr.entry s).run P0 w = .ok x w/\fM Δ v x:=by
 unfold SD at hv;rw[vx]at hv;obtain⟨u,off,rfl,hv⟩:=hv;rw[g0,ft]at hv;obtain⟨h0,o,y,hv⟩:=hv;have f:off=0:=vK h0;subst f
 cases hi with
 | ptr _ _ d z=>
   obtain⟨G,t,A⟩:=q.obj u d z;rw[y]at t;cases t;split at hv
   ·rename_i m since seen last
    obtain⟨a1,a2,a3,H,a4,I,g,rfl⟩:=A;rw[zz]at hv;obtain⟨J,c,i,hv⟩:=hv;simp only[g0,ft]at hv;obtain⟨hc,st,j,e,k,hv⟩:=hv;cases hv;obtain⟨l,B,C⟩:=Hg q g i;obtain⟨n,D,E,F⟩:=VY C st k;refine⟨_,.tuple #[n.key,n.val],rfl,?_,.tuple _ _ (.cons _ _ _ _ E (.one F))⟩;have p:c=last:=vK hc;subst p;have a:seen.toArray.back? = some st:=by rw[List.back?_toArray];exact j
    have b:(l.find? λe=>e.born == st)=some n:=by rw[<-Array.find?_toList];exact D
    rw[a3];simp only[Instr.entry,qh,tS a4,py,a,run_getObj_map B,bne_self_eq_false,MR,if_false,Gk,b]
   ·cases hv
theorem Xv{f:V} {j:Value} {args:List V} {b:Array Value} {ty:Nat} {c:Go.Call} {op:Operand} (hc:c.callee = .value op) (k:a.eval op=j) (i:c.args.map a.eval=b) (m:fM Δ f j) (n:gM Δ args b.toList) {r:R}
  (hv:gh f args=some r):∃g l gN,r = .call g l/\gM Δ l gN.toList/\(do let d <-resolve a.eval c ty;invoke d.target d.args:Sem Next)=callFunc g gN:=by
 unfold gh at hv;split at hv
 ·cases hv
  cases m with
  | func _ _ _ e h o p=>
    refine⟨_,_,e++b++h,rfl,?_,?_⟩
    ·simp only[Array.toList_append,Ek]
     exact o.append (n.append p)
    ·simp only[resolve,hc,k,i,Deferred.ofValue]
     rfl
 ·cases hv
theorem Sf(hW:WR Δ h w) {j:String} {r:V} {Z:Value} {args:List V} {n:Array Value} {ty:Nat} {c:Go.Call} {op:Operand} (hc:c.callee = .invoke op j) (ho:a.eval op=Z) (Q:c.args.map a.eval=n)
  (hr:fM Δ r Z) (ha:gM Δ args n.toList) {x:R} (hv:ON j r args h=some x) :
  ∃g l gN,x = .call g l/\gM Δ l gN.toList/\(do let d <-resolve a.eval c ty;invoke d.target d.args:Sem Next).run P0 w=(callFunc g gN).run P0 w:=by
 unfold ON at hv;split at hv
 ·rename_i t v
  cases hr with
  | iface _ _ s J=>
    have C:(do let d <-resolve a.eval c ty;invoke d.target d.args:Sem Next)=callMethod (.iface t s) j n:=by
      simp only[resolve,hc,ho,Q];show invoke (.fn (.method j) #[]) (#[.iface t s]++n)=_;have K:(#[Value.iface t s]++n)[0]? =some (.iface t s):=by
        rw[wB0 (by simp)];rfl
      have L:(#[Value.iface t s]++n).extract 1 (#[Value.iface t s]++n).size=n:=by
        apply Array.ext';simp
      simp only[invoke,K,L]
    have z:∀{f:Nat} {o:Option Nat},methodOf t j=some (f,o)->∃i m b,P0.info? t=some i/\i.methods.find? (λm=>m.name == j)=some m/\m.path = #[]/\m.func=some (f,b)/\
        ((∃e,P0.underlying t=some (.pointer e)/\((b=true/\o=none)\/(b=false/\o=some e)))\/(b=false/\o=none/\∃I,P0.underlying t=some I/\∀e,I≠ .pointer e)):=by
      intro f o q;unfold methodOf at q;rw[ft]at q;obtain⟨i,hi,q⟩:=q;split at q
      ·rename_i m hf
       refine⟨i,m,?_⟩;have D:i.methods.find? (λm=>m.name == j)=some m:=by rw[<-Array.find?_toList];exact hf
       split at q
       ·rename_i f' e hp A u
        cases q;exact⟨true,hi,D,by apply Array.ext';exact hp,A,.inl ⟨e,u,.inl ⟨rfl,rfl⟩⟩⟩
       ·rename_i f' e hp A u
        cases q;exact⟨false,hi,D,by apply Array.ext';exact hp,A,.inl ⟨e,u,.inr ⟨rfl,rfl⟩⟩⟩
       ·rename_i f' I E hp A u
        cases q;refine⟨false,hi,D,by apply Array.ext';exact hp,A,.inr ⟨rfl,rfl,I,u,λe he=>?_⟩⟩;subst he;exact E e rfl
       ·cases q
      ·cases q
    obtain⟨fuel,M⟩:∃k,P0.types.size+Made.depth=k+1:=⟨P0.types.size+99,rfl⟩
    split at hv
    ·rename_i f q
     cases hv;obtain⟨i,m,b,K,L,S,T,U⟩:=z q;refine⟨f,_,#[s]++n,rfl,by simp only[Array.toList_append];exact .cons _ _ _ _ J ha,?_⟩;rw[C];have B:(receiverAt t (.val s) b (some ((j.splitOn ".").getLastD j))).run P0 w = .ok s w:=by
       rcases U with⟨e,u,⟨rfl,_⟩|⟨_,F⟩⟩|⟨rfl,_,I,u,E⟩
       ·simp[receiverAt,fP u,Place.get]
       ·cases F
       ·simp only[receiverAt,qh,fP u,py]
        cases I <;> first|rfl|exact absurd rfl (E _)
     have G:(method (P0.types.size+Made.depth) t s j).run P0 w = .ok (f,s) w:=by
       rw[M];simp only[method,qh,typeInfo,run_program,py,K,Gk,L,S,T,follow,B,Array.isEmpty,Array.size_empty,if_true,decide_true]
     simp only[callMethod,qh,run_program,py,G]
    ·rename_i f e q
     rw[ft]at hv;obtain⟨y,hy,hv⟩:=hv;cases hv;obtain⟨i,m,b,K,L,S,T,U⟩:=z q;have W:P0.underlying t=some (.pointer e)/\b=false:=by
       rcases U with⟨e',u,⟨_,F⟩|⟨hb,F⟩⟩|⟨_,F,_⟩
       ·cases F
       ·cases F;exact⟨u,hb⟩
       ·cases F
     obtain ⟨u,rfl⟩:=W;obtain⟨P,H,X⟩:=Mc (t:= .tree .leaf []) (xv:=s) hW (λv hv=>by cases hv;exact J) hy;refine⟨f,_,#[P]++n,rfl,by simp only[Array.toList_append];exact .cons _ _ _ _ X ha,?_⟩;rw[C];have N:∃ad,s = .pointer (some ad):=by
       cases s with
       | pointer p=>cases p with
         |some ad=>exact⟨ad,rfl⟩
         |none=>simp[Instr.loadAt,Instr.sureAddr]at H
       |_=>simp[Instr.loadAt,Instr.sureAddr]at H
     obtain⟨ad,rfl⟩:=N;have Y:(loadVar e ad).run P0 w = .ok P w:=by simpa[Instr.loadAt,Instr.sureAddr]using H
     have B:(receiverAt t (.val (.pointer (some ad))) false (some ((j.splitOn ".").getLastD j))).run P0 w = .ok P w:=by
       have O:∀s1 s2,(Builtin.ssaWrapNilChk_ #[t] t #[.pointer (some ad),strVal s1,strVal s2]).run P0 w = .ok (.pointer (some ad)) w:=λ_ _=>rfl;simp only[receiverAt,qh,fP u,py,Place.get,Gk,O,asAddr,Y]
     have G:(method (P0.types.size+Made.depth) t (.pointer (some ad)) j).run P0 w = .ok (f,P) w:=by
       rw[M];simp only[method,qh,typeInfo,run_program,py,K,Gk,L,S,T,follow,B,Array.isEmpty,Array.size_empty,if_true,decide_true]
     simp only[callMethod,qh,run_program,py,G]
    ·cases hv
 ·cases hv
theorem VC(i:WR Δ h w) (A:TR Δ n t a) {o:Oper} {r:R} (hv:(jW o).f t h=some r) :
  (∃v h' K x w',r = .val v h'/\((execOp a.eval o).run P0 w = .ok (.value x) w'\/(x=undef/\(execOp a.eval o).run P0 w = .ok .skip w'))/\yQ Δ h w v h' K x w')\/
  (∃g l gN,r = .call g l/\gM Δ l gN.toList/\(execOp a.eval o).run P0 w=(callFunc g gN).run P0 w):=by
 obtain⟨dst,op,E,pos,af,gd⟩:=o
 cases op with
 | store ty p x=>
   simp only[jW]at hv;split at hv
   ·rename_i size U
    simp only[ft,vx,g0]at hv;obtain⟨pv,q,v,j,l,off,rfl,C,h',O,h5⟩:=hv;cases h5;obtain⟨w',r1,u,F,r4⟩:=U7 i U (kS i A q) (kS i A j) C O;exact .inl ⟨_,_,Δ,undef,w',rfl,.inr ⟨rfl,by simp[execOp,r1]⟩,.undef Δ,u,F,r4⟩
   ·cases hv
 | mapUpdate ty m k x=>
   simp only[jW]at hv;split at hv
   ·rename_i V W G
    split at hv
    ·rename_i d L
     simp only[ft]at hv;obtain⟨mv,q,kv,j,xv,C,O⟩:=hv;obtain⟨h',w',rfl,r1,u,F,r4⟩:=Tv i G L (kS i A q) (kS i A j) (kS i A C) O;exact .inl ⟨_,_,Δ,undef,w',rfl,.inr ⟨rfl,by simp[execOp,r1]⟩,.undef Δ,u,F,r4⟩
    ·cases hv
   ·cases hv
 | insert ty m k x=>
   simp only[jW]at hv;split at hv
   ·rename_i V W G
    split at hv
    ·rename_i d L
     simp only[ft]at hv;obtain⟨mv,q,kv,j,xv,C,O⟩:=hv;obtain⟨h',w',rfl,r1,u,F,r4⟩:=Tv i G L (kS i A q) (kS i A j) (kS i A C) O;exact .inl ⟨_,_,Δ,undef,w',rfl,.inr ⟨rfl,by simp[execOp,r1]⟩,.undef Δ,u,F,r4⟩
    ·cases hv
   ·cases hv
 | range ty x=>
   simp only[jW]at hv;split at hv
   ·rename_i V W G
    simp only[ft]at hv;obtain⟨mv,q,j⟩:=hv;obtain⟨v,h',K,y,w',rfl,r1,u⟩:=Vd i G (kS i A q) j;exact .inl ⟨_,_,K,y,w',rfl,.inl (mA r1),u⟩
   ·cases hv
 | next x Z7=>
   cases Z7 with
   |true=>cases hv
   | false=>
     simp only[jW,ft]at hv;obtain⟨mv,q,j⟩:=hv;obtain⟨v,h',y,w',rfl,r1,u⟩:=Xo (ty:=E) i (kS i A q) j
     exact .inl ⟨_,_,Δ,y,w',rfl,.inl (mA r1),u⟩
 | entry x=>
   simp only[jW,ft]at hv;obtain⟨mv,q,j⟩:=hv;obtain⟨v,y,rfl,r1,u⟩:=Uz i (kS i A q) j
   exact .inl ⟨_,_,Δ,y,w,rfl,.inl (mA r1),u,i,.refl _ _,.refl _ _⟩
 | convert src P x=>
   simp only[jW]at hv;split at hv
   ·rename_i e hs L
    split at hv
    ·rename_i N U
     simp only[ft]at hv;obtain⟨xv,q,j⟩:=hv;have Q:=kS i A q;split at j
     ·cases j
      generalize hy:a.eval x=y at Q
      cases Q with
      | str s=>
        obtain⟨K,z,w',r1,u⟩:=UG i hs L N s;refine .inl ⟨_,_,K,z,w',rfl,.inl (mA ?_),u⟩;rw[hy];exact r1
     ·cases j
    ·cases hv
   ·rename_i e0 e hs L
    split at hv
    ·rename_i N hb
     simp only[ft]at hv;obtain⟨xv,q,j⟩:=hv;have Q:=kS i A q;generalize hy:a.eval x=y at Q;obtain⟨v',h',w',r1,F,u⟩:=W2 i Q (src:=src) (dst:=P) (e0:=e0) (e:=e) hs L N (vK hb) j;refine .inl ⟨v',h',Δ,y,w',r1,.inl (mA ?_),u⟩;rw[hy];exact F
    ·cases hv
   ·cases hv
 | call c =>
   obtain⟨X,args,H⟩:=c
   cases X with
   | builtin b=>
     simp only[jW]at hv
     cases b with
     | append=>
       simp only at hv;split at hv
       ·rename_i s x sT xT B D
        have S:args = #[s,x]:=by apply Array.ext';exact B
        have I:H = #[sT,xT]:=by apply Array.ext';exact D
        subst S;subst I;split at hv
        ·rename_i M e' hs G
         have J:=zW hs;split at hv
         ·rename_i size jM z N
          simp only[ft]at hv;obtain⟨sv,q,xv,j,C⟩:=hv;obtain⟨v,h',K,y,w',rfl,r1,u⟩:=Mo (ty:=E) (xT:=xT) i J G (λk Y=>by cases Y) N (kS i A q) (kS i A j) C;refine .inl ⟨_,_,K,y,w',rfl,.inl ?_,u⟩;simp only[execOp,resolve,List.map_toArray];exact mA r1
         ·cases hv
        ·rename_i M hs G
         have J:=zW hs;split at hv
         ·rename_i size jM z N
          simp only[ft]at hv;obtain⟨sv,q,xv,j,C⟩:=hv;obtain⟨v,h',K,y,w',rfl,r1,u⟩:=Mo (ty:=E) (xT:=xT) i J G (λk Y=>by cases Y) N (kS i A q) (kS i A j) C;refine .inl ⟨_,_,K,y,w',rfl,.inl ?_,u⟩;simp only[execOp,resolve,List.map_toArray];exact mA r1
         ·cases hv
        ·cases hv
       ·cases hv
     | copy =>
       simp only at hv;split at hv
       ·rename_i d s dT T B D
        have S:args = #[d,s]:=by apply Array.ext';exact B
        have I:H[0]? =some dT:=by rw[<-Rm,D];rfl
        subst S;split at hv
        ·rename_i M hs
         have J:=zW hs;split at hv
         ·rename_i size U
          simp only[ft]at hv;obtain⟨dv,q,sv,j,C⟩:=hv;obtain⟨h',m,w',rfl,r1,u,F,r4⟩:=XF (rt:=E) i I J U (kS i A q) (kS i A j) C;refine .inl ⟨_,_,Δ,_,w',rfl,.inl ?_,.int _ _,u,F,r4⟩;simp only[execOp,resolve,List.map_toArray];exact mA r1
         ·cases hv
        ·cases hv
       ·cases hv
     | delete=>
       simp only at hv;split at hv
       ·rename_i m k mT T B D
        have S:args = #[m,k]:=by apply Array.ext';exact B
        have I:H[0]? =some mT:=by rw[<-Rm,D];rfl
        subst S;split at hv
        ·rename_i V W G
         split at hv
         ·rename_i d L
          simp only[ft]at hv;obtain⟨mv,q,kv,j,C⟩:=hv;obtain⟨h',w',rfl,r1,u,F,r4⟩:=SG (rt:=E) i I G L (kS i A q) (kS i A j) C;refine .inl ⟨_,_,Δ,_,w',rfl,.inl ?_,.tuple _ #[] .nil,u,F,r4⟩;simp only[execOp,resolve,List.map_toArray];exact mA r1
         ·cases hv
        ·cases hv
       ·cases hv
     |_=>cases hv
   | value f=>
     simp only[jW,ft]at hv;obtain⟨fv,q,l,j,C⟩:=hv;obtain⟨g,l,gN,rfl,r1,u⟩:=Xv (a:=a) (c:=⟨.value f,args,H⟩) (ty:=E) (args:=l) rfl rfl rfl (kS i A q) (by simpa using A8 A j) C;refine .inr ⟨g,l,gN,rfl,r1,?_⟩;simp only[execOp]
     rw[u]
   | invoke Z m=>
     simp only[jW,ft]at hv;obtain⟨fv,q,l,j,C⟩:=hv;obtain⟨g,l,gN,rfl,r1,u⟩:=Sf (a:=a) (c:=⟨.invoke Z m,args,H⟩) (ty:=E) i (args:=l) rfl rfl rfl (kS i A q) (by simpa using A8 A j) C
     exact .inr ⟨g,l,gN,rfl,r1,u⟩
 |_=>cases hv
end
