/- Parts. -/
import Derived.Test.YtpfjdlicdljhaaaDoorM02
import Derived.Laws.AppendOwn
import Derived.Laws.NewFold
import Derived.Laws.IdiomStrings
set_option maxHeartbeats 4000000
namespace Go.Proofs.YtpfjdlicdljhaaaDoor.Hx
structure Gr (h:Hp) (Δ:Env) (h':Hp) (a:Env):Prop where
 next:h.next<=h'.next
 none:∀l,Δ l = .none->l<h.next->a l = .none
theorem Gr.refl(h:Hp)(Δ:Env):Gr h Δ h Δ:=⟨iC _,by simp_all⟩
theorem Gr.trans{h h' c:Hp} {Δ e d:Env} (a:Gr h Δ h' e) (b:Gr h' e c d):Gr h Δ c d:=
 ⟨EY a.next b.next,λl g f=>b.none l (a.none l g f) (EP f a.next)⟩
theorem Gr.same{h h':Hp}{Δ:Env}(a:h.next<=h'.next):Gr h Δ h' Δ:=⟨a,by simp_all⟩
theorem Gr.set{h h':Hp} {Δ:Env} {d:D} (a:h.next<=h'.next):Gr h Δ h' (Δ.set h.next d):=
 ⟨a,by simp_all[Env.set,if_neg,Xq]⟩
theorem WR.alloc{Δ:Env} {h:Hp} {w:World} (a:WR Δ h w) {ob:O} {mk:Nat->V} {c:Obj} {e:Nat->Value} (g:Made Δ ob mk c e) :
  ∃b,WR b (h.new ob) (w.alloc c)/\dj b (mk h.next) (e w.heap.size)/\FR Δ b w (w.alloc c)/\Gr h Δ (h.new ob) b:=by
 obtain⟨d,f,i,j⟩:=g h.next w.heap.size a.A2;exact⟨Δ.set h.next d,(a.more ob).lay a.A2 (Ls _) (by rw[qp,if_pos rfl]) f i,j,FR.lay a.A2 f,Gr.set (Q0 _)⟩
theorem qA(g o e:Nat) (fr:Nat×Nat):∀(vs:List Value) (i:Nat) (cur:Array Value) (w:World),w.heap[g]? =some (.cells cur e fr)->(∀j,j<cur.size->¬(fr.1<=j/\j<fr.2))->
  o+i+vs.length<=cur.size->(∀v∈vs,v.oneCell' = true)->
  (storeCells ⟨g,o,none⟩ vs i).run P0 w = .ok () (w.setRow g (cur.toList.take (o+i)++vs++cur.toList.drop (o+i+vs.length)).toArray)
 | [],i,cur,w,hg,_,_,_=>by
   simp only[storeCells,GK,XE,Vk,Sj,Array.toArray_toList];rw[setRow_self w g cur e fr hg]
   rfl
 | v ::rest,i,cur,w,hg,hf,hl,f=>by
   have hi:o+i<cur.size:=by simp at hl;omega
   have a:w.cell? ⟨g,o+i,none⟩=some cur[o+i]:=by simp[World.cell?,hg,hi]
   have b:w.frozen? ⟨g,o+i,none⟩=false:=by
     have:=hf (o+i) hi;simp only[World.frozen?,hg];simpa using this
   have c:(store ((⟨g,o,none⟩:Addr).add i) v).run P0 w = .ok () (w.setRow g (cur.setIfInBounds (o+i) v)):=by
     rw[oh,run_store P0 w _ v _ (by simp_all),a];simp[b,setCell_eq_setRow w g (o+i) cur e fr v hg]
   have d:=qA g o e fr rest (i+1) (cur.setIfInBounds (o+i) v) (w.setRow g (cur.setIfInBounds (o+i) v)) (by grind[setRow_heap]) (by simp_all) (by grind) (by simp_all);simp only[storeCells,rk,c,qf,d,setRow_setRow];congr 3;have e:=list_seg_step cur.toList (o+i) v rest (by simp at hl⊢;omega)
   grind
theorem N1(l vs:List Value) (k:Nat) (hk:k+vs.length<=l.length) (j:Nat) :
  (l.take k++vs++l.drop (k+vs.length))[j]? =if k<=j/\j<k+vs.length then vs[j-k]? else l[j]?:=by
 rw[Hq,List.getElem?_append,JQ,Wb (by omega)]
 grind
theorem WR.set{Δ:Env} {h:Hp} {w w':World} (k:WR Δ h w) {l:Nat} {d:D} {o C:O} (F:Δ l=some d) (t:h.get l=some o) (u:o.live=true) (A:d.ro=false)
  (i:C.live=true->o.live=true) (L:K2 Δ d C w'.heap[d.b]?) (G:w'.heap.size=w.heap.size) (hk:∀b,b≠d.b->w'.heap[b]? =w.heap[b]?):WR Δ (h.put l C) w' where
 fresh:=k.fresh
 jB:=λm e q=>by rw[G];exact k.jB m e q
 obj:=λm e q=>by
  by_cases he:l=m
  ·subst he;rw[F]at q;cases q;exact⟨C,by rw[k9 _ _ (Hp.GP t),if_pos rfl],L⟩
  ·obtain ⟨p,v,E⟩:=k.obj m e q;refine⟨p,by simp_all[k9,Hp.GP,if_neg],?_⟩;by_cases hb:e.b=d.b
   ·have a:p.live=false:=by
     cases j:p.live with
     |false=>rfl
     |true=>exact absurd hb.symm (k.apart l m d e o p F q he t v u j (.inl A))
    cases p with
    | cells e' sz live ro cs=>
      obtain⟨a1,a2,a3,M,_⟩:=E
      exact⟨a1,a2,a3,M,λJ=>by simp only[O.live]at a;rw[a]at J;cases J⟩
    |map P c=>cases a
    |iter m s x c=>cases a
   simp_all
 apart:=λm H e e' p K q y r j f z n I=>by
  rw[k9 _ _ (Hp.GP t)]at j f;by_cases v:l=m
  ·subst v;rw[if_pos rfl]at j;cases j;rw[if_neg r]at f;exact k.apart l H e e' o K q y r t f (i z) n I
  ·rw[if_neg v]at j;by_cases E:l=H
   ·subst E;rw[if_pos rfl]at f;cases f;exact k.apart m l e e' p o q y r j t z (i n) I
   ·rw[if_neg E]at f;exact k.apart m H e e' p K q y r j f z n I
 Cj:=λg p B j=>by
  rw[k9 _ _ (Hp.GP t)]at j;by_cases v:l=g
  ·subst v;exact k.Cj l o B t
  ·rw[if_neg v]at j;exact k.Cj g p B j
 tP:=k.tP
 NK:=k.NK.step (λb _ N=>hk b λe=>N ⟨l,d,F,A,e.symm⟩) (by simp_all)
theorem FR.set{Δ:Env} {w w':World} {l:Nat} {d:D} (f:Δ l=some d) (a:d.ro=false) (c:w'.heap.size=w.heap.size) (hk:∀b,b≠d.b->w'.heap[b]? =w.heap[b]?)
  (g:w'.os=w.os) (h:w'.tape=w.tape) (i:w'.output=w.output):FR Δ Δ w w':=
 ⟨Env.le_refl _,U4 c.symm,g,h,i,λb _ j=>hk b λe=>j ⟨l,d,f,a,e.symm⟩,by simp_all⟩
theorem WR.kill{Δ:Env} {h:Hp} {w:World} (c:WR Δ h w) {l e sz:Nat} {cs:List V} (f:h.get l=some (.cells e sz true false cs)) {d:D} (g:Δ l=some d) :
  WR Δ (h.put l (.cells e sz false false cs)) w/\(∀m d' p,m≠l->Δ m=some d'->h.get m=some p->p.live=true->d'.b≠d.b)/\d.ro=false:=by
 obtain⟨o,k,n⟩:=c.obj l d g;rw[f]at k;cases k;obtain⟨a1,a2,a3,a,s⟩:=n;refine⟨c.set g f rfl a (λh=>(nomatch h)) ⟨a1,a2,a3,a,λh=>(nomatch h)⟩ rfl (by simp_all),λm d' p i q r j=>?_,a⟩;exact c.apart m l d' d p _ q g i r f j rfl (.inr a)
section
variable{Δ:Env}{h:Hp}{w:World}{n:Nat}{t:Tm}{a:Act}
theorem Fz(t:WR Δ h w) {l:Nat} {d:D} (n:Δ l=some d) {off:Nat} {new:List V} {Nh:List Value} (p:dS Δ new Nh) {h':Hp} (a:zB h l off new=some h') :
  ∃w',(storeCells ⟨d.b,d.base+off,none⟩ Nh 0).run P0 w = .ok () w'/\WR Δ h' w'/\FR Δ Δ w w':=by
 unfold zB at a;rw[hY]at a;obtain⟨e,sz,live,ro,cs,u,a⟩:=a;simp only[ek,c7]at a;obtain⟨rfl,q,g,A,hs,a⟩:=a;cases a;have j:ro=false:=by simpa using q
 subst j;obtain⟨B,y,r⟩:=Ek hs;obtain⟨o,z,C⟩:=t.obj l d n;rw[u]at z;cases z;obtain⟨a1,a2,a3,s,E⟩:=C;obtain⟨c,e',fr,b1,b2,b3,H,I⟩:=E rfl;have F:=p.length;have k:d.base+off+Nh.length<=c.size:=by omega
 have f:=qA d.b (d.base+off) e' fr Nh 0 c w b1 (by grind) (by omega) (p.XX g);simp only[Vk]at f;refine⟨_,f,t.set n u rfl s (λh=>h) ⟨a1,a2,by omega,s,λ_=>?_⟩ (by simp) (by grind[setRow_other]),FR.set n s (by simp) (by grind[setRow_other]) rfl rfl rfl⟩;refine⟨_,e',fr,setRow_heap w d.b c _ e' fr b1,?_,b3,by omega,λi v hi=>?_⟩
 ·grind
 ·rw [r i]at hi;have m:=N1 c.toList Nh (d.base+off) (by simpa using k) (d.base+i);rw[X9,m];by_cases hin:off<=i/\i<off+new.length
  ·rw[if_pos hin]at hi;rw[if_pos (by omega)];obtain⟨x,J,G⟩:=p.get _ _ hi
   grind
  grind
end
structure tJ (Δ:Env) (h:Hp) (w:World) (v:V) (h':Hp) (a:Env) (x:Value) (w':World):Prop where
 val:dj a v x
 world:WR a h' w'
 frame:FR Δ a w w'
 grow:Gr h Δ h' a
theorem WR.heap{Δ:Env} {h:Hp} {w w':World} (a:WR Δ h w) (b:w'.heap=w.heap):WR Δ h w':=
 ⟨a.fresh,λl d e=>by rw[b];exact a.jB l d e,λl d e=>by rw[b];exact a.obj l d e,a.apart,a.Cj,a.tP,λg c f=>by rw[b];exact a.NK g c f⟩
theorem WR.Qv{Δ:Env} {h:Hp} {w:World} (c:WR Δ h w) {l:Nat} {o:O} {d:D} (v:Δ l=none) (y:l<h.next) (G:h.get l=some o) (z:d.b<w.heap.size)
  (H:K2 (Δ.set l d) d o w.heap[d.b]?) (A:∀m d' p,Δ m=some d'->h.get m=some p->p.live=true->d'.b≠d.b) (B:RW Δ d.b):WR (Δ.set l d) h w where
 fresh:=λm e a=>by
  rcases Env.iE a with⟨rfl,rfl⟩|⟨_,a⟩
  ·exact y
  ·exact c.fresh m e a
 jB:=λm e a=>by
  rcases Env.iE a with⟨rfl,rfl⟩|⟨_,a⟩
  ·exact z
  ·exact c.jB m e a
 obj:=λm e a=>by
  rcases Env.iE a with⟨rfl,rfl⟩|⟨_,a⟩
  ·simp_all
  ·obtain⟨C,f,j⟩:=c.obj m e a;exact⟨C,f,j.mono (Env.tx v)⟩
 apart:=λm E e e' p F a k n q r s i t=>by
  rcases Env.iE a with⟨f,j⟩|⟨_,f⟩ <;> rcases Env.iE k with⟨x,I⟩|⟨_,x⟩
  ·omega
  ·grind
  ·grind
  ·exact c.apart m E e e' p F f x n q r s i t
 Cj:=λg p u q=>by
  obtain⟨e,f,j⟩:=c.Cj g p u q;exact⟨e,Env.tx v _ _ f,j⟩
 tP:=c.tP
 NK:=c.NK.step (by simp_all) λm e a _=>by
  rcases Env.iE a with⟨rfl,rfl⟩|⟨_,a⟩
  ·simp_all
  simp_all
theorem FR.Qv{Δ:Env} {w w':World} {l:Nat} {d:D} (c:Δ l=none) (h:FR Δ Δ w w') (f:RW Δ d.b):FR Δ (Δ.set l d) w w' where
 le:=Env.tx c
 size:=h.size
 os:=h.os
 tape:=h.tape
 output:=h.output
 dO:=h.dO
 new:=λm e a=>by
  rcases Env.iE a with⟨rfl,rfl⟩|⟨_,a⟩
  ·simp_all
  simp_all
theorem FR.drew{Δ a:Env}{w w':World}(h:FR Δ a w.drew w'):FR Δ a w w':=⟨h.le,h.size,h.os,h.tape,h.output,h.dO,h.new⟩
section
variable{Δ:Env}{h:Hp}{w:World}{n:Nat}{t:Tm}{a:Act}
theorem IA(Δ:Env) (s:ByteArray):dS Δ (uO s.data.toList) (s.data.toList.map λb=>Value.int .u8 b.toNat):=by
 generalize s.data.toList=l
 induction l with
 |nil=>exact .nil
 |cons b l a=>exact .cons _ _ _ _ (.int .u8 _) a
theorem Iu(j:WR Δ h w) {size:Nat} {x:V} {xv:Value} {m:Nat} {cs:List V} (c:dj Δ x xv) (b:ri h size x=some (m,cs)) :
  ∃a,dS Δ cs a/\(∀w',(Builtin.lenOf xv).run P0 w' = .ok m w')/\(Builtin.firstCells size m xv).run P0 w = .ok (Array.mk a) w/\a.length=m*size:=by
 unfold ri at b;split at b
 ·cases b;cases c;exact⟨[],.nil,λ_=>rfl,rfl,by simp⟩
 ·cases b;cases c;exact⟨[],.nil,λ_=>rfl,by simp[Builtin.firstCells,loadCells,loadCellsFrom],by simp⟩
 ·rename_i l off k;rw[c7]at b;obtain⟨n,e,f⟩:=b;cases f
  cases c with
  | slice _ _ _ cap o d p hk q r=>
    rcases r with⟨rfl,_,_⟩|⟨rfl,_⟩
    ·obtain⟨xs,u,i⟩:=qu j p e
     exact⟨xs,i,λ_=>rfl,by grind[Builtin.firstCells],by rw[<-i.length,KM e];rfl⟩
    omega
 ·rename_i s;rw[ek]at b;obtain⟨e,f⟩:=b;cases f;have g:size=1:=wC e;subst g
  cases c with
  | str s=>
    refine ⟨_,IA Δ s,by simp_all[Builtin.lenOf],?_,by simp⟩;have t:s.extract 0 s.size=s:=by
      rw[ByteArray.ext_iff];simp
    simp only[Builtin.firstCells];have:s.data.toList.length=s.size:=by simp
    rw[this,t];simp only[EJ];congr 1
    grind
 ·cases b
theorem ml{n xT ty e:Nat} {j:TypeDesc} (hs:P0.underlying n=some (.slice e)) (o:P0.underlying xT=some j) (hi:∀k,j≠ .int k) {size:Nat} (p:tu e=some size)
  {base:Option Addr} {a c m:Nat} {x:Value} (hlen:(Builtin.lenOf x).run P0 w = .ok m w) {f:List Value} (g:(Builtin.firstCells size m x).run P0 w = .ok (Array.mk f) w)
  (d:a+m<=c) {w':World} (l:∀b,base=some b->(storeCells (b.add (a*size)) f 0).run P0 w = .ok () w') (q:base=none->w' = w) :
  (Builtin.append_ #[n,xT] ty #[.slice base a c,x]).run P0 w = .ok (.slice base (a+m) c) w':=by
 have h:=rj (w:=w) p;have i:(match (generalizing:=false) j with| .int _=>true|_=>false)=false:=by cases j <;> first|rfl|simp_all
 cases base with
 | none=>
   cases q rfl
   simp[Builtin.append_,dt hs,dt o,h,i,hlen,d,g]
 |some b=>simp[Builtin.append_,dt hs,dt o,h,i,hlen,d,g,l b rfl]
theorem DO{A xT ty c:Nat} {q:TypeDesc} (hs:P0.underlying A=some (.slice c)) (E:P0.underlying xT=some q) (hi:∀k,q≠ .int k) {size ic:Nat} {z:V}
  (F:elemOf c=some (size,ic,z)) {base:Option Addr} {a b m:Nat} {x:Value} (hlen:(Builtin.lenOf x).run P0 w = .ok m w) {d e:List Value}
  (f:(Builtin.firstCells size a (.slice base a b)).run P0 w.drew = .ok (Array.mk d) w.drew)
  (g:(Builtin.firstCells size m x).run P0 w.drew = .ok (Array.mk e) w.drew) (G:¬a+m<=b) (N:(a+m)*ic<=70368744177664) (O:a+m<=70368744177664) :
  ∃B,B.size=size/\(Builtin.append_ #[A,xT] ty #[.slice base a b,x]).run P0 w = .ok (.slice (some ⟨w.heap.size,0,none⟩) (a+m) (grownCap w (a+m) b c))
   (w.drew.alloc (.cells (Array.mk d++Array.mk e++Builtin.zeroCells B (grownCap w (a+m) b c-(a+m))) c)):=by
 obtain⟨r,h,s,C,H,_⟩:=AU F;obtain⟨I,J,l,i,j,t⟩:=uL s;have u:(match (generalizing:=false) q with| .int _=>true|_=>false)=false:=by cases q <;> first|rfl|simp_all
 have K:i.bytes=ic:=by
  unfold Ti at h;rw[c7]at h;obtain⟨L,n,v⟩:=h;rw[j]at n;cases n;simpa using v
 have y:i.size=size:=by
  obtain⟨L,n,v⟩:=zj r;rw[j]at n;cases n;exact v
 have D:Builtin.nextslicecap (a+m) b*i.bytes<=281474976710656:=growslice_fits (by omega) (by grind);have o:¬(281474976710656<Builtin.nextslicecap (a+m) b*i.bytes):=by omega
 have p:¬(9223372036854775807<((a:Int)+(m:Int))):=by omega
 have M:=(l λ_=>none).cells.length;refine⟨I.cells,by simp_all,?_⟩;rw[<-y]at f g;have hq:(Question.appendCap (a+m) b c).forced=false:=rfl;simp[Builtin.append_,dt hs,dt E,sizeOf,typeInfo,zeroValue,j,t,u,hlen,G,p,o,hq,f,g,newRow,grownCap]
 grind
theorem Gq(E : WR Δ h w) {sT xT ty f:Nat} {dx:TypeDesc} (hs:P0.underlying sT=some (.slice f)) (hx:P0.underlying xT=some dx) (hi:∀k,dx≠ .int k) {size ic:Nat} {z:V}
    (hz:elemOf f=some (size,ic,z)) {s x:V} {sv xv:Value} (N:dj Δ s sv) (aj:dj Δ x xv) {r:R} (hv:c9 f size ic s x h=some r) :
    ∃v h' O y w',r = .val v h'/\(Builtin.append_ #[sT,xT] ty #[sv,xv]).run P0 w = .ok y w'/\tJ Δ h w v h' O y w':=by
  obtain⟨P,aX,aY,T,aZ,_⟩:=AU hz;unfold c9 at hv;rw[c7]at hv;obtain⟨⟨m,cs⟩,h1,q⟩:=hv;obtain⟨n,n1,n2,n3,n4⟩:=Iu E aj h1;have ay:WR Δ h w.drew:=E.heap rfl;obtain⟨I,d1,d2,d3,d4⟩:=Iu ay aj h1;have ak:cs.length=m*size:=by rw[n1.length,n4]
  cases hm:Nat.beq m 0 with
  | true=>
    have Z:m=0:=wC hm;subst Z;simp only[hm]at q;have aA:n=[]:=V3 (by simpa using n4);subst aA;split at q
    ·cases q;cases N
     exact⟨_,_,Δ,_,w,rfl,ml hs hx hi P (n2 w) n3 (iC _) (λb G=>by cases G) (λ_=>rfl),.cQ,E,.refl _ _,.refl _ _⟩
    ·cases q
     cases N with
     | slice l off len cap o d H hk J ho=>
       exact⟨_,_,Δ,_,w,rfl,ml hs hx hi P (n2 w) n3 J (λb G=>rfl) (λ_=>rfl),.slice _ _ _ cap o d H hk J ho,E,.refl _ _,.refl _ _⟩
    ·cases q
  | false =>
    have Z:0<m:=Nat.pos_of_ne_zero λe=>by rw[e]at hm;cases hm
    simp only[hm,ek]at q;obtain⟨U,q⟩:=q
    have fresh:∀(base:Option Addr) (a t:Nat) (g:List Value) (C8:List V) (h0:Hp),sv = .slice base a t->dS Δ C8 g->g.length=a*size->
        (Builtin.firstCells size a (.slice base a t)).run P0 w.drew = .ok (Array.mk g) w.drew->¬a+m<=t->(a+m)*ic<=70368744177664->a+m<=70368744177664->
        WR Δ h0 w->h0.next=h.next->
        ∃O y w',(Builtin.append_ #[sT,xT] ty #[sv,xv]).run P0 w = .ok y w'/\tJ Δ h w (.slice h.next 0 (a+m)) (h0.new (.cells f size true false (C8++cs))) O y w':=by
      intro base a t g C8 h0 al W K A hg G aB aC xV;obtain⟨zc,aD,hr⟩:=DO (ty:=ty) hs hx hi hz (n2 w) A d3 hg G aB;have L:=grownCap_ge w (a+m) t f;generalize grownCap w (a+m) t f=nc at hr L
      have aa:Made Δ (.cells f size true false (C8++cs)) (λl=> .slice l 0 (a+m)) (.cells (Array.mk g++Array.mk I++Builtin.zeroCells zc (nc-(a+m))) f)
          (λb=> .slice (some ⟨b,0,none⟩) (a+m) nc):=by
        intro l b hn;have J:=Env.tx (d:=⟨b,0,size,(C8++cs).length,nc*size,false,0⟩) hn;have am:=W.append d1;have hlen:(C8++cs).length=(a+m)*size:=by rw[Ht,W.length,K,ak,PV]
        have aT:(a+m)*size<=nc*size:=XL _ L;refine⟨⟨b,0,size,(C8++cs).length,nc*size,false,0⟩,rfl,⟨rfl,rfl,rfl,rfl,λ_=>?_⟩,?_⟩
        ·refine wi ?_ rfl (by show(C8++cs).length<=nc*size;omega) λi u B=>?_
         ·show(Array.mk g++Array.mk I++Builtin.zeroCells zc (nc-(a+m))).size=nc*size
          simp only[Array.size_append,List.size_toArray,size_zeroCells,aD,K,d4];rw[<-PV,<-PV];congr 1;omega
         ·obtain⟨y,hy,aE⟩:=am.get i u B
          refine⟨y,?_,aE.mono J⟩
          grind
        ·refine dj.slice l 0 (a+m) nc 0 _ (Env.qY _ _ _) rfl L (.inl ⟨rfl,?_,?_⟩)
         ·simp_all
         ·show 0+0+nc*size<=nc*size;omega
      obtain⟨O,a1,a2,a3,Q⟩:=(aC.heap (w':=w.drew) rfl).alloc aa;have aF:Gr h Δ (h0.new (.cells f size true false (C8++cs))) O:=⟨by rw[<-xV];exact Q.next,λl hl F=>Q.none l hl (by rw[xV];exact F)⟩
      rw[xV]at a2;exact⟨O,_,_,al▸hr,a2,a1,a3.drew,aF⟩
    split at q
    ·simp only[ek]at q
     obtain⟨h3,h4,h5⟩:=q;cases h5;cases N;have S:m*ic<=70368744177664:=EN h3;have ab:m<=70368744177664:=EN h4;obtain⟨O,y,w',b1,b2⟩:=fresh none 0 0 [] [] h rfl .nil (by simp) rfl (by omega) (by simpa using S) (by simpa using ab) E rfl
     grind
    ·rename_i l off len
     rw[hY]at q;obtain⟨e,sz,live,ro,all,hg,q⟩:=q;simp only[ek]at q;obtain⟨rfl,aG,an,q⟩:=q;have ac:sz=size:=wC an;subst ac;have ao:ro=false:=by simpa using aG
     subst ao
     cases N with
     | slice _ _ _ cap o d H hk J ho=>
       obtain⟨ob,ap,hr⟩:=E.obj l d H;rw[hg]at ap;cases ap;obtain⟨a1,a2,a3,Q,a5⟩:=hr;obtain⟨c,e',fr,b1,b2,b3,b5,b4⟩:=a5 rfl;rw[a2]at ho;have aq:(len+m)*sz=len*sz+m*sz:=PV _ _ _;have a6:0<m*sz:=Nat.mul_pos Z T
       cases hin:Nat.ble (Nat.add off (Nat.mul (Nat.add len m) sz)) all.length with
       | true =>
         simp only[hin,c7]at q;obtain⟨ar,h3,h4⟩:=q;cases h4;have aU:off+(len+m)*sz<=all.length:=EN hin;rcases ho with⟨rfl,M,au⟩|⟨rfl,M⟩
         ·have j:len+m<=cap:=by
            rcases Mo cap (len+m)with F|L
            ·exfalso
             have:cap*sz<(len+m)*sz:=Nat.mul_lt_mul_of_pos_right F T;omega
            ·exact L
          have aH:zB h l (off+len*sz) cs=some (h.put l (.cells e sz true false ar)):=by
            unfold zB;rw[hY];refine⟨e,sz,true,false,all,hg,?_⟩;simp only[ek,c7];exact⟨trivial,rfl,U,ar,h3,rfl⟩
          obtain⟨w',c1,c2,c3⟩:=Fz E H n1 aH;refine⟨_,_,Δ,_,w',rfl,ml hs hx hi P (n2 w) n3 j (λb G=>?_) (λG=>by cases G),?_,c2,c3,.same (iC _)⟩
          ·cases G
           rw[oh,Nat.add_assoc];exact c1
          ·exact .slice l off (len+m) cap _ d H hk j (by simp_all)
         ·exfalso;omega
       | false =>
         simp only[hin,c7,ek]at q;obtain⟨C8,h3,aI,h4,h5,h6⟩:=q;cases h6;have ab:(len+m)*ic<=70368744177664:=EN h4;have aJ:len+m<=70368744177664:=EN h5;have S:sub all off (len*sz)=some C8:=h3;obtain⟨ae,aK⟩:=sub_eq S;obtain⟨aL,a7,_⟩:=E.kill hg H;have a8:Bg h l off (len*sz)=some C8:=by
           unfold Bg;rw[hY];exact⟨e,sz,true,false,all,hg,by rw[ek];exact⟨rfl,S⟩⟩
         by_cases j:len+m<=cap
         ·rcases ho with⟨rfl,M,au⟩|⟨rfl,M⟩
          ·have aV : (len+m)*sz<=cap*sz:=XL _ j
           have X:d.base+off+len*sz+n.length<=c.size:=by rw[n4];omega
           have A:=qA d.b (d.base+off+len*sz) e' fr n 0 c w b1 (by grind) (by simpa using X) (n1.XX U);simp only[Vk]at A;have ag:d.base+off+len*sz+n.length<=c.toList.length:=by simpa using X
           generalize hw':w.setRow d.b (c.toList.take (d.base+off+len*sz)++n++c.toList.drop (d.base+off+len*sz+n.length)).toArray=w' at A;have C:w'.heap.size=w.heap.size:=by rw[<-hw'];simp
           have D:∀b,b≠d.b->w'.heap[b]? =w.heap[b]?:=by grind[setRow_other]
           have aw:w'.heap[d.b]? =some (.cells (c.toList.take (d.base+off+len*sz)++n++c.toList.drop (d.base+off+len*sz+n.length)).toArray e' fr):=by
             rw[<-hw'];exact setRow_heap w d.b c _ e' fr b1
           have ax:WR Δ (h.put l (.cells e sz false false all)) w':=E.set H hg rfl Q (λh=>(nomatch h)) ⟨a1,a2,a3,Q,λh=>(nomatch h)⟩ C D;have aM:FR Δ Δ w w':=FR.set H Q C D (by rw[<-hw'];rfl) (by rw[<-hw'];rfl) (by rw[<-hw'];rfl);have hn:=E.A2;have a9:(C8++cs).length=(len+m)*sz:=by rw[Ht,ae,ak,aq]
           have Y:=Env.tx (d:=⟨d.b,d.base+off,sz,(C8++cs).length,d.Pq,false,0⟩) hn
           refine ⟨_,_,Δ.set h.next ⟨d.b,d.base+off,sz,(C8++cs).length,d.Pq,false,0⟩,_,w',rfl,
             ml hs hx hi P (n2 w) n3 j (λb G=>?_) (λG=>by cases G),?_,?_,aM.Qv hn ⟨l,d,H,Q,rfl⟩,Gr.set (Q0 _)⟩
           ·cases G
            rw[oh];exact A
           ·refine .slice h.next 0 (len+m) cap (d.base+off) ⟨d.b,d.base+off,sz,(C8++cs).length,d.Pq,false,0⟩ (Env.qY _ _ _) rfl j (.inl ⟨rfl,?_,?_⟩)
            ·simp_all
            omega
           ·refine (ax.more (.cells f sz true false (C8++cs))).Qv (o:= .cells f sz true false (C8++cs)) (d:=⟨d.b,d.base+off,sz,(C8++cs).length,d.Pq,false,0⟩) hn (Ls _) (by rw[qp];exact if_pos rfl) (by rw[C];exact E.jB l d H) ⟨rfl,rfl,rfl,rfl,λ_=>?_⟩ (λm' d' p aN hp aO=>?_) ⟨l,d,H,Q,rfl⟩
            ·refine ⟨_,e',fr,aw,?_,λ_=>b3 Q,?_,λi v B=>?_⟩
             ·grind
             ·grind
             ·show ∃x,(List.toArray _)[d.base+off+i]? =some x/\_
              rw[X9,N1 c.toList n _ ag];rw[List.getElem?_append]at B;by_cases F:i<C8.length
              ·rw[if_pos F,aK i (by omega)]at B
               obtain⟨x,ah,ai⟩:=b4 _ _ B;rw[if_neg (by omega)];exact⟨x,by rw[SW,Nat.add_assoc];exact ah,ai.mono Y⟩
              ·rw[if_neg F]at B
               obtain⟨x,ah,ai⟩:=n1.get _ _ B;have aW:=(gL.1 B).1;rw[if_pos (by omega)];refine⟨x,?_,ai.mono Y⟩;rw[<-ah];congr 1;omega
            ·have aP:h.next≠m':=Nat.ne_of_gt (E.fresh _ _ aN)
             rw[qp]at hp;rw[if_neg (by exact aP)]at hp;rw[k9 _ _ (E.fresh _ _ H)]at hp;by_cases he:l=m'
             ·subst he
              rw[if_pos rfl]at hp;cases hp;cases aO
             grind
          ·exfalso;omega
         ·have aQ:∃g,dS Δ C8 g/\(Builtin.firstCells sz len (.slice (some ⟨d.b,o,none⟩) len cap)).run P0 w.drew = .ok (Array.mk g) w.drew:=by
            rcases ho with⟨rfl,M,au⟩|⟨rfl,M⟩
            ·grind[qu,Builtin.firstCells]
            ·have aR:len=0:=by omega
             subst aR;have aS:C8=[]:=V3 (by rw[ae];simp);subst aS;exact⟨[],.nil,by simp[Builtin.firstCells,loadCells,loadCellsFrom]⟩
          obtain⟨g,c1,c2⟩:=aQ;obtain⟨O,y,w',e1,e2⟩:=fresh _ len cap g C8 (h.put l (.cells e sz false false all)) rfl c1 (by rw[<-c1.length,ae]) c2 j ab aJ aL rfl;exact⟨_,_,O,y,w',rfl,e1,e2⟩
    ·cases q
end
section
variable{Δ:Env}{h:Hp}{w:World}{n:Nat}{t:Tm}{a:Act}
theorem O9(f:WR Δ h w) {ty size:Nat} (n:tu ty=some size) {l off:Nat} {v:V} {pv xv:Value} (g:dj Δ (.ptr l off) pv) (i:dj Δ v xv)
  (hlen:Nat.beq v.cells.length size=true) {h':Hp} (hs:zB h l off v.cells=some h') :
  ∃w',(Instr.storeAt ty pv xv).run P0 w = .ok () w'/\WR Δ h' w'/\FR Δ Δ w w'/\Gr h Δ h' Δ:=by
 cases g with
 | ptr _ _ d j=>
   have hc:=i.cells;obtain⟨w',o,k,m⟩:=Fz f j hc hs;have p:=wC hlen;have b:=hc.length;simp only[Sd]at b;have c:h'.next=h.next:=by
     unfold zB at hs;rw[hY]at hs;obtain⟨e,sz,live,ro,cs,q,a⟩:=hs;simp only[ek,c7]at a;obtain⟨_,_,_,_,_,a⟩:=a;cases a;rfl
   refine⟨w',?_,k,m,.same (U4 c.symm)⟩
   simp_all[Instr.storeAt,Instr.sureAddr,storeVar,rj]
theorem o0.length{b:List (V×V×Nat)} {a:List MapEntry} (h:o0 Δ b a):b.length=a.length:=by
 induction h <;> grind
theorem o0.get{b:List (V×V×Nat)} {a:List MapEntry} (h:o0 Δ b a) {i:Nat} {e:V×V×Nat} (hi:b[i]? =some e) :
  ∃e',a[i]? =some e'/\dj Δ e.1 e'.key/\dj Δ e.2.1 e'.val/\e'.born=e.2.2:=by
 induction h generalizing i <;> grind
theorem o0.set{b:List (V×V×Nat)} {a:List MapEntry} (h:o0 Δ b a) {i:Nat} {k v:V} {m:Nat} {e':MapEntry} (hk:dj Δ k e'.key) (f:dj Δ v e'.val) (g:e'.born=m) :
  o0 Δ (b.set i (k,v,m)) (a.set i e'):=by
 induction h generalizing i with
 |nil=>exact .nil
 | cons k0 l n e0 b a c d e hs j=>
   cases i with
   |zero=>exact .cons _ _ _ _ _ _ hk f g hs
   |succ i=>exact .cons _ _ _ _ _ _ c d e j
theorem o0.snoc{b:List (V×V×Nat)} {a:List MapEntry} (h:o0 Δ b a) {k v:V} {m:Nat} {e':MapEntry} (hk:dj Δ k e'.key) (f:dj Δ v e'.val) (g:e'.born=m) :
  o0 Δ (b++[(k,v,m)]) (a++[e']):=by
 induction h with
 |nil=>exact .cons _ _ _ _ _ _ hk f g .nil
 |cons k0 j n e0 b a c d e hs i=>exact .cons _ _ _ _ _ _ c d e i
theorem o0.erase{b:List (V×V×Nat)} {a:List MapEntry} (h:o0 Δ b a) {i:Nat}:o0 Δ (b.eraseIdx i) (a.eraseIdx i):=by
 induction h generalizing i with
 |nil=>exact .nil
 | cons k0 g n e0 b a c d e hs f=>
   cases i with
   |zero=>exact hs
   |succ i=>exact .cons _ _ _ _ _ _ c d e f
theorem BL{k:V} {x y:Value} (m:Nat) (d:Dx k=true) (c:dj Δ k x) (b:dj Δ k y):Instr.sameBits m x y=true:=by
 cases k <;> simp[Dx]at d
 ·cases c;cases b;grind[Instr.sameBits]
 ·cases c;cases b;grind[Instr.sameBits]
 ·rename_i s
  cases c with
  | str a=>
    generalize hs:a.data.toList=l at b
    cases b with
    | str e=>
      have:a=e:=by
        rw[ByteArray.ext_iff];exact Array.ext' hs
      subst this;have f:(a == a)=true:=by show(a.data == a.data)=true;simp
      grind[Instr.sameBits]
theorem RZ(m:Nat) {cs:List V} {xs ys:List Value} (f:cs.all Dx=true) (a:dS Δ cs xs) (b:dS Δ cs ys):xs.length=ys.length/\(xs.zip ys).all (λp=>Instr.sameBits m p.1 p.2)=true:=by
 induction cs generalizing xs ys with
 |nil=>cases a;cases b;simp_all
 | cons c cs g=>
   cases a with
   | cons _ x _ xs a d=>
     cases b with
     | cons _ y _ ys b e=>
       simp only[Ul,rm]at f;obtain⟨h,i⟩:=g f.2 d e;exact⟨by simp[h],by simp only[List.zip_cons_cons,Ul,rm];grind[BL]⟩
theorem E3{k:V} {x y:Value} (m:Nat) (c:Eo k=true) (a:dj Δ k x) (b:dj Δ k y):Instr.sameBits (m+1) x y=true:=by
 cases k with
 | agg cs=>
   cases a with|agg _ xs a=>cases b with|agg _ ys b=>
   obtain⟨d,e⟩:=RZ m c a b
   simp_all[Instr.sameBits,rm]
 |_=>grind[BL,Eo]
theorem map_set(g:WR Δ h w) {l:Nat} {d:D} (f:Δ l=some d) {k e:List (V×V×Nat)} {c c2:Nat} (i:h.get l=some (.map k c)) {FW:Array MapEntry} (m:o0 Δ e FW.toList) :
  (setObj d.b (.map FW c2)).run P0 w = .ok () {w with heap:=w.heap.setIfInBounds d.b (.map FW c2)}/\
  WR Δ (h.put l (.map e c2)) {w with heap:=w.heap.setIfInBounds d.b (.map FW c2)}/\FR Δ Δ w {w with heap:=w.heap.setIfInBounds d.b (.map FW c2)}:=by
 obtain⟨o,j,n⟩:=g.obj l d f;rw[i]at j;cases j;obtain⟨a1,a2,a3,p,r,s⟩:=n;have q:=g.jB l d f;have a:∀b,b≠d.b->({w with heap:=w.heap.setIfInBounds d.b (.map FW c2)}:World).heap[b]? =w.heap[b]?:=by grind
 refine⟨by grind[setObj,Sem.run],g.set f i rfl a2 (λh=>h) ⟨a1,a2,a3,FW,?_,m⟩ (by simp) a,FR.set f a2 (by simp) a rfl rfl rfl⟩
 simp_all
theorem Oa(y:WR Δ h w) {I z O:Nat} (J:P0.underlying I=some (.map z O)) {d:Option (List Field)} (K:CO z=some d) {m k v:V} {L j vv:Value} (P:dj Δ m L) (hk:dj Δ k j) (M:dj Δ v vv)
  {r:R} (f:Hu z d m k v h=some r):∃h' w',r = .val .undef h'/\(Instr.mapUpdate I L j vv).run P0 w = .ok () w'/\WR Δ h' w'/\FR Δ Δ w w'/\Gr h Δ h' Δ:=by
 unfold Hu at f;rw[ek]at f;obtain⟨Q,f⟩:=f;split at f
 ·rename_i l;simp only[uJ,c7]at f;obtain⟨Z,c,A,ob,g,f⟩:=f;cases f
  cases P with
  | map _ dd B=>
    obtain⟨a,N,x⟩:=B2 y B A;have n:=sZ (em:=false) 9999 (by omega) w K hk Q;unfold J2 at g;rw[c7]at g;obtain⟨fr,S,g⟩:=g;obtain⟨o,q,b⟩:=zb K hk w x S
    cases fr with
    | none=>
      cases g
      cases o with
      |some _=>cases b
      | none=>
        obtain⟨C,D,E⟩:=map_set y B A (FW:=a.push {key:=j,val:=vv,born:=c}) (c2:=c+1) (by rw[Array.toList_push];exact x.snoc (m:=c) hk M rfl);refine⟨_,_,rfl,?_,D,E,.same (iC _)⟩
        simp only[Instr.mapUpdate,rk,dt J,qf,run_getObj_map N,n,q,C]
    | some p=>
      obtain⟨i,u⟩:=p;simp only[c7,ek]at g;obtain⟨e,F,G,T,g⟩:=g;cases g
      cases o with
      |none=>cases b
      | some U=>
        obtain⟨i',u'⟩:=U;obtain⟨rfl,_⟩:=b;obtain⟨e',W,X,g3,Y⟩:=x.get F;rw[V.eq_of_beq _ _ G]at X;have H:Instr.sameBits 10000 e'.key j=true:=by grind[E3]
        have s:a[i]? =some e':=by simpa using W
        have t:(a.modify i λe=>{e with key:=j,val:=vv}).toList=a.toList.set i {e' with key:=j,val:=vv}:=by
          rw[Array.toList_modify];rw[List.modify_eq_set];simp[s]
        obtain⟨C,D,E⟩:=map_set y B A (FW:=a.modify i λe=>{e with key:=j,val:=vv}) (c2:=c) (by rw[t];exact x.set (i:=i) (k:=k) (v:=v) (m:=e.2.2) hk M Y);refine⟨_,_,rfl,?_,D,E,.same (iC _)⟩;simp only[Instr.mapUpdate,rk,dt J,qf,run_getObj_map N,n,q,Instr.keyThatStays,s,Option.map_some,VN,H,if_true,EJ,C]
 ·cases f
theorem Na(o:WR Δ h w) {F x N rt:Nat} {q:Array Nat} (j:q[0]? =some F) (y:P0.underlying F=some (.map x N)) {d:Option (List Field)} (z:CO x=some d) {m k:V} {G H:Value} (I:dj Δ m G) (hk:dj Δ k H)
  {r:R} (e:JK x d m k h=some r):∃h' w',r = .val (.tuple []) h'/\(Builtin.delete_ q rt #[G,H]).run P0 w = .ok (.tuple #[]) w'/\WR Δ h' w'/\FR Δ Δ w w'/\Gr h Δ h' Δ:=by
 unfold JK at e;rw[ek]at e;obtain⟨J,e⟩:=e;split at e
 ·cases e;cases I;have g:=sZ (em:=true) 9999 (by omega) w z hk J;refine⟨h,w,rfl,?_,o,.refl _ _,.refl _ _⟩;simp only[Builtin.delete_,j,X9,List.getElem?_cons_zero,Xa,rk,dt y,qf,g,EJ]
 ·rename_i l;simp only[uJ,c7]at e;obtain⟨Q,c,A,fr,O,e⟩:=e
  cases I with
  | map _ B C=>
    obtain⟨a,K,D⟩:=B2 o C A;have g:=sZ (em:=a.isEmpty) 9999 (by omega) w z hk J;obtain⟨s,t,f⟩:=zb z hk w D O
    cases fr with
    | none =>
      cases e
      cases s with
      |some _=>cases f
      | none=>
        obtain ⟨v,L,M⟩:=map_set o C A (FW:=a) (c2:=c) D;have n:({w with heap:=w.heap.setIfInBounds B.b (.map a c)}:World)=w:=by
          have:w.heap.setIfInBounds B.b (.map a c)=w.heap:=by
            apply Array.ext_getElem?;intro i;by_cases hi:B.b=i
            ·grind
            ·simp_all
          rw[this]
        rw[n]at v;refine⟨h,w,rfl,?_,o,.refl _ _,.refl _ _⟩
        simp only[Builtin.delete_,j,X9,List.getElem?_cons_zero,Xa,rk,dt y,qf,run_getObj_map K,g,t,v,EJ]
    | some p=>
      obtain⟨i,u⟩:=p;cases e
      cases s with
      |none=>cases f
      | some P=>
        obtain ⟨S,u'⟩:=P;obtain⟨rfl,_⟩:=f;have E:(a.eraseIdxIfInBounds i).toList=a.toList.eraseIdx i:=by
          rw[Array.eraseIdxIfInBounds_eq];split
          ·rw[Array.toList_eraseIdx]
          ·grind[List.eraseIdx_of_length_le]
        obtain⟨v,L,M⟩:=map_set o C A (FW:=a.eraseIdxIfInBounds i) (c2:=c) (by rw[E];exact D.erase);refine⟨_,_,rfl,?_,L,M,.same (iC _)⟩;simp only[Builtin.delete_,j,X9,List.getElem?_cons_zero,Xa,rk,dt y,qf,run_getObj_map K,g,t,v,EJ]
 ·cases e
end
section
variable{Δ:Env}{h:Hp}{w:World}{n:Nat}{t:Tm}{a:Act}
theorem Io{l off:Nat} {new:List V} {h':Hp} (hs:zB h l off new=some h'):h'.next=h.next:=by
 unfold zB at hs;rw[hY]at hs;obtain⟨e,sz,live,ro,cs,b,a⟩:=hs;simp only[ek,c7]at a;obtain⟨_,_,_,_,_,a⟩:=a;cases a;rfl
theorem Nc(s:ByteArray) (m:Nat):((s.extract 0 m).data.map λb=>Value.int .u8 b.toNat)=Array.mk ((s.data.toList.take m).map λb=>Value.int .u8 b.toNat):=by
 apply Array.ext'
 simp_all
theorem L2(Δ:Env) (l:List UInt8):dS Δ (uO l) (l.map λb=>Value.int .u8 b.toNat):=by
 induction l with
 |nil=>exact .nil
 |cons b l a=>exact .cons _ _ _ _ (.int .u8 _) a
theorem Rq(k:WR Δ h w) {P q size rt:Nat} {n:Array Nat} (z:n[0]? =some P) (Q:P0.underlying P=some (.slice q)) (S:tu q=some size) {d s:V} {y t:Value}
  (T:dj Δ d y) (hs:dj Δ s t) {r:R} (f:Rm size d s h=some r) :
  ∃h' m w',r = .val (.int .i64 (.ofNat m)) h'/\(Builtin.copy_ n rt #[y,t]).run P0 w = .ok (.int .i64 m) w'/\WR Δ h' w'/\FR Δ Δ w w'/\Gr h Δ h' Δ:=by
 have a:∀(base:Option Addr) (c g:Nat) (m:Nat),y = .slice base c g->(Builtin.lenOf t).run P0 w = .ok m w->Nat.min m c=0->(Builtin.firstCells size 0 t).run P0 w = .ok #[] w->
   (Builtin.copy_ n rt #[y,t]).run P0 w = .ok (.int .i64 (0:Nat)) w:=by
  intro base c g m u B p C;subst u;have v:=rj (w:=w) S;cases base <;> simp[Builtin.copy_,z,dt Q,B,p,v,C,storeCells,goInt]
 have some_:∀(base:Addr) (c g:Nat) (m:Nat) (xs:List Value) (w':World),y = .slice (some base) c g->(Builtin.lenOf t).run P0 w = .ok m w->
   (Builtin.firstCells size (Nat.min m c) t).run P0 w = .ok (Array.mk xs) w->(storeCells base xs 0).run P0 w = .ok () w'->
   (Builtin.copy_ n rt #[y,t]).run P0 w = .ok (.int .i64 (Nat.min m c:Nat)) w':=by
  intro base c g m xs w' u B C D;subst u;have v:=rj (w:=w) S;simp[Builtin.copy_,z,dt Q,B,v,C,D,goInt]
 unfold Rm at f;split at f
 ·cases T;split at f
  ·cases f;cases hs;exact⟨_,0,w,rfl,a none 0 0 0 rfl rfl rfl rfl,k,.refl _ _,.refl _ _⟩
  ·cases f
   cases hs with
   | slice l off len cap o Y x hk E F=>
     exact⟨_,0,w,rfl,a none 0 0 _ rfl rfl (Nat.min_zero _) (by simp[Builtin.firstCells,loadCells,loadCellsFrom]),k,.refl _ _,.refl _ _⟩
  ·cases f
   cases hs with
   |str s=>exact⟨_,0,w,rfl,a none 0 0 s.size rfl rfl (Nat.min_zero _) (by simp[Builtin.firstCells]),k,.refl _ _,.refl _ _⟩
  ·cases f
 ·rename_i l off len
  cases T with
  | slice _ _ _ i o Y x hk E F=>
    split at f
    ·cases f;cases hs
     exact⟨_,0,w,rfl,a _ len i 0 rfl rfl (Nat.zero_min _) rfl,k,.refl _ _,.refl _ _⟩
    ·rename_i l' U yF
     cases hs with
     | slice _ _ _ W so sd G Z X H=>
       cases p:Nat.beq (min yF len) 0 with
       | true=>
         simp only[p]at f;cases f;have j:Nat.min yF len=0:=wC p
         exact⟨_,0,w,rfl,a _ len i yF rfl rfl j (by simp[Builtin.firstCells,loadCells,loadCellsFrom]),k,.refl _ _,.refl _ _⟩
       | false=>
         have j:0<min yF len:=Nat.pos_of_ne_zero λe=>by simp_all
         simp only[p,c7]at f;obtain⟨cs,I,h2,A,J⟩:=f;cases J;rcases H with⟨rfl,_,_⟩|⟨rfl,_⟩
         ·rcases F with⟨rfl,_,_⟩|⟨rfl,_⟩
          ·obtain⟨xs,c1,c2⟩:=qu k G I
           obtain⟨w',K,L,M⟩:=Fz k x c2 A;exact⟨_,_,w',rfl,some_ _ len i yF xs w' rfl rfl (by grind[Builtin.firstCells]) K,L,M,.same (U4 (Io A).symm)⟩
          ·omega
         ·omega
    ·rename_i b
     rw[ek]at f;obtain⟨I,f⟩:=f;have N:size=1:=wC I;subst N
     cases hs with
     | str s=>
       have O:s.data.toList.length=s.size:=by simp
       rw[O]at f
       cases p:Nat.beq (min s.size len) 0 with
       | true=>
         simp only[p]at f;cases f;have j:Nat.min s.size len=0:=wC p
         exact⟨_,0,w,rfl,a _ len i s.size rfl rfl j (by simp[Builtin.firstCells]),k,.refl _ _,.refl _ _⟩
       | false=>
         have j:0<min s.size len:=Nat.pos_of_ne_zero λe=>by simp_all
         simp only[p,c7]at f;obtain⟨h2,A,J⟩:=f;cases J;rcases F with⟨rfl,_,_⟩|⟨rfl,_⟩
         ·obtain⟨w',K,L,M⟩:=Fz k x (L2 Δ _) A
          refine⟨_,_,w',rfl,some_ _ len i s.size _ w' rfl rfl ?_ K,L,M,.same (U4 (Io A).symm)⟩;simp only[Builtin.firstCells,Nc];rfl
         ·omega
    ·cases f
 ·cases f
theorem Ga{d:D} {cs:List V} {c:Array Value} {e:Nat} (hs:c.size=d.Pq) (a:d.base=0) (b:cs.length<=d.Pq) (hc:∀(i:Nat) (v:V),cs[i]? =some v->∃x,c[i]? =some x/\dj Δ v x) :
  AO Δ d cs (some (.cells c e (c.size,c.size+1))):=
 ⟨c,e,(c.size,c.size+1),rfl,hs,λ_=> .inr (U4 hs.symm),by omega,λi v hi=>by rw[a,yD];exact hc i v hi⟩
theorem Pg(m:WR Δ h w) {src dst e:Nat} (hs:P0.underlying src=some .string) (n:P0.underlying dst=some (.slice e)) (o:P0.underlying e=some (.int .u8)) (s:ByteArray) :
  ∃d x w',(convert src dst (.string s)).run P0 w = .ok x w'/\tJ Δ h w (.slice h.next 0 s.data.toList.length) (h.new (.cells e 1 true false (uO s.data.toList))) d x w':=by
 have k:=run_bytes_of_string (P:=P0) w src dst e s hs n o;have c:=grownCap_ge w s.size 0 e;generalize grownCap w s.size 0 e=cap at k c;have f:s.data.toList.length=s.size:=by simp
 have p:(uO s.data.toList).length=s.size:=by simp[uO]
 have g:(bytesRow s cap).size=cap:=by
  have:s.data.size=s.size:=rfl;simp[bytesRow];omega
 have a:Made Δ (.cells e 1 true false (uO s.data.toList)) (λl=> .slice l 0 s.data.toList.length) (.cells (bytesRow s cap) e ((bytesRow s cap).size,(bytesRow s cap).size+1))
   (λb=> .slice (some ⟨b,0,none⟩) s.size cap):=by
  intro l b r;refine⟨⟨b,0,1,(uO s.data.toList).length,cap,false,0⟩,rfl,⟨rfl,rfl,rfl,rfl,λ_=>?_⟩,?_⟩
  ·refine Ga g rfl (by simp_all) λi u hi=>?_;obtain⟨x,t,j⟩:=(IA _ s).get i u hi;refine⟨x,?_,j⟩
   grind[gL,bytesRow,Array.getElem?_append_left]
  ·rw[f];refine dj.slice l 0 s.size cap 0 ⟨b,0,1,(uO s.data.toList).length,cap,false,0⟩ (Env.qY _ _ _) rfl c (.inl ⟨rfl,?_,?_⟩)
   ·simp_all
   simp_all
 obtain⟨d,a1,a2,a3,q⟩:=(m.heap (w':=w.drew) rfl).alloc a;exact⟨d,_,_,k,a2,a1,a3.drew,q⟩
theorem RP(q:WR Δ h w) {src dst e0 e:Nat} {x:V} {y:Value} (E:dj Δ x y) (hs:P0.underlying src=some (.slice e0)) (L:P0.underlying dst=some (.slice e)) (M:P0.underlying e=some (.int .u8)) (s:src=dst)
  {r:R} (a:RD x h=some r):∃B h' w',r = .val B h'/\(convert src dst y).run P0 w = .ok y w'/\tJ Δ h w B h' Δ y w':=by
 unfold RD at a;split at a
 ·rename_i l off n;rw[hY]at a;obtain⟨N,sz,live,ro,cs,C,a⟩:=a;simp only[ek]at a;obtain⟨rfl,t,a⟩:=a;cases a;have i:ro=false:=by simpa using t
  subst i
  cases E with
  | slice _ _ _ cap o d j hk u F=>
    obtain⟨p,D,G⟩:=q.obj l d j;rw[C]at D;cases D;obtain⟨a1,a2,a3,v,H⟩:=G;obtain⟨c,z,fr,b1,b2,b3,I,J⟩:=H rfl;subst s;obtain rfl:e0=e:=by simp_all
    obtain ⟨lo,hi⟩:=fr;have K:d.b<w.heap.size:=q.jB l d j;have A:(w.freeze ⟨d.b,c.size,none⟩ 1).heap[d.b]? =some (.cells c z (if lo == hi then(c.size,c.size+1) else(min lo c.size,max hi (c.size+1)))):=by
      unfold World.freeze;rw[if_neg (by omega)];simp only[Array.getElem?_modify,b1,if_true,Option.map_some]
    have f:∀b,b≠d.b->(w.freeze ⟨d.b,c.size,none⟩ 1).heap[b]? =w.heap[b]?:=by
      intro b O;unfold World.freeze;rw[if_neg (by omega)];simp only[Array.getElem?_modify];rw[if_neg (by omega)]
    have k:(w.freeze ⟨d.b,c.size,none⟩ 1).heap.size=w.heap.size:=by
      unfold World.freeze;rw[if_neg (by omega)];simp
    have g:∀b,(w.freeze b 1).os=w.os/\(w.freeze b 1).tape=w.tape/\(w.freeze b 1).output=w.output:=by
      intro b;unfold World.freeze;rw[if_neg (by omega)];exact by simp_all
    refine⟨_,_,w.freeze ⟨d.b,c.size,none⟩ 1,rfl,?_,⟨.slice l off n cap o d j hk u F,?_,FR.set j v k f (g _).1 (g _).2.1 (g _).2.2,Gr.same (iC _)⟩⟩
    ·have m:(Go.shape d.b).run P0 w = .ok (some (z,c.size)) w:=by
       show Result.ok (w.shape? d.b) w=_;unfold World.shape?;rw[b1]
     simp_all[convert,rk,dt,qf,beq_self_eq_true,markStringish,run_freeze]
    ·refine q.set j C rfl v (λh=>h) ⟨a1,a2,a3,v,λ_=>⟨c,z,_,A,b2,λ_=>?_,I,J⟩⟩ k f
     grind
 ·cases a
end
section
variable{Δ:Env}{h:Hp}{w:World}{n:Nat}{t:Tm}{a:Act}
theorem Pw(g:WR Δ h w) {ty p q:Nat} (s:P0.underlying ty=some (.map p q)) {m:V} {j:Value} (k:dj Δ m j) {r:R} (e:Hi m h=some r) :
  ∃v h' f x w',r = .val v h'/\(Instr.range ty j).run P0 w = .ok x w'/\tJ Δ h w v h' f x w':=by
 unfold Hi at e;split at e
 ·cases e;cases k
  have a:Made Δ (.iter none 0 [] 0) (λl=> .ptr l 0) (.mapIter none 0 #[] 0) (λb=> .pointer (some ⟨b,0,none⟩)):=λl b n=>
   ⟨⟨b,0,0,0,0,false,2⟩,rfl,⟨rfl,rfl,rfl,none,rfl,rfl⟩,dj.ptr l 0 ⟨b,0,0,0,0,false,2⟩ (Env.qY _ _ _)⟩
  obtain⟨f,a1,a2,a3,i⟩:=g.alloc a;exact⟨_,_,f,_,_,rfl,by simp_all[Instr.range,dt],a2,a1,a3,i⟩
 ·rename_i l;rw[uJ]at e;obtain⟨A,c,t,e⟩:=e;cases e
  cases k with
  | map _ d o=>
    obtain⟨u,y,B⟩:=B2 g o t
    have a:Made Δ (.iter (some l) c [] c) (λl=> .ptr l 0) (.mapIter (some d.b) c #[] c) (λb=> .pointer (some ⟨b,0,none⟩)):=λz b n=>
      ⟨⟨b,0,0,0,0,false,2⟩,rfl,⟨rfl,rfl,rfl,some d.b,rfl,d,Env.tx n _ _ o,rfl⟩,dj.ptr z 0 ⟨b,0,0,0,0,false,2⟩ (Env.qY _ _ _)⟩
    obtain⟨f,a1,a2,a3,i⟩:=g.alloc a;exact⟨_,_,f,_,_,rfl,by simp[Instr.range,dt s,run_getObj_map y],a2,a1,a3,i⟩
 ·cases e
theorem oV{r:Nat}{m:Option Nat}{s l:Nat}{seen:Array Nat}(a:w.heap[r]? =some (.mapIter m s seen l)):(getObj r).run P0 w = .ok (.mapIter m s seen l) w:=by grind[getObj,Sem.run]
theorem MV{b:List (V×V×Nat)} {a:List MapEntry} (c:o0 Δ b a) (p:Nat->Bool):o0 Δ (b.filter λe=>p e.2.2) (a.filter λe=>p e.born):=by
 induction c with
 |nil=>exact .nil
 | cons k v n e b a hk d f _ g=>
   subst f;simp only[Wf];by_cases hp:p e.born=true
   ·simp only[hp,if_true];exact .cons _ _ _ _ _ _ hk d rfl g
   simp_all
theorem TI{b:List (V×V×Nat)} {a:List MapEntry} (c:o0 Δ b a) (p:Nat->Bool):a.all (λe=>p e.born)=b.all λe=>p e.2.2:=by
 induction c <;> grind
theorem QJ(q:WR Δ h w) {it:V} {J:Value} {ty:Nat} (hi:dj Δ it J) {r:R} (f:xV it h=some r) :
  ∃v h' x w',r = .val v h'/\(Instr.next J false ty).run P0 w = .ok x w'/\tJ Δ h w v h' Δ x w':=by
 unfold xV at f;rw[qV]at f;obtain⟨P,off,rfl,f⟩:=f;rw[ek,c7]at f;obtain⟨h0,o,K,f⟩:=f;have C:off=0:=wC h0;subst C
 cases hi with
 | ptr _ _ d z=>
   obtain⟨o',M,N⟩:=q.obj P d z;rw[K]at M;cases M;split at f
   ·cases f
    obtain⟨a1,a2,a3,Q,A,S⟩:=N;subst S;refine⟨_,_,_,w,rfl,?_,.tuple _ #[.bool false] (.one (.bool false)),q,.refl _ _,.refl _ _⟩;rw[a3];simp[Instr.next,oV A]
   ·rename_i m since seen last
    obtain ⟨a1,a2,a3,Q,A,B,s,rfl⟩:=N;rw[uJ]at f;obtain⟨D,c,E,f⟩:=f;rw[ek]at f;obtain⟨t,f⟩:=f;obtain⟨g,O,F⟩:=B2 q s E;have j:(!seen.toArray.isEmpty&&!g.isEmpty&&g.all (λe=>decide (e.born >= last)))=false:=by
      have T:g.isEmpty=D.isEmpty:=by
        have:=F.length;cases D <;> cases hes:g with|mk l=>grind
      have U:g.all (λe=>decide (e.born >= last))=D.all (λe=>Nat.ble last e.2.2):=by
        rw[<-Array.all_toList];have:=TI F (λn=>Nat.ble last n);rw[<-this];congr 1;funext e;rw[MN];simp[Nat.ble_eq]
      have W:seen.toArray.isEmpty=seen.isEmpty:=by simp
      rw[W,T,U];simpa only[Vo]using t
    have a:=MV F (λn=>!seen.contains n);have p:(g.filter λe=>!seen.toArray.contains e.born)=Array.mk (g.toList.filter λe=>!seen.contains e.born):=by
      apply Array.ext';rw[Array.toList_filter];simp
    rw[a3];split at f
    ·rename_i G
     cases f;rw[G]at a;generalize (g.toList.filter λe=>!seen.contains e.born)=L at a p;cases a;refine⟨_,_,_,w,rfl,?_,.tuple _ #[.bool false] (.one (.bool false)),q,.refl _ _,.refl _ _⟩;simp only[Instr.next,rk,oV A,qf,run_getObj_map O,j,p];simp[Question.forced]
    ·rename_i e G
     rw[ek]at f;obtain⟨u,f⟩:=f;cases f;rw[G]at a;generalize (g.toList.filter λe=>!seen.contains e.born)=L at a p
     cases a with
     | cons k v nb e' _ L hk X H hs=>
       cases hs;have y:e'.born<since:=by rw[I3]at u;rw[H];exact u
       have Y:=q.jB _ _ z;have i:∀b,b≠d.b->({w with heap:=w.heap.setIfInBounds d.b (.mapIter (some B.b) since (seen++[nb]).toArray c)}:World).heap[b]? =w.heap[b]?:=by grind
       refine ⟨_,_,_,{w with heap:=w.heap.setIfInBounds d.b (.mapIter (some B.b) since (seen++[nb]).toArray c)},rfl,?_,
         .tuple _ #[.bool true,e'.key,e'.val] (.cons _ _ _ _ (.bool true) (.cons _ _ _ _ hk (.one X))),?_,FR.set z a2 (by simp) i rfl rfl rfl,.same (iC _)⟩
       ·have I:¬(e'.born >= since):=by omega
        have Z:(Array.mk [e']).filter (λx=>decide (x.born<since)) = #[e']:=by simp[y]
        have f2:(Array.mk [e']).filter (λx=>decide (x.born >= since)) = #[]:=by simp[I]
        simp only[Instr.next,rk,oV A,qf,run_getObj_map O,j,p,Z,f2]
        simp_all[Question.forced,setObj,Sem.run]
       ·refine q.set z K rfl a2 (λh=>h) ⟨a1,a2,a3,some B.b,?_,B,s,rfl⟩ (by simp) i
        simp_all
    ·cases f
   ·cases f
theorem QP{b:List (V×V×Nat)} {a:List MapEntry} (d:o0 Δ b a) (st:Nat) {e:V×V×Nat} (c:(b.find? λe=>Nat.beq e.2.2 st)=some e) :
  ∃e',(a.find? λe=>e.born == st)=some e'/\dj Δ e.1 e'.key/\dj Δ e.2.1 e'.val:=by
 induction d with
 |nil=>cases c
 | cons k v n e0 b a hk h f _ i=>
   subst f;simp only[List.find?_cons]at c⊢;have g:(e0.born == st)=Nat.beq e0.born st:=by rw[MN];simp
   grind
theorem OD(q:WR Δ h w) {it:V} {s:Value} (hi:dj Δ it s) {r:R} (a:Ml it h=some r) :
  ∃v x,r = .val v h/\(Instr.entry s).run P0 w = .ok x w/\dj Δ v x:=by
 unfold Ml at a;rw[qV]at a;obtain⟨u,off,rfl,a⟩:=a;rw[ek,c7]at a;obtain⟨h0,o,y,a⟩:=a;have g:off=0:=wC h0;subst g
 cases hi with
 | ptr _ _ d z=>
   obtain⟨H,t,A⟩:=q.obj u d z;rw[y]at t;cases t;split at a
   ·rename_i m since seen last
    obtain⟨a1,a2,a3,I,B,J,i,rfl⟩:=A;rw[uJ]at a;obtain⟨K,c,j,a⟩:=a;simp only[ek,c7]at a;obtain⟨hc,st,k,e,l,a⟩:=a;cases a;obtain⟨n,C,D⟩:=B2 q i j;obtain⟨e',E,F,G⟩:=QP D st l;refine⟨_,.tuple #[e'.key,e'.val],rfl,?_,.tuple _ _ (.cons _ _ _ _ F (.one G))⟩;have p:c=last:=wC hc;subst p;have b:seen.toArray.back? = some st:=by rw[List.back?_toArray];exact k
    have f:(n.find? λe=>e.born == st)=some e':=by rw[<-Array.find?_toList];exact E
    rw[a3];simp only[Instr.entry,rk,oV B,qf,b,run_getObj_map C,bne_self_eq_false,Kg,if_false,EJ,f]
   ·cases a
theorem QN{f:V} {k:Value} {args:List V} {b:Array Value} {ty:Nat} {c:Go.Call} {op:Operand} (hc:c.callee = .value op) (m:a.eval op=k) (j:c.args.map a.eval=b) (n:dj Δ f k) (o:dS Δ args b.toList) {r:R}
  (i:wD f args=some r):∃g l ee,r = .call g l/\dS Δ l ee.toList/\(do let d <-resolve a.eval c ty;invoke d.target d.args:Sem Next)=callFunc g ee:=by
 unfold wD at i;split at i
 ·cases i
  cases n with
  | func _ _ _ e h p q=>
    refine⟨_,_,e++b++h,rfl,?_,?_⟩
    ·simp only[Array.toList_append,Hq]
     exact p.append (o.append q)
    ·simp only[resolve,hc,m,j,Deferred.ofValue]
     rfl
 ·cases i
theorem Ma(Z:WR Δ h w) {j:String} {r:V} {X:Value} {args:List V} {n:Array Value} {ty:Nat} {c:Go.Call} {op:Operand} (hc:c.callee = .invoke op j) (ho:a.eval op=X) (K:c.args.map a.eval=n)
  (hr:dj Δ r X) (Y:dS Δ args n.toList) {x:R} (A:J1 j r args h=some x) :
  ∃g l ee,x = .call g l/\dS Δ l ee.toList/\(do let d <-resolve a.eval c ty;invoke d.target d.args:Sem Next).run P0 w=(callFunc g ee).run P0 w:=by
 unfold J1 at A;split at A
 ·rename_i t v
  cases hr with
  | iface _ _ q L=>
    have B:(do let d <-resolve a.eval c ty;invoke d.target d.args:Sem Next)=callMethod (.iface t q) j n:=by
      simp only[resolve,hc,ho,K];show invoke (.fn (.method j) #[]) (#[.iface t q]++n)=_;have D:(#[Value.iface t q]++n)[0]? =some (.iface t q):=by
        rw[Array.getElem?_append_left (by simp)];rfl
      have E:(#[Value.iface t q]++n).extract 1 (#[Value.iface t q]++n).size=n:=by
        apply Array.ext';simp
      simp only[invoke,D,E]
    have u:∀{f:Nat} {o:Option Nat},methodOf t j=some (f,o)->∃i m b,P0.info? t=some i/\i.methods.find? (λm=>m.name == j)=some m/\m.path = #[]/\m.func=some (f,b)/\
        ((∃e,P0.underlying t=some (.pointer e)/\((b=true/\o=none)\/(b=false/\o=some e)))\/(b=false/\o=none/\∃M,P0.underlying t=some M/\∀e,M≠ .pointer e)):=by
      intro f o s;unfold methodOf at s;rw[c7]at s;obtain⟨i,hi,s⟩:=s;split at s
      ·rename_i m hf
       refine⟨i,m,?_⟩;have aa:i.methods.find? (λm=>m.name == j)=some m:=by rw[<-Array.find?_toList];exact hf
       split at s
       ·simp_all
       ·simp_all
       ·simp_all
       ·cases s
      ·cases s
    obtain⟨fuel,F⟩:∃k,P0.types.size+Made.depth=k+1:=⟨P0.types.size+99,rfl⟩
    split at A
    ·rename_i f s
     cases A;obtain⟨i,m,b,D,E,N,O,P⟩:=u s;refine⟨f,_,#[q]++n,rfl,by simp only[Array.toList_append];exact .cons _ _ _ _ L Y,?_⟩;rw[B];have z:(receiverAt t (.val q) b (some ((j.splitOn ".").getLastD j))).run P0 w = .ok q w:=by
       rcases P with⟨e,G,⟨rfl,_⟩|⟨_,C⟩⟩|⟨rfl,_,M,G,ab⟩
       ·simp_all[receiverAt,dt,Place.get]
       ·cases C
       ·simp only[receiverAt,rk,dt G,qf]
        rfl
     have Q:(method (P0.types.size+Made.depth) t q j).run P0 w = .ok (f,q) w:=by
       rw[F];simp only[method,rk,typeInfo,run_program,qf,D,EJ,E,N,O,follow,z,Array.isEmpty,Array.size_empty,if_true,decide_true]
     grind[callMethod,rk,run_program,qf]
    ·rename_i f e s
     rw[c7]at A;obtain⟨y,hy,A⟩:=A;cases A;obtain⟨i,m,b,D,E,N,O,P⟩:=u s;have S:P0.underlying t=some (.pointer e)/\b=false:=by
       rcases P with⟨e',G,⟨_,C⟩|⟨hb,C⟩⟩|⟨_,C,_⟩
       ·cases C
       ·simp_all
       ·cases C
     obtain ⟨G,rfl⟩:=S;obtain⟨J,T,U⟩:=Hl (t:= .tree .leaf []) (xv:=q) Z (by simp_all) hy;refine⟨f,_,#[J]++n,rfl,by simp only[Array.toList_append];exact .cons _ _ _ _ U Y,?_⟩;rw[B];have H:∃ad,q = .pointer (some ad):=by
       cases q with
       | pointer p=>cases p with
         |some ad=>simp_all
         |none=>simp_all[Instr.loadAt,Instr.sureAddr]
       |_=>simp_all[Instr.loadAt,Instr.sureAddr]
     obtain⟨ad,rfl⟩:=H;have W:(loadVar e ad).run P0 w = .ok J w:=by simpa[Instr.loadAt,Instr.sureAddr]using T
     have z:(receiverAt t (.val (.pointer (some ad))) false (some ((j.splitOn ".").getLastD j))).run P0 w = .ok J w:=by
       have I:∀s1 s2,(Builtin.ssaWrapNilChk_ #[t] t #[.pointer (some ad),strVal s1,strVal s2]).run P0 w = .ok (.pointer (some ad)) w:=λ_ _=>rfl;simp only[receiverAt,rk,dt G,qf,Place.get,EJ,I,asAddr,W]
     have Q:(method (P0.types.size+Made.depth) t (.pointer (some ad)) j).run P0 w = .ok (f,J) w:=by
       rw[F];simp only[method,rk,typeInfo,run_program,qf,D,EJ,E,N,O,follow,z,Array.isEmpty,Array.size_empty,if_true,decide_true]
     grind[callMethod,rk,run_program,qf]
    ·cases A
 ·cases A
theorem RM(j:WR Δ h w) (B:TR Δ n t a) {o:Oper} {r:R} (i:(gK o).f t h=some r) :
  (∃v h' K x w',r = .val v h'/\((execOp a.eval o).run P0 w = .ok (.value x) w'\/(x=undef/\(execOp a.eval o).run P0 w = .ok .skip w'))/\tJ Δ h w v h' K x w')\/
  (∃g l ee,r = .call g l/\dS Δ l ee.toList/\(execOp a.eval o).run P0 w=(callFunc g ee).run P0 w):=by
 obtain⟨dst,op,F,pos,af,gd⟩:=o
 cases op with
 | store ty p x=>
   simp only[gK]at i;split at i
   ·rename_i size W
    simp only[c7,qV,ek]at i;obtain⟨pv,u,v,q,l,off,rfl,D,h',P,h5⟩:=i;cases h5;obtain⟨w',r1,A,r3,L⟩:=O9 j W (hZ j B u) (hZ j B q) D P;exact .inl ⟨_,_,Δ,undef,w',rfl,.inr ⟨rfl,by simp_all[execOp]⟩,.undef Δ,A,r3,L⟩
   ·cases i
 | mapUpdate ty m k x=>
   simp only[gK]at i;split at i
   ·rename_i X Y G
    split at i
    ·rename_i d M
     simp only[c7]at i;obtain⟨Q,u,kv,q,xv,D,P⟩:=i;obtain⟨h',w',rfl,r1,A,r3,L⟩:=Oa j G M (hZ j B u) (hZ j B q) (hZ j B D) P;exact .inl ⟨_,_,Δ,undef,w',rfl,.inr ⟨rfl,by simp_all[execOp]⟩,.undef Δ,A,r3,L⟩
    ·cases i
   ·cases i
 | insert ty m k x=>
   simp only[gK]at i;split at i
   ·rename_i X Y G
    split at i
    ·rename_i d M
     simp only[c7]at i;obtain⟨Q,u,kv,q,xv,D,P⟩:=i;obtain⟨h',w',rfl,r1,A,r3,L⟩:=Oa j G M (hZ j B u) (hZ j B q) (hZ j B D) P;exact .inl ⟨_,_,Δ,undef,w',rfl,.inr ⟨rfl,by simp_all[execOp]⟩,.undef Δ,A,r3,L⟩
    ·cases i
   ·cases i
 | range ty x=>
   simp only[gK]at i;split at i
   ·rename_i X Y G
    simp only[c7]at i;obtain⟨Q,u,q⟩:=i;obtain⟨v,h',K,y,w',rfl,r1,A⟩:=Pw j G (hZ j B u) q;exact .inl ⟨_,_,K,y,w',rfl,.inl (ji r1),A⟩
   ·cases i
 | next x Ue=>
   cases Ue with
   |true=>cases i
   | false=>
     simp only[gK,c7]at i;obtain⟨Q,u,q⟩:=i;obtain⟨v,h',y,w',rfl,r1,A⟩:=QJ (ty:=F) j (hZ j B u) q
     exact .inl ⟨_,_,Δ,y,w',rfl,.inl (ji r1),A⟩
 | entry x=>
   simp only[gK,c7]at i;obtain⟨Q,u,q⟩:=i;obtain⟨v,y,rfl,r1,A⟩:=OD j (hZ j B u) q
   exact .inl ⟨_,_,Δ,y,w,rfl,.inl (ji r1),A,j,.refl _ _,.refl _ _⟩
 | convert src S x=>
   simp only[gK]at i;split at i
   ·rename_i e hs M
    split at i
    ·rename_i O W
     simp only[c7]at i;obtain⟨xv,u,q⟩:=i;have T:=hZ j B u;split at q
     ·cases q
      generalize hy:a.eval x=y at T
      cases T with
      | str s=>
        obtain⟨K,z,w',r1,A⟩:=Pg j hs M O s;refine .inl ⟨_,_,K,z,w',rfl,.inl (ji ?_),A⟩
        simp_all
     ·cases q
    ·cases i
   ·rename_i e0 e hs M
    split at i
    ·rename_i O hb
     simp only[c7]at i;obtain⟨xv,u,q⟩:=i;have T:=hZ j B u;generalize hy:a.eval x=y at T;obtain⟨v',h',w',r1,r3,A⟩:=RP j T (src:=src) (dst:=S) (e0:=e0) (e:=e) hs M O (wC hb) q;refine .inl ⟨v',h',Δ,y,w',r1,.inl (ji ?_),A⟩
     simp_all
    ·cases i
   ·cases i
 | call c =>
   obtain⟨Z,args,H⟩:=c
   cases Z with
   | builtin b=>
     simp only[gK]at i
     cases b with
     | append=>
       simp only at i;split at i
       ·rename_i s x sT xT C E
        have U:args = #[s,x]:=by apply Array.ext';exact C
        have I:H = #[sT,xT]:=by apply Array.ext';exact E
        subst U;subst I;split at i
        ·rename_i N e' hs G
         have J:=uE hs;split at i
         ·rename_i size ic z O
          simp only[c7]at i;obtain⟨sv,u,xv,q,D⟩:=i;obtain⟨v,h',K,y,w',rfl,r1,A⟩:=Gq (ty:=F) (xT:=xT) j J G (by simp_all) O (hZ j B u) (hZ j B q) D;refine .inl ⟨_,_,K,y,w',rfl,.inl ?_,A⟩;simp only[execOp,resolve,List.map_toArray];exact ji r1
         ·cases i
        ·rename_i N hs G
         have J:=uE hs;split at i
         ·rename_i size ic z O
          simp only[c7]at i;obtain⟨sv,u,xv,q,D⟩:=i;obtain⟨v,h',K,y,w',rfl,r1,A⟩:=Gq (ty:=F) (xT:=xT) j J G (by simp_all) O (hZ j B u) (hZ j B q) D;refine .inl ⟨_,_,K,y,w',rfl,.inl ?_,A⟩;simp only[execOp,resolve,List.map_toArray];exact ji r1
         ·cases i
        ·cases i
       ·cases i
     | copy =>
       simp only at i;split at i
       ·rename_i d s dT V C E
        have U:args = #[d,s]:=by apply Array.ext';exact C
        have I:H[0]? =some dT:=by rw[<-SW,E];rfl
        subst U;split at i
        ·rename_i N hs
         have J:=uE hs;split at i
         ·rename_i size W
          simp only[c7]at i;obtain⟨dv,u,sv,q,D⟩:=i;obtain⟨h',m,w',rfl,r1,A,r3,L⟩:=Rq (rt:=F) j I J W (hZ j B u) (hZ j B q) D;refine .inl ⟨_,_,Δ,_,w',rfl,.inl ?_,.int _ _,A,r3,L⟩;simp only[execOp,resolve,List.map_toArray];exact ji r1
         ·cases i
        ·cases i
       ·cases i
     | delete=>
       simp only at i;split at i
       ·rename_i m k mT V C E
        have U:args = #[m,k]:=by apply Array.ext';exact C
        have I:H[0]? =some mT:=by rw[<-SW,E];rfl
        subst U;split at i
        ·rename_i X Y G
         split at i
         ·rename_i d M
          simp only[c7]at i;obtain⟨Q,u,kv,q,D⟩:=i;obtain⟨h',w',rfl,r1,A,r3,L⟩:=Na (rt:=F) j I G M (hZ j B u) (hZ j B q) D;refine .inl ⟨_,_,Δ,_,w',rfl,.inl ?_,.tuple _ #[] .nil,A,r3,L⟩;simp only[execOp,resolve,List.map_toArray];exact ji r1
         ·cases i
        ·cases i
       ·cases i
     |_=>cases i
   | value f=>
     simp only[gK,c7]at i;obtain⟨fv,u,l,q,D⟩:=i;obtain⟨g,l,ee,rfl,r1,A⟩:=QN (a:=a) (c:=⟨.value f,args,H⟩) (ty:=F) (args:=l) rfl rfl rfl (hZ j B u) (by simpa using wj B q) D;refine .inr ⟨g,l,ee,rfl,r1,?_⟩
     grind[execOp]
   | invoke aa m=>
     simp only[gK,c7]at i;obtain⟨fv,u,l,q,D⟩:=i;obtain⟨g,l,ee,rfl,r1,A⟩:=Ma (a:=a) (c:=⟨.invoke aa m,args,H⟩) (ty:=F) j (args:=l) rfl rfl rfl (hZ j B u) (by simpa using wj B q) D
     exact .inr ⟨g,l,ee,rfl,r1,A⟩
 |_=>cases i
end
