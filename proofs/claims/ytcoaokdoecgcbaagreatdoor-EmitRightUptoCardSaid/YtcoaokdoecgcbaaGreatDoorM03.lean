/- Parts. -/
import Derived.Test.YtcoaokdoecgcbaaGreatDoorM02
import Derived.Laws.AppendOwn
import Derived.Laws.NewFold
import Derived.Laws.IdiomStrings
set_option maxHeartbeats 4000000
namespace Go.Proofs.YtcoaokdoecgcbaaGreatDoor.Hx
structure Gr (h:Hp) (Δ:Env) (h':Hp) (a:Env):Prop where
 next:h.next<=h'.next
 none:∀l,Δ l = .none->l<h.next->a l = .none
theorem Gr.refl(h:Hp)(Δ:Env):Gr h Δ h Δ:=⟨jv _,by simp_all⟩
theorem Gr.trans{h h' c:Hp} {Δ e d:Env} (a:Gr h Δ h' e) (b:Gr h' e c d):Gr h Δ c d:=
 ⟨KK a.next b.next,λl hl f=>b.none l (a.none l hl f) (Dy f a.next)⟩
theorem Gr.same{h h':Hp}{Δ:Env}(a:h.next<=h'.next):Gr h Δ h' Δ:=⟨a,by simp_all⟩
theorem Gr.set{h h':Hp} {Δ:Env} {d:D} (a:h.next<=h'.next):Gr h Δ h' (Δ.set h.next d):=
 ⟨a,by simp_all[Env.set,if_neg,Tj]⟩
theorem WR.alloc{Δ:Env} {h:Hp} {w:World} (a:WR Δ h w) {ob:O} {mk:Nat->V} {c:Obj} {e:Nat->Value} (g:Made Δ ob mk c e) :
  ∃b,WR b (h.new ob) (w.alloc c)/\fF b (mk h.next) (e w.heap.size)/\FR Δ b w (w.alloc c)/\Gr h Δ (h.new ob) b:=by
 obtain⟨d,f,i,hv⟩:=g h.next w.heap.size a.G6;exact⟨Δ.set h.next d,(a.more ob).lay a.G6 (RC _) (by rw[ue,if_pos rfl]) f i,hv,FR.lay a.G6 f,Gr.set (RM _)⟩
theorem uv(g o e:Nat) (fr:Nat×Nat):∀(vs:List Value) (i:Nat) (cur:Array Value) (w:World),w.heap[g]? =some (.cells cur e fr)->(∀j,j<cur.size->¬(fr.1<=j/\j<fr.2))->
  o+i+vs.length<=cur.size->(∀v∈vs,v.oneCell' = true)->
  (storeCells ⟨g,o,none⟩ vs i).run P0 w = .ok () (w.setRow g (cur.toList.take (o+i)++vs++cur.toList.drop (o+i+vs.length)).toArray)
 | [],i,cur,w,hg,_,_,_=>by
   simp only[storeCells,Hf,wBw,wBx,wA3,Array.toArray_toList];rw[setRow_self w g cur e fr hg]
   rfl
 | v ::rest,i,cur,w,hg,hf,hl,f=>by
   have hi:o+i<cur.size:=by simp at hl;omega
   have a:w.cell? ⟨g,o+i,none⟩=some cur[o+i]:=by simp[World.cell?,hg,hi]
   have b:w.frozen? ⟨g,o+i,none⟩=false:=by
     have:=hf (o+i) hi;simp only[World.frozen?,hg];simpa using this
   have c:(store ((⟨g,o,none⟩:Addr).add i) v).run P0 w = .ok () (w.setRow g (cur.setIfInBounds (o+i) v)):=by
     rw[rU,run_store P0 w _ v _ (by simp_all),a];simp[b,setCell_eq_setRow w g (o+i) cur e fr v hg]
   have d:=uv g o e fr rest (i+1) (cur.setIfInBounds (o+i) v) (w.setRow g (cur.setIfInBounds (o+i) v)) (by grind[setRow_heap]) (by simp_all) (by grind) (by simp_all);simp only[storeCells,sG,c,sP,d,setRow_setRow];congr 3;have e:=list_seg_step cur.toList (o+i) v rest (by simp at hl⊢;omega)
   grind
theorem Vp(l vs:List Value) (k:Nat) (a:k+vs.length<=l.length) (j:Nat) :
  (l.take k++vs++l.drop (k+vs.length))[j]? =if k<=j/\j<k+vs.length then vs[j-k]? else l[j]?:=by
 rw[KB,List.getElem?_append,Rh,wBm (by omega)]
 grind
theorem WR.set{Δ:Env} {h:Hp} {w w':World} (j:WR Δ h w) {l:Nat} {d:D} {o y:O} (hl:Δ l=some d) (q:h.get l=some o) (r:o.live=true) (v:d.ro=false)
  (f:y.live=true->o.live=true) (G:SX Δ d y w'.heap[d.b]?) (A:w'.heap.size=w.heap.size) (H:∀b,b≠d.b->w'.heap[b]? =w.heap[b]?):WR Δ (h.put l y) w' where
 fresh:=j.fresh
 AA:=λm e n=>by rw[A];exact j.AA m e n
 obj:=λm e n=>by
  by_cases he:l=m
  ·subst he;rw[hl]at n;cases n;exact⟨y,by rw[jz _ _ (Hp.BP q),if_pos rfl],G⟩
  ·obtain ⟨p,s,z⟩:=j.obj m e n;refine⟨p,by simp_all[jz,Hp.BP,if_neg],?_⟩;by_cases hb:e.b=d.b
   ·have a:p.live=false:=by
     cases i:p.live with
     |false=>rfl
     |true=>exact absurd hb.symm (j.apart l m d e o p hl n he q s r i (.inl v))
    cases p with
    | cells e' sz live ro cs=>
      obtain⟨I,J,K,L,_⟩:=z
      exact⟨I,J,K,L,λE=>by simp only[O.live]at a;rw[a]at E;cases E⟩
    |_=>cases a
   simp_all
 apart:=λm B e e' p F n t oS i c u k C=>by
  rw[jz _ _ (Hp.BP q)]at i c;by_cases s:l=m
  ·subst s;rw[if_pos rfl]at i;cases i;rw[if_neg oS]at c;exact j.apart l B e e' o F n t oS q c (f u) k C
  ·rw[if_neg s]at i;by_cases z:l=B
   ·subst z;rw[if_pos rfl]at c;cases c;exact j.apart m l e e' p o n t oS i q u (f k) C
   ·rw[if_neg z]at c;exact j.apart m B e e' p F n t oS i c u k C
 HA:=λg p x i=>by
  rw[jz _ _ (Hp.BP q)]at i;by_cases s:l=g
  ·subst s;exact j.HA l o x q
  ·rw[if_neg s]at i;exact j.HA g p x i
 xC:=j.xC
 Va:=j.Va.step (λb _ M=>H b λe=>M ⟨l,d,hl,v,e.symm⟩) (by simp_all)
theorem FR.set{Δ:Env} {w w':World} {l:Nat} {d:D} (hl:Δ l=some d) (a:d.ro=false) (c:w'.heap.size=w.heap.size) (f:∀b,b≠d.b->w'.heap[b]? =w.heap[b]?)
  (g:w'.os=w.os) (h:w'.tape=w.tape) (i:w'.output=w.output):FR Δ Δ w w':=
 ⟨Env.le_refl _,wB5 c.symm,g,h,i,λb _ j=>f b λe=>j ⟨l,d,hl,a,e.symm⟩,by simp_all⟩
theorem WR.kill{Δ:Env} {h:Hp} {w:World} (f:WR Δ h w) {l e sz:Nat} {cs:List V} (g:h.get l=some (.cells e sz true false cs)) {d:D} (hl:Δ l=some d) :
  WR Δ (h.put l (.cells e sz false false cs)) w/\(∀m a p,m≠l->Δ m=some a->h.get m=some p->p.live=true->a.b≠d.b)/\d.ro=false:=by
 obtain⟨o,j,k⟩:=f.obj l d hl;rw[g]at j;cases j;obtain⟨n,q,r,c,u⟩:=k;refine⟨f.set hl g rfl c (λh=>(nomatch h)) ⟨n,q,r,c,λh=>(nomatch h)⟩ rfl (by simp_all),λm a p oS s t i=>?_,c⟩;exact f.apart m l a d p _ s hl oS t g i rfl (.inr c)
section
variable{Δ:Env}{h:Hp}{w:World}{n:Nat}{t:Tm}{a:Act}
theorem MC(r:WR Δ h w) {l:Nat} {d:D} (hl:Δ l=some d) {off:Nat} {new:List V} {UR:List Value} (m:gB Δ new UR) {h':Hp} (hv:EC h l off new=some h') :
  ∃w',(storeCells ⟨d.b,d.base+off,none⟩ UR 0).run P0 w = .ok () w'/\WR Δ h' w'/\FR Δ Δ w w':=by
 unfold EC at hv;rw[kI]at hv;obtain⟨e,sz,live,ro,cs,s,hv⟩:=hv;simp only[gG,fk]at hv;obtain⟨rfl,n,f,oY,hs,hv⟩:=hv;cases hv;have g:ro=false:=by simpa using n
 subst g;obtain⟨z,t,p⟩:=Lb hs;obtain⟨o,u,A⟩:=r.obj l d hl;rw[s]at u;cases u;obtain⟨B,C,I,q,E⟩:=A;obtain⟨c,e',fr,y,J,F,K,L⟩:=E rfl;have G:=m.length;have j:d.base+off+UR.length<=c.size:=by omega
 have a:=uv d.b (d.base+off) e' fr UR 0 c w y (by grind) (by omega) (m.zeV f);simp only[wBx]at a;refine⟨_,a,r.set hl s rfl q (λh=>h) ⟨B,C,by omega,q,λ_=>?_⟩ (by simp) (by grind[setRow_other]),FR.set hl q (by simp) (by grind[setRow_other]) rfl rfl rfl⟩;refine⟨_,e',fr,setRow_heap w d.b c _ e' fr y,?_,F,by omega,λi v hi=>?_⟩
 ·grind
 ·rw [p i]at hi;have k:=Vp c.toList UR (d.base+off) (by simpa using j) (d.base+i);rw[wBX,k];by_cases hin:off<=i/\i<off+new.length
  ·rw[if_pos hin]at hi;rw[if_pos (by omega)];obtain⟨x,M,H⟩:=m.get _ _ hi
   grind
  grind
end
structure vV (Δ:Env) (h:Hp) (w:World) (v:V) (h':Hp) (a:Env) (x:Value) (w':World):Prop where
 val:fF a v x
 world:WR a h' w'
 frame:FR Δ a w w'
 grow:Gr h Δ h' a
theorem WR.heap{Δ:Env} {h:Hp} {w w':World} (a:WR Δ h w) (b:w'.heap=w.heap):WR Δ h w':=
 ⟨a.fresh,λl d hl=>by rw[b];exact a.AA l d hl,λl d hl=>by rw[b];exact a.obj l d hl,a.apart,a.HA,a.xC,λg c e=>by rw[b];exact a.Va g c e⟩
theorem WR.zae{Δ:Env} {h:Hp} {w:World} (c:WR Δ h w) {l:Nat} {o:O} {d:D} (u:Δ l=none) (hl:l<h.next) (F:h.get l=some o) (y:d.b<w.heap.size)
  (G:SX (Δ.set l d) d o w.heap[d.b]?) (z:∀m v p,Δ m=some v->h.get m=some p->p.live=true->v.b≠d.b) (A:RW Δ d.b):WR (Δ.set l d) h w where
 fresh:=λm e a=>by
  rcases Env.lJ a with⟨rfl,rfl⟩|⟨_,a⟩
  ·exact hl
  ·exact c.fresh m e a
 AA:=λm e a=>by
  rcases Env.lJ a with⟨rfl,rfl⟩|⟨_,a⟩
  ·exact y
  ·exact c.AA m e a
 obj:=λm e a=>by
  rcases Env.lJ a with⟨rfl,rfl⟩|⟨_,a⟩
  ·simp_all
  ·obtain⟨B,f,j⟩:=c.obj m e a;exact⟨B,f,j.mono (Env.yr u)⟩
 apart:=λm C e e' p E a k oS n q r i s=>by
  rcases Env.lJ a with⟨f,j⟩|⟨_,f⟩ <;> rcases Env.lJ k with⟨x,H⟩|⟨_,x⟩
  ·omega
  ·grind
  ·grind
  ·exact c.apart m C e e' p E f x oS n q r i s
 HA:=λg p t n=>by
  obtain⟨e,f,j⟩:=c.HA g p t n;exact⟨e,Env.yr u _ _ f,j⟩
 xC:=c.xC
 Va:=c.Va.step (by simp_all) λm e a _=>by
  rcases Env.lJ a with⟨rfl,rfl⟩|⟨_,a⟩
  ·simp_all
  simp_all
theorem FR.zae{Δ:Env} {w w':World} {l:Nat} {d:D} (c:Δ l=none) (h:FR Δ Δ w w') (f:RW Δ d.b):FR Δ (Δ.set l d) w w' where
 le:=Env.yr c
 size:=h.size
 os:=h.os
 tape:=h.tape
 output:=h.output
 fh:=h.fh
 new:=λm e a=>by
  rcases Env.lJ a with⟨rfl,rfl⟩|⟨_,a⟩
  ·simp_all
  simp_all
theorem FR.drew{Δ a:Env}{w w':World}(h:FR Δ a w.drew w'):FR Δ a w w':=⟨h.le,h.size,h.os,h.tape,h.output,h.fh,h.new⟩
section
variable{Δ:Env}{h:Hp}{w:World}{n:Nat}{t:Tm}{a:Act}
theorem Pz(Δ:Env) (s:ByteArray):gB Δ (zP s.data.toList) (s.data.toList.map λb=>Value.int .u8 b.toNat):=by
 generalize s.data.toList=l
 induction l with
 |nil=>exact .nil
 |cons b l a=>exact .cons _ _ _ _ (.int .u8 _) a
theorem PQ(i:WR Δ h w) {size:Nat} {x:V} {xv:Value} {m:Nat} {cs:List V} (b:fF Δ x xv) (hv:kV h size x=some (m,cs)) :
  ∃a,gB Δ cs a/\(∀w',(Builtin.lenOf xv).run P0 w' = .ok m w')/\(Builtin.firstCells size m xv).run P0 w = .ok (Array.mk a) w/\a.length=m*size:=by
 unfold kV at hv;split at hv
 ·cases hv;cases b;exact⟨[],.nil,λ_=>rfl,rfl,by simp⟩
 ·cases hv;cases b <;> exact⟨[],.nil,λ_=>rfl,by simp[Builtin.firstCells,loadCells,loadCellsFrom],by simp⟩
 ·rename_i l off k;rw[fk]at hv;obtain⟨oY,c,e⟩:=hv;cases e
  cases b with
  | slice _ _ _ cap o d hd q j n=>
    rcases n with⟨rfl,_,_⟩|⟨rfl,_⟩
    ·obtain⟨xs,r,g⟩:=uh i hd c
     exact⟨xs,g,λ_=>rfl,by grind[Builtin.firstCells],by rw[<-g.length,Oo c];rfl⟩
    omega
 ·rename_i s;rw[gG]at hv;obtain⟨c,e⟩:=hv;cases e;have f:size=1:=yi c;subst f
  cases b with
  | str s=>
    refine ⟨_,Pz Δ s,by simp_all[Builtin.lenOf],?_,by simp⟩;have p:s.extract 0 s.size=s:=by
      rw[ByteArray.ext_iff];simp
    simp only[Builtin.firstCells];have:s.data.toList.length=s.size:=by simp
    rw[this,p];simp only[Lg];congr 1
    grind
 ·cases hv
theorem oy{n xT ty e:Nat} {j:TypeDesc} (hs:P0.underlying n=some (.slice e)) (o:P0.underlying xT=some j) (hi:∀k,j≠ .int k) {size:Nat} (p:ym e=some size)
  {base:Option Addr} {a c m:Nat} {x:Value} (hlen:(Builtin.lenOf x).run P0 w = .ok m w) {f:List Value} (g:(Builtin.firstCells size m x).run P0 w = .ok (Array.mk f) w)
  (d:a+m<=c) {w':World} (l:∀b,base=some b->(storeCells (b.add (a*size)) f 0).run P0 w = .ok () w') (q:base=none->w' = w) :
  (Builtin.append_ #[n,xT] ty #[.slice base a c,x]).run P0 w = .ok (.slice base (a+m) c) w':=by
 have h:=sR (w:=w) p;have i:(match (generalizing:=false) j with| .int _=>true|_=>false)=false:=by cases j <;> first|rfl|simp_all
 cases base with
 | none=>
   cases q rfl
   simp[Builtin.append_,fR hs,fR o,h,i,hlen,d,g]
 |some b=>simp[Builtin.append_,fR hs,fR o,h,i,hlen,d,g,l b rfl]
theorem KV{A xT ty c:Nat} {q:TypeDesc} (hs:P0.underlying A=some (.slice c)) (E:P0.underlying xT=some q) (hi:∀k,q≠ .int k) {size lE:Nat} {z:V}
  (F:elemOf c=some (size,lE,z)) {base:Option Addr} {a b m:Nat} {x:Value} (hlen:(Builtin.lenOf x).run P0 w = .ok m w) {d e:List Value}
  (f:(Builtin.firstCells size a (.slice base a b)).run P0 w.drew = .ok (Array.mk d) w.drew)
  (g:(Builtin.firstCells size m x).run P0 w.drew = .ok (Array.mk e) w.drew) (G:¬a+m<=b) (N:(a+m)*lE<=70368744177664) (O:a+m<=70368744177664) :
  ∃B,B.size=size/\(Builtin.append_ #[A,xT] ty #[.slice base a b,x]).run P0 w = .ok (.slice (some ⟨w.heap.size,0,none⟩) (a+m) (grownCap w (a+m) b c))
   (w.drew.alloc (.cells (Array.mk d++Array.mk e++Builtin.zeroCells B (grownCap w (a+m) b c-(a+m))) c)):=by
 obtain⟨r,h,s,C,H,_⟩:=G1 F;obtain⟨I,J,l,i,j,t⟩:=Au s;have u:(match (generalizing:=false) q with| .int _=>true|_=>false)=false:=by cases q <;> first|rfl|simp_all
 have K:i.bytes=lE:=by
  unfold zaM at h;rw[fk]at h;obtain⟨L,n,v⟩:=h;rw[j]at n;cases n;simpa using v
 have y:i.size=size:=by
  obtain⟨L,n,v⟩:=C8 r;rw[j]at n;cases n;exact v
 have D:Builtin.nextslicecap (a+m) b*i.bytes<=281474976710656:=growslice_fits (by omega) (by grind);have o:¬(281474976710656<Builtin.nextslicecap (a+m) b*i.bytes):=by omega
 have p:¬(9223372036854775807<((a:Int)+(m:Int))):=by omega
 have M:=(l λ_=>none).cells.length;refine⟨I.cells,by simp_all,?_⟩;rw[<-y]at f g;have hq:(Question.appendCap (a+m) b c).forced=false:=rfl;simp[Builtin.append_,fR hs,fR E,sizeOf,typeInfo,zeroValue,j,t,u,hlen,G,p,o,hq,f,g,newRow,grownCap]
 grind
theorem Oy(D : WR Δ h w) {sT xT ty g:Nat} {dx:TypeDesc} (hs:P0.underlying sT=some (.slice g)) (hx:P0.underlying xT=some dx) (hi:∀k,dx≠ .int k) {size lE:Nat} {z:V}
    (hz:elemOf g=some (size,lE,z)) {s x:V} {sv xv:Value} (Q:fF Δ s sv) (am:fF Δ x xv) {r:R} (hv:eQ g size lE s x h=some r) :
    ∃v h' S y w',r = .val v h'/\(Builtin.append_ #[sT,xT] ty #[sv,xv]).run P0 w = .ok y w'/\vV Δ h w v h' S y w':=by
  obtain⟨J,aY,aZ,U,a0,_⟩:=G1 hz;unfold eQ at hv;rw[fk]at hv;obtain⟨⟨m,cs⟩,h1,t⟩:=hv;obtain⟨q,n1,n2,n3,n4⟩:=PQ D am h1;have aA:WR Δ h w.drew:=D.heap rfl;obtain⟨K,d1,d2,d3,d4⟩:=PQ aA am h1;have an:cs.length=m*size:=by rw[n1.length,n4]
  cases hm:Nat.beq m 0 with
  | true=>
    have ac:m=0:=yi hm;subst ac;simp only[hm]at t;have aB:q=[]:=wAz (by simpa using n4);subst aB;split at t
    ·cases t;cases Q
     exact⟨_,_,Δ,_,w,rfl,oy hs hx hi J (n2 w) n3 (jv _) (λb G=>by cases G) (λ_=>rfl),.ed,D,.refl _ _,.refl _ _⟩
    ·cases t
     cases Q with
     | slice l off len cap o d hd hk L ho=>
       exact⟨_,_,Δ,_,w,rfl,oy hs hx hi J (n2 w) n3 L (λb G=>rfl) (λ_=>rfl),.slice _ _ _ cap o d hd hk L ho,D,.refl _ _,.refl _ _⟩
     | wild _ _ a d hd hk W X=>
       exact⟨_,_,Δ,_,w,rfl,oy hs hx hi J (n2 w) n3 (jv _) (λb G=>rfl) (λ_=>rfl),.wild _ _ a d hd hk W X,D,.refl _ _,.refl _ _⟩
    ·cases t
  | false =>
    have ac:0<m:=Nat.pos_of_ne_zero λe=>by rw[e]at hm;cases hm
    simp only[hm,gG]at t;obtain⟨Y,t⟩:=t
    have fresh:∀(base:Option Addr) (f A:Nat) (j:List Value) (vJ:List V) (h0:Hp),sv = .slice base f A->gB Δ vJ j->j.length=f*size->
        (Builtin.firstCells size f (.slice base f A)).run P0 w.drew = .ok (Array.mk j) w.drew->¬f+m<=A->(f+m)*lE<=70368744177664->f+m<=70368744177664->
        WR Δ h0 w->h0.next=h.next->
        ∃S y w',(Builtin.append_ #[sT,xT] ty #[sv,xv]).run P0 w = .ok y w'/\vV Δ h w (.slice h.next 0 (f+m)) (h0.new (.cells g size true false (vJ++cs))) S y w':=by
      intro base f A j vJ h0 ao Z M B hg G aC aD JU;obtain⟨zc,aE,W⟩:=KV (ty:=ty) hs hx hi hz (n2 w) B d3 hg G aC;have N:=grownCap_ge w (f+m) A g;generalize grownCap w (f+m) A g=nc at W N
      have ae:Made Δ (.cells g size true false (vJ++cs)) (λl=> .slice l 0 (f+m)) (.cells (Array.mk j++Array.mk K++Builtin.zeroCells zc (nc-(f+m))) g)
          (λb=> .slice (some ⟨b,0,none⟩) (f+m) nc):=by
        intro l b X;have L:=Env.yr (d:=⟨b,0,size,(vJ++cs).length,nc*size,false,0⟩) X;have aq:=Z.append d1;have hlen:(vJ++cs).length=(f+m)*size:=by rw[oQ,Z.length,M,an,XA]
        have aU:(f+m)*size<=nc*size:=wA9 _ N;refine⟨⟨b,0,size,(vJ++cs).length,nc*size,false,0⟩,rfl,⟨rfl,rfl,rfl,rfl,λ_=>?_⟩,?_⟩
        ·refine Bo ?_ rfl (by show(vJ++cs).length<=nc*size;omega) λi u C=>?_
         ·show(Array.mk j++Array.mk K++Builtin.zeroCells zc (nc-(f+m))).size=nc*size
          simp only[Array.size_append,List.size_toArray,size_zeroCells,aE,M,d4];rw[<-XA,<-XA];congr 1;omega
         ·obtain⟨y,hy,aF⟩:=aq.get i u C
          refine⟨y,?_,aF.mono L⟩
          grind
        ·refine fF.slice l 0 (f+m) nc 0 _ (Env.uX _ _ _) rfl N (.inl ⟨rfl,?_,?_⟩)
         ·simp_all
         ·show 0+0+nc*size<=nc*size;omega
      obtain⟨S,a1,a2,a3,I⟩:=(aD.heap (w':=w.drew) rfl).alloc ae;have aG:Gr h Δ (h0.new (.cells g size true false (vJ++cs))) S:=⟨by rw[<-JU];exact I.next,λl hl H=>I.none l hl (by rw[JU];exact H)⟩
      rw[JU]at a2;exact⟨S,_,_,ao▸W,a2,a1,a3.drew,aG⟩
    split at t
    ·simp only[gG]at t
     obtain⟨h3,h4,h5⟩:=t;cases h5;cases Q;have T:m*lE<=70368744177664:=Iv h3;have ag:m<=70368744177664:=Iv h4;obtain⟨S,y,w',b1,b2⟩:=fresh none 0 0 [] [] h rfl .nil (by simp) rfl (by omega) (by simpa using T) (by simpa using ag) D rfl
     grind
    ·rename_i l off len
     rw[kI]at t;obtain⟨e,sz,live,ro,all,hg,t⟩:=t;simp only[gG]at t;obtain⟨rfl,aH,ar,t⟩:=t;have ah:sz=size:=yi ar;subst ah;have au:ro=false:=by simpa using aH
     subst au
     cases Q with
     | wild _ _ a d hd hk W X=>
       obtain⟨ob,O,aI⟩:=D.obj l d hd;rw[hg]at O;cases O;obtain⟨a1,a2,a3,I,a5⟩:=aI
       rw[W]at I;cases I
     | slice _ _ _ cap o d hd hk L ho=>
       obtain⟨ob,O,W⟩:=D.obj l d hd;rw[hg]at O;cases O;obtain⟨a1,a2,a3,I,a5⟩:=W;obtain⟨c,e',fr,b1,b2,b3,b5,b4⟩:=a5 rfl;rw[a2]at ho;have aw:(len+m)*sz=len*sz+m*sz:=XA _ _ _;have a6:0<m*sz:=Nat.mul_pos ac U
       cases hin:Nat.ble (Nat.add off (Nat.mul (Nat.add len m) sz)) all.length with
       | true =>
         simp only[hin,fk]at t;obtain⟨oY,h3,h4⟩:=t;cases h4;have aV:off+(len+m)*sz<=all.length:=Iv hin;rcases ho with⟨rfl,P,ax⟩|⟨rfl,P⟩
         ·have n:len+m<=cap:=by
            rcases Tu cap (len+m)with H|N
            ·exfalso
             have:cap*sz<(len+m)*sz:=Nat.mul_lt_mul_of_pos_right H U;omega
            ·exact N
          have aJ:EC h l (off+len*sz) cs=some (h.put l (.cells e sz true false oY)):=by
            unfold EC;rw[kI];refine⟨e,sz,true,false,all,hg,?_⟩;simp only[gG,fk];exact⟨trivial,rfl,Y,oY,h3,rfl⟩
          obtain⟨w',c1,c2,c3⟩:=MC D hd n1 aJ;refine⟨_,_,Δ,_,w',rfl,oy hs hx hi J (n2 w) n3 n (λb G=>?_) (λG=>by cases G),?_,c2,c3,.same (jv _)⟩
          ·cases G
           rw[rU,X8];exact c1
          ·exact .slice l off (len+m) cap _ d hd hk n (by simp_all)
         ·exfalso;omega
       | false =>
         simp only[hin,fk,gG]at t;obtain⟨vJ,h3,aK,h4,h5,h6⟩:=t;cases h6;have ag:(len+m)*lE<=70368744177664:=Iv h4;have aL:len+m<=70368744177664:=Iv h5;have T:sub all off (len*sz)=some vJ:=h3;obtain⟨ai,aM⟩:=sub_eq T;obtain⟨aN,a7,_⟩:=D.kill hg hd;have a8:Hj h l off (len*sz)=some vJ:=by
           unfold Hj;rw[kI];exact⟨e,sz,true,false,all,hg,by rw[gG];exact⟨rfl,T⟩⟩
         by_cases n:len+m<=cap
         ·rcases ho with⟨rfl,P,ax⟩|⟨rfl,P⟩
          ·have aW : (len+m)*sz<=cap*sz:=wA9 _ n
           have aa:d.base+off+len*sz+q.length<=c.size:=by rw[n4];omega
           have B:=uv d.b (d.base+off+len*sz) e' fr q 0 c w b1 (by grind) (by simpa using aa) (n1.zeV Y);simp only[wBx]at B;have aj:d.base+off+len*sz+q.length<=c.toList.length:=by simpa using aa
           generalize hw':w.setRow d.b (c.toList.take (d.base+off+len*sz)++q++c.toList.drop (d.base+off+len*sz+q.length)).toArray=w' at B;have E:w'.heap.size=w.heap.size:=by rw[<-hw'];simp
           have F:∀b,b≠d.b->w'.heap[b]? =w.heap[b]?:=by grind[setRow_other]
           have ay:w'.heap[d.b]? =some (.cells (c.toList.take (d.base+off+len*sz)++q++c.toList.drop (d.base+off+len*sz+q.length)).toArray e' fr):=by
             rw[<-hw'];exact setRow_heap w d.b c _ e' fr b1
           have az:WR Δ (h.put l (.cells e sz false false all)) w':=D.set hd hg rfl I (λh=>(nomatch h)) ⟨a1,a2,a3,I,λh=>(nomatch h)⟩ E F;have aO:FR Δ Δ w w':=FR.set hd I E F (by rw[<-hw'];rfl) (by rw[<-hw'];rfl) (by rw[<-hw'];rfl);have X:=D.G6;have a9:(vJ++cs).length=(len+m)*sz:=by rw[oQ,ai,an,aw]
           have ab:=Env.yr (d:=⟨d.b,d.base+off,sz,(vJ++cs).length,d.XH,false,0⟩) X
           refine ⟨_,_,Δ.set h.next ⟨d.b,d.base+off,sz,(vJ++cs).length,d.XH,false,0⟩,_,w',rfl,
             oy hs hx hi J (n2 w) n3 n (λb G=>?_) (λG=>by cases G),?_,?_,aO.zae X ⟨l,d,hd,I,rfl⟩,Gr.set (RM _)⟩
           ·cases G
            rw[rU];exact B
           ·refine .slice h.next 0 (len+m) cap (d.base+off) ⟨d.b,d.base+off,sz,(vJ++cs).length,d.XH,false,0⟩ (Env.uX _ _ _) rfl n (.inl ⟨rfl,?_,?_⟩)
            ·simp_all
            omega
           ·refine (az.more (.cells g sz true false (vJ++cs))).zae (o:= .cells g sz true false (vJ++cs)) (d:=⟨d.b,d.base+off,sz,(vJ++cs).length,d.XH,false,0⟩) X (RC _) (by rw[ue];exact if_pos rfl) (by rw[E];exact D.AA l d hd) ⟨rfl,rfl,rfl,rfl,λ_=>?_⟩ (λm' d' p aP hp aQ=>?_) ⟨l,d,hd,I,rfl⟩
            ·refine ⟨_,e',fr,ay,?_,λ_=>b3 I,?_,λi v C=>?_⟩
             ·grind
             ·grind
             ·show ∃x,(List.toArray _)[d.base+off+i]? =some x/\_
              rw[wBX,Vp c.toList q _ aj];rw[List.getElem?_append]at C;by_cases H:i<vJ.length
              ·rw[if_pos H,aM i (by omega)]at C
               obtain⟨x,ak,al⟩:=b4 _ _ C;rw[if_neg (by omega)];exact⟨x,by rw[wA1,X8];exact ak,al.mono ab⟩
              ·rw[if_neg H]at C
               obtain⟨x,ak,al⟩:=n1.get _ _ C;have aX:=(kE.1 C).1;rw[if_pos (by omega)];refine⟨x,?_,al.mono ab⟩;rw[<-ak];congr 1;omega
            ·have oS:h.next≠m':=Nat.ne_of_gt (D.fresh _ _ aP)
             rw[ue]at hp;rw[if_neg (by exact oS)]at hp;rw[jz _ _ (D.fresh _ _ hd)]at hp;by_cases he:l=m'
             ·subst he
              rw[if_pos rfl]at hp;cases hp;cases aQ
             grind
          ·exfalso;omega
         ·have aR:∃j,gB Δ vJ j/\(Builtin.firstCells sz len (.slice (some ⟨d.b,o,none⟩) len cap)).run P0 w.drew = .ok (Array.mk j) w.drew:=by
            rcases ho with⟨rfl,P,ax⟩|⟨rfl,P⟩
            ·grind[uh,Builtin.firstCells]
            ·have aS:len=0:=by omega
             subst aS;have aT:vJ=[]:=wAz (by rw[ai];simp);subst aT;exact⟨[],.nil,by simp[Builtin.firstCells,loadCells,loadCellsFrom]⟩
          obtain⟨j,c1,c2⟩:=aR;obtain⟨S,y,w',e1,e2⟩:=fresh _ len cap j vJ (h.put l (.cells e sz false false all)) rfl c1 (by rw[<-c1.length,ai]) c2 n ag aL aN rfl;exact⟨_,_,S,y,w',rfl,e1,e2⟩
    ·cases t
end
section
variable{Δ:Env}{h:Hp}{w:World}{n:Nat}{t:Tm}{a:Act}
theorem WM(c:WR Δ h w) {ty size:Nat} (k:ym ty=some size) {l off:Nat} {v:V} {pv xv:Value} (f:fF Δ (.ptr l off) pv) (g:fF Δ v xv)
  (hlen:Nat.beq v.cells.length size=true) {h':Hp} (hs:EC h l off v.cells=some h') :
  ∃w',(Instr.storeAt ty pv xv).run P0 w = .ok () w'/\WR Δ h' w'/\FR Δ Δ w w'/\Gr h Δ h' Δ:=by
 cases f with
 | ptr _ _ d hd=>
   have hc:=g.cells;obtain⟨w',m,i,j⟩:=MC c hd hc hs;have hl:=yi hlen;have a:=hc.length;simp only[XU]at a;have b:h'.next=h.next:=by
     unfold EC at hs;rw[kI]at hs;obtain⟨e,sz,live,ro,cs,n,hv⟩:=hs;simp only[gG,fk]at hv;obtain⟨_,_,_,_,_,hv⟩:=hv;cases hv;rfl
   refine⟨w',?_,i,j,.same (wB5 b.symm)⟩
   simp_all[Instr.storeAt,Instr.sureAddr,storeVar,sR]
theorem qE.length{es:List (V×V×Nat)} {iP:List MapEntry} (h:qE Δ es iP):es.length=iP.length:=by
 induction h <;> grind
theorem qE.get{es:List (V×V×Nat)} {iP:List MapEntry} (h:qE Δ es iP) {i:Nat} {e:V×V×Nat} (hi:es[i]? =some e) :
  ∃e',iP[i]? =some e'/\fF Δ e.1 e'.key/\fF Δ e.2.1 e'.val/\e'.born=e.2.2:=by
 induction h generalizing i <;> grind
theorem qE.set{es:List (V×V×Nat)} {iP:List MapEntry} (h:qE Δ es iP) {i:Nat} {k v:V} {m:Nat} {e':MapEntry} (c:fF Δ k e'.key) (hv:fF Δ v e'.val) (d:e'.born=m) :
  qE Δ (es.set i (k,v,m)) (iP.set i e'):=by
 induction h generalizing i with
 |nil=>exact .nil
 | cons k0 f n e0 es iP a XK b hs e=>
   cases i with
   |zero=>exact .cons _ _ _ _ _ _ c hv d hs
   |succ i=>exact .cons _ _ _ _ _ _ a XK b e
theorem qE.snoc{es:List (V×V×Nat)} {iP:List MapEntry} (h:qE Δ es iP) {k v:V} {m:Nat} {e':MapEntry} (c:fF Δ k e'.key) (hv:fF Δ v e'.val) (d:e'.born=m) :
  qE Δ (es++[(k,v,m)]) (iP++[e']):=by
 induction h with
 |nil=>exact .cons _ _ _ _ _ _ c hv d .nil
 |cons k0 f n e0 es iP a XK b hs e=>exact .cons _ _ _ _ _ _ a XK b e
theorem qE.erase{es:List (V×V×Nat)} {iP:List MapEntry} (h:qE Δ es iP) {i:Nat}:qE Δ (es.eraseIdx i) (iP.eraseIdx i):=by
 induction h generalizing i with
 |nil=>exact .nil
 | cons k0 d n e0 es iP a XK b hs c=>
   cases i with
   |zero=>exact hs
   |succ i=>exact .cons _ _ _ _ _ _ a XK b c
theorem Ik{k:V} {x y:Value} (m:Nat) (c:JC k=true) (b:fF Δ k x) (a:fF Δ k y):Instr.sameBits m x y=true:=by
 cases k <;> simp[JC]at c
 ·cases b;cases a;grind[Instr.sameBits]
 ·cases b;cases a;grind[Instr.sameBits]
 ·rename_i s
  cases b with
  | str s1=>
    generalize hs:s1.data.toList=l at a
    cases a with
    | str d=>
      have:s1=d:=by
        rw[ByteArray.ext_iff];exact Array.ext' hs
      subst this;have e:(s1 == s1)=true:=by show(s1.data == s1.data)=true;simp
      grind[Instr.sameBits]
theorem YU(m:Nat) {cs:List V} {xs ys:List Value} (f:cs.all JC=true) (a:gB Δ cs xs) (b:gB Δ cs ys):xs.length=ys.length/\(xs.zip ys).all (λp=>Instr.sameBits m p.1 p.2)=true:=by
 induction cs generalizing xs ys with
 |nil=>cases a;cases b;simp_all
 | cons c cs g=>
   cases a with
   | cons _ x _ xs a d=>
     cases b with
     | cons _ y _ ys b e=>
       simp only[wBh,sJ]at f;obtain⟨h,i⟩:=g f.2 d e;exact⟨by simp[h],by simp only[List.zip_cons_cons,wBh,sJ];grind[Ik]⟩
theorem DX{k:V} {x y:Value} (m:Nat) (c:K6 k=true) (a:fF Δ k x) (b:fF Δ k y):Instr.sameBits (m+1) x y=true:=by
 cases k with
 | agg cs=>
   cases a with|agg _ xs a=>cases b with|agg _ ys b=>
   obtain⟨d,e⟩:=YU m c a b
   simp_all[Instr.sameBits,sJ]
 |_=>grind[Ik,K6]
theorem RG(q:WR Δ h w) {l:Nat} {d:D} (hl:Δ l=some d) {o o2:O} (s:h.get l=some o) {Aa:Array MapEntry} {c2:Nat} (u:(∃es c,o = .map es c)\/∃k ks,o = .OG k ks)
  (r:((∃es,o2 = .map es c2/\qE Δ es Aa.toList/\uu es c2)\/∃k ks,o2 = .OG k ks/\zeD k ks Aa.toList)) :
  (setObj d.b (.map Aa c2)).run P0 w = .ok () {w with heap:=w.heap.setIfInBounds d.b (.map Aa c2)}/\
  WR Δ (h.put l o2) {w with heap:=w.heap.setIfInBounds d.b (.map Aa c2)}/\FR Δ Δ w {w with heap:=w.heap.setIfInBounds d.b (.map Aa c2)}:=by
 obtain⟨z,j,t⟩:=q.obj l d hl;rw[s]at j;cases j;have v:=q.AA l d hl;have a:∀b,b≠d.b->({w with heap:=w.heap.setIfInBounds d.b (.map Aa c2)}:World).heap[b]? =w.heap[b]?:=by grind
 have x:d.kind=1/\d.ro=false/\d.base=0/\(∃iP c',w.heap[d.b]? =some (.map iP c'))/\o.live=true:=by
  rcases u with⟨es,c,rfl⟩|⟨k,ks,rfl⟩
  ·obtain⟨g,e,i,iP,p,m⟩:=t;exact⟨g,e,i,⟨_,_,p⟩,rfl⟩
  ·obtain⟨g,e,i,iP,c',p,m⟩:=t;exact⟨g,e,i,⟨_,_,p⟩,rfl⟩
 obtain⟨g,e,i,⟨iP,c',p⟩,n⟩:=x;have f:({w with heap:=w.heap.setIfInBounds d.b (.map Aa c2)}:World).heap[d.b]? =some (.map Aa c2):=by simp_all
 refine⟨by grind[setObj,Sem.run],q.set hl s n e (λ_=>n) ?_ (by simp) a,FR.set hl e (by simp) a rfl rfl rfl⟩;rcases r with⟨es,rfl,m,y⟩|⟨k,ks,rfl,m⟩
 ·exact⟨g,e,i,Aa,f,m,y⟩
 ·exact⟨g,e,i,Aa,c2,f,m⟩
theorem map_set(e:WR Δ h w) {l:Nat} {d:D} (hl:Δ l=some d) {es a:List (V×V×Nat)} {c c2:Nat} (f:h.get l=some (.map es c)) {Aa:Array MapEntry} (g:qE Δ a Aa.toList) (i:uu a c2) :
  (setObj d.b (.map Aa c2)).run P0 w = .ok () {w with heap:=w.heap.setIfInBounds d.b (.map Aa c2)}/\
  WR Δ (h.put l (.map a c2)) {w with heap:=w.heap.setIfInBounds d.b (.map Aa c2)}/\FR Δ Δ w {w with heap:=w.heap.setIfInBounds d.b (.map Aa c2)}:=
 RG e hl f (.inl ⟨_,_,rfl⟩) (.inl ⟨_,rfl,g,i⟩)
theorem uu.snoc{es:List (V×V×Nat)} {c:Nat} (h:uu es c) (k v:V):uu (es++[(k,v,c)]) (c+1):=by
 refine⟨?_,λe d=>?_⟩
 ·rw[List.map_append,wB0];refine⟨h.1,by simp,λa f b g=>?_⟩;obtain⟨e,d,rfl⟩:=Q1.1 f;have:=h.2 e d;simp at g;omega
 ·rcases xU.1 d with d|d
  ·have:=h.2 e d;omega
  ·simp at d;subst d;show c<c+1;omega
theorem uu.set{es:List (V×V×Nat)} {c:Nat} (h:uu es c) {i:Nat} {e:V×V×Nat} (hi:es[i]? =some e) (k v:V):uu (es.set i (k,v,e.2.2)) c:=by
 have a:(es.set i (k,v,e.2.2)).map (λe=>e.2.2)=es.map λe=>e.2.2:=by
  rw[List.map_set];apply wB1;intro j;rw[List.getElem?_set];split
  ·rename_i b;subst b;split
   ·simp[hi]
   ·grind
  ·rfl
 refine⟨by rw[a];exact h.1,λx d=>?_⟩;have:x.2.2∈(es.set i (k,v,e.2.2)).map λe=>e.2.2:=Q1.2 ⟨x,d,rfl⟩;rw[a]at this;obtain⟨y,f,g⟩:=Q1.1 this;rw[<-g];exact h.2 y f
theorem uu.erase{es:List (V×V×Nat)} {c:Nat} (h:uu es c) (i:Nat):uu (es.eraseIdx i) c:=
 ⟨h.1.sublist ((List.eraseIdx_sublist es i).map _),λe a=>h.2 e (List.mem_of_mem_eraseIdx a)⟩
theorem Vv(C:WR Δ h w) {mT kt et:Nat} (U:P0.underlying mT=some (.map kt et)) {d:Option (List Field)} (hd:Ht kt=some d) {m k v:V} {mv E vv:Value} (F:fF Δ m mv) (t:fF Δ k E) (W:fF Δ v vv)
    {r:R} (hv:xh kt d m k v h=some r):∃h' w',r = .val .undef h'/\(Instr.mapUpdate mT mv E vv).run P0 w = .ok () w'/\WR Δ h' w'/\FR Δ Δ w w'/\Gr h Δ h' Δ:=by
  unfold xh at hv;rw[gG]at hv;obtain⟨hh,hv⟩:=hv;split at hv
  ·rename_i l
   simp only[PK]at hv
   cases F with
   |map _ dd hl =>
    rcases hv with⟨es,c,A,hv⟩|⟨kd,ks,A,hv⟩
    ·rw[fk]at hv
     obtain⟨ob,B,hv⟩:=hv;cases hv;have K:=FC C hl A;obtain⟨iP,J,f⟩:=Fs C hl A;have x:=sX (em:=false) 9999 (by omega) w hd t hh;unfold zM at B;rw[fk]at B;obtain⟨fr,hf,B⟩:=B;obtain⟨o,s,g⟩:=wk hd t w f hf
     cases fr with
     | none=>
       cases B
       cases o with
       |some _=>cases g
       | none=>
         obtain⟨s1,G,H⟩:=map_set C hl A (Aa:=iP.push {key:=E,val:=vv,born:=c}) (c2:=c+1) (by rw[Array.toList_push];exact f.snoc (m:=c) t W rfl) (K.snoc _ _);refine⟨_,_,rfl,?_,G,H,.same (jv _)⟩
         simp only[Instr.mapUpdate,sG,fR U,sP,run_getObj_map J,x,s,s1]
     | some p=>
       obtain⟨i,u⟩:=p;simp only[fk,gG]at B;obtain⟨e,L,X,aa,B⟩:=B;cases B
       cases o with
       |none=>cases g
       | some Y=>
         obtain⟨i',u'⟩:=Y;obtain⟨rfl,_⟩:=g;obtain⟨e',M,N,g3,g4⟩:=f.get L;rw[V.eq_of_beq _ _ X]at N;have I:Instr.sameBits 10000 e'.key E=true:=by grind[DX]
         have y:iP[i]? =some e':=by simpa using M
         have z:(iP.modify i λe=>{e with key:=E,val:=vv}).toList=iP.toList.set i {e' with key:=E,val:=vv}:=by
           rw[Array.toList_modify];rw[List.modify_eq_set];simp[y]
         obtain⟨s1,G,H⟩:=map_set C hl A (Aa:=iP.modify i λe=>{e with key:=E,val:=vv}) (c2:=c) (by rw[z];exact f.set (i:=i) (k:=k) (v:=v) (m:=e.2.2) t W g4) (K.set L _ _);refine⟨_,_,rfl,?_,G,H,.same (jv _)⟩;simp only[Instr.mapUpdate,sG,fR U,sP,run_getObj_map J,x,s,Instr.keyThatStays,y,Option.map_some,Option.getD_some,I,if_true,Lg,s1]
    ·obtain ⟨es,iP,c,J,f,O,ab⟩:=Sf C hl A
     have x:=sX (em:=false) 9999 (by omega) w hd t hh;unfold UC at hv;split at hv
     ·rename_i k' n
      simp only[gG]at hv;obtain⟨hi,Z,hv⟩:=hv;obtain rfl:=zD Z;cases hv;cases t;cases W;obtain⟨o',P,hr⟩:=C.obj _ _ hl;rw[A]at P;cases P;obtain⟨_,_,_,ac,c1,Q,S,T⟩:=hr;rw[J]at Q;cases Q;rcases Jr hi k' n (es:=es) 0 λe f=>⟨(O e f).1,let⟨n,_,h⟩:=(O e f).2;⟨n,h⟩⟩ with⟨h4,h5⟩|⟨j,e,h4,h5,h6⟩
      ·obtain ⟨o,s,g⟩:=wk hd (.int k' n) w f h4
       cases o with
       |some _=>cases g
       | none =>
         obtain ⟨s1,G,H⟩:=RG C hl A (o2:= .OG k' (n::ks)) (Aa:=iP.push {key:= .int k' n,val:= .bool true,born:=c}) (c2:=c+1) (.inr ⟨_,_,rfl⟩) (.inr ⟨_,_,rfl,by
           rw[Array.toList_push];refine⟨λe f=>?_,λm F=>?_⟩
           ·rcases xU.1 f with f|f
            ·obtain⟨a,m,b,c⟩:=S e f
             exact⟨a,m,by simp[b],c⟩
            ·simp at f;subst f;exact⟨rfl,n,by simp,rfl⟩
           ·rcases wM.1 F with rfl|F
            ·exact⟨_,wBY _ (EI.2 rfl),rfl⟩
            ·obtain⟨e,f,t⟩:=T m F
             exact⟨e,XR _ f,t⟩⟩)
         refine⟨_,_,rfl,?_,G,H,.same (jv _)⟩;simp only[Instr.mapUpdate,sG,fR U,sP,run_getObj_map J,x,s,s1]
      ·obtain ⟨o,s,g⟩:=wk hd (.int k' n) w f h4
       cases o with
       |none=>cases g
       | some Y =>
         obtain⟨i',u'⟩:=Y;obtain⟨rfl,_⟩:=g;rw[HP]at*;obtain⟨e',M,N,g3,g4⟩:=f.get h5;rw[h6]at N;have D:e'.key = .int k' n:=by cases h:e'.key <;> rw[h]at N <;> cases N;rfl
         have I:Instr.sameBits 10000 e'.key (.int k' n)=true:=by rw[D];exact DX (Δ:=Δ) (k:= .int k' n) 9999 rfl (.int k' n) (.int k' n)
         have y:iP[j]? =some e':=by simpa using M
         have z:(iP.modify j λe=>{e with key:= .int k' n,val:= .bool true}).toList=iP.toList.set j {e' with key:= .int k' n,val:= .bool true}:=by
           rw[Array.toList_modify];rw[List.modify_eq_set];simp[y]
         obtain ⟨s1,G,H⟩:=RG C hl A (o2:= .OG k' (n::ks)) (Aa:=iP.modify j λe=>{e with key:= .int k' n,val:= .bool true}) (c2:=c) (.inr ⟨_,_,rfl⟩) (.inr ⟨_,_,rfl,by
           rw[z];refine⟨λe f=>?_,λm F=>?_⟩
           ·rcases wBF f with f|rfl
            ·obtain⟨a,m,b,c⟩:=S e f
             exact⟨a,m,by simp[b],c⟩
            ·exact⟨rfl,n,by simp,rfl⟩
           ·by_cases hmn:m=n
            ·subst hmn
             exact⟨{e' with key:= .int k' m,val:= .bool true},by rw[oR];exact⟨j,by rw[OY (kE.1 M).1]⟩,rfl⟩
            ·obtain ⟨e,f,t⟩:=T m ((wM.1 F).resolve_left hmn)
             obtain⟨q,hq⟩:=oR.1 f;refine⟨e,oR.2 ⟨q,?_⟩,t⟩;rw[QI (λhj=>?_)]
             ·exact hq
             ·subst hj
              rw[M]at hq;cases hq;rw[D]at t;cases t;exact hmn rfl⟩)
         refine⟨_,_,rfl,?_,G,H,.same (jv _)⟩;simp only[Instr.mapUpdate,sG,fR U,sP,run_getObj_map J,x,s,Instr.keyThatStays,y,Option.map_some,Option.getD_some,I,if_true,Lg,s1]
     ·cases hv
  ·cases hv
theorem Ux(f:WR Δ h w) {A kt I rt:Nat} {n:Array Nat} (g:n[0]? =some A) (t:P0.underlying A=some (.map kt I)) {d:Option (List Field)} (hd:Ht kt=some d) {m k:V} {B C:Value} (D:fF Δ m B) (v:fF Δ k C)
  {r:R} (hv:Bf kt d m k h=some r):∃h' w',r = .val (.tuple []) h'/\(Builtin.delete_ n rt #[B,C]).run P0 w = .ok (.tuple #[]) w'/\WR Δ h' w'/\FR Δ Δ w w'/\Gr h Δ h' Δ:=by
 unfold Bf at hv;rw[gG]at hv;obtain⟨E,hv⟩:=hv;split at hv
 ·cases hv;cases D;have e:=sX (em:=true) 9999 (by omega) w hd v E;refine⟨h,w,rfl,?_,f,.refl _ _,.refl _ _⟩;simp only[Builtin.delete_,g,wBX,wBd,wBr,sG,fR t,sP,e,Lg]
 ·rename_i l;simp only[uy,fk]at hv;obtain⟨es,c,o,fr,J,hv⟩:=hv
  cases D with
  | map _ x hl=>
    obtain⟨iP,F,y⟩:=Fs f hl o;have e:=sX (em:=iP.isEmpty) 9999 (by omega) w hd v E;obtain⟨q,s,a⟩:=wk hd v w y J
    cases fr with
    | none =>
      cases hv
      cases q with
      |some _=>cases a
      | none=>
        obtain ⟨s1,G,H⟩:=map_set f hl o (Aa:=iP) (c2:=c) y (FC f hl o);have j:({w with heap:=w.heap.setIfInBounds x.b (.map iP c)}:World)=w:=by
          have:w.heap.setIfInBounds x.b (.map iP c)=w.heap:=by
            apply Array.ext_getElem?;intro i;by_cases hi:x.b=i
            ·grind
            ·simp_all
          rw[this]
        rw[j]at s1;refine⟨h,w,rfl,?_,f,.refl _ _,.refl _ _⟩
        simp only[Builtin.delete_,g,wBX,wBd,wBr,sG,fR t,sP,run_getObj_map F,e,s,s1,Lg]
    | some p=>
      obtain⟨i,u⟩:=p;cases hv
      cases q with
      |none=>cases a
      | some K=>
        obtain ⟨L,M⟩:=K;obtain⟨rfl,_⟩:=a;have z:(iP.eraseIdxIfInBounds i).toList=iP.toList.eraseIdx i:=by
          rw[Array.eraseIdxIfInBounds_eq];split
          ·rw[Array.toList_eraseIdx]
          ·grind[List.eraseIdx_of_length_le]
        obtain⟨s1,G,H⟩:=map_set f hl o (Aa:=iP.eraseIdxIfInBounds i) (c2:=c) (by rw[z];exact y.erase) ((FC f hl o).erase _);refine⟨_,_,rfl,?_,G,H,.same (jv _)⟩;simp only[Builtin.delete_,g,wBX,wBd,wBr,sG,fR t,sP,run_getObj_map F,e,s,s1,Lg]
 ·cases hv
end
section
variable{Δ:Env}{h:Hp}{w:World}{n:Nat}{t:Tm}{a:Act}
theorem Pq{l off:Nat} {new:List V} {h':Hp} (hs:EC h l off new=some h'):h'.next=h.next:=by
 unfold EC at hs;rw[kI]at hs;obtain⟨e,sz,live,ro,cs,a,hv⟩:=hs;simp only[gG,fk]at hv;obtain⟨_,_,_,_,_,hv⟩:=hv;cases hv;rfl
theorem UO(s:ByteArray) (m:Nat):((s.extract 0 m).data.map λb=>Value.int .u8 b.toNat)=Array.mk ((s.data.toList.take m).map λb=>Value.int .u8 b.toNat):=by
 apply Array.ext'
 simp_all
theorem U1(Δ:Env) (l:List UInt8):gB Δ (zP l) (l.map λb=>Value.int .u8 b.toNat):=by
 induction l with
 |nil=>exact .nil
 |cons b l a=>exact .cons _ _ _ _ (.int .u8 _) a
theorem Zu(j:WR Δ h w) {O t size rt:Nat} {p:Array Nat} (B:p[0]? =some O) (P:P0.underlying O=some (.slice t)) (Q:ym t=some size) {d s:V} {A u:Value}
  (hd:fF Δ d A) (hs:fF Δ s u) {r:R} (hv:Yr size d s h=some r) :
  ∃h' m w',r = .val (.int .i64 (.ofNat m)) h'/\(Builtin.copy_ p rt #[A,u]).run P0 w = .ok (.int .i64 m) w'/\WR Δ h' w'/\FR Δ Δ w w'/\Gr h Δ h' Δ:=by
 have a:∀(base:Option Addr) (c i:Nat) (m:Nat),A = .slice base c i->(Builtin.lenOf u).run P0 w = .ok m w->Nat.min m c=0->(Builtin.firstCells size 0 u).run P0 w = .ok #[] w->
   (Builtin.copy_ p rt #[A,u]).run P0 w = .ok (.int .i64 (0:Nat)) w:=by
  intro base c i m v hl q F;subst v;have x:=sR (w:=w) Q;cases base <;> simp[Builtin.copy_,B,fR P,hl,q,x,F,storeCells,goInt]
 have some_:∀(base:Addr) (c i:Nat) (m:Nat) (xs:List Value) (w':World),A = .slice (some base) c i->(Builtin.lenOf u).run P0 w = .ok m w->
   (Builtin.firstCells size (Nat.min m c) u).run P0 w = .ok (Array.mk xs) w->(storeCells base xs 0).run P0 w = .ok () w'->
   (Builtin.copy_ p rt #[A,u]).run P0 w = .ok (.int .i64 (Nat.min m c:Nat)) w':=by
  intro base c i m xs w' v hl F G;subst v;have x:=sR (w:=w) Q;simp[Builtin.copy_,B,fR P,hl,x,F,G,goInt]
 unfold Yr at hv;split at hv
 ·cases hd;split at hv
  ·cases hv;cases hs;exact⟨_,0,w,rfl,a none 0 0 0 rfl rfl rfl rfl,j,.refl _ _,.refl _ _⟩
  ·cases hv
   cases hs with
   | slice l off len cap o U y W H I=>
     exact⟨_,0,w,rfl,a none 0 0 _ rfl rfl (Nat.min_zero _) (by simp[Builtin.firstCells,loadCells,loadCellsFrom]),j,.refl _ _,.refl _ _⟩
   |wild=>exact⟨_,0,w,rfl,a none 0 0 0 rfl rfl rfl (by simp[Builtin.firstCells,loadCells,loadCellsFrom]),j,.refl _ _,.refl _ _⟩
  ·cases hv
   cases hs with
   |str s=>exact⟨_,0,w,rfl,a none 0 0 s.size rfl rfl (Nat.min_zero _) (by simp[Builtin.firstCells]),j,.refl _ _,.refl _ _⟩
  ·cases hv
 ·rename_i l off len
  cases hd with
  | wild=>
    split at hv
    ·cases hv;cases hs
     exact⟨_,0,w,rfl,a _ 0 0 0 rfl rfl rfl rfl,j,.refl _ _,.refl _ _⟩
    ·rename_i X C f
     simp only[show Nat.beq (min f 0) 0=true by simp]at hv;cases hv
     cases hs with
     |slice=>exact⟨_,0,w,rfl,a _ 0 0 _ rfl rfl (Nat.min_zero _) (by simp[Builtin.firstCells,loadCells,loadCellsFrom]),j,.refl _ _,.refl _ _⟩
     |wild=>exact⟨_,0,w,rfl,a _ 0 0 0 rfl rfl rfl (by simp[Builtin.firstCells,loadCells,loadCellsFrom]),j,.refl _ _,.refl _ _⟩
    ·rename_i b
     rw[gG]at hv;obtain⟨D,hv⟩:=hv;have z:size=1:=yi D;subst z
     cases hs with
     | str s=>
       simp only[show ∀n,Nat.beq (min n 0) 0=true from λn=>by simp]at hv;cases hv;exact⟨_,0,w,rfl,a _ 0 0 s.size rfl rfl (Nat.min_zero _) (by simp[Builtin.firstCells]),j,.refl _ _,.refl _ _⟩
    ·cases hv
  | slice _ _ _ g o U y W H I=>
    split at hv
    ·cases hv;cases hs
     exact⟨_,0,w,rfl,a _ len g 0 rfl rfl (Nat.zero_min _) rfl,j,.refl _ _,.refl _ _⟩
    ·rename_i X C f
     cases hs with
     | slice _ _ _ S so sd J Y T K=>
       cases q:Nat.beq (min f len) 0 with
       | true=>
         simp only[q]at hv;cases hv;have k:Nat.min f len=0:=yi q
         exact⟨_,0,w,rfl,a _ len g f rfl rfl k (by simp[Builtin.firstCells,loadCells,loadCellsFrom]),j,.refl _ _,.refl _ _⟩
       | false=>
         have k:0<min f len:=Nat.pos_of_ne_zero λe=>by simp_all
         simp only[q,fk]at hv;obtain⟨cs,D,Z,E,L⟩:=hv;cases L;rcases K with⟨rfl,_,_⟩|⟨rfl,_⟩
         ·rcases I with⟨rfl,_,_⟩|⟨rfl,_⟩
          ·obtain⟨xs,c1,c2⟩:=uh j J D
           obtain⟨w',e1,e2,M⟩:=MC j y c2 E;exact⟨_,_,w',rfl,some_ _ len g f xs w' rfl rfl (by grind[Builtin.firstCells]) e1,e2,M,.same (wB5 (Pq E).symm)⟩
          ·omega
         ·omega
     | wild=>
       simp only[show Nat.beq (min 0 len) 0=true by simp]at hv;cases hv;exact⟨_,0,w,rfl,a _ len g 0 rfl rfl (Nat.zero_min _) (by simp[Builtin.firstCells,loadCells,loadCellsFrom]),j,.refl _ _,.refl _ _⟩
    ·rename_i b
     rw[gG]at hv;obtain⟨D,hv⟩:=hv;have z:size=1:=yi D;subst z
     cases hs with
     | str s=>
       have N:s.data.toList.length=s.size:=by simp
       rw[N]at hv
       cases q:Nat.beq (min s.size len) 0 with
       | true=>
         simp only[q]at hv;cases hv;have k:Nat.min s.size len=0:=yi q
         exact⟨_,0,w,rfl,a _ len g s.size rfl rfl k (by simp[Builtin.firstCells]),j,.refl _ _,.refl _ _⟩
       | false=>
         have k:0<min s.size len:=Nat.pos_of_ne_zero λe=>by simp_all
         simp only[q,fk]at hv;obtain⟨Z,E,L⟩:=hv;cases L;rcases I with⟨rfl,_,_⟩|⟨rfl,_⟩
         ·obtain⟨w',e1,e2,M⟩:=MC j y (U1 Δ _) E
          refine⟨_,_,w',rfl,some_ _ len g s.size _ w' rfl rfl ?_ e1,e2,M,.same (wB5 (Pq E).symm)⟩;simp only[Builtin.firstCells,UO];rfl
         ·omega
    ·cases hv
 ·cases hv
theorem Oz{d:D} {cs:List V} {c:Array Value} {e:Nat} (hs:c.size=d.XH) (a:d.base=0) (hl:cs.length<=d.XH) (hc:∀(i:Nat) (v:V),cs[i]? =some v->∃x,c[i]? =some x/\fF Δ v x) :
  G5 Δ d cs (some (.cells c e (c.size,c.size+1))):=
 ⟨c,e,(c.size,c.size+1),rfl,hs,λ_=> .inr (wB5 hs.symm),by omega,λi v hi=>by rw[a,HP];exact hc i v hi⟩
theorem XC(m:WR Δ h w) {src dst e:Nat} (hs:P0.underlying src=some .string) (hd:P0.underlying dst=some (.slice e)) (n:P0.underlying e=some (.int .u8)) (s:ByteArray) :
  ∃d x w',(convert src dst (.string s)).run P0 w = .ok x w'/\vV Δ h w (.slice h.next 0 s.data.toList.length) (h.new (.cells e 1 true false (zP s.data.toList))) d x w':=by
 have k:=run_bytes_of_string (P:=P0) w src dst e s hs hd n;have c:=grownCap_ge w s.size 0 e;generalize grownCap w s.size 0 e=cap at k c;have f:s.data.toList.length=s.size:=by simp
 have o:(zP s.data.toList).length=s.size:=by simp[zP]
 have g:(bytesRow s cap).size=cap:=by
  have:s.data.size=s.size:=rfl;simp[bytesRow];omega
 have a:Made Δ (.cells e 1 true false (zP s.data.toList)) (λl=> .slice l 0 s.data.toList.length) (.cells (bytesRow s cap) e ((bytesRow s cap).size,(bytesRow s cap).size+1))
   (λb=> .slice (some ⟨b,0,none⟩) s.size cap):=by
  intro l b v;refine⟨⟨b,0,1,(zP s.data.toList).length,cap,false,0⟩,rfl,⟨rfl,rfl,rfl,rfl,λ_=>?_⟩,?_⟩
  ·refine Oz g rfl (by simp_all) λi u hi=>?_;obtain⟨x,y,j⟩:=(Pz _ s).get i u hi;refine⟨x,?_,j⟩
   grind[kE,bytesRow,Array.getElem?_append_left]
  ·rw[f];refine fF.slice l 0 s.size cap 0 ⟨b,0,1,(zP s.data.toList).length,cap,false,0⟩ (Env.uX _ _ _) rfl c (.inl ⟨rfl,?_,?_⟩)
   ·simp_all
   simp_all
 obtain⟨d,p,q,r,t⟩:=(m.heap (w':=w.drew) rfl).alloc a;exact⟨d,_,_,k,q,p,r.drew,t⟩
theorem YN(q:WR Δ h w) {src dst e0 e:Nat} {x:V} {y:Value} (K:fF Δ x y) (hs:P0.underlying src=some (.slice e0)) (hd:P0.underlying dst=some (.slice e)) (Q:P0.underlying e=some (.int .u8)) (t:src=dst)
  {r:R} (hv:Y8 x h=some r):∃D h' w',r = .val D h'/\(convert src dst y).run P0 w = .ok y w'/\vV Δ h w D h' Δ y w':=by
 unfold Y8 at hv;split at hv
 ·rename_i l off n;rw[kI]at hv;obtain⟨e1,sz,live,ro,cs,u,hv⟩:=hv;simp only[gG]at hv;obtain⟨rfl,v,hv⟩:=hv;cases hv;have j:ro=false:=by simpa using v
  subst j
  cases K with
  | wild _ _ a d hl E z S=>
    obtain⟨p,k,A⟩:=q.obj l d hl;rw[u]at k;cases k;obtain⟨F,G,H,i,I⟩:=A
    rw[z]at i;cases i
  | slice _ _ _ cap o d hl E B L=>
    obtain⟨p,k,z⟩:=q.obj l d hl;rw[u]at k;cases k;obtain⟨F,G,H,i,I⟩:=z;obtain⟨c,e2,fr,J,M,T,N,O⟩:=I rfl;subst t;obtain rfl:e0=e:=by simp_all
    obtain ⟨lo,hi⟩:=fr;have P:d.b<w.heap.size:=q.AA l d hl;have C:(w.freeze ⟨d.b,c.size,none⟩ 1).heap[d.b]? =some (.cells c e2 (if lo == hi then(c.size,c.size+1) else(min lo c.size,max hi (c.size+1)))):=by
      unfold World.freeze;rw[if_neg (by omega)];simp only[Array.getElem?_modify,J,if_true,Option.map_some]
    have f:∀b,b≠d.b->(w.freeze ⟨d.b,c.size,none⟩ 1).heap[b]? =w.heap[b]?:=by
      intro b U;unfold World.freeze;rw[if_neg (by omega)];simp only[Array.getElem?_modify];rw[if_neg (by omega)]
    have m:(w.freeze ⟨d.b,c.size,none⟩ 1).heap.size=w.heap.size:=by
      unfold World.freeze;rw[if_neg (by omega)];simp
    have g:∀b,(w.freeze b 1).os=w.os/\(w.freeze b 1).tape=w.tape/\(w.freeze b 1).output=w.output:=by
      intro b;unfold World.freeze;rw[if_neg (by omega)];exact by simp_all
    refine⟨_,_,w.freeze ⟨d.b,c.size,none⟩ 1,rfl,?_,⟨.slice l off n cap o d hl E B L,?_,FR.set hl i m f (g _).1 (g _).2.1 (g _).2.2,Gr.same (jv _)⟩⟩
    ·have s:(Go.shape d.b).run P0 w = .ok (some (e2,c.size)) w:=by
       show Result.ok (w.shape? d.b) w=_;unfold World.shape?;rw[J]
     simp_all[convert,sG,fR,sP,beq_self_eq_true,markStringish,run_freeze]
    ·refine q.set hl u rfl i (λh=>h) ⟨F,G,H,i,λ_=>⟨c,e2,_,C,M,λ_=>?_,N,O⟩⟩ m f
     grind
 ·cases hv
end
section
variable{Δ:Env}{h:Hp}{w:World}{n:Nat}{t:Tm}{a:Act}
theorem WH(f:WR Δ h w) {ty kt q:Nat} (s:P0.underlying ty=some (.map kt q)) {m:V} {n:Value} (o:fF Δ m n) {r:R} (hv:Fl m h=some r) :
  ∃v h' e x w',r = .val v h'/\(Instr.range ty n).run P0 w = .ok x w'/\vV Δ h w v h' e x w':=by
 unfold Fl at hv;split at hv
 ·cases hv;cases o
  have a:Made Δ (.iter none 0 [] 0) (λl=> .ptr l 0) (.mapIter none 0 #[] 0) (λb=> .pointer (some ⟨b,0,none⟩)):=λl b p=>
   ⟨⟨b,0,0,0,0,false,2⟩,rfl,⟨rfl,rfl,rfl,none,rfl,rfl⟩,fF.ptr l 0 ⟨b,0,0,0,0,false,2⟩ (Env.uX _ _ _)⟩
  obtain⟨e,g,i,j,k⟩:=f.alloc a;exact⟨_,_,e,_,_,rfl,by simp_all[Instr.range,fR],i,g,j,k⟩
 ·rename_i l;rw[uy]at hv;obtain⟨es,c,t,hv⟩:=hv;cases hv
  cases o with
  | map _ d hd=>
    obtain⟨iP,u,z⟩:=Fs f hd t
    have a:Made Δ (.iter (some l) c [] c) (λl=> .ptr l 0) (.mapIter (some d.b) c #[] c) (λb=> .pointer (some ⟨b,0,none⟩)):=λy b p=>
      ⟨⟨b,0,0,0,0,false,2⟩,rfl,⟨rfl,rfl,rfl,some d.b,rfl,d,Env.yr p _ _ hd,rfl⟩,fF.ptr y 0 ⟨b,0,0,0,0,false,2⟩ (Env.uX _ _ _)⟩
    obtain⟨e,g,i,j,k⟩:=f.alloc a;exact⟨_,_,e,_,_,rfl,by simp[Instr.range,fR s,run_getObj_map u],i,g,j,k⟩
 ·cases hv
theorem mJ{r:Nat}{m:Option Nat}{s l:Nat}{seen:Array Nat}(a:w.heap[r]? =some (.mapIter m s seen l)):(getObj r).run P0 w = .ok (.mapIter m s seen l) w:=by grind[getObj,Sem.run]
theorem ND{es:List (V×V×Nat)} {iP:List MapEntry} (a:qE Δ es iP) (p:Nat->Bool):qE Δ (es.filter λe=>p e.2.2) (iP.filter λe=>p e.born):=by
 induction a with
 |nil=>exact .nil
 | cons k v n e es iP b hv c _ d=>
   subst c;simp only[List.filter_cons];by_cases hp:p e.born=true
   ·simp only[hp,if_true];exact .cons _ _ _ _ _ _ b hv rfl d
   simp_all
theorem zaW{es:List (V×V×Nat)} {iP:List MapEntry} (a:qE Δ es iP) (p:Nat->Bool):iP.all (λe=>p e.born)=es.all λe=>p e.2.2:=by
 induction a <;> grind
theorem Z7(j:WR Δ h w) {it:V} {H:Value} {ty:Nat} (hi:fF Δ it H) {r:R} (hv:JU it h=some r) :
  ∃v h' x w',r = .val v h'/\(Instr.next H false ty).run P0 w = .ok x w'/\vV Δ h w v h' Δ x w':=by
 unfold JU at hv;rw[qj]at hv;obtain⟨O,off,rfl,hv⟩:=hv;rw[gG,fk]at hv;obtain⟨h0,o,I,hv⟩:=hv;have B:off=0:=yi h0;subst B
 cases hi with
 | ptr _ _ d hd=>
   obtain⟨o',J,K⟩:=j.obj O d hd;rw[I]at J;cases J;split at hv
   ·cases hv
    obtain⟨M,u,y,P,z,Q⟩:=K;subst Q;refine⟨_,_,_,w,rfl,?_,.tuple _ #[.bool false] (.one (.bool false)),j,.refl _ _,.refl _ _⟩;rw[y];simp[Instr.next,mJ z]
   ·rename_i m since seen last
    obtain ⟨M,u,y,P,z,A,p,rfl⟩:=K;rw[uy]at hv;obtain⟨es,c,C,hv⟩:=hv;rw[gG]at hv;obtain⟨q,hv⟩:=hv;obtain⟨iP,N,D⟩:=Fs j p C;have g:(!seen.toArray.isEmpty&&!iP.isEmpty&&iP.all (λe=>decide (e.born >= last)))=false:=by
      have S:iP.isEmpty=es.isEmpty:=by
        have:=D.length;cases es <;> cases hes:iP with|mk l=>grind
      have T:iP.all (λe=>decide (e.born >= last))=es.all (λe=>Nat.ble last e.2.2):=by
        rw[<-Array.all_toList];have:=zaW D (λn=>Nat.ble last n);rw[<-this];congr 1;funext e;rw[Uv];simp[Nat.ble_eq]
      have U:seen.toArray.isEmpty=seen.isEmpty:=by simp
      rw[U,S,T];simpa only[wBl]using q
    have a:=ND D (λn=>!seen.contains n);have i:(iP.filter λe=>!seen.toArray.contains e.born)=Array.mk (iP.toList.filter λe=>!seen.contains e.born):=by
      apply Array.ext';rw[Array.toList_filter];simp
    rw[y];split at hv
    ·rename_i E
     cases hv;rw[E]at a;generalize (iP.toList.filter λe=>!seen.contains e.born)=L at a i;cases a;refine⟨_,_,_,w,rfl,?_,.tuple _ #[.bool false] (.one (.bool false)),j,.refl _ _,.refl _ _⟩;simp only[Instr.next,sG,mJ z,sP,run_getObj_map N,g,i];simp[Question.forced]
    ·rename_i e E
     rw[gG]at hv;obtain⟨s,hv⟩:=hv;cases hv;rw[E]at a;generalize (iP.toList.filter λe=>!seen.contains e.born)=L at a i
     cases a with
     | cons k v nb e' _ L W X F hs=>
       cases hs;have t:e'.born<since:=by rw[RP]at s;rw[F];exact s
       have Y:=j.AA _ _ hd;have f:∀b,b≠d.b->({w with heap:=w.heap.setIfInBounds d.b (.mapIter (some A.b) since (seen++[nb]).toArray c)}:World).heap[b]? =w.heap[b]?:=by grind
       refine ⟨_,_,_,{w with heap:=w.heap.setIfInBounds d.b (.mapIter (some A.b) since (seen++[nb]).toArray c)},rfl,?_,
         .tuple _ #[.bool true,e'.key,e'.val] (.cons _ _ _ _ (.bool true) (.cons _ _ _ _ W (.one X))),?_,FR.set hd u (by simp) f rfl rfl rfl,.same (jv _)⟩
       ·have G:¬(e'.born >= since):=by omega
        have Z:(Array.mk [e']).filter (λx=>decide (x.born<since)) = #[e']:=by simp[t]
        have f2:(Array.mk [e']).filter (λx=>decide (x.born >= since)) = #[]:=by simp[G]
        simp only[Instr.next,sG,mJ z,sP,run_getObj_map N,g,i,Z,f2]
        simp_all[Question.forced,setObj,Sem.run]
       ·refine j.set hd I rfl u (λh=>h) ⟨M,u,y,some A.b,?_,A,p,rfl⟩ (by simp) f
        simp_all
    ·cases hv
   ·cases hv
theorem zax{es:List (V×V×Nat)} {iP:List MapEntry} (b:qE Δ es iP) (st:Nat) {e:V×V×Nat} (a:(es.find? λe=>Nat.beq e.2.2 st)=some e) :
  ∃e',(iP.find? λe=>e.born == st)=some e'/\fF Δ e.1 e'.key/\fF Δ e.2.1 e'.val:=by
 induction b with
 |nil=>cases a
 | cons k v n e0 es iP f hv c _ g=>
   subst c;simp only[List.find?_cons]at a⊢;have d:(e0.born == st)=Nat.beq e0.born st:=by rw[Uv];simp
   grind
theorem XD(n:WR Δ h w) {it:V} {p:Value} (hi:fF Δ it p) {r:R} (hv:KT it h=some r) :
  ∃v x,r = .val v h/\(Instr.entry p).run P0 w = .ok x w/\fF Δ v x:=by
 unfold KT at hv;rw[qj]at hv;obtain⟨s,off,rfl,hv⟩:=hv;rw[gG,fk]at hv;obtain⟨h0,o,t,hv⟩:=hv;have f:off=0:=yi h0;subst f
 cases hi with
 | ptr _ _ d hd=>
   obtain⟨F,q,u⟩:=n.obj s d hd;rw[t]at q;cases q;split at hv
   ·rename_i m since seen last
    obtain⟨G,H,y,I,z,J,g,rfl⟩:=u;rw[uy]at hv;obtain⟨es,c,i,hv⟩:=hv;simp only[gG,fk]at hv;obtain⟨hc,st,j,e,k,hv⟩:=hv;cases hv;obtain⟨iP,A,B⟩:=Fs n g i;obtain⟨e',C,D,E⟩:=zax B st k;refine⟨_,.tuple #[e'.key,e'.val],rfl,?_,.tuple _ _ (.cons _ _ _ _ D (.one E))⟩;have l:c=last:=yi hc;subst l;have a:seen.toArray.back? = some st:=by rw[List.back?_toArray];exact j
    have b:(iP.find? λe=>e.born == st)=some e':=by rw[<-Array.find?_toList];exact C
    rw[y];simp only[Instr.entry,sG,mJ z,sP,a,run_getObj_map A,bne_self_eq_false,PM,if_false,Lg,b]
   ·cases hv
theorem Za{f:V} {j:Value} {args:List V} {b:Array Value} {ty:Nat} {c:Go.Call} {op:Operand} (hc:c.callee = .value op) (k:a.eval op=j) (i:c.args.map a.eval=b) (m:fF Δ f j) (n:gB Δ args b.toList) {r:R}
  (hv:fX f args=some r):∃g l gK,r = .call g l/\gB Δ l gK.toList/\(do let d <-resolve a.eval c ty;invoke d.target d.args:Sem Next)=callFunc g gK:=by
 unfold fX at hv;split at hv
 ·cases hv
  cases m with
  | func _ _ _ e h o p=>
    refine⟨_,_,e++b++h,rfl,?_,?_⟩
    ·simp only[Array.toList_append,KB]
     exact o.append (n.append p)
    ·simp only[resolve,hc,k,i,Deferred.ofValue]
     rfl
 ·cases hv
theorem Ua(Y:WR Δ h w) {j:String} {r:V} {W:Value} {args:List V} {n:Array Value} {ty:Nat} {c:Go.Call} {op:Operand} (hc:c.callee = .invoke op j) (Z:a.eval op=W) (J:c.args.map a.eval=n)
  (hr:fF Δ r W) (X:gB Δ args n.toList) {x:R} (hv:jG j r args h=some x) :
  ∃g l gK,x = .call g l/\gB Δ l gK.toList/\(do let d <-resolve a.eval c ty;invoke d.target d.args:Sem Next).run P0 w=(callFunc g gK).run P0 w:=by
 unfold jG at hv;split at hv
 ·rename_i t v
  cases hr with
  | iface _ _ q K=>
    have A:(do let d <-resolve a.eval c ty;invoke d.target d.args:Sem Next)=callMethod (.iface t q) j n:=by
      simp only[resolve,hc,Z,J];show invoke (.fn (.method j) #[]) (#[.iface t q]++n)=_;have C:(#[Value.iface t q]++n)[0]? =some (.iface t q):=by
        rw[Array.getElem?_append_left (by simp)];rfl
      have D:(#[Value.iface t q]++n).extract 1 (#[Value.iface t q]++n).size=n:=by
        apply Array.ext';simp
      simp only[invoke,C,D]
    have u:∀{f:Nat} {o:Option Nat},methodOf t j=some (f,o)->∃i m b,P0.info? t=some i/\i.methods.find? (λm=>m.name == j)=some m/\m.path = #[]/\m.func=some (f,b)/\
        ((∃e,P0.underlying t=some (.pointer e)/\((b=true/\o=none)\/(b=false/\o=some e)))\/(b=false/\o=none/\∃L,P0.underlying t=some L/\∀e,L≠ .pointer e)):=by
      intro f o s;unfold methodOf at s;rw[fk]at s;obtain⟨i,hi,s⟩:=s;split at s
      ·rename_i m hf
       refine⟨i,m,?_⟩;have aa:i.methods.find? (λm=>m.name == j)=some m:=by rw[<-Array.find?_toList];exact hf
       split at s
       ·simp_all
       ·simp_all
       ·simp_all
       ·cases s
      ·cases s
    obtain⟨fuel,E⟩:∃k,P0.types.size+Made.depth=k+1:=⟨P0.types.size+99,rfl⟩
    split at hv
    ·rename_i f s
     cases hv;obtain⟨i,m,b,C,D,M,N,O⟩:=u s;refine⟨f,_,#[q]++n,rfl,by simp only[Array.toList_append];exact .cons _ _ _ _ K X,?_⟩;rw[A];have z:(receiverAt t (.val q) b (some ((j.splitOn ".").getLastD j))).run P0 w = .ok q w:=by
       rcases O with⟨e,F,⟨rfl,_⟩|⟨_,B⟩⟩|⟨rfl,_,L,F,oS⟩
       ·simp_all[receiverAt,fR,Place.get]
       ·cases B
       ·simp only[receiverAt,sG,fR F,sP]
        rfl
     have P:(method (P0.types.size+Made.depth) t q j).run P0 w = .ok (f,q) w:=by
       rw[E];simp only[method,sG,typeInfo,run_program,sP,C,Lg,D,M,N,follow,z,Array.isEmpty,Array.size_empty,if_true,decide_true]
     grind[callMethod,sG,run_program,sP]
    ·rename_i f e s
     rw[fk]at hv;obtain⟨y,hy,hv⟩:=hv;cases hv;obtain⟨i,m,b,C,D,M,N,O⟩:=u s;have Q:P0.underlying t=some (.pointer e)/\b=false:=by
       rcases O with⟨e',F,⟨_,B⟩|⟨hb,B⟩⟩|⟨_,B,_⟩
       ·cases B
       ·simp_all
       ·cases B
     obtain ⟨F,rfl⟩:=Q;obtain⟨I,S,T⟩:=NI (t:= .tree .leaf []) (xv:=q) Y (by simp_all) hy;refine⟨f,_,#[I]++n,rfl,by simp only[Array.toList_append];exact .cons _ _ _ _ T X,?_⟩;rw[A];have G:∃ad,q = .pointer (some ad):=by
       cases q with
       | pointer p=>cases p with
         |some ad=>simp_all
         |none=>simp_all[Instr.loadAt,Instr.sureAddr]
       |_=>simp_all[Instr.loadAt,Instr.sureAddr]
     obtain⟨ad,rfl⟩:=G;have U:(loadVar e ad).run P0 w = .ok I w:=by simpa[Instr.loadAt,Instr.sureAddr]using S
     have z:(receiverAt t (.val (.pointer (some ad))) false (some ((j.splitOn ".").getLastD j))).run P0 w = .ok I w:=by
       have H:∀s1 s2,(Builtin.ssaWrapNilChk_ #[t] t #[.pointer (some ad),strVal s1,strVal s2]).run P0 w = .ok (.pointer (some ad)) w:=λ_ _=>rfl;simp only[receiverAt,sG,fR F,sP,Place.get,Lg,H,asAddr,U]
     have P:(method (P0.types.size+Made.depth) t (.pointer (some ad)) j).run P0 w = .ok (f,I) w:=by
       rw[E];simp only[method,sG,typeInfo,run_program,sP,C,Lg,D,M,N,follow,z,Array.isEmpty,Array.size_empty,if_true,decide_true]
     grind[callMethod,sG,run_program,sP]
    ·cases hv
 ·cases hv
theorem ZU(i:WR Δ h w) (u:TR Δ n t a) {o:Oper} {r:R} (hv:(jh o).f t h=some r) :
  (∃v h' I x w',r = .val v h'/\((execOp a.eval o).run P0 w = .ok (.value x) w'\/(x=undef/\(execOp a.eval o).run P0 w = .ok .skip w'))/\vV Δ h w v h' I x w')\/
  (∃g l gK,r = .call g l/\gB Δ l gK.toList/\(execOp a.eval o).run P0 w=(callFunc g gK).run P0 w):=by
 obtain⟨dst,op,D,pos,af,gd⟩:=o
 cases op with
 | store ty p x=>
   simp only[jh]at hv;split at hv
   ·rename_i size S
    simp only[fk,qj,gG]at hv;obtain⟨pv,q,v,j,l,off,rfl,B,h',L,Y⟩:=hv;cases Y;obtain⟨w',r1,r2,r3,r4⟩:=WM i S (kJ i u q) (kJ i u j) B L;exact .inl ⟨_,_,Δ,undef,w',rfl,.inr ⟨rfl,by simp_all[execOp]⟩,.undef Δ,r2,r3,r4⟩
   ·cases hv
 | mapUpdate ty m k x=>
   simp only[jh]at hv;split at hv
   ·rename_i kt T E
    split at hv
    ·rename_i d hd
     simp only[fk]at hv;obtain⟨M,q,W,j,xv,B,L⟩:=hv;obtain⟨h',w',rfl,r1,r2,r3,r4⟩:=Vv i E hd (kJ i u q) (kJ i u j) (kJ i u B) L;exact .inl ⟨_,_,Δ,undef,w',rfl,.inr ⟨rfl,by simp_all[execOp]⟩,.undef Δ,r2,r3,r4⟩
    ·cases hv
   ·cases hv
 | insert ty m k x=>
   simp only[jh]at hv;split at hv
   ·rename_i kt T E
    split at hv
    ·rename_i d hd
     simp only[fk]at hv;obtain⟨M,q,W,j,xv,B,L⟩:=hv;obtain⟨h',w',rfl,r1,r2,r3,r4⟩:=Vv i E hd (kJ i u q) (kJ i u j) (kJ i u B) L;exact .inl ⟨_,_,Δ,undef,w',rfl,.inr ⟨rfl,by simp_all[execOp]⟩,.undef Δ,r2,r3,r4⟩
    ·cases hv
   ·cases hv
 | range ty x=>
   simp only[jh]at hv;split at hv
   ·rename_i kt T E
    simp only[fk]at hv;obtain⟨M,q,j⟩:=hv;obtain⟨v,h',I,y,w',rfl,r1,r2⟩:=WH i E (kJ i u q) j;exact .inl ⟨_,_,I,y,w',rfl,.inl (mj r1),r2⟩
   ·cases hv
 | next x isS=>
   cases isS with
   |true=>cases hv
   | false=>
     simp only[jh,fk]at hv;obtain⟨M,q,j⟩:=hv;obtain⟨v,h',y,w',rfl,r1,r2⟩:=Z7 (ty:=D) i (kJ i u q) j
     exact .inl ⟨_,_,Δ,y,w',rfl,.inl (mj r1),r2⟩
 | entry x=>
   simp only[jh,fk]at hv;obtain⟨M,q,j⟩:=hv;obtain⟨v,y,rfl,r1,r2⟩:=XD i (kJ i u q) j
   exact .inl ⟨_,_,Δ,y,w,rfl,.inl (mj r1),r2,i,.refl _ _,.refl _ _⟩
 | convert src N x=>
   simp only[jh]at hv;split at hv
   ·rename_i e hs hd
    split at hv
    ·rename_i K S
     simp only[fk]at hv;obtain⟨xv,q,j⟩:=hv;have O:=kJ i u q;split at j
     ·cases j
      generalize hy:a.eval x=y at O
      cases O with
      | str s=>
        obtain⟨I,z,w',r1,r2⟩:=XC i hs hd K s;refine .inl ⟨_,_,I,z,w',rfl,.inl (mj ?_),r2⟩
        simp_all
     ·cases j
    ·cases hv
   ·rename_i e0 e hs hd
    split at hv
    ·rename_i K Z
     simp only[fk]at hv;obtain⟨xv,q,j⟩:=hv;have O:=kJ i u q;generalize hy:a.eval x=y at O;obtain⟨v',h',w',r1,r3,r2⟩:=YN i O (src:=src) (dst:=N) (e0:=e0) (e:=e) hs hd K (yi Z) j;refine .inl ⟨v',h',Δ,y,w',r1,.inl (mj ?_),r2⟩
     simp_all
    ·cases hv
   ·cases hv
 | call c =>
   obtain⟨U,args,F⟩:=c
   cases U with
   | builtin b=>
     simp only[jh]at hv
     cases b with
     | append=>
       simp only at hv;split at hv
       ·rename_i s x sT xT A C
        have P:args = #[s,x]:=by apply Array.ext';exact A
        have G:F = #[sT,xT]:=by apply Array.ext';exact C
        subst P;subst G;split at hv
        ·rename_i J e' hs E
         have H:=An hs;split at hv
         ·rename_i size lE z K
          simp only[fk]at hv;obtain⟨X,q,xv,j,B⟩:=hv;obtain⟨v,h',I,y,w',rfl,r1,r2⟩:=Oy (ty:=D) (xT:=xT) i H E (by simp_all) K (kJ i u q) (kJ i u j) B;refine .inl ⟨_,_,I,y,w',rfl,.inl ?_,r2⟩;simp only[execOp,resolve,List.map_toArray];exact mj r1
         ·cases hv
        ·rename_i J hs E
         have H:=An hs;split at hv
         ·rename_i size lE z K
          simp only[fk]at hv;obtain⟨X,q,xv,j,B⟩:=hv;obtain⟨v,h',I,y,w',rfl,r1,r2⟩:=Oy (ty:=D) (xT:=xT) i H E (by simp_all) K (kJ i u q) (kJ i u j) B;refine .inl ⟨_,_,I,y,w',rfl,.inl ?_,r2⟩;simp only[execOp,resolve,List.map_toArray];exact mj r1
         ·cases hv
        ·cases hv
       ·cases hv
     | copy =>
       simp only at hv;split at hv
       ·rename_i d s dT Q A C
        have P:args = #[d,s]:=by apply Array.ext';exact A
        have G:F[0]? =some dT:=by rw[<-wA1,C];rfl
        subst P;split at hv
        ·rename_i J hs
         have H:=An hs;split at hv
         ·rename_i size S
          simp only[fk]at hv;obtain⟨dv,q,X,j,B⟩:=hv;obtain⟨h',m,w',rfl,r1,r2,r3,r4⟩:=Zu (rt:=D) i G H S (kJ i u q) (kJ i u j) B;refine .inl ⟨_,_,Δ,_,w',rfl,.inl ?_,.int _ _,r2,r3,r4⟩;simp only[execOp,resolve,List.map_toArray];exact mj r1
         ·cases hv
        ·cases hv
       ·cases hv
     | delete=>
       simp only at hv;split at hv
       ·rename_i m k mT Q A C
        have P:args = #[m,k]:=by apply Array.ext';exact A
        have G:F[0]? =some mT:=by rw[<-wA1,C];rfl
        subst P;split at hv
        ·rename_i kt T E
         split at hv
         ·rename_i d hd
          simp only[fk]at hv;obtain⟨M,q,W,j,B⟩:=hv;obtain⟨h',w',rfl,r1,r2,r3,r4⟩:=Ux (rt:=D) i G E hd (kJ i u q) (kJ i u j) B;refine .inl ⟨_,_,Δ,_,w',rfl,.inl ?_,.tuple _ #[] .nil,r2,r3,r4⟩;simp only[execOp,resolve,List.map_toArray];exact mj r1
         ·cases hv
        ·cases hv
       ·cases hv
     |_=>cases hv
   | value f=>
     simp only[jh,fk]at hv;obtain⟨fv,q,l,j,B⟩:=hv;obtain⟨g,l,gK,rfl,r1,r2⟩:=Za (a:=a) (c:=⟨.value f,args,F⟩) (ty:=D) (args:=l) rfl rfl rfl (kJ i u q) (by simpa using A6 u j) B;refine .inr ⟨g,l,gK,rfl,r1,?_⟩
     grind[execOp]
   | invoke V m=>
     simp only[jh,fk]at hv;obtain⟨fv,q,l,j,B⟩:=hv;obtain⟨g,l,gK,rfl,r1,r2⟩:=Ua (a:=a) (c:=⟨.invoke V m,args,F⟩) (ty:=D) i (args:=l) rfl rfl rfl (kJ i u q) (by simpa using A6 u j) B
     exact .inr ⟨g,l,gK,rfl,r1,r2⟩
 |_=>cases hv
end
