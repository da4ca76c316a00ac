/- Parts. -/
import Derived.Test.YtpfjdlicdljhaaaDoorM02
import Derived.Laws.AppendOwn
import Derived.Laws.NewFold
import Derived.Laws.IdiomStrings
set_option maxHeartbeats 4000000
namespace Go.Proofs.YtpfjdlicdljhaaaDoor.Hx
structure Gr (h:Hp) (Δ:Env) (h':Hp) (a:Env):Prop where
 next:h.next<=h'.next
 none:∀l,Δ l = .none->l<h.next->a l = .none
theorem Gr.refl(h:Hp)(Δ:Env):Gr h Δ h Δ:=⟨iZ _,by simp_all⟩
theorem Gr.trans{h h' c:Hp} {Δ e d:Env} (a:Gr h Δ h' e) (b:Gr h' e c d):Gr h Δ c d:=
 ⟨Fe a.next b.next,λl g f=>b.none l (a.none l g f) (Cc f a.next)⟩
theorem Gr.same{h h':Hp}{Δ:Env}(a:h.next<=h'.next):Gr h Δ h' Δ:=⟨a,by simp_all⟩
theorem Gr.set{h h':Hp} {Δ:Env} {d:D} (a:h.next<=h'.next):Gr h Δ h' (Δ.set h.next d):=
 ⟨a,by simp_all[Env.set,if_neg,O6]⟩
theorem WR.alloc{Δ:Env} {h:Hp} {w:World} (a:WR Δ h w) {ob:O} {mk:Nat->V} {c:Obj} {e:Nat->Value} (g:Made Δ ob mk c e) :
  ∃b,WR b (h.new ob) (w.alloc c)/\fF b (mk h.next) (e w.heap.size)/\FR Δ b w (w.alloc c)/\Gr h Δ (h.new ob) b:=by
 obtain⟨d,f,i,j⟩:=g h.next w.heap.size a.EE;exact⟨Δ.set h.next d,(a.more ob).lay a.EE (MC _) (by rw[tW,if_pos rfl]) f i,j,FR.lay a.EE f,Gr.set (Qe _)⟩
theorem tS(g o e:Nat) (fr:Nat×Nat):∀(vs:List Value) (i:Nat) (cur:Array Value) (w:World),w.heap[g]? =some (.cells cur e fr)->(∀j,j<cur.size->¬(fr.1<=j/\j<fr.2))->
  o+i+vs.length<=cur.size->(∀v∈vs,v.oneCell' = true)->
  (storeCells ⟨g,o,none⟩ vs i).run P0 w = .ok () (w.setRow g (cur.toList.take (o+i)++vs++cur.toList.drop (o+i+vs.length)).toArray)
 | [],i,cur,w,hg,_,_,_=>by
   simp only[storeCells,GD,Zs,XC,WN,Array.toArray_toList];rw[setRow_self w g cur e fr hg]
   rfl
 | v ::rest,i,cur,w,hg,hf,hl,f=>by
   have hi:o+i<cur.size:=by simp at hl;omega
   have a:w.cell? ⟨g,o+i,none⟩=some cur[o+i]:=by simp[World.cell?,hg,hi]
   have b:w.frozen? ⟨g,o+i,none⟩=false:=by
     have:=hf (o+i) hi;simp only[World.frozen?,hg];simpa using this
   have c:(store ((⟨g,o,none⟩:Addr).add i) v).run P0 w = .ok () (w.setRow g (cur.setIfInBounds (o+i) v)):=by
     rw[rM,run_store P0 w _ v _ (by simp_all),a];simp[b,setCell_eq_setRow w g (o+i) cur e fr v hg]
   have d:=tS g o e fr rest (i+1) (cur.setIfInBounds (o+i) v) (w.setRow g (cur.setIfInBounds (o+i) v)) (by grind[setRow_heap]) (by simp_all) (by grind) (by simp_all);simp only[storeCells,uZ,c,tN,d,setRow_setRow];congr 3;have e:=list_seg_step cur.toList (o+i) v rest (by simp at hl⊢;omega)
   grind
theorem St(l vs:List Value) (k:Nat) (hk:k+vs.length<=l.length) (j:Nat) :
  (l.take k++vs++l.drop (k+vs.length))[j]? =if k<=j/\j<k+vs.length then vs[j-k]? else l[j]?:=by
 rw[Jx,List.getElem?_append,KN,wBr (by omega)]
 grind
theorem WR.set{Δ:Env} {h:Hp} {w w':World} (k:WR Δ h w) {l:Nat} {d:D} {o C:O} (F:Δ l=some d) (t:h.get l=some o) (u:o.live=true) (A:d.ro=false)
  (i:C.live=true->o.live=true) (L:Oq Δ d C w'.heap[d.b]?) (G:w'.heap.size=w.heap.size) (hk:∀b,b≠d.b->w'.heap[b]? =w.heap[b]?):WR Δ (h.put l C) w' where
 fresh:=k.fresh
 mh:=λm e q=>by rw[G];exact k.mh m e q
 obj:=λm e q=>by
  by_cases he:l=m
  ·subst he;rw[F]at q;cases q;exact⟨C,by rw[oR _ _ (Hp.KW t),if_pos rfl],L⟩
  ·obtain ⟨p,v,E⟩:=k.obj m e q;refine⟨p,by simp_all[oR,Hp.KW,if_neg],?_⟩;by_cases hb:e.b=d.b
   ·have a:p.live=false:=by
     cases j:p.live with
     |false=>rfl
     |true=>exact absurd hb.symm (k.apart l m d e o p F q he t v u j (.inl A))
    cases p with
    | cells e' sz live ro cs=>
      obtain⟨a1,a2,a3,M,_⟩:=E
      exact⟨a1,a2,a3,M,λJ=>by simp only[O.live]at a;rw[a]at J;cases J⟩
    |map P c=>cases a
    |iter m s x c=>cases a
   simp_all
 apart:=λm H e e' p K q y r j f z n I=>by
  rw[oR _ _ (Hp.KW t)]at j f;by_cases v:l=m
  ·subst v;rw[if_pos rfl]at j;cases j;rw[if_neg r]at f;exact k.apart l H e e' o K q y r t f (i z) n I
  ·rw[if_neg v]at j;by_cases E:l=H
   ·subst E;rw[if_pos rfl]at f;cases f;exact k.apart m l e e' p o q y r j t z (i n) I
   ·rw[if_neg E]at f;exact k.apart m H e e' p K q y r j f z n I
 GA:=λg p B j=>by
  rw[oR _ _ (Hp.KW t)]at j;by_cases v:l=g
  ·subst v;exact k.GA l o B t
  ·rw[if_neg v]at j;exact k.GA g p B j
 xF:=k.xF
 SW:=k.SW.step (λb _ N=>hk b λe=>N ⟨l,d,F,A,e.symm⟩) (by simp_all)
theorem FR.set{Δ:Env} {w w':World} {l:Nat} {d:D} (f:Δ l=some d) (a:d.ro=false) (c:w'.heap.size=w.heap.size) (hk:∀b,b≠d.b->w'.heap[b]? =w.heap[b]?)
  (g:w'.os=w.os) (h:w'.tape=w.tape) (i:w'.output=w.output):FR Δ Δ w w':=
 ⟨Env.le_refl _,wB6 c.symm,g,h,i,λb _ j=>hk b λe=>j ⟨l,d,f,a,e.symm⟩,by simp_all⟩
theorem WR.kill{Δ:Env} {h:Hp} {w:World} (c:WR Δ h w) {l e sz:Nat} {cs:List V} (f:h.get l=some (.cells e sz true false cs)) {d:D} (g:Δ l=some d) :
  WR Δ (h.put l (.cells e sz false false cs)) w/\(∀m d' p,m≠l->Δ m=some d'->h.get m=some p->p.live=true->d'.b≠d.b)/\d.ro=false:=by
 obtain⟨o,k,n⟩:=c.obj l d g;rw[f]at k;cases k;obtain⟨a1,a2,a3,a,s⟩:=n;refine⟨c.set g f rfl a (λh=>(nomatch h)) ⟨a1,a2,a3,a,λh=>(nomatch h)⟩ rfl (by simp_all),λm d' p i q r j=>?_,a⟩;exact c.apart m l d' d p _ q g i r f j rfl (.inr a)
section
variable{Δ:Env}{h:Hp}{w:World}{n:Nat}{t:Tm}{a:Act}
theorem JO(t:WR Δ h w) {l:Nat} {d:D} (n:Δ l=some d) {off:Nat} {new:List V} {Qv:List Value} (p:gh Δ new Qv) {h':Hp} (a:CX h l off new=some h') :
  ∃w',(storeCells ⟨d.b,d.base+off,none⟩ Qv 0).run P0 w = .ok () w'/\WR Δ h' w'/\FR Δ Δ w w':=by
 unfold CX at a;rw[j9]at a;obtain⟨e,sz,live,ro,cs,u,a⟩:=a;simp only[gL,fh]at a;obtain⟨rfl,q,g,og,hs,a⟩:=a;cases a;have j:ro=false:=by simpa using q
 subst j;obtain⟨A,y,r⟩:=Ie hs;obtain⟨o,z,B⟩:=t.obj l d n;rw[u]at z;cases z;obtain⟨a1,a2,a3,s,C⟩:=B;obtain⟨c,e',fr,b1,b2,b3,G,H⟩:=C rfl;have E:=p.length;have k:d.base+off+Qv.length<=c.size:=by omega
 have f:=tS d.b (d.base+off) e' fr Qv 0 c w b1 (by grind) (by omega) (p.zbc g);simp only[XC]at f;refine⟨_,f,t.set n u rfl s (λh=>h) ⟨a1,a2,by omega,s,λ_=>?_⟩ (by simp) (by grind[setRow_other]),FR.set n s (by simp) (by grind[setRow_other]) rfl rfl rfl⟩;refine⟨_,e',fr,setRow_heap w d.b c _ e' fr b1,?_,b3,by omega,λi v hi=>?_⟩
 ·grind
 ·rw [r i]at hi;have m:=St c.toList Qv (d.base+off) (by simpa using k) (d.base+i);rw[wBm,m];by_cases hin:off<=i/\i<off+new.length
  ·rw[if_pos hin]at hi;rw[if_pos (by omega)];obtain⟨x,I,F⟩:=p.get _ _ hi
   grind
  grind
end
structure xD (Δ:Env) (h:Hp) (w:World) (v:V) (h':Hp) (a:Env) (x:Value) (w':World):Prop where
 val:fF a v x
 world:WR a h' w'
 frame:FR Δ a w w'
 grow:Gr h Δ h' a
theorem WR.heap{Δ:Env} {h:Hp} {w w':World} (a:WR Δ h w) (b:w'.heap=w.heap):WR Δ h w':=
 ⟨a.fresh,λl d e=>by rw[b];exact a.mh l d e,λl d e=>by rw[b];exact a.obj l d e,a.apart,a.GA,a.xF,λg c f=>by rw[b];exact a.SW g c f⟩
theorem WR.W2{Δ:Env} {h:Hp} {w:World} (c:WR Δ h w) {l:Nat} {o:O} {d:D} (v:Δ l=none) (y:l<h.next) (G:h.get l=some o) (z:d.b<w.heap.size)
  (H:Oq (Δ.set l d) d o w.heap[d.b]?) (A:∀m d' p,Δ m=some d'->h.get m=some p->p.live=true->d'.b≠d.b) (B:RW Δ d.b):WR (Δ.set l d) h w where
 fresh:=λm e a=>by
  rcases Env.kR a with⟨rfl,rfl⟩|⟨_,a⟩
  ·exact y
  ·exact c.fresh m e a
 mh:=λm e a=>by
  rcases Env.kR a with⟨rfl,rfl⟩|⟨_,a⟩
  ·exact z
  ·exact c.mh m e a
 obj:=λm e a=>by
  rcases Env.kR a with⟨rfl,rfl⟩|⟨_,a⟩
  ·simp_all
  ·obtain⟨C,f,j⟩:=c.obj m e a;exact⟨C,f,j.mono (Env.w5 v)⟩
 apart:=λm E e e' p F a k n q r s i t=>by
  rcases Env.kR a with⟨f,j⟩|⟨_,f⟩ <;> rcases Env.kR k with⟨x,I⟩|⟨_,x⟩
  ·omega
  ·grind
  ·grind
  ·exact c.apart m E e e' p F f x n q r s i t
 GA:=λg p u q=>by
  obtain⟨e,f,j⟩:=c.GA g p u q;exact⟨e,Env.w5 v _ _ f,j⟩
 xF:=c.xF
 SW:=c.SW.step (by simp_all) λm e a _=>by
  rcases Env.kR a with⟨rfl,rfl⟩|⟨_,a⟩
  ·simp_all
  simp_all
theorem FR.W2{Δ:Env} {w w':World} {l:Nat} {d:D} (c:Δ l=none) (h:FR Δ Δ w w') (f:RW Δ d.b):FR Δ (Δ.set l d) w w' where
 le:=Env.w5 c
 size:=h.size
 os:=h.os
 tape:=h.tape
 output:=h.output
 eR:=h.eR
 new:=λm e a=>by
  rcases Env.kR a with⟨rfl,rfl⟩|⟨_,a⟩
  ·simp_all
  simp_all
theorem FR.drew{Δ a:Env}{w w':World}(h:FR Δ a w.drew w'):FR Δ a w w':=⟨h.le,h.size,h.os,h.tape,h.output,h.eR,h.new⟩
section
variable{Δ:Env}{h:Hp}{w:World}{n:Nat}{t:Tm}{a:Act}
theorem MP(Δ:Env) (s:ByteArray):gh Δ (yz s.data.toList) (s.data.toList.map λb=>Value.int .u8 b.toNat):=by
 generalize s.data.toList=l
 induction l with
 |nil=>exact .nil
 |cons b l a=>exact .cons _ _ _ _ (.int .u8 _) a
theorem MW(j:WR Δ h w) {size:Nat} {x:V} {xv:Value} {m:Nat} {cs:List V} (c:fF Δ x xv) (b:kG h size x=some (m,cs)) :
  ∃a,gh Δ cs a/\(∀w',(Builtin.lenOf xv).run P0 w' = .ok m w')/\(Builtin.firstCells size m xv).run P0 w = .ok (Array.mk a) w/\a.length=m*size:=by
 unfold kG at b;split at b
 ·cases b;cases c;exact⟨[],.nil,λ_=>rfl,rfl,by simp⟩
 ·cases b;cases c;exact⟨[],.nil,λ_=>rfl,by simp[Builtin.firstCells,loadCells,loadCellsFrom],by simp⟩
 ·rename_i l off k;rw[fh]at b;obtain⟨og,e,f⟩:=b;cases f
  cases c with
  | slice _ _ _ cap o d n hk p q=>
    rcases q with⟨rfl,_,_⟩|⟨rfl,_⟩
    ·obtain⟨xs,t,i⟩:=uP j n e
     exact⟨xs,i,λ_=>rfl,by grind[Builtin.firstCells],by rw[<-i.length,Pf e];rfl⟩
    omega
 ·rename_i s;rw[gL]at b;obtain⟨e,f⟩:=b;cases f;have g:size=1:=zR e;subst g
  cases c with
  | str s=>
    refine ⟨_,MP Δ s,by simp_all[Builtin.lenOf],?_,by simp⟩;have r:s.extract 0 s.size=s:=by
      rw[ByteArray.ext_iff];simp
    simp only[Builtin.firstCells];have:s.data.toList.length=s.size:=by simp
    rw[this,r];simp only[Jg];congr 1
    grind
 ·cases b
theorem p8{n xT ty e:Nat} {j:TypeDesc} (hs:P0.underlying n=some (.slice e)) (o:P0.underlying xT=some j) (hi:∀k,j≠ .int k) {size:Nat} (p:wW e=some size)
  {base:Option Addr} {a c m:Nat} {x:Value} (hlen:(Builtin.lenOf x).run P0 w = .ok m w) {f:List Value} (g:(Builtin.firstCells size m x).run P0 w = .ok (Array.mk f) w)
  (d:a+m<=c) {w':World} (l:∀b,base=some b->(storeCells (b.add (a*size)) f 0).run P0 w = .ok () w') (q:base=none->w' = w) :
  (Builtin.append_ #[n,xT] ty #[.slice base a c,x]).run P0 w = .ok (.slice base (a+m) c) w':=by
 have h:=uJ (w:=w) p;have i:(match (generalizing:=false) j with| .int _=>true|_=>false)=false:=by cases j <;> first|rfl|simp_all
 cases base with
 | none=>
   cases q rfl
   simp[Builtin.append_,fN hs,fN o,h,i,hlen,d,g]
 |some b=>simp[Builtin.append_,fN hs,fN o,h,i,hlen,d,g,l b rfl]
theorem Ii{A xT ty c:Nat} {q:TypeDesc} (hs:P0.underlying A=some (.slice c)) (E:P0.underlying xT=some q) (hi:∀k,q≠ .int k) {size kE:Nat} {z:V}
  (F:elemOf c=some (size,kE,z)) {base:Option Addr} {a b m:Nat} {x:Value} (hlen:(Builtin.lenOf x).run P0 w = .ok m w) {d e:List Value}
  (f:(Builtin.firstCells size a (.slice base a b)).run P0 w.drew = .ok (Array.mk d) w.drew)
  (g:(Builtin.firstCells size m x).run P0 w.drew = .ok (Array.mk e) w.drew) (G:¬a+m<=b) (N:(a+m)*kE<=70368744177664) (O:a+m<=70368744177664) :
  ∃B,B.size=size/\(Builtin.append_ #[A,xT] ty #[.slice base a b,x]).run P0 w = .ok (.slice (some ⟨w.heap.size,0,none⟩) (a+m) (grownCap w (a+m) b c))
   (w.drew.alloc (.cells (Array.mk d++Array.mk e++Builtin.zeroCells B (grownCap w (a+m) b c-(a+m))) c)):=by
 obtain⟨r,h,s,C,H,_⟩:=EB F;obtain⟨I,J,l,i,j,t⟩:=yC s;have u:(match (generalizing:=false) q with| .int _=>true|_=>false)=false:=by cases q <;> first|rfl|simp_all
 have K:i.bytes=kE:=by
  unfold Xy at h;rw[fh]at h;obtain⟨L,n,v⟩:=h;rw[j]at n;cases n;simpa using v
 have y:i.size=size:=by
  obtain⟨L,n,v⟩:=BX r;rw[j]at n;cases n;exact v
 have D:Builtin.nextslicecap (a+m) b*i.bytes<=281474976710656:=growslice_fits (by omega) (by grind);have o:¬(281474976710656<Builtin.nextslicecap (a+m) b*i.bytes):=by omega
 have p:¬(9223372036854775807<((a:Int)+(m:Int))):=by omega
 have M:=(l λ_=>none).cells.length;refine⟨I.cells,by simp_all,?_⟩;rw[<-y]at f g;have hq:(Question.appendCap (a+m) b c).forced=false:=rfl;simp[Builtin.append_,fN hs,fN E,sizeOf,typeInfo,zeroValue,j,t,u,hlen,G,p,o,hq,f,g,newRow,grownCap]
 grind
theorem Lg(E : WR Δ h w) {sT xT ty f:Nat} {dx:TypeDesc} (hs:P0.underlying sT=some (.slice f)) (hx:P0.underlying xT=some dx) (hi:∀k,dx≠ .int k) {size kE:Nat} {z:V}
    (hz:elemOf f=some (size,kE,z)) {s x:V} {sv xv:Value} (N:fF Δ s sv) (aj:fF Δ x xv) {r:R} (hv:eQ f size kE s x h=some r) :
    ∃v h' O y w',r = .val v h'/\(Builtin.append_ #[sT,xT] ty #[sv,xv]).run P0 w = .ok y w'/\xD Δ h w v h' O y w':=by
  obtain⟨P,aW,aX,T,aY,_⟩:=EB hz;unfold eQ at hv;rw[fh]at hv;obtain⟨⟨m,cs⟩,h1,q⟩:=hv;obtain⟨n,n1,n2,n3,n4⟩:=MW E aj h1;have ax:WR Δ h w.drew:=E.heap rfl;obtain⟨I,d1,d2,d3,d4⟩:=MW ax aj h1;have ak:cs.length=m*size:=by rw[n1.length,n4]
  cases hm:Nat.beq m 0 with
  | true=>
    have Z:m=0:=zR hm;subst Z;simp only[hm]at q;have ay:n=[]:=wAy (by simpa using n4);subst ay;split at q
    ·cases q;cases N
     exact⟨_,_,Δ,_,w,rfl,p8 hs hx hi P (n2 w) n3 (iZ _) (λb G=>by cases G) (λ_=>rfl),.ee,E,.refl _ _,.refl _ _⟩
    ·cases q
     cases N with
     | slice l off len cap o d H hk J ho=>
       exact⟨_,_,Δ,_,w,rfl,p8 hs hx hi P (n2 w) n3 J (λb G=>rfl) (λ_=>rfl),.slice _ _ _ cap o d H hk J ho,E,.refl _ _,.refl _ _⟩
    ·cases q
  | false =>
    have Z:0<m:=Nat.pos_of_ne_zero λe=>by rw[e]at hm;cases hm
    simp only[hm,gL]at q;obtain⟨U,q⟩:=q
    have fresh:∀(base:Option Addr) (a t:Nat) (g:List Value) (xX:List V) (h0:Hp),sv = .slice base a t->gh Δ xX g->g.length=a*size->
        (Builtin.firstCells size a (.slice base a t)).run P0 w.drew = .ok (Array.mk g) w.drew->¬a+m<=t->(a+m)*kE<=70368744177664->a+m<=70368744177664->
        WR Δ h0 w->h0.next=h.next->
        ∃O y w',(Builtin.append_ #[sT,xT] ty #[sv,xv]).run P0 w = .ok y w'/\xD Δ h w (.slice h.next 0 (a+m)) (h0.new (.cells f size true false (xX++cs))) O y w':=by
      intro base a t g xX h0 al W K A hg G aA aB Bn;obtain⟨zc,aC,hr⟩:=Ii (ty:=ty) hs hx hi hz (n2 w) A d3 hg G aA;have L:=grownCap_ge w (a+m) t f;generalize grownCap w (a+m) t f=nc at hr L
      have aa:Made Δ (.cells f size true false (xX++cs)) (λl=> .slice l 0 (a+m)) (.cells (Array.mk g++Array.mk I++Builtin.zeroCells zc (nc-(a+m))) f)
          (λb=> .slice (some ⟨b,0,none⟩) (a+m) nc):=by
        intro l b hn;have J:=Env.w5 (d:=⟨b,0,size,(xX++cs).length,nc*size,false,0⟩) hn;have am:=W.append d1;have hlen:(xX++cs).length=(a+m)*size:=by rw[I9,W.length,K,ak,UQ]
        have aS:(a+m)*size<=nc*size:=wBp _ L;refine⟨⟨b,0,size,(xX++cs).length,nc*size,false,0⟩,rfl,⟨rfl,rfl,rfl,rfl,λ_=>?_⟩,?_⟩
        ·refine z9 ?_ rfl (by show(xX++cs).length<=nc*size;omega) λi u B=>?_
         ·show(Array.mk g++Array.mk I++Builtin.zeroCells zc (nc-(a+m))).size=nc*size
          simp only[Array.size_append,List.size_toArray,size_zeroCells,aC,K,d4];rw[<-UQ,<-UQ];congr 1;omega
         ·obtain⟨y,hy,aD⟩:=am.get i u B
          refine⟨y,?_,aD.mono J⟩
          grind
        ·refine fF.slice l 0 (a+m) nc 0 _ (Env.uz _ _ _) rfl L (.inl ⟨rfl,?_,?_⟩)
         ·simp_all
         ·show 0+0+nc*size<=nc*size;omega
      obtain⟨O,a1,a2,a3,Q⟩:=(aB.heap (w':=w.drew) rfl).alloc aa;have aE:Gr h Δ (h0.new (.cells f size true false (xX++cs))) O:=⟨by rw[<-Bn];exact Q.next,λl hl F=>Q.none l hl (by rw[Bn];exact F)⟩
      rw[Bn]at a2;exact⟨O,_,_,al▸hr,a2,a1,a3.drew,aE⟩
    split at q
    ·simp only[gL]at q
     obtain⟨h3,h4,h5⟩:=q;cases h5;cases N;have S:m*kE<=70368744177664:=Jd h3;have ab:m<=70368744177664:=Jd h4;obtain⟨O,y,w',b1,b2⟩:=fresh none 0 0 [] [] h rfl .nil (by simp) rfl (by omega) (by simpa using S) (by simpa using ab) E rfl
     grind
    ·rename_i l off len
     rw[j9]at q;obtain⟨e,sz,live,ro,all,hg,q⟩:=q;simp only[gL]at q;obtain⟨rfl,aF,an,q⟩:=q;have ac:sz=size:=zR an;subst ac;have ao:ro=false:=by simpa using aF
     subst ao
     cases N with
     | slice _ _ _ cap o d H hk J ho=>
       obtain⟨ob,ap,hr⟩:=E.obj l d H;rw[hg]at ap;cases ap;obtain⟨a1,a2,a3,Q,a5⟩:=hr;obtain⟨c,e',fr,b1,b2,b3,b5,b4⟩:=a5 rfl;rw[a2]at ho;have aq:(len+m)*sz=len*sz+m*sz:=UQ _ _ _;have aZ:0<m*sz:=Nat.mul_pos Z T
       cases hin:Nat.ble (Nat.add off (Nat.mul (Nat.add len m) sz)) all.length with
       | true =>
         simp only[hin,fh]at q;obtain⟨og,h3,h4⟩:=q;cases h4;have aT:off+(len+m)*sz<=all.length:=Jd hin;rcases ho with⟨rfl,M,ar⟩|⟨rfl,M⟩
         ·have j:len+m<=cap:=by
            rcases Rl cap (len+m)with F|L
            ·exfalso
             have:cap*sz<(len+m)*sz:=Nat.mul_lt_mul_of_pos_right F T;omega
            ·exact L
          have aG:CX h l (off+len*sz) cs=some (h.put l (.cells e sz true false og)):=by
            unfold CX;rw[j9];refine⟨e,sz,true,false,all,hg,?_⟩;simp only[gL,fh];exact⟨trivial,rfl,U,og,h3,rfl⟩
          obtain⟨w',c1,c2,c3⟩:=JO E H n1 aG;refine⟨_,_,Δ,_,w',rfl,p8 hs hx hi P (n2 w) n3 j (λb G=>?_) (λG=>by cases G),?_,c2,c3,.same (iZ _)⟩
          ·cases G
           rw[rM,Nat.add_assoc];exact c1
          ·exact .slice l off (len+m) cap _ d H hk j (by simp_all)
         ·exfalso;omega
       | false =>
         simp only[hin,fh,gL]at q;obtain⟨xX,h3,aH,h4,h5,h6⟩:=q;cases h6;have ab:(len+m)*kE<=70368744177664:=Jd h4;have aI:len+m<=70368744177664:=Jd h5;have S:sub all off (len*sz)=some xX:=h3;obtain⟨ae,aJ⟩:=sub_eq S;obtain⟨aK,a6,_⟩:=E.kill hg H;have a7:E2 h l off (len*sz)=some xX:=by
           unfold E2;rw[j9];exact⟨e,sz,true,false,all,hg,by rw[gL];exact⟨rfl,S⟩⟩
         by_cases j:len+m<=cap
         ·rcases ho with⟨rfl,M,ar⟩|⟨rfl,M⟩
          ·have aU : (len+m)*sz<=cap*sz:=wBp _ j
           have X:d.base+off+len*sz+n.length<=c.size:=by rw[n4];omega
           have A:=tS d.b (d.base+off+len*sz) e' fr n 0 c w b1 (by grind) (by simpa using X) (n1.zbc U);simp only[XC]at A;have ag:d.base+off+len*sz+n.length<=c.toList.length:=by simpa using X
           generalize hw':w.setRow d.b (c.toList.take (d.base+off+len*sz)++n++c.toList.drop (d.base+off+len*sz+n.length)).toArray=w' at A;have C:w'.heap.size=w.heap.size:=by rw[<-hw'];simp
           have D:∀b,b≠d.b->w'.heap[b]? =w.heap[b]?:=by grind[setRow_other]
           have au:w'.heap[d.b]? =some (.cells (c.toList.take (d.base+off+len*sz)++n++c.toList.drop (d.base+off+len*sz+n.length)).toArray e' fr):=by
             rw[<-hw'];exact setRow_heap w d.b c _ e' fr b1
           have aw:WR Δ (h.put l (.cells e sz false false all)) w':=E.set H hg rfl Q (λh=>(nomatch h)) ⟨a1,a2,a3,Q,λh=>(nomatch h)⟩ C D;have aL:FR Δ Δ w w':=FR.set H Q C D (by rw[<-hw'];rfl) (by rw[<-hw'];rfl) (by rw[<-hw'];rfl);have hn:=E.EE;have a8:(xX++cs).length=(len+m)*sz:=by rw[I9,ae,ak,aq]
           have Y:=Env.w5 (d:=⟨d.b,d.base+off,sz,(xX++cs).length,d.Ui,false,0⟩) hn
           refine ⟨_,_,Δ.set h.next ⟨d.b,d.base+off,sz,(xX++cs).length,d.Ui,false,0⟩,_,w',rfl,
             p8 hs hx hi P (n2 w) n3 j (λb G=>?_) (λG=>by cases G),?_,?_,aL.W2 hn ⟨l,d,H,Q,rfl⟩,Gr.set (Qe _)⟩
           ·cases G
            rw[rM];exact A
           ·refine .slice h.next 0 (len+m) cap (d.base+off) ⟨d.b,d.base+off,sz,(xX++cs).length,d.Ui,false,0⟩ (Env.uz _ _ _) rfl j (.inl ⟨rfl,?_,?_⟩)
            ·simp_all
            omega
           ·refine (aw.more (.cells f sz true false (xX++cs))).W2 (o:= .cells f sz true false (xX++cs)) (d:=⟨d.b,d.base+off,sz,(xX++cs).length,d.Ui,false,0⟩) hn (MC _) (by rw[tW];exact if_pos rfl) (by rw[C];exact E.mh l d H) ⟨rfl,rfl,rfl,rfl,λ_=>?_⟩ (λm' d' p aM hp aN=>?_) ⟨l,d,H,Q,rfl⟩
            ·refine ⟨_,e',fr,au,?_,λ_=>b3 Q,?_,λi v B=>?_⟩
             ·grind
             ·grind
             ·show ∃x,(List.toArray _)[d.base+off+i]? =some x/\_
              rw[wBm,St c.toList n _ ag];rw[List.getElem?_append]at B;by_cases F:i<xX.length
              ·rw[if_pos F,aJ i (by omega)]at B
               obtain⟨x,ah,ai⟩:=b4 _ _ B;rw[if_neg (by omega)];exact⟨x,by rw[X2,Nat.add_assoc];exact ah,ai.mono Y⟩
              ·rw[if_neg F]at B
               obtain⟨x,ah,ai⟩:=n1.get _ _ B;have aV:=(jq.1 B).1;rw[if_pos (by omega)];refine⟨x,?_,ai.mono Y⟩;rw[<-ah];congr 1;omega
            ·have aO:h.next≠m':=Nat.ne_of_gt (E.fresh _ _ aM)
             rw[tW]at hp;rw[if_neg (by exact aO)]at hp;rw[oR _ _ (E.fresh _ _ H)]at hp;by_cases he:l=m'
             ·subst he
              rw[if_pos rfl]at hp;cases hp;cases aN
             grind
          ·exfalso;omega
         ·have aP:∃g,gh Δ xX g/\(Builtin.firstCells sz len (.slice (some ⟨d.b,o,none⟩) len cap)).run P0 w.drew = .ok (Array.mk g) w.drew:=by
            rcases ho with⟨rfl,M,ar⟩|⟨rfl,M⟩
            ·grind[uP,Builtin.firstCells]
            ·have aQ:len=0:=by omega
             subst aQ;have aR:xX=[]:=wAy (by rw[ae];simp);subst aR;exact⟨[],.nil,by simp[Builtin.firstCells,loadCells,loadCellsFrom]⟩
          obtain⟨g,c1,c2⟩:=aP;obtain⟨O,y,w',e1,e2⟩:=fresh _ len cap g xX (h.put l (.cells e sz false false all)) rfl c1 (by rw[<-c1.length,ae]) c2 j ab aI aK rfl;exact⟨_,_,O,y,w',rfl,e1,e2⟩
    ·cases q
end
section
variable{Δ:Env}{h:Hp}{w:World}{n:Nat}{t:Tm}{a:Act}
theorem Ty(f:WR Δ h w) {ty size:Nat} (n:wW ty=some size) {l off:Nat} {v:V} {pv xv:Value} (g:fF Δ (.ptr l off) pv) (i:fF Δ v xv)
  (hlen:Nat.beq v.cells.length size=true) {h':Hp} (hs:CX h l off v.cells=some h') :
  ∃w',(Instr.storeAt ty pv xv).run P0 w = .ok () w'/\WR Δ h' w'/\FR Δ Δ w w'/\Gr h Δ h' Δ:=by
 cases g with
 | ptr _ _ d j=>
   have hc:=i.cells;obtain⟨w',o,k,m⟩:=JO f j hc hs;have p:=zR hlen;have b:=hc.length;simp only[Xf]at b;have c:h'.next=h.next:=by
     unfold CX at hs;rw[j9]at hs;obtain⟨e,sz,live,ro,cs,q,a⟩:=hs;simp only[gL,fh]at a;obtain⟨_,_,_,_,_,a⟩:=a;cases a;rfl
   refine⟨w',?_,k,m,.same (wB6 c.symm)⟩
   simp_all[Instr.storeAt,Instr.sureAddr,storeVar,uJ]
theorem sB.length{b:List (V×V×Nat)} {a:List MapEntry} (h:sB Δ b a):b.length=a.length:=by
 induction h <;> grind
theorem sB.get{b:List (V×V×Nat)} {a:List MapEntry} (h:sB Δ b a) {i:Nat} {e:V×V×Nat} (hi:b[i]? =some e) :
  ∃e',a[i]? =some e'/\fF Δ e.1 e'.key/\fF Δ e.2.1 e'.val/\e'.born=e.2.2:=by
 induction h generalizing i <;> grind
theorem sB.set{b:List (V×V×Nat)} {a:List MapEntry} (h:sB Δ b a) {i:Nat} {k v:V} {m:Nat} {e':MapEntry} (hk:fF Δ k e'.key) (f:fF Δ v e'.val) (g:e'.born=m) :
  sB Δ (b.set i (k,v,m)) (a.set i e'):=by
 induction h generalizing i with
 |nil=>exact .nil
 | cons k0 l n e0 b a c d e hs j=>
   cases i with
   |zero=>exact .cons _ _ _ _ _ _ hk f g hs
   |succ i=>exact .cons _ _ _ _ _ _ c d e j
theorem sB.snoc{b:List (V×V×Nat)} {a:List MapEntry} (h:sB Δ b a) {k v:V} {m:Nat} {e':MapEntry} (hk:fF Δ k e'.key) (f:fF Δ v e'.val) (g:e'.born=m) :
  sB Δ (b++[(k,v,m)]) (a++[e']):=by
 induction h with
 |nil=>exact .cons _ _ _ _ _ _ hk f g .nil
 |cons k0 j n e0 b a c d e hs i=>exact .cons _ _ _ _ _ _ c d e i
theorem sB.erase{b:List (V×V×Nat)} {a:List MapEntry} (h:sB Δ b a) {i:Nat}:sB Δ (b.eraseIdx i) (a.eraseIdx i):=by
 induction h generalizing i with
 |nil=>exact .nil
 | cons k0 g n e0 b a c d e hs f=>
   cases i with
   |zero=>exact hs
   |succ i=>exact .cons _ _ _ _ _ _ c d e f
theorem Fa{k:V} {x y:Value} (m:Nat) (d:GK k=true) (c:fF Δ k x) (b:fF Δ k y):Instr.sameBits m x y=true:=by
 cases k <;> simp[GK]at d
 ·cases c;cases b;grind[Instr.sameBits]
 ·cases c;cases b;grind[Instr.sameBits]
 ·rename_i s
  cases c with
  | str a=>
    generalize hs:a.data.toList=l at b
    cases b with
    | str e=>
      have:a=e:=by
        rw[ByteArray.ext_iff];exact Array.ext' hs
      subst this;have f:(a == a)=true:=by show(a.data == a.data)=true;simp
      grind[Instr.sameBits]
theorem Wd(m:Nat) {cs:List V} {xs ys:List Value} (f:cs.all GK=true) (a:gh Δ cs xs) (b:gh Δ cs ys):xs.length=ys.length/\(xs.zip ys).all (λp=>Instr.sameBits m p.1 p.2)=true:=by
 induction cs generalizing xs ys with
 |nil=>cases a;cases b;simp_all
 | cons c cs g=>
   cases a with
   | cons _ x _ xs a d=>
     cases b with
     | cons _ y _ ys b e=>
       simp only[YY,ve]at f;obtain⟨h,i⟩:=g f.2 d e;exact⟨by simp[h],by simp only[List.zip_cons_cons,YY,ve];grind[Fa]⟩
theorem Jr{k:V} {x y:Value} (m:Nat) (c:IP k=true) (a:fF Δ k x) (b:fF Δ k y):Instr.sameBits (m+1) x y=true:=by
 cases k with
 | agg cs=>
   cases a with|agg _ xs a=>cases b with|agg _ ys b=>
   obtain⟨d,e⟩:=Wd m c a b
   simp_all[Instr.sameBits,ve]
 |_=>grind[Fa,IP]
theorem map_set(g:WR Δ h w) {l:Nat} {d:D} (f:Δ l=some d) {k e:List (V×V×Nat)} {c c2:Nat} (i:h.get l=some (.map k c)) {J2:Array MapEntry} (m:sB Δ e J2.toList) :
  (setObj d.b (.map J2 c2)).run P0 w = .ok () {w with heap:=w.heap.setIfInBounds d.b (.map J2 c2)}/\
  WR Δ (h.put l (.map e c2)) {w with heap:=w.heap.setIfInBounds d.b (.map J2 c2)}/\FR Δ Δ w {w with heap:=w.heap.setIfInBounds d.b (.map J2 c2)}:=by
 obtain⟨o,j,n⟩:=g.obj l d f;rw[i]at j;cases j;obtain⟨a1,a2,a3,p,r,s⟩:=n;have q:=g.mh l d f;have a:∀b,b≠d.b->({w with heap:=w.heap.setIfInBounds d.b (.map J2 c2)}:World).heap[b]? =w.heap[b]?:=by grind
 refine⟨by grind[setObj,Sem.run],g.set f i rfl a2 (λh=>h) ⟨a1,a2,a3,J2,?_,m⟩ (by simp) a,FR.set f a2 (by simp) a rfl rfl rfl⟩
 simp_all
theorem Sa(y:WR Δ h w) {I z O:Nat} (J:P0.underlying I=some (.map z O)) {d:Option (List Field)} (K:GL z=some d) {m k v:V} {L j vv:Value} (P:fF Δ m L) (hk:fF Δ k j) (M:fF Δ v vv)
  {r:R} (f:LY z d m k v h=some r):∃h' w',r = .val .undef h'/\(Instr.mapUpdate I L j vv).run P0 w = .ok () w'/\WR Δ h' w'/\FR Δ Δ w w'/\Gr h Δ h' Δ:=by
 unfold LY at f;rw[gL]at f;obtain⟨Q,f⟩:=f;split at f
 ·rename_i l;simp only[yA,fh]at f;obtain⟨Z,c,A,ob,g,f⟩:=f;cases f
  cases P with
  | map _ dd B=>
    obtain⟨a,N,x⟩:=Gq y B A;have n:=wH (em:=false) 9999 (by omega) w K hk Q;unfold NZ at g;rw[fh]at g;obtain⟨fr,S,g⟩:=g;obtain⟨o,q,b⟩:=B3 K hk w x S
    cases fr with
    | none=>
      cases g
      cases o with
      |some _=>cases b
      | none=>
        obtain⟨C,D,E⟩:=map_set y B A (J2:=a.push {key:=j,val:=vv,born:=c}) (c2:=c+1) (by rw[Array.toList_push];exact x.snoc (m:=c) hk M rfl);refine⟨_,_,rfl,?_,D,E,.same (iZ _)⟩
        simp only[Instr.mapUpdate,uZ,fN J,tN,run_getObj_map N,n,q,C]
    | some p=>
      obtain⟨i,u⟩:=p;simp only[fh,gL]at g;obtain⟨e,F,G,T,g⟩:=g;cases g
      cases o with
      |none=>cases b
      | some U=>
        obtain⟨i',u'⟩:=U;obtain⟨rfl,_⟩:=b;obtain⟨e',W,X,g3,Y⟩:=x.get F;rw[V.eq_of_beq _ _ G]at X;have H:Instr.sameBits 10000 e'.key j=true:=by grind[Jr]
        have s:a[i]? =some e':=by simpa using W
        have t:(a.modify i λe=>{e with key:=j,val:=vv}).toList=a.toList.set i {e' with key:=j,val:=vv}:=by
          rw[Array.toList_modify];rw[List.modify_eq_set];simp[s]
        obtain⟨C,D,E⟩:=map_set y B A (J2:=a.modify i λe=>{e with key:=j,val:=vv}) (c2:=c) (by rw[t];exact x.set (i:=i) (k:=k) (v:=v) (m:=e.2.2) hk M Y);refine⟨_,_,rfl,?_,D,E,.same (iZ _)⟩;simp only[Instr.mapUpdate,uZ,fN J,tN,run_getObj_map N,n,q,Instr.keyThatStays,s,Option.map_some,Option.getD_some,H,if_true,Jg,C]
 ·cases f
theorem QR(o:WR Δ h w) {F x N rt:Nat} {q:Array Nat} (j:q[0]? =some F) (y:P0.underlying F=some (.map x N)) {d:Option (List Field)} (z:GL x=some d) {m k:V} {G H:Value} (I:fF Δ m G) (hk:fF Δ k H)
  {r:R} (e:Od x d m k h=some r):∃h' w',r = .val (.tuple []) h'/\(Builtin.delete_ q rt #[G,H]).run P0 w = .ok (.tuple #[]) w'/\WR Δ h' w'/\FR Δ Δ w w'/\Gr h Δ h' Δ:=by
 unfold Od at e;rw[gL]at e;obtain⟨J,e⟩:=e;split at e
 ·cases e;cases I;have g:=wH (em:=true) 9999 (by omega) w z hk J;refine⟨h,w,rfl,?_,o,.refl _ _,.refl _ _⟩;simp only[Builtin.delete_,j,wBm,List.getElem?_cons_zero,wBa,uZ,fN y,tN,g,Jg]
 ·rename_i l;simp only[yA,fh]at e;obtain⟨Q,c,A,fr,O,e⟩:=e
  cases I with
  | map _ B C=>
    obtain⟨a,K,D⟩:=Gq o C A;have g:=wH (em:=a.isEmpty) 9999 (by omega) w z hk J;obtain⟨s,t,f⟩:=B3 z hk w D O
    cases fr with
    | none =>
      cases e
      cases s with
      |some _=>cases f
      | none=>
        obtain ⟨v,L,M⟩:=map_set o C A (J2:=a) (c2:=c) D;have n:({w with heap:=w.heap.setIfInBounds B.b (.map a c)}:World)=w:=by
          have:w.heap.setIfInBounds B.b (.map a c)=w.heap:=by
            apply Array.ext_getElem?;intro i;by_cases hi:B.b=i
            ·grind
            ·simp_all
          rw[this]
        rw[n]at v;refine⟨h,w,rfl,?_,o,.refl _ _,.refl _ _⟩
        simp only[Builtin.delete_,j,wBm,List.getElem?_cons_zero,wBa,uZ,fN y,tN,run_getObj_map K,g,t,v,Jg]
    | some p=>
      obtain⟨i,u⟩:=p;cases e
      cases s with
      |none=>cases f
      | some P=>
        obtain ⟨S,u'⟩:=P;obtain⟨rfl,_⟩:=f;have E:(a.eraseIdxIfInBounds i).toList=a.toList.eraseIdx i:=by
          rw[Array.eraseIdxIfInBounds_eq];split
          ·rw[Array.toList_eraseIdx]
          ·grind[List.eraseIdx_of_length_le]
        obtain⟨v,L,M⟩:=map_set o C A (J2:=a.eraseIdxIfInBounds i) (c2:=c) (by rw[E];exact D.erase);refine⟨_,_,rfl,?_,L,M,.same (iZ _)⟩;simp only[Builtin.delete_,j,wBm,List.getElem?_cons_zero,wBa,uZ,fN y,tN,run_getObj_map K,g,t,v,Jg]
 ·cases e
end
section
variable{Δ:Env}{h:Hp}{w:World}{n:Nat}{t:Tm}{a:Act}
theorem ME{l off:Nat} {new:List V} {h':Hp} (hs:CX h l off new=some h'):h'.next=h.next:=by
 unfold CX at hs;rw[j9]at hs;obtain⟨e,sz,live,ro,cs,b,a⟩:=hs;simp only[gL,fh]at a;obtain⟨_,_,_,_,_,a⟩:=a;cases a;rfl
theorem QL(s:ByteArray) (m:Nat):((s.extract 0 m).data.map λb=>Value.int .u8 b.toNat)=Array.mk ((s.data.toList.take m).map λb=>Value.int .u8 b.toNat):=by
 apply Array.ext'
 simp_all
theorem QE(Δ:Env) (l:List UInt8):gh Δ (yz l) (l.map λb=>Value.int .u8 b.toNat):=by
 induction l with
 |nil=>exact .nil
 |cons b l a=>exact .cons _ _ _ _ (.int .u8 _) a
theorem V8(k:WR Δ h w) {P q size rt:Nat} {n:Array Nat} (z:n[0]? =some P) (Q:P0.underlying P=some (.slice q)) (S:wW q=some size) {d s:V} {y t:Value}
  (T:fF Δ d y) (hs:fF Δ s t) {r:R} (f:W0 size d s h=some r) :
  ∃h' m w',r = .val (.int .i64 (.ofNat m)) h'/\(Builtin.copy_ n rt #[y,t]).run P0 w = .ok (.int .i64 m) w'/\WR Δ h' w'/\FR Δ Δ w w'/\Gr h Δ h' Δ:=by
 have a:∀(base:Option Addr) (c g:Nat) (m:Nat),y = .slice base c g->(Builtin.lenOf t).run P0 w = .ok m w->Nat.min m c=0->(Builtin.firstCells size 0 t).run P0 w = .ok #[] w->
   (Builtin.copy_ n rt #[y,t]).run P0 w = .ok (.int .i64 (0:Nat)) w:=by
  intro base c g m u B p C;subst u;have v:=uJ (w:=w) S;cases base <;> simp[Builtin.copy_,z,fN Q,B,p,v,C,storeCells,goInt]
 have some_:∀(base:Addr) (c g:Nat) (m:Nat) (xs:List Value) (w':World),y = .slice (some base) c g->(Builtin.lenOf t).run P0 w = .ok m w->
   (Builtin.firstCells size (Nat.min m c) t).run P0 w = .ok (Array.mk xs) w->(storeCells base xs 0).run P0 w = .ok () w'->
   (Builtin.copy_ n rt #[y,t]).run P0 w = .ok (.int .i64 (Nat.min m c:Nat)) w':=by
  intro base c g m xs w' u B C D;subst u;have v:=uJ (w:=w) S;simp[Builtin.copy_,z,fN Q,B,v,C,D,goInt]
 unfold W0 at f;split at f
 ·cases T;split at f
  ·cases f;cases hs;exact⟨_,0,w,rfl,a none 0 0 0 rfl rfl rfl rfl,k,.refl _ _,.refl _ _⟩
  ·cases f
   cases hs with
   | slice l off len cap o Y x hk E F=>
     exact⟨_,0,w,rfl,a none 0 0 _ rfl rfl (Nat.min_zero _) (by simp[Builtin.firstCells,loadCells,loadCellsFrom]),k,.refl _ _,.refl _ _⟩
  ·cases f
   cases hs with
   |str s=>exact⟨_,0,w,rfl,a none 0 0 s.size rfl rfl (Nat.min_zero _) (by simp[Builtin.firstCells]),k,.refl _ _,.refl _ _⟩
  ·cases f
 ·rename_i l off len
  cases T with
  | slice _ _ _ i o Y x hk E F=>
    split at f
    ·cases f;cases hs
     exact⟨_,0,w,rfl,a _ len i 0 rfl rfl (Nat.zero_min _) rfl,k,.refl _ _,.refl _ _⟩
    ·rename_i l' U B6
     cases hs with
     | slice _ _ _ W so sd G Z X H=>
       cases p:Nat.beq (min B6 len) 0 with
       | true=>
         simp only[p]at f;cases f;have j:Nat.min B6 len=0:=zR p
         exact⟨_,0,w,rfl,a _ len i B6 rfl rfl j (by simp[Builtin.firstCells,loadCells,loadCellsFrom]),k,.refl _ _,.refl _ _⟩
       | false=>
         have j:0<min B6 len:=Nat.pos_of_ne_zero λe=>by simp_all
         simp only[p,fh]at f;obtain⟨cs,I,h2,A,J⟩:=f;cases J;rcases H with⟨rfl,_,_⟩|⟨rfl,_⟩
         ·rcases F with⟨rfl,_,_⟩|⟨rfl,_⟩
          ·obtain⟨xs,c1,c2⟩:=uP k G I
           obtain⟨w',K,L,M⟩:=JO k x c2 A;exact⟨_,_,w',rfl,some_ _ len i B6 xs w' rfl rfl (by grind[Builtin.firstCells]) K,L,M,.same (wB6 (ME A).symm)⟩
          ·omega
         ·omega
    ·rename_i b
     rw[gL]at f;obtain⟨I,f⟩:=f;have N:size=1:=zR I;subst N
     cases hs with
     | str s=>
       have O:s.data.toList.length=s.size:=by simp
       rw[O]at f
       cases p:Nat.beq (min s.size len) 0 with
       | true=>
         simp only[p]at f;cases f;have j:Nat.min s.size len=0:=zR p
         exact⟨_,0,w,rfl,a _ len i s.size rfl rfl j (by simp[Builtin.firstCells]),k,.refl _ _,.refl _ _⟩
       | false=>
         have j:0<min s.size len:=Nat.pos_of_ne_zero λe=>by simp_all
         simp only[p,fh]at f;obtain⟨h2,A,J⟩:=f;cases J;rcases F with⟨rfl,_,_⟩|⟨rfl,_⟩
         ·obtain⟨w',K,L,M⟩:=JO k x (QE Δ _) A
          refine⟨_,_,w',rfl,some_ _ len i s.size _ w' rfl rfl ?_ K,L,M,.same (wB6 (ME A).symm)⟩;simp only[Builtin.firstCells,QL];rfl
         ·omega
    ·cases f
 ·cases f
theorem K6{d:D} {cs:List V} {c:Array Value} {e:Nat} (hs:c.size=d.Ui) (a:d.base=0) (b:cs.length<=d.Ui) (hc:∀(i:Nat) (v:V),cs[i]? =some v->∃x,c[i]? =some x/\fF Δ v x) :
  EK Δ d cs (some (.cells c e (c.size,c.size+1))):=
 ⟨c,e,(c.size,c.size+1),rfl,hs,λ_=> .inr (wB6 hs.symm),by omega,λi v hi=>by rw[a,wX];exact hc i v hi⟩
theorem Uk(m:WR Δ h w) {src dst e:Nat} (hs:P0.underlying src=some .string) (n:P0.underlying dst=some (.slice e)) (o:P0.underlying e=some (.int .u8)) (s:ByteArray) :
  ∃d x w',(convert src dst (.string s)).run P0 w = .ok x w'/\xD Δ h w (.slice h.next 0 s.data.toList.length) (h.new (.cells e 1 true false (yz s.data.toList))) d x w':=by
 have k:=run_bytes_of_string (P:=P0) w src dst e s hs n o;have c:=grownCap_ge w s.size 0 e;generalize grownCap w s.size 0 e=cap at k c;have f:s.data.toList.length=s.size:=by simp
 have p:(yz s.data.toList).length=s.size:=by simp[yz]
 have g:(bytesRow s cap).size=cap:=by
  have:s.data.size=s.size:=rfl;simp[bytesRow];omega
 have a:Made Δ (.cells e 1 true false (yz s.data.toList)) (λl=> .slice l 0 s.data.toList.length) (.cells (bytesRow s cap) e ((bytesRow s cap).size,(bytesRow s cap).size+1))
   (λb=> .slice (some ⟨b,0,none⟩) s.size cap):=by
  intro l b r;refine⟨⟨b,0,1,(yz s.data.toList).length,cap,false,0⟩,rfl,⟨rfl,rfl,rfl,rfl,λ_=>?_⟩,?_⟩
  ·refine K6 g rfl (by simp_all) λi u hi=>?_;obtain⟨x,t,j⟩:=(MP _ s).get i u hi;refine⟨x,?_,j⟩
   grind[jq,bytesRow,Array.getElem?_append_left]
  ·rw[f];refine fF.slice l 0 s.size cap 0 ⟨b,0,1,(yz s.data.toList).length,cap,false,0⟩ (Env.uz _ _ _) rfl c (.inl ⟨rfl,?_,?_⟩)
   ·simp_all
   simp_all
 obtain⟨d,a1,a2,a3,q⟩:=(m.heap (w':=w.drew) rfl).alloc a;exact⟨d,_,_,k,a2,a1,a3.drew,q⟩
theorem WH(q:WR Δ h w) {src dst e0 e:Nat} {x:V} {y:Value} (E:fF Δ x y) (hs:P0.underlying src=some (.slice e0)) (L:P0.underlying dst=some (.slice e)) (M:P0.underlying e=some (.int .u8)) (s:src=dst)
  {r:R} (a:Wj x h=some r):∃B h' w',r = .val B h'/\(convert src dst y).run P0 w = .ok y w'/\xD Δ h w B h' Δ y w':=by
 unfold Wj at a;split at a
 ·rename_i l off n;rw[j9]at a;obtain⟨N,sz,live,ro,cs,C,a⟩:=a;simp only[gL]at a;obtain⟨rfl,t,a⟩:=a;cases a;have i:ro=false:=by simpa using t
  subst i
  cases E with
  | slice _ _ _ cap o d j hk u F=>
    obtain⟨p,D,G⟩:=q.obj l d j;rw[C]at D;cases D;obtain⟨a1,a2,a3,v,H⟩:=G;obtain⟨c,z,fr,b1,b2,b3,I,J⟩:=H rfl;subst s;obtain rfl:e0=e:=by simp_all
    obtain ⟨lo,hi⟩:=fr;have K:d.b<w.heap.size:=q.mh l d j;have A:(w.freeze ⟨d.b,c.size,none⟩ 1).heap[d.b]? =some (.cells c z (if lo == hi then(c.size,c.size+1) else(min lo c.size,max hi (c.size+1)))):=by
      unfold World.freeze;rw[if_neg (by omega)];simp only[Array.getElem?_modify,b1,if_true,Option.map_some]
    have f:∀b,b≠d.b->(w.freeze ⟨d.b,c.size,none⟩ 1).heap[b]? =w.heap[b]?:=by
      intro b O;unfold World.freeze;rw[if_neg (by omega)];simp only[Array.getElem?_modify];rw[if_neg (by omega)]
    have k:(w.freeze ⟨d.b,c.size,none⟩ 1).heap.size=w.heap.size:=by
      unfold World.freeze;rw[if_neg (by omega)];simp
    have g:∀b,(w.freeze b 1).os=w.os/\(w.freeze b 1).tape=w.tape/\(w.freeze b 1).output=w.output:=by
      intro b;unfold World.freeze;rw[if_neg (by omega)];exact by simp_all
    refine⟨_,_,w.freeze ⟨d.b,c.size,none⟩ 1,rfl,?_,⟨.slice l off n cap o d j hk u F,?_,FR.set j v k f (g _).1 (g _).2.1 (g _).2.2,Gr.same (iZ _)⟩⟩
    ·have m:(Go.shape d.b).run P0 w = .ok (some (z,c.size)) w:=by
       show Result.ok (w.shape? d.b) w=_;unfold World.shape?;rw[b1]
     simp_all[convert,uZ,fN,tN,beq_self_eq_true,markStringish,run_freeze]
    ·refine q.set j C rfl v (λh=>h) ⟨a1,a2,a3,v,λ_=>⟨c,z,_,A,b2,λ_=>?_,I,J⟩⟩ k f
     grind
 ·cases a
end
section
variable{Δ:Env}{h:Hp}{w:World}{n:Nat}{t:Tm}{a:Act}
theorem Uy(g:WR Δ h w) {ty p q:Nat} (s:P0.underlying ty=some (.map p q)) {m:V} {j:Value} (k:fF Δ m j) {r:R} (e:Lv m h=some r) :
  ∃v h' f x w',r = .val v h'/\(Instr.range ty j).run P0 w = .ok x w'/\xD Δ h w v h' f x w':=by
 unfold Lv at e;split at e
 ·cases e;cases k
  have a:Made Δ (.iter none 0 [] 0) (λl=> .ptr l 0) (.mapIter none 0 #[] 0) (λb=> .pointer (some ⟨b,0,none⟩)):=λl b n=>
   ⟨⟨b,0,0,0,0,false,2⟩,rfl,⟨rfl,rfl,rfl,none,rfl,rfl⟩,fF.ptr l 0 ⟨b,0,0,0,0,false,2⟩ (Env.uz _ _ _)⟩
  obtain⟨f,a1,a2,a3,i⟩:=g.alloc a;exact⟨_,_,f,_,_,rfl,by simp_all[Instr.range,fN],a2,a1,a3,i⟩
 ·rename_i l;rw[yA]at e;obtain⟨A,c,t,e⟩:=e;cases e
  cases k with
  | map _ d o=>
    obtain⟨u,y,B⟩:=Gq g o t
    have a:Made Δ (.iter (some l) c [] c) (λl=> .ptr l 0) (.mapIter (some d.b) c #[] c) (λb=> .pointer (some ⟨b,0,none⟩)):=λz b n=>
      ⟨⟨b,0,0,0,0,false,2⟩,rfl,⟨rfl,rfl,rfl,some d.b,rfl,d,Env.w5 n _ _ o,rfl⟩,fF.ptr z 0 ⟨b,0,0,0,0,false,2⟩ (Env.uz _ _ _)⟩
    obtain⟨f,a1,a2,a3,i⟩:=g.alloc a;exact⟨_,_,f,_,_,rfl,by simp[Instr.range,fN s,run_getObj_map y],a2,a1,a3,i⟩
 ·cases e
theorem rZ{r:Nat}{m:Option Nat}{s l:Nat}{seen:Array Nat}(a:w.heap[r]? =some (.mapIter m s seen l)):(getObj r).run P0 w = .ok (.mapIter m s seen l) w:=by grind[getObj,Sem.run]
theorem RI{b:List (V×V×Nat)} {a:List MapEntry} (c:sB Δ b a) (p:Nat->Bool):sB Δ (b.filter λe=>p e.2.2) (a.filter λe=>p e.born):=by
 induction c with
 |nil=>exact .nil
 | cons k v n e b a hk d f _ g=>
   subst f;simp only[wBy];by_cases hp:p e.born=true
   ·simp only[hp,if_true];exact .cons _ _ _ _ _ _ hk d rfl g
   simp_all
theorem Yr{b:List (V×V×Nat)} {a:List MapEntry} (c:sB Δ b a) (p:Nat->Bool):a.all (λe=>p e.born)=b.all λe=>p e.2.2:=by
 induction c <;> grind
theorem V7(q:WR Δ h w) {it:V} {J:Value} {ty:Nat} (hi:fF Δ it J) {r:R} (f:Bn it h=some r) :
  ∃v h' x w',r = .val v h'/\(Instr.next J false ty).run P0 w = .ok x w'/\xD Δ h w v h' Δ x w':=by
 unfold Bn at f;rw[uG]at f;obtain⟨P,off,rfl,f⟩:=f;rw[gL,fh]at f;obtain⟨h0,o,K,f⟩:=f;have C:off=0:=zR h0;subst C
 cases hi with
 | ptr _ _ d z=>
   obtain⟨o',M,N⟩:=q.obj P d z;rw[K]at M;cases M;split at f
   ·cases f
    obtain⟨a1,a2,a3,Q,A,S⟩:=N;subst S;refine⟨_,_,_,w,rfl,?_,.tuple _ #[.bool false] (.one (.bool false)),q,.refl _ _,.refl _ _⟩;rw[a3];simp[Instr.next,rZ A]
   ·rename_i m since seen last
    obtain ⟨a1,a2,a3,Q,A,B,s,rfl⟩:=N;rw[yA]at f;obtain⟨D,c,E,f⟩:=f;rw[gL]at f;obtain⟨t,f⟩:=f;obtain⟨g,O,F⟩:=Gq q s E;have j:(!seen.toArray.isEmpty&&!g.isEmpty&&g.all (λe=>decide (e.born >= last)))=false:=by
      have T:g.isEmpty=D.isEmpty:=by
        have:=F.length;cases D <;> cases hes:g with|mk l=>grind
      have U:g.all (λe=>decide (e.born >= last))=D.all (λe=>Nat.ble last e.2.2):=by
        rw[<-Array.all_toList];have:=Yr F (λn=>Nat.ble last n);rw[<-this];congr 1;funext e;rw[Rc];simp[Nat.ble_eq]
      have W:seen.toArray.isEmpty=seen.isEmpty:=by simp
      rw[W,T,U];simpa only[wBg]using t
    have a:=RI F (λn=>!seen.contains n);have p:(g.filter λe=>!seen.toArray.contains e.born)=Array.mk (g.toList.filter λe=>!seen.contains e.born):=by
      apply Array.ext';rw[Array.toList_filter];simp
    rw[a3];split at f
    ·rename_i G
     cases f;rw[G]at a;generalize (g.toList.filter λe=>!seen.contains e.born)=L at a p;cases a;refine⟨_,_,_,w,rfl,?_,.tuple _ #[.bool false] (.one (.bool false)),q,.refl _ _,.refl _ _⟩;simp only[Instr.next,uZ,rZ A,tN,run_getObj_map O,j,p];simp[Question.forced]
    ·rename_i e G
     rw[gL]at f;obtain⟨u,f⟩:=f;cases f;rw[G]at a;generalize (g.toList.filter λe=>!seen.contains e.born)=L at a p
     cases a with
     | cons k v nb e' _ L hk X H hs=>
       cases hs;have y:e'.born<since:=by rw[Nn]at u;rw[H];exact u
       have Y:=q.mh _ _ z;have i:∀b,b≠d.b->({w with heap:=w.heap.setIfInBounds d.b (.mapIter (some B.b) since (seen++[nb]).toArray c)}:World).heap[b]? =w.heap[b]?:=by grind
       refine ⟨_,_,_,{w with heap:=w.heap.setIfInBounds d.b (.mapIter (some B.b) since (seen++[nb]).toArray c)},rfl,?_,
         .tuple _ #[.bool true,e'.key,e'.val] (.cons _ _ _ _ (.bool true) (.cons _ _ _ _ hk (.one X))),?_,FR.set z a2 (by simp) i rfl rfl rfl,.same (iZ _)⟩
       ·have I:¬(e'.born >= since):=by omega
        have Z:(Array.mk [e']).filter (λx=>decide (x.born<since)) = #[e']:=by simp[y]
        have f2:(Array.mk [e']).filter (λx=>decide (x.born >= since)) = #[]:=by simp[I]
        simp only[Instr.next,uZ,rZ A,tN,run_getObj_map O,j,p,Z,f2]
        simp_all[Question.forced,setObj,Sem.run]
       ·refine q.set z K rfl a2 (λh=>h) ⟨a1,a2,a3,some B.b,?_,B,s,rfl⟩ (by simp) i
        simp_all
    ·cases f
   ·cases f
theorem VT{b:List (V×V×Nat)} {a:List MapEntry} (d:sB Δ b a) (st:Nat) {e:V×V×Nat} (c:(b.find? λe=>Nat.beq e.2.2 st)=some e) :
  ∃e',(a.find? λe=>e.born == st)=some e'/\fF Δ e.1 e'.key/\fF Δ e.2.1 e'.val:=by
 induction d with
 |nil=>cases c
 | cons k v n e0 b a hk h f _ i=>
   subst f;simp only[List.find?_cons]at c⊢;have g:(e0.born == st)=Nat.beq e0.born st:=by rw[Rc];simp
   grind
theorem TP(q:WR Δ h w) {it:V} {s:Value} (hi:fF Δ it s) {r:R} (a:QY it h=some r) :
  ∃v x,r = .val v h/\(Instr.entry s).run P0 w = .ok x w/\fF Δ v x:=by
 unfold QY at a;rw[uG]at a;obtain⟨u,off,rfl,a⟩:=a;rw[gL,fh]at a;obtain⟨h0,o,y,a⟩:=a;have g:off=0:=zR h0;subst g
 cases hi with
 | ptr _ _ d z=>
   obtain⟨H,t,A⟩:=q.obj u d z;rw[y]at t;cases t;split at a
   ·rename_i m since seen last
    obtain⟨a1,a2,a3,I,B,J,i,rfl⟩:=A;rw[yA]at a;obtain⟨K,c,j,a⟩:=a;simp only[gL,fh]at a;obtain⟨hc,st,k,e,l,a⟩:=a;cases a;obtain⟨n,C,D⟩:=Gq q i j;obtain⟨e',E,F,G⟩:=VT D st l;refine⟨_,.tuple #[e'.key,e'.val],rfl,?_,.tuple _ _ (.cons _ _ _ _ F (.one G))⟩;have p:c=last:=zR hc;subst p;have b:seen.toArray.back? = some st:=by rw[List.back?_toArray];exact k
    have f:(n.find? λe=>e.born == st)=some e':=by rw[<-Array.find?_toList];exact E
    rw[a3];simp only[Instr.entry,uZ,rZ B,tN,b,run_getObj_map C,bne_self_eq_false,Oh,if_false,Jg,f]
   ·cases a
theorem W4{f:V} {k:Value} {args:List V} {b:Array Value} {ty:Nat} {c:Go.Call} {op:Operand} (hc:c.callee = .value op) (m:a.eval op=k) (j:c.args.map a.eval=b) (n:fF Δ f k) (o:gh Δ args b.toList) {r:R}
  (i:fU f args=some r):∃g l gz,r = .call g l/\gh Δ l gz.toList/\(do let d <-resolve a.eval c ty;invoke d.target d.args:Sem Next)=callFunc g gz:=by
 unfold fU at i;split at i
 ·cases i
  cases n with
  | func _ _ _ e h p q=>
    refine⟨_,_,e++b++h,rfl,?_,?_⟩
    ·simp only[Array.toList_append,Jx]
     exact p.append (o.append q)
    ·simp only[resolve,hc,m,j,Deferred.ofValue]
     rfl
 ·cases i
theorem Q6(Z:WR Δ h w) {j:String} {r:V} {X:Value} {args:List V} {n:Array Value} {ty:Nat} {c:Go.Call} {op:Operand} (hc:c.callee = .invoke op j) (ho:a.eval op=X) (K:c.args.map a.eval=n)
  (hr:fF Δ r X) (Y:gh Δ args n.toList) {x:R} (A:ND j r args h=some x) :
  ∃g l gz,x = .call g l/\gh Δ l gz.toList/\(do let d <-resolve a.eval c ty;invoke d.target d.args:Sem Next).run P0 w=(callFunc g gz).run P0 w:=by
 unfold ND at A;split at A
 ·rename_i t v
  cases hr with
  | iface _ _ q L=>
    have B:(do let d <-resolve a.eval c ty;invoke d.target d.args:Sem Next)=callMethod (.iface t q) j n:=by
      simp only[resolve,hc,ho,K];show invoke (.fn (.method j) #[]) (#[.iface t q]++n)=_;have D:(#[Value.iface t q]++n)[0]? =some (.iface t q):=by
        rw[Array.getElem?_append_left (by simp)];rfl
      have E:(#[Value.iface t q]++n).extract 1 (#[Value.iface t q]++n).size=n:=by
        apply Array.ext';simp
      simp only[invoke,D,E]
    have u:∀{f:Nat} {o:Option Nat},methodOf t j=some (f,o)->∃i m b,P0.info? t=some i/\i.methods.find? (λm=>m.name == j)=some m/\m.path = #[]/\m.func=some (f,b)/\
        ((∃e,P0.underlying t=some (.pointer e)/\((b=true/\o=none)\/(b=false/\o=some e)))\/(b=false/\o=none/\∃M,P0.underlying t=some M/\∀e,M≠ .pointer e)):=by
      intro f o s;unfold methodOf at s;rw[fh]at s;obtain⟨i,hi,s⟩:=s;split at s
      ·rename_i m hf
       refine⟨i,m,?_⟩;have aa:i.methods.find? (λm=>m.name == j)=some m:=by rw[<-Array.find?_toList];exact hf
       split at s
       ·simp_all
       ·simp_all
       ·simp_all
       ·cases s
      ·cases s
    obtain⟨fuel,F⟩:∃k,P0.types.size+Made.depth=k+1:=⟨P0.types.size+99,rfl⟩
    split at A
    ·rename_i f s
     cases A;obtain⟨i,m,b,D,E,N,O,P⟩:=u s;refine⟨f,_,#[q]++n,rfl,by simp only[Array.toList_append];exact .cons _ _ _ _ L Y,?_⟩;rw[B];have z:(receiverAt t (.val q) b (some ((j.splitOn ".").getLastD j))).run P0 w = .ok q w:=by
       rcases P with⟨e,G,⟨rfl,_⟩|⟨_,C⟩⟩|⟨rfl,_,M,G,ab⟩
       ·simp_all[receiverAt,fN,Place.get]
       ·cases C
       ·simp only[receiverAt,uZ,fN G,tN]
        rfl
     have Q:(method (P0.types.size+Made.depth) t q j).run P0 w = .ok (f,q) w:=by
       rw[F];simp only[method,uZ,typeInfo,run_program,tN,D,Jg,E,N,O,follow,z,Array.isEmpty,Array.size_empty,if_true,decide_true]
     grind[callMethod,uZ,run_program,tN]
    ·rename_i f e s
     rw[fh]at A;obtain⟨y,hy,A⟩:=A;cases A;obtain⟨i,m,b,D,E,N,O,P⟩:=u s;have S:P0.underlying t=some (.pointer e)/\b=false:=by
       rcases P with⟨e',G,⟨_,C⟩|⟨hb,C⟩⟩|⟨_,C,_⟩
       ·cases C
       ·simp_all
       ·cases C
     obtain ⟨G,rfl⟩:=S;obtain⟨J,T,U⟩:=Lt (t:= .tree .leaf []) (xv:=q) Z (by simp_all) hy;refine⟨f,_,#[J]++n,rfl,by simp only[Array.toList_append];exact .cons _ _ _ _ U Y,?_⟩;rw[B];have H:∃ad,q = .pointer (some ad):=by
       cases q with
       | pointer p=>cases p with
         |some ad=>simp_all
         |none=>simp_all[Instr.loadAt,Instr.sureAddr]
       |_=>simp_all[Instr.loadAt,Instr.sureAddr]
     obtain⟨ad,rfl⟩:=H;have W:(loadVar e ad).run P0 w = .ok J w:=by simpa[Instr.loadAt,Instr.sureAddr]using T
     have z:(receiverAt t (.val (.pointer (some ad))) false (some ((j.splitOn ".").getLastD j))).run P0 w = .ok J w:=by
       have I:∀s1 s2,(Builtin.ssaWrapNilChk_ #[t] t #[.pointer (some ad),strVal s1,strVal s2]).run P0 w = .ok (.pointer (some ad)) w:=λ_ _=>rfl;simp only[receiverAt,uZ,fN G,tN,Place.get,Jg,I,asAddr,W]
     have Q:(method (P0.types.size+Made.depth) t (.pointer (some ad)) j).run P0 w = .ok (f,J) w:=by
       rw[F];simp only[method,uZ,typeInfo,run_program,tN,D,Jg,E,N,O,follow,z,Array.isEmpty,Array.size_empty,if_true,decide_true]
     grind[callMethod,uZ,run_program,tN]
    ·cases A
 ·cases A
theorem Wb(j:WR Δ h w) (A:TR Δ n t a) {o:Oper} {r:R} (i:(jy o).f t h=some r) :
  (∃v h' J x w',r = .val v h'/\((execOp a.eval o).run P0 w = .ok (.value x) w'\/(x=undef/\(execOp a.eval o).run P0 w = .ok .skip w'))/\xD Δ h w v h' J x w')\/
  (∃g l gz,r = .call g l/\gh Δ l gz.toList/\(execOp a.eval o).run P0 w=(callFunc g gz).run P0 w):=by
 obtain⟨dst,op,E,pos,af,gd⟩:=o
 cases op with
 | store ty p x=>
   simp only[jy]at i;split at i
   ·rename_i size V
    simp only[fh,uG,gL]at i;obtain⟨pv,u,v,q,l,off,rfl,C,h',O,h5⟩:=i;cases h5;obtain⟨w',r1,r2,r3,K⟩:=Ty j V (ke j A u) (ke j A q) C O;exact .inl ⟨_,_,Δ,undef,w',rfl,.inr ⟨rfl,by simp_all[execOp]⟩,.undef Δ,r2,r3,K⟩
   ·cases i
 | mapUpdate ty m k x=>
   simp only[jy]at i;split at i
   ·rename_i W X F
    split at i
    ·rename_i d L
     simp only[fh]at i;obtain⟨P,u,kv,q,xv,C,O⟩:=i;obtain⟨h',w',rfl,r1,r2,r3,K⟩:=Sa j F L (ke j A u) (ke j A q) (ke j A C) O;exact .inl ⟨_,_,Δ,undef,w',rfl,.inr ⟨rfl,by simp_all[execOp]⟩,.undef Δ,r2,r3,K⟩
    ·cases i
   ·cases i
 | insert ty m k x=>
   simp only[jy]at i;split at i
   ·rename_i W X F
    split at i
    ·rename_i d L
     simp only[fh]at i;obtain⟨P,u,kv,q,xv,C,O⟩:=i;obtain⟨h',w',rfl,r1,r2,r3,K⟩:=Sa j F L (ke j A u) (ke j A q) (ke j A C) O;exact .inl ⟨_,_,Δ,undef,w',rfl,.inr ⟨rfl,by simp_all[execOp]⟩,.undef Δ,r2,r3,K⟩
    ·cases i
   ·cases i
 | range ty x=>
   simp only[jy]at i;split at i
   ·rename_i W X F
    simp only[fh]at i;obtain⟨P,u,q⟩:=i;obtain⟨v,h',J,y,w',rfl,r1,r2⟩:=Uy j F (ke j A u) q;exact .inl ⟨_,_,J,y,w',rfl,.inl (lM r1),r2⟩
   ·cases i
 | next x Y4=>
   cases Y4 with
   |true=>cases i
   | false=>
     simp only[jy,fh]at i;obtain⟨P,u,q⟩:=i;obtain⟨v,h',y,w',rfl,r1,r2⟩:=V7 (ty:=E) j (ke j A u) q
     exact .inl ⟨_,_,Δ,y,w',rfl,.inl (lM r1),r2⟩
 | entry x=>
   simp only[jy,fh]at i;obtain⟨P,u,q⟩:=i;obtain⟨v,y,rfl,r1,r2⟩:=TP j (ke j A u) q
   exact .inl ⟨_,_,Δ,y,w,rfl,.inl (lM r1),r2,j,.refl _ _,.refl _ _⟩
 | convert src Q x=>
   simp only[jy]at i;split at i
   ·rename_i e hs L
    split at i
    ·rename_i N V
     simp only[fh]at i;obtain⟨xv,u,q⟩:=i;have S:=ke j A u;split at q
     ·cases q
      generalize hy:a.eval x=y at S
      cases S with
      | str s=>
        obtain⟨J,z,w',r1,r2⟩:=Uk j hs L N s;refine .inl ⟨_,_,J,z,w',rfl,.inl (lM ?_),r2⟩
        simp_all
     ·cases q
    ·cases i
   ·rename_i e0 e hs L
    split at i
    ·rename_i N hb
     simp only[fh]at i;obtain⟨xv,u,q⟩:=i;have S:=ke j A u;generalize hy:a.eval x=y at S;obtain⟨v',h',w',r1,r3,r2⟩:=WH j S (src:=src) (dst:=Q) (e0:=e0) (e:=e) hs L N (zR hb) q;refine .inl ⟨v',h',Δ,y,w',r1,.inl (lM ?_),r2⟩
     simp_all
    ·cases i
   ·cases i
 | call c =>
   obtain⟨Y,args,G⟩:=c
   cases Y with
   | builtin b=>
     simp only[jy]at i
     cases b with
     | append=>
       simp only at i;split at i
       ·rename_i s x sT xT B D
        have T:args = #[s,x]:=by apply Array.ext';exact B
        have H:G = #[sT,xT]:=by apply Array.ext';exact D
        subst T;subst H;split at i
        ·rename_i M e' hs F
         have I:=yE hs;split at i
         ·rename_i size kE z N
          simp only[fh]at i;obtain⟨sv,u,xv,q,C⟩:=i;obtain⟨v,h',J,y,w',rfl,r1,r2⟩:=Lg (ty:=E) (xT:=xT) j I F (by simp_all) N (ke j A u) (ke j A q) C;refine .inl ⟨_,_,J,y,w',rfl,.inl ?_,r2⟩;simp only[execOp,resolve,List.map_toArray];exact lM r1
         ·cases i
        ·rename_i M hs F
         have I:=yE hs;split at i
         ·rename_i size kE z N
          simp only[fh]at i;obtain⟨sv,u,xv,q,C⟩:=i;obtain⟨v,h',J,y,w',rfl,r1,r2⟩:=Lg (ty:=E) (xT:=xT) j I F (by simp_all) N (ke j A u) (ke j A q) C;refine .inl ⟨_,_,J,y,w',rfl,.inl ?_,r2⟩;simp only[execOp,resolve,List.map_toArray];exact lM r1
         ·cases i
        ·cases i
       ·cases i
     | copy =>
       simp only at i;split at i
       ·rename_i d s dT U B D
        have T:args = #[d,s]:=by apply Array.ext';exact B
        have H:G[0]? =some dT:=by rw[<-X2,D];rfl
        subst T;split at i
        ·rename_i M hs
         have I:=yE hs;split at i
         ·rename_i size V
          simp only[fh]at i;obtain⟨dv,u,sv,q,C⟩:=i;obtain⟨h',m,w',rfl,r1,r2,r3,K⟩:=V8 (rt:=E) j H I V (ke j A u) (ke j A q) C;refine .inl ⟨_,_,Δ,_,w',rfl,.inl ?_,.int _ _,r2,r3,K⟩;simp only[execOp,resolve,List.map_toArray];exact lM r1
         ·cases i
        ·cases i
       ·cases i
     | delete=>
       simp only at i;split at i
       ·rename_i m k mT U B D
        have T:args = #[m,k]:=by apply Array.ext';exact B
        have H:G[0]? =some mT:=by rw[<-X2,D];rfl
        subst T;split at i
        ·rename_i W X F
         split at i
         ·rename_i d L
          simp only[fh]at i;obtain⟨P,u,kv,q,C⟩:=i;obtain⟨h',w',rfl,r1,r2,r3,K⟩:=QR (rt:=E) j H F L (ke j A u) (ke j A q) C;refine .inl ⟨_,_,Δ,_,w',rfl,.inl ?_,.tuple _ #[] .nil,r2,r3,K⟩;simp only[execOp,resolve,List.map_toArray];exact lM r1
         ·cases i
        ·cases i
       ·cases i
     |_=>cases i
   | value f=>
     simp only[jy,fh]at i;obtain⟨fv,u,l,q,C⟩:=i;obtain⟨g,l,gz,rfl,r1,r2⟩:=W4 (a:=a) (c:=⟨.value f,args,G⟩) (ty:=E) (args:=l) rfl rfl rfl (ke j A u) (by simpa using zL A q) C;refine .inr ⟨g,l,gz,rfl,r1,?_⟩
     grind[execOp]
   | invoke Z m=>
     simp only[jy,fh]at i;obtain⟨fv,u,l,q,C⟩:=i;obtain⟨g,l,gz,rfl,r1,r2⟩:=Q6 (a:=a) (c:=⟨.invoke Z m,args,G⟩) (ty:=E) j (args:=l) rfl rfl rfl (ke j A u) (by simpa using zL A q) C
     exact .inr ⟨g,l,gz,rfl,r1,r2⟩
 |_=>cases i
end
