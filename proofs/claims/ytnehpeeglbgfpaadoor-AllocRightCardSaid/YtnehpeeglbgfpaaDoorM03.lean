/- Parts. -/
import Derived.Test.YtnehpeeglbgfpaaDoorM02
import Derived.Laws.AppendOwn
import Derived.Laws.NewFold
import Derived.Laws.IdiomStrings
set_option maxHeartbeats 4000000
namespace Go.Proofs.YtnehpeeglbgfpaaDoor.Hx
structure Gr (h:Hp) (Δ:Env) (h':Hp) (a:Env):Prop where
 next:h.next<=h'.next
 none:∀l,Δ l = .none->l<h.next->a l = .none
theorem Gr.refl(h:Hp)(Δ:Env):Gr h Δ h Δ:=⟨jn _,by simp_all⟩
theorem Gr.trans{h h' c:Hp} {Δ e d:Env} (a:Gr h Δ h' e) (b:Gr h' e c d):Gr h Δ c d:=
 ⟨GP a.next b.next,λl g f=>b.none l (a.none l g f) (zr f a.next)⟩
theorem Gr.same{h h':Hp}{Δ:Env}(a:h.next<=h'.next):Gr h Δ h' Δ:=⟨a,by simp_all⟩
theorem Gr.set{h h':Hp} {Δ:Env} {d:D} (a:h.next<=h'.next):Gr h Δ h' (Δ.set h.next d):=
 ⟨a,by simp_all[Env.set,if_neg,Li]⟩
theorem WR.alloc{Δ:Env} {h:Hp} {w:World} (a:WR Δ h w) {ob:O} {mk:Nat->V} {c:Obj} {e:Nat->Value} (g:Made Δ ob mk c e) :
  ∃b,WR b (h.new ob) (w.alloc c)/\fq b (mk h.next) (e w.heap.size)/\FR Δ b w (w.alloc c)/\Gr h Δ (h.new ob) b:=by
 obtain⟨d,f,i,j⟩:=g h.next w.heap.size a.BP;exact⟨Δ.set h.next d,(a.more ob).lay a.BP (K8 _) (by rw[rE,if_pos rfl]) f i,j,FR.lay a.BP f,Gr.set (La _)⟩
theorem rA(g o e:Nat) (fr:Nat×Nat):∀(vs:List Value) (i:Nat) (cur:Array Value) (w:World),w.heap[g]? =some (.cells cur e fr)->(∀j,j<cur.size->¬(fr.1<=j/\j<fr.2))->
  o+i+vs.length<=cur.size->(∀v∈vs,v.oneCell' = true)->
  (storeCells ⟨g,o,none⟩ vs i).run P0 w = .ok () (w.setRow g (cur.toList.take (o+i)++vs++cur.toList.drop (o+i+vs.length)).toArray)
 | [],i,cur,w,hg,_,_,_=>by
   simp only[storeCells,IN,Wc,SH,Vh,Array.toArray_toList];rw[setRow_self w g cur e fr hg]
   rfl
 | v ::rest,i,cur,w,hg,hf,hl,f=>by
   have hi:o+i<cur.size:=by simp at hl;omega
   have a:w.cell? ⟨g,o+i,none⟩=some cur[o+i]:=by simp[World.cell?,hg,hi]
   have b:w.frozen? ⟨g,o+i,none⟩=false:=by
     have:=hf (o+i) hi;simp only[World.frozen?,hg];simpa using this
   have c:(store ((⟨g,o,none⟩:Addr).add i) v).run P0 w = .ok () (w.setRow g (cur.setIfInBounds (o+i) v)):=by
     rw[p7,run_store P0 w _ v _ (by simp_all),a];simp[b,setCell_eq_setRow w g (o+i) cur e fr v hg]
   have d:=rA g o e fr rest (i+1) (cur.setIfInBounds (o+i) v) (w.setRow g (cur.setIfInBounds (o+i) v)) (by grind[setRow_heap]) (by simp_all) (by grind) (by simp_all);simp only[storeCells,qu,c,pJ,d,setRow_setRow];congr 3;have e:=list_seg_step cur.toList (o+i) v rest (by simp at hl⊢;omega)
   grind
theorem Ou(l vs:List Value) (k:Nat) (a:k+vs.length<=l.length) (j:Nat) :
  (l.take k++vs++l.drop (k+vs.length))[j]? =if k<=j/\j<k+vs.length then vs[j-k]? else l[j]?:=by
 rw[MQ,List.getElem?_append,MI,Nat.min_eq_left (by omega)]
 grind
theorem WR.set{Δ:Env} {h:Hp} {w w':World} (j:WR Δ h w) {l:Nat} {d:D} {o y:O} (A:Δ l=some d) (q:h.get l=some o) (r:o.live=true) (v:d.ro=false)
  (f:y.live=true->o.live=true) (H:Mw Δ d y w'.heap[d.b]?) (B:w'.heap.size=w.heap.size) (I:∀b,b≠d.b->w'.heap[b]? =w.heap[b]?):WR Δ (h.put l y) w' where
 fresh:=j.fresh
 wh:=λm e n=>by rw[B];exact j.wh m e n
 obj:=λm e n=>by
  by_cases he:l=m
  ·subst he;rw[A]at n;cases n;exact⟨y,by rw[jd _ _ (Hp.wj q),if_pos rfl],H⟩
  ·obtain ⟨p,s,z⟩:=j.obj m e n;refine⟨p,by simp_all[jd,Hp.wj,if_neg],?_⟩;by_cases hb:e.b=d.b
   ·have a:p.live=false:=by
     cases i:p.live with
     |false=>rfl
     |true=>exact absurd hb.symm (j.apart l m d e o p A n he q s r i (.inl v))
    cases p with
    | cells e' sz live ro cs=>
      obtain⟨J,K,L,M,_⟩:=z
      exact⟨J,K,L,M,λF=>by simp only[O.live]at a;rw[a]at F;cases F⟩
    |_=>cases a
   simp_all
 apart:=λm C e e' p G n t pe i c u k E=>by
  rw[jd _ _ (Hp.wj q)]at i c;by_cases s:l=m
  ·subst s;rw[if_pos rfl]at i;cases i;rw[if_neg pe]at c;exact j.apart l C e e' o G n t pe q c (f u) k E
  ·rw[if_neg s]at i;by_cases z:l=C
   ·subst z;rw[if_pos rfl]at c;cases c;exact j.apart m l e e' p o n t pe i q u (f k) E
   ·rw[if_neg z]at c;exact j.apart m C e e' p G n t pe i c u k E
 Cg:=λg p x i=>by
  rw[jd _ _ (Hp.wj q)]at i;by_cases s:l=g
  ·subst s;exact j.Cg l o x q
  ·rw[if_neg s]at i;exact j.Cg g p x i
 ur:=j.ur
 MU:=j.MU.step (λb _ N=>I b λe=>N ⟨l,d,A,v,e.symm⟩) (by simp_all)
theorem FR.set{Δ:Env} {w w':World} {l:Nat} {d:D} (f:Δ l=some d) (a:d.ro=false) (c:w'.heap.size=w.heap.size) (g:∀b,b≠d.b->w'.heap[b]? =w.heap[b]?)
  (h:w'.os=w.os) (i:w'.tape=w.tape) (j:w'.output=w.output):FR Δ Δ w w':=
 ⟨Env.le_refl _,VU c.symm,h,i,j,λb _ k=>g b λe=>k ⟨l,d,f,a,e.symm⟩,by simp_all⟩
theorem WR.kill{Δ:Env} {h:Hp} {w:World} (f:WR Δ h w) {l e sz:Nat} {cs:List V} (g:h.get l=some (.cells e sz true false cs)) {d:D} (i:Δ l=some d) :
  WR Δ (h.put l (.cells e sz false false cs)) w/\(∀m a p,m≠l->Δ m=some a->h.get m=some p->p.live=true->a.b≠d.b)/\d.ro=false:=by
 obtain⟨o,k,n⟩:=f.obj l d i;rw[g]at k;cases k;obtain⟨q,r,s,c,v⟩:=n;refine⟨f.set i g rfl c (λh=>(nomatch h)) ⟨q,r,s,c,λh=>(nomatch h)⟩ rfl (by simp_all),λm a p pe t u j=>?_,c⟩;exact f.apart m l a d p _ t i pe u g j rfl (.inr c)
section
variable{Δ:Env}{h:Hp}{w:World}{n:Nat}{t:Tm}{a:Act}
theorem G9(t:WR Δ h w) {l:Nat} {d:D} (n:Δ l=some d) {off:Nat} {new:List V} {Nn:List Value} (p:fV Δ new Nn) {h':Hp} (a:AN h l off new=some h') :
  ∃w',(storeCells ⟨d.b,d.base+off,none⟩ Nn 0).run P0 w = .ok () w'/\WR Δ h' w'/\FR Δ Δ w w':=by
 unfold AN at a;rw[jX]at a;obtain⟨e,sz,live,ro,cs,u,a⟩:=a;simp only[fX,eE]at a;obtain⟨rfl,q,g,mG,B,a⟩:=a;cases a;have j:ro=false:=by simpa using q
 subst j;obtain⟨C,y,r⟩:=FV B;obtain⟨o,z,E⟩:=t.obj l d n;rw[u]at z;cases z;obtain⟨F,G,L,s,H⟩:=E;obtain⟨c,e',fr,A,M,I,N,O⟩:=H rfl;have J:=p.length;have k:d.base+off+Nn.length<=c.size:=by omega
 have f:=rA d.b (d.base+off) e' fr Nn 0 c w A (by grind) (by omega) (p.VP g);simp only[SH]at f;refine⟨_,f,t.set n u rfl s (λh=>h) ⟨F,G,by omega,s,λ_=>?_⟩ (by simp) (by grind[setRow_other]),FR.set n s (by simp) (by grind[setRow_other]) rfl rfl rfl⟩;refine⟨_,e',fr,setRow_heap w d.b c _ e' fr A,?_,I,by omega,λi v hi=>?_⟩
 ·grind
 ·rw [r i]at hi;have m:=Ou c.toList Nn (d.base+off) (by simpa using k) (d.base+i);rw[WM,m];by_cases hin:off<=i/\i<off+new.length
  ·rw[if_pos hin]at hi;rw[if_pos (by omega)];obtain⟨x,P,K⟩:=p.get _ _ hi
   grind
  grind
end
structure tc (Δ:Env) (h:Hp) (w:World) (v:V) (h':Hp) (a:Env) (x:Value) (w':World):Prop where
 val:fq a v x
 world:WR a h' w'
 frame:FR Δ a w w'
 grow:Gr h Δ h' a
theorem WR.heap{Δ:Env} {h:Hp} {w w':World} (a:WR Δ h w) (b:w'.heap=w.heap):WR Δ h w':=
 ⟨a.fresh,λl d e=>by rw[b];exact a.wh l d e,λl d e=>by rw[b];exact a.obj l d e,a.apart,a.Cg,a.ur,λg c f=>by rw[b];exact a.MU g c f⟩
theorem WR.RB{Δ:Env} {h:Hp} {w:World} (c:WR Δ h w) {l:Nat} {o:O} {d:D} (u:Δ l=none) (y:l<h.next) (G:h.get l=some o) (z:d.b<w.heap.size)
  (H:Mw (Δ.set l d) d o w.heap[d.b]?) (A:∀m v p,Δ m=some v->h.get m=some p->p.live=true->v.b≠d.b) (B:RW Δ d.b):WR (Δ.set l d) h w where
 fresh:=λm e a=>by
  rcases Env.kr a with⟨rfl,rfl⟩|⟨_,a⟩
  ·exact y
  ·exact c.fresh m e a
 wh:=λm e a=>by
  rcases Env.kr a with⟨rfl,rfl⟩|⟨_,a⟩
  ·exact z
  ·exact c.wh m e a
 obj:=λm e a=>by
  rcases Env.kr a with⟨rfl,rfl⟩|⟨_,a⟩
  ·simp_all
  ·obtain⟨C,f,j⟩:=c.obj m e a;exact⟨C,f,j.mono (Env.uV u)⟩
 apart:=λm E e e' p F a k pe n q r i s=>by
  rcases Env.kr a with⟨f,j⟩|⟨_,f⟩ <;> rcases Env.kr k with⟨x,I⟩|⟨_,x⟩
  ·omega
  ·grind
  ·grind
  ·exact c.apart m E e e' p F f x pe n q r i s
 Cg:=λg p t n=>by
  obtain⟨e,f,j⟩:=c.Cg g p t n;exact⟨e,Env.uV u _ _ f,j⟩
 ur:=c.ur
 MU:=c.MU.step (by simp_all) λm e a _=>by
  rcases Env.kr a with⟨rfl,rfl⟩|⟨_,a⟩
  ·simp_all
  simp_all
theorem FR.RB{Δ:Env} {w w':World} {l:Nat} {d:D} (c:Δ l=none) (h:FR Δ Δ w w') (f:RW Δ d.b):FR Δ (Δ.set l d) w w' where
 le:=Env.uV c
 size:=h.size
 os:=h.os
 tape:=h.tape
 output:=h.output
 eD:=h.eD
 new:=λm e a=>by
  rcases Env.kr a with⟨rfl,rfl⟩|⟨_,a⟩
  ·simp_all
  simp_all
theorem FR.drew{Δ a:Env}{w w':World}(h:FR Δ a w.drew w'):FR Δ a w w':=⟨h.le,h.size,h.os,h.tape,h.output,h.eD,h.new⟩
section
variable{Δ:Env}{h:Hp}{w:World}{n:Nat}{t:Tm}{a:Act}
theorem JN(Δ:Env) (s:ByteArray):fV Δ (we s.data.toList) (s.data.toList.map λb=>Value.int .u8 b.toNat):=by
 generalize s.data.toList=l
 induction l with
 |nil=>exact .nil
 |cons b l a=>exact .cons _ _ _ _ (.int .u8 _) a
theorem JG(j:WR Δ h w) {size:Nat} {x:V} {xv:Value} {m:Nat} {cs:List V} (c:fq Δ x xv) (b:kJ h size x=some (m,cs)) :
  ∃a,fV Δ cs a/\(∀w',(Builtin.lenOf xv).run P0 w' = .ok m w')/\(Builtin.firstCells size m xv).run P0 w = .ok (Array.mk a) w/\a.length=m*size:=by
 unfold kJ at b;split at b
 ·cases b;cases c;exact⟨[],.nil,λ_=>rfl,rfl,by simp⟩
 ·cases b;cases c;exact⟨[],.nil,λ_=>rfl,by simp[Builtin.firstCells,loadCells,loadCellsFrom],by simp⟩
 ·rename_i l off k;rw[eE]at b;obtain⟨mG,e,f⟩:=b;cases f
  cases c with
  | slice _ _ _ cap o d hd r n p=>
    rcases p with⟨rfl,_,_⟩|⟨rfl,_⟩
    ·obtain⟨xs,t,i⟩:=qW j hd e
     exact⟨xs,i,λ_=>rfl,by grind[Builtin.firstCells],by rw[<-i.length,L0 e];rfl⟩
    omega
 ·rename_i s;rw[fX]at b;obtain⟨e,f⟩:=b;cases f;have g:size=1:=uW e;subst g
  cases c with
  | str s=>
    refine ⟨_,JN Δ s,by simp_all[Builtin.lenOf],?_,by simp⟩;have q:s.extract 0 s.size=s:=by
      rw[ByteArray.ext_iff];simp
    simp only[Builtin.firstCells];have:s.data.toList.length=s.size:=by simp
    rw[this,q];simp only[EN];congr 1
    grind
 ·cases b
theorem oE{n xT ty e:Nat} {j:TypeDesc} (o:P0.underlying n=some (.slice e)) (p:P0.underlying xT=some j) (hi:∀k,j≠ .int k) {size:Nat} (q:uR e=some size)
  {base:Option Addr} {a c m:Nat} {x:Value} (hlen:(Builtin.lenOf x).run P0 w = .ok m w) {f:List Value} (g:(Builtin.firstCells size m x).run P0 w = .ok (Array.mk f) w)
  (d:a+m<=c) {w':World} (l:∀b,base=some b->(storeCells (b.add (a*size)) f 0).run P0 w = .ok () w') (r:base=none->w' = w) :
  (Builtin.append_ #[n,xT] ty #[.slice base a c,x]).run P0 w = .ok (.slice base (a+m) c) w':=by
 have h:=rT (w:=w) q;have i:(match (generalizing:=false) j with| .int _=>true|_=>false)=false:=by cases j <;> first|rfl|simp_all
 cases base with
 | none=>
   cases r rfl
   simp[Builtin.append_,fE o,fE p,h,i,hlen,d,g]
 |some b=>simp[Builtin.append_,fE o,fE p,h,i,hlen,d,g,l b rfl]
theorem E9{A xT ty c:Nat} {q:TypeDesc} (E:P0.underlying A=some (.slice c)) (F:P0.underlying xT=some q) (hi:∀k,q≠ .int k) {size lV:Nat} {z:V}
  (G:elemOf c=some (size,lV,z)) {base:Option Addr} {a b m:Nat} {x:Value} (hlen:(Builtin.lenOf x).run P0 w = .ok m w) {d e:List Value}
  (f:(Builtin.firstCells size a (.slice base a b)).run P0 w.drew = .ok (Array.mk d) w.drew)
  (g:(Builtin.firstCells size m x).run P0 w.drew = .ok (Array.mk e) w.drew) (H:¬a+m<=b) (O:(a+m)*lV<=70368744177664) (P:a+m<=70368744177664) :
  ∃B,B.size=size/\(Builtin.append_ #[A,xT] ty #[.slice base a b,x]).run P0 w = .ok (.slice (some ⟨w.heap.size,0,none⟩) (a+m) (grownCap w (a+m) b c))
   (w.drew.alloc (.cells (Array.mk d++Array.mk e++Builtin.zeroCells B (grownCap w (a+m) b c-(a+m))) c)):=by
 obtain⟨r,h,s,C,I,_⟩:=BY G;obtain⟨J,K,l,i,j,t⟩:=wC s;have u:(match (generalizing:=false) q with| .int _=>true|_=>false)=false:=by cases q <;> first|rfl|simp_all
 have L:i.bytes=lV:=by
  unfold T4 at h;rw[eE]at h;obtain⟨M,n,v⟩:=h;rw[j]at n;cases n;simpa using v
 have y:i.size=size:=by
  obtain⟨M,n,v⟩:=zx r;rw[j]at n;cases n;exact v
 have D:Builtin.nextslicecap (a+m) b*i.bytes<=281474976710656:=growslice_fits (by omega) (by grind);have o:¬(281474976710656<Builtin.nextslicecap (a+m) b*i.bytes):=by omega
 have p:¬(9223372036854775807<((a:Int)+(m:Int))):=by omega
 have N:=(l λ_=>none).cells.length;refine⟨J.cells,by simp_all,?_⟩;rw[<-y]at f g;have hq:(Question.appendCap (a+m) b c).forced=false:=rfl;simp[Builtin.append_,fE E,fE F,sizeOf,typeInfo,zeroValue,j,t,u,hlen,H,p,o,hq,f,g,newRow,grownCap]
 grind
theorem Hg(E : WR Δ h w) {sT xT ty f:Nat} {dx:TypeDesc} (hs:P0.underlying sT=some (.slice f)) (hx:P0.underlying xT=some dx) (hi:∀k,dx≠ .int k) {size lV:Nat} {z:V}
    (hz:elemOf f=some (size,lV,z)) {s x:V} {sv xv:Value} (M:fq Δ s sv) (aj:fq Δ x xv) {r:R} (hv:fh f size lV s x h=some r) :
    ∃v h' N y w',r = .val v h'/\(Builtin.append_ #[sT,xT] ty #[sv,xv]).run P0 w = .ok y w'/\tc Δ h w v h' N y w':=by
  obtain⟨O,aV,aW,S,aX,_⟩:=BY hz;unfold fh at hv;rw[eE]at hv;obtain⟨⟨m,cs⟩,h1,q⟩:=hv;obtain⟨n,n1,n2,n3,n4⟩:=JG E aj h1;have ay:WR Δ h w.drew:=E.heap rfl;obtain⟨H,d1,d2,d3,d4⟩:=JG ay aj h1;have ak:cs.length=m*size:=by rw[n1.length,n4]
  cases hm:Nat.beq m 0 with
  | true=>
    have Y:m=0:=uW hm;subst Y;simp only[hm]at q;have az:n=[]:=Wm (by simpa using n4);subst az;split at q
    ·cases q;cases M
     exact⟨_,_,Δ,_,w,rfl,oE hs hx hi O (n2 w) n3 (jn _) (λb G=>by cases G) (λ_=>rfl),.ed,E,.refl _ _,.refl _ _⟩
    ·cases q
     cases M with
     | slice l off len cap o d hd hk I ho=>
       exact⟨_,_,Δ,_,w,rfl,oE hs hx hi O (n2 w) n3 I (λb G=>rfl) (λ_=>rfl),.slice _ _ _ cap o d hd hk I ho,E,.refl _ _,.refl _ _⟩
    ·cases q
  | false =>
    have Y:0<m:=Nat.pos_of_ne_zero λe=>by rw[e]at hm;cases hm
    simp only[hm,fX]at q;obtain⟨T,q⟩:=q
    have fresh:∀(base:Option Addr) (a t:Nat) (g:List Value) (sP:List V) (h0:Hp),sv = .slice base a t->fV Δ sP g->g.length=a*size->
        (Builtin.firstCells size a (.slice base a t)).run P0 w.drew = .ok (Array.mk g) w.drew->¬a+m<=t->(a+m)*lV<=70368744177664->a+m<=70368744177664->
        WR Δ h0 w->h0.next=h.next->
        ∃N y w',(Builtin.append_ #[sT,xT] ty #[sv,xv]).run P0 w = .ok y w'/\tc Δ h w (.slice h.next 0 (a+m)) (h0.new (.cells f size true false (sP++cs))) N y w':=by
      intro base a t g sP h0 al U J A Z G aA aB EG;obtain⟨zc,aC,hr⟩:=E9 (ty:=ty) hs hx hi hz (n2 w) A d3 Z G aA;have K:=grownCap_ge w (a+m) t f;generalize grownCap w (a+m) t f=nc at hr K
      have aa:Made Δ (.cells f size true false (sP++cs)) (λl=> .slice l 0 (a+m)) (.cells (Array.mk g++Array.mk H++Builtin.zeroCells zc (nc-(a+m))) f)
          (λb=> .slice (some ⟨b,0,none⟩) (a+m) nc):=by
        intro l b hn;have I:=Env.uV (d:=⟨b,0,size,(sP++cs).length,nc*size,false,0⟩) hn;have am:=U.append d1;have hlen:(sP++cs).length=(a+m)*size:=by rw[Ja,U.length,J,ak,Qd]
        have aR:(a+m)*size<=nc*size:=Yc _ K;refine⟨⟨b,0,size,(sP++cs).length,nc*size,false,0⟩,rfl,⟨rfl,rfl,rfl,rfl,λ_=>?_⟩,?_⟩
        ·refine xV ?_ rfl (by show(sP++cs).length<=nc*size;omega) λi u B=>?_
         ·show(Array.mk g++Array.mk H++Builtin.zeroCells zc (nc-(a+m))).size=nc*size
          simp only[Array.size_append,List.size_toArray,size_zeroCells,aC,J,d4];rw[<-Qd,<-Qd];congr 1;omega
         ·obtain⟨y,hy,aD⟩:=am.get i u B
          refine⟨y,?_,aD.mono I⟩
          grind
        ·refine fq.slice l 0 (a+m) nc 0 _ (Env.rS _ _ _) rfl K (.inl ⟨rfl,?_,?_⟩)
         ·simp_all
         ·show 0+0+nc*size<=nc*size;omega
      obtain⟨N,a1,a2,a3,P⟩:=(aB.heap (w':=w.drew) rfl).alloc aa;have aE:Gr h Δ (h0.new (.cells f size true false (sP++cs))) N:=⟨by rw[<-EG];exact P.next,λl hl F=>P.none l hl (by rw[EG];exact F)⟩
      rw[EG]at a2;exact⟨N,_,_,al▸hr,a2,a1,a3.drew,aE⟩
    split at q
    ·simp only[fX]at q
     obtain⟨h3,h4,h5⟩:=q;cases h5;cases M;have Q:m*lV<=70368744177664:=FY h3;have ab:m<=70368744177664:=FY h4;obtain⟨N,y,w',b1,b2⟩:=fresh none 0 0 [] [] h rfl .nil (by simp) rfl (by omega) (by simpa using Q) (by simpa using ab) E rfl
     grind
    ·rename_i l off len
     rw[jX]at q;obtain⟨e,sz,live,ro,all,Z,q⟩:=q;simp only[fX]at q;obtain⟨rfl,aF,an,q⟩:=q;have ac:sz=size:=uW an;subst ac;have ao:ro=false:=by simpa using aF
     subst ao
     cases M with
     | slice _ _ _ cap o d hd hk I ho=>
       obtain⟨ob,aq,hr⟩:=E.obj l d hd;rw[Z]at aq;cases aq;obtain⟨a1,a2,a3,P,a5⟩:=hr;obtain⟨c,e',fr,b1,b2,b3,b5,b4⟩:=a5 rfl;rw[a2]at ho;have ar:(len+m)*sz=len*sz+m*sz:=Qd _ _ _;have aY:0<m*sz:=Nat.mul_pos Y S
       cases hin:Nat.ble (Nat.add off (Nat.mul (Nat.add len m) sz)) all.length with
       | true =>
         simp only[hin,eE]at q;obtain⟨mG,h3,h4⟩:=q;cases h4;have aS:off+(len+m)*sz<=all.length:=FY hin;rcases ho with⟨rfl,L,au⟩|⟨rfl,L⟩
         ·have j:len+m<=cap:=by
            rcases Ji cap (len+m)with F|K
            ·exfalso
             have:cap*sz<(len+m)*sz:=Nat.mul_lt_mul_of_pos_right F S;omega
            ·exact K
          have aG:AN h l (off+len*sz) cs=some (h.put l (.cells e sz true false mG)):=by
            unfold AN;rw[jX];refine⟨e,sz,true,false,all,Z,?_⟩;simp only[fX,eE];exact⟨trivial,rfl,T,mG,h3,rfl⟩
          obtain⟨w',c1,c2,c3⟩:=G9 E hd n1 aG;refine⟨_,_,Δ,_,w',rfl,oE hs hx hi O (n2 w) n3 j (λb G=>?_) (λG=>by cases G),?_,c2,c3,.same (jn _)⟩
          ·cases G
           rw[p7,Nat.add_assoc];exact c1
          ·exact .slice l off (len+m) cap _ d hd hk j (by simp_all)
         ·exfalso;omega
       | false =>
         simp only[hin,eE,fX]at q;obtain⟨sP,h3,aH,h4,h5,h6⟩:=q;cases h6;have ab:(len+m)*lV<=70368744177664:=FY h4;have aI:len+m<=70368744177664:=FY h5;have Q:sub all off (len*sz)=some sP:=h3;obtain⟨ae,aJ⟩:=sub_eq Q;obtain⟨aK,aZ,_⟩:=E.kill Z hd;have a0:Cs h l off (len*sz)=some sP:=by
           unfold Cs;rw[jX];exact⟨e,sz,true,false,all,Z,by rw[fX];exact⟨rfl,Q⟩⟩
         by_cases j:len+m<=cap
         ·rcases ho with⟨rfl,L,au⟩|⟨rfl,L⟩
          ·have aT : (len+m)*sz<=cap*sz:=Yc _ j
           have W:d.base+off+len*sz+n.length<=c.size:=by rw[n4];omega
           have A:=rA d.b (d.base+off+len*sz) e' fr n 0 c w b1 (by grind) (by simpa using W) (n1.VP T);simp only[SH]at A;have ag:d.base+off+len*sz+n.length<=c.toList.length:=by simpa using W
           generalize hw':w.setRow d.b (c.toList.take (d.base+off+len*sz)++n++c.toList.drop (d.base+off+len*sz+n.length)).toArray=w' at A;have C:w'.heap.size=w.heap.size:=by rw[<-hw'];simp
           have D:∀b,b≠d.b->w'.heap[b]? =w.heap[b]?:=by grind[setRow_other]
           have aw:w'.heap[d.b]? =some (.cells (c.toList.take (d.base+off+len*sz)++n++c.toList.drop (d.base+off+len*sz+n.length)).toArray e' fr):=by
             rw[<-hw'];exact setRow_heap w d.b c _ e' fr b1
           have ax:WR Δ (h.put l (.cells e sz false false all)) w':=E.set hd Z rfl P (λh=>(nomatch h)) ⟨a1,a2,a3,P,λh=>(nomatch h)⟩ C D;have aL:FR Δ Δ w w':=FR.set hd P C D (by rw[<-hw'];rfl) (by rw[<-hw'];rfl) (by rw[<-hw'];rfl);have hn:=E.BP;have a6:(sP++cs).length=(len+m)*sz:=by rw[Ja,ae,ak,ar]
           have X:=Env.uV (d:=⟨d.b,d.base+off,sz,(sP++cs).length,d.Pb,false,0⟩) hn
           refine ⟨_,_,Δ.set h.next ⟨d.b,d.base+off,sz,(sP++cs).length,d.Pb,false,0⟩,_,w',rfl,
             oE hs hx hi O (n2 w) n3 j (λb G=>?_) (λG=>by cases G),?_,?_,aL.RB hn ⟨l,d,hd,P,rfl⟩,Gr.set (La _)⟩
           ·cases G
            rw[p7];exact A
           ·refine .slice h.next 0 (len+m) cap (d.base+off) ⟨d.b,d.base+off,sz,(sP++cs).length,d.Pb,false,0⟩ (Env.rS _ _ _) rfl j (.inl ⟨rfl,?_,?_⟩)
            ·simp_all
            omega
           ·refine (ax.more (.cells f sz true false (sP++cs))).RB (o:= .cells f sz true false (sP++cs)) (d:=⟨d.b,d.base+off,sz,(sP++cs).length,d.Pb,false,0⟩) hn (K8 _) (by rw[rE];exact if_pos rfl) (by rw[C];exact E.wh l d hd) ⟨rfl,rfl,rfl,rfl,λ_=>?_⟩ (λm' d' p aM hp aN=>?_) ⟨l,d,hd,P,rfl⟩
            ·refine ⟨_,e',fr,aw,?_,λ_=>b3 P,?_,λi v B=>?_⟩
             ·grind
             ·grind
             ·show ∃x,(List.toArray _)[d.base+off+i]? =some x/\_
              rw[WM,Ou c.toList n _ ag];rw[List.getElem?_append]at B;by_cases F:i<sP.length
              ·rw[if_pos F,aJ i (by omega)]at B
               obtain⟨x,ah,ai⟩:=b4 _ _ B;rw[if_neg (by omega)];exact⟨x,by rw[SI,Nat.add_assoc];exact ah,ai.mono X⟩
              ·rw[if_neg F]at B
               obtain⟨x,ah,ai⟩:=n1.get _ _ B;have aU:=(jw.1 B).1;rw[if_pos (by omega)];refine⟨x,?_,ai.mono X⟩;rw[<-ah];congr 1;omega
            ·have pe:h.next≠m':=Nat.ne_of_gt (E.fresh _ _ aM)
             rw[rE]at hp;rw[if_neg (by exact pe)]at hp;rw[jd _ _ (E.fresh _ _ hd)]at hp;by_cases he:l=m'
             ·subst he
              rw[if_pos rfl]at hp;cases hp;cases aN
             grind
          ·exfalso;omega
         ·have aO:∃g,fV Δ sP g/\(Builtin.firstCells sz len (.slice (some ⟨d.b,o,none⟩) len cap)).run P0 w.drew = .ok (Array.mk g) w.drew:=by
            rcases ho with⟨rfl,L,au⟩|⟨rfl,L⟩
            ·grind[qW,Builtin.firstCells]
            ·have aP:len=0:=by omega
             subst aP;have aQ:sP=[]:=Wm (by rw[ae];simp);subst aQ;exact⟨[],.nil,by simp[Builtin.firstCells,loadCells,loadCellsFrom]⟩
          obtain⟨g,c1,c2⟩:=aO;obtain⟨N,y,w',e1,e2⟩:=fresh _ len cap g sP (h.put l (.cells e sz false false all)) rfl c1 (by rw[<-c1.length,ae]) c2 j ab aI aK rfl;exact⟨_,_,N,y,w',rfl,e1,e2⟩
    ·cases q
end
section
variable{Δ:Env}{h:Hp}{w:World}{n:Nat}{t:Tm}{a:Act}
theorem PN(g:WR Δ h w) {ty size:Nat} (n:uR ty=some size) {l off:Nat} {v:V} {pv xv:Value} (i:fq Δ (.ptr l off) pv) (j:fq Δ v xv)
  (hlen:Nat.beq v.cells.length size=true) {h':Hp} (a:AN h l off v.cells=some h') :
  ∃w',(Instr.storeAt ty pv xv).run P0 w = .ok () w'/\WR Δ h' w'/\FR Δ Δ w w'/\Gr h Δ h' Δ:=by
 cases i with
 | ptr _ _ d hd=>
   have hc:=j.cells;obtain⟨w',o,k,m⟩:=G9 g hd hc a;have p:=uW hlen;have c:=hc.length;simp only[Qf]at c;have f:h'.next=h.next:=by
     unfold AN at a;rw[jX]at a;obtain⟨e,sz,live,ro,cs,q,b⟩:=a;simp only[fX,eE]at b;obtain⟨_,_,_,_,_,b⟩:=b;cases b;rfl
   refine⟨w',?_,k,m,.same (VU f.symm)⟩
   simp_all[Instr.storeAt,Instr.sureAddr,storeVar,rT]
theorem nW.length{es:List (V×V×Nat)} {iD:List MapEntry} (h:nW Δ es iD):es.length=iD.length:=by
 induction h <;> grind
theorem nW.get{es:List (V×V×Nat)} {iD:List MapEntry} (h:nW Δ es iD) {i:Nat} {e:V×V×Nat} (hi:es[i]? =some e) :
  ∃e',iD[i]? =some e'/\fq Δ e.1 e'.key/\fq Δ e.2.1 e'.val/\e'.born=e.2.2:=by
 induction h generalizing i <;> grind
theorem nW.set{es:List (V×V×Nat)} {iD:List MapEntry} (h:nW Δ es iD) {i:Nat} {k v:V} {m:Nat} {e':MapEntry} (d:fq Δ k e'.key) (e:fq Δ v e'.val) (f:e'.born=m) :
  nW Δ (es.set i (k,v,m)) (iD.set i e'):=by
 induction h generalizing i with
 |nil=>exact .nil
 | cons k0 l n e0 es iD a b c g j=>
   cases i with
   |zero=>exact .cons _ _ _ _ _ _ d e f g
   |succ i=>exact .cons _ _ _ _ _ _ a b c j
theorem nW.snoc{es:List (V×V×Nat)} {iD:List MapEntry} (h:nW Δ es iD) {k v:V} {m:Nat} {e':MapEntry} (d:fq Δ k e'.key) (e:fq Δ v e'.val) (f:e'.born=m) :
  nW Δ (es++[(k,v,m)]) (iD++[e']):=by
 induction h with
 |nil=>exact .cons _ _ _ _ _ _ d e f .nil
 |cons k0 i n e0 es iD a b c j g=>exact .cons _ _ _ _ _ _ a b c g
theorem nW.erase{es:List (V×V×Nat)} {iD:List MapEntry} (h:nW Δ es iD) {i:Nat}:nW Δ (es.eraseIdx i) (iD.eraseIdx i):=by
 induction h generalizing i with
 |nil=>exact .nil
 | cons k0 f n e0 es iD a b c d e=>
   cases i with
   |zero=>exact d
   |succ i=>exact .cons _ _ _ _ _ _ a b c e
theorem CE{k:V} {x y:Value} (m:Nat) (c:Ec k=true) (b:fq Δ k x) (a:fq Δ k y):Instr.sameBits m x y=true:=by
 cases k <;> simp[Ec]at c
 ·cases b;cases a;grind[Instr.sameBits]
 ·cases b;cases a;grind[Instr.sameBits]
 ·rename_i s
  cases b with
  | str s1=>
    generalize hs:s1.data.toList=l at a
    cases a with
    | str d=>
      have:s1=d:=by
        rw[ByteArray.ext_iff];exact Array.ext' hs
      subst this;have e:(s1 == s1)=true:=by show(s1.data == s1.data)=true;simp
      grind[Instr.sameBits]
theorem RU(m:Nat) {cs:List V} {xs ys:List Value} (f:cs.all Ec=true) (a:fV Δ cs xs) (b:fV Δ cs ys):xs.length=ys.length/\(xs.zip ys).all (λp=>Instr.sameBits m p.1 p.2)=true:=by
 induction cs generalizing xs ys with
 |nil=>cases a;cases b;simp_all
 | cons c cs g=>
   cases a with
   | cons _ x _ xs a d=>
     cases b with
     | cons _ y _ ys b e=>
       simp only[Th,qU]at f;obtain⟨h,i⟩:=g f.2 d e;exact⟨by simp[h],by simp only[List.zip_cons_cons,Th,qU];grind[CE]⟩
theorem Ag{k:V} {x y:Value} (m:Nat) (c:ER k=true) (a:fq Δ k x) (b:fq Δ k y):Instr.sameBits (m+1) x y=true:=by
 cases k with
 | agg cs=>
   cases a with|agg _ xs a=>cases b with|agg _ ys b=>
   obtain⟨d,e⟩:=RU m c a b
   simp_all[Instr.sameBits,qU]
 |_=>grind[CE,ER]
theorem K5(r:WR Δ h w) {l:Nat} {d:D} (p:Δ l=some d) {o o2:O} (t:h.get l=some o) {wO:Array MapEntry} {c2:Nat} (v:(∃es c,o = .map es c)\/∃k ks,o = .IP k ks)
  (s:((∃es,o2 = .map es c2/\nW Δ es wO.toList/\rr es c2)\/∃k ks,o2 = .IP k ks/\WS k ks wO.toList)) :
  (setObj d.b (.map wO c2)).run P0 w = .ok () {w with heap:=w.heap.setIfInBounds d.b (.map wO c2)}/\
  WR Δ (h.put l o2) {w with heap:=w.heap.setIfInBounds d.b (.map wO c2)}/\FR Δ Δ w {w with heap:=w.heap.setIfInBounds d.b (.map wO c2)}:=by
 obtain⟨A,j,u⟩:=r.obj l d p;rw[t]at j;cases j;have x:=r.wh l d p;have a:∀b,b≠d.b->({w with heap:=w.heap.setIfInBounds d.b (.map wO c2)}:World).heap[b]? =w.heap[b]?:=by grind
 have y:d.kind=1/\d.ro=false/\d.base=0/\(∃iD c',w.heap[d.b]? =some (.map iD c'))/\o.live=true:=by
  rcases v with⟨es,c,rfl⟩|⟨k,ks,rfl⟩
  ·obtain⟨g,e,i,iD,q,m⟩:=u;exact⟨g,e,i,⟨_,_,q⟩,rfl⟩
  ·obtain⟨g,e,i,iD,c',q,m⟩:=u;exact⟨g,e,i,⟨_,_,q⟩,rfl⟩
 obtain⟨g,e,i,⟨iD,c',q⟩,n⟩:=y;have f:({w with heap:=w.heap.setIfInBounds d.b (.map wO c2)}:World).heap[d.b]? =some (.map wO c2):=by simp_all
 refine⟨by grind[setObj,Sem.run],r.set p t n e (λ_=>n) ?_ (by simp) a,FR.set p e (by simp) a rfl rfl rfl⟩;rcases s with⟨es,rfl,m,z⟩|⟨k,ks,rfl,m⟩
 ·exact⟨g,e,i,wO,f,m,z⟩
 ·exact⟨g,e,i,wO,c2,f,m⟩
theorem map_set(e:WR Δ h w) {l:Nat} {d:D} (f:Δ l=some d) {es a:List (V×V×Nat)} {c c2:Nat} (g:h.get l=some (.map es c)) {wO:Array MapEntry} (i:nW Δ a wO.toList) (j:rr a c2) :
  (setObj d.b (.map wO c2)).run P0 w = .ok () {w with heap:=w.heap.setIfInBounds d.b (.map wO c2)}/\
  WR Δ (h.put l (.map a c2)) {w with heap:=w.heap.setIfInBounds d.b (.map wO c2)}/\FR Δ Δ w {w with heap:=w.heap.setIfInBounds d.b (.map wO c2)}:=
 K5 e f g (.inl ⟨_,_,rfl⟩) (.inl ⟨_,rfl,i,j⟩)
theorem rr.snoc{es:List (V×V×Nat)} {c:Nat} (h:rr es c) (k v:V):rr (es++[(k,v,c)]) (c+1):=by
 refine⟨?_,λe d=>?_⟩
 ·rw[List.map_append,List.nodup_append];refine⟨h.1,by simp,λa f b g=>?_⟩;obtain⟨e,d,rfl⟩:=Sy.1 f;have:=h.2 e d;simp at g;omega
 ·rcases AI.1 d with d|d
  ·have:=h.2 e d;omega
  ·simp at d;subst d;show c<c+1;omega
theorem rr.set{es:List (V×V×Nat)} {c:Nat} (h:rr es c) {i:Nat} {e:V×V×Nat} (hi:es[i]? =some e) (k v:V):rr (es.set i (k,v,e.2.2)) c:=by
 have a:(es.set i (k,v,e.2.2)).map (λe=>e.2.2)=es.map λe=>e.2.2:=by
  rw[List.map_set];apply Wd;intro j;rw[List.getElem?_set];split
  ·rename_i b;subst b;split
   ·simp[hi]
   ·grind
  ·rfl
 refine⟨by rw[a];exact h.1,λx d=>?_⟩;have:x.2.2∈(es.set i (k,v,e.2.2)).map λe=>e.2.2:=Sy.2 ⟨x,d,rfl⟩;rw[a]at this;obtain⟨y,f,g⟩:=Sy.1 this;rw[<-g];exact h.2 y f
theorem rr.erase{es:List (V×V×Nat)} {c:Nat} (h:rr es c) (i:Nat):rr (es.eraseIdx i) c:=
 ⟨h.1.sublist ((List.eraseIdx_sublist es i).map _),λe a=>h.2 e (List.mem_of_mem_eraseIdx a)⟩
theorem NQ(D:WR Δ h w) {mT kt et:Nat} (X:P0.underlying mT=some (.map kt et)) {d:Option (List Field)} (hd:Cd kt=some d) {m k v:V} {mv G vv:Value} (H:fq Δ m mv) (x:fq Δ k G) (Y:fq Δ v vv)
    {r:R} (o:yQ kt d m k v h=some r):∃h' w',r = .val .undef h'/\(Instr.mapUpdate mT mv G vv).run P0 w = .ok () w'/\WR Δ h' w'/\FR Δ Δ w w'/\Gr h Δ h' Δ:=by
  unfold yQ at o;rw[fX]at o;obtain⟨hh,o⟩:=o;split at o
  ·rename_i l
   simp only[JR]at o
   cases H with
   |map _ dd E =>
    rcases o with⟨es,c,B,o⟩|⟨kd,ks,B,o⟩
    ·rw[eE]at o
     obtain⟨ob,C,o⟩:=o;cases o;have M:=A3 D E B;obtain⟨iD,L,f⟩:=AX D E B;have y:=qI (em:=false) 9999 (by omega) w hd x hh;unfold BB at C;rw[eE]at C;obtain⟨fr,hf,C⟩:=C;obtain⟨s,t,g⟩:=tA hd x w f hf
     cases fr with
     | none=>
       cases C
       cases s with
       |some _=>cases g
       | none=>
         obtain⟨s1,I,J⟩:=map_set D E B (wO:=iD.push {key:=G,val:=vv,born:=c}) (c2:=c+1) (by rw[Array.toList_push];exact f.snoc (m:=c) x Y rfl) (M.snoc _ _);refine⟨_,_,rfl,?_,I,J,.same (jn _)⟩
         simp only[Instr.mapUpdate,qu,fE X,pJ,run_getObj_map L,y,t,s1]
     | some p=>
       obtain⟨i,u⟩:=p;simp only[eE,fX]at C;obtain⟨e,N,Z,ab,C⟩:=C;cases C
       cases s with
       |none=>cases g
       | some p'=>
         obtain⟨i',u'⟩:=p';obtain⟨rfl,_⟩:=g;obtain⟨e',O,P,g3,g4⟩:=f.get N;rw[V.eq_of_beq _ _ Z]at P;have K:Instr.sameBits 10000 e'.key G=true:=by grind[Ag]
         have z:iD[i]? =some e':=by simpa using O
         have A:(iD.modify i λe=>{e with key:=G,val:=vv}).toList=iD.toList.set i {e' with key:=G,val:=vv}:=by
           rw[Array.toList_modify];rw[List.modify_eq_set];simp[z]
         obtain⟨s1,I,J⟩:=map_set D E B (wO:=iD.modify i λe=>{e with key:=G,val:=vv}) (c2:=c) (by rw[A];exact f.set (i:=i) (k:=k) (v:=v) (m:=e.2.2) x Y g4) (M.set N _ _);refine⟨_,_,rfl,?_,I,J,.same (jn _)⟩;simp only[Instr.mapUpdate,qu,fE X,pJ,run_getObj_map L,y,t,Instr.keyThatStays,z,Option.map_some,Option.getD_some,K,if_true,EN,s1]
    ·obtain ⟨es,iD,c,L,f,Q,ac⟩:=L5 D E B
     have y:=qI (em:=false) 9999 (by omega) w hd x hh;unfold Ng at o;split at o
     ·rename_i k' n
      simp only[fX]at o;obtain⟨hi,aa,o⟩:=o;obtain rfl:=vY aa;cases o;cases x;cases Y;obtain⟨o',S,hr⟩:=D.obj _ _ E;rw[B]at S;cases S;obtain⟨_,_,_,ae,c1,T,U,W⟩:=hr;rw[L]at T;cases T;rcases DZ hi k' n (es:=es) 0 λe f=>⟨(Q e f).1,let⟨n,_,h⟩:=(Q e f).2;⟨n,h⟩⟩ with⟨h4,h5⟩|⟨j,e,h4,h5,h6⟩
      ·obtain ⟨s,t,g⟩:=tA hd (.int k' n) w f h4
       cases s with
       |some _=>cases g
       | none =>
         obtain ⟨s1,I,J⟩:=K5 D E B (o2:= .IP k' (n::ks)) (wO:=iD.push {key:= .int k' n,val:= .bool true,born:=c}) (c2:=c+1) (.inr ⟨_,_,rfl⟩) (.inr ⟨_,_,rfl,by
           rw[Array.toList_push];refine⟨λe f=>?_,λm H=>?_⟩
           ·rcases AI.1 f with f|f
            ·obtain⟨a,m,b,c⟩:=U e f
             exact⟨a,m,by simp[b],c⟩
            ·simp at f;subst f;exact⟨rfl,n,by simp,rfl⟩
           ·rcases AJ.1 H with rfl|H
            ·exact⟨_,List.mem_append_right _ (Ig.2 rfl),rfl⟩
            ·obtain⟨e,f,x⟩:=W m H
             exact⟨e,Sv _ f,x⟩⟩)
         refine⟨_,_,rfl,?_,I,J,.same (jn _)⟩;simp only[Instr.mapUpdate,qu,fE X,pJ,run_getObj_map L,y,t,s1]
      ·obtain ⟨s,t,g⟩:=tA hd (.int k' n) w f h4
       cases s with
       |none=>cases g
       | some p' =>
         obtain⟨i',u'⟩:=p';obtain⟨rfl,_⟩:=g;rw[EM]at*;obtain⟨e',O,P,g3,g4⟩:=f.get h5;rw[h6]at P;have F:e'.key = .int k' n:=by cases h:e'.key <;> rw[h]at P <;> cases P;rfl
         have K:Instr.sameBits 10000 e'.key (.int k' n)=true:=by rw[F];exact Ag (Δ:=Δ) (k:= .int k' n) 9999 rfl (.int k' n) (.int k' n)
         have z:iD[j]? =some e':=by simpa using O
         have A:(iD.modify j λe=>{e with key:= .int k' n,val:= .bool true}).toList=iD.toList.set j {e' with key:= .int k' n,val:= .bool true}:=by
           rw[Array.toList_modify];rw[List.modify_eq_set];simp[z]
         obtain ⟨s1,I,J⟩:=K5 D E B (o2:= .IP k' (n::ks)) (wO:=iD.modify j λe=>{e with key:= .int k' n,val:= .bool true}) (c2:=c) (.inr ⟨_,_,rfl⟩) (.inr ⟨_,_,rfl,by
           rw[A];refine⟨λe f=>?_,λm H=>?_⟩
           ·rcases VJ f with f|rfl
            ·obtain⟨a,m,b,c⟩:=U e f
             exact⟨a,m,by simp[b],c⟩
            ·exact⟨rfl,n,by simp,rfl⟩
           ·by_cases hmn:m=n
            ·subst hmn
             exact⟨{e' with key:= .int k' m,val:= .bool true},by rw[mM];exact⟨j,by rw[G2 (jw.1 O).1]⟩,rfl⟩
            ·obtain ⟨e,f,x⟩:=W m ((AJ.1 H).resolve_left hmn)
             obtain⟨q,hq⟩:=mM.1 f;refine⟨e,mM.2 ⟨q,?_⟩,x⟩;rw[Iv (λhj=>?_)]
             ·exact hq
             ·subst hj
              rw[O]at hq;cases hq;rw[F]at x;cases x;exact hmn rfl⟩)
         refine⟨_,_,rfl,?_,I,J,.same (jn _)⟩;simp only[Instr.mapUpdate,qu,fE X,pJ,run_getObj_map L,y,t,Instr.keyThatStays,z,Option.map_some,Option.getD_some,K,if_true,EN,s1]
     ·cases o
  ·cases o
theorem NN(g:WR Δ h w) {C kt K rt:Nat} {o:Array Nat} (j:o[0]? =some C) (x:P0.underlying C=some (.map kt K)) {d:Option (List Field)} (hd:Cd kt=some d) {m k:V} {D E:Value} (F:fq Δ m D) (y:fq Δ k E)
  {r:R} (a:J5 kt d m k h=some r):∃h' w',r = .val (.tuple []) h'/\(Builtin.delete_ o rt #[D,E]).run P0 w = .ok (.tuple #[]) w'/\WR Δ h' w'/\FR Δ Δ w w'/\Gr h Δ h' Δ:=by
 unfold J5 at a;rw[fX]at a;obtain⟨G,a⟩:=a;split at a
 ·cases a;cases F;have f:=qI (em:=true) 9999 (by omega) w hd y G;refine⟨h,w,rfl,?_,g,.refl _ _,.refl _ _⟩;simp only[Builtin.delete_,j,WM,YI,XX,qu,fE x,pJ,f,EN]
 ·rename_i l;simp only[sj,eE]at a;obtain⟨es,c,q,fr,L,a⟩:=a
  cases F with
  | map _ z s=>
    obtain⟨iD,H,A⟩:=AX g s q;have f:=qI (em:=iD.isEmpty) 9999 (by omega) w hd y G;obtain⟨t,v,e⟩:=tA hd y w A L
    cases fr with
    | none =>
      cases a
      cases t with
      |some _=>cases e
      | none=>
        obtain ⟨s1,I,J⟩:=map_set g s q (wO:=iD) (c2:=c) A (A3 g s q);have n:({w with heap:=w.heap.setIfInBounds z.b (.map iD c)}:World)=w:=by
          have:w.heap.setIfInBounds z.b (.map iD c)=w.heap:=by
            apply Array.ext_getElem?;intro i;by_cases hi:z.b=i
            ·grind
            ·simp_all
          rw[this]
        rw[n]at s1;refine⟨h,w,rfl,?_,g,.refl _ _,.refl _ _⟩
        simp only[Builtin.delete_,j,WM,YI,XX,qu,fE x,pJ,run_getObj_map H,f,v,s1,EN]
    | some p=>
      obtain⟨i,u⟩:=p;cases a
      cases t with
      |none=>cases e
      | some M=>
        obtain ⟨N,O⟩:=M;obtain⟨rfl,_⟩:=e;have B:(iD.eraseIdxIfInBounds i).toList=iD.toList.eraseIdx i:=by
          rw[Array.eraseIdxIfInBounds_eq];split
          ·rw[Array.toList_eraseIdx]
          ·grind[List.eraseIdx_of_length_le]
        obtain⟨s1,I,J⟩:=map_set g s q (wO:=iD.eraseIdxIfInBounds i) (c2:=c) (by rw[B];exact A.erase) ((A3 g s q).erase _);refine⟨_,_,rfl,?_,I,J,.same (jn _)⟩;simp only[Builtin.delete_,j,WM,YI,XX,qu,fE x,pJ,run_getObj_map H,f,v,s1,EN]
 ·cases a
end
section
variable{Δ:Env}{h:Hp}{w:World}{n:Nat}{t:Tm}{a:Act}
theorem Ju{l off:Nat} {new:List V} {h':Hp} (b:AN h l off new=some h'):h'.next=h.next:=by
 unfold AN at b;rw[jX]at b;obtain⟨e,sz,live,ro,cs,c,a⟩:=b;simp only[fX,eE]at a;obtain⟨_,_,_,_,_,a⟩:=a;cases a;rfl
theorem Ni(s:ByteArray) (m:Nat):((s.extract 0 m).data.map λb=>Value.int .u8 b.toNat)=Array.mk ((s.data.toList.take m).map λb=>Value.int .u8 b.toNat):=by
 apply Array.ext'
 simp_all
theorem Nc(Δ:Env) (l:List UInt8):fV Δ (we l) (l.map λb=>Value.int .u8 b.toNat):=by
 induction l with
 |nil=>exact .nil
 |cons b l a=>exact .cons _ _ _ _ (.int .u8 _) a
theorem RZ(n:WR Δ h w) {P t size rt:Nat} {p:Array Nat} (B:p[0]? =some P) (Q:P0.underlying P=some (.slice t)) (S:uR t=some size) {d s:V} {z u:Value}
  (hd:fq Δ d z) (A:fq Δ s u) {r:R} (f:Q9 size d s h=some r) :
  ∃h' m w',r = .val (.int .i64 (.ofNat m)) h'/\(Builtin.copy_ p rt #[z,u]).run P0 w = .ok (.int .i64 m) w'/\WR Δ h' w'/\FR Δ Δ w w'/\Gr h Δ h' Δ:=by
 have a:∀(base:Option Addr) (c g:Nat) (m:Nat),z = .slice base c g->(Builtin.lenOf u).run P0 w = .ok m w->Nat.min m c=0->(Builtin.firstCells size 0 u).run P0 w = .ok #[] w->
   (Builtin.copy_ p rt #[z,u]).run P0 w = .ok (.int .i64 (0:Nat)) w:=by
  intro base c g m v D q E;subst v;have x:=rT (w:=w) S;cases base <;> simp[Builtin.copy_,B,fE Q,D,q,x,E,storeCells,goInt]
 have some_:∀(base:Addr) (c g:Nat) (m:Nat) (xs:List Value) (w':World),z = .slice (some base) c g->(Builtin.lenOf u).run P0 w = .ok m w->
   (Builtin.firstCells size (Nat.min m c) u).run P0 w = .ok (Array.mk xs) w->(storeCells base xs 0).run P0 w = .ok () w'->
   (Builtin.copy_ p rt #[z,u]).run P0 w = .ok (.int .i64 (Nat.min m c:Nat)) w':=by
  intro base c g m xs w' v D E F;subst v;have x:=rT (w:=w) S;simp[Builtin.copy_,B,fE Q,D,x,E,F,goInt]
 unfold Q9 at f;split at f
 ·cases hd;split at f
  ·cases f;cases A;exact⟨_,0,w,rfl,a none 0 0 0 rfl rfl rfl rfl,n,.refl _ _,.refl _ _⟩
  ·cases f
   cases A with
   | slice l off len cap o X y Y G H=>
     exact⟨_,0,w,rfl,a none 0 0 _ rfl rfl (Nat.min_zero _) (by simp[Builtin.firstCells,loadCells,loadCellsFrom]),n,.refl _ _,.refl _ _⟩
  ·cases f
   cases A with
   |str s=>exact⟨_,0,w,rfl,a none 0 0 s.size rfl rfl (Nat.min_zero _) (by simp[Builtin.firstCells]),n,.refl _ _,.refl _ _⟩
  ·cases f
 ·rename_i l off len
  cases hd with
  | slice _ _ _ i o X y Y G H=>
    split at f
    ·cases f;cases A
     exact⟨_,0,w,rfl,a _ len i 0 rfl rfl (Nat.zero_min _) rfl,n,.refl _ _,.refl _ _⟩
    ·rename_i l' T j
     cases A with
     | slice _ _ _ U so sd I Z W J=>
       cases q:Nat.beq (min j len) 0 with
       | true=>
         simp only[q]at f;cases f;have k:Nat.min j len=0:=uW q
         exact⟨_,0,w,rfl,a _ len i j rfl rfl k (by simp[Builtin.firstCells,loadCells,loadCellsFrom]),n,.refl _ _,.refl _ _⟩
       | false=>
         have k:0<min j len:=Nat.pos_of_ne_zero λe=>by simp_all
         simp only[q,eE]at f;obtain⟨cs,K,h2,C,L⟩:=f;cases L;rcases J with⟨rfl,_,_⟩|⟨rfl,_⟩
         ·rcases H with⟨rfl,_,_⟩|⟨rfl,_⟩
          ·obtain⟨xs,c1,c2⟩:=qW n I K
           obtain⟨w',e1,e2,M⟩:=G9 n y c2 C;exact⟨_,_,w',rfl,some_ _ len i j xs w' rfl rfl (by grind[Builtin.firstCells]) e1,e2,M,.same (VU (Ju C).symm)⟩
          ·omega
         ·omega
    ·rename_i b
     rw[fX]at f;obtain⟨K,f⟩:=f;have N:size=1:=uW K;subst N
     cases A with
     | str s=>
       have O:s.data.toList.length=s.size:=by simp
       rw[O]at f
       cases q:Nat.beq (min s.size len) 0 with
       | true=>
         simp only[q]at f;cases f;have k:Nat.min s.size len=0:=uW q
         exact⟨_,0,w,rfl,a _ len i s.size rfl rfl k (by simp[Builtin.firstCells]),n,.refl _ _,.refl _ _⟩
       | false=>
         have k:0<min s.size len:=Nat.pos_of_ne_zero λe=>by simp_all
         simp only[q,eE]at f;obtain⟨h2,C,L⟩:=f;cases L;rcases H with⟨rfl,_,_⟩|⟨rfl,_⟩
         ·obtain⟨w',e1,e2,M⟩:=G9 n y (Nc Δ _) C
          refine⟨_,_,w',rfl,some_ _ len i s.size _ w' rfl rfl ?_ e1,e2,M,.same (VU (Ju C).symm)⟩;simp only[Builtin.firstCells,Ni];rfl
         ·omega
    ·cases f
 ·cases f
theorem Hs{d:D} {cs:List V} {c:Array Value} {e:Nat} (a:c.size=d.Pb) (b:d.base=0) (f:cs.length<=d.Pb) (hc:∀(i:Nat) (v:V),cs[i]? =some v->∃x,c[i]? =some x/\fq Δ v x) :
  B1 Δ d cs (some (.cells c e (c.size,c.size+1))):=
 ⟨c,e,(c.size,c.size+1),rfl,a,λ_=> .inr (VU a.symm),by omega,λi v hi=>by rw[b,EM];exact hc i v hi⟩
theorem Pm(m:WR Δ h w) {src dst e:Nat} (n:P0.underlying src=some .string) (hd:P0.underlying dst=some (.slice e)) (o:P0.underlying e=some (.int .u8)) (s:ByteArray) :
  ∃d x w',(convert src dst (.string s)).run P0 w = .ok x w'/\tc Δ h w (.slice h.next 0 s.data.toList.length) (h.new (.cells e 1 true false (we s.data.toList))) d x w':=by
 have k:=run_bytes_of_string (P:=P0) w src dst e s n hd o;have c:=grownCap_ge w s.size 0 e;generalize grownCap w s.size 0 e=cap at k c;have f:s.data.toList.length=s.size:=by simp
 have p:(we s.data.toList).length=s.size:=by simp[we]
 have g:(bytesRow s cap).size=cap:=by
  have:s.data.size=s.size:=rfl;simp[bytesRow];omega
 have a:Made Δ (.cells e 1 true false (we s.data.toList)) (λl=> .slice l 0 s.data.toList.length) (.cells (bytesRow s cap) e ((bytesRow s cap).size,(bytesRow s cap).size+1))
   (λb=> .slice (some ⟨b,0,none⟩) s.size cap):=by
  intro l b y;refine⟨⟨b,0,1,(we s.data.toList).length,cap,false,0⟩,rfl,⟨rfl,rfl,rfl,rfl,λ_=>?_⟩,?_⟩
  ·refine Hs g rfl (by simp_all) λi u hi=>?_;obtain⟨x,z,j⟩:=(JN _ s).get i u hi;refine⟨x,?_,j⟩
   grind[jw,bytesRow,Array.getElem?_append_left]
  ·rw[f];refine fq.slice l 0 s.size cap 0 ⟨b,0,1,(we s.data.toList).length,cap,false,0⟩ (Env.rS _ _ _) rfl c (.inl ⟨rfl,?_,?_⟩)
   ·simp_all
   simp_all
 obtain⟨d,q,r,t,v⟩:=(m.heap (w':=w.drew) rfl).alloc a;exact⟨d,_,_,k,r,q,t.drew,v⟩
theorem Re(q:WR Δ h w) {src dst e0 e:Nat} {x:V} {y:Value} (E:fq Δ x y) (Q:P0.underlying src=some (.slice e0)) (hd:P0.underlying dst=some (.slice e)) (S:P0.underlying e=some (.int .u8)) (s:src=dst)
  {r:R} (a:Q6 x h=some r):∃A h' w',r = .val A h'/\(convert src dst y).run P0 w = .ok y w'/\tc Δ h w A h' Δ y w':=by
 unfold Q6 at a;split at a
 ·rename_i l off n;rw[jX]at a;obtain⟨e1,sz,live,ro,cs,B,a⟩:=a;simp only[fX]at a;obtain⟨rfl,t,a⟩:=a;cases a;have i:ro=false:=by simpa using t
  subst i
  cases E with
  | slice _ _ _ cap o d j F u G=>
    obtain⟨p,C,H⟩:=q.obj l d j;rw[B]at C;cases C;obtain⟨I,J,K,v,L⟩:=H;obtain⟨c,e2,fr,D,M,T,N,O⟩:=L rfl;subst s;obtain rfl:e0=e:=by simp_all
    obtain ⟨lo,hi⟩:=fr;have P:d.b<w.heap.size:=q.wh l d j;have z:(w.freeze ⟨d.b,c.size,none⟩ 1).heap[d.b]? =some (.cells c e2 (if lo == hi then(c.size,c.size+1) else(min lo c.size,max hi (c.size+1)))):=by
      unfold World.freeze;rw[if_neg (by omega)];simp only[Array.getElem?_modify,D,if_true,Option.map_some]
    have f:∀b,b≠d.b->(w.freeze ⟨d.b,c.size,none⟩ 1).heap[b]? =w.heap[b]?:=by
      intro b U;unfold World.freeze;rw[if_neg (by omega)];simp only[Array.getElem?_modify];rw[if_neg (by omega)]
    have k:(w.freeze ⟨d.b,c.size,none⟩ 1).heap.size=w.heap.size:=by
      unfold World.freeze;rw[if_neg (by omega)];simp
    have g:∀b,(w.freeze b 1).os=w.os/\(w.freeze b 1).tape=w.tape/\(w.freeze b 1).output=w.output:=by
      intro b;unfold World.freeze;rw[if_neg (by omega)];exact by simp_all
    refine⟨_,_,w.freeze ⟨d.b,c.size,none⟩ 1,rfl,?_,⟨.slice l off n cap o d j F u G,?_,FR.set j v k f (g _).1 (g _).2.1 (g _).2.2,Gr.same (jn _)⟩⟩
    ·have m:(Go.shape d.b).run P0 w = .ok (some (e2,c.size)) w:=by
       show Result.ok (w.shape? d.b) w=_;unfold World.shape?;rw[D]
     simp_all[convert,qu,fE,pJ,beq_self_eq_true,markStringish,run_freeze]
    ·refine q.set j B rfl v (λh=>h) ⟨I,J,K,v,λ_=>⟨c,e2,_,z,M,λ_=>?_,N,O⟩⟩ k f
     grind
 ·cases a
end
section
variable{Δ:Env}{h:Hp}{w:World}{n:Nat}{t:Tm}{a:Act}
theorem PZ(g:WR Δ h w) {ty kt s:Nat} (t:P0.underlying ty=some (.map kt s)) {m:V} {o:Value} (p:fq Δ m o) {r:R} (e:BA m h=some r) :
  ∃v h' f x w',r = .val v h'/\(Instr.range ty o).run P0 w = .ok x w'/\tc Δ h w v h' f x w':=by
 unfold BA at e;split at e
 ·cases e;cases p
  have a:Made Δ (.iter none 0 [] 0) (λl=> .ptr l 0) (.mapIter none 0 #[] 0) (λb=> .pointer (some ⟨b,0,none⟩)):=λl b q=>
   ⟨⟨b,0,0,0,0,false,2⟩,rfl,⟨rfl,rfl,rfl,none,rfl,rfl⟩,fq.ptr l 0 ⟨b,0,0,0,0,false,2⟩ (Env.rS _ _ _)⟩
  obtain⟨f,i,j,k,n⟩:=g.alloc a;exact⟨_,_,f,_,_,rfl,by simp_all[Instr.range,fE],j,i,k,n⟩
 ·rename_i l;rw[sj]at e;obtain⟨es,c,u,e⟩:=e;cases e
  cases p with
  | map _ d hd=>
    obtain⟨iD,y,A⟩:=AX g hd u
    have a:Made Δ (.iter (some l) c [] c) (λl=> .ptr l 0) (.mapIter (some d.b) c #[] c) (λb=> .pointer (some ⟨b,0,none⟩)):=λz b q=>
      ⟨⟨b,0,0,0,0,false,2⟩,rfl,⟨rfl,rfl,rfl,some d.b,rfl,d,Env.uV q _ _ hd,rfl⟩,fq.ptr z 0 ⟨b,0,0,0,0,false,2⟩ (Env.rS _ _ _)⟩
    obtain⟨f,i,j,k,n⟩:=g.alloc a;exact⟨_,_,f,_,_,rfl,by simp[Instr.range,fE t,run_getObj_map y],j,i,k,n⟩
 ·cases e
theorem lH{r:Nat}{m:Option Nat}{s l:Nat}{seen:Array Nat}(a:w.heap[r]? =some (.mapIter m s seen l)):(getObj r).run P0 w = .ok (.mapIter m s seen l) w:=by grind[getObj,Sem.run]
theorem Ia{es:List (V×V×Nat)} {iD:List MapEntry} (a:nW Δ es iD) (p:Nat->Bool):nW Δ (es.filter λe=>p e.2.2) (iD.filter λe=>p e.born):=by
 induction a with
 |nil=>exact .nil
 | cons k v n e es iD b c d _ f=>
   subst d;simp only[List.filter_cons];by_cases hp:p e.born=true
   ·simp only[hp,if_true];exact .cons _ _ _ _ _ _ b c rfl f
   simp_all
theorem TC{es:List (V×V×Nat)} {iD:List MapEntry} (a:nW Δ es iD) (p:Nat->Bool):iD.all (λe=>p e.born)=es.all λe=>p e.2.2:=by
 induction a <;> grind
theorem QL(p:WR Δ h w) {it:V} {I:Value} {ty:Nat} (hi:fq Δ it I) {r:R} (f:EG it h=some r) :
  ∃v h' x w',r = .val v h'/\(Instr.next I false ty).run P0 w = .ok x w'/\tc Δ h w v h' Δ x w':=by
 unfold EG at f;rw[ny]at f;obtain⟨P,off,rfl,f⟩:=f;rw[fX,eE]at f;obtain⟨h0,o,J,f⟩:=f;have C:off=0:=uW h0;subst C
 cases hi with
 | ptr _ _ d hd=>
   obtain⟨o',K,M⟩:=p.obj P d hd;rw[J]at K;cases K;split at f
   ·cases f
    obtain⟨N,y,z,Q,A,S⟩:=M;subst S;refine⟨_,_,_,w,rfl,?_,.tuple _ #[.bool false] (.one (.bool false)),p,.refl _ _,.refl _ _⟩;rw[z];simp[Instr.next,lH A]
   ·rename_i m since seen last
    obtain ⟨N,y,z,Q,A,B,q,rfl⟩:=M;rw[sj]at f;obtain⟨es,c,D,f⟩:=f;rw[fX]at f;obtain⟨s,f⟩:=f;obtain⟨iD,O,E⟩:=AX p q D;have i:(!seen.toArray.isEmpty&&!iD.isEmpty&&iD.all (λe=>decide (e.born >= last)))=false:=by
      have T:iD.isEmpty=es.isEmpty:=by
        have:=E.length;cases es <;> cases hes:iD with|mk l=>grind
      have U:iD.all (λe=>decide (e.born >= last))=es.all (λe=>Nat.ble last e.2.2):=by
        rw[<-Array.all_toList];have:=TC E (λn=>Nat.ble last n);rw[<-this];congr 1;funext e;rw[Ut];simp[Nat.ble_eq]
      have W:seen.toArray.isEmpty=seen.isEmpty:=by simp
      rw[W,T,U];simpa only[Vm]using s
    have a:=Ia E (λn=>!seen.contains n);have j:(iD.filter λe=>!seen.toArray.contains e.born)=Array.mk (iD.toList.filter λe=>!seen.contains e.born):=by
      apply Array.ext';rw[Array.toList_filter];simp
    rw[z];split at f
    ·rename_i F
     cases f;rw[F]at a;generalize (iD.toList.filter λe=>!seen.contains e.born)=L at a j;cases a;refine⟨_,_,_,w,rfl,?_,.tuple _ #[.bool false] (.one (.bool false)),p,.refl _ _,.refl _ _⟩;simp only[Instr.next,qu,lH A,pJ,run_getObj_map O,i,j];simp[Question.forced]
    ·rename_i e F
     rw[fX]at f;obtain⟨t,f⟩:=f;cases f;rw[F]at a;generalize (iD.toList.filter λe=>!seen.contains e.born)=L at a j
     cases a with
     | cons k v nb e' _ L X Y G Z=>
       cases Z;have u:e'.born<since:=by rw[Lb]at t;rw[G];exact t
       have aa:=p.wh _ _ hd;have g:∀b,b≠d.b->({w with heap:=w.heap.setIfInBounds d.b (.mapIter (some B.b) since (seen++[nb]).toArray c)}:World).heap[b]? =w.heap[b]?:=by grind
       refine ⟨_,_,_,{w with heap:=w.heap.setIfInBounds d.b (.mapIter (some B.b) since (seen++[nb]).toArray c)},rfl,?_,
         .tuple _ #[.bool true,e'.key,e'.val] (.cons _ _ _ _ (.bool true) (.cons _ _ _ _ X (.one Y))),?_,FR.set hd y (by simp) g rfl rfl rfl,.same (jn _)⟩
       ·have H:¬(e'.born >= since):=by omega
        have f1:(Array.mk [e']).filter (λx=>decide (x.born<since)) = #[e']:=by simp[u]
        have f2:(Array.mk [e']).filter (λx=>decide (x.born >= since)) = #[]:=by simp[H]
        simp only[Instr.next,qu,lH A,pJ,run_getObj_map O,i,j,f1,f2]
        simp_all[Question.forced,setObj,Sem.run]
       ·refine p.set hd J rfl y (λh=>h) ⟨N,y,z,some B.b,?_,B,q,rfl⟩ (by simp) g
        simp_all
    ·cases f
   ·cases f
theorem Q8{es:List (V×V×Nat)} {iD:List MapEntry} (b:nW Δ es iD) (st:Nat) {e:V×V×Nat} (a:(es.find? λe=>Nat.beq e.2.2 st)=some e) :
  ∃e',(iD.find? λe=>e.born == st)=some e'/\fq Δ e.1 e'.key/\fq Δ e.2.1 e'.val:=by
 induction b with
 |nil=>cases a
 | cons k v n e0 es iD f g c _ h=>
   subst c;simp only[List.find?_cons]at a⊢;have d:(e0.born == st)=Nat.beq e0.born st:=by rw[Ut];simp
   grind
theorem PD(p:WR Δ h w) {it:V} {q:Value} (hi:fq Δ it q) {r:R} (a:FT it h=some r) :
  ∃v x,r = .val v h/\(Instr.entry q).run P0 w = .ok x w/\fq Δ v x:=by
 unfold FT at a;rw[ny]at a;obtain⟨t,off,rfl,a⟩:=a;rw[fX,eE]at a;obtain⟨h0,o,u,a⟩:=a;have g:off=0:=uW h0;subst g
 cases hi with
 | ptr _ _ d hd=>
   obtain⟨G,s,y⟩:=p.obj t d hd;rw[u]at s;cases s;split at a
   ·rename_i m since seen last
    obtain⟨H,I,z,J,A,K,i,rfl⟩:=y;rw[sj]at a;obtain⟨es,c,j,a⟩:=a;simp only[fX,eE]at a;obtain⟨hc,st,k,e,l,a⟩:=a;cases a;obtain⟨iD,B,C⟩:=AX p i j;obtain⟨e',D,E,F⟩:=Q8 C st l;refine⟨_,.tuple #[e'.key,e'.val],rfl,?_,.tuple _ _ (.cons _ _ _ _ E (.one F))⟩;have n:c=last:=uW hc;subst n;have b:seen.toArray.back? = some st:=by rw[List.back?_toArray];exact k
    have f:(iD.find? λe=>e.born == st)=some e':=by rw[<-Array.find?_toList];exact D
    rw[z];simp only[Instr.entry,qu,lH A,pJ,b,run_getObj_map B,bne_self_eq_false,LK,if_false,EN,f]
   ·cases a
theorem Rn{f:V} {k:Value} {args:List V} {b:Array Value} {ty:Nat} {c:Go.Call} {op:Operand} (hc:c.callee = .value op) (m:a.eval op=k) (j:c.args.map a.eval=b) (n:fq Δ f k) (o:fV Δ args b.toList) {r:R}
  (i:fQ f args=some r):∃g l fY,r = .call g l/\fV Δ l fY.toList/\(do let d <-resolve a.eval c ty;invoke d.target d.args:Sem Next)=callFunc g fY:=by
 unfold fQ at i;split at i
 ·cases i
  cases n with
  | func _ _ _ e h p q=>
    refine⟨_,_,e++b++h,rfl,?_,?_⟩
    ·simp only[Array.toList_append,MQ]
     exact p.append (o.append q)
    ·simp only[resolve,hc,m,j,Deferred.ofValue]
     rfl
 ·cases i
theorem MT(Z:WR Δ h w) {j:String} {r:V} {X:Value} {args:List V} {n:Array Value} {ty:Nat} {c:Go.Call} {op:Operand} (hc:c.callee = .invoke op j) (ho:a.eval op=X) (K:c.args.map a.eval=n)
  (hr:fq Δ r X) (Y:fV Δ args n.toList) {x:R} (A:jj j r args h=some x) :
  ∃g l fY,x = .call g l/\fV Δ l fY.toList/\(do let d <-resolve a.eval c ty;invoke d.target d.args:Sem Next).run P0 w=(callFunc g fY).run P0 w:=by
 unfold jj at A;split at A
 ·rename_i t v
  cases hr with
  | iface _ _ q L=>
    have B:(do let d <-resolve a.eval c ty;invoke d.target d.args:Sem Next)=callMethod (.iface t q) j n:=by
      simp only[resolve,hc,ho,K];show invoke (.fn (.method j) #[]) (#[.iface t q]++n)=_;have D:(#[Value.iface t q]++n)[0]? =some (.iface t q):=by
        rw[Array.getElem?_append_left (by simp)];rfl
      have E:(#[Value.iface t q]++n).extract 1 (#[Value.iface t q]++n).size=n:=by
        apply Array.ext';simp
      simp only[invoke,D,E]
    have u:∀{f:Nat} {o:Option Nat},methodOf t j=some (f,o)->∃i m b,P0.info? t=some i/\i.methods.find? (λm=>m.name == j)=some m/\m.path = #[]/\m.func=some (f,b)/\
        ((∃e,P0.underlying t=some (.pointer e)/\((b=true/\o=none)\/(b=false/\o=some e)))\/(b=false/\o=none/\∃M,P0.underlying t=some M/\∀e,M≠ .pointer e)):=by
      intro f o s;unfold methodOf at s;rw[eE]at s;obtain⟨i,hi,s⟩:=s;split at s
      ·rename_i m hf
       refine⟨i,m,?_⟩;have aa:i.methods.find? (λm=>m.name == j)=some m:=by rw[<-Array.find?_toList];exact hf
       split at s
       ·simp_all
       ·simp_all
       ·simp_all
       ·cases s
      ·cases s
    obtain⟨fuel,F⟩:∃k,P0.types.size+Made.depth=k+1:=⟨P0.types.size+99,rfl⟩
    split at A
    ·rename_i f s
     cases A;obtain⟨i,m,b,D,E,N,O,P⟩:=u s;refine⟨f,_,#[q]++n,rfl,by simp only[Array.toList_append];exact .cons _ _ _ _ L Y,?_⟩;rw[B];have z:(receiverAt t (.val q) b (some ((j.splitOn ".").getLastD j))).run P0 w = .ok q w:=by
       rcases P with⟨e,G,⟨rfl,_⟩|⟨_,C⟩⟩|⟨rfl,_,M,G,pe⟩
       ·simp_all[receiverAt,fE,Place.get]
       ·cases C
       ·simp only[receiverAt,qu,fE G,pJ]
        rfl
     have Q:(method (P0.types.size+Made.depth) t q j).run P0 w = .ok (f,q) w:=by
       rw[F];simp only[method,qu,typeInfo,run_program,pJ,D,EN,E,N,O,follow,z,Array.isEmpty,Array.size_empty,if_true,decide_true]
     grind[callMethod,qu,run_program,pJ]
    ·rename_i f e s
     rw[eE]at A;obtain⟨y,hy,A⟩:=A;cases A;obtain⟨i,m,b,D,E,N,O,P⟩:=u s;have S:P0.underlying t=some (.pointer e)/\b=false:=by
       rcases P with⟨e',G,⟨_,C⟩|⟨hb,C⟩⟩|⟨_,C,_⟩
       ·cases C
       ·simp_all
       ·cases C
     obtain ⟨G,rfl⟩:=S;obtain⟨J,T,U⟩:=Ht (t:= .tree .leaf []) (xv:=q) Z (by simp_all) hy;refine⟨f,_,#[J]++n,rfl,by simp only[Array.toList_append];exact .cons _ _ _ _ U Y,?_⟩;rw[B];have H:∃ad,q = .pointer (some ad):=by
       cases q with
       | pointer p=>cases p with
         |some ad=>simp_all
         |none=>simp_all[Instr.loadAt,Instr.sureAddr]
       |_=>simp_all[Instr.loadAt,Instr.sureAddr]
     obtain⟨ad,rfl⟩:=H;have W:(loadVar e ad).run P0 w = .ok J w:=by simpa[Instr.loadAt,Instr.sureAddr]using T
     have z:(receiverAt t (.val (.pointer (some ad))) false (some ((j.splitOn ".").getLastD j))).run P0 w = .ok J w:=by
       have I:∀s1 s2,(Builtin.ssaWrapNilChk_ #[t] t #[.pointer (some ad),strVal s1,strVal s2]).run P0 w = .ok (.pointer (some ad)) w:=λ_ _=>rfl;simp only[receiverAt,qu,fE G,pJ,Place.get,EN,I,asAddr,W]
     have Q:(method (P0.types.size+Made.depth) t (.pointer (some ad)) j).run P0 w = .ok (f,J) w:=by
       rw[F];simp only[method,qu,typeInfo,run_program,pJ,D,EN,E,N,O,follow,z,Array.isEmpty,Array.size_empty,if_true,decide_true]
     grind[callMethod,qu,run_program,pJ]
    ·cases A
 ·cases A
theorem QN(j:WR Δ h w) (A:TR Δ n t a) {o:Oper} {r:R} (i:(iS o).f t h=some r) :
  (∃v h' J x w',r = .val v h'/\((execOp a.eval o).run P0 w = .ok (.value x) w'\/(x=undef/\(execOp a.eval o).run P0 w = .ok .skip w'))/\tc Δ h w v h' J x w')\/
  (∃g l fY,r = .call g l/\fV Δ l fY.toList/\(execOp a.eval o).run P0 w=(callFunc g fY).run P0 w):=by
 obtain⟨dst,op,E,pos,af,gd⟩:=o
 cases op with
 | store ty p x=>
   simp only[iS]at i;split at i
   ·rename_i size V
    simp only[eE,ny,fX]at i;obtain⟨pv,u,v,q,l,off,rfl,C,h',O,h5⟩:=i;cases h5;obtain⟨w',r1,r2,r3,K⟩:=PN j V (jW j A u) (jW j A q) C O;exact .inl ⟨_,_,Δ,undef,w',rfl,.inr ⟨rfl,by simp_all[execOp]⟩,.undef Δ,r2,r3,K⟩
   ·cases i
 | mapUpdate ty m k x=>
   simp only[iS]at i;split at i
   ·rename_i kt W F
    split at i
    ·rename_i d hd
     simp only[eE]at i;obtain⟨P,u,Z,q,xv,C,O⟩:=i;obtain⟨h',w',rfl,r1,r2,r3,K⟩:=NQ j F hd (jW j A u) (jW j A q) (jW j A C) O;exact .inl ⟨_,_,Δ,undef,w',rfl,.inr ⟨rfl,by simp_all[execOp]⟩,.undef Δ,r2,r3,K⟩
    ·cases i
   ·cases i
 | insert ty m k x=>
   simp only[iS]at i;split at i
   ·rename_i kt W F
    split at i
    ·rename_i d hd
     simp only[eE]at i;obtain⟨P,u,Z,q,xv,C,O⟩:=i;obtain⟨h',w',rfl,r1,r2,r3,K⟩:=NQ j F hd (jW j A u) (jW j A q) (jW j A C) O;exact .inl ⟨_,_,Δ,undef,w',rfl,.inr ⟨rfl,by simp_all[execOp]⟩,.undef Δ,r2,r3,K⟩
    ·cases i
   ·cases i
 | range ty x=>
   simp only[iS]at i;split at i
   ·rename_i kt W F
    simp only[eE]at i;obtain⟨P,u,q⟩:=i;obtain⟨v,h',J,y,w',rfl,r1,r2⟩:=PZ j F (jW j A u) q;exact .inl ⟨_,_,J,y,w',rfl,.inl (kY r1),r2⟩
   ·cases i
 | next x UH=>
   cases UH with
   |true=>cases i
   | false=>
     simp only[iS,eE]at i;obtain⟨P,u,q⟩:=i;obtain⟨v,h',y,w',rfl,r1,r2⟩:=QL (ty:=E) j (jW j A u) q
     exact .inl ⟨_,_,Δ,y,w',rfl,.inl (kY r1),r2⟩
 | entry x=>
   simp only[iS,eE]at i;obtain⟨P,u,q⟩:=i;obtain⟨v,y,rfl,r1,r2⟩:=PD j (jW j A u) q
   exact .inl ⟨_,_,Δ,y,w,rfl,.inl (kY r1),r2,j,.refl _ _,.refl _ _⟩
 | convert src Q x=>
   simp only[iS]at i;split at i
   ·rename_i e L hd
    split at i
    ·rename_i N V
     simp only[eE]at i;obtain⟨xv,u,q⟩:=i;have S:=jW j A u;split at q
     ·cases q
      generalize hy:a.eval x=y at S
      cases S with
      | str s=>
        obtain⟨J,z,w',r1,r2⟩:=Pm j L hd N s;refine .inl ⟨_,_,J,z,w',rfl,.inl (kY ?_),r2⟩
        simp_all
     ·cases q
    ·cases i
   ·rename_i e0 e L hd
    split at i
    ·rename_i N hb
     simp only[eE]at i;obtain⟨xv,u,q⟩:=i;have S:=jW j A u;generalize hy:a.eval x=y at S;obtain⟨v',h',w',r1,r3,r2⟩:=Re j S (src:=src) (dst:=Q) (e0:=e0) (e:=e) L hd N (uW hb) q;refine .inl ⟨v',h',Δ,y,w',r1,.inl (kY ?_),r2⟩
     simp_all
    ·cases i
   ·cases i
 | call c =>
   obtain⟨X,args,G⟩:=c
   cases X with
   | builtin b=>
     simp only[iS]at i
     cases b with
     | append=>
       simp only at i;split at i
       ·rename_i s x sT xT B D
        have T:args = #[s,x]:=by apply Array.ext';exact B
        have H:G = #[sT,xT]:=by apply Array.ext';exact D
        subst T;subst H;split at i
        ·rename_i M e' L F
         have I:=wy L;split at i
         ·rename_i size lV z N
          simp only[eE]at i;obtain⟨sv,u,xv,q,C⟩:=i;obtain⟨v,h',J,y,w',rfl,r1,r2⟩:=Hg (ty:=E) (xT:=xT) j I F (by simp_all) N (jW j A u) (jW j A q) C;refine .inl ⟨_,_,J,y,w',rfl,.inl ?_,r2⟩;simp only[execOp,resolve,List.map_toArray];exact kY r1
         ·cases i
        ·rename_i M L F
         have I:=wy L;split at i
         ·rename_i size lV z N
          simp only[eE]at i;obtain⟨sv,u,xv,q,C⟩:=i;obtain⟨v,h',J,y,w',rfl,r1,r2⟩:=Hg (ty:=E) (xT:=xT) j I F (by simp_all) N (jW j A u) (jW j A q) C;refine .inl ⟨_,_,J,y,w',rfl,.inl ?_,r2⟩;simp only[execOp,resolve,List.map_toArray];exact kY r1
         ·cases i
        ·cases i
       ·cases i
     | copy =>
       simp only at i;split at i
       ·rename_i d s dT U B D
        have T:args = #[d,s]:=by apply Array.ext';exact B
        have H:G[0]? =some dT:=by rw[<-SI,D];rfl
        subst T;split at i
        ·rename_i M L
         have I:=wy L;split at i
         ·rename_i size V
          simp only[eE]at i;obtain⟨dv,u,sv,q,C⟩:=i;obtain⟨h',m,w',rfl,r1,r2,r3,K⟩:=RZ (rt:=E) j H I V (jW j A u) (jW j A q) C;refine .inl ⟨_,_,Δ,_,w',rfl,.inl ?_,.int _ _,r2,r3,K⟩;simp only[execOp,resolve,List.map_toArray];exact kY r1
         ·cases i
        ·cases i
       ·cases i
     | delete=>
       simp only at i;split at i
       ·rename_i m k mT U B D
        have T:args = #[m,k]:=by apply Array.ext';exact B
        have H:G[0]? =some mT:=by rw[<-SI,D];rfl
        subst T;split at i
        ·rename_i kt W F
         split at i
         ·rename_i d hd
          simp only[eE]at i;obtain⟨P,u,Z,q,C⟩:=i;obtain⟨h',w',rfl,r1,r2,r3,K⟩:=NN (rt:=E) j H F hd (jW j A u) (jW j A q) C;refine .inl ⟨_,_,Δ,_,w',rfl,.inl ?_,.tuple _ #[] .nil,r2,r3,K⟩;simp only[execOp,resolve,List.map_toArray];exact kY r1
         ·cases i
        ·cases i
       ·cases i
     |_=>cases i
   | value f=>
     simp only[iS,eE]at i;obtain⟨fv,u,l,q,C⟩:=i;obtain⟨g,l,fY,rfl,r1,r2⟩:=Rn (a:=a) (c:=⟨.value f,args,G⟩) (ty:=E) (args:=l) rfl rfl rfl (jW j A u) (by simpa using xW A q) C;refine .inr ⟨g,l,fY,rfl,r1,?_⟩
     grind[execOp]
   | invoke Y m=>
     simp only[iS,eE]at i;obtain⟨fv,u,l,q,C⟩:=i;obtain⟨g,l,fY,rfl,r1,r2⟩:=MT (a:=a) (c:=⟨.invoke Y m,args,G⟩) (ty:=E) j (args:=l) rfl rfl rfl (jW j A u) (by simpa using xW A q) C
     exact .inr ⟨g,l,fY,rfl,r1,r2⟩
 |_=>cases i
end
