/- Parts. -/
import Derived.Test.YtloecllhljfidaaDoorM37
import Derived.Test.YtloecllhljfidaaDoorM46
set_option maxHeartbeats 4000000
namespace Go.Proofs.YtloecllhljfidaaDoor.Hx
open Un Dm
structure Mk (mk:List Bool) (wl ws:List Nat) (a:List Bool) (b:List Nat):Prop where
 len:a.length=mk.length
 mark:∀v:Nat,a[v]? =some true↔mk[v]? =some true\/(v∈ws/\v<mk.length)
 work:∀v:Nat,v∈b↔v∈wl\/(v∈ws/\mk[v]? =some false)
 less:b.length+2*a.count false<=wl.length+2*mk.count false
theorem Mk.refl(mk:List Bool)(wl:List Nat):Mk mk wl [] mk wl:=⟨rfl,λv=>by simp,λv=>by simp,jb _⟩
theorem Mk.trans{mk e f:List Bool} {wl i g ws j:List Nat}(a:Mk mk wl ws e i)(b:Mk e i j f g):Mk mk wl (ws++j) f g where
 len:=b.len.trans a.len
 mark v:=by
  rw[b.mark,a.mark,a.len,Bm];constructor
  ·rintro((h|⟨c,d⟩)|⟨c,d⟩)
   ·exact .inl h
   ·exact .inr ⟨.inl c,d⟩
   ·exact .inr ⟨.inr c,d⟩
  ·rintro(h|⟨c|c,d⟩)
   ·exact .inl (.inl h)
   ·exact .inl (.inr ⟨c,d⟩)
   ·exact .inr ⟨c,d⟩
 work v:=by
  have n:e[v]? =some false↔mk[v]? =some false/\v ∉ ws:=by
   have c:=a.mark v;by_cases hl:v<mk.length
   ·have l:=g0 hl;have m:=g0 (show v<e.length by rw[a.len];exact hl);rw[l,m]at c;rw[l,m];cases d:e[v]'(by rw[a.len];exact hl) <;> cases k:mk[v] <;> simp[d,k,hl]at c⊢ <;> try exact c
   ·rw[JA (by rw[a.len];omega),JA (by omega)];simp
  rw[b.work,a.work,n,Bm];constructor
  ·rintro((h|⟨c,d⟩)|⟨c,d,_⟩)
   ·exact .inl h
   ·exact .inr ⟨.inl c,d⟩
   ·exact .inr ⟨.inr c,d⟩
  ·rintro(h|⟨c|c,d⟩)
   ·exact .inl (.inl h)
   ·exact .inl (.inr ⟨c,d⟩)
   ·by_cases k:v∈ws
    ·exact .inl (.inr ⟨k,d⟩)
    ·exact .inr ⟨c,d,k⟩
 less:=BX b.less a.less
theorem Mk.skip{mk:List Bool}{wl:List Nat}{v:Nat}(h:mk[v]? =some true):Mk mk wl [v] mk wl where
 len:=rfl
 mark w:=by
  constructor
  ·exact .inl
  ·rintro(a|⟨a,_⟩)
   ·exact a
   ·rw[Me.1 a];exact h
 work w:=by
  constructor
  ·exact .inl
  ·rintro(a|⟨a,b⟩)
   ·exact a
   ·rw[Me.1 a,h]at b;cases b
 less:=jb _
theorem count_mk{l:List Bool}:∀{v:Nat},l[v]? =some false->(l.set v true).count false+1=l.count false:=by
 induction l with
 |nil=>intro v h;simp at h
 | cons a l b=>
   intro v h
   cases v with
   | zero=>
     obtain rfl:a=false:=by simpa using h
     simp
   | succ v=>
     have:=b (v:=v) (by simpa using h);rw[lU,List.count_cons,List.count_cons];omega
theorem Mk.put{mk:List Bool}{wl:List Nat}{v:Nat}(h:mk[v]? =some false):Mk mk wl [v] (mk.set v true) (wl++[v]) where
 len:=Lm ..
 mark w:=by
  have hv:=(jk.1 h).1;by_cases e:w=v
  ·subst e;rw[Mt hv];exact⟨λ_=> .inr ⟨by simp,hv⟩,λ_=>rfl⟩
  ·rw[IB λh=>e h.symm];exact⟨.inl,λa=>a.elim id λb=>absurd (Me.1 b.1) e⟩
 work w:=by
  rw[Bm,Me];constructor
  ·rintro(a|rfl)
   ·exact .inl a
   ·exact .inr ⟨rfl,h⟩
  ·rintro(a|⟨a,_⟩)
   ·exact .inl a
   ·exact .inr a
 less:=by
  have:=count_mk h;rw[KC,List.length_singleton];omega
section
variable{F F':Nat->Prop}{h h':Hp}{cs ds:List Pc}{Q:fq}{u:U}{vv vb vs mv wv a0 a1 a2 a3 a4:V}{lm Tm:Nat}{mk:List Bool}{wl:List Nat}
abbrev Mx(mk:List Bool)(mv:V)(wl:List Nat)(wv:V)(lm Tm:Nat)(a0 a1 a2 a3 a4:V)(ds:List Pc):List Pc:=ev eB mg mk mv::ev eN en wl wv::er lm Tm [a0,a1,a2,a3,a4,mv,wv]::ds
theorem Er(E:ej F h (Mx mk mv wl wv lm Tm a0 a1 a2 a3 a4 ds)){ws:List Nat}{v:V}(hs:iG eN F h ws v)(r:∀w∈ws,w<mk.length)(W:ws.length<=700)(hb:wl.length+2*mk.count false<=100000)
  (H:∀h' a c d,Sn F h F h'->Mk mk wl ws a c->ej F h' (Mx a mv c d lm Tm a0 a1 a2 a3 a4 ds)->Q (.tuple []) h') :
  cP CS iH [.ptr lm 0,v] h Q:=by
 refine FU rfl rfl ?_;unfold yX;refine ed hs.len ?_
 refine CI (λk l h'=>∃(j:Nat) (a:List Bool) (c:List Nat) (d:V),l=[.ptr lm 0,v,.I ws.length,.I j]/\j+k=ws.length/\Sn F h F h'/\Mk mk wl (ws.take j) a c/\ej F h' (Mx a mv c d lm Tm a0 a1 a2 a3 a4 ds)) ?_ (k:=ws.length)
  ⟨0,mk,wl,wv,rfl,by omega,Sn.refl _ _,by rw[wB4];exact Mk.refl _ _,E⟩
 rintro k _ _ _ _ G ⟨j,a,c,d,⟨⟩,hk,q,f,i⟩;unfold uL;by_cases hj:j<ws.length
 ·refine gR ?_;have hx:=g0 hj;have n:=xV hx;have p:=r _ (EA hj);generalize ws[j]=w at*;obtain⟨l1,X,_,I,J⟩:=(hs.since q).nat hx .i64;obtain⟨b,g⟩:∃b,a[w]? =some b:=⟨_,g0 (by rw[f.len];exact p)⟩
  obtain⟨l2,Y,K,L⟩:=i.Nc 0 rfl g .i64;refine ed I (ed J (oN (i.ld 2 rfl rfl) (ed K (ed L (wW ?_)))));have s:=f.less
  cases b with
  | true=>
    refine gI rfl (vg ?_);unfold oK;refine jZ (m:=1) (by omega) (by omega) ⟨k-1,by omega,j+1,a,c,d,rfl,by omega,q,?_,i⟩;rw[n]
    exact f.trans (Mk.skip g)
  | false=>
    refine gv (by simp) ?_;obtain⟨l3,Z,B,M,N,_,t,O⟩:=i.Ma 0 rfl (k:=w) (y:=true) (u:=V.bool true) (by rw[f.len];exact p) rfl rfl rfl;refine oN (i.ld 2 rfl rfl) (ed M ?_);rw[N,ei];simp only[jx]at t;refine oN (t.ld 2 rfl rfl) ?_;rw[mN,fF];obtain⟨e,C,P,_,x,R⟩:=t.uI 1 rfl (kj:=8) (B2:=3) (y:=w) (w:=iT [w]) (ro:=false) rfl (by decide) (by decide) (by omega);have z:eR 3 1 8 d (.slice B.next 0 1) (B.new (.cells 3 1 true false (iT [w])))=some (.val e C):=P;rw[z,ei];simp only[jx,lU]at x;obtain⟨S,T,_,D,U⟩:=x.st 2 (o:=6) (u:=e) rfl (by simp) (x.one 1 rfl);refine ed pn (ed pf ?_);have A:gh 1 (.ptr lm (0+6)) e C=some (.val .undef S):=by rw[wO];exact T
    rw[A,ei];simp only[jx,lU]at D;refine vg ?_;unfold oK;refine jZ (m:=1) (by omega) (by omega) ⟨k-1,by omega,j+1,_,_,e,rfl,by omega,((q.trans O).trans R).trans U,?_,D⟩;rw[n];exact f.trans (Mk.put g)
 ·refine jf ?_;obtain rfl:j=ws.length:=by omega
  rw[Hj]at f;exact H G a c d q f i
theorem Qa(fs:List Fm)(f:Fm):ic (fs++[f])=ic fs++(f.locals++f.stack):=by
 unfold ic;rw[List.flatMap_append,List.flatMap_singleton]
theorem MU(g:Good u)(O:tL F h u vv vb vs)(E:ej F h (Mx mk mv wl wv lm Tm a0 a1 a2 a3 vs ds))(m:mk.length=u.ef.length){s:Nat}{fs:List Fm}(e:u.eh[s]? =some fs)(hb:wl.length+2*mk.count false<=100000)
  (H:∀h' a b c,Sn F h F h'->Mk mk wl (ic fs) a b->ej F h' (Mx a mv b c lm Tm a0 a1 a2 a3 vs ds)->Q (.tuple []) h') :
  cP CS lN [.ptr lm 0,.I s] h Q:=by
 refine EU rfl rfl ?_;unfold xJ;obtain⟨lx,P,f,_,R,_,p,G⟩:=O.st e;have p:eQ (.ptr lx (P+0)) h=some f:=p;have q:=Ol g s fs e;have n:=EI g e;refine ed pn (ed pf (oF (E.ld 2 rfl rfl) (ed R (oF p (ed G.len ?_)))))
 refine Bv (λk l h'=>∃(j:Nat) (a:List Bool) (b:List Nat) (c:V),l=[.ptr lm 0,f,.I fs.length,.I j]/\j+k=fs.length/\Sn F h F h'/\Mk mk wl (ic (fs.take j)) a b/\ej F h' (Mx a mv b c lm Tm a0 a1 a2 a3 vs ds)) ?_ (k:=fs.length)
  ⟨0,mk,wl,wv,rfl,by omega,Sn.refl _ _,by rw[wB4];exact Mk.refl _ _,E⟩
 rintro k _ _ _ _ I ⟨j,a,b,c,⟨⟩,hk,r,i,J⟩;unfold tF;by_cases hj:j<fs.length
 ·refine gR ?_;have hx:=g0 hj;have t:=xV hx;have d:=EA hj;generalize fs[j]=x at*;obtain⟨q1,q2⟩:=q.2 x d;have w:∀v∈x.locals,v<u.ef.length:=λv hv=>n v (Tu.2 ⟨x,d,My _ hv⟩);have y:∀v∈x.stack,v<u.ef.length:=λv hv=>n v (Tu.2 ⟨x,d,wBt _ hv⟩);obtain⟨ly,oy,S,T,_,U,W,K,L⟩:=(G.since r).wB hx;refine ed U (ed W ?_);refine gQ J rfl rfl (by simp only[Ji,eo,K.one,L.one];rfl) λX o z=>?_;generalize I.next=lf at*;have o:ej F X (Mx a mv b c lm Tm a0 a1 a2 a3 vs (er lf 44 (Ji x S T)::ds)):=o.FQ 3 (by simp);have l1:=i.less;refine oF (o.ld 3 rfl rfl) ?_;refine Er o (K.since z) (λv hv=>by rw[i.len,m];exact w v hv) (by omega) (by omega) λh3 Y Z aa M A N=>?_;have l3:=A.less;refine oF (N.ld 3 rfl rfl) ?_;refine Er N ((L.since z).since M) (λv hv=>by rw[A.len,i.len,m];exact y v hv) (by omega) (by omega) λh4 B C D s4 m4 H4=>?_;refine fS ⟨k-1,by omega,j+1,B,C,D,rfl,by omega,((r.trans z).trans M).trans s4,?_,H4.AY 3 (by simp)⟩;rw[t,Qa];exact i.trans (A.trans m4)
 ·refine jf ?_;obtain rfl:j=fs.length:=by omega
  rw[Hj]at i;exact H I a b c r i J
end
open Un Dm
structure DS (u:U) (D:Nat->Prop) (mk:List Bool) (wl:List Nat):Prop where
 len:mk.length=u.ef.length
 sound:∀v:Nat,mk[v]? =some true->Live u v
 work:∀v∈wl,mk[v]? =some true
 closed:∀v:Nat,mk[v]? =some true->v∈wl\/∀x,u.ef[v]? =some x->∀w∈gO x,mk[w]? =some true
 less:wl.length+2*mk.count false<=2*u.ef.length
 done:∀v,D v->mk[v]? =some true
theorem DS.mark{u:U} {D D':Nat->Prop} {mk a:List Bool} {wl b ws:List Nat}(d:DS u D mk wl)(m:Mk mk wl ws a b)(f:∀w∈ws,Live u w)(c:∀w∈ws,w<u.ef.length)(e:∀v,D' v->D v\/v∈ws):DS u D' a b:=by
 have up:∀v:Nat,mk[v]? =some true->a[v]? =some true:=λv hv=>(m.mark v).2 (.inl hv);have new:∀v,v∈ws->a[v]? =some true:=λv hv=>(m.mark v).2 (.inr ⟨hv,by rw[d.len];simp_all⟩);refine⟨m.len.trans d.len,λv hv=>?_,λv hv=>?_,λv hv=>?_,BX m.less d.less,λv hv=>(e v hv).elim (λh=>up v (d.done v h)) (new v)⟩
 ·rcases(m.mark v).1 hv with h|h
  ·exact d.sound v h
  simp_all
 ·rcases(m.work v).1 hv with h|h
  ·exact up v (d.work v h)
  simp_all
 ·by_cases h0:mk[v]? =some true
  ·rcases d.closed v h0 with h|h
   ·exact .inl ((m.work v).2 (.inl h))
   simp_all
  ·rcases(m.mark v).1 hv with h|⟨h,g⟩
   ·simp_all
   ·refine .inl ((m.work v).2 (.inr ⟨h,?_⟩))
    simp_all
theorem DS.pop{u:U}{D:Nat->Prop} {mk a:List Bool} {s c:List Nat}{v:Nat}{x:Vl}(d:DS u D mk (s++[v]))(hx:u.ef[v]? =some x)(e:∀w∈gO x,w<u.ef.length)(m:Mk mk s (gO x) a c):DS u D a c:=by
 have hv:=d.work v (by simp);have up:∀v:Nat,mk[v]? =some true->a[v]? =some true:=λv hv=>(m.mark v).2 (.inl hv);have new:∀w,w∈gO x->a[w]? =some true:=λw b=>(m.mark w).2 (.inr ⟨b,by rw[d.len];simp_all⟩);have l1:=d.less;have l2:=m.less;rw[KC,List.length_singleton]at l1;refine⟨m.len.trans d.len,λw b=>?_,λw b=>?_,λw b=>?_,by omega,λw b=>up w (d.done w b)⟩
 ·rcases(m.mark w).1 b with h|h
  ·exact d.sound w h
  ·exact .use (d.sound v hv) hx h.1
 ·rcases(m.work w).1 b with h|h
  ·exact up w (d.work w (by simp[h]))
  simp_all
 ·by_cases h0:mk[w]? =some true
  ·rcases d.closed w h0 with h|h
   ·rcases Bm.1 h with h|h
    ·exact .inl ((m.work w).2 (.inl h))
    simp_all
   simp_all
  ·rcases(m.mark w).1 b with h|⟨h,f⟩
   ·simp_all
   ·refine .inl ((m.work w).2 (.inr ⟨h,?_⟩))
    simp_all
theorem DS.all{u:U}{mk:List Bool}(d:DS u (Ww u) mk []){v:Nat}(h:Live u v):mk[v]? =some true:=by
 induction h with
 |root h=>exact d.done _ h
 | use h hx c b=>
   rcases d.closed _ b with a|a
   ·cases a
   simp_all
theorem Va{x:Vl}(h:x.op=21\/x.op=20->x.args.length<=700):(gO x).length<=700:=by
 grind[gO,Pb,JT]
section
variable{F F':Nat->Prop}{h h':Hp}{cs ds:List Pc}{Q:fq}{u:U}{vv vb vs:V}
def Zi(u:U)(i:Nat)(v:Nat):Prop:=(v<i/\∃x,u.ef[v]? =some x/\(x.op=19\/x.op=20\/x.op=22\/x.op=23))\/∃(j:Nat)(x:Vl)(fs:List Fm),j<i/\u.ef[j]? =some x/\leaves x.op=true/\u.eh[x.state]? =some fs/\v∈ic fs
def RtB(u:U)(i:Nat)(v:Nat):Prop:=(∃(b:Nat)(B:Bk),b<i/\u.blocks[b]? =some B/\B.fin=2/\v=B.cond)\/∃(b:Nat)(B:Bk)(fs:List Fm),b<i/\u.blocks[b]? =some B/\B.fin=3/\u.eh[B.state]? =some fs/\v∈ic fs
theorem Y7(g:Good u)(ha:oh u)(H0:ej F h cs)(hu:tL F h u vv vb vs)
  (H:∀F' h' az wv wb ws,Sn F h F' h'->ej F' h' cs->IM u (iL az)->az.length=u.ef.length->tL F' h' (gG u (iL az)) wv wb ws->Q (.agg (uC (gG u (iL az)) wv wb ws)) h') :
  cP CS wG [.agg (uC u vv vb vs)] h Q:=by
 refine PG rfl rfl ?_;unfold I8;have nv:=g.nv;refine jP H0 hu.one λf H1 s1=>rh H1 λr H2 s2=>?_;generalize h.next=l1 at*;generalize f.next=l2 at*;refine ed (H2.oL 1 rfl rfl) ?_;refine LD g H2 ((hu.since s1).since s2) λF3 C s3 H3=>?_;refine wW (gI rfl ?_);have aj:=(s1.trans s2).trans s3;have u3:=hu.since aj;refine ed (H3.oL 1 rfl rfl) (oF (H3.ld 1 rfl rfl) (ed u3.v.len ?_));rw[oC (z:=V.bool false) rfl (by decide) (by omega),gZ];obtain⟨H4,s4⟩:=H3.make (E:=eB) (ty:=mg) (y:=false) (u:=V.bool false) u.ef.length rfl rfl;refine ed (by rfl) ?_;refine Td H4 (by simp only[eo,u3.v.one,u3.b.one,u3.s.one];rfl) λH5 s5=>?_;have e5:∀{o o':O},((C.new o).new o').get C.next=some o:=λ{o o'}=>by rw[fh _ (by simp_all),fi]
 refine⟨⟨fi _ _,bq⟩,⟨e5,bq⟩,H5.ld 3 rfl rfl,H5.oL 3 rfl rfl,?_⟩;have ak:=(aj.trans s4).trans s5;have t:=(H5.add (p:=ev eN en [] .ee) .nil λ_ h=>h).perm [2,0,1] 3 (by decide) (by decide) (by simp);clear e5 H5 H4 H3 H2 H1 s1 s2 s3 s4 s5;generalize ((C.new (.cells mg 1 true false (List.replicate u.ef.length (V.bool false)))).new _)=h5 at*;generalize (C.new (.cells mg 1 true false (List.replicate u.ef.length (V.bool false)))).next=lm at*;generalize C.next=lk at*;obtain⟨Tm,t⟩:∃Tm,ej F3 h5 (Mx (List.replicate u.ef.length false) (.slice lk 0 u.ef.length) [] .ee lm Tm (.I u.func) (.I u.pc) vv vb vs (er l2 fT [.I 0,.I 0,.ee,.ee,.ee]::er l1 29 (uC u vv vb vs)::cs)):=⟨_,t⟩
 have u5:=hu.since ak;refine oF (t.ld 4 rfl rfl) (ed u5.v.len ?_);have ay:∀v:Nat,(List.replicate u.ef.length false)[v]?≠some true:=by grind
 have d0:DS u (Zi u 0) (List.replicate u.ef.length false) []:=⟨wBY,by simp_all,by simp_all,by simp_all,by simp,λv hv=>by
  rcases hv with⟨h,_⟩|⟨_,_,_,h,_⟩ <;> omega⟩
 obtain ⟨I,L⟩:∃I:Nat->LP,I=λk l h'=>∃(F':Nat->Prop) (i:Nat) (mk:List Bool) (wl:List Nat) (wv:V),l=[.ptr l1 0,.ptr l2 0,.ptr lm 0,vv,.I u.ef.length,.I i]/\i+k=u.ef.length/\Sn F h F' h'/\DS u (Zi u i) mk wl/\
   ej F' h' (Mx mk (.slice lk 0 u.ef.length) wl wv lm Tm (.I u.func) (.I u.pc) vv vb vs (er l2 fT [.I 0,.I 0,.ee,.ee,.ee]::er l1 29 (uC u vv vb vs)::cs)):=⟨_,rfl⟩
 refine Lk I (λk x1 x2 x3 aI aJ aK h6 hi=>?_) (k:=u.ef.length) ?_
 ·rw [L] at hi;obtain⟨F6,i,mk,wl,wv,⟨⟩,hk,s6,d,t⟩:=hi;unfold DM;have u6:=hu.since s6;have dl:=d.less;by_cases hi:i<u.ef.length
  ·refine gR ?_;have hx:=g0 hi;generalize u.ef[i]=x at*;obtain⟨lv,ov,w,_,y1,y2,xw,_⟩:=u6.val hx;refine ed y1 (ed y2 ?_);refine gQ t rfl rfl (by simp only[lW,eo,xw.one];rfl) λh7 A s7=>?_;generalize h6.next=lx at*;have A:ej F6 h7 (Mx mk (.slice lk 0 u.ef.length) wl wv lm Tm (.I u.func) (.I u.pc) vv vb vs (er lx 40 (lW x w)::_)):=A.FQ 3 (by simp)
   have wc:∀{F8 Y D G M},Sn F h F8 Y->DS u (Zi u (i+1)) D G->ej F8 Y (Mx D (.slice lk 0 u.ef.length) G M lm Tm (.I u.func) (.I u.pc) vv vb vs (er lx 40 (lW x w)::er l2 fT [.I 0,.I 0,.ee,.ee,.ee]::er l1 29 (uC u vv vb vs)::cs))->
     ou CS Q (A4 I k) [.ptr l1 0,.ptr l2 0,.ptr lm 0,vv,.I u.ef.length,.I i] Y:=λ{F8 Y D G M} W d8 P=>by
    refine JI ?_;unfold B3;refine fS ⟨k-1,by omega,?_⟩;rw[L];exact⟨F8,i+1,D,G,M,rfl,by omega,W,d8,P.AY 3 (by simp)⟩
   have q:∀v,Zi u (i+1) v->Zi u i v\/(v=i/\(x.op=19\/x.op=20\/x.op=22\/x.op=23))\/∃fs,leaves x.op=true/\u.eh[x.state]? =some fs/\v∈ic fs:=λv hv=>by
    rcases hv with⟨f,y,r,C⟩|⟨j,y,fs,f,r,C,h4,h5⟩
    ·by_cases e:v=i
     ·simp_all
     ·exact .inl (.inl ⟨by omega,y,r,C⟩)
    ·by_cases e:j=i
     ·simp_all
     ·exact .inl (.inr ⟨j,y,fs,by omega,r,C,h4,h5⟩)
   have al:∀w∈[i],w<u.ef.length:=by simp_all
   have N:=s6.trans s7;have ah:ru CS Q (A4 I k) [.ptr l1 0,.ptr l2 0,.ptr lm 0,.I i,.ptr lx 0,vv,.I u.ef.length,.I i,.I x.op,.bool (leaves x.op)] h7:=by
    refine JD ?_;unfold B1;refine jF ?_;by_cases hlv:leaves x.op=true
    ·refine gI hlv (oF (A.ld 3 rfl rfl) ?_);have ai:=g.leave i x hx hlv;have R:=g0 ai;generalize u.eh[x.state]=fs at*;refine MU g (hu.since N) A d.len R (by omega) λY D G M W m8 P=>?_;have am:x.op=22\/x.op=23:=by unfold leaves at hlv;simpa using hlv
     have d8:=d.mark (D':=λv=>Zi u i v\/v∈ic fs) m8 (λv hv=> .root (.inr (.inl ⟨i,x,fs,hx,hlv,R,hv⟩))) (EI g R) (by simp_all);have l8:=d8.less;refine Oz [i] (mN _) P λF9 h9 v9 H9 s9 r9=>?_;refine Er H9 r9 (λw X=>by rw[d8.len];simp_all) (by simp) (by omega) λaa S T Z K U J=>?_;refine wc (((N.trans W).trans s9).trans K) (d8.mark U (λw X=>?_) al λv hv=>?_) J
     ·rw[Me.1 X];exact .root (.inl ⟨x,hx,by omega⟩)
     grind
    ·refine gv hlv ?_;have ay:¬(x.op=22\/x.op=23):=by unfold leaves at hlv;simpa using hlv
     have an:∀b:Bool,(b=true↔x.op=19\/x.op=20)->rE CS Q (A4 I k) [.ptr l1 0,.ptr l2 0,.ptr lm 0,.I i,vv,.I u.ef.length,.I i,.bool b] h7:=λb hb=>by
      refine JJ ?_;unfold B8;refine jF ?_
      cases b with
      | true=>
        refine gI rfl ?_;have am:=hb.1 rfl;refine Oz [i] (mN _) A λF9 h9 v9 H9 s9 r9=>?_;refine Er H9 r9 (λw X=>by rw[d.len];simp_all) (by simp) (by omega) λaa S T Z K U J=>?_;refine wc ((N.trans s9).trans K) (d.mark U (λw X=>?_) al λv hv=>?_) J
        ·rw[Me.1 X]
         exact .root (.inl ⟨x,hx,by omega⟩)
        ·rcases q v hv with f|⟨f,_⟩|⟨_,r,_⟩
         ·exact .inl f
         ·exact .inr (by rw[f];simp)
         ·exact absurd r hlv
      | false=>
        refine gv (by simp) (wc N ?_ A);have am:¬(x.op=19\/x.op=20):=λh=>by have:=hb.2 h;cases this
        refine⟨d.len,d.sound,d.work,d.closed,d.less,λv hv=>?_⟩;rcases q v hv with f|⟨_,f⟩|⟨_,r,_⟩
        ·exact d.done v f
        ·omega
        ·exact absurd r hlv
     refine ed (ie ..) (jF ?_);by_cases c:x.op=19
     ·have e:((x.op:Int) == 19)=true:=EE.2 (by omega);rw[e];exact gI rfl (an true ⟨λ_=> .inl c,λ_=>rfl⟩)
     ·have e:((x.op:Int) == 19)=false:=SJ.2 (by omega);rw[e];refine gv (by simp) (ed (ie ..) (an _ ?_));rw[EE];constructor
      ·intro h;exact .inr (by omega)
      ·intro h;omega
   refine oF (A.ld 3 rfl rfl) (ed (ie ..) (jF ?_));by_cases c:x.op=22
   ·have e:((x.op:Int) == 22)=true:=EE.2 (by omega);have e2:leaves x.op=true:=by rw[c];rfl
    rw[e2]at ah;rw[e];exact gI rfl ah
   ·have e:((x.op:Int) == 22)=false:=SJ.2 (by omega);rw[e];refine gv (by simp) (ed (ie ..) ?_);have e2:((x.op:Int) == 23)=leaves x.op:=by
     unfold leaves;by_cases c2:x.op=23
     ·rw[c2];rfl
     ·rw[SJ.2 (show(x.op:Int)≠23 by omega),SJ.2 c,SJ.2 c2];rfl
    rw[e2];exact ah
  ·refine jf ?_;obtain rfl:i=u.ef.length:=by omega
   refine oF (t.ld 4 rfl rfl) (ed u6.b.len ?_);have nb:=g.nb;clear hk hi k L I;have d1:DS u (λv=>Zi u u.ef.length v\/RtB u 0 v) mk wl:=⟨d.len,d.sound,d.work,d.closed,d.less,λv hv=>hv.elim (d.done v) λh=>by
    rcases h with⟨_,_,h,_⟩|⟨_,_,_,h,_⟩ <;> omega⟩
   obtain ⟨I,L⟩:∃I:Nat->LP,I=λk l h'=>∃(F':Nat->Prop) (i:Nat) (mk:List Bool) (wl:List Nat) (wv:V),l=[.ptr l1 0,.ptr l2 0,.ptr lm 0,vb,.I u.blocks.length,.I i]/\i+k=u.blocks.length/\Sn F h F' h'/\DS u (λv=>Zi u u.ef.length v\/RtB u i v) mk wl/\
     ej F' h' (Mx mk (.slice lk 0 u.ef.length) wl wv lm Tm (.I u.func) (.I u.pc) vv vb vs (er l2 fT [.I 0,.I 0,.ee,.ee,.ee]::er l1 29 (uC u vv vb vs)::cs)):=⟨_,rfl⟩
   refine KJ I (λk x1 x2 x3 aL aM aN h6 hi=>?_) (k:=u.blocks.length) ?_;rotate_left
   ·rw[L];exact⟨F6,0,mk,wl,wv,rfl,by omega,s6,d1,t⟩
   clear d1 d dl t u6 s6 mk wl wv;rw[L]at hi;obtain⟨F6,i,mk,wl,wv,⟨⟩,hk,s6,d,t⟩:=hi;unfold DY;have u6:=hu.since s6;have dl:=d.less;by_cases hi:i<u.blocks.length
   ·refine gR ?_;have hB:=g0 hi;generalize u.blocks[i]=B at*;obtain⟨lv,ov,bv,bn,bp,_,y1,y2,iv,iN,ip,_⟩:=u6.vf hB;refine ed y1 (ed y2 ?_);refine gQ t rfl rfl (by simp only[kS,eo,iv.one,iN.one,ip.one];rfl) λh7 A s7=>?_;generalize h6.next=lx at*;have A:ej F6 h7 (Mx mk (.slice lk 0 u.ef.length) wl wv lm Tm (.I u.func) (.I u.pc) vv vb vs (er lx 38 (kS B bv bn bp)::_)):=A.FQ 3 (by simp);have N:=s6.trans s7
    have wc:∀{F8 Y D G M},Sn F h F8 Y->DS u (λv=>Zi u u.ef.length v\/RtB u (i+1) v) D G->ej F8 Y (Mx D (.slice lk 0 u.ef.length) G M lm Tm (.I u.func) (.I u.pc) vv vb vs (er lx 38 (kS B bv bn bp)::er l2 fT [.I 0,.I 0,.ee,.ee,.ee]::er l1 29 (uC u vv vb vs)::cs))->
      od CS Q (A4 I k) [.ptr l1 0,.ptr l2 0,.ptr lm 0,vb,.I u.blocks.length,.I i] Y:=λ{F8 Y D G M} W d8 P=>by
     refine JK ?_;unfold Cj;refine fS ⟨k-1,by omega,?_⟩;rw[L];exact⟨F8,i+1,D,G,M,rfl,by omega,W,d8,P.AY 3 (by simp)⟩
    have q:∀v,RtB u (i+1) v->RtB u i v\/(B.fin=2/\v=B.cond)\/∃fs,B.fin=3/\u.eh[B.state]? =some fs/\v∈ic fs:=λv hv=>by
     rcases hv with⟨j,y,f,r,C,h4⟩|⟨j,y,fs,f,r,C,h4,h5⟩
     ·by_cases e:j=i
      ·subst e;rw[hB]at r;cases r;exact .inr (.inl ⟨C,h4⟩)
      ·exact .inl (.inl ⟨j,y,by omega,r,C,h4⟩)
     ·by_cases e:j=i
      ·subst e;rw[hB]at r;cases r;exact .inr (.inr ⟨fs,C,h4,h5⟩)
      ·exact .inl (.inr ⟨j,y,fs,by omega,r,C,h4,h5⟩)
    refine oF (A.ld 3 rfl rfl) (gM ?_);by_cases c2:B.fin=2
    ·refine gI (by omega) (oF (A.ld 3 rfl rfl) ?_);have aA:B.cond<u.ef.length:=by
      rcases g.fin i B hB with⟨h,_⟩|⟨_,_,h⟩|⟨h,_⟩
      ·omega
      ·exact yj h
      ·omega
     have ao:∀w∈[B.cond],w<u.ef.length:=λw X=>by rw[Me.1 X];exact aA
     refine Oz [B.cond] (mN _) A λF9 h9 v9 H9 s9 r9=>?_;refine Er H9 r9 (λw X=>by rw[d.len];exact ao w X) (by simp) (by omega) λaa S T Z K U J=>?_;refine wc ((N.trans s9).trans K) (d.mark U (λw X=>?_) ao λv hv=>?_) J
     ·rw[Me.1 X];exact .root (.inr (.inr (.inl ⟨i,B,hB,c2,rfl⟩)))
     ·rcases hv with f|f
      ·exact .inl (.inl f)
      ·rcases q v f with f|⟨_,f⟩|⟨_,r,_⟩
       ·exact .inl (.inr f)
       ·exact .inr (by rw[f];simp)
       ·omega
    ·refine gv (by omega) (gM ?_);by_cases c3:B.fin=3
     ·refine gI (by omega) (oF (A.ld 3 rfl rfl) ?_);have ai:B.state<u.eh.length:=by
       rcases g.fin i B hB with⟨h,_⟩|⟨h,_⟩|⟨_,_,h⟩
       ·omega
       ·omega
       ·exact h
      have R:=g0 ai;generalize u.eh[B.state]=fs at*;refine MU g (hu.since N) A d.len R (by omega) λY D G M W m8 P=>?_;refine wc (N.trans W) (d.mark m8 (λv hv=> .root (.inr (.inr (.inr ⟨i,B,fs,hB,c3,R,hv⟩)))) (EI g R) λv hv=>?_) P;rcases hv with f|f
      ·exact .inl (.inl f)
      ·rcases q v f with f|⟨f,_⟩|⟨aO,_,r,C⟩
       ·exact .inl (.inr f)
       ·omega
       ·rw[R]at r;cases r;exact .inr C
     ·refine gv (by omega) (wc N ⟨d.len,d.sound,d.work,d.closed,d.less,λv hv=>?_⟩ A);rcases hv with f|f
      ·exact d.done v (.inl f)
      ·rcases q v f with f|⟨f,_⟩|⟨_,f,_⟩
       ·exact d.done v (.inr f)
       ·omega
       ·omega
   refine jf ?_;obtain rfl:i=u.blocks.length:=by omega
   have d2:DS u (Ww u) mk wl:=⟨d.len,d.sound,d.work,d.closed,d.less,λv hv=>by
    have ab:=TI g hv;rcases hv with h|⟨j,x,fs,f,r,C,h4⟩|⟨b,B,f,r,C⟩|⟨b,B,fs,f,r,C,h4⟩
    ·exact d.done v (.inl (.inl ⟨ab,h⟩))
    ·exact d.done v (.inl (.inr ⟨j,x,fs,(jk.1 f).1,f,r,C,h4⟩))
    ·exact d.done v (.inr (.inl ⟨b,B,(jk.1 f).1,f,r,C⟩))
    ·exact d.done v (.inr (.inr ⟨b,B,fs,(jk.1 f).1,f,r,C,h4⟩))⟩
   clear hk hi k L I d
   obtain ⟨I,L⟩:∃I:Nat->LP,I=λk l h'=>∃(F':Nat->Prop) (mk:List Bool) (wl:List Nat) (wv:V),l=[.ptr l1 0,.ptr l2 0,.ptr lm 0]/\k=wl.length+2*mk.count false/\Sn F h F' h'/\DS u (Ww u) mk wl/\
     ej F' h' (Mx mk (.slice lk 0 u.ef.length) wl wv lm Tm (.I u.func) (.I u.pc) vv vb vs (er l2 fT [.I 0,.I 0,.ee,.ee,.ee]::er l1 29 (uC u vv vb vs)::cs)):=⟨_,rfl⟩
   refine Lj I (λk x1 x2 x3 h6 hi=>?_) (k:=wl.length+2*mk.count false) ?_;rotate_left
   ·rw[L];exact⟨F6,mk,wl,wv,rfl,rfl,s6,d2,t⟩
   clear d2 dl t u6 s6 mk wl wv;rw[L]at hi;obtain⟨F6,mk,wl,wv,⟨⟩,hk,s6,d,t⟩:=hi;unfold DX;have u6:=hu.since s6;have dl:=d.less;refine oN (t.ld 2 rfl rfl) (ed (t.len 1 rfl) ?_);rcases kY wl with rfl|⟨s,v,rfl⟩
   ·refine Co (gv (by simp) ?_);refine ed (t.oL 4 rfl rfl) ?_;refine JQ u6.one u6.v.len nv t λh7 av s7 A=>?_;refine oN (A.ld 3 rfl rfl) (ed (a:= .I u.ef.length) ((A.len 1 rfl).trans (by rw[d.len])) ?_);have aB:=s6.trans s7;clear hk L I
    obtain ⟨I,L⟩:∃I:Nat->LP,I=λk l h'=>∃(i:Nat) (ys:List Int),l=[.ptr l1 0,.ptr l2 0,av,.slice lk 0 u.ef.length,.I u.ef.length,.I i]/\i+k=u.ef.length/\ys.length=u.ef.length/\(∀j:Nat,j<u.ef.length->ys[j]? =some (if j<i/\mk[j]?≠some true then -1 else(j:Int)))/\Sn F h F6 h'/\
      ej F6 h' (ev eZ en ys av::Mx mk (.slice lk 0 u.ef.length) [] wv lm Tm (.I u.func) (.I u.pc) vv vb vs (er l2 fT [.I 0,.I 0,.ee,.ee,.ee]::er l1 29 (uC u vv vb vs)::cs)):=⟨_,rfl⟩
    refine KN I (λk x1 x2 x9 aE aF aG Y hi=>?_) (k:=u.ef.length) ?_;rotate_left
    ·rw[L];refine⟨0,_,rfl,by omega,by simp,λj hj=>?_,aB,A⟩;rw[if_neg (by omega),xk,wBm hj];rfl
    clear A;rw[L]at hi;obtain⟨i,ys,⟨⟩,hk,ac,ae,W,P⟩:=hi;unfold Dd;by_cases hi:i<u.ef.length
    ·refine gR ?_;obtain⟨b,ag⟩:∃b,mk[i]? =some b:=⟨_,g0 (by rw[d.len];exact hi)⟩
     obtain⟨la,oa,z1,z2⟩:=P.Nc 1 rfl ag .i64;refine ed z1 (ed z2 (wW ?_))
     cases b with
     | true=>
       refine gI rfl (Cm ?_);unfold wU;refine jZ (m:=1) (by omega) (by omega) ⟨k-1,by omega,?_⟩;rw[L];refine⟨i+1,ys,rfl,by omega,ac,λj hj=>?_,W,P⟩;rw[ae j hj];by_cases e:j=i
       ·subst e
        rw[if_neg (λh=>h.2 ag),if_neg (λh=>h.2 ag)]
       ·by_cases c:j<i/\mk[j]?≠some true
        ·rw[if_pos c,if_pos ⟨by omega,c.2⟩]
        ·rw[if_neg c,if_neg λh=>c ⟨by omega,h.2⟩]
     | false=>
       refine gv (by simp) ?_;obtain⟨lb,ob,h9,e1,e2,_,H9,s9⟩:=P.Ma 0 rfl (k:=i) (y:=-1) (u:=V.I (-1)) (by omega) rfl rfl rfl;refine ed e1 ?_;rw[e2,ei];simp only[jx]at H9;refine Cm ?_;unfold wU;refine jZ (m:=1) (by omega) (by omega) ⟨k-1,by omega,?_⟩;rw[L];refine⟨i+1,ys.set i (-1),rfl,by omega,by rw[Lm];exact ac,λj hj=>?_,W.trans s9,H9⟩;by_cases e:j=i
       ·subst e
        rw[Mt (by omega),if_pos ⟨by omega,by rw[ag];simp⟩]
       ·rw[IB λh=>e h.symm,ae j hj]
        by_cases c:j<i/\mk[j]?≠some true
        ·rw[if_pos c,if_pos ⟨by omega,c.2⟩]
        ·rw[if_neg c,if_neg λh=>c ⟨by omega,h.2⟩]
    ·refine jf ?_;obtain rfl:i=u.ef.length:=by omega
     refine ed (P.oL 5 rfl rfl) ?_;have ap:∀(v:Nat) (a:Int),ys[v]? =some a->a<ys.length:=λv a hv=>by
      have ab:=(jk.1 hv).1;rw[ae v (by omega)]at hv;have:=Option.some.inj hv;split at this <;> omega
     refine TY g ha ac ap P (hu.since W) λF9 h9 aq ar au s9 H9 u9=>?_;obtain⟨aa,aC,_,J,K⟩:=H9.Uf 3 (ws:=uC (gG u (iL ys)) aq ar au) (n:=5) rfl rfl rfl u9.one;rw[aC,ei];simp only[jx,lU]at J;refine ed (J.oL 3 rfl rfl) ?_;refine H F9 aa ys aq ar au ((W.trans s9).trans K) J.tail.tail.tail.tail.tail (λv hv=>?_) ac (u9.since K);have e:=CX (ae v hv);rw[e];by_cases c:mk[v]? =some true
     ·rw[if_neg λh=>h.2 c];exact .inl ⟨rfl,d.sound v c⟩
     ·rw[if_pos ⟨hv,c⟩];exact .inr ⟨rfl,λhl=>c (d.all hl)⟩
   ·refine Co (gI (by simp <;> omega) ?_);have hlen:(s++[v]).length-1=s.length:=by simp
    have hs:(s++[v]).length=s.length+1:=by simp
    refine oN (t.ld 2 rfl rfl) (oN (t.ld 2 rfl rfl) (ed (t.len 1 rfl) (qa (by omega) (by simp) ?_)));rw[hlen];obtain⟨la,oa,x1,x2⟩:=t.Ia 1 rfl (k:=s.length) (x:=v) (by simp) .i64;refine ed x1 (ed x2 ?_);refine oN (t.ld 2 rfl rfl) (oN (t.ld 2 rfl rfl) (ed (t.len 1 rfl) (qa (by omega) (by simp) ?_)));rw[hlen];obtain⟨aw,e1,A⟩:=t.ZN 1 rfl (n:=s.length) (by simp);refine ed e1 (ed pn (ed pf ?_));have et:(s++[v]).take s.length=s:=by simp
    simp only[jx,lU,et]at A;obtain⟨Y,e8,n8,P,W⟩:=A.st 2 (o:=6) (u:=aw) rfl (by simp) (A.one 1 rfl);have aD:gh 1 (.ptr lm (0+6)) aw h6=some (.val .undef Y):=by rw[wO];exact e8
    rw [aD,ei];simp only[jx,lU]at P;refine⟨n8,?_⟩;have u8:=u6.since W;have ab:v<u.ef.length:=by
     have:=(jk.1 (d.work v (by simp))).1;rw[d.len]at this;exact this
    have hx:=g0 ab;generalize u.ef[v]=x at*;obtain⟨lv,ov,w,_,y1,y2,xw,_⟩:=u8.val hx;refine oF (P.ld 4 rfl rfl) (ed y1 (ed y2 ?_));refine BI P xw (λh=>BX (Nq g hx h) (by decide)) λF9 h9 v9 s9 H9 r9=>?_;have ax:∀w∈gO x,w<u.ef.length:=λw X=>yj (g.use v x hx w X);refine Er H9 r9 (λw X=>by rw[d.len];exact ax w X) (Va λh=>Nq g hx h) (by omega) λaa S T Z K U J=>?_;have aH:=U.less;refine⟨T.length+2*S.count false,by omega,?_⟩;rw[L];exact⟨F9,S,T,Z,rfl,rfl,((s6.trans W).trans s9).trans K,d.pop hx ax U,J⟩
 ·rw[L];exact⟨F3,0,_,[],.ee,rfl,by omega,ak,d0,t⟩
end
