/- Parts. -/
import Derived.Test.YtloecllhljfidaaGreatDoorM37
import Derived.Test.YtloecllhljfidaaGreatDoorM46
set_option maxHeartbeats 4000000
namespace Go.Proofs.YtloecllhljfidaaGreatDoor.Hx
open Un Dm
variable{mk:List Bool}{wl:List Nat}{v:Nat}{u:U}
structure Mk (mk:List Bool) (wl ws:List Nat) (a:List Bool) (b:List Nat):Prop where
 len:a.length=mk.length
 mark:∀v,a[v]? =some true↔mk[v]? =some true\/(v∈ws/\v<mk.length)
 work:∀v,v∈b↔v∈wl\/(v∈ws/\mk[v]? =some false)
 less:b.length+2*a.count false<=wl.length+2*mk.count false
theorem Mk.refl(mk:List Bool)(wl:List Nat):Mk mk wl [] mk wl:=⟨rfl,λv=>by simp,λv=>by simp,iZ _⟩
theorem Mk.trans{e f:List Bool} {i g ws j:List Nat}(a:Mk mk wl ws e i)(b:Mk e i j f g):Mk mk wl (ws++j) f g where
 len:=b.len.trans a.len
 mark v:=by
  rw[b.mark,a.mark,a.len,EG];constructor
  ·rintro((h|⟨c,d⟩)|⟨c,d⟩)
   ·exact .inl h
   ·exact .inr ⟨.inl c,d⟩
   ·exact .inr ⟨.inr c,d⟩
  ·rintro(h|⟨c|c,d⟩)
   ·exact .inl (.inl h)
   ·exact .inl (.inr ⟨c,d⟩)
   ·exact .inr ⟨c,d⟩
 work v:=by
  have m:e[v]? =some false↔mk[v]? =some false/\v ∉ ws:=by
   have c:=a.mark v;by_cases hl:v<mk.length
   ·have n:=gN hl;have l:=gN (by rw[a.len];exact hl);rw[ l]at c;rw[ l];cases d:e[v]'(by rw[a.len];exact hl) <;> cases k:mk[v] <;> simp[d,k,hl]at c⊢ <;> try exact c
   ·rw[Q9 (by rw[a.len];omega),Q9 (by omega)];simp
  rw[b.work,a.work,m,EG];constructor
  ·rintro((h|⟨c,d⟩)|⟨c,d,_⟩)
   ·exact .inl h
   ·exact .inr ⟨.inl c,d⟩
   ·exact .inr ⟨.inr c,d⟩
  ·rintro(h|⟨c|c,d⟩)
   ·exact .inl (.inl h)
   ·exact .inl (.inr ⟨c,d⟩)
   ·by_cases k:v∈ws
    ·exact .inl (.inr ⟨k,d⟩)
    ·exact .inr ⟨c,d,k⟩
 less:=Gq b.less a.less
theorem Mk.skip(h:mk[v]? =some true):Mk mk wl [v] mk wl where
 len:=rfl
 mark w:=by
  constructor
  ·exact .inl
  ·rintro(a|⟨a,_⟩)
   ·exact a
   ·rw[Pl.1 a];exact h
 work w:=by
  constructor
  ·exact .inl
  ·rintro(a|⟨a,b⟩)
   ·exact a
   ·rw[Pl.1 a,h]at b;cases b
 less:=iZ _
theorem count_mk{l:List Bool}:∀{v:Nat},l[v]? =some false->(l.set v true).count false+1=l.count false:=by
 induction l with
 |nil=>intro v h;simp at h
 | cons a l b=>
   intro v h
   cases v with
   | zero=>
     obtain rfl:a=false:=by simpa using h
     simp
   | succ v=>
     have:=b (by simpa using h);rw[pJ,List.count_cons,List.count_cons];omega
theorem Mk.put(h:mk[v]? =some false):Mk mk wl [v] (mk.set v true) (wl++[v]) where
 len:=Lj ..
 mark w:=by
  have hv:=(jo.1 h).1;by_cases e:w=v
  ·subst e;rw[MR hv];exact⟨λ_=> .inr ⟨by simp,hv⟩,λ_=>rfl⟩
  ·rw[I9 λh=>e h.symm];exact⟨.inl,λa=>a.elim id λb=>absurd (Pl.1 b.1) e⟩
 work w:=by
  rw[EG,Pl];constructor
  ·rintro(a|rfl)
   ·exact .inl a
   ·exact .inr ⟨rfl,h⟩
  ·rintro(a|⟨a,_⟩)
   ·exact .inl a
   ·exact .inr a
 less:=by
  have:=count_mk h;rw[Lw,wBo];omega
section
variable{F F':Nat->Prop}{h h':Hp}{cs ds:List Pc}{Q:fq}{u:U}{vv vb vs mv wv a0 a1 a2 a3 a4:V}{lm Tm:Nat}{mk:List Bool}{wl:List Nat}
abbrev Mx(mk:List Bool)(mv:V)(wl:List Nat)(wv:V)(lm Tm:Nat)(a0 a1 a2 a3 a4:V)(ds:List Pc):List Pc:=fg eB jZ mk mv::fg eN eR wl wv::eJ lm Tm [a0,a1,a2,a3,a4,mv,wv]::ds
theorem Ii(C:ev F h (Mx mk mv wl wv lm Tm a0 a1 a2 a3 a4 ds)){ws:List Nat}{v:V}(hs:il eN F h ws v)(r:∀w∈ws,w<mk.length)(S:ws.length<=700)(hb:wl.length+2*mk.count false<=100000)
  (H:∀h' a c d,Sn F h F h'->Mk mk wl ws a c->ev F h' (Mx a mv c d lm Tm a0 a1 a2 a3 a4 ds)->Q (.tuple []) h') :
  cP CS jl [.ptr lm 0,v] h Q:=by
 refine J6 ?_;refine eh hs.len ?_
 refine F0 (λk l h'=>∃j a c d,l=[.ptr lm 0,v,.I ws.length,.I (j:Nat)]/\j+k=ws.length/\Sn F h F h'/\Mk mk wl (ws.take j) a c/\ev F h' (Mx a mv c d lm Tm a0 a1 a2 a3 a4 ds)) ?_ (k:=ws.length)
  ⟨0,mk,wl,wv,rfl,by omega,Sn.refl _ _,by rw[wBz];exact Mk.refl _ _,C⟩
 rintro k _ _ _ _ D ⟨j,a,c,d,⟨⟩,hk,q,e,i⟩;unfold yp;by_cases hj:j<ws.length
 ·refine gy ?_;have hx:=gN hj;have n:=Ad hx;have p:=r _ (zI hj);generalize ws[j]=w at*
  let⟨l1,T,_,E,G⟩:=(hs.since q).nat hx .i64
  obtain⟨b,f⟩:∃b,a[w]? =some b:=⟨_,gN (by rw[e.len];exact p)⟩
  let⟨l2,U,I,J⟩:=i.Jr 0 rfl f .i64
  refine eh E (eh G (oN (i.ld 2 rfl rfl) (eh I (eh J (pY ?_)))));have s:=e.less
  cases b with
  | true=>
    refine fW rfl (yz ?_);unfold qu;refine ka (m:=1) (by omega) (by omega) ⟨k-1,by omega,j+1,a,c,d,rfl,by omega,q,?_,i⟩;rw[n]
    exact e.trans (Mk.skip f)
  | false=>
    refine fP (by simp) ?_;obtain⟨l3,W,z,K,L,_,t,M⟩:=i.IH 0 rfl (by rw[e.len];exact p) rfl rfl rfl;refine oN (i.ld 2 rfl rfl) (eh K ?_);rw[L,en];simp[oU]at t;refine oN (t.ld 2 rfl rfl) ?_;rw[mH,fu];obtain⟨g,A,N,_,u,O⟩:=t.rZ 1 rfl (jL:=8) rfl (by decide) (by decide) (by omega);have x:fi 3 1 8 d (.slice z.next 0 1) (z.new (.cells 3 1 true false (ig [w])))=some (.val g A):=N;rw[x,en];simp[ pJ]at u
    let⟨P,R,_,B,s4⟩:=u.st 2 (o:=6) rfl (by simp) (u.one 1 rfl)
    refine eh pn (eh pf ?_);have y:gq 1 (.ptr lm (0+6)) g A=some (.val .undef P):=by rw[C7];exact R
    rw[y,en];simp[ pJ]at B;refine yz ?_;unfold qu;refine ka (m:=1) (by omega) (by omega) ⟨k-1,by omega,j+1,_,_,g,rfl,by omega,((q.trans M).trans O).trans s4,?_,B⟩;rw[n];exact e.trans (Mk.put f)
 ·refine hY ?_;obtain rfl:j=ws.length:=by omega
  rw[I2]at e;exact H D a c d q e i
theorem Uc(fs:List Fm)(f:Fm):gL (fs++[f])=gL fs++(f.locals++f.stack):=by
 unfold gL;rw[List.flatMap_append,List.flatMap_singleton]
theorem Qo(g:Good u)(K:tL F h u vv vb vs)(E:ev F h (Mx mk mv wl wv lm Tm a0 a1 a2 a3 vs ds))(m:mk.length=u.ej.length){s:Nat}{fs:List Fm}(e:u.eo[s]? =some fs)(hb:wl.length+2*mk.count false<=100000)
  (H:∀h' a b c,Sn F h F h'->Mk mk wl (gL fs) a b->ev F h' (Mx a mv b c lm Tm a0 a1 a2 a3 vs ds)->Q (.tuple []) h') :
  cP CS oZ [.ptr lm 0,.I s] h Q:=by
 refine IQ ?_
 let⟨lx,ox,f,_,L,_,p,xf⟩:=K.st e
 have p:=p;have q:=EC g s fs e;have n:=Ej g e;refine eh pn (eh pf (oF (E.ld 2 rfl rfl) (eh L (oF p (eh xf.len ?_)))))
 refine E0 (λk l h'=>∃j a b c,l=[.ptr lm 0,f,.I fs.length,.I (j:Nat)]/\j+k=fs.length/\Sn F h F h'/\Mk mk wl (gL (fs.take j)) a b/\ev F h' (Mx a mv b c lm Tm a0 a1 a2 a3 vs ds)) ?_ (k:=fs.length)
  ⟨0,mk,wl,wv,rfl,by omega,Sn.refl _ _,by rw[wBz];exact Mk.refl _ _,E⟩
 rintro k _ _ _ _ M ⟨j,a,b,c,⟨⟩,hk,r,i,G⟩;unfold xP;by_cases hj:j<fs.length
 ·refine gy ?_;have hx:=gN hj;have t:=Ad hx;have d:=zI hj;generalize fs[j]=x at*
  let⟨V,W⟩:=q.2 x d
  have w:=λv hv=>n v (UE.2 ⟨x,d,Ti _ hv⟩);have y:=λv hv=>n v (UE.2 ⟨x,d,wBY _ hv⟩)
  let⟨ly,oy,xa,xb,_,N,O,ya,yb⟩:=(xf.since r).lV hx
  refine eh N (eh O ?_);refine gQ G rfl rfl (by simp only[Pj,eQ,ya.one,yb.one];rfl) λX o z=>?_;have o:=o.J0 3 (by simp);have l1:=i.less;refine oF (o.ld 3 rfl rfl) ?_;refine Ii o (ya.since z) (λv hv=>by rw[i.len,m];exact w v hv) (by omega) (by omega) λY P R S I A J=>?_;have l3:=A.less;refine oF (J.ld 3 rfl rfl) ?_;refine Ii J ((yb.since z).since I) (λv hv=>by rw[A.len,i.len,m];exact y v hv) (by omega) (by omega) λZ B C D s4 T U=>?_;refine fF ⟨k-1,by omega,j+1,B,C,D,rfl,by omega,((r.trans z).trans I).trans s4,?_,U.DO 3 (by simp)⟩;rw[t,Uc];exact i.trans (A.trans T)
 ·refine hY ?_;obtain rfl:j=fs.length:=by omega
  rw[I2]at i;exact H M a b c r i G
end
open Un Dm
structure DS (u:U) (D:Nat->Prop) (mk:List Bool) (wl:List Nat):Prop where
 len:mk.length=u.ej.length
 sound:∀v,mk[v]? =some true->Live u v
 work:∀v∈wl,mk[v]? =some true
 closed:∀v,mk[v]? =some true->v∈wl\/∀x,u.ej[v]? =some x->∀w∈gG x,mk[w]? =some true
 less:wl.length+2*mk.count false<=2*u.ej.length
 done:∀v,D v->mk[v]? =some true
theorem DS.mark {D D':Nat->Prop} {a:List Bool} {b ws:List Nat}(d:DS u D mk wl)(m:Mk mk wl ws a b)(f:∀w∈ws,Live u w)(c:∀w∈ws,w<u.ej.length)(e:∀v,D' v->D v\/v∈ws):DS u D' a b:=by
 have up:=λv hv=>(m.mark v).2 (.inl hv);have new:=λv hv=>(m.mark v).2 (.inr ⟨hv,by rw[d.len];simp_all⟩);refine⟨m.len.trans d.len,λv hv=>?_,λv hv=>?_,λv hv=>?_,Gq m.less d.less,λv hv=>(e v hv).elim (λh=>up v (d.done v h)) (new v)⟩
 ·rcases(m.mark v).1 hv with h|h
  ·exact d.sound v h
  simp_all
 ·rcases(m.work v).1 hv with h|h
  ·exact up v (d.work v h)
  simp_all
 ·by_cases h0:mk[v]? =some true
  ·rcases d.closed v h0 with h|h
   ·exact .inl ((m.work v).2 (.inl h))
   simp_all
  ·rcases(m.mark v).1 hv with h|⟨h,g⟩
   ·simp_all
   ·refine .inl ((m.work v).2 (.inr ⟨h,?_⟩))
    simp_all
theorem DS.pop{D:Nat->Prop} {b:List Bool} {s c:List Nat}{x:Vl}(d:DS u D mk (s++[v]))(hx:u.ej[v]? =some x)(e:∀w∈gG x,w<u.ej.length)(m:Mk mk s (gG x) b c):DS u D b c:=by
 have hv:=d.work v (by simp);have up:=λv hv=>(m.mark v).2 (.inl hv);have new:=λw a=>(m.mark w).2 (.inr ⟨a,by rw[d.len];simp_all⟩);have l1:=d.less;have l2:=m.less;rw[Lw,wBo]at l1;refine⟨m.len.trans d.len,λw a=>?_,λw a=>?_,λw a=>?_,by omega,λw a=>up w (d.done w a)⟩
 ·rcases(m.mark w).1 a with h|h
  ·exact d.sound w h
  ·exact .use (d.sound v hv) hx h.1
 ·rcases(m.work w).1 a with h|h
  ·exact up w (d.work w (by simp[h]))
  simp_all
 ·by_cases h0:mk[w]? =some true
  ·rcases d.closed w h0 with h|h
   ·rcases EG.1 h with h|h
    ·exact .inl ((m.work w).2 (.inl h))
    simp_all
   simp_all
  ·rcases(m.mark w).1 a with h|⟨h,f⟩
   ·simp_all
   ·refine .inl ((m.work w).2 (.inr ⟨h,?_⟩))
    simp_all
theorem DS.all(d:DS u (zax u) mk []){v:Nat}(h:Live u v):mk[v]? =some true:=by
 induction h with
 |root h=>exact d.done _ h
 | use h hx c b=>
   rcases d.closed _ b with a|a
   ·cases a
   simp_all
theorem Xu{x:Vl}(h:x.op=21\/x.op=20->x.args.length<=700):(gG x).length<=700:=by
 grind[gG,VS]
section
variable{F F':Nat->Prop}{h h':Hp}{cs ds:List Pc}{Q:fq}{u:U}{vv vb vs:V}
def RtV(u:U)(i:Nat)(v:Nat):Prop:=(v<i/\∃x,u.ej[v]? =some x/\(x.op=19\/x.op=20\/x.op=22\/x.op=23))\/∃j x fs,j<i/\u.ej[j]? =some x/\leaves x.op=true/\u.eo[x.state]? =some fs/\v∈gL fs
def RtB(u:U)(i:Nat)(v:Nat):Prop:=(∃b B,b<i/\u.blocks[b]? =some B/\B.fin=2/\v=B.cond)\/∃b B fs,b<i/\u.blocks[b]? =some B/\B.fin=3/\u.eo[B.state]? =some fs/\v∈gL fs
theorem zb0(g:Good u)(ha:rM u)(H0:ev F h cs)(hu:tL F h u vv vb vs)
  (H:∀F' h' az wv wb ws,Sn F h F' h'->ev F' h' cs->Sb u (jy az)->az.length=u.ej.length->tL F' h' (gU u (jy az)) wv wb ws->Q (.agg (uC (gU u (jy az)) wv wb ws)) h') :
  cP CS yW [.agg (uC u vv vb vs)] h Q:=by
 refine TK ?_;have nv:=g.nv;refine j4 H0 hu.one λf H1 s1=>pz H1 λt H2 s2=>?_;generalize h.next=l1 at*;generalize f.next=l2 at*;refine eh (H2.mY 1 rfl rfl) ?_;refine OH g H2 ((hu.since s1).since s2) λF3 C s3 H3=>?_;refine pY (fW rfl ?_);have ah:=(s1.trans s2).trans s3;have u3:=hu.since ah;refine eh (H3.mY 1 rfl rfl) (oF (H3.ld 1 rfl rfl) (eh u3.v.len ?_));rw[jE rfl (by decide) (by omega),gO];obtain⟨H4,s4⟩:=H3.make (E:=eB) u.ej.length rfl rfl;refine eh (by rfl) ?_;refine Sf H4 (by simp only[eQ,u3.v.one,u3.b.one,u3.s.one];rfl) λH5 s5=>?_;have e5:∀{o o':O},((C.new o).new o').get C.next=some o:=λ{o o'}=>by rw[fo _ (by simp_all),fm]
 refine⟨⟨fm _ _,bq⟩,⟨e5,bq⟩,H5.ld 3 rfl rfl,H5.mY 3 rfl rfl,?_⟩;have ai:=(ah.trans s4).trans s5;have z:=(H5.add (p:=fg eN eR [] .ei) .nil λ_ h=>h).perm [2,0,1] 3 (by decide) (by decide) (by simp);generalize ((C.new (.cells jZ 1 true false (List.replicate u.ej.length (V.bool false)))).new _)=h5 at*;generalize (C.new (.cells jZ 1 true false (List.replicate u.ej.length (V.bool false)))).next=lm at*;generalize C.next=lk at*;obtain⟨Tm,z⟩:∃Tm,ev F3 h5 (Mx (List.replicate u.ej.length false) (.slice lk 0 u.ej.length) [] .ei lm Tm (.I u.func) (.I u.pc) vv vb vs (eJ l2 gJ [.I 0,.I 0,.ei,.ei,.ei]::eJ l1 30 (uC u vv vb vs)::cs)):=⟨_,z⟩
 have u5:=hu.since ai;refine oF (z.ld 4 rfl rfl) (eh u5.v.len ?_);have ap:∀v:Nat,(List.replicate u.ej.length false)[v]?≠some true:=by grind
 have d0:DS u (RtV u 0) (List.replicate u.ej.length false) []:=⟨Wt,by simp_all,by simp_all,by simp_all,by simp,λv hv=>by
  rcases hv with⟨h,_⟩|⟨_,_,_,h,_⟩ <;> omega⟩
 obtain ⟨I,U⟩:∃I,I=λk l h'=>∃(F':Nat->Prop) (i:Nat) (mk:List Bool) (wl:List Nat) (wv:V),l=[.ptr l1 0,.ptr l2 0,.ptr lm 0,vv,.I u.ej.length,.I i]/\i+k=u.ej.length/\Sn F h F' h'/\DS u (RtV u i) mk wl/\
   ev F' h' (Mx mk (.slice lk 0 u.ej.length) wl wv lm Tm (.I u.func) (.I u.pc) vv vb vs (eJ l2 gJ [.I 0,.I 0,.ei,.ei,.ei]::eJ l1 30 (uC u vv vb vs)::cs)):=⟨_,rfl⟩
 refine ON I (λk x1 x2 x3 aF aG aH h6 hi=>?_) (k:=u.ej.length) ?_
 ·rw [U] at hi;obtain⟨F6,i,mk,wl,wv,⟨⟩,hk,s6,d,z⟩:=hi;unfold HC;have u6:=hu.since s6;have dl:=d.less;by_cases hi:i<u.ej.length
  ·refine gy ?_;have hx:=gN hi;generalize u.ej[i]=x at*
   let⟨lv,ov,w,_,y1,y2,xw,_⟩:=u6.val hx
   refine eh y1 (eh y2 ?_);refine gQ z rfl rfl (by simp only[mh,eQ,xw.one];rfl) λh7 A s7=>?_;generalize h6.next=lx at*;have A:=A.J0 3 (by simp)
   have q:∀{F8 Y D G L},Sn F h F8 Y->DS u (RtV u (i+1)) D G->ev F8 Y (Mx D (.slice lk 0 u.ej.length) G L lm Tm (.I u.func) (.I u.pc) vv vb vs (eJ lx 45 (mh x w)::eJ l2 gJ [.I 0,.I 0,.ei,.ei,.ei]::eJ l1 30 (uC u vv vb vs)::cs))->
     qp Q (Es I k) [.ptr l1 0,.ptr l2 0,.ptr lm 0,vv,.I u.ej.length,.I i] Y:=λ{F8 Y D G L} W d8 N=>by
    refine M0 ?_;unfold FQ;refine fF ⟨k-1,by omega,?_⟩;rw[U];exact⟨F8,i+1,D,G,L,rfl,by omega,W,d8,N.DO 3 (by simp)⟩
   have r:∀v,RtV u (i+1) v->RtV u i v\/(v=i/\(x.op=19\/x.op=20\/x.op=22\/x.op=23))\/∃fs,leaves x.op=true/\u.eo[x.state]? =some fs/\v∈gL fs:=λv hv=>by
    rcases hv with⟨f,y,t,C⟩|⟨j,y,fs,f,t,C,h4,h5⟩
    ·by_cases e:v=i
     ·simp_all
     ·exact .inl (.inl ⟨by omega,y,t,C⟩)
    ·by_cases e:j=i
     ·simp_all
     ·exact .inl (.inr ⟨j,y,fs,by omega,t,C,h4,h5⟩)
   have aj:∀w∈[i],w<u.ej.length:=by simp_all
   have M:=s6.trans s7;have ag:vJ Q (Es I k) [.ptr l1 0,.ptr l2 0,.ptr lm 0,.I i,.ptr lx 0,vv,.I u.ej.length,.I i,.I x.op,.bool (leaves x.op)] h7:=by
    refine MX ?_;unfold FN;refine iB ?_;by_cases hlv:leaves x.op=true
    ·refine fW hlv (oF (A.ld 3 rfl rfl) ?_);have oS:=g.leave i x hx hlv;have P:=gN oS;generalize u.eo[x.state]=fs at*;refine Qo g (hu.since M) A d.len P (by omega) λY D G L W m8 N=>?_;have ak:x.op=22\/x.op=23:=by unfold leaves at hlv;simpa using hlv
     have d8:=d.mark (D':=λv=>RtV u i v\/v∈gL fs) m8 (λv hv=> .root (.inr (.inl ⟨i,x,fs,hx,hlv,P,hv⟩))) (Ej g P) (by simp_all);have l8:=d8.less;refine Q5 [i] (mH _) N λF9 h9 v9 H9 s9 r9=>?_;refine Ii H9 r9 (λw X=>by rw[d8.len];simp_all) (by simp) (by omega) λaa R S Z K T J=>?_;refine q (((M.trans W).trans s9).trans K) (d8.mark T (λw X=>?_) aj λv hv=>?_) J
     ·rw[Pl.1 X];exact .root (.inl ⟨x,hx,by omega⟩)
     grind
    ·refine fP hlv ?_;have ap:¬(x.op=22\/x.op=23):=by unfold leaves at hlv;simpa using hlv
     have al:∀b,(b=true↔x.op=19\/x.op=20)->vM Q (Es I k) [.ptr l1 0,.ptr l2 0,.ptr lm 0,.I i,vv,.I u.ej.length,.I i,.bool b] h7:=λb hb=>by
      refine MQ ?_;unfold FH;refine iB ?_
      cases b with
      | true=>
        refine fW rfl ?_;have ak:=hb.1 rfl;refine Q5 [i] (mH _) A λF9 h9 v9 H9 s9 r9=>?_;refine Ii H9 r9 (λw X=>by rw[d.len];simp_all) (by simp) (by omega) λaa R S Z K T J=>?_;refine q ((M.trans s9).trans K) (d.mark T (λw X=>?_) aj λv hv=>?_) J
        ·rw[Pl.1 X]
         exact .root (.inl ⟨x,hx,by omega⟩)
        ·rcases r v hv with f|⟨f,_⟩|⟨_,t,_⟩
         ·exact .inl f
         ·exact .inr (by rw[f];simp)
         ·exact absurd t hlv
      | false=>
        refine fP (by simp) (q M ?_ A);have ak:¬(x.op=19\/x.op=20):=λh=>by have:=hb.2 h;cases this
        refine⟨d.len,d.sound,d.work,d.closed,d.less,λv hv=>?_⟩;rcases r v hv with f|⟨_,f⟩|⟨_,t,_⟩
        ·exact d.done v f
        ·omega
        ·exact absurd t hlv
     refine eh (gR ..) (iB ?_);by_cases c:x.op=19
     ·have e:((x.op:Int) == 19)=true:=Bg.2 (by omega);rw[e];exact fW rfl (al true ⟨λ_=> .inl c,λ_=>rfl⟩)
     ·have e:((x.op:Int) == 19)=false:=PG.2 (by omega);rw[e];refine fP (by simp) (eh (gR ..) (al _ ?_));rw[Bg];constructor
      ·intro h;exact .inr (by omega)
      ·intro h;omega
   refine oF (A.ld 3 rfl rfl) (eh (gR ..) (iB ?_));by_cases c:x.op=22
   ·have e:((x.op:Int) == 22)=true:=Bg.2 (by omega);have e2:leaves x.op=true:=by rw[c];rfl
    rw[e2]at ag;rw[e];exact fW rfl ag
   ·have e:((x.op:Int) == 22)=false:=PG.2 (by omega);rw[e];refine fP (by simp) (eh (gR ..) ?_);have e2:((x.op:Int) == 23)=leaves x.op:=by
     unfold leaves;by_cases c2:x.op=23
     ·rw[c2];rfl
     ·rw[PG.2 (by omega),PG.2 c,PG.2 c2];rfl
    rw[e2];exact ag
  ·refine hY ?_;obtain rfl:i=u.ej.length:=by omega
   refine oF (z.ld 4 rfl rfl) (eh u6.b.len ?_);have nb:=g.nb;have d1:DS u (λv=>RtV u u.ej.length v\/RtB u 0 v) mk wl:=⟨d.len,d.sound,d.work,d.closed,d.less,λv hv=>hv.elim (d.done v) λh=>by
    rcases h with⟨_,_,h,_⟩|⟨_,_,_,h,_⟩ <;> omega⟩
   obtain ⟨I,U⟩:∃I,I=λk l h'=>∃(F':Nat->Prop) (i:Nat) (mk:List Bool) (wl:List Nat) (wv:V),l=[.ptr l1 0,.ptr l2 0,.ptr lm 0,vb,.I u.blocks.length,.I i]/\i+k=u.blocks.length/\Sn F h F' h'/\DS u (λv=>RtV u u.ej.length v\/RtB u i v) mk wl/\
     ev F' h' (Mx mk (.slice lk 0 u.ej.length) wl wv lm Tm (.I u.func) (.I u.pc) vv vb vs (eJ l2 gJ [.I 0,.I 0,.ei,.ei,.ei]::eJ l1 30 (uC u vv vb vs)::cs)):=⟨_,rfl⟩
   refine Oj I (λk x1 x2 x3 aI aJ aK h6 hi=>?_) (k:=u.blocks.length) ?_;rotate_left
   ·rw[U];exact⟨F6,0,mk,wl,wv,rfl,by omega,s6,d1,z⟩
   rw[U]at hi;obtain⟨F6,i,mk,wl,wv,⟨⟩,hk,s6,d,z⟩:=hi;unfold Hn;have u6:=hu.since s6;have dl:=d.less;by_cases hi:i<u.blocks.length
   ·refine gy ?_;have hB:=gN hi;generalize u.blocks[i]=B at*
    let⟨lv,ov,bv,bn,bp,_,y1,y2,iv,iN,ip,_⟩:=u6.nJ hB
    refine eh y1 (eh y2 ?_);refine gQ z rfl rfl (by simp only[ku,eQ,iv.one,iN.one,ip.one];rfl) λh7 A s7=>?_;generalize h6.next=lx at*;have A:ev F6 h7 (Mx mk (.slice lk 0 u.ej.length) wl wv lm Tm (.I u.func) (.I u.pc) vv vb vs (eJ lx 43 (ku B bv bn bp)::_)):=A.J0 3 (by simp);have M:=s6.trans s7
    have q:∀{F8 Y D G L},Sn F h F8 Y->DS u (λv=>RtV u u.ej.length v\/RtB u (i+1) v) D G->ev F8 Y (Mx D (.slice lk 0 u.ej.length) G L lm Tm (.I u.func) (.I u.pc) vv vb vs (eJ lx 43 (ku B bv bn bp)::eJ l2 gJ [.I 0,.I 0,.ei,.ei,.ei]::eJ l1 30 (uC u vv vb vs)::cs))->
      qo Q (Es I k) [.ptr l1 0,.ptr l2 0,.ptr lm 0,vb,.I u.blocks.length,.I i] Y:=λ{F8 Y D G L} W d8 N=>by
     refine M3 ?_;unfold FE;refine fF ⟨k-1,by omega,?_⟩;rw[U];exact⟨F8,i+1,D,G,L,rfl,by omega,W,d8,N.DO 3 (by simp)⟩
    have r:∀v,RtB u (i+1) v->RtB u i v\/(B.fin=2/\v=B.cond)\/∃fs,B.fin=3/\u.eo[B.state]? =some fs/\v∈gL fs:=λv hv=>by
     rcases hv with⟨j,y,f,t,C,h4⟩|⟨j,y,fs,f,t,C,h4,h5⟩
     ·by_cases e:j=i
      ·subst e;rw[hB]at t;cases t;exact .inr (.inl ⟨C,h4⟩)
      ·exact .inl (.inl ⟨j,y,by omega,t,C,h4⟩)
     ·by_cases e:j=i
      ·subst e;rw[hB]at t;cases t;exact .inr (.inr ⟨fs,C,h4,h5⟩)
      ·exact .inl (.inr ⟨j,y,fs,by omega,t,C,h4,h5⟩)
    refine oF (A.ld 3 rfl rfl) (fX ?_);by_cases c2:B.fin=2
    ·refine fW (by omega) (oF (A.ld 3 rfl rfl) ?_);have aq:B.cond<u.ej.length:=by
      rcases g.fin i B hB with⟨h,_⟩|⟨_,_,h⟩|⟨h,_⟩
      ·omega
      ·exact uP h
      ·omega
     have am:∀w∈[B.cond],w<u.ej.length:=λw X=>by rw[Pl.1 X];exact aq
     refine Q5 [B.cond] (mH _) A λF9 h9 v9 H9 s9 r9=>?_;refine Ii H9 r9 (λw X=>by rw[d.len];exact am w X) (by simp) (by omega) λaa R S Z K T J=>?_;refine q ((M.trans s9).trans K) (d.mark T (λw X=>?_) am λv hv=>?_) J
     ·rw[Pl.1 X];exact .root (.inr (.inr (.inl ⟨i,B,hB,c2,rfl⟩)))
     ·rcases hv with f|f
      ·exact .inl (.inl f)
      ·rcases r v f with f|⟨_,f⟩|⟨_,t,_⟩
       ·exact .inl (.inr f)
       ·exact .inr (by rw[f];simp)
       ·omega
    ·refine fP (by omega) (fX ?_);by_cases c3:B.fin=3
     ·refine fW (by omega) (oF (A.ld 3 rfl rfl) ?_);have oS:B.state<u.eo.length:=by
       rcases g.fin i B hB with⟨h,_⟩|⟨h,_⟩|⟨_,_,h⟩
       ·omega
       ·omega
       ·exact h
      have P:=gN oS;generalize u.eo[B.state]=fs at*;refine Qo g (hu.since M) A d.len P (by omega) λY D G L W m8 N=>?_;refine q (M.trans W) (d.mark m8 (λv hv=> .root (.inr (.inr (.inr ⟨i,B,fs,hB,c3,P,hv⟩)))) (Ej g P) λv hv=>?_) N;rcases hv with f|f
      ·exact .inl (.inl f)
      ·rcases r v f with f|⟨f,_⟩|⟨aL,_,t,C⟩
       ·exact .inl (.inr f)
       ·omega
       ·rw[P]at t;cases t;exact .inr C
     ·refine fP (by omega) (q M ⟨d.len,d.sound,d.work,d.closed,d.less,λv hv=>?_⟩ A);rcases hv with f|f
      ·exact d.done v (.inl f)
      ·rcases r v f with f|⟨f,_⟩|⟨_,f,_⟩
       ·exact d.done v (.inr f)
       ·omega
       ·omega
   refine hY ?_;obtain rfl:i=u.blocks.length:=by omega
   have d2:DS u (zax u) mk wl:=⟨d.len,d.sound,d.work,d.closed,d.less,λv hv=>by
    have ab:=Wq g hv;rcases hv with h|⟨j,x,fs,f,t,C,h4⟩|⟨b,B,f,t,C⟩|⟨b,B,fs,f,t,C,h4⟩
    ·exact d.done v (.inl (.inl ⟨ab,h⟩))
    ·exact d.done v (.inl (.inr ⟨j,x,fs,(jo.1 f).1,f,t,C,h4⟩))
    ·exact d.done v (.inr (.inl ⟨b,B,(jo.1 f).1,f,t,C⟩))
    ·exact d.done v (.inr (.inr ⟨b,B,fs,(jo.1 f).1,f,t,C,h4⟩))⟩
   obtain ⟨I,U⟩:∃I:Nat->LP,I=λk l h'=>∃(F':Nat->Prop) (mk:List Bool) (wl:List Nat) (wv:V),l=[.ptr l1 0,.ptr l2 0,.ptr lm 0]/\k=wl.length+2*mk.count false/\Sn F h F' h'/\DS u (zax u) mk wl/\
     ev F' h' (Mx mk (.slice lk 0 u.ej.length) wl wv lm Tm (.I u.func) (.I u.pc) vv vb vs (eJ l2 gJ [.I 0,.I 0,.ei,.ei,.ei]::eJ l1 30 (uC u vv vb vs)::cs)):=⟨_,rfl⟩
   refine N6 I (λk x1 x2 x3 h6 hi=>?_) (k:=wl.length+2*mk.count false) ?_;rotate_left
   ·rw[U];exact⟨F6,mk,wl,wv,rfl,rfl,s6,d2,z⟩
   rw[U]at hi;obtain⟨F6,mk,wl,wv,⟨⟩,hk,s6,d,z⟩:=hi;unfold Hr;have u6:=hu.since s6;have dl:=d.less;refine oN (z.ld 2 rfl rfl) (eh (z.len 1 rfl) ?_);rcases lL wl with rfl|⟨s,v,rfl⟩
   ·refine AQ (fP (by simp) ?_);refine eh (z.mY 4 rfl rfl) ?_;refine Nj u6.one u6.v.len nv z λh7 av s7 A=>?_;refine oN (A.ld 3 rfl rfl) (eh ((A.len 1 rfl).trans (by rw[d.len])) ?_);have ar:=s6.trans s7
    obtain ⟨I,U⟩:∃I:Nat->LP,I=λk l h'=>∃(i:Nat) (ys:List Int),l=[.ptr l1 0,.ptr l2 0,av,.slice lk 0 u.ej.length,.I u.ej.length,.I i]/\i+k=u.ej.length/\ys.length=u.ej.length/\(∀j:Nat,j<u.ej.length->ys[j]? =some (if j<i/\mk[j]?≠some true then -1 else(j:Int)))/\Sn F h F6 h'/\
      ev F6 h' (fg eZ eR ys av::Mx mk (.slice lk 0 u.ej.length) [] wv lm Tm (.I u.func) (.I u.pc) vv vb vs (eJ l2 gJ [.I 0,.I 0,.ei,.ei,.ei]::eJ l1 30 (uC u vv vb vs)::cs)):=⟨_,rfl⟩
    refine NL I (λk x1 x2 x9 aB aC aD Y hi=>?_) (k:=u.ej.length) ?_;rotate_left
    ·rw[U];refine⟨0,_,rfl,by omega,by simp,λj hj=>?_,ar,A⟩;rw[if_neg (by omega),zq,wBk hj];rfl
    rw[U]at hi;obtain⟨i,ys,⟨⟩,hk,ac,ad,W,N⟩:=hi;unfold GD;by_cases hi:i<u.ej.length
    ·refine gy ?_;obtain⟨b,ae⟩:∃b,mk[i]? =some b:=⟨_,gN (by rw[d.len];exact hi)⟩
     let⟨la,oa,z1,z2⟩:=N.Jr 1 rfl ae .i64
     refine eh z1 (eh z2 (pY ?_))
     cases b with
     | true=>
       refine fW rfl (FU ?_);unfold zA;refine ka (m:=1) (by omega) (by omega) ⟨k-1,by omega,?_⟩;rw[U];refine⟨i+1,ys,rfl,by omega,ac,λj hj=>?_,W,N⟩;rw[ad j hj];by_cases e:j=i
       ·subst e
        rw[if_neg (λh=>h.2 ae),if_neg (λh=>h.2 ae)]
       ·by_cases c:j<i/\mk[j]?≠some true
        ·rw[if_pos c,if_pos ⟨by omega,c.2⟩]
        ·rw[if_neg c,if_neg λh=>c ⟨by omega,h.2⟩]
     | false=>
       refine fP (by simp) ?_;obtain⟨lb,ob,h9,e1,e2,_,H9,s9⟩:=N.IH 0 rfl (k:=i) (by omega) rfl rfl rfl;refine eh e1 ?_;rw[e2,en];simp[oU]at H9;refine FU ?_;unfold zA;refine ka (m:=1) (by omega) (by omega) ⟨k-1,by omega,?_⟩;rw[U];refine⟨i+1,ys.set i (-1),rfl,by omega,by rw[Lj];exact ac,λj hj=>?_,W.trans s9,H9⟩;by_cases e:j=i
       ·subst e
        rw[MR (by omega),if_pos ⟨by omega,by rw[ae];simp⟩]
       ·rw[I9 λh=>e h.symm,ad j hj]
        by_cases c:j<i/\mk[j]?≠some true
        ·rw[if_pos c,if_pos ⟨by omega,c.2⟩]
        ·rw[if_neg c,if_neg λh=>c ⟨by omega,h.2⟩]
    ·refine hY ?_;obtain rfl:i=u.ej.length:=by omega
     refine eh (N.mY 5 rfl rfl) ?_;have an:∀(v:Nat) (a:Int),ys[v]? =some a->a<ys.length:=λv a hv=>by
      have ab:=(jo.1 hv).1;rw[ad v (by omega)]at hv;have:=Option.some.inj hv;split at this <;> omega
     refine Xe g ha ac an N (hu.since W) λF9 h9 au aw ax s9 H9 u9=>?_
     let⟨aa,ay,_,J,K⟩:=H9.Qy 3 (n:=5) rfl rfl rfl u9.one
     rw[ay,en];simp[oU,pJ]at J;refine eh (J.mY 3 rfl rfl) ?_;refine H F9 aa ys au aw ax ((W.trans s9).trans K) J.tail.tail.tail.tail.tail (λv hv=>?_) ac (u9.since K);have e:=He (ad v hv);rw[e];by_cases c:mk[v]? =some true
     ·rw[if_neg λh=>h.2 c];exact .inl ⟨rfl,d.sound v c⟩
     ·rw[if_pos ⟨hv,c⟩];exact .inr ⟨rfl,λhl=>c (d.all hl)⟩
   ·refine AQ (fW (by simp <;> omega) ?_);have hlen:(s++[v]).length-1=s.length:=by simp
    have hs:(s++[v]).length=s.length+1:=by simp
    refine oN (z.ld 2 rfl rfl) (oN (z.ld 2 rfl rfl) (eh (z.len 1 rfl) (sR (by omega) (by simp) ?_)));rw[hlen]
    let⟨la,oa,x1,x2⟩:=z.L6 1 rfl (k:=s.length) (x:=v) (by simp) .i64
    refine eh x1 (eh x2 ?_);refine oN (z.ld 2 rfl rfl) (oN (z.ld 2 rfl rfl) (eh (z.len 1 rfl) (sR (by omega) (by simp) ?_)));rw[hlen]
    let⟨wv2,e1,A⟩:=z.za8 1 rfl (n:=s.length) (by simp)
    refine eh e1 (eh pn (eh pf ?_));have et:(s++[v]).take s.length=s:=by simp
    simp[oU,pJ,et]at A
    let⟨Y,e8,n8,N,W⟩:=A.st 2 (o:=6) rfl (by simp) (A.one 1 rfl)
    have aA:gq 1 (.ptr lm (0+6)) wv2 h6=some (.val .undef Y):=by rw[C7];exact e8
    rw [aA,en];simp[oU,pJ]at N;refine⟨n8,?_⟩;have u8:=u6.since W;have ab:v<u.ej.length:=by
     have:=(jo.1 (d.work v (by simp))).1;rw[d.len]at this;exact this
    have hx:=gN ab;generalize u.ej[v]=x at*
    let⟨lv,ov,w,_,y1,y2,xw,_⟩:=u8.val hx
    refine oF (N.ld 4 rfl rfl) (eh y1 (eh y2 ?_));refine KV N xw (λh=>Gq (Is g hx h) (by decide)) λF9 h9 v9 s9 H9 r9=>?_;have ao:∀w∈gG x,w<u.ej.length:=λw X=>uP (g.use v x hx w X);refine Ii H9 r9 (λw X=>by rw[d.len];exact ao w X) (Xu λh=>Is g hx h) (by omega) λaa R S Z K T J=>?_;have aE:=T.less;refine⟨S.length+2*R.count false,by omega,?_⟩;rw[U];exact⟨F9,R,S,Z,rfl,rfl,((s6.trans W).trans s9).trans K,d.pop hx ao T,J⟩
 ·rw[U];exact⟨F3,0,_,[],.ei,rfl,by omega,ai,d0,z⟩
end
