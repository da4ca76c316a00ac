/- Parts. -/
import Derived.Test.YtjgjgngfjopaaaaDoorM37
import Derived.Test.YtjgjgngfjopaaaaDoorM35
namespace Go.Proofs.YtjgjgngfjopaaaaDoor.Hx
open Un Dm
structure Mk (mk:List Bool) (wl ws:List Nat) (a:List Bool) (b:List Nat):Prop where
 len:a.length=mk.length
 mark:∀v:Nat,a[v]? =some true↔mk[v]? =some true\/(v∈ws/\v<mk.length)
 work:∀v:Nat,v∈b↔v∈wl\/(v∈ws/\mk[v]? =some false)
 less:b.length+2*a.count false<=wl.length+2*mk.count false
theorem Mk.refl(mk:List Bool)(wl:List Nat):Mk mk wl [] mk wl:=⟨rfl,λv=>by simp,λv=>by simp,jj _⟩
theorem Mk.trans{mk e f:List Bool} {wl i g ws j:List Nat}(a:Mk mk wl ws e i)(b:Mk e i j f g):Mk mk wl (ws++j) f g where
 len:=b.len.trans a.len
 mark v:=by
  rw[b.mark,a.mark,a.len,BK];constructor
  ·rintro((h|⟨c,d⟩)|⟨c,d⟩)
   ·exact .inl h
   ·exact .inr ⟨.inl c,d⟩
   ·exact .inr ⟨.inr c,d⟩
  ·rintro(h|⟨c|c,d⟩)
   ·exact .inl (.inl h)
   ·exact .inl (.inr ⟨c,d⟩)
   ·exact .inr ⟨c,d⟩
 work v:=by
  have n:e[v]? =some false↔mk[v]? =some false/\v ∉ ws:=by
   have c:=a.mark v;by_cases hl:v<mk.length
   ·have l:=gP hl;have m:=gP (show v<e.length by rw[a.len];exact hl);rw[l,m]at c;rw[l,m];cases d:e[v]'(by rw[a.len];exact hl) <;> cases k:mk[v] <;> simp[d,k,hl]at c⊢ <;> try exact c
   ·rw[KT (by rw[a.len];omega),KT (by omega)];simp
  rw[b.work,a.work,n,BK];constructor
  ·rintro((h|⟨c,d⟩)|⟨c,d,_⟩)
   ·exact .inl h
   ·exact .inr ⟨.inl c,d⟩
   ·exact .inr ⟨.inr c,d⟩
  ·rintro(h|⟨c|c,d⟩)
   ·exact .inl (.inl h)
   ·exact .inl (.inr ⟨c,d⟩)
   ·by_cases k:v∈ws
    ·exact .inl (.inr ⟨k,d⟩)
    ·exact .inr ⟨c,d,k⟩
 less:=Gt b.less a.less
theorem Mk.skip{mk:List Bool}{wl:List Nat}{v:Nat}(h:mk[v]? =some true):Mk mk wl [v] mk wl where
 len:=rfl
 mark w:=by
  constructor
  ·exact .inl
  ·rintro(a|⟨a,_⟩)
   ·exact a
   ·rw[Jd.1 a];exact h
 work w:=by
  constructor
  ·exact .inl
  ·rintro(a|⟨a,b⟩)
   ·exact a
   ·rw[Jd.1 a,h]at b;cases b
 less:=jj _
theorem count_mk{l:List Bool}:∀{v:Nat},l[v]? =some false->(l.set v true).count false+1=l.count false:=by
 induction l with
 |nil=>intro v h;simp at h
 | cons a l b=>
   intro v h
   cases v with
   | zero=>
     obtain rfl:a=false:=by simpa using h
     simp
   | succ v=>
     have:=b (v:=v) (by simpa using h);rw[lj,wCL,wCL];omega
theorem Mk.put{mk:List Bool}{wl:List Nat}{v:Nat}(h:mk[v]? =some false):Mk mk wl [v] (mk.set v true) (wl++[v]) where
 len:=Mi ..
 mark w:=by
  have hv:=(iR.1 h).1;by_cases e:w=v
  ·subst e;rw[EK hv];exact⟨λ_=> .inr ⟨by simp,hv⟩,λ_=>rfl⟩
  ·rw[C8 λh=>e h.symm];exact⟨.inl,λa=>a.elim id λb=>absurd (Jd.1 b.1) e⟩
 work w:=by
  rw[BK,Jd];constructor
  ·rintro(a|rfl)
   ·exact .inl a
   ·exact .inr ⟨rfl,h⟩
  ·rintro(a|⟨a,_⟩)
   ·exact .inl a
   ·exact .inr a
 less:=by
  have:=count_mk h;rw[y6,X4];omega
section
variable{F F':Nat->Prop}{h h':Hp}{cs ds:List Pc}{Q:fy}{u:U}{vv vb vs mv wv a0 a1 a2 a3 a4:V}{lm Tm:Nat}{mk:List Bool}{wl:List Nat}
abbrev Mx(mk:List Bool)(mv:V)(wl:List Nat)(wv:V)(lm Tm:Nat)(a0 a1 a2 a3 a4:V)(ds:List Pc):List Pc:=eR eB jd mk mv::eR eN ey wl wv::ev lm Tm [a0,a1,a2,a3,a4,mv,wv]::ds
theorem Gl(G:en F h (Mx mk mv wl wv lm Tm a0 a1 a2 a3 a4 ds)){ws:List Nat}{v:V}(hs:iC eN F h ws v)(r:∀w∈ws,w<mk.length)(X:ws.length<=700)(Y:wl.length+2*mk.count false<=100000)
  (H:∀h' a c d,Sn F h F h'->Mk mk wl ws a c->en F h' (Mx a mv c d lm Tm a0 a1 a2 a3 a4 ds)->Q (.tuple []) h') :
  cP CS iS [.ptr lm 0,v] h Q:=by
 refine Hf rfl rfl ?_;unfold zL;refine ed hs.len ?_;have I:∀{l o:Nat},ij (.ptr l o)=some (.ptr l o):=fX _ _;have J:∀{l o k:Nat},fH k (.ptr l o)=some (.ptr l (o+k)):=eJ _ _ _
 refine Em (λk l h'=>∃(j:Nat) (a:List Bool) (c:List Nat) (d:V),l=[.ptr lm 0,v,.I ws.length,.I j]/\j+k=ws.length/\Sn F h F h'/\Mk mk wl (ws.take j) a c/\en F h' (Mx a mv c d lm Tm a0 a1 a2 a3 a4 ds)) ?_ (k:=ws.length)
  ⟨0,mk,wl,wv,rfl,by omega,Sn.refl _ _,by rw[YZ];exact Mk.refl _ _,G⟩
 rintro k _ _ _ _ K ⟨j,a,c,d,⟨⟩,Z,q,f,i⟩;unfold wT;by_cases hj:j<ws.length
 ·refine gG ?_;have B:=gP hj;have n:=zd B;have p:=r _ (zq hj);generalize ws[j]=w at*;obtain⟨l1,o1,_,L,M⟩:=(hs.since q).nat B .i64;obtain⟨b,g⟩:∃b,a[w]? =some b:=⟨_,gP (by rw[f.len];exact p)⟩
  obtain⟨l2,o2,N,O⟩:=i.GV 0 rfl g .i64;refine ed L (ed M (oN (i.ld 2 rfl rfl) (ed N (ed O (qi ?_)))));have s:=f.less
  cases b with
  | true=>
    refine gw rfl (wP ?_);unfold po;refine jO (m:=1) (by omega) (by omega) ⟨k-1,by omega,j+1,a,c,d,rfl,by omega,q,?_,i⟩;rw[n]
    exact f.trans (Mk.skip g)
  | false=>
    refine gi (by simp) ?_;obtain⟨l3,o3,C,P,R,_,t,S⟩:=i.Ig 0 rfl (k:=w) (y:=true) (u:=V.bool true) (by rw[f.len];exact p) rfl rfl rfl;refine oN (i.ld 2 rfl rfl) (ed P ?_);rw[R,ei];simp only[iY]at t;refine oN (t.ld 2 rfl rfl) ?_;rw[nR,fE];obtain⟨e,D,e3,_,x,T⟩:=t.tU 1 rfl (jM:=8) (BN:=3) (y:=w) (w:=hO [w]) (ro:=false) rfl (by decide) (by decide) (by omega);have z:fe 3 1 8 d (.slice C.next 0 1) (C.new (.cells 3 1 true false (hO [w])))=some (.val e D):=e3;rw[z,ei];simp only[iY,lj]at x;obtain⟨U,W,_,E,s4⟩:=x.st 2 (o:=6) (u:=e) rfl (by simp) (x.one 1 rfl);refine ed I (ed J ?_);have A:gK 1 (.ptr lm (0+6)) e D=some (.val .undef U):=by rw[yC];exact W
    rw[A,ei];simp only[iY,lj]at E;refine wP ?_;unfold po;refine jO (m:=1) (by omega) (by omega) ⟨k-1,by omega,j+1,_,_,e,rfl,by omega,((q.trans S).trans T).trans s4,?_,E⟩;rw[n];exact f.trans (Mk.put g)
 ·refine iI ?_;obtain rfl:j=ws.length:=by omega
  rw[Jh]at f;exact H K a c d q f i
theorem QO(fs:List Fm)(f:Fm):gJ (fs++[f])=gJ fs++(f.locals++f.stack):=by
 unfold gJ;rw[Zz,List.flatMap_singleton]
theorem NA(g:Good u)(R:A0 F h u vv vb vs)(G:en F h (Mx mk mv wl wv lm Tm a0 a1 a2 a3 vs ds))(m:mk.length=u.ef.length){s:Nat}{fs:List Fm}(e:u.eh[s]? =some fs)(hb:wl.length+2*mk.count false<=100000)
  (H:∀h' a b c,Sn F h F h'->Mk mk wl (gJ fs) a b->en F h' (Mx a mv b c lm Tm a0 a1 a2 a3 vs ds)->Q (.tuple []) h') :
  cP CS ma [.ptr lm 0,.I s] h Q:=by
 refine GA rfl rfl ?_;unfold yX;have S:∀{l o:Nat},ij (.ptr l o)=some (.ptr l o):=fX _ _;have T:∀{l o k:Nat},fH k (.ptr l o)=some (.ptr l (o+k)):=eJ _ _ _;obtain⟨lx,U,f,_,W,_,q,I⟩:=R.st e;have q:ez (.ptr lx (U+0)) h=some f:=q;have r:=zg g s fs e;have n:=Cj g e;refine ed S (ed T (oF (G.ld 2 rfl rfl) (ed W (oF q (ed I.len ?_)))))
 refine DG (λk l h'=>∃(j:Nat) (a:List Bool) (b:List Nat) (c:V),l=[.ptr lm 0,f,.I fs.length,.I j]/\j+k=fs.length/\Sn F h F h'/\Mk mk wl (gJ (fs.take j)) a b/\en F h' (Mx a mv b c lm Tm a0 a1 a2 a3 vs ds)) ?_ (k:=fs.length)
  ⟨0,mk,wl,wv,rfl,by omega,Sn.refl _ _,by rw[YZ];exact Mk.refl _ _,G⟩
 rintro k _ _ _ _ J ⟨j,a,b,c,⟨⟩,hk,t,i,K⟩;unfold vj;by_cases hj:j<fs.length
 ·refine gG ?_;have L:=gP hj;have w:=zd L;have d:=zq hj;generalize fs[j]=x at*;obtain⟨q1,q2⟩:=r.2 x d;have y:∀v∈x.locals,v<u.ef.length:=λv hv=>n v (Ni.2 ⟨x,d,Rh _ hv⟩);have z:∀v∈x.stack,v<u.ef.length:=λv hv=>n v (Ni.2 ⟨x,d,wBW _ hv⟩);obtain⟨ly,oy,X,Y,_,Z,y2,M,N⟩:=(I.since t).oA L;refine ed Z (ed y2 ?_);refine iG K rfl rfl (by simp only[MH,eQ,M.one,N.one];rfl) λh2 p A=>?_;generalize J.next=lf at*;have p:en F h2 (Mx a mv b c lm Tm a0 a1 a2 a3 vs (ev lf 57 (MH x X Y)::ds)):=p.J8 3 (by simp);have l1:=i.less;refine oF (p.ld 3 rfl rfl) ?_;refine Gl p (M.since A) (λv hv=>by rw[i.len,m];exact y v hv) (by omega) (by omega) λh3 aa ab ac O B P=>?_;have l3:=B.less;refine oF (P.ld 3 rfl rfl) ?_;refine Gl P ((N.since A).since O) (λv hv=>by rw[B.len,i.len,m];exact z v hv) (by omega) (by omega) λh4 C D E s4 m4 H4=>?_;refine fN ⟨k-1,by omega,j+1,C,D,E,rfl,by omega,((t.trans A).trans O).trans s4,?_,H4.B1 3 (by simp)⟩;rw[w,QO];exact i.trans (B.trans m4)
 ·refine iI ?_;obtain rfl:j=fs.length:=by omega
  rw[Jh]at i;exact H J a b c t i K
end
open Un Dm
structure DS (u:U) (D:Nat->Prop) (mk:List Bool) (wl:List Nat):Prop where
 len:mk.length=u.ef.length
 sound:∀v:Nat,mk[v]? =some true->Live u v
 work:∀v∈wl,mk[v]? =some true
 closed:∀v:Nat,mk[v]? =some true->v∈wl\/∀x,u.ef[v]? =some x->∀w∈je x,mk[w]? =some true
 less:wl.length+2*mk.count false<=2*u.ef.length
 done:∀v,D v->mk[v]? =some true
theorem DS.mark{u:U} {D D':Nat->Prop} {mk a:List Bool} {wl b ws:List Nat}(d:DS u D mk wl)(m:Mk mk wl ws a b)(f:∀w∈ws,Live u w)(c:∀w∈ws,w<u.ef.length)(g:∀v,D' v->D v\/v∈ws):DS u D' a b:=by
 have up:∀v:Nat,mk[v]? =some true->a[v]? =some true:=λv hv=>(m.mark v).2 (.inl hv);have new:∀v,v∈ws->a[v]? =some true:=λv hv=>(m.mark v).2 (.inr ⟨hv,by rw[d.len];exact c v hv⟩);refine⟨m.len.trans d.len,λv hv=>?_,λv hv=>?_,λv hv=>?_,Gt m.less d.less,λv hv=>(g v hv).elim (λh=>up v (d.done v h)) (new v)⟩
 ·rcases(m.mark v).1 hv with h|h
  ·exact d.sound v h
  ·exact f v h.1
 ·rcases(m.work v).1 hv with h|h
  ·exact up v (d.work v h)
  ·exact new v h.1
 ·by_cases h0:mk[v]? =some true
  ·rcases d.closed v h0 with h|h
   ·exact .inl ((m.work v).2 (.inl h))
   ·exact .inr λx i w j=>up w (h x i w j)
  ·rcases(m.mark v).1 hv with h|⟨h,k⟩
   ·exact absurd h h0
   ·refine .inl ((m.work v).2 (.inr ⟨h,?_⟩));rw[gP k]at h0⊢;cases e:mk[v]
    ·rfl
    ·rw[e]at h0;exact absurd rfl h0
theorem DS.pop{u:U}{D:Nat->Prop} {mk b:List Bool} {s c:List Nat}{v:Nat}{x:Vl}(d:DS u D mk (s++[v]))(j:u.ef[v]? =some x)(g:∀w∈je x,w<u.ef.length)(m:Mk mk s (je x) b c):DS u D b c:=by
 have hv:=d.work v (by simp);have up:∀v:Nat,mk[v]? =some true->b[v]? =some true:=λv hv=>(m.mark v).2 (.inl hv);have new:∀w,w∈je x->b[w]? =some true:=λw a=>(m.mark w).2 (.inr ⟨a,by rw[d.len];exact g w a⟩);have l1:=d.less;have l2:=m.less;rw[y6,X4]at l1;refine⟨m.len.trans d.len,λw a=>?_,λw a=>?_,λw a=>?_,by omega,λw a=>up w (d.done w a)⟩
 ·rcases(m.mark w).1 a with h|h
  ·exact d.sound w h
  ·exact .use (d.sound v hv) j h.1
 ·rcases(m.work w).1 a with h|h
  ·exact up w (d.work w (by simp[h]))
  ·exact new w h.1
 ·by_cases h0:mk[w]? =some true
  ·rcases d.closed w h0 with h|h
   ·rcases BK.1 h with h|h
    ·exact .inl ((m.work w).2 (.inl h))
    ·obtain rfl:=Jd.1 h;exact .inr λy f z i=>by rw[j]at f;cases f;exact new z i
   ·exact .inr λy f z i=>up z (h y f z i)
  ·rcases(m.mark w).1 a with h|⟨h,k⟩
   ·exact absurd h h0
   ·refine .inl ((m.work w).2 (.inr ⟨h,?_⟩));rw[gP k]at h0⊢;cases e:mk[w]
    ·rfl
    ·rw[e]at h0;exact absurd rfl h0
theorem DS.all{u:U}{mk:List Bool}(d:DS u (Xi u) mk []){v:Nat}(h:Live u v):mk[v]? =some true:=by
 induction h with
 |root h=>exact d.done _ h
 | use h b c e=>
   rcases d.closed _ e with a|a
   ·cases a
   ·exact a _ b _ c
theorem Vo{x:Vl}(h:x.op=21\/x.op=20->x.args.length<=700):(je x).length<=700:=by
 unfold je;split
 ·exact h (.inl ‹_›)
 ·split
  ·simp only[Dz,GX];omega
  ·split
   ·simp
   ·split <;> simp
section
variable{F F':Nat->Prop}{h h':Hp}{cs ds:List Pc}{Q:fy}{u:U}{vv vb vs:V}
def Zo(u:U)(i:Nat)(v:Nat):Prop:=(v<i/\∃x,u.ef[v]? =some x/\(x.op=19\/x.op=20\/x.op=22\/x.op=23))\/∃(j:Nat)(x:Vl)(fs:List Fm),j<i/\u.ef[j]? =some x/\leaves x.op=true/\u.eh[x.state]? =some fs/\v∈gJ fs
def RtB(u:U)(i:Nat)(v:Nat):Prop:=(∃(b:Nat)(B:Bk),b<i/\u.blocks[b]? =some B/\B.fin=2/\v=B.cond)\/∃(b:Nat)(B:Bk)(fs:List Fm),b<i/\u.blocks[b]? =some B/\B.fin=3/\u.eh[B.state]? =some fs/\v∈gJ fs
theorem T5(g:Good u)(ha:M1 u)(H0:en F h cs)(hu:A0 F h u vv vb vs)
  (H:∀F' h' az wv wb ws,Sn F h F' h'->en F' h' cs->Ju u (pC az)->az.length=u.ef.length->A0 F' h' (gZ u (pC az)) wv wb ws->Q (.agg (uC (gZ u (pC az)) wv wb ws)) h') :
  cP CS p6 [.agg (uC u vv vb vs)] h Q:=by
 refine Qz rfl rfl ?_;unfold Ky;have nv:=g.nv;have pn:∀{l o:Nat},ij (.ptr l o)=some (.ptr l o):=fX _ _;have pf:∀{l o k:Nat},fH k (.ptr l o)=some (.ptr l (o+k)):=eJ _ _ _;have bq:∀{e sz:Nat} {a b:Bool} {cs:List V},O.beq (.cells e sz a b cs) (.cells e sz a b cs)=true:=O.gO _ _ _ _ _;refine mH H0 hu.one λf H1 s1=>zO H1 λq H2 s2=>?_;generalize h.next=l1 at*;generalize f.next=l2 at*;refine ed (H2.wS 1 rfl rfl) ?_;refine XK g H2 ((hu.since s1).since s2) λF3 t s3 H3=>?_;refine qi (gw rfl ?_);have ak:=(s1.trans s2).trans s3;have u3:=hu.since ak;refine ed (H3.wS 1 rfl rfl) (oF (H3.ld 1 rfl rfl) (ed u3.v.len ?_));rw[jQ (z:=V.bool false) rfl (by decide) (by omega),hK];obtain⟨H4,s4⟩:=H3.make (E:=eB) (ty:=jd) (y:=false) (u:=V.bool false) u.ef.length rfl rfl;refine ed (show _=some (V.agg [.I u.func,.I u.pc,vv,vb,vs,.slice t.next 0 u.ef.length,.ee]) from rfl) ?_;refine TZ H4 (by simp only[eQ,u3.v.one,u3.b.one,u3.s.one];rfl) λH5 s5=>?_;have e5:∀{o o':O},((t.new o).new o').get t.next=some o:=λ{o o'}=>by rw[fo _ (by exact KX _),fi]
 refine⟨⟨fi _ _,bq⟩,⟨e5,bq⟩,H5.ld 3 rfl rfl,H5.wS 3 rfl rfl,?_⟩;have al:=(ak.trans s4).trans s5;have A:=(H5.add (p:=eR eN ey [] .ee) .nil λ_ h=>h).perm [2,0,1] 3 (by decide) (by decide) (by simp);clear e5 H5 H4 H3 H2 H1 s1 s2 s3 s4 s5;generalize ((t.new (.cells jd 1 true false (List.replicate u.ef.length (V.bool false)))).new _)=h5 at*;generalize (t.new (.cells jd 1 true false (List.replicate u.ef.length (V.bool false)))).next=lm at*;generalize t.next=lk at*;obtain⟨Tm,A⟩:∃Tm,en F3 h5 (Mx (List.replicate u.ef.length false) (.slice lk 0 u.ef.length) [] .ee lm Tm (.I u.func) (.I u.pc) vv vb vs (ev l2 gY [.I 0,.I 0,.ee,.ee,.ee]::ev l1 30 (uC u vv vb vs)::cs)):=⟨_,A⟩
 have u5:=hu.since al;refine oF (A.ld 4 rfl rfl) (ed u5.v.len ?_);have ai:∀v:Nat,(List.replicate u.ef.length false)[v]?≠some true:=λv hv=>by
  rw[Wb]at hv;split at hv <;> cases hv
 have d0:DS u (Zo u 0) (List.replicate u.ef.length false) []:=⟨Pl,λv hv=>absurd hv (ai v),λv hv=>(nomatch hv),λv hv=>absurd hv (ai v),by simp,λv hv=>by
  rcases hv with⟨h,_⟩|⟨_,_,_,h,_⟩ <;> omega⟩
 obtain ⟨I,L⟩:∃I:Nat->LP,I=λk l h'=>∃(F':Nat->Prop) (i:Nat) (mk:List Bool) (wl:List Nat) (wv:V),l=[.ptr l1 0,.ptr l2 0,.ptr lm 0,vv,.I u.ef.length,.I i]/\i+k=u.ef.length/\Sn F h F' h'/\DS u (Zo u i) mk wl/\
   en F' h' (Mx mk (.slice lk 0 u.ef.length) wl wv lm Tm (.I u.func) (.I u.pc) vv vb vs (ev l2 gY [.I 0,.I 0,.ee,.ee,.ee]::ev l1 30 (uC u vv vb vs)::cs)):=⟨_,rfl⟩
 refine MC I (λk x1 x2 x3 aI aJ aK h6 hi=>?_) (k:=u.ef.length) ?_
 ·rw [L] at hi;obtain⟨F6,i,mk,wl,wv,⟨⟩,hk,s6,d,A⟩:=hi;unfold E6;have u6:=hu.since s6;have dl:=d.less;by_cases hi:i<u.ef.length
  ·refine gG ?_;have hx:=gP hi;generalize u.ef[i]=x at*;obtain⟨lv,ov,w,_,y1,y2,xw,_⟩:=u6.val hx;refine ed y1 (ed y2 ?_);refine iG A rfl rfl (by simp only[mz,eQ,xw.one];rfl) λh7 C s7=>?_;generalize h6.next=lx at*;have C:en F6 h7 (Mx mk (.slice lk 0 u.ef.length) wl wv lm Tm (.I u.func) (.I u.pc) vv vb vs (ev lx 46 (mz x w)::_)):=C.J8 3 (by simp)
   have sU:∀{F8 Y D G M},Sn F h F8 Y->DS u (Zo u (i+1)) D G->en F8 Y (Mx D (.slice lk 0 u.ef.length) G M lm Tm (.I u.func) (.I u.pc) vv vb vs (ev lx 46 (mz x w)::ev l2 gY [.I 0,.I 0,.ee,.ee,.ee]::ev l1 30 (uC u vv vb vs)::cs))->
     oZ CS Q (CE I k) [.ptr l1 0,.ptr l2 0,.ptr lm 0,vv,.I u.ef.length,.I i] Y:=λ{F8 Y D G M} X d8 S=>by
    refine KK ?_;unfold Eb;refine fN ⟨k-1,by omega,?_⟩;rw[L];exact⟨F8,i+1,D,G,M,rfl,by omega,X,d8,S.B1 3 (by simp)⟩
   have r:∀v,Zo u (i+1) v->Zo u i v\/(v=i/\(x.op=19\/x.op=20\/x.op=22\/x.op=23))\/∃fs,leaves x.op=true/\u.eh[x.state]? =some fs/\v∈gJ fs:=λv hv=>by
    rcases hv with⟨f,y,q,t⟩|⟨j,y,fs,f,q,t,h4,h5⟩
    ·by_cases e:v=i
     ·subst e;rw[hx]at q;cases q;exact .inr (.inl ⟨rfl,t⟩)
     ·exact .inl (.inl ⟨by omega,y,q,t⟩)
    ·by_cases e:j=i
     ·subst e;rw[hx]at q;cases q;exact .inr (.inr ⟨fs,t,h4,h5⟩)
     ·exact .inl (.inr ⟨j,y,fs,by omega,q,t,h4,h5⟩)
   have ab:∀w∈[i],w<u.ef.length:=λw N=>by rw[Jd.1 N];omega
   have P:=s6.trans s7;have aj:tR CS Q (CE I k) [.ptr l1 0,.ptr l2 0,.ptr lm 0,.I i,.ptr lx 0,vv,.I u.ef.length,.I i,.I x.op,.bool (leaves x.op)] h7:=by
    refine KN ?_;unfold Ec;refine js ?_;by_cases hlv:leaves x.op=true
    ·refine gw hlv (oF (C.ld 3 rfl rfl) ?_);have lT:=g.leave i x hx hlv;have R:=gP lT;generalize u.eh[x.state]=fs at*;refine NA g (hu.since P) C d.len R (by omega) λY D G M X m8 S=>?_;have am:x.op=22\/x.op=23:=by unfold leaves at hlv;simpa using hlv
     have d8:=d.mark (D':=λv=>Zo u i v\/v∈gJ fs) m8 (λv hv=> .root (.inr (.inl ⟨i,x,fs,hx,hlv,R,hv⟩))) (Cj g R) λv hv=>hv;have l8:=d8.less;refine Ol [i] (nR _) S λF9 h9 v9 H9 s9 r9=>?_;refine Gl H9 r9 (λw N=>by rw[d8.len];exact ab w N) (by simp) (by omega) λaa T U Z K W J=>?_;refine sU (((P.trans X).trans s9).trans K) (d8.mark W (λw N=>?_) ab λv hv=>?_) J
     ·rw[Jd.1 N];exact .root (.inl ⟨x,hx,by omega⟩)
     ·rcases r v hv with f|⟨f,_⟩|⟨ay,_,q,t⟩
      ·exact .inl (.inl f)
      ·exact .inr (by rw[f];simp)
      ·rw[R]at q;cases q;exact .inl (.inr t)
    ·refine gi hlv ?_;have ai:¬(x.op=22\/x.op=23):=by unfold leaves at hlv;simpa using hlv
     have an:∀b:Bool,(b=true↔x.op=19\/x.op=20)->tO CS Q (CE I k) [.ptr l1 0,.ptr l2 0,.ptr lm 0,.I i,vv,.I u.ef.length,.I i,.bool b] h7:=λb hb=>by
      refine KI ?_;unfold DX;refine js ?_
      cases b with
      | true=>
        refine gw rfl ?_;have am:=hb.1 rfl;refine Ol [i] (nR _) C λF9 h9 v9 H9 s9 r9=>?_;refine Gl H9 r9 (λw N=>by rw[d.len];exact ab w N) (by simp) (by omega) λaa T U Z K W J=>?_;refine sU ((P.trans s9).trans K) (d.mark W (λw N=>?_) ab λv hv=>?_) J
        ·rw[Jd.1 N]
         exact .root (.inl ⟨x,hx,by omega⟩)
        ·rcases r v hv with f|⟨f,_⟩|⟨_,q,_⟩
         ·exact .inl f
         ·exact .inr (by rw[f];simp)
         ·exact absurd q hlv
      | false=>
        refine gi (by simp) (sU P ?_ C);have am:¬(x.op=19\/x.op=20):=λh=>by have:=hb.2 h;cases this
        refine⟨d.len,d.sound,d.work,d.closed,d.less,λv hv=>?_⟩;rcases r v hv with f|⟨_,f⟩|⟨_,q,_⟩
        ·exact d.done v f
        ·omega
        ·exact absurd q hlv
     refine ed (gQ ..) (js ?_);by_cases c:x.op=19
     ·have e:((x.op:Int) == 19)=true:=z8.2 (by omega);rw[e];exact gw rfl (an true ⟨λ_=> .inl c,λ_=>rfl⟩)
     ·have e:((x.op:Int) == 19)=false:=MU.2 (by omega);rw[e];refine gi (by simp) (ed (gQ ..) (an _ ?_));rw[z8];constructor
      ·intro h;exact .inr (by omega)
      ·intro h;omega
   refine oF (C.ld 3 rfl rfl) (ed (gQ ..) (js ?_));by_cases c:x.op=22
   ·have e:((x.op:Int) == 22)=true:=z8.2 (by omega);have e2:leaves x.op=true:=by rw[c];rfl
    rw[e2]at aj;rw[e];exact gw rfl aj
   ·have e:((x.op:Int) == 22)=false:=MU.2 (by omega);rw[e];refine gi (by simp) (ed (gQ ..) ?_);have e2:((x.op:Int) == 23)=leaves x.op:=by
     unfold leaves;by_cases c2:x.op=23
     ·rw[c2];rfl
     ·rw[MU.2 (show(x.op:Int)≠23 by omega),MU.2 c,MU.2 c2];rfl
    rw[e2];exact aj
  ·refine iI ?_;obtain rfl:i=u.ef.length:=by omega
   refine oF (A.ld 4 rfl rfl) (ed u6.b.len ?_);have nb:=g.nb;clear hk hi k L I;have d1:DS u (λv=>Zo u u.ef.length v\/RtB u 0 v) mk wl:=⟨d.len,d.sound,d.work,d.closed,d.less,λv hv=>hv.elim (d.done v) λh=>by
    rcases h with⟨_,_,h,_⟩|⟨_,_,_,h,_⟩ <;> omega⟩
   obtain ⟨I,L⟩:∃I:Nat->LP,I=λk l h'=>∃(F':Nat->Prop) (i:Nat) (mk:List Bool) (wl:List Nat) (wv:V),l=[.ptr l1 0,.ptr l2 0,.ptr lm 0,vb,.I u.blocks.length,.I i]/\i+k=u.blocks.length/\Sn F h F' h'/\DS u (λv=>Zo u u.ef.length v\/RtB u i v) mk wl/\
     en F' h' (Mx mk (.slice lk 0 u.ef.length) wl wv lm Tm (.I u.func) (.I u.pc) vv vb vs (ev l2 gY [.I 0,.I 0,.ee,.ee,.ee]::ev l1 30 (uC u vv vb vs)::cs)):=⟨_,rfl⟩
   refine Mv I (λk x1 x2 x3 aL aM aN h6 hi=>?_) (k:=u.blocks.length) ?_;rotate_left
   ·rw[L];exact⟨F6,0,mk,wl,wv,rfl,by omega,s6,d1,A⟩
   clear d1 d dl A u6 s6 mk wl wv;rw[L]at hi;obtain⟨F6,i,mk,wl,wv,⟨⟩,hk,s6,d,A⟩:=hi;unfold E5;have u6:=hu.since s6;have dl:=d.less;by_cases hi:i<u.blocks.length
   ·refine gG ?_;have hB:=gP hi;generalize u.blocks[i]=B at*;obtain⟨lv,ov,bv,bn,bp,_,y1,y2,iv,iN,ip,_⟩:=u6.nW hB;refine ed y1 (ed y2 ?_);refine iG A rfl rfl (by simp only[kr,eQ,iv.one,iN.one,ip.one];rfl) λh7 C s7=>?_;generalize h6.next=lx at*;have C:en F6 h7 (Mx mk (.slice lk 0 u.ef.length) wl wv lm Tm (.I u.func) (.I u.pc) vv vb vs (ev lx 50 (kr B bv bn bp)::_)):=C.J8 3 (by simp);have P:=s6.trans s7
    have sU:∀{F8 Y D G M},Sn F h F8 Y->DS u (λv=>Zo u u.ef.length v\/RtB u (i+1) v) D G->en F8 Y (Mx D (.slice lk 0 u.ef.length) G M lm Tm (.I u.func) (.I u.pc) vv vb vs (ev lx 50 (kr B bv bn bp)::ev l2 gY [.I 0,.I 0,.ee,.ee,.ee]::ev l1 30 (uC u vv vb vs)::cs))->
      oX CS Q (CE I k) [.ptr l1 0,.ptr l2 0,.ptr lm 0,vb,.I u.blocks.length,.I i] Y:=λ{F8 Y D G M} X d8 S=>by
     refine KC ?_;unfold Ea;refine fN ⟨k-1,by omega,?_⟩;rw[L];exact⟨F8,i+1,D,G,M,rfl,by omega,X,d8,S.B1 3 (by simp)⟩
    have r:∀v,RtB u (i+1) v->RtB u i v\/(B.fin=2/\v=B.cond)\/∃fs,B.fin=3/\u.eh[B.state]? =some fs/\v∈gJ fs:=λv hv=>by
     rcases hv with⟨j,y,f,q,t,h4⟩|⟨j,y,fs,f,q,t,h4,h5⟩
     ·by_cases e:j=i
      ·subst e;rw[hB]at q;cases q;exact .inr (.inl ⟨t,h4⟩)
      ·exact .inl (.inl ⟨j,y,by omega,q,t,h4⟩)
     ·by_cases e:j=i
      ·subst e;rw[hB]at q;cases q;exact .inr (.inr ⟨fs,t,h4,h5⟩)
      ·exact .inl (.inr ⟨j,y,fs,by omega,q,t,h4,h5⟩)
    refine oF (C.ld 3 rfl rfl) (gj ?_);by_cases c2:B.fin=2
    ·refine gw (by omega) (oF (C.ld 3 rfl rfl) ?_);have aA:B.cond<u.ef.length:=by
      rcases g.fin i B hB with⟨h,_⟩|⟨_,_,h⟩|⟨h,_⟩
      ·omega
      ·exact vD h
      ·omega
     have ao:∀w∈[B.cond],w<u.ef.length:=λw N=>by rw[Jd.1 N];exact aA
     refine Ol [B.cond] (nR _) C λF9 h9 v9 H9 s9 r9=>?_;refine Gl H9 r9 (λw N=>by rw[d.len];exact ao w N) (by simp) (by omega) λaa T U Z K W J=>?_;refine sU ((P.trans s9).trans K) (d.mark W (λw N=>?_) ao λv hv=>?_) J
     ·rw[Jd.1 N];exact .root (.inr (.inr (.inl ⟨i,B,hB,c2,rfl⟩)))
     ·rcases hv with f|f
      ·exact .inl (.inl f)
      ·rcases r v f with f|⟨_,f⟩|⟨_,q,_⟩
       ·exact .inl (.inr f)
       ·exact .inr (by rw[f];simp)
       ·omega
    ·refine gi (by omega) (gj ?_);by_cases c3:B.fin=3
     ·refine gw (by omega) (oF (C.ld 3 rfl rfl) ?_);have lT:B.state<u.eh.length:=by
       rcases g.fin i B hB with⟨h,_⟩|⟨h,_⟩|⟨_,_,h⟩
       ·omega
       ·omega
       ·exact h
      have R:=gP lT;generalize u.eh[B.state]=fs at*;refine NA g (hu.since P) C d.len R (by omega) λY D G M X m8 S=>?_;refine sU (P.trans X) (d.mark m8 (λv hv=> .root (.inr (.inr (.inr ⟨i,B,fs,hB,c3,R,hv⟩)))) (Cj g R) λv hv=>?_) S;rcases hv with f|f
      ·exact .inl (.inl f)
      ·rcases r v f with f|⟨f,_⟩|⟨ay,_,q,t⟩
       ·exact .inl (.inr f)
       ·omega
       ·rw[R]at q;cases q;exact .inr t
     ·refine gi (by omega) (sU P ⟨d.len,d.sound,d.work,d.closed,d.less,λv hv=>?_⟩ C);rcases hv with f|f
      ·exact d.done v (.inl f)
      ·rcases r v f with f|⟨f,_⟩|⟨_,f,_⟩
       ·exact d.done v (.inr f)
       ·omega
       ·omega
   refine iI ?_;obtain rfl:i=u.blocks.length:=by omega
   have d2:DS u (Xi u) mk wl:=⟨d.len,d.sound,d.work,d.closed,d.less,λv hv=>by
    have ac:=SU g hv;rcases hv with h|⟨j,x,fs,f,q,t,h4⟩|⟨b,B,f,q,t⟩|⟨b,B,fs,f,q,t,h4⟩
    ·exact d.done v (.inl (.inl ⟨ac,h⟩))
    ·exact d.done v (.inl (.inr ⟨j,x,fs,(iR.1 f).1,f,q,t,h4⟩))
    ·exact d.done v (.inr (.inl ⟨b,B,(iR.1 f).1,f,q,t⟩))
    ·exact d.done v (.inr (.inr ⟨b,B,fs,(iR.1 f).1,f,q,t,h4⟩))⟩
   clear hk hi k L I d
   obtain ⟨I,L⟩:∃I:Nat->LP,I=λk l h'=>∃(F':Nat->Prop) (mk:List Bool) (wl:List Nat) (wv:V),l=[.ptr l1 0,.ptr l2 0,.ptr lm 0]/\k=wl.length+2*mk.count false/\Sn F h F' h'/\DS u (Xi u) mk wl/\
     en F' h' (Mx mk (.slice lk 0 u.ef.length) wl wv lm Tm (.I u.func) (.I u.pc) vv vb vs (ev l2 gY [.I 0,.I 0,.ee,.ee,.ee]::ev l1 30 (uC u vv vb vs)::cs)):=⟨_,rfl⟩
   refine Lm I (λk x1 x2 x3 h6 hi=>?_) (k:=wl.length+2*mk.count false) ?_;rotate_left
   ·rw[L];exact⟨F6,mk,wl,wv,rfl,rfl,s6,d2,A⟩
   clear d2 dl A u6 s6 mk wl wv;rw[L]at hi;obtain⟨F6,mk,wl,wv,⟨⟩,hk,s6,d,A⟩:=hi;unfold EW;have u6:=hu.since s6;have dl:=d.less;refine oN (A.ld 2 rfl rfl) (ed (A.len 1 rfl) ?_);rcases lB wl with rfl|⟨s,v,rfl⟩
   ·refine DY (gi (by simp) ?_);refine ed (A.wS 4 rfl rfl) ?_;refine YN u6.one u6.v.len nv A λh7 av s7 C=>?_;refine oN (C.ld 3 rfl rfl) (ed (a:= .I u.ef.length) ((C.len 1 rfl).trans (by rw[d.len])) ?_);have aB:=s6.trans s7;clear hk L I
    obtain ⟨I,L⟩:∃I:Nat->LP,I=λk l h'=>∃(i:Nat) (ys:List Int),l=[.ptr l1 0,.ptr l2 0,av,.slice lk 0 u.ef.length,.I u.ef.length,.I i]/\i+k=u.ef.length/\ys.length=u.ef.length/\(∀j:Nat,j<u.ef.length->ys[j]? =some (if j<i/\mk[j]?≠some true then -1 else(j:Int)))/\Sn F h F6 h'/\
      en F6 h' (eR eZ ey ys av::Mx mk (.slice lk 0 u.ef.length) [] wv lm Tm (.I u.func) (.I u.pc) vv vb vs (ev l2 gY [.I 0,.I 0,.ee,.ee,.ee]::ev l1 30 (uC u vv vb vs)::cs)):=⟨_,rfl⟩
    refine Mh I (λk x1 x2 x9 aE aF aG Y hi=>?_) (k:=u.ef.length) ?_;rotate_left
    ·rw[L];refine⟨0,_,rfl,by omega,by simp,λj hj=>?_,aB,C⟩;rw[if_neg (by omega),zG,wBq hj];rfl
    clear C;rw[L]at hi;obtain⟨i,ys,⟨⟩,hk,ae,ag,X,S⟩:=hi;unfold EM;by_cases hi:i<u.ef.length
    ·refine gG ?_;obtain⟨b,ah⟩:∃b,mk[i]? =some b:=⟨_,gP (by rw[d.len];exact hi)⟩
     obtain⟨la,oa,z1,z2⟩:=S.GV 1 rfl ah .i64;refine ed z1 (ed z2 (qi ?_))
     cases b with
     | true=>
       refine gw rfl (D0 ?_);unfold yr;refine jO (m:=1) (by omega) (by omega) ⟨k-1,by omega,?_⟩;rw[L];refine⟨i+1,ys,rfl,by omega,ae,λj hj=>?_,X,S⟩;rw[ag j hj];by_cases e:j=i
       ·subst e
        rw[if_neg (λh=>h.2 ah),if_neg (λh=>h.2 ah)]
       ·by_cases c:j<i/\mk[j]?≠some true
        ·rw[if_pos c,if_pos ⟨by omega,c.2⟩]
        ·rw[if_neg c,if_neg λh=>c ⟨by omega,h.2⟩]
     | false=>
       refine gi (by simp) ?_;obtain⟨lb,ob,h9,e1,e2,_,H9,s9⟩:=S.Ig 0 rfl (k:=i) (y:=-1) (u:=V.I (-1)) (by omega) rfl rfl rfl;refine ed e1 ?_;rw[e2,ei];simp only[iY]at H9;refine D0 ?_;unfold yr;refine jO (m:=1) (by omega) (by omega) ⟨k-1,by omega,?_⟩;rw[L];refine⟨i+1,ys.set i (-1),rfl,by omega,by rw[Mi];exact ae,λj hj=>?_,X.trans s9,H9⟩;by_cases e:j=i
       ·subst e
        rw[EK (by omega),if_pos ⟨by omega,by rw[ah];simp⟩]
       ·rw[C8 λh=>e h.symm,ag j hj]
        by_cases c:j<i/\mk[j]?≠some true
        ·rw[if_pos c,if_pos ⟨by omega,c.2⟩]
        ·rw[if_neg c,if_neg λh=>c ⟨by omega,h.2⟩]
    ·refine iI ?_;obtain rfl:i=u.ef.length:=by omega
     refine ed (S.wS 5 rfl rfl) ?_;have ap:∀(v:Nat) (a:Int),ys[v]? =some a->a<ys.length:=λv a hv=>by
      have ac:=(iR.1 hv).1;rw[ag v (by omega)]at hv;have:=Option.some.inj hv;split at this <;> omega
     refine Yx g ha ae ap S (hu.since X) λF9 h9 aq ar au s9 H9 u9=>?_;obtain⟨aa,aC,_,J,K⟩:=H9.XP 3 (ws:=uC (gZ u (pC ys)) aq ar au) (n:=5) rfl rfl rfl u9.one;rw[aC,ei];simp only[iY,lj]at J;refine ed (J.wS 3 rfl rfl) ?_;refine H F9 aa ys aq ar au ((X.trans s9).trans K) J.tail.tail.tail.tail.tail (λv hv=>?_) ae (u9.since K);have e:=OL (ag v hv);rw[e];by_cases c:mk[v]? =some true
     ·rw[if_neg λh=>h.2 c];exact .inl ⟨rfl,d.sound v c⟩
     ·rw[if_pos ⟨hv,c⟩];exact .inr ⟨rfl,λhl=>c (d.all hl)⟩
   ·refine DY (gw (by simp <;> omega) ?_);have hlen:(s++[v]).length-1=s.length:=by simp
    have hs:(s++[v]).length=s.length+1:=by simp
    refine oN (A.ld 2 rfl rfl) (oN (A.ld 2 rfl rfl) (ed (A.len 1 rfl) (xK (by omega) (by simp) ?_)));rw[hlen];obtain⟨la,oa,x1,x2⟩:=A.KO 1 rfl (k:=s.length) (x:=v) (by simp) .i64;refine ed x1 (ed x2 ?_);refine oN (A.ld 2 rfl rfl) (oN (A.ld 2 rfl rfl) (ed (A.len 1 rfl) (xK (by omega) (by simp) ?_)));rw[hlen];obtain⟨aw,e1,C⟩:=A.zaV 1 rfl (n:=s.length) (by simp);refine ed e1 (ed pn (ed pf ?_));have et:(s++[v]).take s.length=s:=by simp
    simp only[iY,lj,et]at C;obtain⟨Y,e8,n8,S,X⟩:=C.st 2 (o:=6) (u:=aw) rfl (by simp) (C.one 1 rfl);have aD:gK 1 (.ptr lm (0+6)) aw h6=some (.val .undef Y):=by rw[yC];exact e8
    rw [aD,ei];simp only[iY,lj]at S;refine⟨n8,?_⟩;have u8:=u6.since X;have ac:v<u.ef.length:=by
     have:=(iR.1 (d.work v (by simp))).1;rw[d.len]at this;exact this
    have hx:=gP ac;generalize u.ef[v]=x at*;obtain⟨lv,ov,w,_,y1,y2,xw,_⟩:=u8.val hx;refine oF (S.ld 4 rfl rfl) (ed y1 (ed y2 ?_));refine Ou S xw (λh=>Gt (Gq g hx h) (by decide)) λF9 h9 v9 s9 H9 r9=>?_;have ax:∀w∈je x,w<u.ef.length:=λw N=>vD (g.use v x hx w N);refine Gl H9 r9 (λw N=>by rw[d.len];exact ax w N) (Vo λh=>Gq g hx h) (by omega) λaa T U Z K W J=>?_;have aH:=W.less;refine⟨U.length+2*T.count false,by omega,?_⟩;rw[L];exact⟨F9,T,U,Z,rfl,rfl,((s6.trans X).trans s9).trans K,d.pop hx ax W,J⟩
 ·rw[L];exact⟨F3,0,_,[],.ee,rfl,by omega,al,d0,A⟩
end
