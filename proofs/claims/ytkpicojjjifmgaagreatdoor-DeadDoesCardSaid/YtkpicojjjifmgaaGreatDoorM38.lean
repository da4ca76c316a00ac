/- Parts. -/
import Derived.Test.YtkpicojjjifmgaaGreatDoorM37
import Derived.Test.YtkpicojjjifmgaaGreatDoorM35
namespace Go.Proofs.YtkpicojjjifmgaaGreatDoor.Hx
open Un Dm
structure Mk (mk:List Bool) (wl ws:List Nat) (a:List Bool) (b:List Nat):Prop where
 len:a.length=mk.length
 mark:∀v:Nat,a[v]? =some true↔mk[v]? =some true\/(v∈ws/\v<mk.length)
 work:∀v:Nat,v∈b↔v∈wl\/(v∈ws/\mk[v]? =some false)
 less:b.length+2*a.count false<=wl.length+2*mk.count false
theorem Mk.refl(mk:List Bool)(wl:List Nat):Mk mk wl [] mk wl:=⟨rfl,λv=>by simp,λv=>by simp,jK _⟩
theorem Mk.trans{mk e f:List Bool} {wl i g ws j:List Nat}(a:Mk mk wl ws e i)(b:Mk e i j f g):Mk mk wl (ws++j) f g where
 len:=b.len.trans a.len
 mark v:=by
  rw[b.mark,a.mark,a.len,Hi];constructor
  ·rintro((h|⟨c,d⟩)|⟨c,d⟩)
   ·exact .inl h
   ·exact .inr ⟨.inl c,d⟩
   ·exact .inr ⟨.inr c,d⟩
  ·rintro(h|⟨c|c,d⟩)
   ·exact .inl (.inl h)
   ·exact .inl (.inr ⟨c,d⟩)
   ·exact .inr ⟨c,d⟩
 work v:=by
  have n:e[v]? =some false↔mk[v]? =some false/\v ∉ ws:=by
   have c:=a.mark v;by_cases hl:v<mk.length
   ·have l:=hO hl;have m:=hO (show v<e.length by rw[a.len];exact hl);rw[l,m]at c;rw[l,m];cases d:e[v]'(by rw[a.len];exact hl) <;> cases k:mk[v] <;> simp[d,k,hl]at c⊢ <;> try exact c
   ·rw[NT (by rw[a.len];omega),NT (by omega)];simp
  rw[b.work,a.work,n,Hi];constructor
  ·rintro((h|⟨c,d⟩)|⟨c,d,_⟩)
   ·exact .inl h
   ·exact .inr ⟨.inl c,d⟩
   ·exact .inr ⟨.inr c,d⟩
  ·rintro(h|⟨c|c,d⟩)
   ·exact .inl (.inl h)
   ·exact .inl (.inr ⟨c,d⟩)
   ·by_cases k:v∈ws
    ·exact .inl (.inr ⟨k,d⟩)
    ·exact .inr ⟨c,d,k⟩
 less:=II b.less a.less
theorem Mk.skip{mk:List Bool}{wl:List Nat}{v:Nat}(h:mk[v]? =some true):Mk mk wl [v] mk wl where
 len:=rfl
 mark w:=by
  constructor
  ·exact .inl
  ·rintro(a|⟨a,_⟩)
   ·exact a
   ·rw[Nf.1 a];exact h
 work w:=by
  constructor
  ·exact .inl
  ·rintro(a|⟨a,b⟩)
   ·exact a
   ·rw[Nf.1 a,h]at b;cases b
 less:=jK _
theorem count_mk{l:List Bool}:∀{v:Nat},l[v]? =some false->(l.set v true).count false+1=l.count false:=by
 induction l with
 |nil=>intro v h;simp at h
 | cons a l b=>
   intro v h
   cases v with
   | zero=>
     obtain rfl:a=false:=by simpa using h
     simp
   | succ v=>
     have:=b (v:=v) (by simpa using h);rw[l0,List.count_cons,List.count_cons];omega
theorem Mk.put{mk:List Bool}{wl:List Nat}{v:Nat}(h:mk[v]? =some false):Mk mk wl [v] (mk.set v true) (wl++[v]) where
 len:=Nd ..
 mark w:=by
  have hv:=(jR.1 h).1;by_cases e:w=v
  ·subst e;rw[Hf hv];exact⟨λ_=> .inr ⟨by simp,hv⟩,λ_=>rfl⟩
  ·rw[ES λh=>e h.symm];exact⟨.inl,λa=>a.elim id λb=>absurd (Nf.1 b.1) e⟩
 work w:=by
  rw[Hi,Nf];constructor
  ·rintro(a|rfl)
   ·exact .inl a
   ·exact .inr ⟨rfl,h⟩
  ·rintro(a|⟨a,_⟩)
   ·exact .inl a
   ·exact .inr a
 less:=by
  have:=count_mk h;rw[Ec,wBS];omega
section
variable{F F':Nat->Prop}{h h':Hp}{cs ds:List Pc}{Q:fy}{u:U}{vv vb vs mv wv a0 a1 a2 a3 a4:V}{lm Tm:Nat}{mk:List Bool}{wl:List Nat}
abbrev Mx(mk:List Bool)(mv:V)(wl:List Nat)(wv:V)(lm Tm:Nat)(a0 a1 a2 a3 a4:V)(ds:List Pc):List Pc:=eR eB ju mk mv::eR eN eJ wl wv::ez lm Tm [a0,a1,a2,a3,a4,mv,wv]::ds
theorem GD(G:eo F h (Mx mk mv wl wv lm Tm a0 a1 a2 a3 a4 ds)){ws:List Nat}{v:V}(hs:iq eN F h ws v)(r:∀w∈ws,w<mk.length)(W:ws.length<=700)(X:wl.length+2*mk.count false<=100000)
  (H:∀h' a c d,Sn F h F h'->Mk mk wl ws a c->eo F h' (Mx a mv c d lm Tm a0 a1 a2 a3 a4 ds)->Q (.tuple []) h') :
  cP CS je [.ptr lm 0,v] h Q:=by
 refine HX rfl rfl ?_;unfold Al;refine ee hs.len ?_
 refine EB (λk l h'=>∃(j:Nat) (a:List Bool) (c:List Nat) (d:V),l=[.ptr lm 0,v,.I ws.length,.I j]/\j+k=ws.length/\Sn F h F h'/\Mk mk wl (ws.take j) a c/\eo F h' (Mx a mv c d lm Tm a0 a1 a2 a3 a4 ds)) ?_ (k:=ws.length)
  ⟨0,mk,wl,wv,rfl,by omega,Sn.refl _ _,by rw[wBv];exact Mk.refl _ _,G⟩
 rintro k _ _ _ _ I ⟨j,a,c,d,⟨⟩,Y,q,f,i⟩;unfold xN;by_cases hj:j<ws.length
 ·refine gB ?_;have B:=hO hj;have n:=zE B;have p:=r _ (zd hj);generalize ws[j]=w at*;obtain⟨l1,Z,_,J,K⟩:=(hs.since q).nat B .i64;obtain⟨b,g⟩:∃b,a[w]? =some b:=⟨_,hO (by rw[f.len];exact p)⟩
  obtain⟨l2,o2,L,M⟩:=i.G8 0 rfl g .i64;refine ee J (ee K (oN (i.ld 2 rfl rfl) (ee L (ee M (qt ?_)))));have s:=f.less
  cases b with
  | true=>
    refine gv rfl (xM ?_);unfold p8;refine j8 (m:=1) (by omega) (by omega) ⟨k-1,by omega,j+1,a,c,d,rfl,by omega,q,?_,i⟩;rw[n]
    exact f.trans (Mk.skip g)
  | false=>
    refine gg (by simp) ?_;obtain⟨l3,o3,C,N,O,_,t,P⟩:=i.IG 0 rfl (k:=w) (y:=true) (u:=V.bool true) (by rw[f.len];exact p) rfl rfl rfl;refine oN (i.ld 2 rfl rfl) (ee N ?_);rw[O,ei];simp only[jo]at t;refine oN (t.ld 2 rfl rfl) ?_;rw[oV,fG];obtain⟨e,D,R,_,x,S⟩:=t.uD 1 rfl (j7:=8) (Ca:=3) (y:=w) (w:=hZ [w]) (ro:=false) rfl (by decide) (by decide) (by omega);have z:fg 3 1 8 d (.slice C.next 0 1) (C.new (.cells 3 1 true false (hZ [w])))=some (.val e D):=R;rw[z,ei];simp only[jo,l0]at x;obtain⟨T,U,_,E,s4⟩:=x.st 2 (o:=6) (u:=e) rfl (by simp) (x.one 1 rfl);refine ee pn (ee pf ?_);have A:gM 1 (.ptr lm (0+6)) e D=some (.val .undef T):=by rw[zA];exact U
    rw[A,ei];simp only[jo,l0]at E;refine xM ?_;unfold p8;refine j8 (m:=1) (by omega) (by omega) ⟨k-1,by omega,j+1,_,_,e,rfl,by omega,((q.trans P).trans S).trans s4,?_,E⟩;rw[n];exact f.trans (Mk.put g)
 ·refine iJ ?_;obtain rfl:j=ws.length:=by omega
  rw[JF]at f;exact H I a c d q f i
theorem Rc(fs:List Fm)(f:Fm):gN (fs++[f])=gN fs++(f.locals++f.stack):=by
 unfold gN;rw[wBa,List.flatMap_singleton]
theorem Of(g:Good u)(P:ym F h u vv vb vs)(E:eo F h (Mx mk mv wl wv lm Tm a0 a1 a2 a3 vs ds))(m:mk.length=u.eh.length){s:Nat}{fs:List Fm}(e:u.en[s]? =some fs)(hb:wl.length+2*mk.count false<=100000)
  (H:∀h' a b c,Sn F h F h'->Mk mk wl (gN fs) a b->eo F h' (Mx a mv b c lm Tm a0 a1 a2 a3 vs ds)->Q (.tuple []) h') :
  cP CS mJ [.ptr lm 0,.I s] h Q:=by
 refine GW rfl rfl ?_;unfold zk;obtain⟨lx,R,f,_,S,_,p,G⟩:=P.st e;have p:eQ (.ptr lx (R+0)) h=some f:=p;have q:=zN g s fs e;have n:=CT g e;refine ee pn (ee pf (oF (E.ld 2 rfl rfl) (ee S (oF p (ee G.len ?_)))))
 refine Dn (λk l h'=>∃(j:Nat) (a:List Bool) (b:List Nat) (c:V),l=[.ptr lm 0,f,.I fs.length,.I j]/\j+k=fs.length/\Sn F h F h'/\Mk mk wl (gN (fs.take j)) a b/\eo F h' (Mx a mv b c lm Tm a0 a1 a2 a3 vs ds)) ?_ (k:=fs.length)
  ⟨0,mk,wl,wv,rfl,by omega,Sn.refl _ _,by rw[wBv];exact Mk.refl _ _,E⟩
 rintro k _ _ _ _ I ⟨j,a,b,c,⟨⟩,hk,r,i,J⟩;unfold wD;by_cases hj:j<fs.length
 ·refine gB ?_;have K:=hO hj;have t:=zE K;have d:=zd hj;generalize fs[j]=x at*;obtain⟨q1,q2⟩:=q.2 x d;have w:∀v∈x.locals,v<u.eh.length:=λv hv=>n v (RT.2 ⟨x,d,TX _ hv⟩);have y:∀v∈x.stack,v<u.eh.length:=λv hv=>n v (RT.2 ⟨x,d,wBR _ hv⟩);obtain⟨ly,oy,T,U,_,W,X,L,M⟩:=(G.since r).pg K;refine ee W (ee X ?_);refine gY J rfl rfl (by simp only[JD,ey,L.one,M.one];rfl) λY o z=>?_;generalize I.next=Z at*;have o:eo F Y (Mx a mv b c lm Tm a0 a1 a2 a3 vs (ez Z 49 (JD x T U)::ds)):=o.JK 3 (by simp);have l1:=i.less;refine oF (o.ld 3 rfl rfl) ?_;refine GD o (L.since z) (λv hv=>by rw[i.len,m];exact w v hv) (by omega) (by omega) λh3 aa ab ac N A O=>?_;have l3:=A.less;refine oF (O.ld 3 rfl rfl) ?_;refine GD O ((M.since z).since N) (λv hv=>by rw[A.len,i.len,m];exact y v hv) (by omega) (by omega) λh4 B C D s4 m4 H4=>?_;refine fM ⟨k-1,by omega,j+1,B,C,D,rfl,by omega,((r.trans z).trans N).trans s4,?_,H4.CZ 3 (by simp)⟩;rw[t,Rc];exact i.trans (A.trans m4)
 ·refine iJ ?_;obtain rfl:j=fs.length:=by omega
  rw[JF]at i;exact H I a b c r i J
end
open Un Dm
structure DS (u:U) (D:Nat->Prop) (mk:List Bool) (wl:List Nat):Prop where
 len:mk.length=u.eh.length
 sound:∀v:Nat,mk[v]? =some true->Live u v
 work:∀v∈wl,mk[v]? =some true
 closed:∀v:Nat,mk[v]? =some true->v∈wl\/∀x,u.eh[v]? =some x->∀w∈jk x,mk[w]? =some true
 less:wl.length+2*mk.count false<=2*u.eh.length
 done:∀v,D v->mk[v]? =some true
theorem DS.mark{u:U} {D D':Nat->Prop} {mk a:List Bool} {wl b ws:List Nat}(d:DS u D mk wl)(m:Mk mk wl ws a b)(f:∀w∈ws,Live u w)(c:∀w∈ws,w<u.eh.length)(g:∀v,D' v->D v\/v∈ws):DS u D' a b:=by
 have up:∀v:Nat,mk[v]? =some true->a[v]? =some true:=λv hv=>(m.mark v).2 (.inl hv);have new:∀v,v∈ws->a[v]? =some true:=λv hv=>(m.mark v).2 (.inr ⟨hv,by rw[d.len];exact c v hv⟩);refine⟨m.len.trans d.len,λv hv=>?_,λv hv=>?_,λv hv=>?_,II m.less d.less,λv hv=>(g v hv).elim (λh=>up v (d.done v h)) (new v)⟩
 ·rcases(m.mark v).1 hv with h|h
  ·exact d.sound v h
  ·exact f v h.1
 ·rcases(m.work v).1 hv with h|h
  ·exact up v (d.work v h)
  ·exact new v h.1
 ·by_cases h0:mk[v]? =some true
  ·rcases d.closed v h0 with h|h
   ·exact .inl ((m.work v).2 (.inl h))
   ·exact .inr λx i w j=>up w (h x i w j)
  ·rcases(m.mark v).1 hv with h|⟨h,k⟩
   ·exact absurd h h0
   ·refine .inl ((m.work v).2 (.inr ⟨h,?_⟩));rw[hO k]at h0⊢;cases e:mk[v]
    ·rfl
    ·rw[e]at h0;exact absurd rfl h0
theorem DS.pop{u:U}{D:Nat->Prop} {mk b:List Bool} {s c:List Nat}{v:Nat}{x:Vl}(d:DS u D mk (s++[v]))(j:u.eh[v]? =some x)(g:∀w∈jk x,w<u.eh.length)(m:Mk mk s (jk x) b c):DS u D b c:=by
 have hv:=d.work v (by simp);have up:∀v:Nat,mk[v]? =some true->b[v]? =some true:=λv hv=>(m.mark v).2 (.inl hv);have new:∀w,w∈jk x->b[w]? =some true:=λw a=>(m.mark w).2 (.inr ⟨a,by rw[d.len];exact g w a⟩);have l1:=d.less;have l2:=m.less;rw[Ec,wBS]at l1;refine⟨m.len.trans d.len,λw a=>?_,λw a=>?_,λw a=>?_,by omega,λw a=>up w (d.done w a)⟩
 ·rcases(m.mark w).1 a with h|h
  ·exact d.sound w h
  ·exact .use (d.sound v hv) j h.1
 ·rcases(m.work w).1 a with h|h
  ·exact up w (d.work w (by simp[h]))
  ·exact new w h.1
 ·by_cases h0:mk[w]? =some true
  ·rcases d.closed w h0 with h|h
   ·rcases Hi.1 h with h|h
    ·exact .inl ((m.work w).2 (.inl h))
    ·obtain rfl:=Nf.1 h;exact .inr λy f z i=>by rw[j]at f;cases f;exact new z i
   ·exact .inr λy f z i=>up z (h y f z i)
  ·rcases(m.mark w).1 a with h|⟨h,k⟩
   ·exact absurd h h0
   ·refine .inl ((m.work w).2 (.inr ⟨h,?_⟩));rw[hO k]at h0⊢;cases e:mk[w]
    ·rfl
    ·rw[e]at h0;exact absurd rfl h0
theorem DS.all{u:U}{mk:List Bool}(d:DS u (Xx u) mk []){v:Nat}(h:Live u v):mk[v]? =some true:=by
 induction h with
 |root h=>exact d.done _ h
 | use h b c e=>
   rcases d.closed _ e with a|a
   ·cases a
   ·exact a _ b _ c
theorem UR{x:Vl}(h:x.op=21\/x.op=20->x.args.length<=700):(jk x).length<=700:=by
 unfold jk;split
 ·exact h (.inl ‹_›)
 ·split
  ·simp only[KB,Ip];omega
  ·split
   ·simp
   ·split <;> simp
section
variable{F F':Nat->Prop}{h h':Hp}{cs ds:List Pc}{Q:fy}{u:U}{vv vb vs:V}
def ZT(u:U)(i:Nat)(v:Nat):Prop:=(v<i/\∃x,u.eh[v]? =some x/\(x.op=19\/x.op=20\/x.op=22\/x.op=23))\/∃(j:Nat)(x:Vl)(fs:List Fm),j<i/\u.eh[j]? =some x/\leaves x.op=true/\u.en[x.state]? =some fs/\v∈gN fs
def RtB(u:U)(i:Nat)(v:Nat):Prop:=(∃(b:Nat)(B:Bk),b<i/\u.blocks[b]? =some B/\B.fin=2/\v=B.cond)\/∃(b:Nat)(B:Bk)(fs:List Fm),b<i/\u.blocks[b]? =some B/\B.fin=3/\u.en[B.state]? =some fs/\v∈gN fs
theorem Y5(g:Good u)(ha:Qz u)(H0:eo F h cs)(hu:ym F h u vv vb vs)
  (H:∀F' h' az wv wb ws,Sn F h F' h'->eo F' h' cs->Pe u (qZ az)->az.length=u.eh.length->ym F' h' (ji u (qZ az)) wv wb ws->Q (.agg (uC (ji u (qZ az)) wv wb ws)) h') :
  cP CS BD [.agg (uC u vv vb vs)] h Q:=by
 refine Q5 rfl rfl ?_;unfold Kz;have nv:=g.nv;refine jS H0 hu.one λf H1 s1=>Aa H1 λq H2 s2=>?_;generalize h.next=l1 at*;generalize f.next=l2 at*;refine ee (H2.rh 1 rfl rfl) ?_;refine We g H2 ((hu.since s1).since s2) λF3 t s3 H3=>?_;refine qt (gv rfl ?_);have ak:=(s1.trans s2).trans s3;have u3:=hu.since ak;refine ee (H3.rh 1 rfl rfl) (oF (H3.ld 1 rfl rfl) (ee u3.v.len ?_));rw[ka (z:=V.bool false) rfl (by decide) (by omega),hV];obtain⟨H4,s4⟩:=H3.make (E:=eB) (ty:=ju) (y:=false) (u:=V.bool false) u.eh.length rfl rfl;refine ee (show _=some (V.agg [.I u.func,.I u.pc,vv,vb,vs,.slice t.next 0 u.eh.length,.ef]) from rfl) ?_;refine Up H4 (by simp only[ey,u3.v.one,u3.b.one,u3.s.one];rfl) λH5 s5=>?_;have e5:∀{o o':O},((t.new o).new o').get t.next=some o:=λ{o o'}=>by rw[fo _ (by exact Mm _),fj]
 refine⟨⟨fj _ _,bq⟩,⟨e5,bq⟩,H5.ld 3 rfl rfl,H5.rh 3 rfl rfl,?_⟩;have al:=(ak.trans s4).trans s5;have A:=(H5.add (p:=eR eN eJ [] .ef) .nil λ_ h=>h).perm [2,0,1] 3 (by decide) (by decide) (by simp);clear e5 H5 H4 H3 H2 H1 s1 s2 s3 s4 s5;generalize ((t.new (.cells ju 1 true false (List.replicate u.eh.length (V.bool false)))).new _)=h5 at*;generalize (t.new (.cells ju 1 true false (List.replicate u.eh.length (V.bool false)))).next=lm at*;generalize t.next=lk at*;obtain⟨Tm,A⟩:∃Tm,eo F3 h5 (Mx (List.replicate u.eh.length false) (.slice lk 0 u.eh.length) [] .ef lm Tm (.I u.func) (.I u.pc) vv vb vs (ez l2 gZ [.I 0,.I 0,.ef,.ef,.ef]::ez l1 30 (uC u vv vb vs)::cs)):=⟨_,A⟩
 have u5:=hu.since al;refine oF (A.ld 4 rfl rfl) (ee u5.v.len ?_);have ai:∀v:Nat,(List.replicate u.eh.length false)[v]?≠some true:=λv hv=>by
  rw[wBM]at hv;split at hv <;> cases hv
 have d0:DS u (ZT u 0) (List.replicate u.eh.length false) []:=⟨PV,λv hv=>absurd hv (ai v),λv hv=>(nomatch hv),λv hv=>absurd hv (ai v),by simp,λv hv=>by
  rcases hv with⟨h,_⟩|⟨_,_,_,h,_⟩ <;> omega⟩
 obtain ⟨I,L⟩:∃I:Nat->LP,I=λk l h'=>∃(F':Nat->Prop) (i:Nat) (mk:List Bool) (wl:List Nat) (wv:V),l=[.ptr l1 0,.ptr l2 0,.ptr lm 0,vv,.I u.eh.length,.I i]/\i+k=u.eh.length/\Sn F h F' h'/\DS u (ZT u i) mk wl/\
   eo F' h' (Mx mk (.slice lk 0 u.eh.length) wl wv lm Tm (.I u.func) (.I u.pc) vv vb vs (ez l2 gZ [.I 0,.I 0,.ef,.ef,.ef]::ez l1 30 (uC u vv vb vs)::cs)):=⟨_,rfl⟩
 refine LL I (λk x1 x2 x3 aH aI aJ h6 hi=>?_) (k:=u.eh.length) ?_
 ·rw [L] at hi;obtain⟨F6,i,mk,wl,wv,⟨⟩,hk,s6,d,A⟩:=hi;unfold Fx;have u6:=hu.since s6;have dl:=d.less;by_cases hi:i<u.eh.length
  ·refine gB ?_;have hx:=hO hi;generalize u.eh[i]=x at*;obtain⟨lv,ov,w,_,y1,y2,xw,_⟩:=u6.val hx;refine ee y1 (ee y2 ?_);refine gY A rfl rfl (by simp only[mI,ey,xw.one];rfl) λh7 C s7=>?_;generalize h6.next=lx at*;have C:eo F6 h7 (Mx mk (.slice lk 0 u.eh.length) wl wv lm Tm (.I u.func) (.I u.pc) vv vb vs (ez lx 45 (mI x w)::_)):=C.JK 3 (by simp)
   have uh:∀{F8 Y D G M},Sn F h F8 Y->DS u (ZT u (i+1)) D G->eo F8 Y (Mx D (.slice lk 0 u.eh.length) G M lm Tm (.I u.func) (.I u.pc) vv vb vs (ez lx 45 (mI x w)::ez l2 gZ [.I 0,.I 0,.ef,.ef,.ef]::ez l1 30 (uC u vv vb vs)::cs))->
     pQ CS Q (Db I k) [.ptr l1 0,.ptr l2 0,.ptr lm 0,vv,.I u.eh.length,.I i] Y:=λ{F8 Y D G M} X d8 S=>by
    refine K1 ?_;unfold Ep;refine fM ⟨k-1,by omega,?_⟩;rw[L];exact⟨F8,i+1,D,G,M,rfl,by omega,X,d8,S.CZ 3 (by simp)⟩
   have r:∀v,ZT u (i+1) v->ZT u i v\/(v=i/\(x.op=19\/x.op=20\/x.op=22\/x.op=23))\/∃fs,leaves x.op=true/\u.en[x.state]? =some fs/\v∈gN fs:=λv hv=>by
    rcases hv with⟨f,y,q,t⟩|⟨j,y,fs,f,q,t,h4,h5⟩
    ·by_cases e:v=i
     ·subst e;rw[hx]at q;cases q;exact .inr (.inl ⟨rfl,t⟩)
     ·exact .inl (.inl ⟨by omega,y,q,t⟩)
    ·by_cases e:j=i
     ·subst e;rw[hx]at q;cases q;exact .inr (.inr ⟨fs,t,h4,h5⟩)
     ·exact .inl (.inr ⟨j,y,fs,by omega,q,t,h4,h5⟩)
   have ab:∀w∈[i],w<u.eh.length:=λw N=>by rw[Nf.1 N];omega
   have P:=s6.trans s7;have aj:uy CS Q (Db I k) [.ptr l1 0,.ptr l2 0,.ptr lm 0,.I i,.ptr lx 0,vv,.I u.eh.length,.I i,.I x.op,.bool (leaves x.op)] h7:=by
    refine La ?_;unfold Ey;refine jd ?_;by_cases hlv:leaves x.op=true
    ·refine gv hlv (oF (C.ld 3 rfl rfl) ?_);have mM:=g.leave i x hx hlv;have R:=hO mM;generalize u.en[x.state]=fs at*;refine Of g (hu.since P) C d.len R (by omega) λY D G M X m8 S=>?_;have am:x.op=22\/x.op=23:=by unfold leaves at hlv;simpa using hlv
     have d8:=d.mark (D':=λv=>ZT u i v\/v∈gN fs) m8 (λv hv=> .root (.inr (.inl ⟨i,x,fs,hx,hlv,R,hv⟩))) (CT g R) λv hv=>hv;have l8:=d8.less;refine Pq [i] (oV _) S λF9 h9 v9 H9 s9 r9=>?_;refine GD H9 r9 (λw N=>by rw[d8.len];exact ab w N) (by simp) (by omega) λaa T U Z K W J=>?_;refine uh (((P.trans X).trans s9).trans K) (d8.mark W (λw N=>?_) ab λv hv=>?_) J
     ·rw[Nf.1 N];exact .root (.inl ⟨x,hx,by omega⟩)
     ·rcases r v hv with f|⟨f,_⟩|⟨ay,_,q,t⟩
      ·exact .inl (.inl f)
      ·exact .inr (by rw[f];simp)
      ·rw[R]at q;cases q;exact .inl (.inr t)
    ·refine gg hlv ?_;have ai:¬(x.op=22\/x.op=23):=by unfold leaves at hlv;simpa using hlv
     have an:∀b:Bool,(b=true↔x.op=19\/x.op=20)->uw CS Q (Db I k) [.ptr l1 0,.ptr l2 0,.ptr lm 0,.I i,vv,.I u.eh.length,.I i,.bool b] h7:=λb hb=>by
      refine K8 ?_;unfold Eu;refine jd ?_
      cases b with
      | true=>
        refine gv rfl ?_;have am:=hb.1 rfl;refine Pq [i] (oV _) C λF9 h9 v9 H9 s9 r9=>?_;refine GD H9 r9 (λw N=>by rw[d.len];exact ab w N) (by simp) (by omega) λaa T U Z K W J=>?_;refine uh ((P.trans s9).trans K) (d.mark W (λw N=>?_) ab λv hv=>?_) J
        ·rw[Nf.1 N]
         exact .root (.inl ⟨x,hx,by omega⟩)
        ·rcases r v hv with f|⟨f,_⟩|⟨_,q,_⟩
         ·exact .inl f
         ·exact .inr (by rw[f];simp)
         ·exact absurd q hlv
      | false=>
        refine gg (by simp) (uh P ?_ C);have am:¬(x.op=19\/x.op=20):=λh=>by have:=hb.2 h;cases this
        refine⟨d.len,d.sound,d.work,d.closed,d.less,λv hv=>?_⟩;rcases r v hv with f|⟨_,f⟩|⟨_,q,_⟩
        ·exact d.done v f
        ·omega
        ·exact absurd q hlv
     refine ee (gI ..) (jd ?_);by_cases c:x.op=19
     ·have e:((x.op:Int) == 19)=true:=C9.2 (by omega);rw[e];exact gv rfl (an true ⟨λ_=> .inl c,λ_=>rfl⟩)
     ·have e:((x.op:Int) == 19)=false:=Nj.2 (by omega);rw[e];refine gg (by simp) (ee (gI ..) (an _ ?_));rw[C9];constructor
      ·intro h;exact .inr (by omega)
      ·intro h;omega
   refine oF (C.ld 3 rfl rfl) (ee (gI ..) (jd ?_));by_cases c:x.op=22
   ·have e:((x.op:Int) == 22)=true:=C9.2 (by omega);have e2:leaves x.op=true:=by rw[c];rfl
    rw[e2]at aj;rw[e];exact gv rfl aj
   ·have e:((x.op:Int) == 22)=false:=Nj.2 (by omega);rw[e];refine gg (by simp) (ee (gI ..) ?_);have e2:((x.op:Int) == 23)=leaves x.op:=by
     unfold leaves;by_cases c2:x.op=23
     ·rw[c2];rfl
     ·rw[Nj.2 (show(x.op:Int)≠23 by omega),Nj.2 c,Nj.2 c2];rfl
    rw[e2];exact aj
  ·refine iJ ?_;obtain rfl:i=u.eh.length:=by omega
   refine oF (A.ld 4 rfl rfl) (ee u6.b.len ?_);have nb:=g.nb;clear hk hi k L I;have d1:DS u (λv=>ZT u u.eh.length v\/RtB u 0 v) mk wl:=⟨d.len,d.sound,d.work,d.closed,d.less,λv hv=>hv.elim (d.done v) λh=>by
    rcases h with⟨_,_,h,_⟩|⟨_,_,_,h,_⟩ <;> omega⟩
   obtain ⟨I,L⟩:∃I:Nat->LP,I=λk l h'=>∃(F':Nat->Prop) (i:Nat) (mk:List Bool) (wl:List Nat) (wv:V),l=[.ptr l1 0,.ptr l2 0,.ptr lm 0,vb,.I u.blocks.length,.I i]/\i+k=u.blocks.length/\Sn F h F' h'/\DS u (λv=>ZT u u.eh.length v\/RtB u i v) mk wl/\
     eo F' h' (Mx mk (.slice lk 0 u.eh.length) wl wv lm Tm (.I u.func) (.I u.pc) vv vb vs (ez l2 gZ [.I 0,.I 0,.ef,.ef,.ef]::ez l1 30 (uC u vv vb vs)::cs)):=⟨_,rfl⟩
   refine MO I (λk x1 x2 x3 aK aL aM h6 hi=>?_) (k:=u.blocks.length) ?_;rotate_left
   ·rw[L];exact⟨F6,0,mk,wl,wv,rfl,by omega,s6,d1,A⟩
   clear d1 d dl A u6 s6 mk wl wv;rw[L]at hi;obtain⟨F6,i,mk,wl,wv,⟨⟩,hk,s6,d,A⟩:=hi;unfold Fv;have u6:=hu.since s6;have dl:=d.less;by_cases hi:i<u.blocks.length
   ·refine gB ?_;have hB:=hO hi;generalize u.blocks[i]=B at*;obtain⟨lv,ov,bv,bn,bp,_,y1,y2,iv,iN,ip,_⟩:=u6.oW hB;refine ee y1 (ee y2 ?_);refine gY A rfl rfl (by simp only[kE,ey,iv.one,iN.one,ip.one];rfl) λh7 C s7=>?_;generalize h6.next=lx at*;have C:eo F6 h7 (Mx mk (.slice lk 0 u.eh.length) wl wv lm Tm (.I u.func) (.I u.pc) vv vb vs (ez lx 43 (kE B bv bn bp)::_)):=C.JK 3 (by simp);have P:=s6.trans s7
    have uh:∀{F8 Y D G M},Sn F h F8 Y->DS u (λv=>ZT u u.eh.length v\/RtB u (i+1) v) D G->eo F8 Y (Mx D (.slice lk 0 u.eh.length) G M lm Tm (.I u.func) (.I u.pc) vv vb vs (ez lx 43 (kE B bv bn bp)::ez l2 gZ [.I 0,.I 0,.ef,.ef,.ef]::ez l1 30 (uC u vv vb vs)::cs))->
      pH CS Q (Db I k) [.ptr l1 0,.ptr l2 0,.ptr lm 0,vb,.I u.blocks.length,.I i] Y:=λ{F8 Y D G M} X d8 S=>by
     refine K4 ?_;unfold Em;refine fM ⟨k-1,by omega,?_⟩;rw[L];exact⟨F8,i+1,D,G,M,rfl,by omega,X,d8,S.CZ 3 (by simp)⟩
    have r:∀v,RtB u (i+1) v->RtB u i v\/(B.fin=2/\v=B.cond)\/∃fs,B.fin=3/\u.en[B.state]? =some fs/\v∈gN fs:=λv hv=>by
     rcases hv with⟨j,y,f,q,t,h4⟩|⟨j,y,fs,f,q,t,h4,h5⟩
     ·by_cases e:j=i
      ·subst e;rw[hB]at q;cases q;exact .inr (.inl ⟨t,h4⟩)
      ·exact .inl (.inl ⟨j,y,by omega,q,t,h4⟩)
     ·by_cases e:j=i
      ·subst e;rw[hB]at q;cases q;exact .inr (.inr ⟨fs,t,h4,h5⟩)
      ·exact .inl (.inr ⟨j,y,fs,by omega,q,t,h4,h5⟩)
    refine oF (C.ld 3 rfl rfl) (gi ?_);by_cases c2:B.fin=2
    ·refine gv (by omega) (oF (C.ld 3 rfl rfl) ?_);have aA:B.cond<u.eh.length:=by
      rcases g.fin i B hB with⟨h,_⟩|⟨_,_,h⟩|⟨h,_⟩
      ·omega
      ·exact xj h
      ·omega
     have ao:∀w∈[B.cond],w<u.eh.length:=λw N=>by rw[Nf.1 N];exact aA
     refine Pq [B.cond] (oV _) C λF9 h9 v9 H9 s9 r9=>?_;refine GD H9 r9 (λw N=>by rw[d.len];exact ao w N) (by simp) (by omega) λaa T U Z K W J=>?_;refine uh ((P.trans s9).trans K) (d.mark W (λw N=>?_) ao λv hv=>?_) J
     ·rw[Nf.1 N];exact .root (.inr (.inr (.inl ⟨i,B,hB,c2,rfl⟩)))
     ·rcases hv with f|f
      ·exact .inl (.inl f)
      ·rcases r v f with f|⟨_,f⟩|⟨_,q,_⟩
       ·exact .inl (.inr f)
       ·exact .inr (by rw[f];simp)
       ·omega
    ·refine gg (by omega) (gi ?_);by_cases c3:B.fin=3
     ·refine gv (by omega) (oF (C.ld 3 rfl rfl) ?_);have mM:B.state<u.en.length:=by
       rcases g.fin i B hB with⟨h,_⟩|⟨h,_⟩|⟨_,_,h⟩
       ·omega
       ·omega
       ·exact h
      have R:=hO mM;generalize u.en[B.state]=fs at*;refine Of g (hu.since P) C d.len R (by omega) λY D G M X m8 S=>?_;refine uh (P.trans X) (d.mark m8 (λv hv=> .root (.inr (.inr (.inr ⟨i,B,fs,hB,c3,R,hv⟩)))) (CT g R) λv hv=>?_) S;rcases hv with f|f
      ·exact .inl (.inl f)
      ·rcases r v f with f|⟨f,_⟩|⟨ay,_,q,t⟩
       ·exact .inl (.inr f)
       ·omega
       ·rw[R]at q;cases q;exact .inr t
     ·refine gg (by omega) (uh P ⟨d.len,d.sound,d.work,d.closed,d.less,λv hv=>?_⟩ C);rcases hv with f|f
      ·exact d.done v (.inl f)
      ·rcases r v f with f|⟨f,_⟩|⟨_,f,_⟩
       ·exact d.done v (.inr f)
       ·omega
       ·omega
   refine iJ ?_;obtain rfl:i=u.blocks.length:=by omega
   have d2:DS u (Xx u) mk wl:=⟨d.len,d.sound,d.work,d.closed,d.less,λv hv=>by
    have ac:=Uu g hv;rcases hv with h|⟨j,x,fs,f,q,t,h4⟩|⟨b,B,f,q,t⟩|⟨b,B,fs,f,q,t,h4⟩
    ·exact d.done v (.inl (.inl ⟨ac,h⟩))
    ·exact d.done v (.inl (.inr ⟨j,x,fs,(jR.1 f).1,f,q,t,h4⟩))
    ·exact d.done v (.inr (.inl ⟨b,B,(jR.1 f).1,f,q,t⟩))
    ·exact d.done v (.inr (.inr ⟨b,B,fs,(jR.1 f).1,f,q,t,h4⟩))⟩
   clear hk hi k L I d
   obtain ⟨I,L⟩:∃I:Nat->LP,I=λk l h'=>∃(F':Nat->Prop) (mk:List Bool) (wl:List Nat) (wv:V),l=[.ptr l1 0,.ptr l2 0,.ptr lm 0]/\k=wl.length+2*mk.count false/\Sn F h F' h'/\DS u (Xx u) mk wl/\
     eo F' h' (Mx mk (.slice lk 0 u.eh.length) wl wv lm Tm (.I u.func) (.I u.pc) vv vb vs (ez l2 gZ [.I 0,.I 0,.ef,.ef,.ef]::ez l1 30 (uC u vv vb vs)::cs)):=⟨_,rfl⟩
   refine LK I (λk x1 x2 x3 h6 hi=>?_) (k:=wl.length+2*mk.count false) ?_;rotate_left
   ·rw[L];exact⟨F6,mk,wl,wv,rfl,rfl,s6,d2,A⟩
   clear d2 dl A u6 s6 mk wl wv;rw[L]at hi;obtain⟨F6,mk,wl,wv,⟨⟩,hk,s6,d,A⟩:=hi;unfold FV;have u6:=hu.since s6;have dl:=d.less;refine oN (A.ld 2 rfl rfl) (ee (A.len 1 rfl) ?_);rcases lR wl with rfl|⟨s,v,rfl⟩
   ·refine El (gg (by simp) ?_);refine ee (A.rh 4 rfl rfl) ?_;refine YW u6.one u6.v.len nv A λh7 av s7 C=>?_;refine oN (C.ld 3 rfl rfl) (ee (a:= .I u.eh.length) ((C.len 1 rfl).trans (by rw[d.len])) ?_);have aB:=s6.trans s7;clear hk L I
    obtain ⟨I,L⟩:∃I:Nat->LP,I=λk l h'=>∃(i:Nat) (ys:List Int),l=[.ptr l1 0,.ptr l2 0,av,.slice lk 0 u.eh.length,.I u.eh.length,.I i]/\i+k=u.eh.length/\ys.length=u.eh.length/\(∀j:Nat,j<u.eh.length->ys[j]? =some (if j<i/\mk[j]?≠some true then -1 else(j:Int)))/\Sn F h F6 h'/\
      eo F6 h' (eR eZ eJ ys av::Mx mk (.slice lk 0 u.eh.length) [] wv lm Tm (.I u.func) (.I u.pc) vv vb vs (ez l2 gZ [.I 0,.I 0,.ef,.ef,.ef]::ez l1 30 (uC u vv vb vs)::cs)):=⟨_,rfl⟩
    refine L7 I (λk x1 x2 x9 aD aE aF Y hi=>?_) (k:=u.eh.length) ?_;rotate_left
    ·rw[L];refine⟨0,_,rfl,by omega,by simp,λj hj=>?_,aB,C⟩;rw[if_neg (by omega),Cq,wBo hj];rfl
    clear C;rw[L]at hi;obtain⟨i,ys,⟨⟩,hk,ae,ag,X,S⟩:=hi;unfold E6;by_cases hi:i<u.eh.length
    ·refine gB ?_;obtain⟨b,ah⟩:∃b,mk[i]? =some b:=⟨_,hO (by rw[d.len];exact hi)⟩
     obtain⟨la,oa,z1,z2⟩:=S.G8 1 rfl ah .i64;refine ee z1 (ee z2 (qt ?_))
     cases b with
     | true=>
       refine gv rfl (Ez ?_);unfold yX;refine j8 (m:=1) (by omega) (by omega) ⟨k-1,by omega,?_⟩;rw[L];refine⟨i+1,ys,rfl,by omega,ae,λj hj=>?_,X,S⟩;rw[ag j hj];by_cases e:j=i
       ·subst e
        rw[if_neg (λh=>h.2 ah),if_neg (λh=>h.2 ah)]
       ·by_cases c:j<i/\mk[j]?≠some true
        ·rw[if_pos c,if_pos ⟨by omega,c.2⟩]
        ·rw[if_neg c,if_neg λh=>c ⟨by omega,h.2⟩]
     | false=>
       refine gg (by simp) ?_;obtain⟨lb,ob,h9,e1,e2,_,H9,s9⟩:=S.IG 0 rfl (k:=i) (y:=-1) (u:=V.I (-1)) (by omega) rfl rfl rfl;refine ee e1 ?_;rw[e2,ei];simp only[jo]at H9;refine Ez ?_;unfold yX;refine j8 (m:=1) (by omega) (by omega) ⟨k-1,by omega,?_⟩;rw[L];refine⟨i+1,ys.set i (-1),rfl,by omega,by rw[Nd];exact ae,λj hj=>?_,X.trans s9,H9⟩;by_cases e:j=i
       ·subst e
        rw[Hf (by omega),if_pos ⟨by omega,by rw[ah];simp⟩]
       ·rw[ES λh=>e h.symm,ag j hj]
        by_cases c:j<i/\mk[j]?≠some true
        ·rw[if_pos c,if_pos ⟨by omega,c.2⟩]
        ·rw[if_neg c,if_neg λh=>c ⟨by omega,h.2⟩]
    ·refine iJ ?_;obtain rfl:i=u.eh.length:=by omega
     refine ee (S.rh 5 rfl rfl) ?_;have ap:∀(v:Nat) (a:Int),ys[v]? =some a->a<ys.length:=λv a hv=>by
      have ac:=(jR.1 hv).1;rw[ag v (by omega)]at hv;have:=Option.some.inj hv;split at this <;> omega
     refine YX g ha ae ap S (hu.since X) λF9 h9 aq ar au s9 H9 u9=>?_;obtain⟨aa,K6,_,J,K⟩:=H9.WS 3 (ws:=uC (ji u (qZ ys)) aq ar au) (n:=5) rfl rfl rfl u9.one;rw[K6,ei];simp only[jo,l0]at J;refine ee (J.rh 3 rfl rfl) ?_;refine H F9 aa ys aq ar au ((X.trans s9).trans K) J.tail.tail.tail.tail.tail (λv hv=>?_) ae (u9.since K);have e:=PR (ag v hv);rw[e];by_cases c:mk[v]? =some true
     ·rw[if_neg λh=>h.2 c];exact .inl ⟨rfl,d.sound v c⟩
     ·rw[if_pos ⟨hv,c⟩];exact .inr ⟨rfl,λhl=>c (d.all hl)⟩
   ·refine El (gv (by simp <;> omega) ?_);have hlen:(s++[v]).length-1=s.length:=by simp
    have hs:(s++[v]).length=s.length+1:=by simp
    refine oN (A.ld 2 rfl rfl) (oN (A.ld 2 rfl rfl) (ee (A.len 1 rfl) (yl (by omega) (by simp) ?_)));rw[hlen];obtain⟨la,oa,x1,x2⟩:=A.K7 1 rfl (k:=s.length) (x:=v) (by simp) .i64;refine ee x1 (ee x2 ?_);refine oN (A.ld 2 rfl rfl) (oN (A.ld 2 rfl rfl) (ee (A.len 1 rfl) (yl (by omega) (by simp) ?_)));rw[hlen];obtain⟨aw,e1,C⟩:=A.zbx 1 rfl (n:=s.length) (by simp);refine ee e1 (ee pn (ee pf ?_));have et:(s++[v]).take s.length=s:=by simp
    simp only[jo,l0,et]at C;obtain⟨Y,e8,n8,S,X⟩:=C.st 2 (o:=6) (u:=aw) rfl (by simp) (C.one 1 rfl);have aC:gM 1 (.ptr lm (0+6)) aw h6=some (.val .undef Y):=by rw[zA];exact e8
    rw [aC,ei];simp only[jo,l0]at S;refine⟨n8,?_⟩;have u8:=u6.since X;have ac:v<u.eh.length:=by
     have:=(jR.1 (d.work v (by simp))).1;rw[d.len]at this;exact this
    have hx:=hO ac;generalize u.eh[v]=x at*;obtain⟨lv,ov,w,_,y1,y2,xw,_⟩:=u8.val hx;refine oF (S.ld 4 rfl rfl) (ee y1 (ee y2 ?_));refine IT S xw (λh=>II (Gg g hx h) (by decide)) λF9 h9 v9 s9 H9 r9=>?_;have ax:∀w∈jk x,w<u.eh.length:=λw N=>xj (g.use v x hx w N);refine GD H9 r9 (λw N=>by rw[d.len];exact ax w N) (UR λh=>Gg g hx h) (by omega) λaa T U Z K W J=>?_;have aG:=W.less;refine⟨U.length+2*T.count false,by omega,?_⟩;rw[L];exact⟨F9,T,U,Z,rfl,rfl,((s6.trans X).trans s9).trans K,d.pop hx ax W,J⟩
 ·rw[L];exact⟨F3,0,_,[],.ef,rfl,by omega,al,d0,A⟩
end
