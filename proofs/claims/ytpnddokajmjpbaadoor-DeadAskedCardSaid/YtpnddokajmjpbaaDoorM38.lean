/- Parts. -/
import Derived.Test.YtpnddokajmjpbaaDoorM37
import Derived.Test.YtpnddokajmjpbaaDoorM35
namespace Go.Proofs.YtpnddokajmjpbaaDoor.Hx
open Go.Proofs.YtpnddokajmjpbaaDoor.Un Go.Proofs.YtpnddokajmjpbaaDoor.Dm
structure Mk (mk:List Bool) (wl ws:List Nat) (mk':List Bool) (a:List Nat):Prop where
 len:mk'.length=mk.length
 mark:∀v:Nat,mk'[v]? =some true↔mk[v]? =some true\/(v∈ws/\v<mk.length)
 work:∀v:Nat,v∈a↔v∈wl\/(v∈ws/\mk[v]? =some false)
 less:a.length+2*mk'.count false<=wl.length+2*mk.count false
theorem Mk.refl (mk:List Bool)(wl:List Nat):Mk mk wl [] mk wl:=⟨rfl,λv=>by simp,λv=>by simp,wAF _⟩
theorem Mk.trans {mk mk' e:List Bool} {wl g f ws i:List Nat}(a:Mk mk wl ws mk' g)(b:Mk mk' g i e f):Mk mk wl (ws++i) e f where
 len:=b.len.trans a.len
 mark v:=by
  rw[b.mark,a.mark,a.len,wAV];constructor
  ·rintro((h|⟨c,d⟩)|⟨c,d⟩)
   ·exact .inl h
   ·exact .inr ⟨.inl c,d⟩
   ·exact .inr ⟨.inr c,d⟩
  ·rintro(h|⟨c|c,d⟩)
   ·exact .inl (.inl h)
   ·exact .inl (.inr ⟨c,d⟩)
   ·exact .inr ⟨c,d⟩
 work v:=by
  have m:mk'[v]? =some false↔mk[v]? =some false/\v ∉ ws:=by
   have c:=a.mark v;by_cases hl:v<mk.length
   ·have k:=wAA hl;have l:=wAA (show v<mk'.length by rw[a.len];exact hl);rw[k,l]at c;rw[k,l];cases d:mk'[v]'(by rw[a.len];exact hl) <;> cases j:mk[v] <;> simp[d,j,hl]at c⊢ <;> try exact c
   ·rw[wAh (by rw[a.len];omega),wAh (by omega)];simp
  rw[b.work,a.work,m,wAV];constructor
  ·rintro((h|⟨c,d⟩)|⟨c,d,_⟩)
   ·exact .inl h
   ·exact .inr ⟨.inl c,d⟩
   ·exact .inr ⟨.inr c,d⟩
  ·rintro(h|⟨c|c,d⟩)
   ·exact .inl (.inl h)
   ·exact .inl (.inr ⟨c,d⟩)
   ·by_cases j:v∈ws
    ·exact .inl (.inr ⟨j,d⟩)
    ·exact .inr ⟨c,d,j⟩
 less:=wAq b.less a.less
theorem Mk.skip {mk:List Bool}{wl:List Nat}{v:Nat}(h:mk[v]? =some true):Mk mk wl [v] mk wl where
 len:=rfl
 mark w:=by
  constructor
  ·exact .inl
  ·rintro(a|⟨a,_⟩)
   ·exact a
   ·rw[wAW.1 a];exact h
 work w:=by
  constructor
  ·exact .inl
  ·rintro(a|⟨a,b⟩)
   ·exact a
   ·rw[wAW.1 a,h]at b;cases b
 less:=wAF _
theorem Ic {l:List Bool}:∀{v:Nat},l[v]? =some false->(l.set v true).count false+1=l.count false:=by
 induction l with
 |nil=>intro v h;simp at h
 | cons a l b=>
   intro v h
   cases v with
   | zero=>
     obtain rfl:a=false:=by simpa using h
     simp
   | succ v=>
     have:=b (v:=v) (by simpa using h);rw[wAE,wCH,wCH];omega
theorem Mk.put {mk:List Bool}{wl:List Nat}{v:Nat}(h:mk[v]? =some false):Mk mk wl [v] (mk.set v true) (wl++[v]) where
 len:=wA6 ..
 mark w:=by
  have b:=(wAB.1 h).1;by_cases e:w=v
  ·subst e;rw[wAK b];exact⟨λ_=> .inr ⟨by simp,b⟩,λ_=>rfl⟩
  ·rw[wAN λh=>e h.symm];exact⟨.inl,λa=>a.elim id λc=>absurd (wAW.1 c.1) e⟩
 work w:=by
  rw[wAV,wAW];constructor
  ·rintro(a|rfl)
   ·exact .inl a
   ·exact .inr ⟨rfl,h⟩
  ·rintro(a|⟨a,_⟩)
   ·exact .inl a
   ·exact .inr a
 less:=by
  have:=Ic h;rw[wAM,wBP];omega
section
variable{F F':Nat->Prop}{h h':Hp}{cs ds:List Pc}{Q:QP1}{u:U}{vv vb vs mv wv a0 a1 a2 a3 a4:V}{lm Tm:Nat}{mk:List Bool}{wl:List Nat}
abbrev Mx (mk:List Bool)(mv:V)(wl:List Nat)(wv:V)(lm Tm:Nat)(a0 a1 a2 a3 a4:V)(ds:List Pc):List Pc:=rowP eB tyBool mk mv::rowP eN tyInt wl wv::cellP lm Tm [a0,a1,a2,a3,a4,mv,wv]::ds
theorem xx (E:Hold F h (Mx mk mv wl wv lm Tm a0 a1 a2 a3 a4 ds)){ws:List Nat}{v:V}(hs:SlR eN F h ws v)(q:∀w∈ws,w<mk.length)(Y:ws.length<=700)(Z:wl.length+2*mk.count false<=100000)
  (H:∀h' mk' a c,Sn F h F h'->Mk mk wl ws mk' a->Hold F h' (Mx mk' mv a c lm Tm a0 a1 a2 a3 a4 ds)->Q (.tuple []) h') :
  cP CS fL [.ptr lm 0,v] h Q:=by
 refine yL rfl rfl ?_;unfold su;refine d9 hs.len ?_;have G:∀{l o:Nat},pNil (.ptr l o)=some (.ptr l o):=fc _ _;have I:∀{l o k:Nat},pFA k (.ptr l o)=some (.ptr l (o+k)):=ed _ _ _
 refine v1 (λk l h'=>∃(j:Nat) (mk':List Bool) (a:List Nat) (c:V),l=[.ptr lm 0,v,.int .i64 ws.length,.int .i64 j]/\j+k=ws.length/\Sn F h F h'/\Mk mk wl (ws.take j) mk' a/\Hold F h' (Mx mk' mv a c lm Tm a0 a1 a2 a3 a4 ds)) ?_ (k:=ws.length)
  ⟨0,mk,wl,wv,rfl,by omega,Sn.refl _ _,by rw[wBU];exact Mk.refl _ _,E⟩
 rintro k _ _ _ _ J ⟨j,mk',a,c,⟨⟩,hk,p,e,g⟩;unfold pW;by_cases hj:j<ws.length
 ·refine ltYes ?_;have A:=wAA hj;have i:=rQ A;have n:=q _ (wAR hj);generalize ws[j]=w at*;obtain⟨l1,o1,_,K,L⟩:=(hs.since p).nat A .i64;obtain⟨b,f⟩:∃b,mk'[w]? =some b:=⟨_,wAA (by rw[e.len];exact n)⟩
  obtain⟨l2,o2,M,N⟩:=g.boolR 0 rfl f .i64;refine d9 K (d9 L (oN (g.ld 2 rfl rfl) (d9 M (d9 N (jE ?_)))));have r:=e.less
  cases b with
  | true=>
    refine if_t rfl (p6 ?_);unfold kj;refine gj (m:=1) (by omega) (by omega) ⟨k-1,by omega,j+1,mk',a,c,rfl,by omega,p,?_,g⟩;rw[i]
    exact e.trans (Mk.skip f)
  | false=>
    refine if_f (by simp) ?_;obtain⟨l3,o3,B,O,P,_,s,R⟩:=g.stR 0 rfl (k:=w) (y:=true) (u:=V.bool true) (by rw[e.len];exact n) rfl rfl rfl;refine oN (g.ld 2 rfl rfl) (d9 O ?_);rw[P,ec];simp only[wAC]at s;refine oN (s.ld 2 rfl rfl) ?_;rw[iY,ev];obtain⟨d,C,S,_,t,T⟩:=s.app1 1 rfl (by_:=8) (ety:=3) (y:=w) (w:=nats [w]) (ro:=false) rfl (by decide) (by decide) (by omega);have x:happend 3 1 8 c (.slice B.next 0 1) (B.new (.cells 3 1 true false (nats [w])))=some (.val d C):=S;rw[x,ec];simp only[wAC,wAE]at t;obtain⟨U,W,_,D,X⟩:=t.st 2 (o:=6) (u:=d) rfl (by simp) (t.one 1 rfl);refine d9 G (d9 I ?_);have z:pSt 1 (.ptr lm (0+6)) d C=some (.val .undef U):=by rw[wAY];exact W
    rw[z,ec];simp only[wAC,wAE]at D;refine p6 ?_;unfold kj;refine gj (m:=1) (by omega) (by omega) ⟨k-1,by omega,j+1,_,_,d,rfl,by omega,((p.trans R).trans T).trans X,?_,D⟩;rw[i];exact e.trans (Mk.put f)
 ·refine ltNo ?_;obtain rfl:j=ws.length:=by omega
  rw[wAg]at e;exact H J mk' a c p e g
theorem Am (fs:List Fm)(f:Fm):frames (fs++[f])=frames fs++(f.locals++f.stack):=by
 unfold frames;rw[wBR,List.flatMap_singleton]
theorem B9 (g:Good u)(R:URd F h u vv vb vs)(G:Hold F h (Mx mk mv wl wv lm Tm a0 a1 a2 a3 vs ds))(m:mk.length=u.vals.length){s:Nat}{fs:List Fm}(d:u.states[s]? =some fs)(hb:wl.length+2*mk.count false<=100000)
  (H:∀h' mk' a b,Sn F h F h'->Mk mk wl (frames fs) mk' a->Hold F h' (Mx mk' mv a b lm Tm a0 a1 a2 a3 vs ds)->Q (.tuple []) h') :
  cP CS iA [.ptr lm 0,.int .i64 s] h Q:=by
 refine yc rfl rfl ?_;unfold ry;have S:∀{l o:Nat},pNil (.ptr l o)=some (.ptr l o):=fc _ _;have T:∀{l o k:Nat},pFA k (.ptr l o)=some (.ptr l (o+k)):=ed _ _ _;obtain⟨lx,U,f,_,W,_,q,I⟩:=R.st d;have q:pLd (.ptr lx (U+0)) h=some f:=q;have r:=rV g s fs d;have n:=qi g d;refine d9 S (d9 T (oF (G.ld 2 rfl rfl) (d9 W (oF q (d9 I.len ?_)))))
 refine vz (λk l h'=>∃(j:Nat) (mk':List Bool) (a:List Nat) (b:V),l=[.ptr lm 0,f,.int .i64 fs.length,.int .i64 j]/\j+k=fs.length/\Sn F h F h'/\Mk mk wl (frames (fs.take j)) mk' a/\Hold F h' (Mx mk' mv a b lm Tm a0 a1 a2 a3 vs ds)) ?_ (k:=fs.length)
  ⟨0,mk,wl,wv,rfl,by omega,Sn.refl _ _,by rw[wBU];exact Mk.refl _ _,G⟩
 rintro k _ _ _ _ J ⟨j,mk',a,b,⟨⟩,hk,t,i,K⟩;unfold pA;by_cases hj:j<fs.length
 ·refine ltYes ?_;have L:=wAA hj;have w:=rQ L;have c:=wAR hj;generalize fs[j]=x at*;obtain⟨q1,q2⟩:=r.2 x c;have y:∀v∈x.locals,v<u.vals.length:=λv e=>n v (wAy.2 ⟨x,c,wAu _ e⟩);have z:∀v∈x.stack,v<u.vals.length:=λv e=>n v (wAy.2 ⟨x,c,wBc _ e⟩);obtain⟨ly,oy,X,Y,_,Z,y2,M,N⟩:=(I.since t).frm L;refine d9 Z (d9 y2 ?_);refine fU K rfl rfl (by simp only[fmC,ee,M.one,N.one];rfl) λh2 p A=>?_;generalize J.next=lf at*;have p:Hold F h2 (Mx mk' mv a b lm Tm a0 a1 a2 a3 vs (cellP lf 40 (fmC x X Y)::ds)):=p.toTail 3 (by simp);have l1:=i.less;refine oF (p.ld 3 rfl rfl) ?_;refine xx p (M.since A) (λv e=>by rw[i.len,m];exact y v e) (by omega) (by omega) λh3 aa ab ac O B P=>?_;have l3:=B.less;refine oF (P.ld 3 rfl rfl) ?_;refine xx P ((N.since A).since O) (λv e=>by rw[B.len,i.len,m];exact z v e) (by omega) (by omega) λh4 C D E s4 m4 H4=>?_;refine addOne ⟨k-1,by omega,j+1,C,D,E,rfl,by omega,((t.trans A).trans O).trans s4,?_,H4.fromTail 3 (by simp)⟩;rw[w,Am];exact i.trans (B.trans m4)
 ·refine ltNo ?_;obtain rfl:j=fs.length:=by omega
  rw[wAg]at i;exact H J mk' a b t i K
end
open Go.Proofs.YtpnddokajmjpbaaDoor.Un Go.Proofs.YtpnddokajmjpbaaDoor.Dm
structure DS (u:U) (D:Nat->Prop) (mk:List Bool) (wl:List Nat):Prop where
 len:mk.length=u.vals.length
 sound:∀v:Nat,mk[v]? =some true->Live u v
 work:∀v∈wl,mk[v]? =some true
 closed:∀v:Nat,mk[v]? =some true->v∈wl\/∀x,u.vals[v]? =some x->∀w∈uses x,mk[w]? =some true
 less:wl.length+2*mk.count false<=2*u.vals.length
 done:∀v,D v->mk[v]? =some true
theorem DS.mark {u:U} {D D':Nat->Prop} {mk mk':List Bool} {wl b ws:List Nat}(d:DS u D mk wl)(m:Mk mk wl ws mk' b)(f:∀w∈ws,Live u w)(c:∀w∈ws,w<u.vals.length)(g:∀v,D' v->D v\/v∈ws):DS u D' mk' b:=by
 have up:∀v:Nat,mk[v]? =some true->mk'[v]? =some true:=λv a=>(m.mark v).2 (.inl a);have new:∀v,v∈ws->mk'[v]? =some true:=λv a=>(m.mark v).2 (.inr ⟨a,by rw[d.len];exact c v a⟩);refine⟨m.len.trans d.len,λv a=>?_,λv a=>?_,λv a=>?_,wAq m.less d.less,λv a=>(g v a).elim (λh=>up v (d.done v h)) (new v)⟩
 ·rcases(m.mark v).1 a with h|h
  ·exact d.sound v h
  ·exact f v h.1
 ·rcases(m.work v).1 a with h|h
  ·exact up v (d.work v h)
  ·exact new v h.1
 ·by_cases h0:mk[v]? =some true
  ·rcases d.closed v h0 with h|h
   ·exact .inl ((m.work v).2 (.inl h))
   ·exact .inr λx i w j=>up w (h x i w j)
  ·rcases(m.mark v).1 a with h|⟨h,k⟩
   ·exact absurd h h0
   ·refine .inl ((m.work v).2 (.inr ⟨h,?_⟩));rw[wAA k]at h0⊢;cases e:mk[v]
    ·rfl
    ·rw[e]at h0;exact absurd rfl h0
theorem DS.pop {u:U}{D:Nat->Prop} {mk mk':List Bool} {s b:List Nat}{v:Nat}{x:Vl}(d:DS u D mk (s++[v]))(j:u.vals[v]? =some x)(f:∀w∈uses x,w<u.vals.length)(m:Mk mk s (uses x) mk' b):DS u D mk' b:=by
 have g:=d.work v (by simp);have up:∀v:Nat,mk[v]? =some true->mk'[v]? =some true:=λv g=>(m.mark v).2 (.inl g);have new:∀w,w∈uses x->mk'[w]? =some true:=λw a=>(m.mark w).2 (.inr ⟨a,by rw[d.len];exact f w a⟩);have l1:=d.less;have l2:=m.less;rw[wAM,wBP]at l1;refine⟨m.len.trans d.len,λw a=>?_,λw a=>?_,λw a=>?_,by omega,λw a=>up w (d.done w a)⟩
 ·rcases(m.mark w).1 a with h|h
  ·exact d.sound w h
  ·exact .use (d.sound v g) j h.1
 ·rcases(m.work w).1 a with h|h
  ·exact up w (d.work w (by simp[h]))
  ·exact new w h.1
 ·by_cases h0:mk[w]? =some true
  ·rcases d.closed w h0 with h|h
   ·rcases wAV.1 h with h|h
    ·exact .inl ((m.work w).2 (.inl h))
    ·obtain rfl:=wAW.1 h;exact .inr λy c z i=>by rw[j]at c;cases c;exact new z i
   ·exact .inr λy c z i=>up z (h y c z i)
  ·rcases(m.mark w).1 a with h|⟨h,k⟩
   ·exact absurd h h0
   ·refine .inl ((m.work w).2 (.inr ⟨h,?_⟩));rw[wAA k]at h0⊢;cases e:mk[w]
    ·rfl
    ·rw[e]at h0;exact absurd rfl h0
theorem DS.all {u:U}{mk:List Bool}(d:DS u (Root u) mk []){v:Nat}(h:Live u v):mk[v]? =some true:=by
 induction h with
 |root h=>exact d.done _ h
 | use h b c e=>
   rcases d.closed _ e with a|a
   ·cases a
   ·exact a _ b _ c
theorem GN {x:Vl}(h:x.op=21\/x.op=20->x.args.length<=700):(uses x).length<=700:=by
 unfold uses;split
 ·exact h (.inl ‹_›)
 ·split
  ·simp only[wAX,wAc];omega
  ·split
   ·simp
   ·split <;> simp
section
variable{F F':Nat->Prop}{h h':Hp}{cs ds:List Pc}{Q:QP1}{u:U}{vv vb vs:V}
def RtV (u:U)(i:Nat)(v:Nat):Prop:=(v<i/\∃x,u.vals[v]? =some x/\(x.op=19\/x.op=20\/x.op=22\/x.op=23))\/∃(j:Nat)(x:Vl)(fs:List Fm),j<i/\u.vals[j]? =some x/\leaves x.op=true/\u.states[x.state]? =some fs/\v∈frames fs
def RtB (u:U)(i:Nat)(v:Nat):Prop:=(∃(b:Nat)(B:Bk),b<i/\u.blocks[b]? =some B/\B.fin=2/\v=B.cond)\/∃(b:Nat)(B:Bk)(fs:List Fm),b<i/\u.blocks[b]? =some B/\B.fin=3/\u.states[B.state]? =some fs/\v∈frames fs
theorem Iw {T:Nat}{ws:List V}{K:O->QP1}(H:Hold F h ds)(a:allOne ws=true)(b:Hold F (h.new (.cells T 1 true false ws)) (cellP h.next T ws::ds)->Sn F h F (h.new (.cells T 1 true false ws))->K (.cells T 1 true false ws) (.ptr h.next 0) (h.new (.cells T 1 true false ws))):alO (hbox T (.agg ws)) h K:=by
 rw[vE a,fD];exact b (H.newC T _).1 (H.newC T ws).2
theorem II (g:Good u)(ha:Args u)(H0:Hold F h cs)(hu:URd F h u vv vb vs)
  (H:∀F' h' az wv wb ws,Sn F h F' h'->Hold F' h' cs->DeadAs u (asF az)->az.length=u.vals.length->URd F' h' (trimA u (asF az)) wv wb ws->Q (.agg (uC (trimA u (asF az)) wv wb ws)) h') :
  cP CS t6 [.agg (uC u vv vb vs)] h Q:=by
 refine Du rfl rfl ?_;unfold Az;have nv:=g.nv;have pn:∀{l o:Nat},pNil (.ptr l o)=some (.ptr l o):=fc _ _;have pf:∀{l o k:Nat},pFA k (.ptr l o)=some (.ptr l (o+k)):=ed _ _ _;have bq:∀{e sz:Nat} {a b:Bool} {cs:List V},O.beq (.cells e sz a b cs) (.cells e sz a b cs)=true:=O.beq_cells _ _ _ _ _;refine kh H0 hu.one λf H1 s1=>uG H1 λr H2 s2=>?_;generalize h.next=l1 at*;generalize f.next=l2 at*;refine d9 (H2.ldA 1 rfl rfl) ?_;refine Ij g H2 ((hu.since s1).since s2) λF3 A s3 H3=>?_;refine jE (if_t rfl ?_);have an:=(s1.trans s2).trans s3;have u3:=hu.since an;refine d9 (H3.ldA 1 rfl rfl) (oF (H3.ld 1 rfl rfl) (d9 u3.v.len ?_));rw[gh (z:=V.bool false) rfl (by decide) (by omega),fD];obtain⟨H4,s4⟩:=H3.make (E:=eB) (ty:=tyBool) (y:=false) (u:=V.bool false) u.vals.length rfl rfl;refine d9 (show _=some (V.agg [.int .i64 u.func,.int .i64 u.pc,vv,vb,vs,.slice A.next 0 u.vals.length,.nilSlice]) from rfl) ?_;refine Iw H4 (by simp only[ee,u3.v.one,u3.b.one,u3.s.one];rfl) λH5 s5=>?_;have e5:∀{o o':O},((A.new o).new o').get A.next=some o:=λ{o o'}=>by rw[er _ (by exact wAk _),ef]
 refine⟨⟨ef _ _,bq⟩,⟨e5,bq⟩,H5.ld 3 rfl rfl,H5.ldA 3 rfl rfl,?_⟩;have ao:=(an.trans s4).trans s5;have C:=(H5.add (p:=rowP eN tyInt [] .nilSlice) .nil λ_ h=>h).perm [2,0,1] 3 (by decide) (by decide) (by simp);clear e5 H5 H4 H3 H2 H1 s1 s2 s3 s4 s5;generalize ((A.new (.cells tyBool 1 true false (List.replicate u.vals.length (V.bool false)))).new _)=h5 at*;generalize (A.new (.cells tyBool 1 true false (List.replicate u.vals.length (V.bool false)))).next=lm at*;generalize A.next=lk at*;obtain⟨Tm,C⟩:∃Tm,Hold F3 h5 (Mx (List.replicate u.vals.length false) (.slice lk 0 u.vals.length) [] .nilSlice lm Tm (.int .i64 u.func) (.int .i64 u.pc) vv vb vs (cellP l2 tyUnit [.int .i64 0,.int .i64 0,.nilSlice,.nilSlice,.nilSlice]::cellP l1 30 (uC u vv vb vs)::cs)):=⟨_,C⟩
 have u5:=hu.since ao;refine oF (C.ld 4 rfl rfl) (d9 u5.v.len ?_);have aj:∀v:Nat,(List.replicate u.vals.length false)[v]?≠some true:=λv q=>by
  rw[wA4]at q;split at q <;> cases q
 have d0:DS u (RtV u 0) (List.replicate u.vals.length false) []:=⟨wAi,λv q=>absurd q (aj v),λv q=>(nomatch q),λv q=>absurd q (aj v),by simp,λv q=>by
  rcases q with⟨h,_⟩|⟨_,_,_,h,_⟩ <;> omega⟩
 obtain ⟨I,M⟩:∃I:Nat->LP,I=λk l h'=>∃(F':Nat->Prop) (i:Nat) (mk:List Bool) (wl:List Nat) (wv:V),l=[.ptr l1 0,.ptr l2 0,.ptr lm 0,vv,.int .i64 u.vals.length,.int .i64 i]/\i+k=u.vals.length/\Sn F h F' h'/\DS u (RtV u i) mk wl/\
   Hold F' h' (Mx mk (.slice lk 0 u.vals.length) wl wv lm Tm (.int .i64 u.func) (.int .i64 u.pc) vv vb vs (cellP l2 tyUnit [.int .i64 0,.int .i64 0,.nilSlice,.nilSlice,.nilSlice]::cellP l1 30 (uC u vv vb vs)::cs)):=⟨_,rfl⟩
 refine Bm I (λk x1 x2 x3 aL aM aN h6 hi=>?_) (k:=u.vals.length) ?_
 ·rw [M] at hi;obtain⟨F6,i,mk,wl,wv,⟨⟩,hk,s6,d,C⟩:=hi;unfold wt;have u6:=hu.since s6;have dl:=d.less;by_cases hi:i<u.vals.length
  ·refine ltYes ?_;have hx:=wAA hi;generalize u.vals[i]=x at*;obtain⟨lv,ov,w,_,y1,y2,xw,_⟩:=u6.val hx;refine d9 y1 (d9 y2 ?_);refine fU C rfl rfl (by simp only[vlC,ee,xw.one];rfl) λh7 D s7=>?_;generalize h6.next=lx at*;have D:Hold F6 h7 (Mx mk (.slice lk 0 u.vals.length) wl wv lm Tm (.int .i64 u.func) (.int .i64 u.pc) vv vb vs (cellP lx 42 (vlC x w)::_)):=D.toTail 3 (by simp)
   have hnext:∀{F8 Z G J N},Sn F h F8 Z->DS u (RtV u (i+1)) G J->Hold F8 Z (Mx G (.slice lk 0 u.vals.length) J N lm Tm (.int .i64 u.func) (.int .i64 u.pc) vv vb vs (cellP lx 42 (vlC x w)::cellP l2 tyUnit [.int .i64 0,.int .i64 0,.nilSlice,.nilSlice,.nilSlice]::cellP l1 30 (uC u vv vb vs)::cs))->
     j9 CS Q (ltI I k) [.ptr l1 0,.ptr l2 0,.ptr lm 0,vv,.int .i64 u.vals.length,.int .i64 i] Z:=λ{F8 Z G J N} Y d8 T=>by
    refine AC ?_;unfold vY;refine addOne ⟨k-1,by omega,?_⟩;rw[M];exact⟨F8,i+1,G,J,N,rfl,by omega,Y,d8,T.fromTail 3 (by simp)⟩
   have t:∀v,RtV u (i+1) v->RtV u i v\/(v=i/\(x.op=19\/x.op=20\/x.op=22\/x.op=23))\/∃fs,leaves x.op=true/\u.states[x.state]? =some fs/\v∈frames fs:=λv q=>by
    rcases q with⟨f,y,r,A⟩|⟨j,y,fs,f,r,A,h4,h5⟩
    ·by_cases e:v=i
     ·subst e;rw[hx]at r;cases r;exact .inr (.inl ⟨rfl,A⟩)
     ·exact .inl (.inl ⟨by omega,y,r,A⟩)
    ·by_cases e:j=i
     ·subst e;rw[hx]at r;cases r;exact .inr (.inr ⟨fs,A,h4,h5⟩)
     ·exact .inl (.inr ⟨j,y,fs,by omega,r,A,h4,h5⟩)
   have ac:∀w∈[i],w<u.vals.length:=λw P=>by rw[wAW.1 P];omega
   have R:=s6.trans s7;have al:nw CS Q (ltI I k) [.ptr l1 0,.ptr l2 0,.ptr lm 0,.int .i64 i,.ptr lx 0,vv,.int .i64 u.vals.length,.int .i64 i,.int .i64 x.op,.bool (leaves x.op)] h7:=by
    refine AA ?_;unfold vV;refine st_b ?_;by_cases hlv:leaves x.op=true
    ·refine if_t hlv (oF (D.ld 3 rfl rfl) ?_);have am:=g.leave i x hx hlv;have S:=wAA am;generalize u.states[x.state]=fs at*;refine B9 g (hu.since R) D d.len S (by omega) λZ G J N Y m8 T=>?_;have ap:x.op=22\/x.op=23:=by unfold leaves at hlv;simpa using hlv
     have d8:=d.mark (D':=λv=>RtV u i v\/v∈frames fs) m8 (λv q=> .root (.inr (.inl ⟨i,x,fs,hx,hlv,S,q⟩))) (qi g S) λv q=>q;have l8:=d8.less;refine Dl [i] (iY _) T λF9 h9 v9 H9 s9 r9=>?_;refine xx H9 r9 (λw P=>by rw[d8.len];exact ac w P) (by simp) (by omega) λab U W aa L X K=>?_;refine hnext (((R.trans Y).trans s9).trans L) (d8.mark X (λw P=>?_) ac λv q=>?_) K
     ·rw[wAW.1 P];exact .root (.inl ⟨x,hx,by omega⟩)
     ·rcases t v q with f|⟨f,_⟩|⟨aC,_,r,A⟩
      ·exact .inl (.inl f)
      ·exact .inr (by rw[f];simp)
      ·rw[S]at r;cases r;exact .inl (.inr A)
    ·refine if_f hlv ?_;have aj:¬(x.op=22\/x.op=23):=by unfold leaves at hlv;simpa using hlv
     have aq:∀b:Bool,(b=true↔x.op=19\/x.op=20)->ny CS Q (ltI I k) [.ptr l1 0,.ptr l2 0,.ptr lm 0,.int .i64 i,vv,.int .i64 u.vals.length,.int .i64 i,.bool b] h7:=λb hb=>by
      refine AD ?_;unfold v0;refine st_b ?_
      cases b with
      | true=>
        refine if_t rfl ?_;have ap:=hb.1 rfl;refine Dl [i] (iY _) D λF9 h9 v9 H9 s9 r9=>?_;refine xx H9 r9 (λw P=>by rw[d.len];exact ac w P) (by simp) (by omega) λab U W aa L X K=>?_;refine hnext ((R.trans s9).trans L) (d.mark X (λw P=>?_) ac λv q=>?_) K
        ·rw[wAW.1 P]
         exact .root (.inl ⟨x,hx,by omega⟩)
        ·rcases t v q with f|⟨f,_⟩|⟨_,r,_⟩
         ·exact .inl f
         ·exact .inr (by rw[f];simp)
         ·exact absurd r hlv
      | false=>
        refine if_f (by simp) (hnext R ?_ D);have ap:¬(x.op=19\/x.op=20):=λh=>by have:=hb.2 h;cases this
        refine⟨d.len,d.sound,d.work,d.closed,d.less,λv q=>?_⟩;rcases t v q with f|⟨_,f⟩|⟨_,r,_⟩
        ·exact d.done v f
        ·omega
        ·exact absurd r hlv
     refine d9 (fF ..) (st_b ?_);by_cases c:x.op=19
     ·have e:((x.op:Int) == 19)=true:=wAt.2 (by omega);rw[e];exact if_t rfl (aq true ⟨λ_=> .inl c,λ_=>rfl⟩)
     ·have e:((x.op:Int) == 19)=false:=wAz.2 (by omega);rw[e];refine if_f (by simp) (d9 (fF ..) (aq _ ?_));rw[wAt];constructor
      ·intro h;exact .inr (by omega)
      ·intro h;omega
   refine oF (D.ld 3 rfl rfl) (d9 (fF ..) (st_b ?_));by_cases c:x.op=22
   ·have e:((x.op:Int) == 22)=true:=wAt.2 (by omega);have e2:leaves x.op=true:=by rw[c];rfl
    rw[e2]at al;rw[e];exact if_t rfl al
   ·have e:((x.op:Int) == 22)=false:=wAz.2 (by omega);rw[e];refine if_f (by simp) (d9 (fF ..) ?_);have e2:((x.op:Int) == 23)=leaves x.op:=by
     unfold leaves;by_cases c2:x.op=23
     ·rw[c2];rfl
     ·rw[wAz.2 (show(x.op:Int)≠23 by omega),wAz.2 c,wAz.2 c2];rfl
    rw[e2];exact al
  ·refine ltNo ?_;obtain rfl:i=u.vals.length:=by omega
   refine oF (C.ld 4 rfl rfl) (d9 u6.b.len ?_);have nb:=g.nb;clear hk hi k M I;have d1:DS u (λv=>RtV u u.vals.length v\/RtB u 0 v) mk wl:=⟨d.len,d.sound,d.work,d.closed,d.less,λv q=>q.elim (d.done v) λh=>by
    rcases h with⟨_,_,h,_⟩|⟨_,_,_,h,_⟩ <;> omega⟩
   obtain ⟨I,M⟩:∃I:Nat->LP,I=λk l h'=>∃(F':Nat->Prop) (i:Nat) (mk:List Bool) (wl:List Nat) (wv:V),l=[.ptr l1 0,.ptr l2 0,.ptr lm 0,vb,.int .i64 u.blocks.length,.int .i64 i]/\i+k=u.blocks.length/\Sn F h F' h'/\DS u (λv=>RtV u u.vals.length v\/RtB u i v) mk wl/\
     Hold F' h' (Mx mk (.slice lk 0 u.vals.length) wl wv lm Tm (.int .i64 u.func) (.int .i64 u.pc) vv vb vs (cellP l2 tyUnit [.int .i64 0,.int .i64 0,.nilSlice,.nilSlice,.nilSlice]::cellP l1 30 (uC u vv vb vs)::cs)):=⟨_,rfl⟩
   refine BA I (λk x1 x2 x3 aO aP aQ h6 hi=>?_) (k:=u.blocks.length) ?_;rotate_left
   ·rw[M];exact⟨F6,0,mk,wl,wv,rfl,by omega,s6,d1,C⟩
   clear d1 d dl C u6 s6 mk wl wv;rw[M]at hi;obtain⟨F6,i,mk,wl,wv,⟨⟩,hk,s6,d,C⟩:=hi;unfold wL;have u6:=hu.since s6;have dl:=d.less;by_cases hi:i<u.blocks.length
   ·refine ltYes ?_;have hB:=wAA hi;generalize u.blocks[i]=B at*;obtain⟨lv,ov,bv,bn,bp,_,y1,y2,iv,iN,ip,_⟩:=u6.blk hB;refine d9 y1 (d9 y2 ?_);refine fU C rfl rfl (by simp only[bkC,ee,iv.one,iN.one,ip.one];rfl) λh7 D s7=>?_;generalize h6.next=lx at*;have D:Hold F6 h7 (Mx mk (.slice lk 0 u.vals.length) wl wv lm Tm (.int .i64 u.func) (.int .i64 u.pc) vv vb vs (cellP lx 44 (bkC B bv bn bp)::_)):=D.toTail 3 (by simp);have R:=s6.trans s7
    have hnext:∀{F8 Z G J N},Sn F h F8 Z->DS u (λv=>RtV u u.vals.length v\/RtB u (i+1) v) G J->Hold F8 Z (Mx G (.slice lk 0 u.vals.length) J N lm Tm (.int .i64 u.func) (.int .i64 u.pc) vv vb vs (cellP lx 44 (bkC B bv bn bp)::cellP l2 tyUnit [.int .i64 0,.int .i64 0,.nilSlice,.nilSlice,.nilSlice]::cellP l1 30 (uC u vv vb vs)::cs))->
      j7 CS Q (ltI I k) [.ptr l1 0,.ptr l2 0,.ptr lm 0,vb,.int .i64 u.blocks.length,.int .i64 i] Z:=λ{F8 Z G J N} Y d8 T=>by
     refine AB ?_;unfold vX;refine addOne ⟨k-1,by omega,?_⟩;rw[M];exact⟨F8,i+1,G,J,N,rfl,by omega,Y,d8,T.fromTail 3 (by simp)⟩
    have t:∀v,RtB u (i+1) v->RtB u i v\/(B.fin=2/\v=B.cond)\/∃fs,B.fin=3/\u.states[B.state]? =some fs/\v∈frames fs:=λv q=>by
     rcases q with⟨j,y,f,r,A,h4⟩|⟨j,y,fs,f,r,A,h4,h5⟩
     ·by_cases e:j=i
      ·subst e;rw[hB]at r;cases r;exact .inr (.inl ⟨A,h4⟩)
      ·exact .inl (.inl ⟨j,y,by omega,r,A,h4⟩)
     ·by_cases e:j=i
      ·subst e;rw[hB]at r;cases r;exact .inr (.inr ⟨fs,A,h4,h5⟩)
      ·exact .inl (.inr ⟨j,y,fs,by omega,r,A,h4,h5⟩)
    refine oF (D.ld 3 rfl rfl) (fk ?_);by_cases c2:B.fin=2
    ·refine if_t (by omega) (oF (D.ld 3 rfl rfl) ?_);have aD:B.cond<u.vals.length:=by
      rcases g.fin i B hB with⟨h,_⟩|⟨_,_,h⟩|⟨h,_⟩
      ·omega
      ·exact qC h
      ·omega
     have ar:∀w∈[B.cond],w<u.vals.length:=λw P=>by rw[wAW.1 P];exact aD
     refine Dl [B.cond] (iY _) D λF9 h9 v9 H9 s9 r9=>?_;refine xx H9 r9 (λw P=>by rw[d.len];exact ar w P) (by simp) (by omega) λab U W aa L X K=>?_;refine hnext ((R.trans s9).trans L) (d.mark X (λw P=>?_) ar λv q=>?_) K
     ·rw[wAW.1 P];exact .root (.inr (.inr (.inl ⟨i,B,hB,c2,rfl⟩)))
     ·rcases q with f|f
      ·exact .inl (.inl f)
      ·rcases t v f with f|⟨_,f⟩|⟨_,r,_⟩
       ·exact .inl (.inr f)
       ·exact .inr (by rw[f];simp)
       ·omega
    ·refine if_f (by omega) (fk ?_);by_cases c3:B.fin=3
     ·refine if_t (by omega) (oF (D.ld 3 rfl rfl) ?_);have am:B.state<u.states.length:=by
       rcases g.fin i B hB with⟨h,_⟩|⟨h,_⟩|⟨_,_,h⟩
       ·omega
       ·omega
       ·exact h
      have S:=wAA am;generalize u.states[B.state]=fs at*;refine B9 g (hu.since R) D d.len S (by omega) λZ G J N Y m8 T=>?_;refine hnext (R.trans Y) (d.mark m8 (λv q=> .root (.inr (.inr (.inr ⟨i,B,fs,hB,c3,S,q⟩)))) (qi g S) λv q=>?_) T;rcases q with f|f
      ·exact .inl (.inl f)
      ·rcases t v f with f|⟨f,_⟩|⟨aC,_,r,A⟩
       ·exact .inl (.inr f)
       ·omega
       ·rw[S]at r;cases r;exact .inr A
     ·refine if_f (by omega) (hnext R ⟨d.len,d.sound,d.work,d.closed,d.less,λv q=>?_⟩ D);rcases q with f|f
      ·exact d.done v (.inl f)
      ·rcases t v f with f|⟨f,_⟩|⟨_,f,_⟩
       ·exact d.done v (.inr f)
       ·omega
       ·omega
   refine ltNo ?_;obtain rfl:i=u.blocks.length:=by omega
   have d2:DS u (Root u) mk wl:=⟨d.len,d.sound,d.work,d.closed,d.less,λv q=>by
    have ae:=Dk g q;rcases q with h|⟨j,x,fs,f,r,A,h4⟩|⟨b,B,f,r,A⟩|⟨b,B,fs,f,r,A,h4⟩
    ·exact d.done v (.inl (.inl ⟨ae,h⟩))
    ·exact d.done v (.inl (.inr ⟨j,x,fs,(wAB.1 f).1,f,r,A,h4⟩))
    ·exact d.done v (.inr (.inl ⟨b,B,(wAB.1 f).1,f,r,A⟩))
    ·exact d.done v (.inr (.inr ⟨b,B,fs,(wAB.1 f).1,f,r,A,h4⟩))⟩
   clear hk hi k M I d
   obtain ⟨I,M⟩:∃I:Nat->LP,I=λk l h'=>∃(F':Nat->Prop) (mk:List Bool) (wl:List Nat) (wv:V),l=[.ptr l1 0,.ptr l2 0,.ptr lm 0]/\k=wl.length+2*mk.count false/\Sn F h F' h'/\DS u (Root u) mk wl/\
     Hold F' h' (Mx mk (.slice lk 0 u.vals.length) wl wv lm Tm (.int .i64 u.func) (.int .i64 u.pc) vv vb vs (cellP l2 tyUnit [.int .i64 0,.int .i64 0,.nilSlice,.nilSlice,.nilSlice]::cellP l1 30 (uC u vv vb vs)::cs)):=⟨_,rfl⟩
   refine Bf I (λk x1 x2 x3 h6 hi=>?_) (k:=wl.length+2*mk.count false) ?_;rotate_left
   ·rw[M];exact⟨F6,mk,wl,wv,rfl,rfl,s6,d2,C⟩
   clear d2 dl C u6 s6 mk wl wv;rw[M]at hi;obtain⟨F6,mk,wl,wv,⟨⟩,hk,s6,d,C⟩:=hi;unfold w4;have u6:=hu.since s6;have dl:=d.less;refine oN (C.ld 2 rfl rfl) (d9 (C.len 1 rfl) ?_);rcases hX wl with rfl|⟨s,v,rfl⟩
   ·refine tS (if_f (by simp) ?_);refine d9 (C.ldA 4 rfl rfl) ?_;refine Ja u6.one u6.v.len nv C λh7 av s7 D=>?_;refine oN (D.ld 3 rfl rfl) (d9 (a:= .int .i64 u.vals.length) ((D.len 1 rfl).trans (by rw[d.len])) ?_);have aE:=s6.trans s7;clear hk M I
    obtain ⟨I,M⟩:∃I:Nat->LP,I=λk l h'=>∃(i:Nat) (ys:List Int),l=[.ptr l1 0,.ptr l2 0,av,.slice lk 0 u.vals.length,.int .i64 u.vals.length,.int .i64 i]/\i+k=u.vals.length/\ys.length=u.vals.length/\(∀j:Nat,j<u.vals.length->ys[j]? =some (if j<i/\mk[j]?≠some true then -1 else(j:Int)))/\Sn F h F6 h'/\
      Hold F6 h' (rowP eZ tyInt ys av::Mx mk (.slice lk 0 u.vals.length) [] wv lm Tm (.int .i64 u.func) (.int .i64 u.pc) vv vb vs (cellP l2 tyUnit [.int .i64 0,.int .i64 0,.nilSlice,.nilSlice,.nilSlice]::cellP l1 30 (uC u vv vb vs)::cs)):=⟨_,rfl⟩
    refine Bv I (λk x1 x2 x9 aH aI aJ Z hi=>?_) (k:=u.vals.length) ?_;rotate_left
    ·rw[M];refine⟨0,_,rfl,by omega,by simp,λj hj=>?_,aE,D⟩;rw[if_neg (by omega),wAQ,wBm hj];rfl
    clear D;rw[M]at hi;obtain⟨i,ys,⟨⟩,hk,ag,ah,Y,T⟩:=hi;unfold xd;by_cases hi:i<u.vals.length
    ·refine ltYes ?_;obtain⟨b,ai⟩:∃b,mk[i]? =some b:=⟨_,wAA (by rw[d.len];exact hi)⟩
     obtain⟨la,oa,z1,z2⟩:=T.boolR 1 rfl ai .i64;refine d9 z1 (d9 z2 (jE ?_))
     cases b with
     | true=>
       refine if_t rfl (vZ ?_);unfold qZ;refine gj (m:=1) (by omega) (by omega) ⟨k-1,by omega,?_⟩;rw[M];refine⟨i+1,ys,rfl,by omega,ag,λj hj=>?_,Y,T⟩;rw[ah j hj];by_cases e:j=i
       ·subst e
        rw[if_neg (λh=>h.2 ai),if_neg (λh=>h.2 ai)]
       ·by_cases c:j<i/\mk[j]?≠some true
        ·rw[if_pos c,if_pos ⟨by omega,c.2⟩]
        ·rw[if_neg c,if_neg λh=>c ⟨by omega,h.2⟩]
     | false=>
       refine if_f (by simp) ?_;obtain⟨lb,ob,h9,e1,e2,_,H9,s9⟩:=T.stR 0 rfl (k:=i) (y:=-1) (u:=V.int .i64 (-1)) (by omega) rfl rfl rfl;refine d9 e1 ?_;rw[e2,ec];simp only[wAC]at H9;refine vZ ?_;unfold qZ;refine gj (m:=1) (by omega) (by omega) ⟨k-1,by omega,?_⟩;rw[M];refine⟨i+1,ys.set i (-1),rfl,by omega,by rw[wA6];exact ag,λj hj=>?_,Y.trans s9,H9⟩;by_cases e:j=i
       ·subst e
        rw[wAK (by omega),if_pos ⟨by omega,by rw[ai];simp⟩]
       ·rw[wAN λh=>e h.symm,ah j hj]
        by_cases c:j<i/\mk[j]?≠some true
        ·rw[if_pos c,if_pos ⟨by omega,c.2⟩]
        ·rw[if_neg c,if_neg λh=>c ⟨by omega,h.2⟩]
    ·refine ltNo ?_;obtain rfl:i=u.vals.length:=by omega
     refine d9 (T.ldA 5 rfl rfl) ?_;have au:∀(v:Nat) (a:Int),ys[v]? =some a->a<ys.length:=λv a q=>by
      have ae:=(wAB.1 q).1;rw[ah v (by omega)]at q;have:=Option.some.inj q;split at this <;> omega
     refine IH g ha ag au T (hu.since Y) λF9 h9 aw ax ay s9 H9 u9=>?_;obtain⟨ab,aF,_,K,L⟩:=H9.stA 3 (ws:=uC (trimA u (asF ys)) aw ax ay) (n:=5) rfl rfl rfl u9.one;rw[aF,ec];simp only[wAC,wAE]at K;refine d9 (K.ldA 3 rfl rfl) ?_;refine H F9 ab ys aw ax ay ((Y.trans s9).trans L) K.tail.tail.tail.tail.tail (λv q=>?_) ag (u9.since L);have e:=CR (ah v q);rw[e];by_cases c:mk[v]? =some true
     ·rw[if_neg λh=>h.2 c];exact .inl ⟨rfl,d.sound v c⟩
     ·rw[if_pos ⟨q,c⟩];exact .inr ⟨rfl,λhl=>c (d.all hl)⟩
   ·refine tS (if_t (by simp <;> omega) ?_);have hlen:(s++[v]).length-1=s.length:=by simp
    have hs:(s++[v]).length=s.length+1:=by simp
    refine oN (C.ld 2 rfl rfl) (oN (C.ld 2 rfl rfl) (d9 (C.len 1 rfl) (qt (by omega) (by simp) ?_)));rw[hlen];obtain⟨la,oa,x1,x2⟩:=C.natR 1 rfl (k:=s.length) (x:=v) (by simp) .i64;refine d9 x1 (d9 x2 ?_);refine oN (C.ld 2 rfl rfl) (oN (C.ld 2 rfl rfl) (d9 (C.len 1 rfl) (qt (by omega) (by simp) ?_)));rw[hlen];obtain⟨aA,e1,D⟩:=C.cutR 1 rfl (n:=s.length) (by simp);refine d9 e1 (d9 pn (d9 pf ?_));have et:(s++[v]).take s.length=s:=by simp
    simp only[wAC,wAE,et]at D;obtain⟨Z,e8,n8,T,Y⟩:=D.st 2 (o:=6) (u:=aA) rfl (by simp) (D.one 1 rfl);have aG:pSt 1 (.ptr lm (0+6)) aA h6=some (.val .undef Z):=by rw[wAY];exact e8
    rw [aG,ec];simp only[wAC,wAE]at T;refine⟨n8,?_⟩;have u8:=u6.since Y;have ae:v<u.vals.length:=by
     have:=(wAB.1 (d.work v (by simp))).1;rw[d.len]at this;exact this
    have hx:=wAA ae;generalize u.vals[v]=x at*;obtain⟨lv,ov,w,_,y1,y2,xw,_⟩:=u8.val hx;refine oF (T.ld 4 rfl rfl) (d9 y1 (d9 y2 ?_));refine Do T xw (λh=>wAq (ux g hx h) (by decide)) λF9 h9 v9 s9 H9 r9=>?_;have aB:∀w∈uses x,w<u.vals.length:=λw P=>qC (g.use v x hx w P);refine xx H9 r9 (λw P=>by rw[d.len];exact aB w P) (GN λh=>ux g hx h) (by omega) λab U W aa L X K=>?_;have aK:=X.less;refine⟨W.length+2*U.count false,by omega,?_⟩;rw[M];exact⟨F9,U,W,aa,rfl,rfl,((s6.trans Y).trans s9).trans L,d.pop hx aB X,K⟩
 ·rw[M];exact⟨F3,0,_,[],.nilSlice,rfl,by omega,ao,d0,C⟩
end
