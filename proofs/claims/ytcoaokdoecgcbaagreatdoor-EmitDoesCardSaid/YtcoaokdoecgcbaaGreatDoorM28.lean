/- Parts. -/
import Derived.Test.YtcoaokdoecgcbaaGreatDoorM27
import Derived.Test.YtcoaokdoecgcbaaGreatDoorM17
set_option maxHeartbeats 4000000
namespace Go.Proofs.YtcoaokdoecgcbaaGreatDoor.Hx
open Un Dm
variable{l:List Bool}{w x:Nat}{T:Bk}{v:V}
theorem zdf:P0.underlying fN=some (.int .i64):=by kernel_rfl
theorem Qg(a b:Int):I8 fN (.I a) (.I b)=some (a == b):=by
 unfold I8;rw[zdf];rfl
section
variable{u:U}
theorem zj(h:nz u w):w<u.ee.length:=by
 obtain⟨x,a,_⟩:=h
 grind
theorem Jp{P:Nat->Prop}(g:Gd u P){s:Nat}{fs:List Fm}(a:u.eE[s]? =some fs):∀w∈gB fs,w<u.ee.length:=by
 intro w b;unfold gB at b;obtain⟨f,c,d⟩:=Sg.1 b;obtain⟨_,_,e⟩:=g.st s fs a;obtain⟨_,_,i,j⟩:=e f c;rcases yX.1 d with h|h
 ·simp_all[zj]
 simp_all[zj]
theorem zaA(g:Good u){i:Nat}{x:Vl}(d:u.ee[i]? =some x):x.op=21\/x.op=20->x.args.length<=700:=by
 have nb:=g.nb;obtain⟨b,k,a⟩:=g.NN i (by grind) trivial;obtain⟨B,e,f⟩:=id a;rintro(c|c)
 ·rw[(g.XS _ _ _ _ _ a d c e).2,g.fk b B e,<-sI];have:=sM g (i:=u.blocks.length) (j:=0) (b:=b) (jJ _) (by omega);omega
 ·rw[g.putAt i x d c];omega
theorem Zg{P:Nat->Prop}(g:Gd u P)(s:Nat)(fs:List Fm)(a:u.eE[s]? =some fs):fs.length<=30/\∀f∈fs,f.locals.length<=40/\f.stack.length<=60:=by
 obtain⟨_,b,c⟩:=g.st s fs a
 simp_all
theorem tB(g:Good u){b:Nat}{B:Bk}(a:u.blocks[b]? =some B):B.ee.length<=3000:=by
 have nv:=g.nv;have:=qG u.ee.length B.ee (FZ g a) λv hv=>by
  obtain⟨k,c⟩:=mz.1 hv;exact g.uP v b k ⟨B,a,c⟩
 omega
theorem Lf(g:Good u){b:Nat}{B:Bk}(a:u.blocks[b]? =some B):B.fk.length<=700:=by
 have nb:=g.nb;rw[g.fk b B a,<-sI];have:=sM g (i:=u.blocks.length) (j:=0) (b:=b) (jJ _) (by omega);omega
theorem zau(g:Good u){b:Nat}{B:Bk}(a:u.blocks[b]? =some B):B.next.length<=2:=by
 rcases g.fin b B a with⟨_,h⟩|⟨_,h,_⟩|⟨_,h,_⟩
 ·omega
 ·omega
 simp_all
end
section
variable{F F':Nat->Prop}{h h':Hp}{cs:List Pc}{Q:fj}{u:U}{vv vb vs:V}{p q:Pc}
theorem ej.zff{α:Type}{E:tq α}{ty:Nat}{xs:List (List α)}(H:ej F h cs)(i:Nat)(hi:cs[i]? =some (ft (eL E) ty xs v)){k:Nat}{x:List α}(d:xs[k]? =some x) :
  ∃l o w,gM 1 v (.I k)=some (.ptr l o)/\ez (.ptr l o) h=some w/\hD E F h x w:=by
 have e:=H.row i hi;obtain⟨a,rfl⟩:=ke.1 d;rcases e with⟨rfl,rfl⟩|⟨t,ds,rfl,q,r,g,j,s⟩
 ·simp at a
 ·obtain⟨w,b,m,f,n,p⟩:=j.get (hZ a);have e1:(eL E).sz=1:=rfl;rw[e1,Nat.mul_one]at b m;subst n;refine⟨t,k,f,by rw[wz _ _ _ _ _ _ a,Jn,Nat.mul_one],?_,p⟩;refine lK g ?_;have c:((ds.drop k).take 1)[0]? =some f:=by rw[b];rfl
  rw[List.getElem?_take_of_lt (by omega),wBc,Nat.add_zero]at c;exact c
theorem ej.Y8{α:Type}{E:tq α}(H:ej F h cs)(ty:Nat)(a:E.sz=1){xs:List α}{ws:List V}{n:Nat}(b:n=xs.length)(c:rL E F h ws xs) :
  ej (λl=>F l\/l=h.next) (h.new (.cells ty 1 true false ws)) cs/\Sn F h (λl=>F l\/l=h.next) (h.new (.cells ty 1 true false ws))/\hD E (λl=>F l\/l=h.next) (h.new (.cells ty 1 true false ws)) xs (.slice h.next 0 n):=by
 have:=H.zaU (E:=E) ty b c false
 rwa [a]at this
theorem zc3(h:On l w):w<l.length:=(ke.1 h).1
theorem Ud{w:V}{ws:List Nat}(q:ej F h (ft eB hV l v::cs))(hs:hD eN F h ws w)(A:ws.length<1000000)(r:∀x∈ws,x<l.length)
  (H:∀h' b,Sn F h F h'->ej F h' (ft eB hV b v::cs)->b.length=l.length->(∀x,On b x↔On l x\/x∈ws)->Q (.tuple []) h'):cP CS wY [v,w] h Q:=by
 refine TK ?_;refine ec hs.len ?_
 refine OX (λk d f g j h'=>∃(i:Nat) (b:List Bool),d=v/\f=w/\g = .I ws.length/\j = .I i/\i+k=ws.length/\Sn F h F h'/\ej F h' (ft eB hV b v::cs)/\b.length=l.length/\∀x,On b x↔On l x\/x∈ws.take i) ?_ (k:=ws.length)
  ⟨0,l,rfl,rfl,rfl,rfl,by omega,Sn.refl _ _,q,rfl,λx=>by simp⟩
 rintro k d f g j a ⟨i,m,e0,B,rfl,rfl,C,s1,n,c,o⟩;subst d f;unfold zF;by_cases hi:i<ws.length;rotate_left
 ·refine iA (H a m s1 n c λx=>?_);rw[o x,Xb (by omega)]
 refine gy ?_;obtain⟨D,o2,_,s,t⟩:=(hs.since s1).nat (hZ hi) .i64;have E:=r _ (AL hi);obtain⟨G,I,J,e1,e2,_,p,z⟩:=n.M7 0 rfl (k:=ws[i]) (y:=true) (u:=V.bool true) (by omega) rfl rfl rfl;refine ec s (ec t (ec e1 ?_));rw[e2,eh];simp only[DR]at p;refine fG ⟨k-1,by omega,i+1,m.set ws[i] true,rfl,rfl,rfl,rfl,by omega,s1.trans z,p,by simp[c],λx=>?_⟩;rw[Ln (by omega),Ho hi,o x];simp only[and_true,yX,Hh];constructor
 ·rintro(a|⟨_,a|a⟩)
  ·exact .inr (.inr a)
  ·exact .inl a
  ·exact .inr (.inl a)
 ·rintro(a|a|a)
  ·by_cases e:x=ws[i]
   ·exact .inl e
   ·exact .inr ⟨e,.inl a⟩
  ·by_cases e:x=ws[i]
   ·exact .inl e
   ·exact .inr ⟨e,.inr a⟩
  ·exact .inl a
variable{lv:Nat}{tu jI:V}
structure Lk (F:Nat->Prop) (h:Hp) (cs:List Pc) (lv:Nat) (u:U) (vv vb vs tu jI:V):Prop where
 H:ej F h cs
 c:∃(i:Nat),cs[i]? =some (eD lv mG [.I u.func,.I u.pc,vv,vb,vs,tu,jI])
 u:EZ F h u vv vb vs
theorem Lk.cons(C:Lk F h cs lv u vv vb vs tu jI)(s:Sn F h F' h'){p:Pc} (a:ej F' h' (p::cs)):Lk F' h' (p::cs) lv u vv vb vs tu jI:=
 ⟨a,let⟨i,hc⟩:=C.c;⟨i+1,hc⟩,C.u.since s⟩
theorem Lk.ld(C:Lk F h cs lv u vv vb vs tu jI)(o:Nat){y:V}(a:[.I u.func,.I u.pc,vv,vb,vs,tu,jI][o]? =some y):ez (.ptr lv o) h=some y:=
 let⟨i,hc⟩:=C.c;C.H.ld i hc a
theorem FO(C:Lk F h cs lv u vv vb vs tu jI){v:Nat}(hv:v<u.ee.length)(H:Q (.bool (gJ u v)) h):cP CS iW [.ptr lv 0,.I v] h Q:=by
 refine Lp ?_;obtain⟨x,b⟩:∃x,u.ee[v]? =some x:=⟨_,hZ hv⟩
 obtain ⟨l,o,w,_,c,_,_,d⟩:=C.u.val b;refine ec (eC _ _) (ec (fo _ _ _) (oF (C.ld 2 rfl) (ec c (oF d.op (ec (gS _ _ _ _) ?_)))));have e:mi (.bool ((x.op:Int) == 21)) (oB (some (V.I x.op)) λa=>ef .eql 3 a (V.I 1))=some (.bool (gJ u v)):=by
  simp only[eQ,gS,jj];unfold gJ;rw[b];show _=some (V.bool (iV x.op));unfold iV;rw[show((x.op:Int) == 21)=(x.op == 21) from ieq _ 21,show((x.op:Int) == 1)=(x.op == 1) from ieq _ 1,Bool.or_comm]
 exact ec e H
theorem U3(C:Lk F h (ft eB hV l v::cs) lv u vv vb vs tu jI){s:Nat}{fs:List Fm}(p:u.eE[s]? =some fs)(N:fs.length<=30/\∀f∈fs,f.locals.length<=40/\f.stack.length<=60)(o:∀x∈gB fs,x<l.length)
  (H:∀h' d,Sn F h F h'->ej F h' (ft eB hV d v::cs)->d.length=l.length->(∀x,On d x↔On l x\/x∈gB fs)->Q (.tuple []) h'):cP CS pd [.ptr lv 0,v,.I s] h Q:=by
 refine Kr ?_;obtain⟨B,Z,f,_,O,_,P,D⟩:=C.u.st p;refine ec (eC _ _) (ec (fo _ _ _) (oF (C.ld 4 rfl) (ec O (oF P (ec D.len ?_)))))
 refine FP (λk q e i m h'=>∃(j:Nat) (d:List Bool),q=v/\e=f/\i = .I fs.length/\m = .I j/\j+k=fs.length/\Sn F h F h'/\ej F h' (ft eB hV d v::cs)/\d.length=l.length/\∀x,On d x↔On l x\/x∈gB (fs.take j)) ?_ (k:=fs.length)
  ⟨0,l,rfl,rfl,rfl,rfl,by omega,Sn.refl _ _,C.H,rfl,λx=>by simp[gB]⟩
 rintro k q e i m b ⟨j,B,e1,R,rfl,rfl,hk,s1,E,g,G⟩;subst q e;unfold qh;by_cases hj:j<fs.length;rotate_left
 ·refine iA (H b B s1 E g λx=>?_);rw[G x,Xb (by omega)]
 refine gy ?_;obtain⟨S,o3,a,c,_,T,U,I,J⟩:=(D.since s1).qJ (hZ hj);obtain⟨f1,f2⟩:=N.2 _ (AL hj);have n:∀w,w∈fs[j].locals\/w∈fs[j].stack->w∈gB fs:=λw o=>by
  unfold gB;rw[Sg];exact⟨fs[j],AL hj,yX.2 o⟩
 refine ec T (ec U ?_);refine jX E rfl rfl (by simp only[fmC,fe,I.one,J.one];rfl) λh2 K r=>?_;refine oF (K.ld 0 rfl rfl) ?_;refine Ud K.sw (I.since r) (by omega) (λx t=>by rw[g];exact o x (n x (.inl t))) λh3 S L M y z=>?_;refine oF (M.ld 1 rfl rfl) ?_;refine Ud M ((J.since r).since L) (by omega) (λx t=>by rw[y,g];exact o x (n x (.inr t))) λh4 W s4 X Y A=>?_;refine fG ⟨k-1,by omega,j+1,W,rfl,rfl,rfl,rfl,by omega,((s1.trans r).trans L).trans s4,X.Eu,by omega,λx=>?_⟩;rw[A x,z x,G x,Ho hj];unfold gB;simp only[wA2,wA6,List.flatMap_nil,Ku,yX];constructor
 ·rintro(((b|b)|b)|b)
  ·exact .inl b
  ·exact .inr (.inl b)
  ·exact .inr (.inr (.inl b))
  ·exact .inr (.inr (.inr b))
 ·rintro(b|b|b|b)
  ·exact .inl (.inl (.inl b))
  ·exact .inl (.inl (.inr b))
  ·exact .inl (.inr b)
  ·exact .inr b
theorem Vq(g:Good u){l:List Bool}{v:V}(C:Lk F h (ft eB hV l v::cs) lv u vv vb vs tu jI)(hl:l.length=u.ee.length){a:Nat}(T:a<u.ee.length)
  (H:∀F' h' z,Sn F h F' h'->ej F' h' (ft eB hV z v::cs)->z.length=l.length->(∀x,On z x↔(On l x/\x≠a)\/x∈BP u a)->Q (.tuple []) h'):cP CS pe [.ptr lv 0,v,.I a] h Q:=by
 refine Ko ?_;obtain⟨x,o⟩:∃x,u.ee[a]? =some x:=⟨_,hZ T⟩
 obtain ⟨l1,o1,w,_,U,W,L,_⟩:=C.u.val o;refine ec (eC _ _) (ec (fo _ _ _) (oF (C.ld 2 rfl) (ec U (ec W ?_))));refine jX C.H rfl rfl (by simp only[yM,fe,L.one];rfl) λs X M=>?_;obtain⟨l3,o3,N,e1,e2,_,A,O⟩:=X.M7 1 rfl (k:=a) (y:=false) (u:=V.bool false) (by omega) rfl rfl rfl;refine ec e1 ?_;rw[e2,eh];simp only[M8,DR]at A;refine ec (A.tj 0 rfl rfl) ?_;have d:=zaA g o;refine Uk A ((L.since M).since O) (λh=>by have:=d h;omega) λY P vu s4 Z r4=>?_;have p:∀y∈jn x,y<u.ee.length:=λy q=>zj (g.use a x o y q);refine Ud Z.sw r4 (by have:=QZ d;omega) (λy q=>by simp only[wBF];rw[hl];exact p y q) λB R s5 t m r=>?_;have n:=((M.trans O).trans s4).trans s5;have S:ez (.ptr h.next (0+0)) B=some (.I x.op):=t.ld 1 rfl rfl;refine oF S (ec (gS _ _ _ _) ?_);have eL:mi (.bool ((x.op:Int) == 22)) (oB (fJ 0 (.ptr h.next 0)) λD=>oB (ez D B) λE=>ef .eql 3 E (V.I 23))=some (.bool (leaves x.op)):=by
  simp only[fo,eQ,S,gS,jj];unfold leaves;rw[show((x.op:Int) == 22)=(x.op == 22) from ieq _ 22,show((x.op:Int) == 23)=(x.op == 23) from ieq _ 23]
 refine ec eL (fX ?_);have j:∀y,On (l.set a false) y↔On l y/\y≠a:=λy=>by
  rw[Ln (by omega)];constructor
  ·rintro(⟨_,h⟩|⟨b,s⟩)
   ·cases h
   ·exact⟨s,b⟩
  ·exact λh=> .inr ⟨h.2,h.1⟩
 cases hq:leaves x.op with
 | false=>
   refine fH (by simp) (H _ _ R n t.Eu (by rw[m,wBF]) λy=>?_);rw[r y,j y];unfold BP;rw[o]
   simp[hq]
 | true =>
   refine fO rfl ?_;refine oF (t.ld 1 rfl rfl) ?_;have pO:=g.leave a x o hq;obtain⟨fs,f⟩:∃fs,u.eE[x.state]? =some fs:=⟨_,hZ pO⟩
   have C5:Lk Y B (ft eB hV R v::eD h.next 81 (yM x w)::cs) lv u vv vb vs tu jI:=by
     obtain⟨i,hc⟩:=C.c
     cases i with
     | zero=>
       exfalso;have b:=C.H.ok 0 _ rfl;have s:=C.H.ok 0 _ hc;have e:=Option.some.inj hc;have G:Loc v lv:=by
         have:=congrArg Pc.pS e;have N:=congrFun this lv;show(ft eB hV l v).pS lv;rw[N];rfl
       have hg:=s.1;have P:pP eB hV F h l v:=b;have:=(P.TZ G).1;rw[YN hg]at this
       exact absurd this (by decide)
     |succ i=>exact⟨t,⟨i+2,hc⟩,C.u.since n⟩
   refine U3 C5 f (Zg g _ _ f) (λy q=>by rw[m,wBF,hl];exact Jp g f y q) λh6 I s6 H6 J K=>?_;refine H _ _ I (n.trans s6) H6.Eu (by rw[J,m,wBF]) λy=>?_;rw[K y,r y,j y];unfold BP nN;rw[o];simp only[hq,if_true,f,yX];constructor
   ·rintro((b|b)|b)
    ·exact .inl b
    ·exact .inr (.inl b)
    ·exact .inr (.inr b)
   ·rintro(b|b|b)
    ·exact .inl (.inl b)
    ·exact .inl (.inr b)
    ·exact .inr b
end
def nD(ins:List (List Bool))(b w:Nat):Prop:=∃r,ins[b]? =some r/\On r w
theorem Zr{In H:Nat->Nat->Prop}{t:Nat}:∀{ts:List Nat}{P:Nat->Prop},ln In H (ts++[t]) P w↔(ln In H ts P w\/In t w)/\¬H t w
 |[],_=>Iff.rfl
 |t'::ts,P=>Zr (ts:=ts)
def ptk(u:U)(b:Nat)(T:Bk)(m q x:Nat):Prop:=∃(a c v:Nat)(xv:Vl),(a<m\/(a=m/\c<q))/\T.fk[a]? =some b/\T.ee[c]? =some v/\u.ee[v]? =some xv/\xv.op=21/\xv.args[a]? =some x
theorem zbU(u:U)(b:Nat)(T:Bk)(x:Nat):¬ptk u b T 0 0 x:=λ⟨_,_,_,_,h,_⟩=>by omega
theorem VC{u:U}{b:Nat}{m q v:Nat}{xv:Vl}(hv:T.ee[q]? =some v)(k:u.ee[v]? =some xv):ptk u b T m (q+1) x↔ptk u b T m q x\/(T.fk[m]? =some b/\xv.op=21/\xv.args[m]? =some x):=by
 constructor
 ·rintro⟨f,g,h,a,i,c,d,j,l,n⟩;by_cases e:f=m/\g=q
  ·obtain⟨rfl,rfl⟩:=e;rw[hv]at d;cases d;rw[k]at j;cases j;exact .inr ⟨c,l,n⟩
  ·exact .inl ⟨f,g,h,a,by omega,c,d,j,l,n⟩
 ·rintro(⟨f,g,h,a,i,c⟩|⟨i,c,d⟩)
  ·exact⟨f,g,h,a,by omega,c⟩
  ·exact⟨m,q,v,xv,.inr ⟨rfl,by omega⟩,i,hv,k,c,d⟩
theorem zbf{u:U}{b:Nat}{m:Nat}:ptk u b T m T.ee.length x↔ptk u b T (m+1) 0 x:=by
 constructor
 ·rintro⟨c,d,e,a,h,f⟩;exact⟨c,d,e,a,by omega,f⟩
 ·rintro⟨c,d,e,a,h,f,g,i⟩;have:=(ke.1 g).1;exact⟨c,d,e,a,by omega,f,g,i⟩
def ptn(u:U)(b:Nat)(B:Bk)(n x:Nat):Prop:=∃(a t:Nat)(T:Bk),a<n/\B.next[a]? =some t/\u.blocks[t]? =some T/\ptk u b T T.fk.length 0 x
theorem zcb{u:U}{b:Nat}{B:Bk}{n t:Nat}(g:B.next[n]? =some t)(i:u.blocks[t]? =some T):ptn u b B (n+1) x↔ptn u b B n x\/ptk u b T T.fk.length 0 x:=by
 constructor
 ·rintro⟨c,t',d,k,a,f,j⟩;by_cases e:c=n
  ·subst e;rw[g]at a;cases a;rw[i]at f;cases f;exact .inr j
  ·exact .inl ⟨c,t',d,by omega,a,f,j⟩
 ·rintro(⟨c,t',d,k,a⟩|h)
  ·exact⟨c,t',d,by omega,a⟩
  ·exact⟨n,t,T,by omega,g,i,h⟩
theorem zdu{u:U}{b:Nat}{B:Bk}(i:u.blocks[b]? =some B){x:Nat}:ptn u b B B.next.length x↔PJ u b x:=by
 have a:next u b=B.next:=by unfold next;rw[i]
 unfold PJ;rw[a];constructor
 ·rintro⟨n,t,T,h,j,d,m,q,v,xv,_,e,f,c,g,k⟩;exact⟨t,yN j,T,v,xv,m,d,yN f,c,g,e,k⟩
 ·rintro⟨t,h,T,v,xv,m,d,l,e,f,c,g⟩;obtain⟨n,a⟩:=mz.1 h;obtain⟨q,hq⟩:=mz.1 l;exact⟨n,t,T,(ke.1 a).1,a,d,m,q,v,xv,.inl (ke.1 c).1,c,hq,e,f,g⟩
section
variable{F F':Nat->Prop}{h h':Hp}{cs:List Pc}{Q:fj}{u:U}{vv vb vs:V}{lv:Nat}{tu jI:V}{ins:List (List Bool)}
theorem zf2(g:Good u)(C:Lk F h cs lv u vv vb vs tu jI){ii:Nat}(a7:cs[ii]? =some (ft (eL eB) im ins tu))(bt:ins.length=u.blocks.length)(a8:∀r∈ins,r.length=u.ee.length){b:Nat}{B:Bk}(W:u.blocks[b]? =some B)
  (H:∀F' h' l v,Sn F h F' h'->ej F' h' (ft eB hV l v::cs)->l.length=u.ee.length->(∀w,On l w↔PO u (iu u) (nD ins) b w)->Q v h'):cP CS xG [.ptr lv 0,.I b] h Q:=by
 refine LW ?_;have nv:=g.nv;have nb:=g.nb;have an:next u b=B.next:=by unfold next;rw[W]
 have bu:=zau g W;obtain⟨ic,hc⟩:=C.c;have hu:=C.u;refine ec (eC _ _) (ec (fo _ _ _) (oF (C.ld 2 rfl) (ec hu.v.len ?_)));rw[pG (z:=V.bool false) rfl (by decide) (by omega),fK];obtain⟨H1,s1⟩:=C.H.make (E:=eB) (ty:=hV) (y:=false) (u:=V.bool false) u.ee.length rfl rfl;generalize V.slice h.next 0 u.ee.length=U at*;generalize h.new (.cells hV 1 true false (List.replicate u.ee.length (V.bool false)))=d at*;have ao:=hu.since s1;have C1:Lk F d _ lv u vv vb vs tu jI:=⟨H1,⟨ic+1,hc⟩,ao⟩
 obtain⟨i,o2,bv,bn,bp,_,i1,i2,iv,iN,ip,_⟩:=ao.B8 W;refine ec (eC _ _) (ec (fo _ _ _) (oF (C1.ld 3 rfl) (ec i1 (ec i2 ?_))));refine jX H1 rfl rfl (by simp only[pR,fe,iv.one,iN.one,ip.one];rfl) λf H2 s2=>?_;have a9:=s1.trans s2;have ba:=ao.since s2;have aD:=iN.since s2;generalize d.next=Y at*;refine oF (H2.ld 0 rfl rfl) (ec aD.len ?_)
 refine IH (λk I J o K s L M h'=>∃(n:Nat) (l:List Bool),I = .ptr lv 0/\J = .I b/\o=U/\K = .ptr Y 0/\s=bn/\L = .I B.next.length/\M = .I n/\n+k=B.next.length/\Sn F f F h'/\l.length=u.ee.length/\
  ej F h' (eD Y 79 (pR B bv bn bp)::ft eB hV l U::cs)/\∀w,On l w↔ln (nD ins) (iu u) (B.next.take n) (λ_=>False) w) ?_ (k:=B.next.length)
  ⟨0,_,rfl,rfl,rfl,rfl,rfl,rfl,rfl,by omega,Sn.refl _ _,by simp,H2,λw=>by
   simp only[List.take_zero,ln,iff_false];unfold On;intro h;have:=wBd (yN h);cases this⟩
 rintro k I J o K s L M h3 ⟨n,l,rfl,rfl,e5,rfl,aE,rfl,rfl,hk,s3,hl,H3,ho⟩;subst o s;unfold sJ;have aa:=ba.since s3;have aq:=aD.since s3;by_cases hn:n<B.next.length
 ·refine gy ?_;have ab:B.next[n]<u.blocks.length:=g.nx b _ (by rw[an];exact AL hn);obtain⟨t,ht⟩:∃t,B.next[n]? =some t:=⟨_,hZ hn⟩
  obtain⟨_,ah⟩:=ke.1 ht;rw[ah]at ab;obtain⟨T,hT⟩:∃T,u.blocks[t]? =some T:=⟨_,hZ ab⟩
  obtain⟨r,hr⟩:∃r,ins[t]? =some r:=⟨_,hZ (show t<ins.length by omega)⟩
  have bw:=a8 r (yN hr);have C3:Lk F h3 _ lv u vv vb vs tu jI:=⟨H3,⟨ic+2,hc⟩,aa⟩
  obtain⟨l4,o4,_,j1,j2⟩:=aq.nat ht .i64;obtain⟨l5,o5,tv,tn,tp,_,k1,k2,kv,kN,kp,_⟩:=aa.B8 hT;refine ec j1 (ec j2 (ec (eC _ _) (ec (fo _ _ _) (oF (C3.ld 3 rfl) (ec k1 (ec k2 ?_))))));refine jX H3 rfl rfl (by simp only[pR,fe,kv.one,kN.one,kp.one];rfl) λG H4 s4=>?_;have C4:Lk F G _ lv u vv vb vs tu jI:=⟨H4,⟨ic+3,hc⟩,aa.since s4⟩
  obtain⟨l6,o6,w6,m1,m2,m3⟩:=H4.zff (ii+3) a7 hr;generalize h3.next=tx at*;refine oN (C4.ld 5 rfl) (ec m1 (ec m2 (ec m3.len ?_)))
  refine Jg (λk I J o K x9 s L M ar aF aG h'=>∃(j:Nat) (l':List Bool),I = .ptr lv 0/\J = .I b/\o=U/\K = .ptr Y 0/\x9 = .ptr tx 0/\s=bn/\L = .I B.next.length/\M = .I n/\ar=w6/\aF = .I r.length/\aG = .I j/\j+k=r.length/\
   Sn F G F h'/\l'.length=u.ee.length/\ej F h' (eD tx 79 (pR T tv tn tp)::eD Y 79 (pR B bv bn bp)::ft eB hV l' U::cs)/\∀w,On l' w↔On l w\/(w<j/\On r w)) ?_ (k:=r.length)
   ⟨0,l,rfl,rfl,rfl,rfl,rfl,rfl,rfl,rfl,rfl,rfl,rfl,by omega,Sn.refl _ _,hl,H4,λw=>by simp⟩
  rintro k2 I J o K x9 s L M ar aF aG Z ⟨j,l',rfl,rfl,e5,rfl,rfl,aE,rfl,rfl,bz,rfl,rfl,bb,X,aH,H5,au⟩;subst o s ar;unfold si;by_cases hj:j<r.length
  ·refine gy ?_;obtain⟨y,hy⟩:∃y,r[j]? =some y:=⟨_,hZ hj⟩
   obtain⟨z,hz⟩:∃z,l'[j]? =some z:=⟨_,hZ (show j<l'.length by omega)⟩
   obtain⟨l7,o7,_,p1,p2⟩:=(m3.since X).bool hy .i64;obtain⟨l8,o8,q1,q2⟩:=H5.Yw 2 rfl hz .i64;obtain⟨l9,o9,h9,e1,e2,_,H9,s9⟩:=H5.M7 2 rfl (k:=j) (y:=(z ||y)) (u:=V.bool (z ||y)) (show j<l'.length by omega) rfl rfl rfl;refine ec p1 (ec p2 (ec q1 (ec q2 (ec (jj _ _) (ec e1 ?_)))));rw[e2,eh];simp only[M8,DR]at H9;refine fG ⟨k2-1,by omega,j+1,l'.set j (z ||y),rfl,rfl,rfl,rfl,rfl,rfl,rfl,rfl,rfl,rfl,rfl,by omega,X.trans s9,by simp[aH],H9,λw=>?_⟩;rw[Ln (by omega),au w];by_cases e:w=j
   ·subst e;have bc:On l w↔z=true:=by
     have d:=au w;unfold On at d⊢;rw[hz]at d;constructor
     ·intro f;have:=d.2 (.inl f);simpa using this
     ·intro f;subst f;rcases d.1 rfl with h3|h3
      ·exact h3
      ·omega
    have bd:On r w↔y=true:=by unfold On;rw[hy];simp
    rw[bc,bd];simp
   ·constructor
    ·rintro(⟨d,_⟩|⟨_,d|⟨d,f⟩⟩)
     ·exact absurd d e
     ·exact .inl d
     ·exact .inr ⟨by omega,f⟩
    ·rintro(d|⟨d,f⟩)
     ·exact .inr ⟨e,.inl d⟩
     ·exact .inr ⟨e,.inr ⟨by omega,f⟩⟩
  refine iA ?_;have ai:=(kv.since s4).since X;refine oF (H5.ld 0 rfl rfl) (ec ai.len ?_);have be:=tB g hT;have aw:=(aa.since s4).since X;have ac:∀w,On l' w↔On l w\/On r w:=λw=>by
   rw[au w];constructor
   ·exact λh=>h.imp id λh=>h.2
   ·exact λh=>h.imp id λh=>⟨by have:=zc3 h;omega,h⟩
  refine Hw (λk I J o K s L M ax aI aJ h'=>∃(m:Nat) (i:List Bool),I = .ptr lv 0/\J = .I b/\o=U/\K = .ptr Y 0/\s=bn/\L = .I B.next.length/\M = .I n/\ax=tv/\aI = .I T.ee.length/\aJ = .I m/\m+k=T.ee.length/\
   Sn F Z F h'/\i.length=u.ee.length/\ej F h' (eD tx 79 (pR T tv tn tp)::eD Y 79 (pR B bv bn bp)::ft eB hV i U::cs)/\∀w,On i w↔On l' w/\¬(w∈T.ee.take m/\gJ u w=true)) ?_ (k:=T.ee.length)
   ⟨0,l',rfl,rfl,rfl,rfl,rfl,rfl,rfl,rfl,rfl,rfl,by omega,Sn.refl _ _,aH,H5,λw=>by simp⟩
  rintro k3 I J o K s L M ax aI aJ h6 ⟨m,i,rfl,rfl,e5,rfl,aE,rfl,rfl,bA,rfl,rfl,bf,s6,N,H6,ay⟩;subst o s ax;unfold sj;by_cases hm:m<T.ee.length;rotate_left
  ·refine iA ?_;refine fG ⟨k-1,by omega,n+1,i,rfl,rfl,rfl,rfl,rfl,rfl,rfl,by omega,((s3.trans s4).trans X).trans s6,N,H6.tail,λw=>?_⟩;have aj:B.next.take (n+1)=B.next.take n++[t]:=by rw[Ho hn,ah]
   rw[aj,Zr,ay w,ac w,ho w,Xb (show T.ee.length<=m by omega)];have e1:nD ins t w↔On r w:=⟨λ⟨r',d,f⟩=>by rw[hr]at d;cases d;exact f,λh=>⟨r,hr,h⟩⟩
   have e2:iu u t w↔w∈T.ee/\gJ u w=true:=by unfold iu iD;rw[hT]
   rw[e1,e2]
  refine gy ?_;obtain⟨v,hv⟩:∃v,T.ee[m]? =some v:=⟨_,hZ hm⟩
  have az:v<u.ee.length:=g.uP v t m ⟨T,hT,hv⟩;have aj:T.ee.take (m+1)=T.ee.take m++[v]:=by
   obtain⟨d,rfl⟩:=ke.1 hv;exact Ho d
  obtain⟨l7,o7,_,p1,p2⟩:=(ai.since s6).nat hv .i64;have C6:Lk F h6 _ lv u vv vb vs tu jI:=⟨H6,⟨ic+3,hc⟩,aw.since s6⟩
  refine ec p1 (ec p2 (FO C6 az (fX ?_)))
  cases hq:gJ u v with
  | true=>
    refine fO rfl ?_;obtain⟨l8,o8,h8,e1,e2,_,H8,s8⟩:=H6.M7 2 rfl (k:=v) (y:=false) (u:=V.bool false) (show v<i.length by omega) rfl rfl rfl;refine ec e1 ?_;rw[e2,eh];simp only[M8,DR]at H8;refine xY ?_;unfold nr;refine j9 (m:=1) (by omega) (by omega) ⟨k3-1,by omega,m+1,i.set v false,rfl,rfl,rfl,rfl,rfl,rfl,rfl,rfl,rfl,rfl,by omega,s6.trans s8,by simp[N],H8,λw=>?_⟩;rw[Ln (by omega),ay w,aj];simp only[yX,Hh];constructor
    ·rintro(⟨_,d⟩|⟨d,f,h3⟩)
     ·cases d
     ·exact⟨f,λG=>h3 ⟨G.1.resolve_right d,G.2⟩⟩
    ·rintro⟨d,f⟩
     refine .inr ⟨λe=>f ⟨.inr e,e▸hq⟩,d,λG=>f ⟨.inl G.1,G.2⟩⟩
  | false=>
    refine fH (by simp) ?_;refine xY ?_;unfold nr;refine j9 (m:=1) (by omega) (by omega) ⟨k3-1,by omega,m+1,i,rfl,rfl,rfl,rfl,rfl,rfl,rfl,rfl,rfl,rfl,by omega,s6,N,H6,λw=>?_⟩;rw[ay w,aj];simp only[yX,Hh];constructor
    ·rintro⟨d,f⟩
     refine⟨d,λG=>?_⟩;rcases G.1 with Z|rfl
     ·exact f ⟨Z,G.2⟩
     ·rw[hq]at G;exact absurd G.2 (by simp)
    ·rintro⟨d,f⟩
     exact⟨d,λG=>f ⟨.inl G.1,G.2⟩⟩
 refine iA ?_;have bg:∀w,On l w↔ln (nD ins) (iu u) (next u b) (λ_=>False) w:=λw=>by rw[ho w,an,Xb (by omega)]
 refine oF (H3.ld 0 rfl rfl) (ec aq.len ?_)
 refine Ij (λk I J o K A O P h'=>∃(n:Nat) (i:List Bool),I = .ptr lv 0/\J = .I b/\o=U/\K = .ptr Y 0/\A=bn/\O = .I B.next.length/\P = .I n/\n+k=B.next.length/\Sn F h3 F h'/\i.length=u.ee.length/\
  ej F h' (eD Y 79 (pR B bv bn bp)::ft eB hV i U::cs)/\∀w,On i w↔On l w\/ptn u b B n w) ?_ (k:=B.next.length)
  ⟨0,l,rfl,rfl,rfl,rfl,rfl,rfl,rfl,by omega,Sn.refl _ _,hl,H3,λw=>by
    constructor
    ·exact .inl
    ·rintro(d|⟨n',_,_,d,_⟩)
     ·exact d
     ·omega⟩
 clear hk k;rintro k I J o K A O P G ⟨n2,i,rfl,rfl,e5,rfl,aK,rfl,rfl,hk,s4,N,H4,aL⟩;subst o A;unfold sh;have ak:=aa.since s4;have bi:=aq.since s4;by_cases hn3:n2<B.next.length
 ·refine gy ?_;have ab:B.next[n2]<u.blocks.length:=g.nx b _ (by rw[an];exact AL hn3);obtain⟨t,ht⟩:∃t,B.next[n2]? =some t:=⟨_,hZ hn3⟩
  obtain⟨_,ah⟩:=ke.1 ht;rw[ah]at ab;obtain⟨T,hT⟩:∃T,u.blocks[t]? =some T:=⟨_,hZ ab⟩
  have C4:Lk F G _ lv u vv vb vs tu jI:=⟨H4,⟨ic+2,hc⟩,ak⟩
  obtain⟨l5,o5,_,j1,j2⟩:=bi.nat ht .i64;obtain⟨l6,o6,tv,tn,tp,_,k1,k2,kv,kN,kp,_⟩:=ak.B8 hT;refine ec j1 (ec j2 (ec (eC _ _) (ec (fo _ _ _) (oF (C4.ld 3 rfl) (ec k1 (ec k2 ?_))))));refine jX H4 rfl rfl (by simp only[pR,fe,kv.one,kN.one,kp.one];rfl) λZ H5 X=>?_;generalize G.next=tx at*;have aM:=kp.since X;have ai:=kv.since X;have aw:=ak.since X;have bC:=Lf g hT;have be:=tB g hT;refine oF (H5.ld 0 rfl rfl) (ec aM.len ?_)
  refine Hq (λk I J o K ad A O P D R S h'=>∃(m:Nat) (l3:List Bool),I = .ptr lv 0/\J = .I b/\o=U/\K = .ptr Y 0/\ad = .ptr tx 0/\A=bn/\O = .I B.next.length/\P = .I n2/\D=tp/\R = .I T.fk.length/\S = .I m/\m+k=T.fk.length/\
   Sn F Z F h'/\l3.length=u.ee.length/\ej F h' (eD tx 79 (pR T tv tn tp)::eD Y 79 (pR B bv bn bp)::ft eB hV l3 U::cs)/\∀w,On l3 w↔On i w\/ptk u b T m 0 w) ?_ (k:=T.fk.length)
   ⟨0,i,rfl,rfl,rfl,rfl,rfl,rfl,rfl,rfl,rfl,rfl,rfl,by omega,Sn.refl _ _,N,H5,λw=>by
     constructor
     ·exact .inl
     ·rintro(d|d)
      ·exact d
      ·exact absurd d (zbU _ _ _ _)⟩
  rintro k2 I J o K ad A O P D R S h6 ⟨m,l3,rfl,rfl,e5,rfl,rfl,aK,rfl,rfl,aN,rfl,rfl,bb,s6,aO,H6,aP⟩;subst o A D;unfold sK;by_cases hm:m<T.fk.length;rotate_left
  ·refine iA ?_;obtain rfl:m=T.fk.length:=by omega
   refine fG ⟨k-1,by omega,n2+1,l3,rfl,rfl,rfl,rfl,rfl,rfl,rfl,by omega,(s4.trans X).trans s6,aO,H6.tail,λw=>?_⟩;rw[aP w,aL w,zcb ht hT,or_assoc]
  refine gy ?_;obtain⟨p,hp⟩:∃p,T.fk[m]? =some p:=⟨_,hZ hm⟩
  obtain⟨l7,o7,_,p1,p2⟩:=(aM.since s6).nat hp .i64;have aQ:=ai.since s6;refine ec p1 (ec p2 (oF (H6.ld 0 rfl rfl) (ec aQ.len ?_)))
  refine IL (λk I J o K ad aR aS A O P D R S ae al am h'=>∃(q:Nat) (l4:List Bool),I = .ptr lv 0/\J = .I b/\o=U/\K = .ptr Y 0/\ad = .ptr tx 0/\aR = .I m/\aS = .I p/\A=bn/\O = .I B.next.length/\P = .I n2/\D=tp/\R = .I T.fk.length/\S = .I m/\
   ae=tv/\al = .I T.ee.length/\am = .I q/\q+k=T.ee.length/\
   Sn F h6 F h'/\l4.length=u.ee.length/\ej F h' (eD tx 79 (pR T tv tn tp)::eD Y 79 (pR B bv bn bp)::ft eB hV l4 U::cs)/\∀w,On l4 w↔On i w\/ptk u b T m q w) ?_ (k:=T.ee.length)
   ⟨0,l3,rfl,rfl,rfl,rfl,rfl,rfl,rfl,rfl,rfl,rfl,rfl,rfl,rfl,rfl,rfl,rfl,by omega,Sn.refl _ _,aO,H6,aP⟩
  rintro k3 I J o K ad aR aS A O P D R S ae al am h7 ⟨q,l4,rfl,rfl,e5,rfl,rfl,rfl,rfl,aK,rfl,rfl,aN,rfl,rfl,br,rfl,rfl,bf,s7,aA,H7,aB⟩;subst o A D ae;unfold yY;by_cases hq:q<T.ee.length;rotate_left
  ·refine iA ?_;obtain rfl:q=T.ee.length:=by omega
   refine fG ⟨k2-1,by omega,m+1,l4,rfl,rfl,rfl,rfl,rfl,rfl,rfl,rfl,rfl,rfl,rfl,by omega,s6.trans s7,aA,H7,λw=>?_⟩;rw[aB w,zbf]
  refine gy ?_;obtain⟨v,hv⟩:∃v,T.ee[q]? =some v:=⟨_,hZ hq⟩
  have aT:At u v t q:=⟨T,hT,hv⟩
  have az:v<u.ee.length:=g.uP v t q aT;obtain⟨x,hx⟩:∃x,u.ee[v]? =some x:=⟨_,hZ az⟩
  have aU:=(aw.since s6).since s7;have C7:Lk F h7 _ lv u vv vb vs tu jI:=⟨H7,⟨ic+3,hc⟩,aU⟩
  obtain ⟨l8,o8,_,q1,q2⟩:=(aQ.since s7).nat hv .i64;obtain⟨l9,o9,xw,_,r1,_,bj,ra⟩:=aU.val hx;refine ec q1 (ec q2 (ec (gS _ _ _ _) ?_));have eA:iM (.bool ((p:Int) == (b:Int))) (oB (some (V.ptr lv 0)) λaV=>oB (fR aV) λaW=>oB (fJ 0 aW) λaX=>oB (fJ 2 aX) λaY=>oB (ez aY h7) λaZ=>oB (some (V.I v)) λa0=>oB (gM 6 aZ a0) λa1=>oB (fJ 0 a1) λa2=>oB (ez a2 h7) λa3=>ef .eql 3 a3 (V.I 21))=some (.bool (p == b&&x.op == 21)):=by
   have i:ez (.ptr lv (0+0+2)) h7=some vv:=C7.ld 2 rfl;have l3:ez (.ptr l9 (o9+0)) h7=some (.I x.op):=ra.op;simp only[eQ,eC,fo,i,r1,l3,gS,iT];rw[ieq,show((x.op:Int) == 21)=(x.op == 21) from ieq _ 21]
  refine ec eA (fX ?_)
  cases hcd:(p == b&&x.op == 21)with
  | true =>
    refine fO rfl ?_;rw[yF,Ey,Ey]at hcd;obtain⟨rfl,aC⟩:=hcd;have bD:=(g.XS _ _ _ _ _ aT hx aC hT).2;obtain⟨a,ha⟩:∃a,x.args[m]? =some a:=⟨_,hZ (show m<x.args.length by omega)⟩
    have bE:a<u.ee.length:=by
      refine zj (g.use v x hx a ?_);unfold jn;rw[if_pos aC];exact yN ha
    obtain⟨bG,bH,_,t1,t2⟩:=bj.nat ha .i64;obtain⟨bI,bJ,bK,e1,e2,_,a4,bm⟩:=H7.M7 2 rfl (k:=a) (y:=true) (u:=V.bool true) (show a<l4.length by omega) rfl rfl rfl;refine ec (eC _ _) (ec (fo _ _ _) (oF (C7.ld 2 rfl) (ec r1 (oF ra.args (ec t1 (ec t2 (ec e1 ?_)))))));rw[e2,eh];simp only[M8,DR]at a4;refine xV ?_;unfold nk;refine j9 (m:=1) (by omega) (by omega) ⟨k3-1,by omega,q+1,l4.set a true,rfl,rfl,rfl,rfl,rfl,rfl,rfl,rfl,rfl,rfl,rfl,rfl,rfl,rfl,rfl,rfl,by omega,s7.trans bm,by simp[aA],a4,λw=>?_⟩;rw[Ln (by omega),aB w,VC hv hx];constructor
    ·rintro(⟨rfl,_⟩|⟨_,d|d⟩)
     ·exact .inr (.inr ⟨hp,aC,ha⟩)
     ·exact .inl d
     ·exact .inr (.inl d)
    ·intro d
     by_cases e:w=a
     ·exact .inl ⟨e,rfl⟩
     ·refine .inr ⟨e,?_⟩
      rcases d with f|f|⟨_,_,f⟩
      ·exact .inl f
      ·exact .inr f
      ·rw[ha]at f
       exact absurd (Option.some.inj f).symm e
  | false=>
    refine fH (by simp) ?_;refine xV ?_;unfold nk;refine j9 (m:=1) (by omega) (by omega) ⟨k3-1,by omega,q+1,l4,rfl,rfl,rfl,rfl,rfl,rfl,rfl,rfl,rfl,rfl,rfl,rfl,rfl,rfl,rfl,rfl,by omega,s7,aA,H7,λw=>?_⟩;rw[aB w,VC hv hx];constructor
    ·exact λh=>h.imp id .inl
    ·rintro (d|d|⟨d,f,_⟩)
     ·exact .inl d
     ·exact .inr d
     ·rw[hp]at d
      obtain rfl:=Option.some.inj d;rw[f]at hcd;simp at hcd
 refine iA ?_;obtain rfl:n2=B.next.length:=by omega
 have a5:∀w,On i w↔ln (nD ins) (iu u) (next u b) (λ_=>False) w\/PJ u b w:=λw=>by rw[aL w,bg w,zdu W]
 have bo:=(a9.trans s3).trans s4;refine oF (H4.ld 0 rfl rfl) ?_;have fin:∀(Z:Hp) (l5:List Bool),Sn F G F Z->ej F Z (ft eB hV l5 U::cs)->l5.length=u.ee.length->(∀w,On l5 w↔On i w\/Po u b w)->lO Q U Z:=by
  intro Z l5 X H5 a6 ac;refine ID ?_;unfold sD;refine H F Z l5 U (bo.trans X) H5 a6 λw=>?_;rw[ac w,a5 w];unfold PO;rw[or_assoc]
 by_cases c2:B.fin=2
 ·refine fx (io ?_);have bL:B.cond<u.ee.length:=by
   rcases g.fin b B W with⟨d,_⟩|⟨_,_,d⟩|⟨d,_⟩
   ·omega
   ·exact zj d
   ·omega
  obtain⟨l8,o8,h8,e1,e2,_,H8,s8⟩:=H4.M7 1 rfl (k:=B.cond) (y:=true) (u:=V.bool true) (show B.cond<i.length by omega) rfl rfl rfl;refine oF (H4.ld 0 rfl rfl) (ec e1 ?_);rw[e2,eh];simp only[M8,DR]at H8;refine fin h8 _ s8 H8.tail (by simp[N]) λw=>?_;rw[Ln (by omega)];unfold Po;constructor
  ·rintro(⟨rfl,_⟩|⟨_,d⟩)
   ·exact .inr ⟨B,W,.inl ⟨c2,rfl⟩⟩
   ·exact .inl d
  ·rintro(d|⟨B',d,f|f⟩)
   ·by_cases e:w=B.cond
    ·exact .inl ⟨e,rfl⟩
    ·exact .inr ⟨e,d⟩
   ·rw[W]at d;cases d;exact .inl ⟨f.2,rfl⟩
   ·rw[W]at d;cases d;omega
 refine fx (kw ?_);by_cases c3:B.fin=3
 ·refine fx (io ?_);have pO:B.state<u.eE.length:=by
   rcases g.fin b B W with⟨d,_⟩|⟨d,_⟩|⟨_,_,d⟩
   ·omega
   ·omega
   ·exact d
  obtain⟨fs,ag⟩:∃fs,u.eE[B.state]? =some fs:=⟨_,hZ pO⟩
  refine oF (H4.ld 0 rfl rfl) ?_;have C4:Lk F G (ft eB hV i U::eD Y 79 (pR B bv bn bp)::cs) lv u vv vb vs tu jI:=⟨H4.sw,⟨ic+2,hc⟩,ak⟩
  refine U3 C4 ag (Zg g _ _ ag) (λy hy=>by rw[N];exact Jp g ag y hy) λZ l5 X H5 a6 ac=>?_;refine fin Z l5 X H5.Eu (by omega) λw=>?_;rw[ac w];unfold Po;constructor
  ·rintro(d|d)
   ·exact .inl d
   ·exact .inr ⟨B,W,.inr ⟨c3,by unfold nN;rw[ag];exact d⟩⟩
  ·rintro(d|⟨B',d,f|f⟩)
   ·exact .inl d
   ·rw[W]at d;cases d;omega
   ·rw[W]at d;cases d;have h3:=f.2;unfold nN at h3;rw[ag]at h3;exact .inr h3
 ·refine fx (kw ?_);refine fin G i (Sn.refl _ _) H4.tail N λw=>?_;constructor
  ·exact .inl
  ·rintro(d|⟨B',d,f|f⟩)
   ·exact d
   ·rw[W]at d;cases d;omega
   ·rw[W]at d;cases d;omega
