/- Parts. -/
import Derived.Test.YtcoaokdoecgcbaaGreatDoorM27
import Derived.Test.YtcoaokdoecgcbaaGreatDoorM17
set_option maxHeartbeats 4000000
namespace Go.Proofs.YtcoaokdoecgcbaaGreatDoor.Hx
open Un Dm
theorem zbh:P0.underlying fw=some (.int .i64):=by kernel_rfl
theorem N0(a b:Int):Fa fw (.I a) (.I b)=some (a == b):=by
 unfold Fa;rw[zbh];rfl
section
variable{u:U}
theorem FO{w:Nat}(h:FD u w):w<u.ee.length:=by
 obtain⟨x,a,_⟩:=h
 grind
theorem KU{P:Nat->Prop}(g:Gd u P){s:Nat}{fs:List Fm}(a:u.ez[s]? =some fs):∀w∈il fs,w<u.ee.length:=by
 intro w b;unfold il at b;obtain⟨f,c,d⟩:=wBI.1 b;obtain⟨_,_,e⟩:=g.st s fs a;obtain⟨_,_,i,j⟩:=e f c;rcases xU.1 d with h|h
 ·simp_all[FO]
 simp_all[FO]
theorem WS(g:Good u){i:Nat}{x:Vl}(d:u.ee[i]? =some x):x.op=21\/x.op=20->x.args.length<=700:=by
 have nb:=g.nb;obtain⟨b,k,a⟩:=g.Jm i (by grind) trivial;obtain⟨B,e,f⟩:=id a;rintro(c|c)
 ·rw[(g.Yb _ _ _ _ _ a d c e).2,g.fu b B e,<-qq];have:=ql g (i:=u.blocks.length) (j:=0) (b:=b) (jv _) (by omega);omega
 ·rw[g.putAt i x d c];omega
theorem V2{P:Nat->Prop}(g:Gd u P)(s:Nat)(fs:List Fm)(a:u.ez[s]? =some fs):fs.length<=30/\∀f∈fs,f.locals.length<=40/\f.stack.length<=60:=by
 obtain⟨_,b,c⟩:=g.st s fs a
 simp_all
theorem qT(g:Good u){b:Nat}{B:Bk}(a:u.blocks[b]? =some B):B.ee.length<=3000:=by
 have nv:=g.nv;have:=wZ u.ee.length B.ee (DB g a) λv hv=>by
  obtain⟨k,c⟩:=oR.1 hv;exact g.DW v b k ⟨B,a,c⟩
 omega
theorem Je(g:Good u){b:Nat}{B:Bk}(a:u.blocks[b]? =some B):B.fu.length<=700:=by
 have nb:=g.nb;rw[g.fu b B a,<-qq];have:=ql g (i:=u.blocks.length) (j:=0) (b:=b) (jv _) (by omega);omega
theorem WX(g:Good u){b:Nat}{B:Bk}(a:u.blocks[b]? =some B):B.next.length<=2:=by
 rcases g.fin b B a with⟨_,h⟩|⟨_,h,_⟩|⟨_,h,_⟩
 ·omega
 ·omega
 simp_all
end
open Un Dm
section
variable{F F':Nat->Prop}{h h':Hp}{cs:List Pc}{Q:fo}{u:U}{vv vb vs:V}{p q:Pc}
theorem ej.zcV{α:Type}{E:rG α}{ty:Nat}{xs:List (List α)}{v:V}(H:ej F h cs)(i:Nat)(hi:cs[i]? =some (fE (eL E) ty xs v)){k:Nat}{x:List α}(d:xs[k]? =some x) :
  ∃l o w,gP 1 v (.I k)=some (.ptr l o)/\eC (.ptr l o) h=some w/\iH E F h x w:=by
 have e:=H.row i hi;obtain⟨a,rfl⟩:=kE.1 d;rcases e with⟨rfl,rfl⟩|⟨t,ds,rfl,q,r,g,j,s⟩
 ·simp at a
 ·obtain⟨w,b,m,f,n,p⟩:=j.get (iz a);have e1:(eL E).sz=1:=rfl;rw[e1,Nat.mul_one]at b m;subst n;refine⟨t,k,f,by rw[wx _ _ _ _ _ _ a,HP,Nat.mul_one],?_,p⟩;refine j5 g ?_;have c:((ds.drop k).take 1)[0]? =some f:=by rw[b];rfl
  rw[List.getElem?_take_of_lt (by omega),wBZ,wBx]at c;exact c
theorem ej.Wa{α:Type}{E:rG α}(H:ej F h cs)(ty:Nat)(a:E.sz=1){xs:List α}{ws:List V}{n:Nat}(b:n=xs.length)(c:pU E F h ws xs) :
  ej (λl=>F l\/l=h.next) (h.new (.cells ty 1 true false ws)) cs/\Sn F h (λl=>F l\/l=h.next) (h.new (.cells ty 1 true false ws))/\iH E (λl=>F l\/l=h.next) (h.new (.cells ty 1 true false ws)) xs (.slice h.next 0 n):=by
 have:=H.Xu (E:=E) ty b c false
 rwa [a]at this
theorem Yo{l:List Bool}{w:Nat}(h:On l w):w<l.length:=(kE.1 h).1
theorem Q5{l:List Bool}{v w:V}{ws:List Nat}(p:ej F h (fE eB hC l v::cs))(hs:iH eN F h ws w)(z:ws.length<1000000)(q:∀x∈ws,x<l.length)
  (H:∀h' b,Sn F h F h'->ej F h' (fE eB hC b v::cs)->b.length=l.length->(∀x,On b x↔On l x\/x∈ws)->Q (.tuple []) h'):cP CS qU [v,w] h Q:=by
 refine Rn rfl rfl ?_;unfold JD;refine ec hs.len ?_
 refine Mq (λk d f g j h'=>∃(i:Nat) (b:List Bool),d=v/\f=w/\g = .I ws.length/\j = .I i/\i+k=ws.length/\Sn F h F h'/\ej F h' (fE eB hC b v::cs)/\b.length=l.length/\∀x,On b x↔On l x\/x∈ws.take i) ?_ (k:=ws.length)
  ⟨0,l,rfl,rfl,rfl,rfl,by omega,Sn.refl _ _,p,rfl,λx=>by simp⟩
 rintro k d f g j a ⟨i,l1,e0,A,rfl,rfl,B,s1,m,c,n⟩;subst d f;unfold Ei;by_cases hi:i<ws.length;rotate_left
 ·refine iY (H a l1 s1 m c λx=>?_);rw[n x,Uj (by omega)]
 refine gU ?_;obtain⟨l2,o2,_,r,s⟩:=(hs.since s1).nat (iz hi) .i64;have C:=q _ (Dg hi);obtain⟨l3,D,E,e1,e2,_,o,t⟩:=m.L9 0 rfl (k:=ws[i]) (y:=true) (u:=V.bool true) (by omega) rfl rfl rfl;refine ec r (ec s (ec e1 ?_));rw[e2,eh];simp only[AD]at o;refine gf ⟨k-1,by omega,i+1,l1.set ws[i] true,rfl,rfl,rfl,rfl,by omega,s1.trans t,o,by simp[c],λx=>?_⟩;rw[IK (by omega),Nt hi,n x];simp only[and_true,xU,EI];constructor
 ·rintro(a|⟨_,a|a⟩)
  ·exact .inr (.inr a)
  ·exact .inl a
  ·exact .inr (.inl a)
 ·rintro(a|a|a)
  ·by_cases e:x=ws[i]
   ·exact .inl e
   ·exact .inr ⟨e,.inl a⟩
  ·by_cases e:x=ws[i]
   ·exact .inl e
   ·exact .inr ⟨e,.inr a⟩
  ·exact .inl a
variable{lv:Nat}{qV jm:V}
structure Lk (F:Nat->Prop) (h:Hp) (cs:List Pc) (lv:Nat) (u:U) (vv vb vs qV jm:V):Prop where
 H:ej F h cs
 c:∃(i:Nat),cs[i]? =some (ft lv me [.I u.func,.I u.pc,vv,vb,vs,qV,jm])
 u:Is F h u vv vb vs
theorem Lk.cons(C:Lk F h cs lv u vv vb vs qV jm)(s:Sn F h F' h'){p:Pc} (a:ej F' h' (p::cs)):Lk F' h' (p::cs) lv u vv vb vs qV jm:=
 ⟨a,let⟨i,hc⟩:=C.c;⟨i+1,hc⟩,C.u.since s⟩
theorem Lk.ld(C:Lk F h cs lv u vv vb vs qV jm)(o:Nat){y:V}(a:[.I u.func,.I u.pc,vv,vb,vs,qV,jm][o]? =some y):eC (.ptr lv o) h=some y:=
 let⟨i,hc⟩:=C.c;C.H.ld i hc a
theorem DM(C:Lk F h cs lv u vv vb vs qV jm){v:Nat}(hv:v<u.ee.length)(H:Q (.bool (hD u v)) h):cP CS iq [.ptr lv 0,.I v] h Q:=by
 refine IN rfl rfl ?_;unfold Ap;obtain⟨x,b⟩:∃x,u.ee[v]? =some x:=⟨_,iz hv⟩
 obtain ⟨l,o,w,_,c,_,_,d⟩:=C.u.val b;refine ec (fi _ _) (ec (fN _ _ _) (oF (C.ld 2 rfl) (ec c (oF d.op (ec (iE _ _ _ _) ?_)))));have e:mm (.bool ((x.op:Int) == 21)) (oB (some (V.I x.op)) λa=>ef .eql 3 a (V.I 1))=some (.bool (hD u v)):=by
  simp only[eD,iE,iC];unfold hD;rw[b];show _=some (V.bool (kh x.op));unfold kh;rw[show((x.op:Int) == 21)=(x.op == 21) from YD _ 21,show((x.op:Int) == 1)=(x.op == 1) from YD _ 1,Bool.or_comm]
 exact ec e H
theorem Sk{l:List Bool}{v:V}(C:Lk F h (fE eB hC l v::cs) lv u vv vb vs qV jm){s:Nat}{fs:List Fm}(p:u.ez[s]? =some fs)(M:fs.length<=30/\∀f∈fs,f.locals.length<=40/\f.stack.length<=60)(o:∀x∈il fs,x<l.length)
  (H:∀h' d,Sn F h F h'->ej F h' (fE eB hC d v::cs)->d.length=l.length->(∀x,On d x↔On l x\/x∈il fs)->Q (.tuple []) h'):cP CS lY [.ptr lv 0,v,.I s] h Q:=by
 refine HR rfl rfl ?_;unfold zg;obtain⟨l1,W,f,_,N,_,O,B⟩:=C.u.st p;refine ec (fi _ _) (ec (fN _ _ _) (oF (C.ld 4 rfl) (ec N (oF O (ec B.len ?_)))))
 refine Dz (λk q e i m h'=>∃(j:Nat) (d:List Bool),q=v/\e=f/\i = .I fs.length/\m = .I j/\j+k=fs.length/\Sn F h F h'/\ej F h' (fE eB hC d v::cs)/\d.length=l.length/\∀x,On d x↔On l x\/x∈il (fs.take j)) ?_ (k:=fs.length)
  ⟨0,l,rfl,rfl,rfl,rfl,by omega,Sn.refl _ _,C.H,rfl,λx=>by simp[il]⟩
 rintro k q e i m b ⟨j,l1,e1,e16,rfl,rfl,X,s1,D,g,E⟩;subst q e;unfold uZ;by_cases hj:j<fs.length;rotate_left
 ·refine iY (H b l1 s1 D g λx=>?_);rw[E x,Uj (by omega)]
 refine gU ?_;obtain⟨l3,Y,a,c,_,P,R,G,I⟩:=(B.since s1).frm (iz hj);obtain⟨Z,f2⟩:=M.2 _ (Dg hj);have n:∀w,w∈fs[j].locals\/w∈fs[j].stack->w∈il fs:=λw o=>by
  unfold il;rw[wBI];exact⟨fs[j],Dg hj,xU.2 o⟩
 refine ec P (ec R ?_);refine lM D rfl rfl (by simp only[fmC,fe,G.one,I.one];rfl) λh2 J r=>?_;refine oF (J.ld 0 rfl rfl) ?_;refine Q5 J.sw (G.since r) (by omega) (λx t=>by rw[g];exact o x (n x (.inl t))) λh3 l3 K L y z=>?_;refine oF (L.ld 1 rfl rfl) ?_;refine Q5 L ((I.since r).since K) (by omega) (λx t=>by rw[y,g];exact o x (n x (.inr t))) λh4 l4 S T U A=>?_;refine gf ⟨k-1,by omega,j+1,l4,rfl,rfl,rfl,rfl,by omega,((s1.trans r).trans K).trans S,T.Fk,by omega,λx=>?_⟩;rw[A x,z x,E x,Nt hj];unfold il;simp only[wA4,TB,List.flatMap_nil,Hf,xU];constructor
 ·rintro(((b|b)|b)|b)
  ·exact .inl b
  ·exact .inr (.inl b)
  ·exact .inr (.inr (.inl b))
  ·exact .inr (.inr (.inr b))
 ·rintro(b|b|b|b)
  ·exact .inl (.inl (.inl b))
  ·exact .inl (.inl (.inr b))
  ·exact .inl (.inr b)
  ·exact .inr b
theorem Tz(g:Good u){l:List Bool}{v:V}(C:Lk F h (fE eB hC l v::cs) lv u vv vb vs qV jm)(hl:l.length=u.ee.length){a:Nat}(S:a<u.ee.length)
  (H:∀F' h' z,Sn F h F' h'->ej F' h' (fE eB hC z v::cs)->z.length=l.length->(∀x,On z x↔(On l x/\x≠a)\/x∈Eg u a)->Q (.tuple []) h'):cP CS lW [.ptr lv 0,v,.I a] h Q:=by
 refine HU rfl rfl ?_;unfold ze;obtain⟨x,o⟩:∃x,u.ee[a]? =some x:=⟨_,iz S⟩
 obtain ⟨l1,o1,w,_,T,U,M,_⟩:=C.u.val o;refine ec (fi _ _) (ec (fN _ _ _) (oF (C.ld 2 rfl) (ec T (ec U ?_))));refine lM C.H rfl rfl (by simp only[yH,fe,M.one];rfl) λs W N=>?_;obtain⟨l3,o3,O,e1,e2,_,A,P⟩:=W.L9 1 rfl (k:=a) (y:=false) (u:=V.bool false) (by omega) rfl rfl rfl;refine ec e1 ?_;rw[e2,eh];simp only[OH,AD]at A;refine ec (A.zB 0 rfl rfl) ?_;have d:=WS g o;refine Qs A ((M.since N).since P) (λh=>by have:=d h;omega) λX R vu Y Z r4=>?_;have p:∀y∈kj x,y<u.ee.length:=λy q=>FO (g.use a x o y q);refine Q5 Z.sw r4 (by have:=Nc d;omega) (λy q=>by simp only[X1];rw[hl];exact p y q) λB l5 s5 t m r=>?_;have n:=((N.trans P).trans Y).trans s5;have l6:eC (.ptr h.next (0+0)) B=some (.I x.op):=t.ld 1 rfl rfl;refine oF l6 (ec (iE _ _ _ _) ?_);have eL:mm (.bool ((x.op:Int) == 22)) (oB (fK 0 (.ptr h.next 0)) λD=>oB (eC D B) λE=>ef .eql 3 E (V.I 23))=some (.bool (leaves x.op)):=by
  simp only[fN,eD,l6,iE,iC];unfold leaves;rw[show((x.op:Int) == 22)=(x.op == 22) from YD _ 22,show((x.op:Int) == 23)=(x.op == 23) from YD _ 23]
 refine ec eL (gh ?_);have j:∀y,On (l.set a false) y↔On l y/\y≠a:=λy=>by
  rw[IK (by omega)];constructor
  ·rintro(⟨_,h⟩|⟨b,s⟩)
   ·cases h
   ·exact⟨s,b⟩
  ·exact λh=> .inr ⟨h.2,h.1⟩
 cases hq:leaves x.op with
 | false=>
   refine gD (by simp) (H _ _ l5 n t.Fk (by rw[m,X1]) λy=>?_);rw[r y,j y];unfold Eg;rw[o]
   simp[hq]
 | true =>
   refine gN rfl ?_;refine oF (t.ld 1 rfl rfl) ?_;have G:=g.leave a x o hq;obtain⟨fs,f⟩:∃fs,u.ez[x.state]? =some fs:=⟨_,iz G⟩
   have C5:Lk X B (fE eB hC l5 v::ft h.next 81 (yH x w)::cs) lv u vv vb vs qV jm:=by
     obtain⟨i,hc⟩:=C.c
     cases i with
     | zero=>
       exfalso;have b:=C.H.ok 0 _ rfl;have s:=C.H.ok 0 _ hc;have e:=Option.some.inj hc;have I:Loc v lv:=by
         have:=congrArg Pc.oJ e;have O:=congrFun this lv;show(fE eB hC l v).oJ lv;rw[O];rfl
       have hg:=s.1;have R:kT eB hC F h l v:=b;have:=(R.xN I).1;rw[Kx hg]at this
       exact absurd this (by decide)
     |succ i=>exact⟨t,⟨i+2,hc⟩,C.u.since n⟩
   refine Sk C5 f (V2 g _ _ f) (λy q=>by rw[m,X1,hl];exact KU g f y q) λh6 J s6 H6 K L=>?_;refine H _ _ J (n.trans s6) H6.Fk (by rw[K,m,X1]) λy=>?_;rw[L y,r y,j y];unfold Eg xI;rw[o];simp only[hq,if_true,f,xU];constructor
   ·rintro((b|b)|b)
    ·exact .inl b
    ·exact .inr (.inl b)
    ·exact .inr (.inr b)
   ·rintro(b|b|b)
    ·exact .inl (.inl b)
    ·exact .inl (.inr b)
    ·exact .inr b
end
open Un Dm
def mH(ins:List (List Bool))(b w:Nat):Prop:=∃r,ins[b]? =some r/\On r w
theorem V4{In H:Nat->Nat->Prop}{t w:Nat}:∀{ts:List Nat}{P:Nat->Prop},ln In H (ts++[t]) P w↔(ln In H ts P w\/In t w)/\¬H t w
 |[],_=>Iff.rfl
 |t'::ts,P=>V4 (ts:=ts)
def ptk(u:U)(b:Nat)(T:Bk)(m q x:Nat):Prop:=∃(a c v:Nat)(xv:Vl),(a<m\/(a=m/\c<q))/\T.fu[a]? =some b/\T.ee[c]? =some v/\u.ee[v]? =some xv/\xv.op=21/\xv.args[a]? =some x
theorem ZB(u:U)(b:Nat)(T:Bk)(x:Nat):¬ptk u b T 0 0 x:=λ⟨_,_,_,_,h,_⟩=>by omega
theorem RV{u:U}{b:Nat}{T:Bk}{m q v x:Nat}{xv:Vl}(hv:T.ee[q]? =some v)(k:u.ee[v]? =some xv):ptk u b T m (q+1) x↔ptk u b T m q x\/(T.fu[m]? =some b/\xv.op=21/\xv.args[m]? =some x):=by
 constructor
 ·rintro⟨f,g,h,a,i,c,d,j,l,n⟩;by_cases e:f=m/\g=q
  ·obtain⟨rfl,rfl⟩:=e;rw[hv]at d;cases d;rw[k]at j;cases j;exact .inr ⟨c,l,n⟩
  ·exact .inl ⟨f,g,h,a,by omega,c,d,j,l,n⟩
 ·rintro(⟨f,g,h,a,i,c⟩|⟨i,c,d⟩)
  ·exact⟨f,g,h,a,by omega,c⟩
  ·exact⟨m,q,v,xv,.inr ⟨rfl,by omega⟩,i,hv,k,c,d⟩
theorem Zz{u:U}{b:Nat}{T:Bk}{m x:Nat}:ptk u b T m T.ee.length x↔ptk u b T (m+1) 0 x:=by
 constructor
 ·rintro⟨c,d,e,a,h,f⟩;exact⟨c,d,e,a,by omega,f⟩
 ·rintro⟨c,d,e,a,h,f,g,i⟩;have:=(kE.1 g).1;exact⟨c,d,e,a,by omega,f,g,i⟩
def ptn(u:U)(b:Nat)(B:Bk)(n x:Nat):Prop:=∃(a t:Nat)(T:Bk),a<n/\B.next[a]? =some t/\u.blocks[t]? =some T/\ptk u b T T.fu.length 0 x
theorem YO{u:U}{b:Nat}{B T:Bk}{n t x:Nat}(g:B.next[n]? =some t)(i:u.blocks[t]? =some T):ptn u b B (n+1) x↔ptn u b B n x\/ptk u b T T.fu.length 0 x:=by
 constructor
 ·rintro⟨c,t',d,k,a,f,j⟩;by_cases e:c=n
  ·subst e;rw[g]at a;cases a;rw[i]at f;cases f;exact .inr j
  ·exact .inl ⟨c,t',d,by omega,a,f,j⟩
 ·rintro(⟨c,t',d,k,a⟩|h)
  ·exact⟨c,t',d,by omega,a⟩
  ·exact⟨n,t,T,by omega,g,i,h⟩
theorem zbT{u:U}{b:Nat}{B:Bk}(i:u.blocks[b]? =some B){x:Nat}:ptn u b B B.next.length x↔MH u b x:=by
 have a:next u b=B.next:=by unfold next;rw[i]
 unfold MH;rw[a];constructor
 ·rintro⟨n,t,T,h,j,d,m,q,v,xv,_,e,f,c,g,k⟩;exact⟨t,zQ j,T,v,xv,m,d,zQ f,c,g,e,k⟩
 ·rintro⟨t,h,T,v,xv,m,d,l,e,f,c,g⟩;obtain⟨n,a⟩:=oR.1 h;obtain⟨q,hq⟩:=oR.1 l;exact⟨n,t,T,(kE.1 a).1,a,d,m,q,v,xv,.inl (kE.1 c).1,c,hq,e,f,g⟩
section
variable{F F':Nat->Prop}{h h':Hp}{cs:List Pc}{Q:fo}{u:U}{vv vb vs:V}{lv:Nat}{qV jm:V}{ins:List (List Bool)}
theorem zdl(g:Good u)(C:Lk F h cs lv u vv vb vs qV jm){ii:Nat}(a8:cs[ii]? =some (fE (eL eB) hY ins qV))(bw:ins.length=u.blocks.length)(a9:∀r∈ins,r.length=u.ee.length){b:Nat}{B:Bk}(U:u.blocks[b]? =some B)
  (H:∀F' h' l v,Sn F h F' h'->ej F' h' (fE eB hC l v::cs)->l.length=u.ee.length->(∀w,On l w↔O1 u (jN u) (mH ins) b w)->Q v h'):cP CS pY [.ptr lv 0,.I b] h Q:=by
 refine JX rfl rfl ?_;unfold Bj;have nv:=g.nv;have nb:=g.nb;have ao:next u b=B.next:=by unfold next;rw[U]
 have bz:=WX g U;obtain⟨ic,hc⟩:=C.c;have hu:=C.u;refine ec (fi _ _) (ec (fN _ _ _) (oF (C.ld 2 rfl) (ec hu.v.len ?_)));rw[pC (z:=V.bool false) rfl (by decide) (by omega),fI];obtain⟨H1,s1⟩:=C.H.make (E:=eB) (ty:=hC) (y:=false) (u:=V.bool false) u.ee.length rfl rfl;generalize V.slice h.next 0 u.ee.length=S at*;generalize h.new (.cells hC 1 true false (List.replicate u.ee.length (V.bool false)))=d at*;have aq:=hu.since s1;have C1:Lk F d _ lv u vv vb vs qV jm:=⟨H1,⟨ic+1,hc⟩,aq⟩
 obtain⟨l2,o2,bv,X,bp,_,i1,i2,iv,iN,ip,_⟩:=aq.AA U;refine ec (fi _ _) (ec (fN _ _ _) (oF (C1.ld 3 rfl) (ec i1 (ec i2 ?_))));refine lM H1 rfl rfl (by simp only[rr,fe,iv.one,iN.one,ip.one];rfl) λf H2 s2=>?_;have ba:=s1.trans s2;have bb:=aq.since s2;have aE:=iN.since s2;generalize d.next=Y at*;refine oF (H2.ld 0 rfl rfl) (ec aE.len ?_)
 refine GI (λk G I i J o K L h'=>∃(n:Nat) (l:List Bool),G = .ptr lv 0/\I = .I b/\i=S/\J = .ptr Y 0/\o=X/\K = .I B.next.length/\L = .I n/\n+k=B.next.length/\Sn F f F h'/\l.length=u.ee.length/\
  ej F h' (ft Y 79 (rr B bv X bp)::fE eB hC l S::cs)/\∀w,On l w↔ln (mH ins) (jN u) (B.next.take n) (λ_=>False) w) ?_ (k:=B.next.length)
  ⟨0,_,rfl,rfl,rfl,rfl,rfl,rfl,rfl,by omega,Sn.refl _ _,by simp,H2,λw=>by
   simp only[List.take_zero,ln,iff_false];unfold On;intro h;have:=wBp (zQ h);cases this⟩
 rintro k G I i J o K L h3 ⟨n,l,rfl,rfl,e5,rfl,aF,rfl,rfl,hk,s3,hl,H3,ho⟩;subst i o;unfold wU;have aa:=bb.since s3;have ar:=aE.since s3;by_cases hn:n<B.next.length
 ·refine gU ?_;have ab:B.next[n]<u.blocks.length:=g.nx b _ (by rw[ao];exact Dg hn);obtain⟨t,ht⟩:∃t,B.next[n]? =some t:=⟨_,iz hn⟩
  obtain⟨_,ai⟩:=kE.1 ht;rw[ai]at ab;obtain⟨T,hT⟩:∃T,u.blocks[t]? =some T:=⟨_,iz ab⟩
  obtain⟨r,hr⟩:∃r,ins[t]? =some r:=⟨_,iz (show t<ins.length by omega)⟩
  have bA:=a9 r (zQ hr);have C3:Lk F h3 _ lv u vv vb vs qV jm:=⟨H3,⟨ic+2,hc⟩,aa⟩
  obtain⟨l4,o4,_,j1,j2⟩:=ar.nat ht .i64;obtain⟨l5,o5,tv,tn,tp,_,k1,k2,kv,kN,kp,_⟩:=aa.AA hT;refine ec j1 (ec j2 (ec (fi _ _) (ec (fN _ _ _) (oF (C3.ld 3 rfl) (ec k1 (ec k2 ?_))))));refine lM H3 rfl rfl (by simp only[rr,fe,kv.one,kN.one,kp.one];rfl) λD H4 s4=>?_;have C4:Lk F D _ lv u vv vb vs qV jm:=⟨H4,⟨ic+3,hc⟩,aa.since s4⟩
  obtain⟨l6,o6,w6,m1,m2,m3⟩:=H4.zcV (ii+3) a8 hr;generalize h3.next=tx at*;refine oN (C4.ld 5 rfl) (ec m1 (ec m2 (ec m3.len ?_)))
  refine FJ (λk G I i J x9 o K L au aG aH h'=>∃(j:Nat) (l':List Bool),G = .ptr lv 0/\I = .I b/\i=S/\J = .ptr Y 0/\x9 = .ptr tx 0/\o=X/\K = .I B.next.length/\L = .I n/\au=w6/\aG = .I r.length/\aH = .I j/\j+k=r.length/\
   Sn F D F h'/\l'.length=u.ee.length/\ej F h' (ft tx 79 (rr T tv tn tp)::ft Y 79 (rr B bv X bp)::fE eB hC l' S::cs)/\∀w,On l' w↔On l w\/(w<j/\On r w)) ?_ (k:=r.length)
   ⟨0,l,rfl,rfl,rfl,rfl,rfl,rfl,rfl,rfl,rfl,rfl,rfl,by omega,Sn.refl _ _,hl,H4,λw=>by simp⟩
  rintro k2 G I i J x9 o K L au aG aH Z ⟨j,l',rfl,rfl,e5,rfl,rfl,aF,rfl,rfl,bC,rfl,rfl,bc,W,aI,H5,aw⟩;subst i o au;unfold ye;by_cases hj:j<r.length
  ·refine gU ?_;obtain⟨y,hy⟩:∃y,r[j]? =some y:=⟨_,iz hj⟩
   obtain⟨z,hz⟩:∃z,l'[j]? =some z:=⟨_,iz (show j<l'.length by omega)⟩
   obtain⟨l7,o7,_,p1,p2⟩:=(m3.since W).bool hy .i64;obtain⟨l8,o8,q1,q2⟩:=H5.VH 2 rfl hz .i64;obtain⟨l9,o9,h9,e1,e2,_,H9,s9⟩:=H5.L9 2 rfl (k:=j) (y:=(z ||y)) (u:=V.bool (z ||y)) (show j<l'.length by omega) rfl rfl rfl;refine ec p1 (ec p2 (ec q1 (ec q2 (ec (iC _ _) (ec e1 ?_)))));rw[e2,eh];simp only[OH,AD]at H9;refine gf ⟨k2-1,by omega,j+1,l'.set j (z ||y),rfl,rfl,rfl,rfl,rfl,rfl,rfl,rfl,rfl,rfl,rfl,by omega,W.trans s9,by simp[aI],H9,λw=>?_⟩;rw[IK (by omega),aw w];by_cases e:w=j
   ·subst e;have bd:On l w↔z=true:=by
     have d:=aw w;unfold On at d⊢;rw[hz]at d;constructor
     ·intro f;have:=d.2 (.inl f);simpa using this
     ·intro f;subst f;rcases d.1 rfl with h3|h3
      ·exact h3
      ·omega
    have be:On r w↔y=true:=by unfold On;rw[hy];simp
    rw[bd,be];simp
   ·constructor
    ·rintro(⟨d,_⟩|⟨_,d|⟨d,f⟩⟩)
     ·exact absurd d e
     ·exact .inl d
     ·exact .inr ⟨by omega,f⟩
    ·rintro(d|⟨d,f⟩)
     ·exact .inr ⟨e,.inl d⟩
     ·exact .inr ⟨e,.inr ⟨by omega,f⟩⟩
  refine iY ?_;have aj:=(kv.since s4).since W;refine oF (H5.ld 0 rfl rfl) (ec aj.len ?_);have bf:=qT g hT;have ax:=(aa.since s4).since W;have ac:∀w,On l' w↔On l w\/On r w:=λw=>by
   rw[aw w];constructor
   ·exact λh=>h.imp id λh=>h.2
   ·exact λh=>h.imp id λh=>⟨by have:=Yo h;omega,h⟩
  refine Ff (λk G I i J o K L ay aJ aK h'=>∃(m:Nat) (l2:List Bool),G = .ptr lv 0/\I = .I b/\i=S/\J = .ptr Y 0/\o=X/\K = .I B.next.length/\L = .I n/\ay=tv/\aJ = .I T.ee.length/\aK = .I m/\m+k=T.ee.length/\
   Sn F Z F h'/\l2.length=u.ee.length/\ej F h' (ft tx 79 (rr T tv tn tp)::ft Y 79 (rr B bv X bp)::fE eB hC l2 S::cs)/\∀w,On l2 w↔On l' w/\¬(w∈T.ee.take m/\hD u w=true)) ?_ (k:=T.ee.length)
   ⟨0,l',rfl,rfl,rfl,rfl,rfl,rfl,rfl,rfl,rfl,rfl,by omega,Sn.refl _ _,aI,H5,λw=>by simp⟩
  rintro k3 G I i J o K L ay aJ aK h6 ⟨m,l2,rfl,rfl,e5,rfl,aF,rfl,rfl,bD,rfl,rfl,bg,s6,M,H6,az⟩;subst i o ay;unfold xR;by_cases hm:m<T.ee.length;rotate_left
  ·refine iY ?_;refine gf ⟨k-1,by omega,n+1,l2,rfl,rfl,rfl,rfl,rfl,rfl,rfl,by omega,((s3.trans s4).trans W).trans s6,M,H6.tail,λw=>?_⟩;have ak:B.next.take (n+1)=B.next.take n++[t]:=by rw[Nt hn,ai]
   rw[ak,V4,az w,ac w,ho w,Uj (show T.ee.length<=m by omega)];have e1:mH ins t w↔On r w:=⟨λ⟨r',d,f⟩=>by rw[hr]at d;cases d;exact f,λh=>⟨r,hr,h⟩⟩
   have e2:jN u t w↔w∈T.ee/\hD u w=true:=by unfold jN jr;rw[hT]
   rw[e1,e2]
  refine gU ?_;obtain⟨v,hv⟩:∃v,T.ee[m]? =some v:=⟨_,iz hm⟩
  have aA:v<u.ee.length:=g.DW v t m ⟨T,hT,hv⟩;have ak:T.ee.take (m+1)=T.ee.take m++[v]:=by
   obtain⟨d,rfl⟩:=kE.1 hv;exact Nt d
  obtain⟨l7,o7,_,p1,p2⟩:=(aj.since s6).nat hv .i64;have C6:Lk F h6 _ lv u vv vb vs qV jm:=⟨H6,⟨ic+3,hc⟩,ax.since s6⟩
  refine ec p1 (ec p2 (DM C6 aA (gh ?_)))
  cases hq:hD u v with
  | true=>
    refine gN rfl ?_;obtain⟨l8,o8,h8,e1,e2,_,H8,s8⟩:=H6.L9 2 rfl (k:=v) (y:=false) (u:=V.bool false) (show v<l2.length by omega) rfl rfl rfl;refine ec e1 ?_;rw[e2,eh];simp only[OH,AD]at H8;refine vQ ?_;unfold pH;refine ju (m:=1) (by omega) (by omega) ⟨k3-1,by omega,m+1,l2.set v false,rfl,rfl,rfl,rfl,rfl,rfl,rfl,rfl,rfl,rfl,by omega,s6.trans s8,by simp[M],H8,λw=>?_⟩;rw[IK (by omega),az w,ak];simp only[xU,EI];constructor
    ·rintro(⟨_,d⟩|⟨d,f,h3⟩)
     ·cases d
     ·exact⟨f,λD=>h3 ⟨D.1.resolve_right d,D.2⟩⟩
    ·rintro⟨d,f⟩
     refine .inr ⟨λe=>f ⟨.inr e,e▸hq⟩,d,λD=>f ⟨.inl D.1,D.2⟩⟩
  | false=>
    refine gD (by simp) ?_;refine vQ ?_;unfold pH;refine ju (m:=1) (by omega) (by omega) ⟨k3-1,by omega,m+1,l2,rfl,rfl,rfl,rfl,rfl,rfl,rfl,rfl,rfl,rfl,by omega,s6,M,H6,λw=>?_⟩;rw[az w,ak];simp only[xU,EI];constructor
    ·rintro⟨d,f⟩
     refine⟨d,λD=>?_⟩;rcases D.1 with Z|rfl
     ·exact f ⟨Z,D.2⟩
     ·rw[hq]at D;exact absurd D.2 (by simp)
    ·rintro⟨d,f⟩
     exact⟨d,λD=>f ⟨.inl D.1,D.2⟩⟩
 refine iY ?_;have bi:∀w,On l w↔ln (mH ins) (jN u) (next u b) (λ_=>False) w:=λw=>by rw[ho w,ao,Uj (by omega)]
 refine oF (H3.ld 0 rfl rfl) (ec ar.len ?_)
 refine FB (λk G I i J s N O h'=>∃(n:Nat) (l2:List Bool),G = .ptr lv 0/\I = .I b/\i=S/\J = .ptr Y 0/\s=X/\N = .I B.next.length/\O = .I n/\n+k=B.next.length/\Sn F h3 F h'/\l2.length=u.ee.length/\
  ej F h' (ft Y 79 (rr B bv X bp)::fE eB hC l2 S::cs)/\∀w,On l2 w↔On l w\/ptn u b B n w) ?_ (k:=B.next.length)
  ⟨0,l,rfl,rfl,rfl,rfl,rfl,rfl,rfl,by omega,Sn.refl _ _,hl,H3,λw=>by
    constructor
    ·exact .inl
    ·rintro(d|⟨n',_,_,d,_⟩)
     ·exact d
     ·omega⟩
 clear hk k;rintro k G I i J s N O D ⟨n2,l2,rfl,rfl,e5,rfl,aL,rfl,rfl,hk,s4,M,H4,aM⟩;subst i s;unfold xx;have al:=aa.since s4;have bj:=ar.since s4;by_cases hn3:n2<B.next.length
 ·refine gU ?_;have ab:B.next[n2]<u.blocks.length:=g.nx b _ (by rw[ao];exact Dg hn3);obtain⟨t,ht⟩:∃t,B.next[n2]? =some t:=⟨_,iz hn3⟩
  obtain⟨_,ai⟩:=kE.1 ht;rw[ai]at ab;obtain⟨T,hT⟩:∃T,u.blocks[t]? =some T:=⟨_,iz ab⟩
  have C4:Lk F D _ lv u vv vb vs qV jm:=⟨H4,⟨ic+2,hc⟩,al⟩
  obtain⟨l5,o5,_,j1,j2⟩:=bj.nat ht .i64;obtain⟨l6,o6,tv,tn,tp,_,k1,k2,kv,kN,kp,_⟩:=al.AA hT;refine ec j1 (ec j2 (ec (fi _ _) (ec (fN _ _ _) (oF (C4.ld 3 rfl) (ec k1 (ec k2 ?_))))));refine lM H4 rfl rfl (by simp only[rr,fe,kv.one,kN.one,kp.one];rfl) λZ H5 W=>?_;generalize D.next=tx at*;have aN:=kp.since W;have aj:=kv.since W;have ax:=al.since W;have bE:=Je g hT;have bf:=qT g hT;refine oF (H5.ld 0 rfl rfl) (ec aN.len ?_)
  refine Gf (λk G I i J ae s N O A P R h'=>∃(m:Nat) (l3:List Bool),G = .ptr lv 0/\I = .I b/\i=S/\J = .ptr Y 0/\ae = .ptr tx 0/\s=X/\N = .I B.next.length/\O = .I n2/\A=tp/\P = .I T.fu.length/\R = .I m/\m+k=T.fu.length/\
   Sn F Z F h'/\l3.length=u.ee.length/\ej F h' (ft tx 79 (rr T tv tn tp)::ft Y 79 (rr B bv X bp)::fE eB hC l3 S::cs)/\∀w,On l3 w↔On l2 w\/ptk u b T m 0 w) ?_ (k:=T.fu.length)
   ⟨0,l2,rfl,rfl,rfl,rfl,rfl,rfl,rfl,rfl,rfl,rfl,rfl,by omega,Sn.refl _ _,M,H5,λw=>by
     constructor
     ·exact .inl
     ·rintro(d|d)
      ·exact d
      ·exact absurd d (ZB _ _ _ _)⟩
  rintro k2 G I i J ae s N O A P R h6 ⟨m,l3,rfl,rfl,e5,rfl,rfl,aL,rfl,rfl,aO,rfl,rfl,bc,s6,aP,H6,aQ⟩;subst i s A;unfold xW;by_cases hm:m<T.fu.length;rotate_left
  ·refine iY ?_;obtain rfl:m=T.fu.length:=by omega
   refine gf ⟨k-1,by omega,n2+1,l3,rfl,rfl,rfl,rfl,rfl,rfl,rfl,by omega,(s4.trans W).trans s6,aP,H6.tail,λw=>?_⟩;rw[aQ w,aM w,YO ht hT,or_assoc]
  refine gU ?_;obtain⟨p,hp⟩:∃p,T.fu[m]? =some p:=⟨_,iz hm⟩
  obtain⟨l7,o7,_,p1,p2⟩:=(aN.since s6).nat hp .i64;have aR:=aj.since s6;refine ec p1 (ec p2 (oF (H6.ld 0 rfl rfl) (ec aR.len ?_)))
  refine GB (λk G I i J ae aS aT s N O A P R ag am an h'=>∃(q:Nat) (l4:List Bool),G = .ptr lv 0/\I = .I b/\i=S/\J = .ptr Y 0/\ae = .ptr tx 0/\aS = .I m/\aT = .I p/\s=X/\N = .I B.next.length/\O = .I n2/\A=tp/\P = .I T.fu.length/\R = .I m/\
   ag=tv/\am = .I T.ee.length/\an = .I q/\q+k=T.ee.length/\
   Sn F h6 F h'/\l4.length=u.ee.length/\ej F h' (ft tx 79 (rr T tv tn tp)::ft Y 79 (rr B bv X bp)::fE eB hC l4 S::cs)/\∀w,On l4 w↔On l2 w\/ptk u b T m q w) ?_ (k:=T.ee.length)
   ⟨0,l3,rfl,rfl,rfl,rfl,rfl,rfl,rfl,rfl,rfl,rfl,rfl,rfl,rfl,rfl,rfl,rfl,by omega,Sn.refl _ _,aP,H6,aQ⟩
  rintro k3 G I i J ae aS aT s N O A P R ag am an h7 ⟨q,l4,rfl,rfl,e5,rfl,rfl,rfl,rfl,aL,rfl,rfl,aO,rfl,rfl,bu,rfl,rfl,bg,s7,aB,H7,aC⟩;subst i s A ag;unfold yc;by_cases hq:q<T.ee.length;rotate_left
  ·refine iY ?_;obtain rfl:q=T.ee.length:=by omega
   refine gf ⟨k2-1,by omega,m+1,l4,rfl,rfl,rfl,rfl,rfl,rfl,rfl,rfl,rfl,rfl,rfl,by omega,s6.trans s7,aB,H7,λw=>?_⟩;rw[aC w,Zz]
  refine gU ?_;obtain⟨v,hv⟩:∃v,T.ee[q]? =some v:=⟨_,iz hq⟩
  have aU:At u v t q:=⟨T,hT,hv⟩
  have aA:v<u.ee.length:=g.DW v t q aU;obtain⟨x,hx⟩:∃x,u.ee[v]? =some x:=⟨_,iz aA⟩
  have aV:=(ax.since s6).since s7;have C7:Lk F h7 _ lv u vv vb vs qV jm:=⟨H7,⟨ic+3,hc⟩,aV⟩
  obtain ⟨l8,o8,_,q1,q2⟩:=(aR.since s7).nat hv .i64;obtain⟨l9,o9,xw,_,r1,_,bm,ra⟩:=aV.val hx;refine ec q1 (ec q2 (ec (iE _ _ _ _) ?_));have eA:iM (.bool ((p:Int) == (b:Int))) (oB (some (V.ptr lv 0)) λaW=>oB (gq aW) λaX=>oB (fK 0 aX) λaY=>oB (fK 2 aY) λaZ=>oB (eC aZ h7) λa0=>oB (some (V.I v)) λa1=>oB (gP 6 a0 a1) λa2=>oB (fK 0 a2) λa3=>oB (eC a3 h7) λa4=>ef .eql 3 a4 (V.I 21))=some (.bool (p == b&&x.op == 21)):=by
   have l2:eC (.ptr lv (0+0+2)) h7=some vv:=C7.ld 2 rfl;have l3:eC (.ptr l9 (o9+0)) h7=some (.I x.op):=ra.op;simp only[eD,fi,fN,l2,r1,l3,iE,gQ];rw[YD,show((x.op:Int) == 21)=(x.op == 21) from YD _ 21]
  refine ec eA (gh ?_)
  cases hcd:(p == b&&x.op == 21)with
  | true =>
    refine gN rfl ?_;rw[sJ,KC,KC]at hcd;obtain⟨rfl,aD⟩:=hcd;have bG:=(g.Yb _ _ _ _ _ aU hx aD hT).2;obtain⟨a,ha⟩:∃a,x.args[m]? =some a:=⟨_,iz (show m<x.args.length by omega)⟩
    have bH:a<u.ee.length:=by
      refine FO (g.use v x hx a ?_);unfold kj;rw[if_pos aD];exact zQ ha
    obtain⟨l10,bI,_,t1,t2⟩:=bm.nat ha .i64;obtain⟨l11,bJ,bK,e1,e2,_,a5,bo⟩:=H7.L9 2 rfl (k:=a) (y:=true) (u:=V.bool true) (show a<l4.length by omega) rfl rfl rfl;refine ec (fi _ _) (ec (fN _ _ _) (oF (C7.ld 2 rfl) (ec r1 (oF ra.args (ec t1 (ec t2 (ec e1 ?_)))))));rw[e2,eh];simp only[OH,AD]at a5;refine vS ?_;unfold pK;refine ju (m:=1) (by omega) (by omega) ⟨k3-1,by omega,q+1,l4.set a true,rfl,rfl,rfl,rfl,rfl,rfl,rfl,rfl,rfl,rfl,rfl,rfl,rfl,rfl,rfl,rfl,by omega,s7.trans bo,by simp[aB],a5,λw=>?_⟩;rw[IK (by omega),aC w,RV hv hx];constructor
    ·rintro(⟨rfl,_⟩|⟨_,d|d⟩)
     ·exact .inr (.inr ⟨hp,aD,ha⟩)
     ·exact .inl d
     ·exact .inr (.inl d)
    ·intro d
     by_cases e:w=a
     ·exact .inl ⟨e,rfl⟩
     ·refine .inr ⟨e,?_⟩
      rcases d with f|f|⟨_,_,f⟩
      ·exact .inl f
      ·exact .inr f
      ·rw[ha]at f
       exact absurd (Option.some.inj f).symm e
  | false=>
    refine gD (by simp) ?_;refine vS ?_;unfold pK;refine ju (m:=1) (by omega) (by omega) ⟨k3-1,by omega,q+1,l4,rfl,rfl,rfl,rfl,rfl,rfl,rfl,rfl,rfl,rfl,rfl,rfl,rfl,rfl,rfl,rfl,by omega,s7,aB,H7,λw=>?_⟩;rw[aC w,RV hv hx];constructor
    ·exact λh=>h.imp id .inl
    ·rintro (d|d|⟨d,f,_⟩)
     ·exact .inl d
     ·exact .inr d
     ·rw[hp]at d
      obtain rfl:=Option.some.inj d;rw[f]at hcd;simp at hcd
 refine iY ?_;obtain rfl:n2=B.next.length:=by omega
 have a6:∀w,On l2 w↔ln (mH ins) (jN u) (next u b) (λ_=>False) w\/MH u b w:=λw=>by rw[aM w,bi w,zbT U]
 have br:=(ba.trans s3).trans s4;refine oF (H4.ld 0 rfl rfl) ?_;have fin:∀(Z:Hp) (l5:List Bool),Sn F D F Z->ej F Z (fE eB hC l5 S::cs)->l5.length=u.ee.length->(∀w,On l5 w↔On l2 w\/MS u b w)->kZ CS Q S Z:=by
  intro Z l5 W H5 a7 ac;refine FZ ?_;unfold wP;refine H F Z l5 S (br.trans W) H5 a7 λw=>?_;rw[ac w,a6 w];unfold O1;rw[or_assoc]
 by_cases c2:B.fin=2
 ·refine gw (gN (by omega) ?_);have bL:B.cond<u.ee.length:=by
   rcases g.fin b B U with⟨d,_⟩|⟨_,_,d⟩|⟨d,_⟩
   ·omega
   ·exact FO d
   ·omega
  obtain⟨l8,o8,h8,e1,e2,_,H8,s8⟩:=H4.L9 1 rfl (k:=B.cond) (y:=true) (u:=V.bool true) (show B.cond<l2.length by omega) rfl rfl rfl;refine oF (H4.ld 0 rfl rfl) (ec e1 ?_);rw[e2,eh];simp only[OH,AD]at H8;refine fin h8 _ s8 H8.tail (by simp[M]) λw=>?_;rw[IK (by omega)];unfold MS;constructor
  ·rintro(⟨rfl,_⟩|⟨_,d⟩)
   ·exact .inr ⟨B,U,.inl ⟨c2,rfl⟩⟩
   ·exact .inl d
  ·rintro(d|⟨B',d,f|f⟩)
   ·by_cases e:w=B.cond
    ·exact .inl ⟨e,rfl⟩
    ·exact .inr ⟨e,d⟩
   ·rw[U]at d;cases d;exact .inl ⟨f.2,rfl⟩
   ·rw[U]at d;cases d;omega
 refine gw (gD (by omega) ?_);by_cases c3:B.fin=3
 ·refine gw (gN (by omega) ?_);have bt:B.state<u.ez.length:=by
   rcases g.fin b B U with⟨d,_⟩|⟨d,_⟩|⟨_,_,d⟩
   ·omega
   ·omega
   ·exact d
  obtain⟨fs,ah⟩:∃fs,u.ez[B.state]? =some fs:=⟨_,iz bt⟩
  refine oF (H4.ld 0 rfl rfl) ?_;have C4:Lk F D (fE eB hC l2 S::ft Y 79 (rr B bv X bp)::cs) lv u vv vb vs qV jm:=⟨H4.sw,⟨ic+2,hc⟩,al⟩
  refine Sk C4 ah (V2 g _ _ ah) (λy hy=>by rw[M];exact KU g ah y hy) λZ l5 W H5 a7 ac=>?_;refine fin Z l5 W H5.Fk (by omega) λw=>?_;rw[ac w];unfold MS;constructor
  ·rintro(d|d)
   ·exact .inl d
   ·exact .inr ⟨B,U,.inr ⟨c3,by unfold xI;rw[ah];exact d⟩⟩
  ·rintro(d|⟨B',d,f|f⟩)
   ·exact .inl d
   ·rw[U]at d;cases d;omega
   ·rw[U]at d;cases d;have h3:=f.2;unfold xI at h3;rw[ah]at h3;exact .inr h3
 ·refine gw (gD (by omega) ?_);refine fin D l2 (Sn.refl _ _) H4.tail M λw=>?_;constructor
  ·exact .inl
  ·rintro(d|⟨B',d,f|f⟩)
   ·exact d
   ·rw[U]at d;cases d;omega
   ·rw[U]at d;cases d;omega
end
