/- Parts. -/
import Derived.Test.YtnehpeeglbgfpaaDoorM27
import Derived.Test.YtnehpeeglbgfpaaDoorM17
set_option maxHeartbeats 4000000
namespace Go.Proofs.YtnehpeeglbgfpaaDoor.Hx
open Un Dm
theorem Tw:P0.underlying fy=some (.int .i64):=by kernel_rfl
theorem M0(a b:Int):Bu fy (.I a) (.I b)=some (a == b):=by
 unfold Bu;rw[Tw];rfl
section
variable{u:U}
theorem rV{w:Nat}(h:Eo u w):w<u.ee.length:=by
 obtain⟨x,a,_⟩:=h
 grind
theorem FO{P:Nat->Prop}(g:Gd u P){s:Nat}{fs:List Fm}(a:u.eh[s]? =some fs):∀w∈jh fs,w<u.ee.length:=by
 intro w b;unfold jh at b;obtain⟨f,c,d⟩:=List.mem_flatMap.1 b;obtain⟨_,_,e⟩:=g.st s fs a;obtain⟨_,_,i,j⟩:=e f c;rcases AI.1 d with h|h
 ·simp_all[rV]
 simp_all[rV]
theorem Fp(g:Good u){i:Nat}{x:Vl}(d:u.ee[i]? =some x):x.op=21\/x.op=20->x.args.length<=700:=by
 have nb:=g.nb;obtain⟨b,k,a⟩:=g.DB i (by grind) trivial;obtain⟨B,e,f⟩:=id a;rintro(c|c)
 ·rw[(g.T3 _ _ _ _ _ a d c e).2,g.ft b B e,<-nP];have:=od g (i:=u.blocks.length) (j:=0) (b:=b) (jn _) (by omega);omega
 ·rw[g.putAt i x d c];omega
theorem Kv{P:Nat->Prop}(g:Gd u P)(s:Nat)(fs:List Fm)(a:u.eh[s]? =some fs):fs.length<=30/\∀f∈fs,f.locals.length<=40/\f.stack.length<=60:=by
 obtain⟨_,b,c⟩:=g.st s fs a
 simp_all
theorem mP(g:Good u){b:Nat}{B:Bk}(a:u.blocks[b]? =some B):B.ee.length<=3000:=by
 have nv:=g.nv;have:=wx u.ee.length B.ee (Dp g a) λv c=>by
  obtain⟨k,d⟩:=mM.1 c;exact g.vR v b k ⟨B,a,d⟩
 omega
theorem He(g:Good u){b:Nat}{B:Bk}(a:u.blocks[b]? =some B):B.ft.length<=700:=by
 have nb:=g.nb;rw[g.ft b B a,<-nP];have:=od g (i:=u.blocks.length) (j:=0) (b:=b) (jn _) (by omega);omega
theorem ES(g:Good u){b:Nat}{B:Bk}(a:u.blocks[b]? =some B):B.next.length<=2:=by
 rcases g.fin b B a with⟨_,h⟩|⟨_,h,_⟩|⟨_,h,_⟩
 ·omega
 ·omega
 simp_all
end
open Un Dm
section
variable{F F':Nat->Prop}{h h':Hp}{cs:List Pc}{Q:fm}{u:U}{vv vb vs:V}{p q:Pc}
theorem er.OG{α:Type}{E:sQ α}{ty:Nat}{xs:List (List α)}{v:V}(H:er F h cs)(i:Nat)(hi:cs[i]? =some (fo (eL E) ty xs v)){k:Nat}{x:List α}(d:xs[k]? =some x) :
  ∃l o w,gy 1 v (.I k)=some (.ptr l o)/\en (.ptr l o) h=some w/\iL E F h x w:=by
 have e:=H.row i hi;obtain⟨a,rfl⟩:=jw.1 d;rcases e with⟨rfl,rfl⟩|⟨t,ds,rfl,p,q,g,j,r⟩
 ·simp at a
 ·obtain⟨w,b,m,f,n,g4⟩:=j.get (iH a);have e1:(eL E).sz=1:=rfl;rw[e1,Uv]at b m;subst n;refine⟨t,k,f,by rw[vX _ _ _ _ _ _ a,EM,Uv],?_,g4⟩;refine js g ?_;have c:((ds.drop k).take 1)[0]? =some f:=by rw[b];rfl
  rw[Vo (by omega),V0,SH]at c;exact c
theorem er.JF{α:Type}{E:sQ α}(H:er F h cs)(ty:Nat)(a:E.sz=1){xs:List α}{ws:List V}{n:Nat}(b:n=xs.length)(c:mE E F h ws xs) :
  er (λl=>F l\/l=h.next) (h.new (.cells ty 1 true false ws)) cs/\Sn F h (λl=>F l\/l=h.next) (h.new (.cells ty 1 true false ws))/\iL E (λl=>F l\/l=h.next) (h.new (.cells ty 1 true false ws)) xs (.slice h.next 0 n):=by
 have:=H.Sr (E:=E) ty b c false
 rwa [a]at this
theorem Ny{l:List Bool}{w:Nat}(h:On l w):w<l.length:=(jw.1 h).1
theorem Kt{l:List Bool}{v w:V}{ws:List Nat}(r:er F h (fo eB fx l v::cs))(g:iL eN F h ws w)(B:ws.length<1000000)(s:∀x∈ws,x<l.length)
  (H:∀h' b,Sn F h F h'->er F h' (fo eB fx b v::cs)->b.length=l.length->(∀x,On b x↔On l x\/x∈ws)->Q (.tuple []) h'):cP CS oI [v,w] h Q:=by
 refine KJ rfl rfl ?_;unfold EF;refine ec g.len ?_
 refine GH (λk d f j m h'=>∃(i:Nat) (b:List Bool),d=v/\f=w/\j = .I ws.length/\m = .I i/\i+k=ws.length/\Sn F h F h'/\er F h' (fo eB fx b v::cs)/\b.length=l.length/\∀x,On b x↔On l x\/x∈ws.take i) ?_ (k:=ws.length)
  ⟨0,l,rfl,rfl,rfl,rfl,by omega,Sn.refl _ _,r,rfl,λx=>by simp⟩
 rintro k d f j m a ⟨i,n,e0,C,rfl,rfl,D,s1,o,c,p⟩;subst d f;unfold Al;by_cases hi:i<ws.length;rotate_left
 ·refine jG (H a n s1 o c λx=>?_);rw[p x,JE (by omega)]
 refine hV ?_;obtain⟨l2,o2,_,t,z⟩:=(g.since s1).nat (iH hi) .i64;have E:=s _ (Cj hi);obtain⟨l3,G,I,e1,e2,_,q,A⟩:=o.AD 0 rfl (k:=ws[i]) (y:=true) (u:=V.bool true) (by omega) rfl rfl rfl;refine ec t (ec z (ec e1 ?_));rw[e2,ej];simp only[ot]at q;refine gq ⟨k-1,by omega,i+1,n.set ws[i] true,rfl,rfl,rfl,rfl,by omega,s1.trans A,q,by simp[c],λx=>?_⟩;rw[rL (by omega),KM hi,p x];simp only[and_true,AI,Ig];constructor
 ·rintro(a|⟨_,a|a⟩)
  ·exact .inr (.inr a)
  ·exact .inl a
  ·exact .inr (.inl a)
 ·rintro(a|a|a)
  ·by_cases e:x=ws[i]
   ·exact .inl e
   ·exact .inr ⟨e,.inl a⟩
  ·by_cases e:x=ws[i]
   ·exact .inl e
   ·exact .inr ⟨e,.inr a⟩
  ·exact .inl a
variable{lv:Nat}{iT fR:V}
structure Lk (F:Nat->Prop) (h:Hp) (cs:List Pc) (lv:Nat) (u:U) (vv vb vs iT fR:V):Prop where
 H:er F h cs
 c:∃(i:Nat),cs[i]? =some (ey lv kU [.I u.func,.I u.pc,vv,vb,vs,iT,fR])
 u:Af F h u vv vb vs
theorem Lk.cons(C:Lk F h cs lv u vv vb vs iT fR)(s:Sn F h F' h'){p:Pc} (a:er F' h' (p::cs)):Lk F' h' (p::cs) lv u vv vb vs iT fR:=
 ⟨a,let⟨i,hc⟩:=C.c;⟨i+1,hc⟩,C.u.since s⟩
theorem Lk.ld(C:Lk F h cs lv u vv vb vs iT fR)(o:Nat){y:V}(a:[.I u.func,.I u.pc,vv,vb,vs,iT,fR][o]? =some y):en (.ptr lv o) h=some y:=
 let⟨i,hc⟩:=C.c;C.H.ld i hc a
theorem Aa(C:Lk F h cs lv u vv vb vs iT fR){v:Nat}(c:v<u.ee.length)(H:Q (.bool (gi u v)) h):cP CS hY [.ptr lv 0,.I v] h Q:=by
 refine CV rfl rfl ?_;unfold wu;obtain⟨x,b⟩:∃x,u.ee[v]? =some x:=⟨_,iH c⟩
 obtain ⟨l,o,w,_,d,_,_,e⟩:=C.u.val b;refine ec (fj _ _) (ec (fH _ _ _) (oF (C.ld 2 rfl) (ec d (oF e.op (ec (ig _ _ _ _) ?_)))));have f:mh (.bool ((x.op:Int) == 21)) (oB (some (V.I x.op)) λa=>ef .eql 3 a (V.I 1))=some (.bool (gi u v)):=by
  simp only[eQ,ig,iM];unfold gi;rw[b];show _=some (V.bool (iC x.op));unfold iC;rw[show((x.op:Int) == 21)=(x.op == 21) from G6 _ 21,show((x.op:Int) == 1)=(x.op == 1) from G6 _ 1,Bool.or_comm]
 exact ec f H
theorem Lm{l:List Bool}{v:V}(C:Lk F h (fo eB fx l v::cs) lv u vv vb vs iT fR){s:Nat}{fs:List Fm}(p:u.eh[s]? =some fs)(N:fs.length<=30/\∀f∈fs,f.locals.length<=40/\f.stack.length<=60)(o:∀x∈jh fs,x<l.length)
  (H:∀h' d,Sn F h F h'->er F h' (fo eB fx d v::cs)->d.length=l.length->(∀x,On d x↔On l x\/x∈jh fs)->Q (.tuple []) h'):cP CS kO [.ptr lv 0,v,.I s] h Q:=by
 refine B7 rfl rfl ?_;unfold vr;obtain⟨B,o1,f,_,O,_,P,D⟩:=C.u.st p;refine ec (fj _ _) (ec (fH _ _ _) (oF (C.ld 4 rfl) (ec O (oF P (ec D.len ?_)))))
 refine zY (λk q e i m h'=>∃(j:Nat) (d:List Bool),q=v/\e=f/\i = .I fs.length/\m = .I j/\j+k=fs.length/\Sn F h F h'/\er F h' (fo eB fx d v::cs)/\d.length=l.length/\∀x,On d x↔On l x\/x∈jh (fs.take j)) ?_ (k:=fs.length)
  ⟨0,l,rfl,rfl,rfl,rfl,by omega,Sn.refl _ _,C.H,rfl,λx=>by simp[jh]⟩
 rintro k q e i m b ⟨j,B,e1,R,rfl,rfl,Y,s1,E,g,G⟩;subst q e;unfold rH;by_cases hj:j<fs.length;rotate_left
 ·refine jG (H b B s1 E g λx=>?_);rw[G x,JE (by omega)]
 refine hV ?_;obtain⟨l3,Z,a,c,_,S,T,I,J⟩:=(D.since s1).Zm (iH hj);obtain⟨f1,f2⟩:=N.2 _ (Cj hj);have n:∀w,w∈fs[j].locals\/w∈fs[j].stack->w∈jh fs:=λw o=>by
  unfold jh;rw[List.mem_flatMap];exact⟨fs[j],Cj hj,AI.2 o⟩
 refine ec S (ec T ?_);refine jy E rfl rfl (by simp only[WH,fc,I.one,J.one];rfl) λh2 K r=>?_;refine oF (K.ld 0 rfl rfl) ?_;refine Kt K.sw (I.since r) (by omega) (λx t=>by rw[g];exact o x (n x (.inl t))) λh3 l3 L M y z=>?_;refine oF (M.ld 1 rfl rfl) ?_;refine Kt M ((J.since r).since L) (by omega) (λx t=>by rw[y,g];exact o x (n x (.inr t))) λh4 l4 U W X A=>?_;refine gq ⟨k-1,by omega,j+1,l4,rfl,rfl,rfl,rfl,by omega,((s1.trans r).trans L).trans U,W.vL,by omega,λx=>?_⟩;rw[A x,z x,G x,KM hj];unfold jh;simp only[Xx,Wg,List.flatMap_nil,IN,AI];constructor
 ·rintro(((b|b)|b)|b)
  ·exact .inl b
  ·exact .inr (.inl b)
  ·exact .inr (.inr (.inl b))
  ·exact .inr (.inr (.inr b))
 ·rintro(b|b|b|b)
  ·exact .inl (.inl (.inl b))
  ·exact .inl (.inl (.inr b))
  ·exact .inl (.inr b)
  ·exact .inr b
theorem LG(g:Good u){l:List Bool}{v:V}(C:Lk F h (fo eB fx l v::cs) lv u vv vb vs iT fR)(M:l.length=u.ee.length){a:Nat}(T:a<u.ee.length)
  (H:∀F' h' z,Sn F h F' h'->er F' h' (fo eB fx z v::cs)->z.length=l.length->(∀x,On z x↔(On l x/\x≠a)\/x∈sY u a)->Q (.tuple []) h'):cP CS kK [.ptr lv 0,v,.I a] h Q:=by
 refine Cv rfl rfl ?_;unfold vB;obtain⟨x,o⟩:∃x,u.ee[a]? =some x:=⟨_,iH T⟩
 obtain ⟨l1,o1,w,_,U,W,N,_⟩:=C.u.val o;refine ec (fj _ _) (ec (fH _ _ _) (oF (C.ld 2 rfl) (ec U (ec W ?_))));refine jy C.H rfl rfl (by simp only[qT,fc,N.one];rfl) λs X O=>?_;obtain⟨l3,o3,P,e1,e2,_,A,R⟩:=X.AD 1 rfl (k:=a) (y:=false) (u:=V.bool false) (by omega) rfl rfl rfl;refine ec e1 ?_;rw[e2,ej];simp only[AT,ot]at A;refine ec (A.CI 0 rfl rfl) ?_;have d:=Fp g o;refine Kl A ((N.since O).since R) (λh=>by have:=d h;omega) λY S vu Z H4 r4=>?_;have p:∀y∈mD x,y<u.ee.length:=λy q=>rV (g.use a x o y q);refine Kt H4.sw r4 (by have:=AR d;omega) (λy q=>by simp only[TF];rw[M];exact p y q) λB l5 s5 t m r=>?_;have n:=((O.trans R).trans Z).trans s5;have l6:en (.ptr h.next (0+0)) B=some (.I x.op):=t.ld 1 rfl rfl;refine oF l6 (ec (ig _ _ _ _) ?_);have eL:mh (.bool ((x.op:Int) == 22)) (oB (fI 0 (.ptr h.next 0)) λD=>oB (en D B) λE=>ef .eql 3 E (V.I 23))=some (.bool (leaves x.op)):=by
  simp only[fH,eQ,l6,ig,iM];unfold leaves;rw[show((x.op:Int) == 22)=(x.op == 22) from G6 _ 22,show((x.op:Int) == 23)=(x.op == 23) from G6 _ 23]
 refine ec eL (je ?_);have j:∀y,On (l.set a false) y↔On l y/\y≠a:=λy=>by
  rw[rL (by omega)];constructor
  ·rintro(⟨_,h⟩|⟨b,s⟩)
   ·cases h
   ·exact⟨s,b⟩
  ·exact λh=> .inr ⟨h.2,h.1⟩
 cases hq:leaves x.op with
 | false=>
   refine gB (by simp) (H _ _ l5 n t.vL (by rw[m,TF]) λy=>?_);rw[r y,j y];unfold sY;rw[o]
   simp[hq]
 | true =>
   refine gU rfl ?_;refine oF (t.ld 1 rfl rfl) ?_;have G:=g.leave a x o hq;obtain⟨fs,f⟩:∃fs,u.eh[x.state]? =some fs:=⟨_,iH G⟩
   have C5:Lk Y B (fo eB fx l5 v::ey h.next 46 (qT x w)::cs) lv u vv vb vs iT fR:=by
     obtain⟨i,hc⟩:=C.c
     cases i with
     | zero=>
       exfalso;have b:=C.H.ok 0 _ rfl;have s:=C.H.ok 0 _ hc;have e:=Option.some.inj hc;have I:Loc v lv:=by
         have:=congrArg Pc.me e;have P:=congrFun this lv;show(fo eB fx l v).me lv;rw[P];rfl
       have hg:=s.1;have S:jF eB fx F h l v:=b;have:=(S.tu I).1;rw[DL hg]at this
       exact absurd this (by decide)
     |succ i=>exact⟨t,⟨i+2,hc⟩,C.u.since n⟩
   refine Lm C5 f (Kv g _ _ f) (λy q=>by rw[m,TF,M];exact FO g f y q) λh6 J s6 H6 K L=>?_;refine H _ _ J (n.trans s6) H6.vL (by rw[K,m,TF]) λy=>?_;rw[L y,r y,j y];unfold sY nG;rw[o];simp only[hq,if_true,f,AI];constructor
   ·rintro((b|b)|b)
    ·exact .inl b
    ·exact .inr (.inl b)
    ·exact .inr (.inr b)
   ·rintro(b|b|b)
    ·exact .inl (.inl b)
    ·exact .inl (.inr b)
    ·exact .inr b
end
open Un Dm
def iz(ins:List (List Bool))(b w:Nat):Prop:=∃r,ins[b]? =some r/\On r w
theorem KA{In H:Nat->Nat->Prop}{t w:Nat}:∀{ts:List Nat}{P:Nat->Prop},ln In H (ts++[t]) P w↔(ln In H ts P w\/In t w)/\¬H t w
 |[],_=>Iff.rfl
 |t'::ts,P=>KA (ts:=ts)
def SG(u:U)(b:Nat)(T:Bk)(m q x:Nat):Prop:=∃(a c v:Nat)(xv:Vl),(a<m\/(a=m/\c<q))/\T.ft[a]? =some b/\T.ee[c]? =some v/\u.ee[v]? =some xv/\xv.op=21/\xv.args[a]? =some x
theorem RV(u:U)(b:Nat)(T:Bk)(x:Nat):¬SG u b T 0 0 x:=λ⟨_,_,_,_,h,_⟩=>by omega
theorem Ly{u:U}{b:Nat}{T:Bk}{m q v x:Nat}{xv:Vl}(k:T.ee[q]? =some v)(l:u.ee[v]? =some xv):SG u b T m (q+1) x↔SG u b T m q x\/(T.ft[m]? =some b/\xv.op=21/\xv.args[m]? =some x):=by
 constructor
 ·rintro⟨f,g,h,a,i,c,d,j,n,o⟩;by_cases e:f=m/\g=q
  ·obtain⟨rfl,rfl⟩:=e;rw[k]at d;cases d;rw[l]at j;cases j;exact .inr ⟨c,n,o⟩
  ·exact .inl ⟨f,g,h,a,by omega,c,d,j,n,o⟩
 ·rintro(⟨f,g,h,a,i,c⟩|⟨i,c,d⟩)
  ·exact⟨f,g,h,a,by omega,c⟩
  ·exact⟨m,q,v,xv,.inr ⟨rfl,by omega⟩,i,k,l,c,d⟩
theorem QH{u:U}{b:Nat}{T:Bk}{m x:Nat}:SG u b T m T.ee.length x↔SG u b T (m+1) 0 x:=by
 constructor
 ·rintro⟨c,d,e,a,h,f⟩;exact⟨c,d,e,a,by omega,f⟩
 ·rintro⟨c,d,e,a,h,f,g,i⟩;have:=(jw.1 g).1;exact⟨c,d,e,a,by omega,f,g,i⟩
def Wu(u:U)(b:Nat)(B:Bk)(n x:Nat):Prop:=∃(a t:Nat)(T:Bk),a<n/\B.next[a]? =some t/\u.blocks[t]? =some T/\SG u b T T.ft.length 0 x
theorem Ms{u:U}{b:Nat}{B T:Bk}{n t x:Nat}(g:B.next[n]? =some t)(i:u.blocks[t]? =some T):Wu u b B (n+1) x↔Wu u b B n x\/SG u b T T.ft.length 0 x:=by
 constructor
 ·rintro⟨c,t',d,k,a,f,j⟩;by_cases e:c=n
  ·subst e;rw[g]at a;cases a;rw[i]at f;cases f;exact .inr j
  ·exact .inl ⟨c,t',d,by omega,a,f,j⟩
 ·rintro(⟨c,t',d,k,a⟩|h)
  ·exact⟨c,t',d,by omega,a⟩
  ·exact⟨n,t,T,by omega,g,i,h⟩
theorem KW{u:U}{b:Nat}{B:Bk}(i:u.blocks[b]? =some B){x:Nat}:Wu u b B B.next.length x↔DJ u b x:=by
 have a:next u b=B.next:=by unfold next;rw[i]
 unfold DJ;rw[a];constructor
 ·rintro⟨n,t,T,h,j,d,m,q,v,xv,_,e,f,c,g,k⟩;exact⟨t,xu j,T,v,xv,m,d,xu f,c,g,e,k⟩
 ·rintro⟨t,h,T,v,xv,m,d,l,e,f,c,g⟩;obtain⟨n,a⟩:=mM.1 h;obtain⟨q,hq⟩:=mM.1 l;exact⟨n,t,T,(jw.1 a).1,a,d,m,q,v,xv,.inl (jw.1 c).1,c,hq,e,f,g⟩
section
variable{F F':Nat->Prop}{h h':Hp}{cs:List Pc}{Q:fm}{u:U}{vv vb vs:V}{lv:Nat}{iT fR:V}{ins:List (List Bool)}
theorem VI(g:Good u)(C:Lk F h cs lv u vv vb vs iT fR){ii:Nat}(a8:cs[ii]? =some (fo (eL eB) fL ins iT))(bu:ins.length=u.blocks.length)(a9:∀r∈ins,r.length=u.ee.length){b:Nat}{B:Bk}(S:u.blocks[b]? =some B)
  (H:∀F' h' l v,Sn F h F' h'->er F' h' (fo eB fx l v::cs)->l.length=u.ee.length->(∀w,On l w↔Cw u (gw u) (iz ins) b w)->Q v h'):cP CS nm [.ptr lv 0,.I b] h Q:=by
 refine Ed rfl rfl ?_;unfold xN;have nv:=g.nv;have nb:=g.nb;have ao:next u b=B.next:=by unfold next;rw[S]
 have bw:=ES g S;obtain⟨ic,hc⟩:=C.c;have hu:=C.u;refine ec (fj _ _) (ec (fH _ _ _) (oF (C.ld 2 rfl) (ec hu.v.len ?_)));rw[kM (z:=V.bool false) rfl (by decide) (by omega),fJ];obtain⟨H1,s1⟩:=C.H.make (E:=eB) (ty:=fx) (y:=false) (u:=V.bool false) u.ee.length rfl rfl;generalize V.slice h.next 0 u.ee.length=lw at*;generalize h.new (.cells fx 1 true false (List.replicate u.ee.length (V.bool false)))=d at*;have aq:=hu.since s1;have C1:Lk F d _ lv u vv vb vs iT fR:=⟨H1,⟨ic+1,hc⟩,aq⟩
 obtain⟨l2,o2,bv,W,bp,_,i1,i2,iv,iN,ip,_⟩:=aq.wh S;refine ec (fj _ _) (ec (fH _ _ _) (oF (C1.ld 3 rfl) (ec i1 (ec i2 ?_))));refine jy H1 rfl rfl (by simp only[lC,fc,iv.one,iN.one,ip.one];rfl) λf H2 s2=>?_;have ba:=s1.trans s2;have bb:=aq.since s2;have aE:=iN.since s2;generalize d.next=bx at*;refine oF (H2.ld 0 rfl rfl) (ec aE.len ?_)
 refine Bv (λk G I i J o K L h'=>∃(n:Nat) (l:List Bool),G = .ptr lv 0/\I = .I b/\i=lw/\J = .ptr bx 0/\o=W/\K = .I B.next.length/\L = .I n/\n+k=B.next.length/\Sn F f F h'/\l.length=u.ee.length/\
  er F h' (ey bx 44 (lC B bv W bp)::fo eB fx l lw::cs)/\∀w,On l w↔ln (iz ins) (gw u) (B.next.take n) (λ_=>False) w) ?_ (k:=B.next.length)
  ⟨0,_,rfl,rfl,rfl,rfl,rfl,rfl,rfl,by omega,Sn.refl _ _,by simp,H2,λw=>by
   simp only[Wi,ln,iff_false];unfold On;intro h;have:=SA (xu h);cases this⟩
 rintro k G I i J o K L Y ⟨n,l,rfl,rfl,e5,rfl,aF,rfl,rfl,hk,s3,hl,H3,ho⟩;subst i o;unfold uD;have aa:=bb.since s3;have ar:=aE.since s3;by_cases hn:n<B.next.length
 ·refine hV ?_;have ab:B.next[n]<u.blocks.length:=g.nx b _ (by rw[ao];exact Cj hn);obtain⟨t,ht⟩:∃t,B.next[n]? =some t:=⟨_,iH hn⟩
  obtain⟨_,ai⟩:=jw.1 ht;rw[ai]at ab;obtain⟨T,hT⟩:∃T,u.blocks[t]? =some T:=⟨_,iH ab⟩
  obtain⟨r,hr⟩:∃r,ins[t]? =some r:=⟨_,iH (show t<ins.length by omega)⟩
  have bz:=a9 r (xu hr);have C3:Lk F Y _ lv u vv vb vs iT fR:=⟨H3,⟨ic+2,hc⟩,aa⟩
  obtain⟨l4,o4,_,j1,j2⟩:=ar.nat ht .i64;obtain⟨l5,o5,tv,tn,tp,_,k1,k2,kv,kN,kp,_⟩:=aa.wh hT;refine ec j1 (ec j2 (ec (fj _ _) (ec (fH _ _ _) (oF (C3.ld 3 rfl) (ec k1 (ec k2 ?_))))));refine jy H3 rfl rfl (by simp only[lC,fc,kv.one,kN.one,kp.one];rfl) λD Z s4=>?_;have C4:Lk F D _ lv u vv vb vs iT fR:=⟨Z,⟨ic+3,hc⟩,aa.since s4⟩
  obtain⟨l6,o6,w6,m1,m2,m3⟩:=Z.OG (ii+3) a8 hr;generalize Y.next=tx at*;refine oN (C4.ld 5 rfl) (ec m1 (ec m2 (ec m3.len ?_)))
  refine Be (λk G I i J x9 o K L au aG aH h'=>∃(j:Nat) (l':List Bool),G = .ptr lv 0/\I = .I b/\i=lw/\J = .ptr bx 0/\x9 = .ptr tx 0/\o=W/\K = .I B.next.length/\L = .I n/\au=w6/\aG = .I r.length/\aH = .I j/\j+k=r.length/\
   Sn F D F h'/\l'.length=u.ee.length/\er F h' (ey tx 44 (lC T tv tn tp)::ey bx 44 (lC B bv W bp)::fo eB fx l' lw::cs)/\∀w,On l' w↔On l w\/(w<j/\On r w)) ?_ (k:=r.length)
   ⟨0,l,rfl,rfl,rfl,rfl,rfl,rfl,rfl,rfl,rfl,rfl,rfl,by omega,Sn.refl _ _,hl,Z,λw=>by simp⟩
  rintro k2 G I i J x9 o K L au aG aH X ⟨j,l',rfl,rfl,e5,rfl,rfl,aF,rfl,rfl,bA,rfl,rfl,bc,U,aI,H5,aw⟩;subst i o au;unfold tV;by_cases hj:j<r.length
  ·refine hV ?_;obtain⟨y,hy⟩:∃y,r[j]? =some y:=⟨_,iH hj⟩
   obtain⟨z,hz⟩:∃z,l'[j]? =some z:=⟨_,iH (show j<l'.length by omega)⟩
   obtain⟨l7,o7,_,p1,p2⟩:=(m3.since U).bool hy .i64;obtain⟨l8,o8,q1,q2⟩:=H5.Gf 2 rfl hz .i64;obtain⟨l9,o9,h9,e1,e2,_,H9,s9⟩:=H5.AD 2 rfl (k:=j) (y:=(z ||y)) (u:=V.bool (z ||y)) (show j<l'.length by omega) rfl rfl rfl;refine ec p1 (ec p2 (ec q1 (ec q2 (ec (iM _ _) (ec e1 ?_)))));rw[e2,ej];simp only[AT,ot]at H9;refine gq ⟨k2-1,by omega,j+1,l'.set j (z ||y),rfl,rfl,rfl,rfl,rfl,rfl,rfl,rfl,rfl,rfl,rfl,by omega,U.trans s9,by simp[aI],H9,λw=>?_⟩;rw[rL (by omega),aw w];by_cases e:w=j
   ·subst e;have bd:On l w↔z=true:=by
     have d:=aw w;unfold On at d⊢;rw[hz]at d;constructor
     ·intro f;have:=d.2 (.inl f);simpa using this
     ·intro f;subst f;rcases d.1 rfl with Y|Y
      ·exact Y
      ·omega
    have be:On r w↔y=true:=by unfold On;rw[hy];simp
    rw[bd,be];simp
   ·constructor
    ·rintro(⟨d,_⟩|⟨_,d|⟨d,f⟩⟩)
     ·exact absurd d e
     ·exact .inl d
     ·exact .inr ⟨by omega,f⟩
    ·rintro(d|⟨d,f⟩)
     ·exact .inr ⟨e,.inl d⟩
     ·exact .inr ⟨e,.inr ⟨by omega,f⟩⟩
  refine jG ?_;have aj:=(kv.since s4).since U;refine oF (H5.ld 0 rfl rfl) (ec aj.len ?_);have bf:=mP g hT;have ax:=(aa.since s4).since U;have ac:∀w,On l' w↔On l w\/On r w:=λw=>by
   rw[aw w];constructor
   ·exact λh=>h.imp id λh=>h.2
   ·exact λh=>h.imp id λh=>⟨by have:=Ny h;omega,h⟩
  refine Bs (λk G I i J o K L ay aJ aK h'=>∃(m:Nat) (l2:List Bool),G = .ptr lv 0/\I = .I b/\i=lw/\J = .ptr bx 0/\o=W/\K = .I B.next.length/\L = .I n/\ay=tv/\aJ = .I T.ee.length/\aK = .I m/\m+k=T.ee.length/\
   Sn F X F h'/\l2.length=u.ee.length/\er F h' (ey tx 44 (lC T tv tn tp)::ey bx 44 (lC B bv W bp)::fo eB fx l2 lw::cs)/\∀w,On l2 w↔On l' w/\¬(w∈T.ee.take m/\gi u w=true)) ?_ (k:=T.ee.length)
   ⟨0,l',rfl,rfl,rfl,rfl,rfl,rfl,rfl,rfl,rfl,rfl,by omega,Sn.refl _ _,aI,H5,λw=>by simp⟩
  rintro k3 G I i J o K L ay aJ aK h6 ⟨m,l2,rfl,rfl,e5,rfl,aF,rfl,rfl,bC,rfl,rfl,bg,s6,M,H6,az⟩;subst i o ay;unfold uE;by_cases hm:m<T.ee.length;rotate_left
  ·refine jG ?_;refine gq ⟨k-1,by omega,n+1,l2,rfl,rfl,rfl,rfl,rfl,rfl,rfl,by omega,((s3.trans s4).trans U).trans s6,M,H6.tail,λw=>?_⟩;have ak:B.next.take (n+1)=B.next.take n++[t]:=by rw[KM hn,ai]
   rw[ak,KA,az w,ac w,ho w,JE (show T.ee.length<=m by omega)];have e1:iz ins t w↔On r w:=⟨λ⟨r',d,f⟩=>by rw[hr]at d;cases d;exact f,λh=>⟨r,hr,h⟩⟩
   have e2:gw u t w↔w∈T.ee/\gi u w=true:=by unfold gw ik;rw[hT]
   rw[e1,e2]
  refine hV ?_;obtain⟨v,hv⟩:∃v,T.ee[m]? =some v:=⟨_,iH hm⟩
  have aA:v<u.ee.length:=g.vR v t m ⟨T,hT,hv⟩;have ak:T.ee.take (m+1)=T.ee.take m++[v]:=by
   obtain⟨d,rfl⟩:=jw.1 hv;exact KM d
  obtain⟨l7,o7,_,p1,p2⟩:=(aj.since s6).nat hv .i64;have C6:Lk F h6 _ lv u vv vb vs iT fR:=⟨H6,⟨ic+3,hc⟩,ax.since s6⟩
  refine ec p1 (ec p2 (Aa C6 aA (je ?_)))
  cases hq:gi u v with
  | true=>
    refine gU rfl ?_;obtain⟨l8,o8,h8,e1,e2,_,H8,s8⟩:=H6.AD 2 rfl (k:=v) (y:=false) (u:=V.bool false) (show v<l2.length by omega) rfl rfl rfl;refine ec e1 ?_;rw[e2,ej];simp only[AT,ot]at H8;refine sU ?_;unfold mR;refine iA (m:=1) (by omega) (by omega) ⟨k3-1,by omega,m+1,l2.set v false,rfl,rfl,rfl,rfl,rfl,rfl,rfl,rfl,rfl,rfl,by omega,s6.trans s8,by simp[M],H8,λw=>?_⟩;rw[rL (by omega),az w,ak];simp only[AI,Ig];constructor
    ·rintro(⟨_,d⟩|⟨d,f,Y⟩)
     ·cases d
     ·exact⟨f,λD=>Y ⟨D.1.resolve_right d,D.2⟩⟩
    ·rintro⟨d,f⟩
     refine .inr ⟨λe=>f ⟨.inr e,e▸hq⟩,d,λD=>f ⟨.inl D.1,D.2⟩⟩
  | false=>
    refine gB (by simp) ?_;refine sU ?_;unfold mR;refine iA (m:=1) (by omega) (by omega) ⟨k3-1,by omega,m+1,l2,rfl,rfl,rfl,rfl,rfl,rfl,rfl,rfl,rfl,rfl,by omega,s6,M,H6,λw=>?_⟩;rw[az w,ak];simp only[AI,Ig];constructor
    ·rintro⟨d,f⟩
     refine⟨d,λD=>?_⟩;rcases D.1 with X|rfl
     ·exact f ⟨X,D.2⟩
     ·rw[hq]at D;exact absurd D.2 (by simp)
    ·rintro⟨d,f⟩
     exact⟨d,λD=>f ⟨.inl D.1,D.2⟩⟩
 refine jG ?_;have bi:∀w,On l w↔ln (iz ins) (gw u) (next u b) (λ_=>False) w:=λw=>by rw[ho w,ao,JE (by omega)]
 refine oF (H3.ld 0 rfl rfl) (ec ar.len ?_)
 refine AW (λk G I i J s N O h'=>∃(n:Nat) (l2:List Bool),G = .ptr lv 0/\I = .I b/\i=lw/\J = .ptr bx 0/\s=W/\N = .I B.next.length/\O = .I n/\n+k=B.next.length/\Sn F Y F h'/\l2.length=u.ee.length/\
  er F h' (ey bx 44 (lC B bv W bp)::fo eB fx l2 lw::cs)/\∀w,On l2 w↔On l w\/Wu u b B n w) ?_ (k:=B.next.length)
  ⟨0,l,rfl,rfl,rfl,rfl,rfl,rfl,rfl,by omega,Sn.refl _ _,hl,H3,λw=>by
    constructor
    ·exact .inl
    ·rintro(d|⟨n',_,_,d,_⟩)
     ·exact d
     ·omega⟩
 clear hk k;rintro k G I i J s N O D ⟨n2,l2,rfl,rfl,e5,rfl,aL,rfl,rfl,hk,s4,M,Z,aM⟩;subst i s;unfold uk;have al:=aa.since s4;have bj:=ar.since s4;by_cases hn3:n2<B.next.length
 ·refine hV ?_;have ab:B.next[n2]<u.blocks.length:=g.nx b _ (by rw[ao];exact Cj hn3);obtain⟨t,ht⟩:∃t,B.next[n2]? =some t:=⟨_,iH hn3⟩
  obtain⟨_,ai⟩:=jw.1 ht;rw[ai]at ab;obtain⟨T,hT⟩:∃T,u.blocks[t]? =some T:=⟨_,iH ab⟩
  have C4:Lk F D _ lv u vv vb vs iT fR:=⟨Z,⟨ic+2,hc⟩,al⟩
  obtain⟨l5,o5,_,j1,j2⟩:=bj.nat ht .i64;obtain⟨l6,o6,tv,tn,tp,_,k1,k2,kv,kN,kp,_⟩:=al.wh hT;refine ec j1 (ec j2 (ec (fj _ _) (ec (fH _ _ _) (oF (C4.ld 3 rfl) (ec k1 (ec k2 ?_))))));refine jy Z rfl rfl (by simp only[lC,fc,kv.one,kN.one,kp.one];rfl) λX H5 U=>?_;generalize D.next=tx at*;have aN:=kp.since U;have aj:=kv.since U;have ax:=al.since U;have bD:=He g hT;have bf:=mP g hT;refine oF (H5.ld 0 rfl rfl) (ec aN.len ?_)
  refine Bo (λk G I i J ae s N O A P R h'=>∃(m:Nat) (l3:List Bool),G = .ptr lv 0/\I = .I b/\i=lw/\J = .ptr bx 0/\ae = .ptr tx 0/\s=W/\N = .I B.next.length/\O = .I n2/\A=tp/\P = .I T.ft.length/\R = .I m/\m+k=T.ft.length/\
   Sn F X F h'/\l3.length=u.ee.length/\er F h' (ey tx 44 (lC T tv tn tp)::ey bx 44 (lC B bv W bp)::fo eB fx l3 lw::cs)/\∀w,On l3 w↔On l2 w\/SG u b T m 0 w) ?_ (k:=T.ft.length)
   ⟨0,l2,rfl,rfl,rfl,rfl,rfl,rfl,rfl,rfl,rfl,rfl,rfl,by omega,Sn.refl _ _,M,H5,λw=>by
     constructor
     ·exact .inl
     ·rintro(d|d)
      ·exact d
      ·exact absurd d (RV _ _ _ _)⟩
  rintro k2 G I i J ae s N O A P R h6 ⟨m,l3,rfl,rfl,e5,rfl,rfl,aL,rfl,rfl,aO,rfl,rfl,bc,s6,aP,H6,aQ⟩;subst i s A;unfold uK;by_cases hm:m<T.ft.length;rotate_left
  ·refine jG ?_;obtain rfl:m=T.ft.length:=by omega
   refine gq ⟨k-1,by omega,n2+1,l3,rfl,rfl,rfl,rfl,rfl,rfl,rfl,by omega,(s4.trans U).trans s6,aP,H6.tail,λw=>?_⟩;rw[aQ w,aM w,Ms ht hT,or_assoc]
  refine hV ?_;obtain⟨p,hp⟩:∃p,T.ft[m]? =some p:=⟨_,iH hm⟩
  obtain⟨l7,o7,_,p1,p2⟩:=(aN.since s6).nat hp .i64;have aR:=aj.since s6;refine ec p1 (ec p2 (oF (H6.ld 0 rfl rfl) (ec aR.len ?_)))
  refine A5 (λk G I i J ae aS aT s N O A P R ag am an h'=>∃(q:Nat) (l4:List Bool),G = .ptr lv 0/\I = .I b/\i=lw/\J = .ptr bx 0/\ae = .ptr tx 0/\aS = .I m/\aT = .I p/\s=W/\N = .I B.next.length/\O = .I n2/\A=tp/\P = .I T.ft.length/\R = .I m/\
   ag=tv/\am = .I T.ee.length/\an = .I q/\q+k=T.ee.length/\
   Sn F h6 F h'/\l4.length=u.ee.length/\er F h' (ey tx 44 (lC T tv tn tp)::ey bx 44 (lC B bv W bp)::fo eB fx l4 lw::cs)/\∀w,On l4 w↔On l2 w\/SG u b T m q w) ?_ (k:=T.ee.length)
   ⟨0,l3,rfl,rfl,rfl,rfl,rfl,rfl,rfl,rfl,rfl,rfl,rfl,rfl,rfl,rfl,rfl,rfl,by omega,Sn.refl _ _,aP,H6,aQ⟩
  rintro k3 G I i J ae aS aT s N O A P R ag am an h7 ⟨q,l4,rfl,rfl,e5,rfl,rfl,rfl,rfl,aL,rfl,rfl,aO,rfl,rfl,bt,rfl,rfl,bg,s7,aB,H7,aC⟩;subst i s A ag;unfold uM;by_cases hq:q<T.ee.length;rotate_left
  ·refine jG ?_;obtain rfl:q=T.ee.length:=by omega
   refine gq ⟨k2-1,by omega,m+1,l4,rfl,rfl,rfl,rfl,rfl,rfl,rfl,rfl,rfl,rfl,rfl,by omega,s6.trans s7,aB,H7,λw=>?_⟩;rw[aC w,QH]
  refine hV ?_;obtain⟨v,hv⟩:∃v,T.ee[q]? =some v:=⟨_,iH hq⟩
  have aU:At u v t q:=⟨T,hT,hv⟩
  have aA:v<u.ee.length:=g.vR v t q aU;obtain⟨x,hx⟩:∃x,u.ee[v]? =some x:=⟨_,iH aA⟩
  have aV:=(ax.since s6).since s7;have C7:Lk F h7 _ lv u vv vb vs iT fR:=⟨H7,⟨ic+3,hc⟩,aV⟩
  obtain ⟨l8,o8,_,q1,q2⟩:=(aR.since s7).nat hv .i64;obtain⟨l9,o9,xw,_,r1,_,bm,ra⟩:=aV.val hx;refine ec q1 (ec q2 (ec (ig _ _ _ _) ?_));have eA:jq (.bool ((p:Int) == (b:Int))) (oB (some (V.ptr lv 0)) λaW=>oB (iu aW) λaX=>oB (fI 0 aX) λaY=>oB (fI 2 aY) λaZ=>oB (en aZ h7) λa0=>oB (some (V.I v)) λa1=>oB (gy 6 a0 a1) λa2=>oB (fI 0 a2) λa3=>oB (en a3 h7) λa4=>ef .eql 3 a4 (V.I 21))=some (.bool (p == b&&x.op == 21)):=by
   have l2:en (.ptr lv (0+0+2)) h7=some vv:=C7.ld 2 rfl;have l3:en (.ptr l9 (o9+0)) h7=some (.I x.op):=ra.op;simp only[eQ,fj,fH,l2,r1,l3,ig,ir];rw[G6,show((x.op:Int) == 21)=(x.op == 21) from G6 _ 21]
  refine ec eA (je ?_)
  cases hcd:(p == b&&x.op == 21)with
  | true =>
    refine gU rfl ?_;rw[qU,Jg,Jg]at hcd;obtain⟨rfl,aD⟩:=hcd;have bE:=(g.T3 _ _ _ _ _ aU hx aD hT).2;obtain⟨a,ha⟩:∃a,x.args[m]? =some a:=⟨_,iH (show m<x.args.length by omega)⟩
    have bG:a<u.ee.length:=by
      refine rV (g.use v x hx a ?_);unfold mD;rw[if_pos aD];exact xu ha
    obtain⟨MK,bH,_,t1,t2⟩:=bm.nat ha .i64;obtain⟨Ir,bI,bJ,e1,e2,_,a5,bo⟩:=H7.AD 2 rfl (k:=a) (y:=true) (u:=V.bool true) (show a<l4.length by omega) rfl rfl rfl;refine ec (fj _ _) (ec (fH _ _ _) (oF (C7.ld 2 rfl) (ec r1 (oF ra.args (ec t1 (ec t2 (ec e1 ?_)))))));rw[e2,ej];simp only[AT,ot]at a5;refine sV ?_;unfold mV;refine iA (m:=1) (by omega) (by omega) ⟨k3-1,by omega,q+1,l4.set a true,rfl,rfl,rfl,rfl,rfl,rfl,rfl,rfl,rfl,rfl,rfl,rfl,rfl,rfl,rfl,rfl,by omega,s7.trans bo,by simp[aB],a5,λw=>?_⟩;rw[rL (by omega),aC w,Ly hv hx];constructor
    ·rintro(⟨rfl,_⟩|⟨_,d|d⟩)
     ·exact .inr (.inr ⟨hp,aD,ha⟩)
     ·exact .inl d
     ·exact .inr (.inl d)
    ·intro d
     by_cases e:w=a
     ·exact .inl ⟨e,rfl⟩
     ·refine .inr ⟨e,?_⟩
      rcases d with f|f|⟨_,_,f⟩
      ·exact .inl f
      ·exact .inr f
      ·rw[ha]at f
       exact absurd (Option.some.inj f).symm e
  | false=>
    refine gB (by simp) ?_;refine sV ?_;unfold mV;refine iA (m:=1) (by omega) (by omega) ⟨k3-1,by omega,q+1,l4,rfl,rfl,rfl,rfl,rfl,rfl,rfl,rfl,rfl,rfl,rfl,rfl,rfl,rfl,rfl,rfl,by omega,s7,aB,H7,λw=>?_⟩;rw[aC w,Ly hv hx];constructor
    ·exact λh=>h.imp id .inl
    ·rintro (d|d|⟨d,f,_⟩)
     ·exact .inl d
     ·exact .inr d
     ·rw[hp]at d
      obtain rfl:=Option.some.inj d;rw[f]at hcd;simp at hcd
 refine jG ?_;obtain rfl:n2=B.next.length:=by omega
 have a6:∀w,On l2 w↔ln (iz ins) (gw u) (next u b) (λ_=>False) w\/DJ u b w:=λw=>by rw[aM w,bi w,KW S]
 have bq:=(ba.trans s3).trans s4;refine oF (Z.ld 0 rfl rfl) ?_;have fin:∀(X:Hp) (l5:List Bool),Sn F D F X->er F X (fo eB fx l5 lw::cs)->l5.length=u.ee.length->(∀w,On l5 w↔On l2 w\/EH u b w)->kh CS Q lw X:=by
  intro X l5 U H5 a7 ac;refine A8 ?_;unfold uJ;refine H F X l5 lw (bq.trans U) H5 a7 λw=>?_;rw[ac w,a6 w];unfold Cw;rw[or_assoc]
 by_cases c2:B.fin=2
 ·refine hH (gU (by omega) ?_);have bK:B.cond<u.ee.length:=by
   rcases g.fin b B S with⟨d,_⟩|⟨_,_,d⟩|⟨d,_⟩
   ·omega
   ·exact rV d
   ·omega
  obtain⟨l8,o8,h8,e1,e2,_,H8,s8⟩:=Z.AD 1 rfl (k:=B.cond) (y:=true) (u:=V.bool true) (show B.cond<l2.length by omega) rfl rfl rfl;refine oF (Z.ld 0 rfl rfl) (ec e1 ?_);rw[e2,ej];simp only[AT,ot]at H8;refine fin h8 _ s8 H8.tail (by simp[M]) λw=>?_;rw[rL (by omega)];unfold EH;constructor
  ·rintro(⟨rfl,_⟩|⟨_,d⟩)
   ·exact .inr ⟨B,S,.inl ⟨c2,rfl⟩⟩
   ·exact .inl d
  ·rintro(d|⟨B',d,f|f⟩)
   ·by_cases e:w=B.cond
    ·exact .inl ⟨e,rfl⟩
    ·exact .inr ⟨e,d⟩
   ·rw[S]at d;cases d;exact .inl ⟨f.2,rfl⟩
   ·rw[S]at d;cases d;omega
 refine hH (gB (by omega) ?_);by_cases c3:B.fin=3
 ·refine hH (gU (by omega) ?_);have br:B.state<u.eh.length:=by
   rcases g.fin b B S with⟨d,_⟩|⟨d,_⟩|⟨_,_,d⟩
   ·omega
   ·omega
   ·exact d
  obtain⟨fs,ah⟩:∃fs,u.eh[B.state]? =some fs:=⟨_,iH br⟩
  refine oF (Z.ld 0 rfl rfl) ?_;have C4:Lk F D (fo eB fx l2 lw::ey bx 44 (lC B bv W bp)::cs) lv u vv vb vs iT fR:=⟨Z.sw,⟨ic+2,hc⟩,al⟩
  refine Lm C4 ah (Kv g _ _ ah) (λy hy=>by rw[M];exact FO g ah y hy) λX l5 U H5 a7 ac=>?_;refine fin X l5 U H5.vL (by omega) λw=>?_;rw[ac w];unfold EH;constructor
  ·rintro(d|d)
   ·exact .inl d
   ·exact .inr ⟨B,S,.inr ⟨c3,by unfold nG;rw[ah];exact d⟩⟩
  ·rintro(d|⟨B',d,f|f⟩)
   ·exact .inl d
   ·rw[S]at d;cases d;omega
   ·rw[S]at d;cases d;have Y:=f.2;unfold nG at Y;rw[ah]at Y;exact .inr Y
 ·refine hH (gB (by omega) ?_);refine fin D l2 (Sn.refl _ _) Z.tail M λw=>?_;constructor
  ·exact .inl
  ·rintro(d|⟨B',d,f|f⟩)
   ·exact d
   ·rw[S]at d;cases d;omega
   ·rw[S]at d;cases d;omega
end
