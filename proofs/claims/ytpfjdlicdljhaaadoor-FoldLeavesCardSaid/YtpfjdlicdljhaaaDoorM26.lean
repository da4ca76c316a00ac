/- Parts. -/
import Derived.Test.YtpfjdlicdljhaaaDoorM25
set_option maxHeartbeats 4000000
namespace Go.Proofs.YtpfjdlicdljhaaaDoor.Hx
open Un Dm
theorem UG(h:Hp):∀op:Nat,1<=op->op<=23->∃s,s≠[]/\CS.K B2 [.I (op:Nat)] h=some (.str s)
 |0,h,_=>by omega
 |1,_,_=>⟨_,by decide,rfl⟩
 |2,_,_=>⟨_,by decide,rfl⟩
 |3,_,_=>⟨_,by decide,rfl⟩
 |4,_,_=>⟨_,by decide,rfl⟩
 |5,_,_=>⟨_,by decide,rfl⟩
 |6,_,_=>⟨_,by decide,rfl⟩
 |7,_,_=>⟨_,by decide,rfl⟩
 |8,_,_=>⟨_,by decide,rfl⟩
 |9,_,_=>⟨_,by decide,rfl⟩
 |10,_,_=>⟨_,by decide,rfl⟩
 |11,_,_=>⟨_,by decide,rfl⟩
 |12,_,_=>⟨_,by decide,rfl⟩
 |13,_,_=>⟨_,by decide,rfl⟩
 |14,_,_=>⟨_,by decide,rfl⟩
 |15,_,_=>⟨_,by decide,rfl⟩
 |16,_,_=>⟨_,by decide,rfl⟩
 |17,_,_=>⟨_,by decide,rfl⟩
 |18,_,_=>⟨_,by decide,rfl⟩
 |19,_,_=>⟨_,by decide,rfl⟩
 |20,_,_=>⟨_,by decide,rfl⟩
 |21,_,_=>⟨_,by decide,rfl⟩
 |22,_,_=>⟨_,by decide,rfl⟩
 |23,_,_=>⟨_,by decide,rfl⟩
 |n+24,_,h=>by omega
theorem za9{h:Hp}{X:Option (V×Hp)}{K:fo}(H:oP X λy=>K y.1 y.2):oP (fQ true (.bool true)) λb=>ghP b h X K:=H
section
variable{F F':Nat->Prop}{h h':Hp}{cs:List Pc}{Q:fo}{u:U}{vv vb vs:V}{lc:Nat}{bl pl D0:V}
theorem X7{op:Nat}(a:1<=op)(b:op<=23)(H:∀s,s≠[]->Q (.str s) h):cP CS B2 [.I op] h Q:=by
 obtain⟨fn,c,d,e⟩:=OZ;obtain⟨s,hs,hk⟩:=UG h op a b;exact cP.known d e hk rfl rfl (H s hs)
theorem PC{b:Nat}{x:Vl}{w v:V}{ys:List Vl}(z:ei F h (er b gi (lT x w)::cs))(p:iA eV F h ys v)(K:ys.length<1000000)(A:∀y∈ys,¬(y.op=1/\y.n=x.n))
  (H:∀h',Sn F h F h'->ei F h' (er b gi (lT x w)::cs)->Q (.bool false) h'):cP CS gM [v,.func jc [] [.ptr b 0]] h Q:=by
 refine p7 rfl rfl ?_;unfold kO;refine sq rfl rfl ?_;unfold lO;refine ed p.len ?_
 refine pZ (λk q r s t h'=>∃i:Nat,q=v/\r = .func jc [] [.ptr b 0]/\s = .I ys.length/\t = .I (i:Nat)/\i+k=ys.length/\Sn F h F h'/\ei F h' (er b gi (lT x w)::cs)) ?_ (k:=ys.length)
  ⟨0,rfl,rfl,rfl,rfl,by omega,Sn.refl _ _,z⟩
 rintro k q r s t h' ⟨i,rfl,rfl,rfl,rfl,hk,g,u⟩;unfold kN;by_cases hi:i<ys.length;rotate_left
 ·refine ir ?_;refine ed (po _ _ _ _) ?_;exact H h' g u
 refine gv ?_;obtain⟨l,o,c,_,B,C,⟨a,rfl,D⟩,_⟩:=(p.since g).ix hi .i64;refine ed B (ed C ?_);show cP CS jc [.agg (lT ys[i] a),.ptr b 0] h' _;refine EO rfl rfl ?_;unfold xG;refine nQ u (by simp only[lT,ev,D.one];rfl) λd f E=>?_;refine ed (by rfl) (ed (f.ld 0 rfl rfl) (ed (by rfl) ?_));have e:jz (.bool (((ys[i].op:Nat):Int) == 1)) (oB (fH 3 (.ptr h'.next 0)) λG=>oB (ey G d) λI=>oB (fH 3 (.ptr b 0)) λj=>oB (ey j d) λm=>eo .eql 2 I m)=some (.bool false):=by
  have l1:ey (.ptr h'.next (0+3)) d=some (.I ys[i].n):=f.ld 0 rfl rfl;have l2:ey (.ptr b (0+3)) d=some (.I x.n):=f.ld 1 rfl rfl;simp only[fJ,fe,l1,l2,ik,iD];congr 2;rw[wBh];intro J;simp only[ve,IB]at J;exact by grind
 refine ed e (iI (fT (by simp) ?_));exact fM ⟨k-1,by omega,i+1,rfl,rfl,rfl,rfl,by omega,g.trans E,f.tail⟩
theorem V2{a:Nat}{x:Vl}{w:V}{a0:V}(b:a0 = .ptr lc 0)(C:Ck F h (er a gi (lT x w)::cs) lc u vv vb vs bl pl D0)(H:leaves x.op=true->x.state<u.eh.length)(hc:a≠lc)(I:ey (.ptr a 5) h=some (.I x.state)){K:fo}(E:K (.bool false) h) :
  oP (fQ true (.bool (leaves x.op))) λc=>
  oP (gV c (fH 5 (.ptr a 0))) λd=>
  oP (fQ true (.bool (leaves x.op))) λe=>
  oP (gV e (ey d h)) λf=>
  oP (fQ true (.bool (leaves x.op))) λg=>
  oP (gV g (some a0)) λi=>
  oP (fQ true (.bool (leaves x.op))) λj=>
  oP (gV j (ij i)) λk=>
  oP (fQ true (.bool (leaves x.op))) λl=>
  oP (gV l (fH 0 k)) λm=>
  oP (fQ true (.bool (leaves x.op))) λn=>
  oP (gV n (fH 4 m)) λo=>
  oP (fQ true (.bool (leaves x.op))) λp=>
  oP (gV p (ey o h)) λq=>
  oP (fQ true (.bool (leaves x.op))) λr=>
  oP (gV r (fy q)) λt=>
  oP (fQ true (.bool (leaves x.op))) λv=>
  oP (gC v (some (jN,[f,t]))) λy=>xd CS y h λz G=>
  (h.next<=G.next/\
  oP (fQ true (.bool (leaves x.op))) λA=>
  oP (gV A (oD .not z)) λB=>
  oP (om (.bool false) (l0 (.bool (leaves x.op)) B (V.bool false))) λD=>K D G):=by
 subst b
 cases hq:leaves x.op with
 | true=>
   have:=H hq;refine gj (ed (by rfl) (gj (ed I (gj (ed rfl (gj (ed (fI _ _) (gj (ed (by rfl) (gj (ed (by rfl) (gj (ed (C.ld 4 rfl) (gj (ed C.u.s.len (AQ ?_))))))))))))))));refine yS ⟨iZ _,gj ?_⟩;rw[PY this]
   exact ed rfl (ed rfl E)
 |false=>exact gO (gO (gO (gO (gO (gO (gO (gO (DX ⟨iZ _,gO (ed rfl E)⟩))))))))
theorem zas(g:Good u)(C:Ck F h cs lc u vv vb vs bl pl D0){xs ys:List Int}(z:iA eZ F h xs bl)(S:Std u u.blocks.length 0 xs ys){i:Nat}(hi:i<u.ef.length)(P:lc<h.next)
  (H:∀F' h',Sn F h F' h'->ei F' h' cs->Q (.bool true) h'):cP CS jH [.ptr lc 0,.I i] h Q:=by
 refine GR rfl rfl ?_;unfold uH;have nv:=g.nv;have nb:=g.nb;obtain⟨x,d⟩:∃x,u.ef[i]? =some x:=by simp_all
 obtain ⟨b,k,f⟩:=g.CE i hi trivial;obtain⟨B,r,hk⟩:=id f;have o:=g.op i x d;have p:=g.use i x d;have A:B.ez.length<=700:=by
  rw[g.ez b B r,<-ny];have:=nw g (i:=u.blocks.length) (j:=0) (b:=b) (iZ _) (by omega);omega
 have D:x.op=21\/x.op=20->x.args.length<=700:=by
  rintro(E|E)
  ·rw[(g.By _ _ _ _ _ f d E r).2];exact A
  ·rw[g.putAt i x d E];omega
 obtain⟨l1,o1,w,_,R,T,N,_⟩:=C.u.val d;refine ed (fI _ _) (ed (by rfl) (ed (by rfl) (ed (C.ld 2 rfl) (ed R (ed T ?_)))));refine iH C.H rfl rfl (by simp only[lT,ev,N.one];rfl) λh2 t G=>?_;have C2:=C.cons G t;have l:=N.since G;refine ed (by rfl) (ed (t.ld 0 rfl rfl) ?_);refine X7 o.1 o.2 λs hs=>⟨iZ _,?_⟩
 refine ed (by rfl) ?_;rw[show(s == [])=false from UT.2 hs];refine fK (ed rfl (fK (ed (t.C9 0 rfl rfl) (xM ?_))));refine Ny t l (by omega) λF3 O v q a r3=>⟨q.next,?_⟩
 have C3:=C2.since q a;have c:=G.trans q;refine xM (G0 C3 r3 (by grind[GY]) p ⟨iZ _,ed rfl ?_⟩);refine fK (ed (by rfl) (fK (ed (a.ld 0 rfl rfl) (xM ?_))));refine Ik ⟨iZ _,fK (ed rfl ?_)⟩;refine V2 rfl C3 (g.leave i x d) (by omega) (a.ld 0 rfl rfl) ?_;refine iI (fT (by simp) ?_);refine ed (by rfl) (ed (a.ld 0 rfl rfl) ?_);by_cases I:x.op=20
 ·refine fP (gw (by omega) ?_);refine ed (by rfl) (ed (a.ld 0 rfl rfl) (ed (l.since q).len (gQ ?_)));rw[g.putAt i x d I];exact H _ _ c a.tail
 refine fP (fT (by omega) ?_);by_cases J:x.op=21
 ·refine fP (gw (by omega) ?_);obtain⟨lb,ob,_,b1,b2⟩:=(z.since c).int ((S.yes i b k f (by grind)).1) .i64;obtain⟨l7,o7,bv,bn,bp,_,K,_,_,_,ip,U⟩:=C3.u.mh r;refine ed (by rfl) (ed (a.ld 0 rfl rfl) (ed (l.since q).len ?_));refine ed (fI _ _) (ed (by rfl) (ed (by rfl) (ed (C3.ld 3 rfl) (ed (fI _ _) (ed (by rfl) (ed (C3.ld 5 rfl) (ed b1 (ed b2 (ed K ?_)))))))));refine ed (by rfl) (ed U.ez (ed ip.len (gQ ?_)));rw[(g.By _ _ _ _ _ f d J r).2,PY rfl];exact H _ _ c a.tail
 refine fP (fT (by omega) ?_);by_cases W:x.op=1
 ·refine fP (gw (by omega) ?_);obtain⟨X,Y,p3⟩:=g.param i x d W;refine ed (by rfl) (ed (a.ld 0 rfl rfl) (ed (by rfl) ?_));have e:jz (.bool (decide ((0:Int)<=x.n))) (oB (fH 3 (.ptr h.next 0)) λL=>oB (ey L O) λM=>eo .lss 2 M (V.I 40))=some (.bool true):=by
   have l1:ey (.ptr h.next (0+3)) O=some (.I x.n):=a.ld 0 rfl rfl;simp only[fJ,fe,l1,mj,iD];simp[X,Y]
  refine ed e ?_;obtain⟨vc,Z,r1⟩:=C3.u.v.cut (lo:=none) (hi:=some (.I i)) (m:=0) (n:=i) rfl (by rfl) (LK _) (by omega);rw[Xk]at r1;refine gj (ed rfl (gj (ed (fI _ _) (gj (ed (by rfl) (gj (ed (by rfl) (gj (ed (C3.ld 2 rfl) (gj (ed rfl (gj (ed Z (gj (ed rfl (AQ ?_))))))))))))))));refine PC a r1 (by grind) (λy hy hh=>?_) λh4 s4 H4=>ed rfl (H _ _ (c.trans s4) H4.tail)
  grind[mm,jq,KN,wBW]
 ·refine fP (fT (by omega) ?_);exact H _ _ c a.tail
theorem XF(g:Good u)(C:Ck F h cs lc u vv vb vs bl pl D0){i:Nat}{B:Bk}(p:u.blocks[i]? =some B)(H:∀F' h',Sn F h F' h'->ei F' h' cs->Q (.bool true) h'):cP CS lR [.ptr lc 0,.I i] h Q:=by
 refine Gp rfl rfl ?_;unfold yJ;have c:=g.fin i B p;have nv:=g.nv;have nb:=g.nb;obtain⟨l7,M,N,y,O,_,z,A,D,d,ip,_⟩:=C.u.mh p;refine ed (fI _ _) (ed (by rfl) (ed (by rfl) (ed (C.ld 3 rfl) (ed z (ed A ?_)))));refine iH C.H rfl rfl (by simp only[lB,ev,D.one,d.one,ip.one];rfl) λG a e=>?_;have C2:=C.cons e a;have d:=d.since e;refine ed (by rfl) (ed (a.ld 0 rfl rfl) (ed d.len ?_));have I:B.next.length<=2:=by
  rcases c with⟨_,h⟩|⟨_,h,_⟩|⟨_,h,_⟩
  ·omega
  ·omega
  ·simp_all
 refine CR (λk q r f l m h'=>∃j:Nat,q = .ptr lc 0/\r = .ptr h.next 0/\f=y/\l = .I B.next.length/\m = .I (j:Nat)/\j+k=B.next.length/\h' = G) ?_ (k:=B.next.length) (by simp_all);rintro k q r f l m h' ⟨j,rfl,rfl,rfl,rfl,rfl,hk,rfl⟩;unfold vh;by_cases hj:j<B.next.length
 ·refine gv ?_;obtain⟨l8,P,_,J,K⟩:=d.nat (ig hj) .i64;have L:B.next[j]<u.blocks.length:=g.nx i _ (by grind[next,BG]);refine ed J (ed K (ed (fI _ _) (ed (by rfl) (ed (by rfl) (ed (C2.ld 3 rfl) (ed C2.u.b.len ?_))))));refine yS (ue (gw (by simp_all) ?_));exact fM ⟨k-1,by omega,j+1,rfl,rfl,rfl,rfl,rfl,by omega,rfl⟩
 refine ir ?_;refine ed (by rfl) (ed (a.ld 0 rfl rfl) ?_);rcases c with⟨t,o⟩|⟨t,o,v⟩|⟨t,o,v⟩
 ·refine fP (gw (by omega) ?_);refine ed (by rfl) (ed (a.ld 0 rfl rfl) (ed d.len (gQ ?_)));rw[o];exact H _ _ e a.tail
 ·refine fP (fT (by omega) ?_);refine fP (gw (by omega) ?_);refine ed (by rfl) (ed (a.ld 0 rfl rfl) (ed d.len (gQ ?_)));rw[o,show decide (((2:Nat):Int)=2)=true from rfl];refine gj (ed rfl (gj (ed (by rfl) (gj (ed (a.ld 0 rfl rfl) (za9 ?_))))));rw[pY,fe];obtain⟨w,x,r3⟩:=a.U1 (E:=eN) (xs:=[B.cond]) (n:=1) en rfl (tP F h' [B.cond]) false;have C3:=C2.since x w;refine ed rfl (AQ ?_);refine G0 C3 r3 (by simp) (by simp_all) (ed rfl ?_);exact H _ _ (e.trans x) w.tail
 ·refine fP (fT (by omega) ?_);refine fP (fT (by omega) ?_);refine fP (gw (by omega) ?_);refine ed (by rfl) (ed (a.ld 0 rfl rfl) (ed d.len (gQ ?_)));rw[o,show decide ((([]:List Nat).length:Int)=0)=true from rfl];refine gj (ed (by rfl) (gj (ed (a.ld 0 rfl rfl) (gj (ed rfl (gj (ed (fI _ _) (gj (ed (by rfl) (gj (ed (by rfl) (gj (ed (C2.ld 4 rfl) (gj (ed C2.u.s.len (AQ ?_))))))))))))))));refine yS ⟨iZ _,?_⟩;rw[PY v];exact ed rfl (H _ _ e a.tail)
theorem zam(g:Good u)(C:Ck F h cs lc u vv vb vs bl pl D0){i:Nat}{B:Bk}(I:u.blocks[i]? =some B)(H:∀F' h',Sn F h F' h'->ei F' h' cs->Q (.bool true) h'):cP CS my [.ptr lc 0,.I i] h Q:=by
 refine Hc rfl rfl ?_;unfold zY;have nv:=g.nv;have nb:=g.nb;have r2:∀p d,Sn F h p d->ei p d cs->mr CS Q (.ptr lc 0) (.I i) d:=by
  intro p d q J;have C1:=C.since q J;refine DI ?_;unfold wK;obtain⟨l7,o7,bv,bn,bp,_,i1,i2,iv,r,ip,_⟩:=C1.u.mh I;refine ed (fI _ _) (ed (by rfl) (ed (by rfl) (ed (C1.ld 3 rfl) (ed i1 (ed i2 ?_)))));refine iH C1.H rfl rfl (by simp only[lB,ev,iv.one,r.one,ip.one];rfl) λK L M=>?_;have C2:=C1.cons M L;have r:=r.since M;refine ed (by rfl) (ed (L.ld 0 rfl rfl) (ed r.len ?_));have ak:B.next.length<=2:=by
   rcases g.fin i B I with⟨_,h⟩|⟨_,h,_⟩|⟨_,h,_⟩
   ·omega
   ·omega
   ·simp_all
  refine Dk (λk s x7 t w y h'=>∃j:Nat,s = .ptr lc 0/\x7 = .ptr d.next 0/\t=bn/\w = .I B.next.length/\y = .I (j:Nat)/\j+k=B.next.length/\h' = K) ?_ (k:=B.next.length) (by simp_all);rintro k s x7 t w y h' ⟨j,rfl,rfl,rfl,rfl,rfl,hk,rfl⟩;unfold wJ;by_cases hj:j<B.next.length;rotate_left
  ·exact ir (H _ _ (q.trans M) L.tail)
  refine gv ?_;obtain⟨l8,o8,_,N,O⟩:=r.nat (ig hj) .i64;have z:B.next[j]∈next u i:=by unfold next;rw[I];exact BG hj
  have al:B.next[j]<u.blocks.length:=g.nx i _ z;obtain⟨n,a⟩:∃n,u.blocks[B.next[j]]? =some n:=by simp_all
  obtain ⟨l9,o9,P,R,A,_,l,_,_,_,f,m⟩:=C2.u.mh a;refine ed N (ed O (ed (by rfl) (ed (L.ld 0 rfl rfl) (ed (by rfl) ?_))));have e:jz (.bool (((B.fin:Nat):Int) == 2)) (oB (some (V.ptr lc 0)) λS=>oB (ij S) λT=>oB (fH 0 T) λU=>oB (fH 3 U) λW=>oB (ey W h') λX=>oB (some (V.I (B.next[j]:Nat))) λY=>oB (gI 6 X Y) λZ=>oB (fH 4 Z) λaa=>oB (ey aa h') λab=>oB (fy ab) λac=>eo .neq 3 ac (V.I 1))=some (.bool false):=by
   have l1:ey (.ptr lc (0+0+3)) h' = some vb:=C2.ld 3 rfl;have l2:ey (.ptr l9 (o9+4)) h' = some A:=m.ez;simp only[fe,fI,fJ,l1,l,l2,f.len,yx,iD];congr 2;rw[wBh];intro o;simp only[ve,IB,bne_iff_ne]at o;have d:=g.ET i B I (by omega) (B.next[j]) (BG hj);rw[g.ez _ _ a,d]at o;exact o.2 rfl
  refine ed e (iI (fT (by simp) ?_));exact fM ⟨k-1,by omega,j+1,rfl,rfl,rfl,rfl,rfl,by omega,rfl⟩
 by_cases hi:i=0;rotate_left
 ·exact fP (fT (by omega) (r2 F h (Sn.refl _ _) C.H))
 refine fP (gw (by omega) ?_);have lA:gy 5 (.ptr lc 0) h=some (.agg (uC u vv vb vs)):=by
  obtain⟨j,ty,hc⟩:=C.c;rw[Bf (C.H.get j hc),BY (by simp)];rfl
 refine ed (fI _ _) (ed (by rfl) (ed lA ?_));refine Qd g C.H C.u λp d v q J r1=>?_;have lr:=r1.len;rw[BW,QV]at lr;refine ed lr ?_;have C1:=C.since q J;refine DG (λk s x1 D E G h'=>∃j:Nat,s = .ptr lc 0/\x1 = .I i/\D=v/\E = .I u.blocks.length/\G = .I (j:Nat)/\j+k=u.blocks.length/\h' = d) ?_ (k:=u.blocks.length) (by simp_all);rintro k s x1 D E G h' ⟨j,rfl,rfl,rfl,rfl,rfl,hk,rfl⟩;unfold wM;by_cases hj:j<u.blocks.length;rotate_left
 ·exact ir (r2 p h' q J)
 refine gv ?_;obtain⟨n,a⟩:∃n,u.blocks[j]? =some n:=by simp_all
 obtain ⟨l8,o8,w8,_,N,O,j3⟩:=r1.list (i:=j) (x:=Un.ahead u j) (by simp[hj]) .i64;obtain⟨l9,o9,P,R,A,_,l,_,_,_,f,m⟩:=C1.u.mh a;have am:(Un.ahead u j).length<=700:=by
  rw[<-ny];have:=nw g (i:=u.blocks.length) (j:=0) (b:=j) (iZ _) (by omega);omega
 rw [g.ez j n a]at f;refine ed N (ed O (ed (fI _ _) (ed (by rfl) (ed (by rfl) (ed (C1.ld 3 rfl) (ed l (ed (by rfl) (ed m.ez ?_))))))));refine U4 j3 f (by omega) (ed rfl ?_);have e:om (.bool (!true)) (oB (some (V.I j)) λae=>oB (eo .eql 3 ae (V.I 0)) λag=>oB (some ag) λah=>jz ah (oB (some w8) λai=>oB (fy ai) λaj=>eo .gtr 3 aj (V.I 0)))=some (.bool false):=by
  simp only[wB3,ng,fe,ik,j3.len,pg,iD];congr 2;rw[wBh];intro o;simp only[ve,IB,CH]at o;obtain⟨d,K⟩:=o;obtain rfl:j=0:=by omega
  rw[g.Aw]at K;simp at K
 refine ed e (iI (fT (by simp) ?_));exact fM ⟨k-1,by omega,j+1,rfl,rfl,rfl,rfl,rfl,by omega,rfl⟩
end
open Un Dm
section
variable{F F':Nat->Prop}{h h':Hp}{cs:List Pc}{Q:fo}{u:U}{vv vb vs:V}
theorem ei.stF{α:Type}{E:pG α}{ty:Nat}{xs:List α}{v:V}(H:ei F h cs)(i:Nat)(hi:cs[i]? =some (eJ E ty xs v)){k j:Nat}{y:α}{a:V}(hk:k<xs.length)(c:j<E.sz)(d:a.one=true)(e:∀w,E.rel F h xs[k] w->E.rel F h y (w.set j a)) :
  ∃l h',gI E.sz v (.I k)=some (.ptr l (k*E.sz))/\gG 1 (.ptr l (k*E.sz+j)) a h=some (.val .undef h')/\h.next<=h'.next/\ei F h' (cs.set i (eJ E ty (xs.set k y) v))/\Sn F h F h':=by
 obtain⟨t,h',n,f,g,m,b⟩:=(H.row i hi).store (k:=j) (y:=y) (u:=a) hk c d e;exact⟨t,h',f,g,b.next,H.AS hi b m λ_ h=> .inl h⟩
theorem ei.Jv{ty:Nat}{xs:List Nat}{v:V}(H:ei F h cs)(i:Nat)(hi:cs[i]? =some (eJ eN ty xs v)){k x:Nat}(a:xs[k]? =some x)(kd:IntKind):∃l o,gI 1 v (.int kd (k:Nat))=some (.ptr l o)/\ey (.ptr l o) h=some (.I x):=by
 obtain⟨l,o,_,b,c⟩:=(H.row i hi).read.nat a kd
 grind
theorem ei.Qx{ty:Nat}{xs:List Int}{v:V}(H:ei F h cs)(i:Nat)(hi:cs[i]? =some (eJ eZ ty xs v)){k:Nat}{x:Int}(a:xs[k]? =some x)(kd:IntKind):∃l o,gI 1 v (.int kd (k:Nat))=some (.ptr l o)/\ey (.ptr l o) h=some (.I x):=by
 obtain⟨l,o,_,b,c⟩:=(H.row i hi).read.int a kd
 grind
theorem ei.IX{ty:Nat}{xs:List Bool}{v:V}(H:ei F h cs)(i:Nat)(hi:cs[i]? =some (eJ eB ty xs v)){k:Nat}{x:Bool}(a:xs[k]? =some x)(kd:IntKind):∃l o,gI 1 v (.int kd (k:Nat))=some (.ptr l o)/\ey (.ptr l o) h=some (.bool x):=by
 obtain⟨l,o,_,b,c⟩:=(H.row i hi).read.bool a kd
 grind
theorem QM{ty:Nat}{xs:List Nat}{v:V}(f:ei F h (eJ eN ty xs v::cs))(h0:0<xs.length)(O:xs.length<1000000)(H:∀h',Sn F h F h'->ei F h' (eJ eN ty xs.reverse v::cs)->Q (.tuple []) h') :
  cP CS kj [v] h Q:=by
 refine AE rfl rfl ?_;unfold rW;refine ed (f.len 0 rfl) (xY (by omega) h0 ?_)
 refine yc (λk g j l h'=>∃(i:Nat) (ys:List Nat),g=v/\j = .I i/\l = .I ((xs.length-1-i:Nat):Int)/\i+k=xs.length/\2*i<=xs.length/\ys.length=xs.length/\
  (∀p,p<xs.length->ys[p]? =if p<i\/xs.length-i<=p then xs[xs.length-1-p]? else xs[p]?)/\Sn F h F h'/\ei F h' (eJ eN ty ys v::cs)) ?_ (k:=xs.length)
  ⟨0,xs,rfl,rfl,by rw[Nat.sub_zero],by omega,by omega,rfl,by grind,Sn.refl _ _,f⟩
 rintro k g j l P ⟨i,ys,rfl,rfl,rfl,hk,w,x,m,z,c⟩;unfold oE;by_cases hij:i<xs.length-1-i
 ·refine gv ?_;obtain⟨a,n⟩:∃a,ys[i]? =some a:=by grind
  obtain⟨b,o⟩:∃b,ys[xs.length-1-i]? =some b:=by grind
  obtain⟨l1,R,A,B⟩:=c.Jv 0 rfl o .i64;obtain⟨l2,S,C,D⟩:=c.Jv 0 rfl n .i64;refine ed A (ed B (ed C (ed D ?_)));obtain⟨l3,T,U,q,r,E,s,G⟩:=c.Ir 0 rfl (k:=i) (y:=b) (u:=V.I b) (by omega) rfl rfl rfl;refine ed q ?_;rw[r,ej];simp only[jx]at s;obtain⟨l4,W,X,I,J,K,t,L⟩:=s.Ir 0 rfl (k:=xs.length-1-i) (y:=a) (u:=V.I a) (by simp;omega) rfl rfl rfl;refine⟨E,ed I ?_⟩;rw[J,ej];simp only[jx]at t;refine⟨K,fM (xY (by omega) (by omega) ?_)⟩;refine⟨k-1,by omega,i+1,(ys.set i b).set (xs.length-1-i) a,rfl,rfl,by rfl,by omega,by omega,by simp[x],λp d=>?_,(z.trans G).trans L,t⟩;have M:=m i (by omega);rw[if_neg (by omega),n]at M;have N:=m (xs.length-1-i) (by omega);rw[if_neg (by omega),o]at N;by_cases q:p=xs.length-1-i
  ·grind
  ·rw[HO (by omega)];by_cases r:p=i
   ·simp_all
   grind
 ·refine ir ?_;have e:ys=xs.reverse:=by
   refine YI λp=>?_;by_cases d:p<xs.length
   ·grind
   ·simp_all
  simp_all
theorem WC{α:Type}(s:List α)(x y:α):(s++[x]).set s.length y=s++[y]:=by simp
structure zap (u:U):Prop where
 Jz:1<=u.blocks.length
 nb:u.blocks.length<=300
 nx:∀(b:Nat),∀t∈next u b,t<u.blocks.length
 two:∀(b:Nat) (B:Bk),u.blocks[b]? =some B->B.next.length<=2
theorem Io(g:Good u):zap u:=⟨g.Jz,g.nb,g.nx,λb B a=>by
 rcases g.fin b B a with⟨_,h⟩|⟨_,h,_⟩|⟨_,h,_⟩
 ·omega
 ·omega
 simp_all⟩
theorem iA.mh{bs:List Bk}(a:iA eK F h bs vb){i:Nat}{x:Bk}(c:bs[i]? =some x) :
  ∃l o v n p,F l/\gI 6 vb (.I i)=some (.ptr l o)/\gy 6 (.ptr l o) h=some (.agg (lB x v n p))/\iA eN F h x.ef v/\iA eN F h x.next n/\iA eN F h x.ez p/\zb4 h l o x v n p:=by
 obtain⟨hi,rfl⟩:=jq.1 c;obtain⟨l,o,w,d,e,f,⟨v,n,p,rfl,g,j,k⟩,b⟩:=a.ix hi .i64;exact⟨l,o,v,n,p,d,e,f,g,j,k,⟨b 0 _ rfl,b 1 _ rfl,b 2 _ rfl,b 3 _ rfl,b 4 _ rfl,b 5 _ rfl⟩⟩
theorem Iu(g:zap u)(H0:ei F h cs)(ho:fW (uC u vv vb vs)=true)(W:iA eK F h u.blocks vb)(H:∀h' v seen post,Sn F h F h'->ei F h' (eJ eN en post.reverse v::cs)->E3 u.blocks.length (next u) seen post []->Q v h') :
  cP CS nz [.agg (uC u vv vb vs)] h Q:=by
 refine PI rfl rfl ?_;unfold IY;have nb:=g.nb;have Jz:=g.Jz;have o:∀b,b<u.blocks.length->∀t∈next u b,t<u.blocks.length:=λb _ t r=>g.nx b t r
 refine nQ H0 ho λA H1 s1=>?_;refine ed (by rfl) (ed (H1.ld 0 rfl rfl) (ed (W.since s1).len ?_));rw[jY (z:=V.bool false) rfl (by decide) (by omega),fw];obtain⟨H2,s2⟩:=H1.make (E:=eB) (ty:=jb) (y:=false) (u:=V.bool false) u.blocks.length rfl rfl;have C:=s1.trans s2;refine ed (by rfl) (ed (H2.ld 1 rfl rfl) (ed (W.since C).len ?_));refine E7 (gw (by omega) ?_);refine ed (by rfl) ?_;generalize A.new (.cells jb 1 true false (List.replicate u.blocks.length (V.bool false)))=X at*;have D:∀a b:Nat,ji uL 2 1 (V.agg [(V.I 0),(V.I 0)]) [(0,V.agg [.I (a:Nat),.I (b:Nat)])]=some (.cells uL 2 true false [.I (a:Nat),.I (b:Nat)],λl=> .slice l 0 1):=λa b=>by rfl
 have Y:ji uL 2 1 (V.agg [(V.I 0),(V.I 0)]) [(0,V.agg [.I 0,.I 0])]=some (.cells uL 2 true false [.I ((0:Nat):Int),.I ((0:Nat):Int)],λl=> .slice l 0 1):=D 0 0;rw[Y,fw]
 have H3:ei F X (eJ eW uL [] .ee::eJ eN en [] .ee::eJ eB jb (List.replicate u.blocks.length false) (.slice A.next 0 u.blocks.length)::er h.next 29 (uC u vv vb vs)::cs):=
  (H2.add (p:=eJ eN en [] .ee) .nil λ_ h=>h).add (p:=eJ eW uL [] .ee) .nil λ_ h=>h
 obtain⟨v4,h4,e4,n4,H4,s4⟩:=H3.yI 0 rfl (kE:=16) (EI:=uL) (y:=(0,0)) (w:=[.I ((0:Nat):Int),.I ((0:Nat):Int)]) (ro:=false) rfl (by decide) (by decide) (by simp);have Z:eQ 105 2 16 V.ee (.slice X.next 0 1) (X.new (.cells uL 2 true false [.I ((0:Nat):Int),.I ((0:Nat):Int)]))=some (.val v4 h4):=e4;rw[Z,ej];simp only[jx,Qk]at H4;obtain⟨l5,o5,h5,e5,e6,n5,H5,s5⟩:=H4.Ir 2 rfl (k:=0) (y:=true) (u:=V.bool true) (by simp;omega) rfl rfl rfl;refine ed e5 ?_;rw[e6,ej];simp only[mZ,jx]at H5;refine KJ ?_;unfold Dr;have aa:=(C.trans s4).trans s5
 refine Kh (λk x1 x3 x4 I h'=>∃(seen:List Bool) (post:List Nat) (stack:List (Nat×Nat)),x1 = .ptr h.next 0/\x3 = .slice A.next 0 u.blocks.length/\k=mu u.blocks.length (next u) seen stack/\E3 u.blocks.length (next u) seen post stack/\Sn F h F h'/\
  ei F h' (eJ eW uL stack I::eJ eN en post x4::eJ eB jb seen (.slice A.next 0 u.blocks.length)::er h.next 29 (uC u vv vb vs)::cs)) ?_ (k:=mu u.blocks.length (next u) ((List.replicate u.blocks.length false).set 0 true) [(0,0)])
  ⟨_,[],[(0,0)],rfl,rfl,rfl,E3.start (by omega) o,aa,H5⟩
 rintro k x1 x3 x4 I h6 ⟨seen,post,stack,rfl,rfl,hk,G,J,d⟩;unfold Dl;have ab:=G.nodup;have aA:post.length<=u.blocks.length:=jD _ _ (by grind) G.pre;have ac:stack.length<=u.blocks.length:=by
  have:=jD u.blocks.length _ (wBt.1 ab).2.1 λx hx=>by
   obtain⟨y,hy,rfl⟩:=Jy.1 hx;exact(G.range y hy).1
  simpa using this
 refine ed (d.len 0 rfl) ?_;rcases lP stack with rfl|⟨s,⟨b,i⟩,rfl⟩
 ·refine E7 (fT (by simp) ?_);have ae:0<post.length:=by
   obtain⟨p,hp⟩:=G.last rfl;rw[hp];simp
  refine QM d.tail ae (by omega) λh7 S e=>?_;exact H _ _ seen post (J.trans S) e.GP.GP G
 have ay:s.length+1<=u.blocks.length:=by simpa using ac
 refine E7 (gw (by simp_all) ?_);have hlen:(s++[(b,i)]).length-1=s.length:=by simp
 have f:s.length<(s++[(b,i)]).length:=by simp
 have K:(s++[(b,i)])[s.length]'f=(b,i):=by simp
 obtain⟨aB,ag⟩:=G.range (b,i) (by simp);obtain⟨B,hB⟩:∃B,u.blocks[b]? =some B:=by simp_all
 have L:next u b=B.next:=by unfold next;rw[hB]
 simp only[L]at ag;refine ed (d.len 0 rfl) (xY (by omega) (by simp) ?_);rw[hlen];obtain⟨l7,h7,T,e8,n7,e,S⟩:=d.stF 0 rfl (k:=s.length) (j:=1) (y:=(b,i+1)) (a:= .I ((i+1:Nat):Int)) f (by decide) rfl (λw U=>by
  rw[K]at U;have U:w=[.I b,.I i]:=U;subst U;rfl)
 have T:gI 2 I (.I s.length)=some (.ptr l7 (s.length*2)):=T;obtain⟨l8,o8,w8,i1,i2,i3,i4⟩:=d.ix 0 rfl f .i64;rw[K]at i3;obtain rfl:w8=[.I b,.I i]:=i3;have i1:gI 2 I (.I s.length)=some (.ptr l8 o8):=i1;rw[T]at i1;obtain⟨rfl,rfl⟩:l7=l8/\s.length*2=o8:=by
  simp_all
 have ib:=i4 0 _ rfl;have ii:=i4 1 _ rfl;obtain⟨lb,ob,bv,bn,bp,_,b1,b2,iv,iN,ip,ba⟩:=(W.since J).mh hB;refine ed T (ed (by rfl) (ed (d.ld 3 rfl rfl) (ed (fI _ _) (ed (by rfl) (ed ib (ed b1 (ed (by rfl) (ed ba.next ?_))))))));refine ed (fI _ _) (ed (by rfl) (ed ii (ed iN.len ?_)));by_cases hi:i=B.next.length
 ·refine fP (gw (by omega) ?_);refine ed (fI _ _) (ed (by rfl) (ed ib ?_));rw[pY,fw];obtain⟨v9,h9,e9,n9,H9,s9⟩:=d.yI 1 rfl (kE:=8) (EI:=3) (y:=b) (w:=gJ [b]) (ro:=false) rfl (by decide) (by decide) (by omega);have ah:eQ 3 1 8 x4 (.slice h6.next 0 1) (h6.new (.cells 3 1 true false (gJ [b])))=some (.val v9 h9):=e9;rw[ah,ej];simp only[mZ,jx]at H9;refine ed (H9.len 0 rfl) (xY (by omega) (by simp) ?_);rw[hlen];obtain⟨aC,m,c⟩:=H9.zbp 0 rfl (n:=s.length) (by simp);refine ed m ?_;simp only[jx]at c;have et:(s++[(b,i)]).take s.length=s:=by simp
  rw[et]at c;exact⟨_,by grind[zaB],seen,post++[b],s,rfl,rfl,rfl,G.pop (by simp_all),J.trans s9,c⟩
 refine fP (fT (by omega) ?_);have ai:i<B.next.length:=by omega
 have aD:B.next.length<=2:=g.two b B hB;have r:(next u b)[i]? =some B.next[i]:=by rw[L];exact by simp_all
 have aj:B.next[i]<u.blocks.length:=by grind[BG]
 obtain⟨l9,o9,_,j1,j2⟩:=iN.nat (ig ai) .i64;refine ed (fI _ _) (ed (by rfl) (ed ii (ed j1 (ed j2 ?_))));refine ed (fI _ _) (ed (by rfl) (ed ii (fM ?_)));refine ed (fI _ _) (ed (by rfl) ?_);have e8:gG 1 (.ptr l7 (s.length*2+1)) (.I ((i+1:Nat):Int)) h6=some (.val .undef h7):=e8;rw[e8,ej];simp only[jx,WC]at e;have ak:seen.length=u.blocks.length:=G.len;have M:=e.len 2 (xs:=seen) rfl;rw[ak]at M;refine ed M (yS ?_);rw[PY aj];obtain⟨q,hq⟩:∃q,seen[B.next[i]]? =some q:=by simp_all
 obtain ⟨lq,oq,q1,q2⟩:=e.IX 2 rfl hq .i64;have ea:jz (.bool true) (oB (some (V.slice A.next 0 u.blocks.length)) λal=>oB (some (V.I (B.next[i]:Nat))) λam=>oB (gI 1 al am) λan=>oB (ey an h7) λao=>oD .not ao)=some (.bool (!q)):=by
  simp only[yk,fe,q1,q2,Sf]
 refine ed ea (iI ?_)
 cases q with
 | true=>
   refine fT (by simp) ?_
   exact⟨_,by grind[Ya],seen,post,s++[(b,i+1)],rfl,rfl,rfl,G.skip r hq,J.trans S,e⟩
 | false=>
   refine gw rfl ?_;have N:¬pN seen B.next[i]:=by unfold pN;rw[hq];simp
   obtain⟨l10,aE,O,m,ap,aF,c,aq⟩:=e.Ir 2 rfl (k:=B.next[i]) (y:=true) (u:=V.bool true) (by omega) rfl rfl rfl;refine ed m ?_;rw[ap,ej];simp only[mZ,jx]at c;refine ed (show _=some (V.agg [.I (B.next[i]:Nat),.I ((0:Nat):Int)]) from rfl) ?_;rw[D,fw];obtain⟨ar,au,aw,aG,P,ax⟩:=c.yI 0 rfl (kE:=16) (EI:=uL) (y:=(B.next[i],0)) (w:=[.I (B.next[i]:Nat),.I ((0:Nat):Int)]) (ro:=false) rfl (by decide) (by decide) (by simp;omega);have R:eQ 105 2 16 I (.slice O.next 0 1) (O.new (.cells uL 2 true false [.I (B.next[i]:Nat),.I ((0:Nat):Int)]))=some (.val ar au):=aw;rw[R,ej];simp only[jx]at P;exact⟨_,by rw[hk];exact Yb G r N,_,post,s++[(b,i+1)]++[(B.next[i],0)],rfl,rfl,rfl,G.push r N,((J.trans S).trans aq).trans ax,P⟩
theorem Ov(g:Good u)(c:ei F h cs)(a:CL F h u vv vb vs)(H:∀F' h' v seen post,Sn F h F' h'->ei F' h' cs->E3 u.blocks.length (next u) seen post []->iA eN F' h' post.reverse v->Q v h') :
  cP CS nz [.agg (uC u vv vb vs)] h Q:=
 Iu (Io g) c a.one a.b λh' v seen post d e G=>by
  obtain⟨f,i,r2⟩:=e.jQ 0 rfl;exact H _ _ v seen post (d.trans i) f.tail G r2
end
