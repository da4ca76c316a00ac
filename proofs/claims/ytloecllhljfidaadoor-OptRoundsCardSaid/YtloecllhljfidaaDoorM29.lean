/- Parts. -/
import Derived.Test.YtloecllhljfidaaDoorM28
set_option maxHeartbeats 4000000
namespace Go.Proofs.YtloecllhljfidaaDoor.Hx
open Un Dm
def o0.fix{α:Type}(E:o0 α)(F:Nat->Prop)(h:Hp):o0 α where
 sz:=E.sz
 rel _ _ x cs:=E.rel F h x cs
 len h:=E.len h
 one h:=E.one h
 fe _ h:=h
 mono _ h:=h
section
variable{F F':Nat->Prop}{h h':Hp}{cs ds:List Pc}{Q:fq}{u:U}{vv vb vs:V}
theorem ej.WG{α:Type}{E:o0 α}{ty:Nat}{xs:List α}{v:V}(H:ej F h cs)(i:Nat)(hi:cs[i]? =some (ev E ty xs v)){k:Nat}{x:α}(hk:xs[k]? =some x)(kd:IntKind) :
  ∃l o w,hV E.sz v (.int kd k)=some (.ptr l o)/\fM E.sz (.ptr l o) h=some (.agg w)/\E.rel F h x w/\∀j u,w[j]? =some u->eQ (.ptr l (o+j)) h=some u:=by
 obtain⟨c,rfl⟩:=jk.1 hk;have a:=(jk.1 hi).1;exact(H.Uw (E':=E.fix F h) i hi rfl rfl λk x y cs hx b d=>by rw[hx]at b;cases b;exact d).ix i (Mt a) c kd
theorem ld5{l ty:Nat}{a b c d e f:V}(H:ej F h cs)(i:Nat)(hi:cs[i]? =some (er l ty [a,b,c,d,e,f])):fM 5 (.ptr l 0) h=some (.agg [a,b,c,d,e]):=by
 rw[yL (H.get i hi)];rfl
theorem ej.Wf(H:ej F h cs)(i j:Nat) {ty d:Nat}{bs:List (Bk×V)}{fn:Nat->Option (List Nat×V)}{wb:V}{l:List Bk}(hi:cs[i]? =some (ev ta ty bs wb))(e:cs[j]? =some (fH d fn))(hc:UX l bs fn):iG eK (λl=>F l\/JP cs l) h l wb:=by
 refine(H.row i hi).read.Uw rfl (λm c=>c.imp id λc=>⟨i,_,hi,c⟩) (by rw[<-hc.fst,B5]) λk x y ws hx f g=>?_;rw[<-hc.fst,xk,hx]at f;cases f;have n:=(H.rows j e (hc.row k x.1 x.2 hx)).Zm (F':=λl=>F l\/JP cs l) (by simp_all) λm c=> .inr ⟨j,_,e,k,_,_,hc.row k x.1 x.2 hx,c⟩;obtain⟨a,b,o,p,q,_⟩:=g;exact⟨a,x.2,b,o,p.mono λm c=>c.imp id λc=>⟨i,_,hi,c⟩,n,q.mono λm c=>c.imp id λc=>⟨i,_,hi,c⟩⟩
end
structure EH (u:U):Prop where
 walk:zaC u
 nv:u.ef.length<=3000
 AH:∀(v:Nat) (b:Nat) (k:Nat) (b':Nat) (k':Nat),At u v b k->At u v b' k'->b=b'/\k=k'
 jz:∀(v:Nat) (b:Nat) (k:Nat),At u v b k->v<u.ef.length
 pre:∀(b:Nat) (B:Bk),u.blocks[b]? =some B->B.ez.length<=700/\∀p∈B.ez,p<u.blocks.length
 Ae:∀(v b k:Nat) (x:Vl) (B:Bk),At u v b k->u.ef[v]? =some x->x.op=21->u.blocks[b]? =some B->x.args.length=B.ez.length
 args:∀(v:Nat) (x:Vl),u.ef[v]? =some x->x.args.length<=700
structure Pz (u:U) (kp:Nat->Bool) (D:Nat->Prop) (xs:List (Vl×V)) (fa:Nat->Option (List Nat×V)):Prop where
 len:xs.length=u.ef.length
 out:∀i,u.ef.length<=i->fa i=none
 Ae:∀(v b k:Nat) (x:Vl) (B:Bk),D v->At u v b k->u.ef[v]? =some x->x.op=21->u.blocks[b]? =some B->∃w,xs[v]? =some ({x with args:=nq u kp b B.ez x.args},w)/\fa v=some (nq u kp b B.ez x.args,w)
 same:∀(v:Nat) (x:Vl),u.ef[v]? =some x->¬(x.op=21/\D v)->∃w,xs[v]? =some (x,w)/\fa v=some (x.args,w)
structure Z9 (D:Nat->Prop) (az iR:List Int):Prop where
 len:iR.length=az.length
 gone:∀(v:Nat),D v->v<az.length->iR[v]? =some (-1)
 same:∀(v:Nat),¬D v->iR[v]? =az[v]?
theorem Pz.more{D D':Nat->Prop}{u:U}{kp:Nat->Bool}{xs:List (Vl×V)}{fa:Nat->Option (List Nat×V)}(c:Pz u kp D xs fa)(h:∀v,D' v->D v\/∃x,u.ef[v]? =some x/\x.op≠21)(d:∀v,D v->D' v):Pz u kp D' xs fa where
 len:=c.len
 out:=c.out
 Ae v b k x B hD Mf hx hop hB:=by
  rcases h v hD with a|⟨y,a,e⟩
  ·exact c.Ae v b k x B a Mf hx hop hB
  simp_all
 same v x hx hn:=c.same v x hx (by grind)
theorem Pz.put{D:Nat->Prop}{u:U}{kp:Nat->Bool}{xs:List (Vl×V)}{fa:Nat->Option (List Nat×V)}(g:EH u)(c:Pz u kp D xs fa){v b k:Nat}{x:Vl}{B:Bk}(d:At u v b k)(hx:u.ef[v]? =some x)(f:x.op=21)(h:u.blocks[b]? =some B)(w:V) :
  Pz u kp (λa=>D a\/a=v) (xs.set v ({x with args:=nq u kp b B.ez x.args},w)) (up fa v (some (nq u kp b B.ez x.args,w))) where
 len:=by rw[Lm];exact c.len
 out i hi:=by
  have:=(jk.1 hx).1;rw[iI _ _ (by omega)];exact c.out i hi
 Ae a b' k' y B' hD Yq hy hop' hB':=by
  by_cases e:a=v
  ·subst e;obtain⟨rfl,rfl⟩:=g.AH _ _ _ _ _ d Yq;rw[hx]at hy;cases hy;rw[h]at hB';cases hB';exact⟨w,Mt (by rw[c.len];grind),jo _ _ _⟩
  ·rw[IB (by omega),iI _ _ e];exact c.Ae a b' k' y B' (hD.resolve_right e) Yq hy hop' hB'
 same a y hy hn:=by
  by_cases e:a=v
  ·simp_all
  ·rw[IB (by omega),iI _ _ e];exact c.same a y hy (by simp_all)
theorem Z9.congr{D D':Nat->Prop} {az iR:List Int}(c:Z9 D az iR)(h:∀v,D v↔D' v):Z9 D' az iR:=
 ⟨c.len,λv hv=>c.gone v (by simp_all),λv hv=>c.same v (by simp_all)⟩
theorem Z9.put{D:Nat->Prop} {az iR:List Int}(c:Z9 D az iR)(v:Nat):Z9 (λa=>D a\/a=v) az (iR.set v (-1)) where
 len:=by rw[Lm];exact c.len
 gone a ha hl:=by
  by_cases e:a=v
  ·subst e;exact Mt (by rw[c.len];exact hl)
  ·rw[IB (by omega)];exact c.gone a (ha.resolve_right e) hl
 same a ha:=by
  rw[IB (by omega)];exact c.same a (by simp_all)
def Ao(u:U)(kp:Nat->Bool)(c:Bool)(i j:Nat)(v:Nat):Prop:=(∃b k,b<i/\kp b=c/\At u v b k)\/∃k,k<j/\At u v i k
section
variable{F F':Nat->Prop}{h h':Hp}{cs ds:List Pc}{Q:fq}{u:U}
theorem ej.zaq{ty:Nat}{xs:List Nat}{v q:V}(H:ej F h cs)(i:Nat)(hi:cs[i]? =some (ev eN ty xs v)){k x:Nat}(hx:xs[k]? =some x){kd:IntKind}(hq:hV 1 v (.int kd (k:Nat))=some q):eQ q h=some (.I x):=by
 obtain⟨l,o,a,b⟩:=H.Ia i hi hx kd
 simp_all
theorem ej.zbT(H:ej F h cs)(i:Nat){l n:Nat}(hi:cs[i]? =some (er l en [.I n])):ej F h (cs.set i (ev eN en [n] (.slice l 0 1))):=by
 have a:=H.ok i _ hi;exact H.swap hi (.inr ⟨l,_,rfl,a.2.1,a.2.2,a.1,⟨[.I n],[],rfl,rfl,trivial⟩,rfl⟩) λm e=>e.symm
theorem ej.Xt{ι:Type} [DecidableEq ι] {ty:Nat}{f:ι->Option (List Nat×V)}{xs:List Nat}{v:V}(H:ej F h (ev eN ty xs v::cs))(n:Nat)(o:cs[n]? =some (fH ty f)){i:ι}(hi:f i=Option.none):ej F h (cs.set n (fH ty (up f i (some (xs,v))))):=by
 have h0:=H.ok 0 _ rfl;have p:=H.ok (n+1) _ o;have r:∀l,Loc v l->¬(fH ty f).lh l:=λl m=>H.A5 0 (n+1) _ _ rfl o (by omega) l m;have t:∀l,(fH ty (up f i (some (xs,v)))).lh l->Loc v l\/(fH ty f).lh l:=by
  rintro l ⟨k,ys,w,hk,u⟩;by_cases e:k=i
  ·simp_all
  ·rw[iI _ _ e]at hk;exact .inr ⟨k,ys,w,hk,u⟩
 have y:∀j c,j≠n->cs[j]? =some c->∀l,(fH ty (up f i (some (xs,v)))).lh l->¬c.lh l:=λj c d hc l m=>(t l m).elim (H.A5 0 (j+1) _ c rfl hc (by omega) l) (H.A5 (n+1) (j+1) _ c o hc (by omega) l);refine⟨H.fl,λj c hc=>?_,λj k a b z hb A l m g=>?_⟩
 ·rcases Bn hc with⟨_,rfl⟩|⟨_,q⟩
  ·refine ⟨λj ys w d=>?_,λj k ys w s x d hk o l m g=>?_⟩
   ·by_cases e:j=i
    ·subst e;rw[jo]at d;cases d;exact h0
    ·rw[iI _ _ e]at d;exact p.1 j ys w d
   ·by_cases e:j=i
    ·subst e;rw[jo]at d;cases d;rw[iI _ _ (by grind)]at hk;exact r l m ⟨k,s,x,hk,g⟩
    ·rw[iI _ _ e]at d;by_cases e':k=i
     ·subst e';rw[jo]at hk;cases hk;exact r l g ⟨j,ys,w,d,m⟩
     ·rw[iI _ _ e']at hk;exact p.2 j k ys w s x d hk o l m g
  ·exact H.ok (j+1) c q
 ·rcases Bn z with⟨B,rfl⟩|⟨B,p⟩
  ·grind
  ·rcases Bn hb with⟨C,rfl⟩|⟨_,q⟩
   ·grind
   ·exact H.A5 (j+1) (k+1) a b p q (by omega) l m g
theorem ej.U5{a b c d e f x y z:Pc}(H:ej F h (a::b::c::d::e::f::x::y::z::cs)):ej F h (d::a::f::x::y::z::cs):=
 H.re (λi=>match i with|0=>3|1=>0|n+2=>n+5) (by grind) (by grind)
theorem xV{α:Type}{l:List α}{i:Nat}{x:α}(h:l[i]? =some x):l.take (i+1)=l.take i++[x]:=by
 obtain⟨a,rfl⟩:=jk.1 h
 simp_all
theorem tI(p:Nat->Bool)(i:Nat):(List.range (i+1)).filter p=(List.range i).filter p++if p i=true then[i] else[]:=by
 rw[VR,wBu,wBb];rfl
end
def N8(bs:List (Bk×V))(b:Nat):V:=match bs[b]? with
 |some x=>x.2
 |none=> .undef
def qF(u:U)(kp:Nat->Bool)(b:Nat):Bk:={u.blocks.getD b Mo with ez:=jO u kp b (u.blocks.getD b Mo).ez}
section
variable{F F':Nat->Prop}{h h':Hp}{cs ds:List Pc}{Q:fq}{u:U}{wv wb ws iQ:V}{lt ty:Nat}{az:List Int}{xs:List (Vl×V)}{bs:List (Bk×V)}{fa fn:Nat->Option (List Nat×V)}
theorem UG(g:EH u)(hc:VZ u.ef xs fa)(hb:UX u.blocks bs fn)(cg:az.length=u.ef.length)(bw:ws.one=true)
  (H0:ej F h (ev vE gi xs wv::ev ta fo bs wb::fH en fa::fH en fn::ev eZ en az iQ::er lt ty [.I u.func,.I u.pc,wv,wb,ws,iQ]::cs))
  (H:∀F' h' seen post kp u' f aQ d D iR aR,Sn F h F' h'->CL u.blocks.length (next u) seen post []->kp=(λb=>post.reverse.contains b)->Cut u kp u'->VZ u'.ef f d->UX u'.blocks aQ D->Ce u kp az iR->
   ej F' h' (ev vE gi f wv::ev ta fo aQ aR::fH en d::fH en D::ev eZ en iR iQ::er lt ty [.I u.func,.I u.pc,wv,aR,ws,iQ]::cs)->Q (.tuple []) h') :
  cP CS mC [.ptr lt 0] h Q:=by
 refine DT rfl rfl ?_;unfold vV;have nb:=g.walk.nb;have nv:=g.nv;have aS:bs.length=u.blocks.length:=by rw[<-hb.fst,B5]
 have bx:xs.length=u.ef.length:=by rw[<-hc.fst,B5]
 have fz:∀{h:Hp} {cs:List Pc},fQ 0 (.ptr lt 0)=some (.ptr lt 0):=rfl;refine ed (fI _ _) (ed (fR _ _ _) (oF (H0.ld 5 rfl rfl) (ed (H0.len 1 rfl) ?_)));rw[aS,oC (z:=V.bool false) rfl (by decide) (by omega),fF];obtain⟨H1,s1⟩:=H0.make (E:=eB) (ty:=mg) (y:=false) (u:=V.bool false) u.blocks.length rfl rfl;generalize h.new (.cells mg 1 true false (List.replicate u.blocks.length (V.bool false)))=n at*;generalize h.next=Y at*;refine ed (fI _ _) (ed (fR _ _ _) (ed (ld5 H1 6 rfl) ?_));have ax:fZ (uC u wv wb ws)=true:=by simp only[uC,eo,H1.one 1 rfl,H1.one 2 rfl,bw];rfl
 refine Ig g.walk H1.zcI ax (H1.Wf 2 4 rfl rfl hb) λN vo seen post aB aT G=>?_;have H2:=H1.zac aB aT;have bz:=s1.trans aB.back;clear aB aT ax fz s1 H1;have ac:∀b∈post.reverse,b<u.blocks.length:=λb hb=>G.pre b (Xq.1 hb);have bA:post.reverse.length<=u.blocks.length:=by
  have n:=G.nodup;rw[W7,HU]at n;rw[List.length_reverse];exact jr _ _ n G.pre
 generalize aU:post.reverse=L at H2 ac bA⊢;refine ed (H2.len 0 rfl) ?_
 refine Aj (λk l h'=>∃(i:Nat) (kl:List Bool),l=[.ptr lt 0,.slice Y 0 u.blocks.length,vo,.I L.length,.I i]/\i+k=L.length/\kl.length=u.blocks.length/\(∀b,b<u.blocks.length->kl[b]? =some ((L.take i).contains b))/\Sn F h F h'/\
  ej F h' (ev eN en L vo::ev eB mg kl (.slice Y 0 u.blocks.length)::ev vE gi xs wv::ev ta fo bs wb::fH en fa::fH en fn::ev eZ en az iQ::er lt ty [.I u.func,.I u.pc,wv,wb,ws,iQ]::cs)) ?_ (k:=L.length)
  (by grind)
 rintro k _ _ _ _ _ h3 ⟨i,kl,⟨⟩,hk,aV,R,s3,H3⟩;unfold su;by_cases hi:i<L.length
 ·refine gR ?_;have hx:=g0 hi;have aC:L.take (i+1)=L.take i++[L[i]]:=Qs hi;generalize L[i]=b at*;have bC:=ac b (yC hx);obtain⟨l1,o1,x1,x2⟩:=H3.Ia 0 rfl hx .i64;obtain⟨l2,o2,h4,e1,e2,_,H4,s4⟩:=H3.Ma 1 rfl (k:=b) (y:=true) (u:=V.bool true) (by omega) rfl rfl rfl;refine ed x1 (ed x2 (ed e1 ?_));rw[e2,ei];simp only[jx,lU]at H4;refine fS ⟨k-1,by omega,i+1,kl.set b true,rfl,by omega,by simp[aV],λc aW=>?_,s3.trans s4,H4⟩
  grind
 refine jf ?_;obtain rfl:i=L.length:=by omega
 rw[Hj]at R;clear hk k H2;have H3:=H3.tail;obtain⟨kp,aX⟩:∃kp:Nat->Bool,(λb=>L.contains b)=kp:=⟨_,rfl⟩
 have R:∀b,b<u.blocks.length->kl[b]? =some (kp b):=λb hb=>by rw[R b hb,<-aX]
 have aY:kp=λb=>post.reverse.contains b:=by rw[aU,aX]
 have aZ:fD (.slice Y 0 u.blocks.length)=some (.I u.blocks.length):=rfl;refine ed aZ ?_;rw[oC (z:=V.I 0) rfl (by decide) (by omega),fF];obtain⟨H4,s4⟩:=H3.make (E:=eN) (ty:=en) (y:=0) (u:=V.I 0) u.blocks.length rfl rfl;generalize h3.new (.cells en 1 true false (List.replicate u.blocks.length (V.I 0)))=h4 at*;generalize h3.next=ln at*;refine ed aZ ?_;have a5:=s3.trans s4;clear bz s3 s4 H3
 refine A3 (λk l h'=>∃(i:Nat) (ns:List Nat),l=[.ptr lt 0,.slice Y 0 u.blocks.length,.slice ln 0 u.blocks.length,.I (((List.range i).filter kp).length:Nat),.slice Y 0 u.blocks.length,.I u.blocks.length,.I i]/\i+k=u.blocks.length/\ns.length=u.blocks.length/\(∀b,b<i->ns[b]? =some (jj kp b))/\(∀b,i<=b->b<u.blocks.length->ns[b]? =some 0)/\Sn F h F h'/\
  ej F h' (ev eN en ns (.slice ln 0 u.blocks.length)::ev eB mg kl (.slice Y 0 u.blocks.length)::ev vE gi xs wv::ev ta fo bs wb::fH en fa::fH en fn::ev eZ en az iQ::er lt ty [.I u.func,.I u.pc,wv,wb,ws,iQ]::cs)) ?_ (k:=u.blocks.length)
  ⟨0,_,rfl,by omega,wBY,λb hb=>by omega,λb _ hb=>by rw[List.getElem?_replicate,if_pos hb],a5,H4⟩
 clear a5 H4 H0;rintro k _ _ _ _ _ _ _ h3 ⟨i,ns,⟨⟩,hk,ae,am,an,s3,H3⟩;unfold sx;have a6:((List.range i).filter kp).length<=i:=by
  have:=U7 kp (List.range i)
  rwa [SB]at this
 by_cases hi:i<u.blocks.length
 ·refine gR ?_;obtain⟨l1,o1,x1,x2⟩:=H3.Nc 1 rfl (R i hi) .i64;refine ed x1 (ed x2 (jF ?_));have hr:((List.range (i+1)).filter kp).length=((List.range i).filter kp).length+(if kp i=true then 1 else 0):=by
   rw[VR,wBu,KC,wBb];split <;> rfl
  by_cases s:kp i=true
  ·refine gI s ?_;obtain⟨l2,o2,h4,e1,e2,_,H4,s4⟩:=H3.Ma 0 rfl (k:=i) (y:=((List.range i).filter kp).length) (u:=V.I (((List.range i).filter kp).length:Nat)) (by omega) rfl rfl rfl;refine ed e1 ?_;rw[e2,ei];simp only[jx]at H4;refine fS (rm ?_);unfold mR;rw[if_pos s]at hr;refine fS ⟨k-1,by omega,i+1,ns.set i ((List.range i).filter kp).length,by rw[hr],by omega,by simp[ae],λb hb=>?_,λb hb aD=>?_,s3.trans s4,H4⟩
   ·by_cases e:b=i
    ·subst e;rw[Mt (by omega)];unfold jj;rw[if_pos s]
    ·rw[IB λh=>e h.symm];exact am b (by omega)
   ·rw[IB (by omega)];exact an b (by omega) aD
  ·refine gv s (rm ?_);unfold mR;rw[if_neg s,wB8]at hr;refine fS ⟨k-1,by omega,i+1,ns,by rw[hr];rfl,by omega,ae,λb hb=>?_,λb hb aD=>an b (by omega) aD,s3,H3⟩;by_cases e:b=i
   ·subst e;rw[an b (jb _) hi];unfold jj;rw[if_neg s]
   ·exact am b (by omega)
 refine jf ?_;obtain rfl:i=u.blocks.length:=by omega
 clear hk k an a6;refine ed (fI _ _) (ed (fR _ _ _) (oF (H3.ld 7 rfl rfl) (ed (H3.len 3 rfl) ?_)));rw[aS];have H3:ej F h3 (ev ta fo [] .ee::ev eN en ns (.slice ln 0 u.blocks.length)::ev eB mg kl (.slice Y 0 u.blocks.length)::ev vE gi xs wv::ev ta fo bs wb::fH en fa::fH en fn::ev eZ en az iQ::er lt ty [.I u.func,.I u.pc,wv,wb,ws,iQ]::cs):=H3.add .nil λ_ h=>h;have ae:∀b,b<u.blocks.length->ns[b]? =some (jj kp b):=am
 refine A0 (λk l h'=>∃(F':Nat->Prop) (i:Nat) (f:List (Vl×V)) (d:Nat->Option (List Nat×V)) (iR:List Int) (U:V),l=[.ptr lt 0,.slice Y 0 u.blocks.length,.slice ln 0 u.blocks.length,U,wb,.I u.blocks.length,.I i]/\i+k=u.blocks.length/\Sn F h F' h'/\
  Pz u kp (Ao u kp true i 0) f d/\Z9 (Ao u kp false i 0) az iR/\
  ej F' h' (ev ta fo (((List.range i).filter kp).map λb=>(qF u kp b,N8 bs b)) U::ev eN en ns (.slice ln 0 u.blocks.length)::ev eB mg kl (.slice Y 0 u.blocks.length)::ev vE gi f wv::ev ta fo bs wb::fH en d::fH en fn::ev eZ en iR iQ::er lt ty [.I u.func,.I u.pc,wv,wb,ws,iQ]::cs)) ?_ (k:=u.blocks.length)
  ⟨F,0,xs,fa,az,.ee,rfl,by omega,s3,?_,?_,H3⟩
 rotate_left
 ·refine ⟨bx,λi hi=>hc.out i (by omega),λv b k x B hD=>?_,λv x hx _=>?_⟩
  ·rcases hD with⟨_,_,h,_⟩|⟨_,h,_⟩ <;> omega
  ·rw[<-hc.fst,xk]at hx
   cases hy:xs[v]? with
   |none=>rw[hy]at hx;cases hx
   | some y=>
     rw[hy]at hx;cases hx;exact⟨y.2,rfl,hc.row v y.1 y.2 hy⟩
 ·refine⟨rfl,λv hD=>?_,λv _=>rfl⟩;rcases hD with⟨_,_,h,_⟩|⟨_,h,_⟩ <;> omega
 clear H3 s3 hi am;rintro k _ _ _ U _ _ _ h4 ⟨J,i,f,d,iR,_,⟨⟩,hk,s4,A,Z,H4⟩;unfold sR;by_cases hi:i<u.blocks.length
 ·refine gR ?_;obtain⟨⟨B,wn⟩,M⟩:∃y,bs[i]? =some y:=⟨_,g0 (by omega)⟩
  have S:u.blocks[i]? =some B:=by rw[<-hb.fst,xk,M];rfl
  have aE:N8 bs i=wn:=by unfold N8;rw[M]
  obtain ⟨l1,o1,w1,x1,x2,⟨bv,bp,rfl,iv,ip,aF⟩,_⟩:=H4.WG 4 rfl M .i64;have x1:hV 6 wb (.I i)=some (.ptr l1 o1):=x1;have x2:fM 6 (.ptr l1 o1) h4=some (.agg (kS B bv wn bp)):=x2;refine ed x1 (ed x2 ?_);refine gQ H4 rfl rfl (by simp only[kS,eo,iv.one,ip.one,aF];rfl) λh5 H5 s5=>?_;generalize h4.next=lb at*;have iv:=iv.since s5;have ip:=ip.since s5;clear x1 x2;obtain⟨l2,o2,y1,y2⟩:=H5.Nc 3 rfl (R i hi) .i64;refine ed y1 (ed y2 (wW ?_));have a7:∀c v,Ao u kp c (i+1) 0 v↔Ao u kp c i 0 v\/(kp i=c/\∃k,At u v i k):=λc v=>by
   constructor
   ·rintro(⟨b,k,n,N,h3⟩|⟨k,n,_⟩)
    ·by_cases e:b=i
     ·subst e;exact .inr ⟨N,k,h3⟩
     ·exact .inl (.inl ⟨b,k,by omega,N,h3⟩)
    ·omega
   ·rintro((⟨b,k,n,N,h3⟩|⟨k,n,_⟩)|⟨n,k,N⟩)
    ·exact .inl ⟨b,k,by omega,N,h3⟩
    ·omega
    ·exact .inl ⟨i,k,by omega,n,N⟩
  have ao:∀c j w,B.ef[j]? =some w->∀v,Ao u kp c i (j+1) v↔Ao u kp c i j v\/v=w:=λc j w hw v=>by
   constructor
   ·rintro (n|⟨k,n,N⟩)
    ·exact .inl (.inl n)
    ·by_cases e:k=j
     ·subst e;obtain⟨B',e1,e2⟩:=N
      simp_all
     ·exact .inl (.inr ⟨k,by omega,N⟩)
   ·rintro((n|⟨k,n,N⟩)|rfl)
    ·exact .inl n
    ·exact .inr ⟨k,by omega,N⟩
    ·exact .inr ⟨j,by omega,B,S,hw⟩
  have aG:∀c,kp i=c->∀v,Ao u kp c i B.ef.length v↔Ao u kp c (i+1) 0 v:=λc bD v=>by
   rw[a7];constructor
   ·rintro(n|⟨k,n,N⟩)
    ·exact .inl (.inl n)
    ·exact .inr ⟨bD,k,N⟩
   ·rintro((n|⟨k,n,_⟩)|⟨_,k,B',e1,e2⟩)
    ·exact .inl n
    ·omega
    ·rw[S]at e1;cases e1;exact .inr ⟨k,(jk.1 e2).1,B,S,e2⟩
  have cd:B.ef.length<=u.ef.length:=by
   refine jr u.ef.length B.ef ?_ λv hv=>?_
   ·rw[List.nodup_iff_pairwise_ne,ZZ];intro a b ha hb ci e;have:=(g.AH B.ef[a] i a i b ⟨B,S,g0 ha⟩ ⟨B,S,by rw[e];exact g0 hb⟩).2;omega
   ·obtain⟨k,hk⟩:=mr.1 hv;exact g.jz v i k ⟨B,S,hk⟩
  by_cases s:kp i=true
  ·refine gI s ?_;have bE:=g.pre i B S;have aH:u.blocks.getD i Mo=B:=by rw[CM,S];rfl
   refine oF (H5.ld 0 rfl rfl) (ed ip.len ?_);obtain⟨c,aI⟩:∃c:Nat->Bool,(λj=>kp (B.ez.getD j 0)&&(next u (B.ez.getD j 0)).contains i)=c:=⟨_,rfl⟩
   have aJ:(List.range B.ez.length).filter c=qu u kp i B.ez:=by rw[<-aI];rfl
   have H5:=(H5.add (p:=ev eN en [] .ee) .nil λ_ h=>h).add (p:=ev eN en [] .ee) .nil λ_ h=>h
   refine AO (λk' l h'=>∃(j:Nat) (T r:V),l=[.ptr lt 0,.slice Y 0 u.blocks.length,.slice ln 0 u.blocks.length,U,.I i,.ptr lb 0,T,r,wb,.I u.blocks.length,.I i,bp,.I B.ez.length,.I j]/\j+k' = B.ez.length/\Sn F h J h'/\Sn J h5 J h'/\
    ej J h' (ev eN en (((List.range j).filter c).map λj=>jj kp (B.ez.getD j 0)) r::ev eN en ((List.range j).filter c) T::er lb 38 (kS B bv wn bp)::ev ta fo (((List.range i).filter kp).map λb=>(qF u kp b,N8 bs b)) U::ev eN en ns (.slice ln 0 u.blocks.length)::ev eB mg kl (.slice Y 0 u.blocks.length)::ev vE gi f wv::ev ta fo bs wb::fH en d::fH en fn::ev eZ en iR iQ::er lt ty [.I u.func,.I u.pc,wv,wb,ws,iQ]::cs)) ?_ (k:=B.ez.length)
    ⟨0,.ee,.ee,rfl,by omega,s4.trans s5,Sn.refl _ _,H5⟩
   clear H5 H4;rintro k' _ _ _ _ _ _ T r _ _ _ _ _ _ h6 ⟨j,_,_,⟨⟩,ah,s6,aa,O⟩;unfold si;have aW:((List.range j).filter c).length<=j:=by
    have:=U7 c (List.range j)
    rwa [SB]at this
   by_cases hj:j<B.ez.length
   ·refine gR ?_;have hx:=g0 hj;have ap:=bE.2 B.ez[j] (EA hj);have a8:B.ez.getD j 0=B.ez[j]:=by rw[CM,hx];rfl
    generalize B.ez[j]=p at*;obtain⟨l1,o1,_,x1,x2⟩:=(ip.since aa).nat hx .i64;obtain⟨l2,o2,y1,y2⟩:=O.Nc 5 rfl (R p ap) .i64;refine ed x1 (ed x2 (ed y1 (ed y2 ?_)));have a9:=tI c j;have aq:c j=(kp p&&(next u p).contains i):=by rw[<-aI];simp only[a8]
    cases hkp':kp p with
    | false=>
      refine oe (oe (oe (oe (oe (oe (oe (oe (oe (oe (Xe ?_))))))))));refine ed (show nM (.bool false) .undef (.bool false)=some (.bool false) from rfl) (jF (gv (by decide) (mP ?_)));unfold kH;refine jZ (m:=1) (by omega) (by omega) ⟨k'-1,by omega,j+1,T,r,rfl,by omega,s6,aa,?_⟩;rw[a9,show c j=false by rw[aq,hkp'];rfl]
      simpa using O
    | true=>
      obtain⟨⟨P,wp⟩,aK⟩:∃y,bs[p]? =some y:=⟨_,g0 (by omega)⟩
      have hP:u.blocks[p]? =some P:=by rw[<-hb.fst,xk,aK];rfl
      have bG:next u p=P.next:=by unfold next;rw[hP]
      obtain⟨l3,o3,w3,z1,_,⟨pv,pp,rfl,_,_,_⟩,z2⟩:=O.WG 7 rfl aK .i64;have z1:hV 6 wb (.I (p:Nat))=some (.ptr l3 o3):=z1;have z3:=z2 3 wp rfl;refine gL (ed rfl (gL (ed (fI _ _) (gL (ed (fR _ _ _) (gL (ed (fR _ _ _) (gL (ed (O.ld 11 rfl rfl) (gL (ed rfl (gL (ed z1 (gL (ed (fR _ _ _) (gL (ed z3 (gL (ed rfl (uj ?_))))))))))))))))))));refine za8 (O.rows 9 rfl (hb.row p P wp aK)).read (by have:=g.walk.two p P hP;omega) i ?_;rw[<-bG];refine ed (by rfl) (jF ?_);rw[hkp',Yl]at aq;by_cases ai:(next u p).contains i=true
      ·refine gI ai ?_
       rw[ai]at aq;rw[mN,gZ];obtain⟨W,s7⟩:=O.yO en (iT [j]);have W:ej J (h6.new (.cells 3 1 true false (iT [j]))) (er h6.next 3 (iT [j])::_):=W;have s7:Sn J h6 J (h6.new (.cells 3 1 true false (iT [j]))):=s7;generalize h6.new (.cells 3 1 true false (iT [j]))=h7 at*;generalize h6.next=r1 at*;obtain⟨l4,o4,n1,n2⟩:=W.Ia 5 rfl (ae p ap) .i64;refine ed n1 (ed n2 ?_);rw[mN,gZ];obtain⟨I,s8⟩:=W.yO en (iT [jj kp p]);have I:ej J (h7.new (.cells 3 1 true false (iT [jj kp p]))) (er h7.next 3 (iT [jj kp p])::er r1 3 (iT [j])::_):=I;have s8:Sn J h7 J (h7.new (.cells 3 1 true false (iT [jj kp p]))):=s8;generalize h7.new (.cells 3 1 true false (iT [jj kp p]))=h8 at*;generalize h7.next=r2 at*;refine⟨⟨I.get 0 rfl,bq⟩,I.zaq 6 rfl (ae p ap) n1,⟨I.get 1 rfl,bq⟩,?_⟩;have I:=I.zbT 1 rfl;simp only[jx,lU]at I;obtain⟨va,h9,e9,n9,X,s9⟩:=I.zaQ 3 1 rfl rfl (kj:=8) (by decide) (by decide) (by simp;omega);have aj:eR 3 1 8 T (.slice r1 0 1) h8=some (.val va h9):=e9;simp only[jx,lU]at X;rw[aj,ei];refine⟨n9,⟨X.get 0 rfl,bq⟩,X.zaq 6 rfl (ae p ap) n1,?_⟩;have X:=X.zbT 0 rfl;simp only[jx]at X;obtain⟨vc,bH,bI,bJ,ak,bK⟩:=X.zaQ 2 0 rfl rfl (kj:=8) (by decide) (by decide) (by simp;omega);have ba:eR 3 1 8 r (.slice r2 0 1) h9=some (.val vc bH):=bI;rw[ba,ei];simp only[jx,lU]at ak;refine⟨bJ,mP ?_⟩;unfold kH;have sA:=((s7.trans s8).trans s9).trans bK;refine jZ (m:=1) (by omega) (by omega) ⟨k'-1,by omega,j+1,va,vc,rfl,by omega,s6.trans sA,aa.trans sA,?_⟩;rw[a9,aq,if_pos rfl,MA,Yb,W7,a8];exact ak.tail.tail
      ·refine gv ai (mP ?_)
       unfold kH;refine jZ (m:=1) (by omega) (by omega) ⟨k'-1,by omega,j+1,T,r,rfl,by omega,s6,aa,?_⟩
       simp_all
   refine jf ?_;obtain rfl:j=B.ez.length:=by omega
   rw[aJ]at O;have cj:(qu u kp i B.ez).length<=700:=by rw[<-aJ];omega
   have bL:∀m∈qu u kp i B.ez,m<B.ez.length:=λm hm=>by
    unfold qu at hm;exact Rf.1 (HS.1 hm).1
   have bb:(qu u kp i B.ez).map (λj=>jj kp (B.ez.getD j 0))=jO u kp i B.ez:=rfl;rw[bb]at O;clear ah k' aW hj aJ aI c bb;refine oF (O.ld 2 rfl rfl) (ed iv.len ?_);have bc:=iv.since aa;clear iv ip aa
   refine AA (λk' l h'=>∃(j:Nat) (f:List (Vl×V)) (d:Nat->Option (List Nat×V)),l=[.ptr lt 0,.slice Y 0 u.blocks.length,.slice ln 0 u.blocks.length,U,.ptr lb 0,T,r,wb,.I u.blocks.length,.I i,bv,.I B.ef.length,.I j]/\j+k' = B.ef.length/\Sn F h J h'/\Sn J h6 J h'/\Pz u kp (Ao u kp true i j) f d/\
    ej J h' (ev eN en (jO u kp i B.ez) r::ev eN en (qu u kp i B.ez) T::er lb 38 (kS B bv wn bp)::ev ta fo (((List.range i).filter kp).map λb=>(qF u kp b,N8 bs b)) U::ev eN en ns (.slice ln 0 u.blocks.length)::ev eB mg kl (.slice Y 0 u.blocks.length)::ev vE gi f wv::ev ta fo bs wb::fH en d::fH en fn::ev eZ en iR iQ::er lt ty [.I u.func,.I u.pc,wv,wb,ws,iQ]::cs)) ?_ (k:=B.ef.length)
    ⟨0,f,d,rfl,by omega,s6,Sn.refl _ _,A,O⟩
   clear O s6 A;rintro k' _ _ _ _ _ _ _ _ _ _ _ _ _ h7 ⟨j,f,d,⟨⟩,ah,s7,ar,A,W⟩;unfold rZ;by_cases hj:j<B.ef.length
   ·refine gR ?_;have hx:=g0 hj;generalize B.ef[j]=v at*;have K:At u v i j:=⟨B,S,hx⟩
    have au:=g.jz v i j K;obtain⟨l1,o1,_,x1,x2⟩:=(bc.since ar).nat hx .i64;obtain⟨x,aw⟩:∃x,u.ef[v]? =some x:=⟨_,g0 au⟩
    have bQ:¬Ao u kp true i j v:=by
     rintro(⟨b,k,n,_,N⟩|⟨k,n,N⟩)
     ·have:=(g.AH _ _ _ _ _ N K).1;omega
     ·have:=(g.AH _ _ _ _ _ N K).2;omega
    obtain⟨w,aL,bR⟩:=A.same v x aw λh=>bQ h.2;obtain⟨lv,ov,wl,y1,_,⟨rfl,w1⟩,y2⟩:=W.WG 6 rfl aL .i64;have y1:hV 6 wv (.I v)=some (.ptr lv ov):=y1;refine ed x1 (ed x2 (ed (fI _ _) (ed (fR _ _ _) (oF (W.ld 11 rfl rfl) (ed y1 (oN (y2 0 _ rfl) (gM ?_)))))));by_cases ac:x.op=21
    ·refine gI (by show(x.op:Int)=21;omega) (ed (W.len 1 rfl) ?_);have bS:=g.args v x aw;have ce:=g.Ae v i j x B K aw ac S;have I:=W.add (p:=ev eN en [] .ee) .nil λ_ h=>h
     refine AJ (λaM l h'=>∃(m:Nat) (vr:V),l=[.ptr lt 0,.slice Y 0 u.blocks.length,.slice ln 0 u.blocks.length,U,.ptr lb 0,T,r,.ptr lv ov,vr,wb,.I u.blocks.length,.I i,bv,.I B.ef.length,.I j,T,.I ((qu u kp i B.ez).length:Nat),.I m]/\m+aM=(qu u kp i B.ez).length/\Sn J h7 J h'/\
      ej J h' (ev eN en (((qu u kp i B.ez).take m).map λj=>x.args.getD j 0) vr::ev eN en (jO u kp i B.ez) r::ev eN en (qu u kp i B.ez) T::er lb 38 (kS B bv wn bp)::ev ta fo (((List.range i).filter kp).map λb=>(qF u kp b,N8 bs b)) U::ev eN en ns (.slice ln 0 u.blocks.length)::ev eB mg kl (.slice Y 0 u.blocks.length)::ev vE gi f wv::ev ta fo bs wb::fH en d::fH en fn::ev eZ en iR iQ::er lt ty [.I u.func,.I u.pc,wv,wb,ws,iQ]::cs)) ?_ (k:=(qu u kp i B.ez).length)
      ⟨0,.ee,rfl,by omega,Sn.refl _ _,I⟩
     clear I W y2;rintro aM _ _ _ _ _ _ _ _ vr _ _ _ _ _ _ _ _ _ h8 ⟨m,_,⟨⟩,cf,aN,I⟩;unfold rQ;obtain⟨bd,be,wl,y3,_,⟨rfl,_⟩,y4⟩:=I.WG 7 rfl aL .i64;have y3:hV 6 wv (.I v)=some (.ptr bd be):=y3;rw[y1]at y3;obtain⟨rfl,rfl⟩:lv=bd/\ov=be:=by cases y3;exact⟨rfl,rfl⟩
     clear y3;by_cases hm:m<(qu u kp i B.ez).length
     ·refine gR ?_;have hq:=g0 hm;have aC:=xV hq;have cm:=bL _ (EA hm);generalize (qu u kp i B.ez)[m]=q at*;obtain⟨l2,o2,z1,z2⟩:=I.Ia 2 rfl hq .i64;have ha:=g0 (show q<x.args.length by omega);have bU:x.args.getD q 0=x.args[q]:=by rw[CM,ha];rfl
      generalize x.args[q]=a at*;obtain⟨l3,o3,_,z3,z4⟩:=(I.rows 9 rfl bR).read.nat ha .i64;refine ed z1 (ed z2 (oN (y4 4 _ rfl) (ed z3 (ed z4 ?_))));rw[mN,fF];obtain⟨va,h9,e9,_,X,s9⟩:=I.uI 0 rfl (kj:=8) (B2:=3) (y:=a) (w:=iT [a]) (ro:=false) rfl (by decide) (by decide) (by simp;omega);have aj:eR 3 1 8 vr (.slice h8.next 0 1) (h8.new (.cells 3 1 true false (iT [a])))=some (.val va h9):=e9;rw[aj,ei];simp only[jx]at X;refine fS ⟨aM-1,by omega,m+1,va,rfl,by omega,aN.trans s9,?_⟩;rw[aC,MA,Yb,W7,bU];exact X
     refine jf ?_;obtain rfl:m=(qu u kp i B.ez).length:=by omega
     rw [Hj]at I;have I:ej J h8 (ev eN en (nq u kp i B.ez x.args) vr::_):=I;have bf:=I.one 0 rfl;have ay:=jk.1 aL;obtain⟨lq,h9,e1,e2,_,X,s9⟩:=I.stF 7 rfl (k:=v) (j:=4) (y:=({x with args:=nq u kp i B.ez x.args},vr)) (a:=vr) ay.1 (by decide) bf (λw' hw=>by
      rw[ay.2]at hw;obtain⟨rfl,_⟩:=hw;exact⟨rfl,bf⟩)
     have e1:hV 6 wv (.I v)=some (.ptr lq (v*6)):=e1;rw[y1]at e1;obtain⟨rfl,rfl⟩:lv=lq/\ov=v*6:=by cases e1;exact⟨rfl,rfl⟩
     have e2:gh 1 (.ptr lv (v*6+4)) vr h8=some (.val .undef h9):=e2;refine ed (fI _ _) (ed (fR _ _ _) ?_);rw[e2,ei];simp only[jx,lU]at X;have ak:=X.Qg 9 rfl (up d v Option.none) id (by grind[jo,iI]) (λ_ _ _ _ _ _ e=>e);simp only[jx,lU]at ak;have aO:=ak.Xt 8 rfl (i:=v) (jo _ _ _);simp only[jx,lU]at aO;have bg:up (up d v Option.none) v (some (nq u kp i B.ez x.args,vr))=up d v (some (nq u kp i B.ez x.args,vr)):=funext (by grind[jo,iI]);rw[bg]at aO;refine qV ?_;unfold mU;have c2:=A.put g K aw ac S vr;refine fS ⟨k'-1,by omega,j+1,_,_,rfl,by omega,(s7.trans aN).trans s9,(ar.trans aN).trans s9,?_,aO⟩;exact c2.more (λa ha=> .inl ((ao true j v hx a).1 ha)) λa ha=>(ao true j v hx a).2 ha
    ·refine gv (by show ¬(x.op:Int)=21;omega) (qV ?_);unfold mU;refine fS ⟨k'-1,by omega,j+1,f,d,rfl,by omega,s7,ar,A.more (λa ha=>?_) (λa ha=>(ao true j v hx a).2 (.inl ha)),W⟩
     grind
   refine jf ?_;obtain rfl:j=B.ef.length:=by omega
   clear ah k' hj;have bV:=bc.since ar;obtain⟨I,s8,rp⟩:=W.lH 0 rfl;simp only[jx]at I;have bW:=bV.since s8;generalize (λl=>J l\/Loc r l)=F8 at*;have I:=I.tail.tail;obtain⟨h9,e9,_,X,s9⟩:=I.st 0 (o:=4) (u:=r) rfl (by simp[kS]) rp.one;refine ed (fR _ _ _) ?_;have aj:gh 1 (.ptr lb (0+4)) r h7=some (.val .undef h9):=by rw[wO];exact e9
   rw[aj,ei];simp only[jx]at X;have bh:qF u kp i = {B with ez:=jO u kp i B.ez}:=by unfold qF;rw[aH]
   have ai:(kS B bv wn bp).set 4 r=kS (qF u kp i) bv wn r:=by rw[bh];rfl
   rw [ai]at X;have bi:=bW.since s9;have bj:=rp.since s9;refine ed (X.oL 0 rfl rfl) ?_;have X:=X.tail;rw[ng (sz:=6) (w:=kS (qF u kp i) bv wn r) rfl rfl (by simp only[kS,eo,bi.one,aF,bj.one];rfl),fF];have cn:((List.range i).filter kp).length<=i:=by
    have:=U7 kp (List.range i)
    rwa [SB]at this
   obtain⟨bm,hA,eA,_,HA,sA⟩:=X.uI 0 rfl (kj:=96) (B2:=38) (y:=(qF u kp i,wn)) (w:=kS (qF u kp i) bv wn r) (ro:=false) (by rw[bh];exact⟨bv,r,rfl,bi,bj,aF⟩) (by decide) (by decide) (by simp;omega);have bX:eR 38 6 96 U (.slice h9.next 0 1) (h9.new (.cells 38 6 true false (kS (qF u kp i) bv wn r)))=some (.val bm hA):=eA;rw[bX,ei];simp only[jx]at HA;refine qX ?_;unfold mQ;refine fS ⟨k-1,by omega,F8,i+1,f,d,iR,bm,rfl,by omega,((s7.trans s8).trans s9).trans sA,?_,?_,?_⟩
   ·exact A.more (λv n=> .inl ((aG true s v).2 n)) λv n=>(aG true s v).1 n
   ·refine Z.congr λv=>?_
    simp_all
   ·rw[tI,s,if_pos rfl,MA,Yb,W7,aE];exact HA
  ·refine gv s ?_;have s:kp i=false:=wB0.2 s;refine oF (H5.ld 0 rfl rfl) (ed iv.len ?_);have H5:=H5.tail
   refine A1 (λk' l h'=>∃(j:Nat) (iR:List Int),l=[.ptr lt 0,.slice Y 0 u.blocks.length,.slice ln 0 u.blocks.length,U,wb,.I u.blocks.length,.I i,bv,.I B.ef.length,.I j]/\j+k' = B.ef.length/\Sn F h J h'/\Sn J h5 J h'/\Z9 (Ao u kp false i j) az iR/\
    ej J h' (ev ta fo (((List.range i).filter kp).map λb=>(qF u kp b,N8 bs b)) U::ev eN en ns (.slice ln 0 u.blocks.length)::ev eB mg kl (.slice Y 0 u.blocks.length)::ev vE gi f wv::ev ta fo bs wb::fH en d::fH en fn::ev eZ en iR iQ::er lt ty [.I u.func,.I u.pc,wv,wb,ws,iQ]::cs)) ?_ (k:=B.ef.length)
    ⟨0,iR,rfl,by omega,s4.trans s5,Sn.refl _ _,Z,H5⟩
   clear H5 H4;rintro k' _ _ _ U _ _ _ _ _ _ h6 ⟨j,iR,⟨⟩,ah,s6,aa,Z,O⟩;unfold sZ;by_cases hj:j<B.ef.length
   ·refine gR ?_;have hx:=g0 hj;generalize B.ef[j]=v at*;have au:=g.jz v i j ⟨B,S,hx⟩;obtain⟨l1,o1,_,x1,x2⟩:=(iv.since aa).nat hx .i64;refine ed x1 (ed x2 (oN (O.ld 8 rfl rfl) ?_));obtain⟨l2,o2,h7,e1,e2,_,W,s7⟩:=O.Ma 7 rfl (k:=v) (y:=(-1:Int)) (u:=V.I (-1)) (by rw[Z.len];omega) rfl rfl rfl;refine ed e1 ?_;rw[e2,ei];simp only[jx,lU]at W;exact fS ⟨k'-1,by omega,j+1,iR.set v (-1),rfl,by omega,s6.trans s7,aa.trans s7,(Z.put v).congr λa=>(ao false j v hx a).symm,W⟩
   refine jf (qX ?_);unfold mQ;obtain rfl:j=B.ef.length:=by omega
   refine fS ⟨k-1,by omega,J,i+1,f,d,iR,_,rfl,by omega,s6,?_,Z.congr (aG false s),?_⟩
   ·refine A.more (λv n=> .inl ?_) λv n=>(a7 true v).2 (.inl n)
    simp_all
   ·rw[tI,s];simpa using O
 refine jf ?_;obtain rfl:i=u.blocks.length:=by omega
 clear hk k hi;have aV:(lG u kp).length<=u.blocks.length:=by
  have:=U7 kp (List.range u.blocks.length)
  rwa [SB]at this
 rw[show(List.range u.blocks.length).filter kp=lG u kp from rfl]at H4;refine ed (H4.len 0 rfl) ?_;rw[B5];have co:(lG u kp).Nodup:=ZB.filter _;have bn:∀b∈lG u kp,b<u.blocks.length:=λb hb=>Rf.1 (HS.1 hb).1
 refine AZ (λk l h'=>∃(i:Nat) (D:Nat->Option (List Nat×V)),l=[.ptr lt 0,.slice ln 0 u.blocks.length,U,.I ((lG u kp).length:Nat),.I i]/\i+k=(lG u kp).length/\Sn F h J h'/\
  (∀b B w,bs[b]? =some (B,w)->D b=some (if b∈(lG u kp).take i then B.next.map (jj kp) else B.next,w))/\
  ej J h' (ev ta fo ((lG u kp).map λb=>(qF u kp b,N8 bs b)) U::ev eN en ns (.slice ln 0 u.blocks.length)::ev eB mg kl (.slice Y 0 u.blocks.length)::ev vE gi f wv::ev ta fo bs wb::fH en d::fH en D::ev eZ en iR iQ::er lt ty [.I u.func,.I u.pc,wv,wb,ws,iQ]::cs)) ?_ (k:=(lG u kp).length)
  ⟨0,fn,rfl,by omega,s4,λb B w bY=>by rw[hb.row b B w bY];simp,H4⟩
 clear H4 s4;rintro k _ _ _ _ _ h5 ⟨i,D,⟨⟩,hk,s5,ag,H5⟩;unfold rT;by_cases hi:i<(lG u kp).length
 ·refine gR ?_;have hx:=g0 hi;have aC:=xV hx;have bC:=bn _ (EA hi);have bZ:(lG u kp)[i] ∉ (lG u kp).take i:=by grind[mr,jk,JT,wBZ,oG]
  generalize (lG u kp)[i]=b at*;obtain⟨⟨B,wn⟩,M⟩:∃y,bs[b]? =some y:=⟨_,g0 (by omega)⟩
  have S:u.blocks[b]? =some B:=by rw[<-hb.fst,xk,M];rfl
  have aE:N8 bs b=wn:=by unfold N8;rw[M]
  have bo:((lG u kp).map λb=>(qF u kp b,N8 bs b))[i]? =some (qF u kp b,wn):=by rw[xk,hx,<-aE];rfl
  have cp:=g.walk.two b B S;have b4:∀t∈B.next,t<u.blocks.length:=λt ht=>g.walk.nx b t (by unfold next;rw[S];exact ht);have ab:=ag b B wn M;rw[if_neg bZ]at ab;obtain⟨lo,oo,w1,z1,_,⟨pv,pp,rfl,_,_,_⟩,z2⟩:=H5.WG 0 rfl bo .i64;have z1:hV 6 U (.I i)=some (.ptr lo oo):=z1;have z3:=z2 3 wn rfl;refine ed z1 (oF z3 (ed (H5.rows 6 rfl ab).len ?_))
  refine AI (λk' l h'=>∃(j:Nat) (D:Nat->Option (List Nat×V)),l=[.ptr lt 0,.slice ln 0 u.blocks.length,U,.I i,.I ((lG u kp).length:Nat),.I i,wn,.I B.next.length,.I j]/\j+k' = B.next.length/\Sn F h J h'/\
   (∀c B w,c≠b->bs[c]? =some (B,w)->D c=some (if c∈(lG u kp).take i then B.next.map (jj kp) else B.next,w))/\D b=some ((B.next.take j).map (jj kp)++B.next.drop j,wn)/\
   ej J h' (ev ta fo ((lG u kp).map λb=>(qF u kp b,N8 bs b)) U::ev eN en ns (.slice ln 0 u.blocks.length)::ev eB mg kl (.slice Y 0 u.blocks.length)::ev vE gi f wv::ev ta fo bs wb::fH en d::fH en D::ev eZ en iR iQ::er lt ty [.I u.func,.I u.pc,wv,wb,ws,iQ]::cs)) ?_ (k:=B.next.length)
   ⟨0,D,rfl,by omega,s5,λc B w _ hc=>ag c B w hc,ab,H5⟩
  clear H5 s5 z2 z3 ab ag;rintro k' _ _ _ _ _ _ _ _ _ h6 ⟨j,D,⟨⟩,ah,s6,ag,ab,O⟩;unfold sU;obtain⟨b5,b6,w1,z4,_,⟨pv,pp,rfl,_,_,_⟩,z2⟩:=O.WG 0 rfl bo .i64;have z4:hV 6 U (.I i)=some (.ptr b5 b6):=z4;have z3:=z2 3 wn rfl;by_cases hj:j<B.next.length
  ·refine gR ?_;have hn:=g0 hj;have aA:((B.next.take j).map (jj kp)++B.next.drop j)[j]? =some B.next[j]:=by
    rw[Ya (by simp;omega)];simp[JT,wBy (Nat.le_of_lt hj)]
   have br:((B.next.take j).map (jj kp)++B.next.drop j).set j (jj kp B.next[j])=(B.next.take (j+1)).map (jj kp)++B.next.drop (j+1):=by
    have hL:((B.next.take j).map (jj kp)).length=j:=by rw[B5,JT];omega
    rw[xV hn,MA,Mb,VV hj,List.set_append_right _ _ (by omega),hL,Nat.sub_self];rfl
   have aP:j<((B.next.take j).map (jj kp)++B.next.drop j).length:=(jk.1 aA).1;have b7:=b4 _ (EA hj);generalize B.next[j]=t at*;obtain⟨l1,o1,_,x1,x2⟩:=(O.rows 6 rfl ab).read.nat aA .i64;obtain⟨l2,o2,y1,y2⟩:=O.Ia 1 rfl (ae t b7) .i64;obtain⟨l3,o3,h7,e1,e2,n7,W,s7⟩:=O.XM 6 rfl ab aP (jj kp t);refine ed x1 (ed x2 (ed z4 (oF z3 (ed y1 (ed y2 (ed e1 ?_))))));rw[e2,ei];simp only[jx,lU]at W;refine⟨n7,fS ⟨k'-1,by omega,j+1,_,rfl,by omega,s6.trans s7,λc C w bt hc=>?_,?_,W⟩⟩
   ·rw[iI _ _ bt];exact ag c C w bt hc
   ·rw[jo,br]
  refine jf ?_;obtain rfl:j=B.next.length:=by omega
  rw[Hj,List.drop_length,HU]at ab;refine fS ⟨k-1,by omega,i+1,D,rfl,by omega,s6,λc C w hc=>?_,O⟩
  grind
 refine jf ?_;obtain rfl:i=(lG u kp).length:=by omega
 rw [Hj]at ag;clear hk k hi;obtain⟨h6,e6,_,O,s6⟩:=H5.st 8 (o:=3) (u:=U) rfl (by simp) (H5.one 0 rfl);refine ed (fI _ _) (ed (fR _ _ _) (ed (fR _ _ _) ?_));have b8:gh 1 (.ptr lt (0+0+3)) U h5=some (.val .undef h6):=e6;rw[b8,ei];simp only[jx,lU]at O;have b9:∀b,b∈lG u kp->∃B,u.blocks[b]? =some B/\bs[b]? =some (B,N8 bs b)/\u.blocks.getD b Mo=B:=λb ca=>by
  obtain⟨⟨B,w⟩,M⟩:∃y,bs[b]? =some y:=⟨_,g0 (by have:=bn b ca;omega)⟩
  have S:u.blocks[b]? =some B:=by rw[<-hb.fst,xk,M];rfl
  exact⟨B,S,by unfold N8;rw[M],by rw[CM,S];rfl⟩
 have W:=O.Uw (E':=ta) (ys:=(lG u kp).map λb=>(Bz u kp b,N8 bs b)) 0 rfl rfl (by simp) λk x y ws hx hy hr=>by
  rw[xk]at hx hy
  cases hkk:(lG u kp)[k]? with
  |none=>rw[hkk]at hx;cases hx
  | some b=>
    rw[hkk]at hx hy;cases hx;cases hy;exact hr
 simp only[jx]at W;obtain⟨al,bu⟩:∃al:Nat->Option (List Nat×V),∀k,al k=match (lG u kp)[k]? with|some b=>D b|none=>Option.none:=⟨_,λ_=>rfl⟩
 have cb:∀{k b:Nat},(lG u kp)[k]? =some b->al k=D b:=λhk=>by rw[bu,hk]
 have I:=W.Qg 6 rfl al (λk=>(lG u kp).getD k 0) (by grind) (by grind[lG,oG]);simp only[jx,lU]at I;have hU:∀c v,Ao u kp c u.blocks.length 0 v↔∃b k,At u v b k/\kp b=c:=λc v=>by
  constructor
  ·rintro(⟨b,k,_,h3,h4⟩|⟨k,h3,_⟩)
   ·exact⟨b,k,h4,h3⟩
   ·omega
  ·rintro⟨b,k,h4,h3⟩;exact .inl ⟨b,k,(let⟨_,h,_⟩:=h4;(jk.1 h).1),h3,h4⟩
 refine H J h6 seen post kp ⟨u.func,u.pc,f.map Prod.fst,(lG u kp).map (Bz u kp),u.eh⟩ f ((lG u kp).map λb=>(Bz u kp b,N8 bs b)) d al iR U (s5.trans s6) G aY ⟨rfl,rfl,rfl,rfl,by rw[B5,A.len],λv b k x B K hx ac R S=>?_,λv x hx hn=>?_⟩ ⟨rfl,λv x w hx=>?_,λv hv=>A.out v (by rw[A.len]at hv;exact hv)⟩ ⟨by rw[List.map_map];rfl,λk B w hx=>?_,λk hk=>?_⟩ ⟨Z.len,λv b k K R hv=>Z.gone v ((hU false v).2 ⟨b,k,K,R⟩) hv,λv hn=>Z.same v λhD=>hn ((hU false v).1 hD)⟩ I.U5
 ·obtain⟨w,n,_⟩:=A.Ae v b k x B ((hU true v).2 ⟨b,k,K,R⟩) K hx ac S;rw[xk,n];rfl
 ·obtain⟨w,n,_⟩:=A.same v x hx λ⟨n,N⟩=>hn ⟨n,(hU true v).1 N⟩;rw[xk,n];rfl
 ·have au:v<u.ef.length:=by rw[<-A.len];exact(jk.1 hx).1
  have hy:=g0 au;generalize u.ef[v]=y at*;by_cases hD:y.op=21/\Ao u kp true u.blocks.length 0 v
  ·obtain⟨b,k,K,R⟩:=(hU true v).1 hD.2;obtain⟨B,S,cq⟩:=id K;obtain⟨w',n,N⟩:=A.Ae v b k y B hD.2 K hy hD.1 S;rw[hx]at n;cases n;exact N
  ·obtain⟨w',n,N⟩:=A.same v y hy hD;rw[hx]at n;cases n;exact N
 ·rw[xk]at hx
  cases hkk:(lG u kp)[k]? with
  |none=>rw[hkk]at hx;cases hx
  | some b=>
    rw[hkk]at hx;cases hx;obtain⟨B,S,M,aH⟩:=b9 b (yC hkk);rw[cb hkk,ag b B _ M,if_pos (yC hkk)];unfold Bz;rw[aH]
 ·rw[B5]at hk;rw[bu,JA hk]
end
