/- Parts. -/
import Derived.Test.YtpnddokajmjpbaaDoorM28
namespace Go.Proofs.YtpnddokajmjpbaaDoor.Hx
open Go.Proofs.YtpnddokajmjpbaaDoor.Un Go.Proofs.YtpnddokajmjpbaaDoor.Dm
def Enc.fix {α:Type}(E:Enc α)(F:Nat->Prop)(h:Hp):Enc α where
 sz:=E.sz
 rel _ _ x cs:=E.rel F h x cs
 len h:=E.len h
 one h:=E.one h
 keep _ h:=h
 mono _ h:=h
section
variable{F F':Nat->Prop}{h h':Hp}{cs ds:List Pc}{Q:QP1}{u:U}{vv vb vs:V}
theorem Hold.ixF {α:Type}{E:Enc α}{ty:Nat}{xs:List α}{v:V}(H:Hold F h cs)(i:Nat)(hi:cs[i]? =some (rowP E ty xs v)){k:Nat}{x:α}(c:xs[k]? =some x)(kd:IntKind) :
  ∃l o w,pIx E.sz v (.int kd k)=some (.ptr l o)/\pLdA E.sz (.ptr l o) h=some (.agg w)/\E.rel F h x w/\∀j u,w[j]? =some u->pLd (.ptr l (o+j)) h=some u:=by
 obtain⟨d,rfl⟩:=wAB.1 c;have a:=(wAB.1 hi).1;exact(H.reR (E':=E.fix F h) i hi rfl rfl λk x y cs e b f=>by rw[e]at b;cases b;exact f).ix i (wAK a) d kd
theorem ld5 {l ty:Nat}{a b c d e f:V}(H:Hold F h cs)(i:Nat)(hi:cs[i]? =some (cellP l ty [a,b,c,d,e,f])):pLdA 5 (.ptr l 0) h=some (.agg [a,b,c,d,e]):=by
 rw[wK (H.get i hi)];rfl
theorem Hold.asBlocks (H:Hold F h cs)(i j:Nat) {ty d:Nat}{bs:List (Bk×V)}{fn:Nat->Option (List Nat×V)}{wb:V}{l:List Bk}(hi:cs[i]? =some (rowP eKx ty bs wb))(f:cs[j]? =some (rowsP d fn))(hc:CpB l bs fn):SlR eK (λl=>F l\/feet cs l) h l wb:=by
 refine(H.row i hi).read.reR rfl (λm c=>c.imp id λc=>⟨i,_,hi,c⟩) (by rw[<-hc.fst,wAb]) λk x y ws e g n=>?_;rw[<-hc.fst,wAQ,e]at g;cases g;have o:=(H.rows j f (hc.row k x.1 x.2 e)).slR (F':=λl=>F l\/feet cs l) (λ_ h=> .inl h) λm c=> .inr ⟨j,_,f,k,_,_,hc.row k x.1 x.2 e,c⟩;obtain⟨a,b,p,q,r,_⟩:=n;exact⟨a,x.2,b,p,q.mono λm c=>c.imp id λc=>⟨i,_,hi,c⟩,o,r.mono λm c=>c.imp id λc=>⟨i,_,hi,c⟩⟩
end
structure Cutable (u:U):Prop where
 walk:Walk u
 nv:u.vals.length<=3000
 at2:∀(v:Nat) (b:Nat) (k:Nat) (a:Nat) (k':Nat),At u v b k->At u v a k'->b=a/\k=k'
 atlt:∀(v:Nat) (b:Nat) (k:Nat),At u v b k->v<u.vals.length
 pre:∀(b:Nat) (B:Bk),u.blocks[b]? =some B->B.preds.length<=700/\∀p∈B.preds,p<u.blocks.length
 phi:∀(v b k:Nat) (x:Vl) (B:Bk),At u v b k->u.vals[v]? =some x->x.op=21->u.blocks[b]? =some B->x.args.length=B.preds.length
 args:∀(v:Nat) (x:Vl),u.vals[v]? =some x->x.args.length<=700
structure CutV (u:U) (kp:Nat->Bool) (D:Nat->Prop) (xs:List (Vl×V)) (fa:Nat->Option (List Nat×V)):Prop where
 len:xs.length=u.vals.length
 out:∀i,u.vals.length<=i->fa i=none
 phi:∀(v b k:Nat) (x:Vl) (B:Bk),D v->At u v b k->u.vals[v]? =some x->x.op=21->u.blocks[b]? =some B->∃w,xs[v]? =some ({x with args:=cutArgs u kp b B.preds x.args},w)/\fa v=some (cutArgs u kp b B.preds x.args,w)
 same:∀(v:Nat) (x:Vl),u.vals[v]? =some x->¬(x.op=21/\D v)->∃w,xs[v]? =some (x,w)/\fa v=some (x.args,w)
structure AsD (D:Nat->Prop) (az a:List Int):Prop where
 len:a.length=az.length
 gone:∀(v:Nat),D v->v<az.length->a[v]? =some (-1)
 same:∀(v:Nat),¬D v->a[v]? =az[v]?
theorem CutV.more {D D':Nat->Prop}{u:U}{kp:Nat->Bool}{xs:List (Vl×V)}{fa:Nat->Option (List Nat×V)}(c:CutV u kp D xs fa)(h:∀v,D' v->D v\/∃x,u.vals[v]? =some x/\x.op≠21)(e:∀v,D v->D' v):CutV u kp D' xs fa where
 len:=c.len
 out:=c.out
 phi v b k x B hD hat hx hop hB:=by
  rcases h v hD with a|⟨y,a,d⟩
  ·exact c.phi v b k x B a hat hx hop hB
  ·rw[hx]at a;cases a;exact absurd hop d
 same v x hx hn:=c.same v x hx λ⟨a,d⟩=>hn ⟨a,e v d⟩
theorem CutV.put {D:Nat->Prop}{u:U}{kp:Nat->Bool}{xs:List (Vl×V)}{fa:Nat->Option (List Nat×V)}(g:Cutable u)(c:CutV u kp D xs fa){v b k:Nat}{x:Vl}{B:Bk}(f:At u v b k)(d:u.vals[v]? =some x)(j:x.op=21)(l:u.blocks[b]? =some B)(w:V) :
  CutV u kp (λa=>D a\/a=v) (xs.set v ({x with args:=cutArgs u kp b B.preds x.args},w)) (up fa v (some (cutArgs u kp b B.preds x.args,w))) where
 len:=by rw[wA6];exact c.len
 out i hi:=by
  have:=(wAB.1 d).1;rw[fP _ _ (by omega)];exact c.out i hi
 phi a b' k' y B' hD hat' hy hop' hB':=by
  by_cases e:a=v
  ·subst e;obtain⟨rfl,rfl⟩:=g.at2 _ _ _ _ _ f hat';rw[d]at hy;cases hy;rw[l]at hB';cases hB';exact⟨w,wAK (by rw[c.len];exact(wAB.1 d).1),fS _ _ _⟩
  ·rw[wAN λh=>e h.symm,fP _ _ e];exact c.phi a b' k' y B' (hD.resolve_right e) hat' hy hop' hB'
 same a y hy hn:=by
  by_cases e:a=v
  ·subst e;rw[d]at hy;cases hy;exact absurd ⟨j,.inr rfl⟩ hn
  ·rw[wAN λh=>e h.symm,fP _ _ e];exact c.same a y hy λ⟨m,n⟩=>hn ⟨m,.inl n⟩
theorem AsD.congr {D D':Nat->Prop} {az a:List Int}(c:AsD D az a)(h:∀v,D v↔D' v):AsD D' az a:=
 ⟨c.len,λv b=>c.gone v ((h v).2 b),λv b=>c.same v λd=>b ((h v).1 d)⟩
theorem AsD.put {D:Nat->Prop} {az b:List Int}(c:AsD D az b)(v:Nat):AsD (λa=>D a\/a=v) az (b.set v (-1)) where
 len:=by rw[wA6];exact c.len
 gone a ha hl:=by
  by_cases e:a=v
  ·subst e;exact wAK (by rw[c.len];exact hl)
  ·rw[wAN λh=>e h.symm];exact c.gone a (ha.resolve_right e) hl
 same a ha:=by
  rw[wAN λh=>ha (.inr h.symm)];exact c.same a λh=>ha (.inl h)
def Until (u:U)(kp:Nat->Bool)(c:Bool)(i j:Nat)(v:Nat):Prop:=(∃b k,b<i/\kp b=c/\At u v b k)\/∃k,k<j/\At u v i k
section
variable{F F':Nat->Prop}{h h':Hp}{cs ds:List Pc}{Q:QP1}{u:U}
theorem Hold.natAt {ty:Nat}{xs:List Nat}{v q:V}(H:Hold F h cs)(i:Nat)(hi:cs[i]? =some (rowP eN ty xs v)){k x:Nat}(b:xs[k]? =some x){kd:IntKind}(hq:pIx 1 v (.int kd (k:Nat))=some q):pLd q h=some (.int .i64 x):=by
 obtain⟨l,o,a,c⟩:=H.natR i hi b kd;rw[hq]at a;cases a;exact c
theorem Hold.row1 (H:Hold F h cs)(i:Nat){l n:Nat}(hi:cs[i]? =some (cellP l tyInt [.int .i64 n])):Hold F h (cs.set i (rowP eN tyInt [n] (.slice l 0 1))):=by
 have a:=H.ok i _ hi;exact H.swap hi (.inr ⟨l,_,rfl,a.2.1,a.2.2,a.1,⟨[.int .i64 n],[],rfl,rfl,trivial⟩,rfl⟩) λm e=>e.symm
theorem Hold.rowsInAt {ι:Type} [DecidableEq ι] {ty:Nat}{f:ι->Option (List Nat×V)}{xs:List Nat}{v:V}(H:Hold F h (rowP eN ty xs v::cs))(n:Nat)(p:cs[n]? =some (rowsP ty f)){i:ι}(hi:f i=Option.none):Hold F h (cs.set n (rowsP ty (up f i (some (xs,v))))):=by
 have h0:=H.ok 0 _ rfl;have q:=H.ok (n+1) _ p;have z:∀l,Loc v l->¬(rowsP ty f).foot l:=λl g=>H.dis 0 (n+1) _ _ rfl p (by omega) l g;have D:∀l,(rowsP ty (up f i (some (xs,v)))).foot l->Loc v l\/(rowsP ty f).foot l:=by
  rintro l ⟨k,ys,w,m,A⟩;by_cases e:k=i
  ·subst e;rw[fS]at m;cases m;exact .inl A
  ·rw[fP _ _ e]at m;exact .inr ⟨k,ys,w,m,A⟩
 have r:∀j c,j≠n->cs[j]? =some c->∀l,(rowsP ty (up f i (some (xs,v)))).foot l->¬c.foot l:=λj c o hc l g=>(D l g).elim (H.dis 0 (j+1) _ c rfl hc (by omega) l) (H.dis (n+1) (j+1) _ c p hc (by omega) l);refine⟨H.fl,λj c hc=>?_,λj k a b E B u l g d=>?_⟩
 ·rcases rh hc with⟨_,rfl⟩|⟨_,s⟩
  ·refine ⟨λj ys w o=>?_,λj k ys w C x o m p l g d=>?_⟩
   ·by_cases e:j=i
    ·subst e;rw[fS]at o;cases o;exact h0
    ·rw[fP _ _ e]at o;exact q.1 j ys w o
   ·by_cases e:j=i
    ·subst e;rw[fS]at o;cases o;rw[fP _ _ λe=>p e.symm]at m;exact z l g ⟨k,C,x,m,d⟩
    ·rw[fP _ _ e]at o;by_cases e':k=i
     ·subst e';rw[fS]at m;cases m;exact z l d ⟨j,ys,w,o,g⟩
     ·rw[fP _ _ e']at m;exact q.2 j k ys w C x o m p l g d
  ·exact H.ok (j+1) c s
 ·rcases rh E with⟨y,rfl⟩|⟨y,q⟩
  ·rcases rh B with⟨t,_⟩|⟨t,s⟩
   ·exact u (y.trans t.symm)
   ·exact r k b t s l g d
  ·rcases rh B with⟨t,rfl⟩|⟨_,s⟩
   ·exact r j a y q l d g
   ·exact H.dis (j+1) (k+1) a b q s (by omega) l g d
theorem Hold.blocksOut {a b c d e f x y z:Pc}(H:Hold F h (a::b::c::d::e::f::x::y::z::cs)):Hold F h (d::a::f::x::y::z::cs):=
 H.re (λi=>match i with|0=>3|1=>0|n+2=>n+5) (λi c hc=>match i,hc with|0,hc=>hc|1,hc=>hc|n+2,hc=>hc) λi j _ _ e=>by
  match i,j with
  |0,0|1,1=>rfl
  |0,1|1,0=>simp at e
  |0,n+2|1,n+2|n+2,0|n+2,1=>simp at e;try omega
  |n+2,k+2=>simp at e;omega
theorem rQ {α:Type}{l:List α}{i:Nat}{x:α}(h:l[i]? =some x):l.take (i+1)=l.take i++[x]:=by
 obtain⟨a,rfl⟩:=wAB.1 h;exact wAT a
theorem oY (p:Nat->Bool)(i:Nat):(List.range (i+1)).filter p=(List.range i).filter p++if p i=true then[i] else[]:=by
 rw[wBg,wBb,wBh];rfl
end
def wOf (bs:List (Bk×V))(b:Nat):V:=match bs[b]? with
 |some x=>x.2
 |none=> .undef
def midBlk (u:U)(kp:Nat->Bool)(b:Nat):Bk:={u.blocks.getD b noBk with preds:=cutPreds u kp b (u.blocks.getD b noBk).preds}
section
variable{F F':Nat->Prop}{h h':Hp}{cs ds:List Pc}{Q:QP1}{u:U}{wv wb ws asv:V}{lt ty:Nat}{az:List Int}{xs:List (Vl×V)}{bs:List (Bk×V)}{fa fn:Nat->Option (List Nat×V)}
theorem Gj (g:Cutable u)(hc:CpV u.vals xs fa)(S:CpB u.blocks bs fn)(cl:az.length=u.vals.length)(bD:ws.one=true)
  (H0:Hold F h (rowP eVx tyVal xs wv::rowP eKx tyBlock bs wb::rowsP tyInt fa::rowsP tyInt fn::rowP eZ tyInt az asv::cellP lt ty [.int .i64 u.func,.int .i64 u.pc,wv,wb,ws,asv]::cs))
  (H:∀F' h' seen post kp u' r aW d J s aX,Sn F h F' h'->Go_ u.blocks.length (next u) seen post []->kp=(λb=>post.reverse.contains b)->Cut u kp u'->CpV u'.vals r d->CpB u'.blocks aW J->CutAs u kp az s->
   Hold F' h' (rowP eVx tyVal r wv::rowP eKx tyBlock aW aX::rowsP tyInt d::rowsP tyInt J::rowP eZ tyInt s asv::cellP lt ty [.int .i64 u.func,.int .i64 u.pc,wv,aX,ws,asv]::cs)->Q (.tuple []) h') :
  cP CS iX [.ptr lt 0] h Q:=by
 refine wY rfl rfl ?_;unfold qV;have nb:=g.walk.nb;have nv:=g.nv;have aY:bs.length=u.blocks.length:=by rw[<-S.fst,wAb]
 have bE:xs.length=u.vals.length:=by rw[<-hc.fst,wAb]
 have fz:∀{h:Hp} {cs:List Pc},pFA 0 (.ptr lt 0)=some (.ptr lt 0):=rfl;refine d9 (fc _ _) (d9 (ed _ _ _) (oF (H0.ld 5 rfl rfl) (d9 (H0.len 1 rfl) ?_)));rw[aY,gh (z:=V.bool false) rfl (by decide) (by omega),ev];obtain⟨H1,s1⟩:=H0.make (E:=eB) (ty:=tyBool) (y:=false) (u:=V.bool false) u.blocks.length rfl rfl;generalize h.new (.cells tyBool 1 true false (List.replicate u.blocks.length (V.bool false)))=n at*;generalize h.next=lk at*;refine d9 (fc _ _) (d9 (ed _ _ _) (d9 (ld5 H1 6 rfl) ?_));have aE:allOne (uC u wv wb ws)=true:=by simp only[uC,ee,H1.one 1 rfl,H1.one 2 rfl,bD];rfl
 refine Ce g.walk H1.lend aE (H1.asBlocks 2 4 rfl rfl S) λL vo seen post aH aZ G=>?_;have H2:=H1.backR aH aZ;have a5:=s1.trans aH.back;clear aH aZ aE fz s1 H1;have ae:∀b∈post.reverse,b<u.blocks.length:=λb S=>G.pre b (wBD.1 S);have bG:post.reverse.length<=u.blocks.length:=by
  have n:=G.nodup;rw[wBa,wAa]at n;rw[List.length_reverse];exact iy _ _ n G.pre
 generalize a6:post.reverse=T at H2 ae bG⊢;refine d9 (H2.len 0 rfl) ?_
 refine uB (λk l h'=>∃(i:Nat) (kl:List Bool),l=[.ptr lt 0,.slice lk 0 u.blocks.length,vo,.int .i64 T.length,.int .i64 i]/\i+k=T.length/\kl.length=u.blocks.length/\(∀b,b<u.blocks.length->kl[b]? =some ((T.take i).contains b))/\Sn F h F h'/\
  Hold F h' (rowP eN tyInt T vo::rowP eB tyBool kl (.slice lk 0 u.blocks.length)::rowP eVx tyVal xs wv::rowP eKx tyBlock bs wb::rowsP tyInt fa::rowsP tyInt fn::rowP eZ tyInt az asv::cellP lt ty [.int .i64 u.func,.int .i64 u.pc,wv,wb,ws,asv]::cs)) ?_ (k:=T.length)
  ⟨0,_,rfl,by omega,wAi,λb S=>by rw[wA4,if_pos S];rfl,a5,H2⟩
 rintro k _ _ _ _ _ h3 ⟨i,kl,⟨⟩,Z,a7,U,s3,H3⟩;unfold oG;by_cases hi:i<T.length
 ·refine ltYes ?_;have f:=wAA hi;have al:T.take (i+1)=T.take i++[T[i]]:=wAT hi;generalize T[i]=b at*;have bH:=ae b (wAI f);obtain⟨l1,o1,x1,x2⟩:=H3.natR 0 rfl f .i64;obtain⟨l2,o2,h4,e1,e2,_,H4,s4⟩:=H3.stR 1 rfl (k:=b) (y:=true) (u:=V.bool true) (by omega) rfl rfl rfl;refine d9 x1 (d9 x2 (d9 e1 ?_));rw[e2,ec];simp only[wAC,wAE]at H4;refine addOne ⟨k-1,by omega,i+1,kl.set b true,rfl,by omega,by simp[a7],λc aI=>?_,s3.trans s4,H4⟩;rw[al];by_cases e:c=b
  ·subst e;rw[wAK (by omega)];simp
  ·rw[wAN λh=>e h.symm,U c aI];simp[e]
 refine ltNo ?_;obtain rfl:i=T.length:=by omega
 rw[wAg]at U;clear Z k H2;have H3:=H3.tail;obtain⟨kp,a8⟩:∃kp:Nat->Bool,(λb=>T.contains b)=kp:=⟨_,rfl⟩
 have U:∀b,b<u.blocks.length->kl[b]? =some (kp b):=λb S=>by rw[U b S,<-a8]
 have a9:kp=λb=>post.reverse.contains b:=by rw[a6,a8]
 have ba:pLen (.slice lk 0 u.blocks.length)=some (.int .i64 u.blocks.length):=rfl;refine d9 ba ?_;rw[gh (z:=V.int .i64 0) rfl (by decide) (by omega),ev];obtain⟨H4,s4⟩:=H3.make (E:=eN) (ty:=tyInt) (y:=0) (u:=V.int .i64 0) u.blocks.length rfl rfl;generalize h3.new (.cells tyInt 1 true false (List.replicate u.blocks.length (V.int .i64 0)))=h4 at*;generalize h3.next=ln at*;refine d9 ba ?_;have bb:=s3.trans s4;clear a5 s3 s4 H3
 refine uR (λk l h'=>∃(i:Nat) (ns:List Nat),l=[.ptr lt 0,.slice lk 0 u.blocks.length,.slice ln 0 u.blocks.length,.int .i64 (((List.range i).filter kp).length:Nat),.slice lk 0 u.blocks.length,.int .i64 u.blocks.length,.int .i64 i]/\i+k=u.blocks.length/\ns.length=u.blocks.length/\(∀b,b<i->ns[b]? =some (numB kp b))/\(∀b,i<=b->b<u.blocks.length->ns[b]? =some 0)/\Sn F h F h'/\
  Hold F h' (rowP eN tyInt ns (.slice ln 0 u.blocks.length)::rowP eB tyBool kl (.slice lk 0 u.blocks.length)::rowP eVx tyVal xs wv::rowP eKx tyBlock bs wb::rowsP tyInt fa::rowsP tyInt fn::rowP eZ tyInt az asv::cellP lt ty [.int .i64 u.func,.int .i64 u.pc,wv,wb,ws,asv]::cs)) ?_ (k:=u.blocks.length)
  ⟨0,_,rfl,by omega,wAi,λb S=>by omega,λb _ S=>by rw[wA4,if_pos S],bb,H4⟩
 clear bb H4 H0;rintro k _ _ _ _ _ _ _ h3 ⟨i,ns,⟨⟩,Z,ai,ax,ay,s3,H3⟩;unfold nM;have bc:((List.range i).filter kp).length<=i:=by
  have:=wBo kp (List.range i)
  rwa [wBY]at this
 by_cases hi:i<u.blocks.length
 ·refine ltYes ?_;obtain⟨l1,o1,x1,x2⟩:=H3.boolR 1 rfl (U i hi) .i64;refine d9 x1 (d9 x2 (st_b ?_));have hr:((List.range (i+1)).filter kp).length=((List.range i).filter kp).length+(if kp i=true then 1 else 0):=by
   rw[wBg,wBb,wAM,wBh];split <;> rfl
  by_cases D:kp i=true
  ·refine if_t D ?_;obtain⟨l2,o2,h4,e1,e2,_,H4,s4⟩:=H3.stR 0 rfl (k:=i) (y:=((List.range i).filter kp).length) (u:=V.int .i64 (((List.range i).filter kp).length:Nat)) (by omega) rfl rfl rfl;refine d9 e1 ?_;rw[e2,ec];simp only[wAC]at H4;refine addOne (nl ?_);unfold jh;rw[if_pos D]at hr;refine addOne ⟨k-1,by omega,i+1,ns.set i ((List.range i).filter kp).length,by rw[hr],by omega,by simp[ai],λb S=>?_,λb S aJ=>?_,s3.trans s4,H4⟩
   ·by_cases e:b=i
    ·subst e;rw[wAK (by omega)];unfold numB;rw[if_pos D]
    ·rw[wAN λh=>e h.symm];exact ax b (by omega)
   ·rw[wAN (by omega)];exact ay b (by omega) aJ
  ·refine if_f D (nl ?_);unfold jh;rw[if_neg D,wB0]at hr;refine addOne ⟨k-1,by omega,i+1,ns,by rw[hr];rfl,by omega,ai,λb S=>?_,λb S aJ=>ay b (by omega) aJ,s3,H3⟩;by_cases e:b=i
   ·subst e;rw[ay b (wAF _) hi];unfold numB;rw[if_neg D]
   ·exact ax b (by omega)
 refine ltNo ?_;obtain rfl:i=u.blocks.length:=by omega
 clear Z k ay bc;refine d9 (fc _ _) (d9 (ed _ _ _) (oF (H3.ld 7 rfl rfl) (d9 (H3.len 3 rfl) ?_)));rw[aY];have H3:Hold F h3 (rowP eKx tyBlock [] .nilSlice::rowP eN tyInt ns (.slice ln 0 u.blocks.length)::rowP eB tyBool kl (.slice lk 0 u.blocks.length)::rowP eVx tyVal xs wv::rowP eKx tyBlock bs wb::rowsP tyInt fa::rowsP tyInt fn::rowP eZ tyInt az asv::cellP lt ty [.int .i64 u.func,.int .i64 u.pc,wv,wb,ws,asv]::cs):=H3.add .nil λ_ h=>h;have ai:∀b,b<u.blocks.length->ns[b]? =some (numB kp b):=ax
 refine uA (λk l h'=>∃(F':Nat->Prop) (i:Nat) (r:List (Vl×V)) (d:Nat->Option (List Nat×V)) (s:List Int) (wo:V),l=[.ptr lt 0,.slice lk 0 u.blocks.length,.slice ln 0 u.blocks.length,wo,wb,.int .i64 u.blocks.length,.int .i64 i]/\i+k=u.blocks.length/\Sn F h F' h'/\
  CutV u kp (Until u kp true i 0) r d/\AsD (Until u kp false i 0) az s/\
  Hold F' h' (rowP eKx tyBlock (((List.range i).filter kp).map λb=>(midBlk u kp b,wOf bs b)) wo::rowP eN tyInt ns (.slice ln 0 u.blocks.length)::rowP eB tyBool kl (.slice lk 0 u.blocks.length)::rowP eVx tyVal r wv::rowP eKx tyBlock bs wb::rowsP tyInt d::rowsP tyInt fn::rowP eZ tyInt s asv::cellP lt ty [.int .i64 u.func,.int .i64 u.pc,wv,wb,ws,asv]::cs)) ?_ (k:=u.blocks.length)
  ⟨F,0,xs,fa,az,.nilSlice,rfl,by omega,s3,?_,?_,H3⟩
 rotate_left
 ·refine ⟨bE,λi hi=>hc.out i (by omega),λv b k x B hD=>?_,λv x f _=>?_⟩
  ·rcases hD with⟨_,_,h,_⟩|⟨_,h,_⟩ <;> omega
  ·rw[<-hc.fst,wAQ]at f
   cases hy:xs[v]? with
   |none=>rw[hy]at f;cases f
   | some y=>
     rw[hy]at f;cases f;exact⟨y.2,rfl,hc.row v y.1 y.2 hy⟩
 ·refine⟨rfl,λv hD=>?_,λv _=>rfl⟩;rcases hD with⟨_,_,h,_⟩|⟨_,h,_⟩ <;> omega
 clear H3 s3 hi ax;rintro k _ _ _ wo _ _ _ h4 ⟨M,i,r,d,s,_,⟨⟩,Z,s4,I,aa,H4⟩;unfold oE;by_cases hi:i<u.blocks.length
 ·refine ltYes ?_;obtain⟨⟨B,wn⟩,N⟩:∃y,bs[i]? =some y:=⟨_,wAA (by omega)⟩
  have X:u.blocks[i]? =some B:=by rw[<-S.fst,wAQ,N];rfl
  have aK:wOf bs i=wn:=by unfold wOf;rw[N]
  obtain ⟨l1,o1,w1,x1,x2,⟨bv,bp,rfl,iv,ip,aL⟩,_⟩:=H4.ixF 4 rfl N .i64;have x1:pIx 6 wb (.int .i64 i)=some (.ptr l1 o1):=x1;have x2:pLdA 6 (.ptr l1 o1) h4=some (.agg (bkC B bv wn bp)):=x2;refine d9 x1 (d9 x2 ?_);refine fU H4 rfl rfl (by simp only[bkC,ee,iv.one,ip.one,aL];rfl) λh5 H5 s5=>?_;generalize h4.next=lb at*;have iv:=iv.since s5;have ip:=ip.since s5;clear x1 x2;obtain⟨l2,o2,y1,y2⟩:=H5.boolR 3 rfl (U i hi) .i64;refine d9 y1 (d9 y2 (jE ?_));have aA:∀c v,Until u kp c (i+1) 0 v↔Until u kp c i 0 v\/(kp i=c/\∃k,At u v i k):=λc v=>by
   constructor
   ·rintro(⟨b,k,n,L,h3⟩|⟨k,n,_⟩)
    ·by_cases e:b=i
     ·subst e;exact .inr ⟨L,k,h3⟩
     ·exact .inl (.inl ⟨b,k,by omega,L,h3⟩)
    ·omega
   ·rintro((⟨b,k,n,L,h3⟩|⟨k,n,_⟩)|⟨n,k,L⟩)
    ·exact .inl ⟨b,k,by omega,L,h3⟩
    ·omega
    ·exact .inl ⟨i,k,by omega,n,L⟩
  have am:∀c j w,B.vals[j]? =some w->∀v,Until u kp c i (j+1) v↔Until u kp c i j v\/v=w:=λc j w hw v=>by
   constructor
   ·rintro(n|⟨k,n,L⟩)
    ·exact .inl (.inl n)
    ·by_cases e:k=j
     ·subst e;obtain⟨B',e1,e2⟩:=L;rw[X]at e1;cases e1;rw[hw]at e2;cases e2;exact .inr rfl
     ·exact .inl (.inr ⟨k,by omega,L⟩)
   ·rintro((n|⟨k,n,L⟩)|rfl)
    ·exact .inl n
    ·exact .inr ⟨k,by omega,L⟩
    ·exact .inr ⟨j,by omega,B,X,hw⟩
  have an:∀c,kp i=c->∀v,Until u kp c i B.vals.length v↔Until u kp c (i+1) 0 v:=λc bI v=>by
   rw[aA];constructor
   ·rintro(n|⟨k,n,L⟩)
    ·exact .inl (.inl n)
    ·exact .inr ⟨bI,k,L⟩
   ·rintro((n|⟨k,n,_⟩)|⟨_,k,B',e1,e2⟩)
    ·exact .inl n
    ·omega
    ·rw[X]at e1;cases e1;exact .inr ⟨k,(wAB.1 e2).1,B,X,e2⟩
  have cg:B.vals.length<=u.vals.length:=by
   refine iy u.vals.length B.vals ?_ λv hv=>?_
   ·rw[wBj,wA3];intro a b ha S cm e;have:=(g.at2 B.vals[a] i a i b ⟨B,X,wAA ha⟩ ⟨B,X,by rw[e];exact wAA S⟩).2;omega
   ·obtain⟨k,Z⟩:=wAD.1 hv;exact g.atlt v i k ⟨B,X,Z⟩
  by_cases D:kp i=true
  ·refine if_t D ?_;have bJ:=g.pre i B X;have aM:u.blocks.getD i noBk=B:=by rw[wAL,X];rfl
   have bq:∀{e sz:Nat} {a b:Bool} {cs:List V},O.beq (.cells e sz a b cs) (.cells e sz a b cs)=true:=O.beq_cells _ _ _ _ _;refine oF (H5.ld 0 rfl rfl) (d9 ip.len ?_);obtain⟨c,aN⟩:∃c:Nat->Bool,(λj=>kp (B.preds.getD j 0)&&(next u (B.preds.getD j 0)).contains i)=c:=⟨_,rfl⟩
   have aO:(List.range B.preds.length).filter c=stayJ u kp i B.preds:=by rw[<-aN];rfl
   have H5:=(H5.add (p:=rowP eN tyInt [] .nilSlice) .nil λ_ h=>h).add (p:=rowP eN tyInt [] .nilSlice) .nil λ_ h=>h
   refine us (λk' l h'=>∃(j:Nat) (Y A:V),l=[.ptr lt 0,.slice lk 0 u.blocks.length,.slice ln 0 u.blocks.length,wo,.int .i64 i,.ptr lb 0,Y,A,wb,.int .i64 u.blocks.length,.int .i64 i,bp,.int .i64 B.preds.length,.int .i64 j]/\j+k' = B.preds.length/\Sn F h M h'/\Sn M h5 M h'/\
    Hold M h' (rowP eN tyInt (((List.range j).filter c).map λj=>numB kp (B.preds.getD j 0)) A::rowP eN tyInt ((List.range j).filter c) Y::cellP lb 44 (bkC B bv wn bp)::rowP eKx tyBlock (((List.range i).filter kp).map λb=>(midBlk u kp b,wOf bs b)) wo::rowP eN tyInt ns (.slice ln 0 u.blocks.length)::rowP eB tyBool kl (.slice lk 0 u.blocks.length)::rowP eVx tyVal r wv::rowP eKx tyBlock bs wb::rowsP tyInt d::rowsP tyInt fn::rowP eZ tyInt s asv::cellP lt ty [.int .i64 u.func,.int .i64 u.pc,wv,wb,ws,asv]::cs)) ?_ (k:=B.preds.length)
    ⟨0,.nilSlice,.nilSlice,rfl,by omega,s4.trans s5,Sn.refl _ _,H5⟩
   clear H5 H4;rintro k' _ _ _ _ _ _ Y A _ _ _ _ _ _ h6 ⟨j,_,_,⟨⟩,ag,s6,ab,W⟩;unfold oL;have aI:((List.range j).filter c).length<=j:=by
    have:=wBo c (List.range j)
    rwa [wBY]at this
   by_cases hj:j<B.preds.length
   ·refine ltYes ?_;have f:=wAA hj;have aB:=bJ.2 B.preds[j] (wAR hj);have bd:B.preds.getD j 0=B.preds[j]:=by rw[wAL,f];rfl
    generalize B.preds[j]=p at*;obtain⟨l1,o1,_,x1,x2⟩:=(ip.since ab).nat f .i64;obtain⟨l2,o2,y1,y2⟩:=W.boolR 5 rfl (U p aB) .i64;refine d9 x1 (d9 x2 (d9 y1 (d9 y2 ?_)));have aP:=oY c j;have ao:c j=(kp p&&(next u p).contains i):=by rw[<-aN];simp only[bd]
    cases hkp':kp p with
    | false=>
      refine ft (ft (ft (ft (ft (ft (ft (ft (ft (ft (wZ ?_))))))))));refine d9 (show pPick (.bool false) .undef (.bool false)=some (.bool false) from rfl) (st_b (if_f (by decide) (je ?_)));unfold g0;refine gj (m:=1) (by omega) (by omega) ⟨k'-1,by omega,j+1,Y,A,rfl,by omega,s6,ab,?_⟩;rw[aP,show c j=false by rw[ao,hkp'];rfl]
      simpa using W
    | true=>
      obtain⟨⟨P,wp⟩,aQ⟩:∃y,bs[p]? =some y:=⟨_,wAA (by omega)⟩
      have hP:u.blocks[p]? =some P:=by rw[<-S.fst,wAQ,aQ];rfl
      have bK:next u p=P.next:=by unfold next;rw[hP]
      obtain⟨l3,o3,w3,z1,_,⟨pv,pp,rfl,_,_,_⟩,z2⟩:=W.ixF 7 rfl aQ .i64;have z1:pIx 6 wb (.int .i64 (p:Nat))=some (.ptr l3 o3):=z1;have z3:=z2 3 wp rfl;refine fi (d9 rfl (fi (d9 (fc _ _) (fi (d9 (ed _ _ _) (fi (d9 (ed _ _ _) (fi (d9 (W.ld 11 rfl rfl) (fi (d9 rfl (fi (d9 z1 (fi (d9 (ed _ _ _) (fi (d9 z3 (fi (d9 rfl (uU ?_))))))))))))))))))));refine JU (W.rows 9 rfl (S.row p P wp aQ)).read (by have:=g.walk.two p P hP;omega) i ?_;rw[<-bK];refine d9 (show pPick (.bool true) (.bool ((next u p).contains i)) (.bool false)=some (.bool ((next u p).contains i)) from rfl) (st_b ?_);rw[hkp',Bool.true_and]at ao;by_cases aj:(next u p).contains i=true
      ·refine if_t aj ?_
       rw[aj]at ao;rw[iY,fD];obtain⟨H7,s7⟩:=W.newC tyInt (nats [j]);have H7:Hold M (h6.new (.cells 3 1 true false (nats [j]))) (cellP h6.next 3 (nats [j])::_):=H7;have s7:Sn M h6 M (h6.new (.cells 3 1 true false (nats [j]))):=s7;generalize h6.new (.cells 3 1 true false (nats [j]))=h7 at*;generalize h6.next=r1 at*;obtain⟨l4,o4,n1,n2⟩:=H7.natR 5 rfl (ai p aB) .i64;refine d9 n1 (d9 n2 ?_);rw[iY,fD];obtain⟨K,s8⟩:=H7.newC tyInt (nats [numB kp p]);have K:Hold M (h7.new (.cells 3 1 true false (nats [numB kp p]))) (cellP h7.next 3 (nats [numB kp p])::cellP r1 3 (nats [j])::_):=K;have s8:Sn M h7 M (h7.new (.cells 3 1 true false (nats [numB kp p]))):=s8;generalize h7.new (.cells 3 1 true false (nats [numB kp p]))=h8 at*;generalize h7.next=r2 at*;refine⟨⟨K.get 0 rfl,bq⟩,K.natAt 6 rfl (ai p aB) n1,⟨K.get 1 rfl,bq⟩,?_⟩;have K:=K.row1 1 rfl;simp only[wAC,wAE]at K;obtain⟨va,h9,e9,n9,H9,s9⟩:=K.appO 3 1 rfl rfl (by_:=8) (by decide) (by decide) (by simp;omega);have ap:happend 3 1 8 Y (.slice r1 0 1) h8=some (.val va h9):=e9;simp only[wAC,wAE]at H9;rw[ap,ec];refine⟨n9,⟨H9.get 0 rfl,bq⟩,H9.natAt 6 rfl (ai p aB) n1,?_⟩;have H9:=H9.row1 0 rfl;simp only[wAC]at H9;obtain⟨vc,bL,bQ,bR,aq,bS⟩:=H9.appO 2 0 rfl rfl (by_:=8) (by decide) (by decide) (by simp;omega);have be:happend 3 1 8 A (.slice r2 0 1) h9=some (.val vc bL):=bQ;rw[be,ec];simp only[wAC,wAE]at aq;refine⟨bR,je ?_⟩;unfold g0;have sA:=((s7.trans s8).trans s9).trans bS;refine gj (m:=1) (by omega) (by omega) ⟨k'-1,by omega,j+1,va,vc,rfl,by omega,s6.trans sA,ab.trans sA,?_⟩;rw[aP,ao,if_pos rfl,wAx,wBO,wBa,bd];exact aq.tail.tail
      ·refine if_f aj (je ?_)
       unfold g0;refine gj (m:=1) (by omega) (by omega) ⟨k'-1,by omega,j+1,Y,A,rfl,by omega,s6,ab,?_⟩;rw[aP,show c j=false by rw[ao];simpa using aj];simpa using W
   refine ltNo ?_;obtain rfl:j=B.preds.length:=by omega
   rw[aO]at W;have cn:(stayJ u kp i B.preds).length<=700:=by rw[<-aO];omega
   have bU:∀m∈stayJ u kp i B.preds,m<B.preds.length:=λm hm=>by
    unfold stayJ at hm;exact wBJ.1 (wA7.1 hm).1
   have bf:(stayJ u kp i B.preds).map (λj=>numB kp (B.preds.getD j 0))=cutPreds u kp i B.preds:=rfl;rw[bf]at W;clear ag k' aI hj aO aN c bf;refine oF (W.ld 2 rfl rfl) (d9 iv.len ?_);have bg:=iv.since ab;clear iv ip ab
   refine uP (λk' l h'=>∃(j:Nat) (r:List (Vl×V)) (d:Nat->Option (List Nat×V)),l=[.ptr lt 0,.slice lk 0 u.blocks.length,.slice ln 0 u.blocks.length,wo,.ptr lb 0,Y,A,wb,.int .i64 u.blocks.length,.int .i64 i,bv,.int .i64 B.vals.length,.int .i64 j]/\j+k' = B.vals.length/\Sn F h M h'/\Sn M h6 M h'/\CutV u kp (Until u kp true i j) r d/\
    Hold M h' (rowP eN tyInt (cutPreds u kp i B.preds) A::rowP eN tyInt (stayJ u kp i B.preds) Y::cellP lb 44 (bkC B bv wn bp)::rowP eKx tyBlock (((List.range i).filter kp).map λb=>(midBlk u kp b,wOf bs b)) wo::rowP eN tyInt ns (.slice ln 0 u.blocks.length)::rowP eB tyBool kl (.slice lk 0 u.blocks.length)::rowP eVx tyVal r wv::rowP eKx tyBlock bs wb::rowsP tyInt d::rowsP tyInt fn::rowP eZ tyInt s asv::cellP lt ty [.int .i64 u.func,.int .i64 u.pc,wv,wb,ws,asv]::cs)) ?_ (k:=B.vals.length)
    ⟨0,r,d,rfl,by omega,s6,Sn.refl _ _,I,W⟩
   clear W s6 I;rintro k' _ _ _ _ _ _ _ _ _ _ _ _ _ h7 ⟨j,r,d,⟨⟩,ag,s7,aC,I,H7⟩;unfold nQ;by_cases hj:j<B.vals.length
   ·refine ltYes ?_;have f:=wAA hj;generalize B.vals[j]=v at*;have R:At u v i j:=⟨B,X,f⟩
    have aD:=g.atlt v i j R;obtain⟨l1,o1,_,x1,x2⟩:=(bg.since aC).nat f .i64;obtain⟨x,ar⟩:∃x,u.vals[v]? =some x:=⟨_,wAA aD⟩
    have bV:¬Until u kp true i j v:=by
     rintro(⟨b,k,n,_,L⟩|⟨k,n,L⟩)
     ·have:=(g.at2 _ _ _ _ _ L R).1;omega
     ·have:=(g.at2 _ _ _ _ _ L R).2;omega
    obtain⟨w,aR,bW⟩:=I.same v x ar λh=>bV h.2;obtain⟨lv,ov,wl,y1,_,⟨rfl,w1⟩,y2⟩:=H7.ixF 6 rfl aR .i64;have y1:pIx 6 wv (.int .i64 v)=some (.ptr lv ov):=y1;refine d9 x1 (d9 x2 (d9 (fc _ _) (d9 (ed _ _ _) (oF (H7.ld 11 rfl rfl) (d9 y1 (oN (y2 0 _ rfl) (fk ?_)))))));by_cases ae:x.op=21
    ·refine if_t (by show(x.op:Int)=21;omega) (d9 (H7.len 1 rfl) ?_);have bX:=g.args v x ar;have ci:=g.phi v i j x B R ar ae X;have K:=H7.add (p:=rowP eN tyInt [] .nilSlice) .nil λ_ h=>h
     refine uw (λaS l h'=>∃(m:Nat) (vr:V),l=[.ptr lt 0,.slice lk 0 u.blocks.length,.slice ln 0 u.blocks.length,wo,.ptr lb 0,Y,A,.ptr lv ov,vr,wb,.int .i64 u.blocks.length,.int .i64 i,bv,.int .i64 B.vals.length,.int .i64 j,Y,.int .i64 ((stayJ u kp i B.preds).length:Nat),.int .i64 m]/\m+aS=(stayJ u kp i B.preds).length/\Sn M h7 M h'/\
      Hold M h' (rowP eN tyInt (((stayJ u kp i B.preds).take m).map λj=>x.args.getD j 0) vr::rowP eN tyInt (cutPreds u kp i B.preds) A::rowP eN tyInt (stayJ u kp i B.preds) Y::cellP lb 44 (bkC B bv wn bp)::rowP eKx tyBlock (((List.range i).filter kp).map λb=>(midBlk u kp b,wOf bs b)) wo::rowP eN tyInt ns (.slice ln 0 u.blocks.length)::rowP eB tyBool kl (.slice lk 0 u.blocks.length)::rowP eVx tyVal r wv::rowP eKx tyBlock bs wb::rowsP tyInt d::rowsP tyInt fn::rowP eZ tyInt s asv::cellP lt ty [.int .i64 u.func,.int .i64 u.pc,wv,wb,ws,asv]::cs)) ?_ (k:=(stayJ u kp i B.preds).length)
      ⟨0,.nilSlice,rfl,by omega,Sn.refl _ _,K⟩
     clear K H7 y2;rintro aS _ _ _ _ _ _ _ _ vr _ _ _ _ _ _ _ _ _ h8 ⟨m,_,⟨⟩,cj,aT,K⟩;unfold oH;obtain⟨bh,bi,wl,y3,_,⟨rfl,_⟩,y4⟩:=K.ixF 7 rfl aR .i64;have y3:pIx 6 wv (.int .i64 v)=some (.ptr bh bi):=y3;rw[y1]at y3;obtain⟨rfl,rfl⟩:lv=bh/\ov=bi:=by cases y3;exact⟨rfl,rfl⟩
     clear y3;by_cases hm:m<(stayJ u kp i B.preds).length
     ·refine ltYes ?_;have hq:=wAA hm;have al:=rQ hq;have co:=bU _ (wAR hm);generalize (stayJ u kp i B.preds)[m]=q at*;obtain⟨l2,o2,z1,z2⟩:=K.natR 2 rfl hq .i64;have ha:=wAA (show q<x.args.length by omega);have bY:x.args.getD q 0=x.args[q]:=by rw[wAL,ha];rfl
      generalize x.args[q]=a at*;obtain⟨l3,o3,_,z3,z4⟩:=(K.rows 9 rfl bW).read.nat ha .i64;refine d9 z1 (d9 z2 (oN (y4 4 _ rfl) (d9 z3 (d9 z4 ?_))));rw[iY,ev];obtain⟨va,h9,e9,_,H9,s9⟩:=K.app1 0 rfl (by_:=8) (ety:=3) (y:=a) (w:=nats [a]) (ro:=false) rfl (by decide) (by decide) (by simp;omega);have ap:happend 3 1 8 vr (.slice h8.next 0 1) (h8.new (.cells 3 1 true false (nats [a])))=some (.val va h9):=e9;rw[ap,ec];simp only[wAC]at H9;refine addOne ⟨aS-1,by omega,m+1,va,rfl,by omega,aT.trans s9,?_⟩;rw[al,wAx,wBO,wBa,bY];exact H9
     refine ltNo ?_;obtain rfl:m=(stayJ u kp i B.preds).length:=by omega
     rw [wAg]at K;have K:Hold M h8 (rowP eN tyInt (cutArgs u kp i B.preds x.args) vr::_):=K;have bj:=K.one 0 rfl;have aF:=wAB.1 aR;obtain⟨lq,h9,e1,e2,_,H9,s9⟩:=K.stF 7 rfl (k:=v) (j:=4) (y:=({x with args:=cutArgs u kp i B.preds x.args},vr)) (a:=vr) aF.1 (by decide) bj (λw' hw=>by
      rw[aF.2]at hw;obtain⟨rfl,_⟩:=hw;exact⟨rfl,bj⟩)
     have e1:pIx 6 wv (.int .i64 v)=some (.ptr lq (v*6)):=e1;rw[y1]at e1;obtain⟨rfl,rfl⟩:lv=lq/\ov=v*6:=by cases e1;exact⟨rfl,rfl⟩
     have e2:pSt 1 (.ptr lv (v*6+4)) vr h8=some (.val .undef h9):=e2;refine d9 (fc _ _) (d9 (ed _ _ _) ?_);rw[e2,ec];simp only[wAC,wAE]at H9;have aq:=H9.rowsLess 9 rfl (up d v Option.none) id (λa p ha=>by
      by_cases e:a=v
      ·subst e;rw[fS]at ha;cases ha
      ·rwa [fP _ _ e]at ha) (λ_ _ _ _ _ _ e=>e)
     simp only[wAC,wAE]at aq;have aU:=aq.rowsInAt 8 rfl (i:=v) (fS _ _ _);simp only[wAC,wAE]at aU;have bm:up (up d v Option.none) v (some (cutArgs u kp i B.preds x.args,vr))=up d v (some (cutArgs u kp i B.preds x.args,vr)):=funext λa=>by
      by_cases e:a=v
      ·subst e;rw[fS,fS]
      ·rw[fP _ _ e,fP _ _ e,fP _ _ e]
     rw[bm]at aU;refine mZ ?_;unfold ji;have c2:=I.put g R ar ae X vr;refine addOne ⟨k'-1,by omega,j+1,_,_,rfl,by omega,(s7.trans aT).trans s9,(aC.trans aT).trans s9,?_,aU⟩;exact c2.more (λa ha=> .inl ((am true j v f a).1 ha)) λa ha=>(am true j v f a).2 ha
    ·refine if_f (by show ¬(x.op:Int)=21;omega) (mZ ?_);unfold ji;refine addOne ⟨k'-1,by omega,j+1,r,d,rfl,by omega,s7,aC,I.more (λa ha=>?_) (λa ha=>(am true j v f a).2 (.inl ha)),H7⟩;rcases(am true j v f a).1 ha with n|rfl
     ·exact .inl n
     ·exact .inr ⟨x,ar,ae⟩
   refine ltNo ?_;obtain rfl:j=B.vals.length:=by omega
   clear ag k' hj;have bZ:=bg.since aC;obtain⟨K,s8,rp⟩:=H7.freezeR 0 rfl;simp only[wAC]at K;have b4:=bZ.since s8;generalize (λl=>M l\/Loc A l)=F8 at*;have K:=K.tail.tail;obtain⟨h9,e9,_,H9,s9⟩:=K.st 0 (o:=4) (u:=A) rfl (by simp[bkC]) rp.one;refine d9 (ed _ _ _) ?_;have ap:pSt 1 (.ptr lb (0+4)) A h7=some (.val .undef h9):=by rw[wAY];exact e9
   rw[ap,ec];simp only[wAC]at H9;have bn:midBlk u kp i = {B with preds:=cutPreds u kp i B.preds}:=by unfold midBlk;rw[aM]
   have aj:(bkC B bv wn bp).set 4 A=bkC (midBlk u kp i) bv wn A:=by rw[bn];rfl
   rw [aj]at H9;have bo:=b4.since s9;have br:=rp.since s9;refine d9 (H9.ldA 0 rfl rfl) ?_;have H9:=H9.tail;rw[lD (sz:=6) (w:=bkC (midBlk u kp i) bv wn A) rfl rfl (by simp only[bkC,ee,bo.one,aL,br.one];rfl),ev];have cp:((List.range i).filter kp).length<=i:=by
    have:=wBo kp (List.range i)
    rwa [wBY]at this
   obtain⟨bt,hA,eA,_,HA,sA⟩:=H9.app1 0 rfl (by_:=96) (ety:=44) (y:=(midBlk u kp i,wn)) (w:=bkC (midBlk u kp i) bv wn A) (ro:=false) (by rw[bn];exact⟨bv,A,rfl,bo,br,aL⟩) (by decide) (by decide) (by simp;omega);have b5:happend 44 6 96 wo (.slice h9.next 0 1) (h9.new (.cells 44 6 true false (bkC (midBlk u kp i) bv wn A)))=some (.val bt hA):=eA;rw[b5,ec];simp only[wAC]at HA;refine mL ?_;unfold jf;refine addOne ⟨k-1,by omega,F8,i+1,r,d,s,bt,rfl,by omega,((s7.trans s8).trans s9).trans sA,?_,?_,?_⟩
   ·exact I.more (λv n=> .inl ((an true D v).2 n)) λv n=>(an true D v).1 n
   ·refine aa.congr λv=>?_;rw[aA];exact⟨.inl,λh=>h.resolve_right λh=>by rw[D]at h;cases h.1⟩
   ·rw[oY,D,if_pos rfl,wAx,wBO,wBa,aK];exact HA
  ·refine if_f D ?_;have D:kp i=false:=wBt.2 D;refine oF (H5.ld 0 rfl rfl) (d9 iv.len ?_);have H5:=H5.tail
   refine uN (λk' l h'=>∃(j:Nat) (s:List Int),l=[.ptr lt 0,.slice lk 0 u.blocks.length,.slice ln 0 u.blocks.length,wo,wb,.int .i64 u.blocks.length,.int .i64 i,bv,.int .i64 B.vals.length,.int .i64 j]/\j+k' = B.vals.length/\Sn F h M h'/\Sn M h5 M h'/\AsD (Until u kp false i j) az s/\
    Hold M h' (rowP eKx tyBlock (((List.range i).filter kp).map λb=>(midBlk u kp b,wOf bs b)) wo::rowP eN tyInt ns (.slice ln 0 u.blocks.length)::rowP eB tyBool kl (.slice lk 0 u.blocks.length)::rowP eVx tyVal r wv::rowP eKx tyBlock bs wb::rowsP tyInt d::rowsP tyInt fn::rowP eZ tyInt s asv::cellP lt ty [.int .i64 u.func,.int .i64 u.pc,wv,wb,ws,asv]::cs)) ?_ (k:=B.vals.length)
    ⟨0,s,rfl,by omega,s4.trans s5,Sn.refl _ _,aa,H5⟩
   clear H5 H4;rintro k' _ _ _ wo _ _ _ _ _ _ h6 ⟨j,s,⟨⟩,ag,s6,ab,aa,W⟩;unfold oi;by_cases hj:j<B.vals.length
   ·refine ltYes ?_;have f:=wAA hj;generalize B.vals[j]=v at*;have aD:=g.atlt v i j ⟨B,X,f⟩;obtain⟨l1,o1,_,x1,x2⟩:=(iv.since ab).nat f .i64;refine d9 x1 (d9 x2 (oN (W.ld 8 rfl rfl) ?_));obtain⟨l2,o2,h7,e1,e2,_,H7,s7⟩:=W.stR 7 rfl (k:=v) (y:=(-1:Int)) (u:=V.int .i64 (-1)) (by rw[aa.len];omega) rfl rfl rfl;refine d9 e1 ?_;rw[e2,ec];simp only[wAC,wAE]at H7;exact addOne ⟨k'-1,by omega,j+1,s.set v (-1),rfl,by omega,s6.trans s7,ab.trans s7,(aa.put v).congr λa=>(am false j v f a).symm,H7⟩
   refine ltNo (mL ?_);unfold jf;obtain rfl:j=B.vals.length:=by omega
   refine addOne ⟨k-1,by omega,M,i+1,r,d,s,_,rfl,by omega,s6,?_,aa.congr (an false D),?_⟩
   ·refine I.more (λv n=> .inl ?_) λv n=>(aA true v).2 (.inl n);rcases(aA true v).1 n with L|⟨L,_⟩
    ·exact L
    ·rw[D]at L;cases L
   ·rw[oY,D];simpa using W
 refine ltNo ?_;obtain rfl:i=u.blocks.length:=by omega
 clear Z k hi;have a7:(keptB u kp).length<=u.blocks.length:=by
  have:=wBo kp (List.range u.blocks.length)
  rwa [wBY]at this
 rw[show(List.range u.blocks.length).filter kp=keptB u kp from rfl]at H4;refine d9 (H4.len 0 rfl) ?_;rw[wAb];have bu:(keptB u kp).Nodup:=List.nodup_range.filter _;have bw:∀b∈keptB u kp,b<u.blocks.length:=λb S=>wBJ.1 (wA7.1 S).1
 refine uT (λk l h'=>∃(i:Nat) (J:Nat->Option (List Nat×V)),l=[.ptr lt 0,.slice ln 0 u.blocks.length,wo,.int .i64 ((keptB u kp).length:Nat),.int .i64 i]/\i+k=(keptB u kp).length/\Sn F h M h'/\
  (∀b B w,bs[b]? =some (B,w)->J b=some (if b∈(keptB u kp).take i then B.next.map (numB kp) else B.next,w))/\
  Hold M h' (rowP eKx tyBlock ((keptB u kp).map λb=>(midBlk u kp b,wOf bs b)) wo::rowP eN tyInt ns (.slice ln 0 u.blocks.length)::rowP eB tyBool kl (.slice lk 0 u.blocks.length)::rowP eVx tyVal r wv::rowP eKx tyBlock bs wb::rowsP tyInt d::rowsP tyInt J::rowP eZ tyInt s asv::cellP lt ty [.int .i64 u.func,.int .i64 u.pc,wv,wb,ws,asv]::cs)) ?_ (k:=(keptB u kp).length)
  ⟨0,fn,rfl,by omega,s4,λb B w b6=>by rw[S.row b B w b6];simp,H4⟩
 clear H4 s4;rintro k _ _ _ _ _ h5 ⟨i,J,⟨⟩,Z,s5,ah,H5⟩;unfold om;by_cases hi:i<(keptB u kp).length
 ·refine ltYes ?_;have f:=wAA hi;have al:=rQ f;have bH:=bw _ (wAR hi);have b7:(keptB u kp)[i] ∉ (keptB u kp).take i:=λhm=>by
   obtain⟨j,hj⟩:=wAD.1 hm;have an:=(wAB.1 hj).1;rw[wAc]at an;rw[wBA (by omega)]at hj;have:=qm bu hj f;omega
  generalize (keptB u kp)[i]=b at*;obtain⟨⟨B,wn⟩,N⟩:∃y,bs[b]? =some y:=⟨_,wAA (by omega)⟩
  have X:u.blocks[b]? =some B:=by rw[<-S.fst,wAQ,N];rfl
  have aK:wOf bs b=wn:=by unfold wOf;rw[N]
  have bx:((keptB u kp).map λb=>(midBlk u kp b,wOf bs b))[i]? =some (midBlk u kp b,wn):=by rw[wAQ,f,<-aK];rfl
  have cq:=g.walk.two b B X;have b8:∀t∈B.next,t<u.blocks.length:=λt ht=>g.walk.nx b t (by unfold next;rw[X];exact ht);have ac:=ah b B wn N;rw[if_neg b7]at ac;obtain⟨lo,oo,w1,z1,_,⟨pv,pp,rfl,_,_,_⟩,z2⟩:=H5.ixF 0 rfl bx .i64;have z1:pIx 6 wo (.int .i64 i)=some (.ptr lo oo):=z1;have z3:=z2 3 wn rfl;refine d9 z1 (oF z3 (d9 (H5.rows 6 rfl ac).len ?_))
  refine uW (λk' l h'=>∃(j:Nat) (J:Nat->Option (List Nat×V)),l=[.ptr lt 0,.slice ln 0 u.blocks.length,wo,.int .i64 i,.int .i64 ((keptB u kp).length:Nat),.int .i64 i,wn,.int .i64 B.next.length,.int .i64 j]/\j+k' = B.next.length/\Sn F h M h'/\
   (∀c B w,c≠b->bs[c]? =some (B,w)->J c=some (if c∈(keptB u kp).take i then B.next.map (numB kp) else B.next,w))/\J b=some ((B.next.take j).map (numB kp)++B.next.drop j,wn)/\
   Hold M h' (rowP eKx tyBlock ((keptB u kp).map λb=>(midBlk u kp b,wOf bs b)) wo::rowP eN tyInt ns (.slice ln 0 u.blocks.length)::rowP eB tyBool kl (.slice lk 0 u.blocks.length)::rowP eVx tyVal r wv::rowP eKx tyBlock bs wb::rowsP tyInt d::rowsP tyInt J::rowP eZ tyInt s asv::cellP lt ty [.int .i64 u.func,.int .i64 u.pc,wv,wb,ws,asv]::cs)) ?_ (k:=B.next.length)
   ⟨0,J,rfl,by omega,s5,λc B w _ hc=>ah c B w hc,ac,H5⟩
  clear H5 s5 z2 z3 ac ah;rintro k' _ _ _ _ _ _ _ _ _ h6 ⟨j,J,⟨⟩,ag,s6,ah,ac,W⟩;unfold nU;obtain⟨b9,ca,w1,z4,_,⟨pv,pp,rfl,_,_,_⟩,z2⟩:=W.ixF 0 rfl bx .i64;have z4:pIx 6 wo (.int .i64 i)=some (.ptr b9 ca):=z4;have z3:=z2 3 wn rfl;by_cases hj:j<B.next.length
  ·refine ltYes ?_;have hn:=wAA hj;have aG:((B.next.take j).map (numB kp)++B.next.drop j)[j]? =some B.next[j]:=by
    rw[wAn (by simp;omega)];simp[wAc,wB7 (Nat.le_of_lt hj)]
   have bz:((B.next.take j).map (numB kp)++B.next.drop j).set j (numB kp B.next[j])=(B.next.take (j+1)).map (numB kp)++B.next.drop (j+1):=by
    have hL:((B.next.take j).map (numB kp)).length=j:=by rw[wAb,wAc];omega
    rw[rQ hn,wAx,wAU,wBE hj,List.set_append_right _ _ (by omega),hL,Nat.sub_self];rfl
   have aV:j<((B.next.take j).map (numB kp)++B.next.drop j).length:=(wAB.1 aG).1;have cb:=b8 _ (wAR hj);generalize B.next[j]=t at*;obtain⟨l1,o1,_,x1,x2⟩:=(W.rows 6 rfl ac).read.nat aG .i64;obtain⟨l2,o2,y1,y2⟩:=W.natR 1 rfl (ai t cb) .i64;obtain⟨l3,o3,h7,e1,e2,n7,H7,s7⟩:=W.rowsSt 6 rfl ac aV (numB kp t);refine d9 x1 (d9 x2 (d9 z4 (oF z3 (d9 y1 (d9 y2 (d9 e1 ?_))))));rw[e2,ec];simp only[wAC,wAE]at H7;refine⟨n7,addOne ⟨k'-1,by omega,j+1,_,rfl,by omega,s6.trans s7,λc C w bA hc=>?_,?_,H7⟩⟩
   ·rw[fP _ _ bA];exact ah c C w bA hc
   ·rw[fS,bz]
  refine ltNo ?_;obtain rfl:j=B.next.length:=by omega
  rw[wAg,List.drop_length,wAa]at ac;refine addOne ⟨k-1,by omega,i+1,J,rfl,by omega,s6,λc C w hc=>?_,W⟩;rw[al];by_cases e:c=b
  ·subst e;rw[N]at hc;cases hc;rw[ac,if_pos (by simp)]
  ·rw[ah c C w e hc];simp[e]
 refine ltNo ?_;obtain rfl:i=(keptB u kp).length:=by omega
 rw [wAg]at ah;clear Z k hi;obtain⟨h6,e6,_,W,s6⟩:=H5.st 8 (o:=3) (u:=wo) rfl (by simp) (H5.one 0 rfl);refine d9 (fc _ _) (d9 (ed _ _ _) (d9 (ed _ _ _) ?_));have cd:pSt 1 (.ptr lt (0+0+3)) wo h5=some (.val .undef h6):=e6;rw[cd,ec];simp only[wAC,wAE]at W;have ce:∀b,b∈keptB u kp->∃B,u.blocks[b]? =some B/\bs[b]? =some (B,wOf bs b)/\u.blocks.getD b noBk=B:=λb cf=>by
  obtain⟨⟨B,w⟩,N⟩:∃y,bs[b]? =some y:=⟨_,wAA (by have:=bw b cf;omega)⟩
  have X:u.blocks[b]? =some B:=by rw[<-S.fst,wAQ,N];rfl
  exact⟨B,X,by unfold wOf;rw[N],by rw[wAL,X];rfl⟩
 have H7:=W.reR (E':=eKx) (ys:=(keptB u kp).map λb=>(cutBlk u kp b,wOf bs b)) 0 rfl rfl (by simp) λk x y ws f hy hr=>by
  rw[wAQ]at f hy
  cases hkk:(keptB u kp)[k]? with
  |none=>rw[hkk]at f;cases f
  | some b=>
    rw[hkk]at f hy;cases f;cases hy;exact hr
 simp only[wAC]at H7;obtain⟨au,aw⟩:∃au:Nat->Option (List Nat×V),∀k,au k=match (keptB u kp)[k]? with|some b=>J b|none=>Option.none:=⟨_,λ_=>rfl⟩
 have bC:∀{k b:Nat},(keptB u kp)[k]? =some b->au k=J b:=λZ=>by rw[aw,Z]
 have K:=H7.rowsLess 6 rfl au (λk=>(keptB u kp).getD k 0) (λk p Z=>by
  cases hkk:(keptB u kp)[k]? with
  |none=>rw[aw,hkk]at Z;cases Z
  |some b=>rw[bC hkk]at Z;rw[wAL,hkk];exact Z) (λk k' p q Z ag e=>by
  cases hkk:(keptB u kp)[k]? with
  |none=>rw[aw,hkk]at Z;cases Z
  | some b=>
    cases hkk':(keptB u kp)[k']? with
    |none=>rw[aw,hkk']at ag;cases ag
    | some b'=>
      simp only[wAL,hkk,hkk',Option.getD_some]at e;subst e;exact qm bu hkk hkk')
 simp only[wAC,wAE]at K;have hU:∀c v,Until u kp c u.blocks.length 0 v↔∃b k,At u v b k/\kp b=c:=λc v=>by
  constructor
  ·rintro(⟨b,k,_,h3,h4⟩|⟨k,h3,_⟩)
   ·exact⟨b,k,h4,h3⟩
   ·omega
  ·rintro⟨b,k,h4,h3⟩;exact .inl ⟨b,k,(let⟨_,h,_⟩:=h4;(wAB.1 h).1),h3,h4⟩
 refine H M h6 seen post kp ⟨u.func,u.pc,r.map Prod.fst,(keptB u kp).map (cutBlk u kp),u.states⟩ r ((keptB u kp).map λb=>(cutBlk u kp b,wOf bs b)) d au s wo (s5.trans s6) G a9 ⟨rfl,rfl,rfl,rfl,by rw[wAb,I.len],λv b k x B R f ae U X=>?_,λv x f hn=>?_⟩ ⟨rfl,λv x w f=>?_,λv hv=>I.out v (by rw[I.len]at hv;exact hv)⟩ ⟨by rw[List.map_map];rfl,λk B w f=>?_,λk Z=>?_⟩ ⟨aa.len,λv b k R U hv=>aa.gone v ((hU false v).2 ⟨b,k,R,U⟩) hv,λv hn=>aa.same v λhD=>hn ((hU false v).1 hD)⟩ K.blocksOut
 ·obtain⟨w,n,_⟩:=I.phi v b k x B ((hU true v).2 ⟨b,k,R,U⟩) R f ae X;rw[wAQ,n];rfl
 ·obtain⟨w,n,_⟩:=I.same v x f λ⟨n,L⟩=>hn ⟨n,(hU true v).1 L⟩;rw[wAQ,n];rfl
 ·have aD:v<u.vals.length:=by rw[<-I.len];exact(wAB.1 f).1
  have hy:=wAA aD;generalize u.vals[v]=y at*;by_cases hD:y.op=21/\Until u kp true u.blocks.length 0 v
  ·obtain⟨b,k,R,U⟩:=(hU true v).1 hD.2;obtain⟨B,X,cr⟩:=id R;obtain⟨w',n,L⟩:=I.phi v b k y B hD.2 R hy hD.1 X;rw[f]at n;cases n;exact L
  ·obtain⟨w',n,L⟩:=I.same v y hy hD;rw[f]at n;cases n;exact L
 ·rw[wAQ]at f
  cases hkk:(keptB u kp)[k]? with
  |none=>rw[hkk]at f;cases f
  | some b=>
    rw[hkk]at f;cases f;obtain⟨B,X,N,aM⟩:=ce b (wAI hkk);rw[bC hkk,ah b B _ N,if_pos (wAI hkk)];unfold cutBlk;rw[aM]
 ·rw[wAb]at Z;rw[aw,wAh Z]
end
