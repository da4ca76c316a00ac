/- Parts. -/
import Derived.Test.YtkpicojjjifmgaaGreatDoorM28
namespace Go.Proofs.YtkpicojjjifmgaaGreatDoor.Hx
open Un Dm
def ri.fix{α:Type}(E:ri α)(F:Nat->Prop)(h:Hp):ri α where
 sz:=E.sz
 rel _ _ x cs:=E.rel F h x cs
 len h:=E.len h
 one h:=E.one h
 fm _ h:=h
 mono _ h:=h
section
variable{F F':Nat->Prop}{h h':Hp}{cs ds:List Pc}{Q:fy}{u:U}{vv vb vs:V}
theorem eo.X1{α:Type}{E:ri α}{ty:Nat}{xs:List α}{v:V}(H:eo F h cs)(i:Nat)(hi:cs[i]? =some (eR E ty xs v)){k:Nat}{x:α}(c:xs[k]? =some x)(kd:IntKind) :
  ∃l o w,gJ E.sz v (.int kd k)=some (.ptr l o)/\fY E.sz (.ptr l o) h=some (.agg w)/\E.rel F h x w/\∀j u,w[j]? =some u->eQ (.ptr l (o+j)) h=some u:=by
 obtain⟨d,rfl⟩:=jR.1 c;have a:=(jR.1 hi).1;exact(H.Zt (E':=E.fix F h) i hi rfl rfl λk x y cs e b f=>by rw[e]at b;cases b;exact f).ix i (Hf a) d kd
theorem ld5{l ty:Nat}{a b c d e f:V}(H:eo F h cs)(i:Nat)(hi:cs[i]? =some (ez l ty [a,b,c,d,e,f])):fY 5 (.ptr l 0) h=some (.agg [a,b,c,d,e]):=by
 rw[FE (H.get i hi)];rfl
theorem eo.Yc(H:eo F h cs)(i j:Nat) {ty d:Nat}{bs:List (Bk×V)}{fn:Nat->Option (List Nat×V)}{wb:V}{l:List Bk}(hi:cs[i]? =some (eR vP ty bs wb))(f:cs[j]? =some (fS d fn))(hc:V1 l bs fn):iq eK (λl=>F l\/Mb cs l) h l wb:=by
 refine(H.row i hi).read.Zt rfl (λm c=>c.imp id λc=>⟨i,_,hi,c⟩) (by rw[<-hc.fst,GM]) λk x y ws e g n=>?_;rw[<-hc.fst,Cq,e]at g;cases g;have o:=(H.rows j f (hc.row k x.1 x.2 e)).ZS (F':=λl=>F l\/Mb cs l) (λ_ h=> .inl h) λm c=> .inr ⟨j,_,f,k,_,_,hc.row k x.1 x.2 e,c⟩;obtain⟨a,b,p,q,r,_⟩:=n;exact⟨a,x.2,b,p,q.mono λm c=>c.imp id λc=>⟨i,_,hi,c⟩,o,r.mono λm c=>c.imp id λc=>⟨i,_,hi,c⟩⟩
end
structure Ls (u:U):Prop where
 walk:zbF u
 nv:u.eh.length<=3000
 Px:∀(v:Nat) (b:Nat) (k:Nat) (a:Nat) (k':Nat),At u v b k->At u v a k'->b=a/\k=k'
 mH:∀(v:Nat) (b:Nat) (k:Nat),At u v b k->v<u.eh.length
 pre:∀(b:Nat) (B:Bk),u.blocks[b]? =some B->B.fh.length<=700/\∀p∈B.fh,p<u.blocks.length
 KO:∀(v b k:Nat) (x:Vl) (B:Bk),At u v b k->u.eh[v]? =some x->x.op=21->u.blocks[b]? =some B->x.args.length=B.fh.length
 args:∀(v:Nat) (x:Vl),u.eh[v]? =some x->x.args.length<=700
structure Rb (u:U) (kp:Nat->Bool) (D:Nat->Prop) (xs:List (Vl×V)) (fa:Nat->Option (List Nat×V)):Prop where
 len:xs.length=u.eh.length
 out:∀i,u.eh.length<=i->fa i=none
 KO:∀(v b k:Nat) (x:Vl) (B:Bk),D v->At u v b k->u.eh[v]? =some x->x.op=21->u.blocks[b]? =some B->∃w,xs[v]? =some ({x with args:=wL u kp b B.fh x.args},w)/\fa v=some (wL u kp b B.fh x.args,w)
 same:∀(v:Nat) (x:Vl),u.eh[v]? =some x->¬(x.op=21/\D v)->∃w,xs[v]? =some (x,w)/\fa v=some (x.args,w)
structure AsD (D:Nat->Prop) (az a:List Int):Prop where
 len:a.length=az.length
 gone:∀(v:Nat),D v->v<az.length->a[v]? =some (-1)
 same:∀(v:Nat),¬D v->a[v]? =az[v]?
theorem Rb.more{D D':Nat->Prop}{u:U}{kp:Nat->Bool}{xs:List (Vl×V)}{fa:Nat->Option (List Nat×V)}(c:Rb u kp D xs fa)(h:∀v,D' v->D v\/∃x,u.eh[v]? =some x/\x.op≠21)(e:∀v,D v->D' v):Rb u kp D' xs fa where
 len:=c.len
 out:=c.out
 KO v b k x B hD T5 hx hop hB:=by
  rcases h v hD with a|⟨y,a,d⟩
  ·exact c.KO v b k x B a T5 hx hop hB
  ·rw[hx]at a;cases a;exact absurd hop d
 same v x hx hn:=c.same v x hx λ⟨a,d⟩=>hn ⟨a,e v d⟩
theorem Rb.put{D:Nat->Prop}{u:U}{kp:Nat->Bool}{xs:List (Vl×V)}{fa:Nat->Option (List Nat×V)}(g:Ls u)(c:Rb u kp D xs fa){v b k:Nat}{x:Vl}{B:Bk}(f:At u v b k)(d:u.eh[v]? =some x)(j:x.op=21)(l:u.blocks[b]? =some B)(w:V) :
  Rb u kp (λa=>D a\/a=v) (xs.set v ({x with args:=wL u kp b B.fh x.args},w)) (up fa v (some (wL u kp b B.fh x.args,w))) where
 len:=by rw[Nd];exact c.len
 out i hi:=by
  have:=(jR.1 d).1;rw[jt _ _ (by omega)];exact c.out i hi
 KO a b' k' y B' hD hat' hy hop' hB':=by
  by_cases e:a=v
  ·subst e;obtain⟨rfl,rfl⟩:=g.Px _ _ _ _ _ f hat';rw[d]at hy;cases hy;rw[l]at hB';cases hB';exact⟨w,Hf (by rw[c.len];exact(jR.1 d).1),jx _ _ _⟩
  ·rw[ES λh=>e h.symm,jt _ _ e];exact c.KO a b' k' y B' (hD.resolve_right e) hat' hy hop' hB'
 same a y hy hn:=by
  by_cases e:a=v
  ·subst e;rw[d]at hy;cases hy;exact absurd ⟨j,.inr rfl⟩ hn
  ·rw[ES λh=>e h.symm,jt _ _ e];exact c.same a y hy λ⟨m,n⟩=>hn ⟨m,.inl n⟩
theorem AsD.congr{D D':Nat->Prop} {az a:List Int}(c:AsD D az a)(h:∀v,D v↔D' v):AsD D' az a:=
 ⟨c.len,λv hv=>c.gone v ((h v).2 hv),λv hv=>c.same v λb=>hv ((h v).1 b)⟩
theorem AsD.put{D:Nat->Prop} {az b:List Int}(c:AsD D az b)(v:Nat):AsD (λa=>D a\/a=v) az (b.set v (-1)) where
 len:=by rw[Nd];exact c.len
 gone a ha hl:=by
  by_cases e:a=v
  ·subst e;exact Hf (by rw[c.len];exact hl)
  ·rw[ES λh=>e h.symm];exact c.gone a (ha.resolve_right e) hl
 same a ha:=by
  rw[ES λh=>ha (.inr h.symm)];exact c.same a λh=>ha (.inl h)
def Cd(u:U)(kp:Nat->Bool)(c:Bool)(i j:Nat)(v:Nat):Prop:=(∃b k,b<i/\kp b=c/\At u v b k)\/∃k,k<j/\At u v i k
section
variable{F F':Nat->Prop}{h h':Hp}{cs ds:List Pc}{Q:fy}{u:U}
theorem eo.zaT{ty:Nat}{xs:List Nat}{v q:V}(H:eo F h cs)(i:Nat)(hi:cs[i]? =some (eR eN ty xs v)){k x:Nat}(b:xs[k]? =some x){kd:IntKind}(hq:gJ 1 v (.int kd (k:Nat))=some q):eQ q h=some (.I x):=by
 obtain⟨l,o,a,c⟩:=H.K7 i hi b kd;rw[hq]at a;cases a;exact c
theorem eo.zdJ(H:eo F h cs)(i:Nat){l n:Nat}(hi:cs[i]? =some (ez l eJ [.I n])):eo F h (cs.set i (eR eN eJ [n] (.slice l 0 1))):=by
 have a:=H.ok i _ hi;exact H.swap hi (.inr ⟨l,_,rfl,a.2.1,a.2.2,a.1,⟨[.I n],[],rfl,rfl,trivial⟩,rfl⟩) λm e=>e.symm
theorem eo.WM{ι:Type} [DecidableEq ι] {ty:Nat}{f:ι->Option (List Nat×V)}{xs:List Nat}{v:V}(H:eo F h (eR eN ty xs v::cs))(n:Nat)(p:cs[n]? =some (fS ty f)){i:ι}(hi:f i=Option.none):eo F h (cs.set n (fS ty (up f i (some (xs,v))))):=by
 have h0:=H.ok 0 _ rfl;have q:=H.ok (n+1) _ p;have z:∀l,Loc v l->¬(fS ty f).mw l:=λl g=>H.D0 0 (n+1) _ _ rfl p (by omega) l g;have D:∀l,(fS ty (up f i (some (xs,v)))).mw l->Loc v l\/(fS ty f).mw l:=by
  rintro l ⟨k,ys,w,m,A⟩;by_cases e:k=i
  ·subst e;rw[jx]at m;cases m;exact .inl A
  ·rw[jt _ _ e]at m;exact .inr ⟨k,ys,w,m,A⟩
 have r:∀j c,j≠n->cs[j]? =some c->∀l,(fS ty (up f i (some (xs,v)))).mw l->¬c.mw l:=λj c o hc l g=>(D l g).elim (H.D0 0 (j+1) _ c rfl hc (by omega) l) (H.D0 (n+1) (j+1) _ c p hc (by omega) l);refine⟨H.fl,λj c hc=>?_,λj k a b E B u l g d=>?_⟩
 ·rcases yP hc with⟨_,rfl⟩|⟨_,s⟩
  ·refine ⟨λj ys w o=>?_,λj k ys w C x o m p l g d=>?_⟩
   ·by_cases e:j=i
    ·subst e;rw[jx]at o;cases o;exact h0
    ·rw[jt _ _ e]at o;exact q.1 j ys w o
   ·by_cases e:j=i
    ·subst e;rw[jx]at o;cases o;rw[jt _ _ λe=>p e.symm]at m;exact z l g ⟨k,C,x,m,d⟩
    ·rw[jt _ _ e]at o;by_cases e':k=i
     ·subst e';rw[jx]at m;cases m;exact z l d ⟨j,ys,w,o,g⟩
     ·rw[jt _ _ e']at m;exact q.2 j k ys w C x o m p l g d
  ·exact H.ok (j+1) c s
 ·rcases yP E with⟨y,rfl⟩|⟨y,q⟩
  ·rcases yP B with⟨t,_⟩|⟨t,s⟩
   ·exact u (y.trans t.symm)
   ·exact r k b t s l g d
  ·rcases yP B with⟨t,rfl⟩|⟨_,s⟩
   ·exact r j a y q l d g
   ·exact H.D0 (j+1) (k+1) a b q s (by omega) l g d
theorem eo.VS{a b c d e f x y z:Pc}(H:eo F h (a::b::c::d::e::f::x::y::z::cs)):eo F h (d::a::f::x::y::z::cs):=
 H.re (λi=>match i with|0=>3|1=>0|n+2=>n+5) (λi c hc=>match i,hc with|0,hc=>hc|1,hc=>hc|n+2,hc=>hc) λi j _ _ e=>by
  match i,j with
  |0,0|1,1=>rfl
  |0,1|1,0=>simp at e
  |0,n+2|1,n+2|n+2,0|n+2,1=>simp at e;try omega
  |n+2,k+2=>simp at e;omega
theorem zE{α:Type}{l:List α}{i:Nat}{x:α}(h:l[i]? =some x):l.take (i+1)=l.take i++[x]:=by
 obtain⟨a,rfl⟩:=jR.1 h;exact NG a
theorem wG(p:Nat->Bool)(i:Nat):(List.range (i+1)).filter p=(List.range i).filter p++if p i=true then[i] else[]:=by
 rw[Yl,wBu,wBp];rfl
end
def PL(bs:List (Bk×V))(b:Nat):V:=match bs[b]? with
 |some x=>x.2
 |none=> .undef
def tw(u:U)(kp:Nat->Bool)(b:Nat):Bk:={u.blocks.getD b PG with fh:=yx u kp b (u.blocks.getD b PG).fh}
section
variable{F F':Nat->Prop}{h h':Hp}{cs ds:List Pc}{Q:fy}{u:U}{wv wb ws pP:V}{lt ty:Nat}{az:List Int}{xs:List (Vl×V)}{bs:List (Bk×V)}{fa fn:Nat->Option (List Nat×V)}
theorem Vz(g:Ls u)(hc:XW u.eh xs fa)(R:V1 u.blocks bs fn)(cj:az.length=u.eh.length)(bD:ws.one=true)
  (H0:eo F h (eR yh hK xs wv::eR vP fR bs wb::fS eJ fa::fS eJ fn::eR eZ eJ az pP::ez lt ty [.I u.func,.I u.pc,wv,wb,ws,pP]::cs))
  (H:∀F' h' seen post kp u' r aV d J s aW,Sn F h F' h'->IH u.blocks.length (next u) seen post []->kp=(λb=>post.reverse.contains b)->Cut u kp u'->XW u'.eh r d->V1 u'.blocks aV J->Ox u kp az s->
   eo F' h' (eR yh hK r wv::eR vP fR aV aW::fS eJ d::fS eJ J::eR eZ eJ s pP::ez lt ty [.I u.func,.I u.pc,wv,aW,ws,pP]::cs)->Q (.tuple []) h') :
  cP CS og [.ptr lt 0] h Q:=by
 refine FL rfl rfl ?_;unfold yD;have nb:=g.walk.nb;have nv:=g.nv;have aX:bs.length=u.blocks.length:=by rw[<-R.fst,GM]
 have bE:xs.length=u.eh.length:=by rw[<-hc.fst,GM]
 have fz:∀{h:Hp} {cs:List Pc},fI 0 (.ptr lt 0)=some (.ptr lt 0):=rfl;refine ee (gj _ _) (ee (fe _ _ _) (oF (H0.ld 5 rfl rfl) (ee (H0.len 1 rfl) ?_)));rw[aX,ka (z:=V.bool false) rfl (by decide) (by omega),fG];obtain⟨H1,s1⟩:=H0.make (E:=eB) (ty:=ju) (y:=false) (u:=V.bool false) u.blocks.length rfl rfl;generalize h.new (.cells ju 1 true false (List.replicate u.blocks.length (V.bool false)))=n at*;generalize h.next=lk at*;refine ee (gj _ _) (ee (fe _ _ _) (ee (ld5 H1 6 rfl) ?_));have aD:gG (uC u wv wb ws)=true:=by simp only[uC,ey,H1.one 1 rfl,H1.one 2 rfl,bD];rfl
 refine N1 g.walk H1.zdW aD (H1.Yc 2 4 rfl rfl R) λL vo seen post aG aY G=>?_;have H2:=H1.zcM aG aY;have aZ:=s1.trans aG.back;clear aG aY aD fz s1 H1;have ae:∀b∈post.reverse,b<u.blocks.length:=λb R=>G.pre b (wBP.1 R);have bG:post.reverse.length<=u.blocks.length:=by
  have n:=G.nodup;rw[Yp,GP]at n;rw[List.length_reverse];exact kj _ _ n G.pre
 generalize a5:post.reverse=S at H2 ae bG⊢;refine ee (H2.len 0 rfl) ?_
 refine Cv (λk l h'=>∃(i:Nat) (kl:List Bool),l=[.ptr lt 0,.slice lk 0 u.blocks.length,vo,.I S.length,.I i]/\i+k=S.length/\kl.length=u.blocks.length/\(∀b,b<u.blocks.length->kl[b]? =some ((S.take i).contains b))/\Sn F h F h'/\
  eo F h' (eR eN eJ S vo::eR eB ju kl (.slice lk 0 u.blocks.length)::eR yh hK xs wv::eR vP fR bs wb::fS eJ fa::fS eJ fn::eR eZ eJ az pP::ez lt ty [.I u.func,.I u.pc,wv,wb,ws,pP]::cs)) ?_ (k:=S.length)
  ⟨0,_,rfl,by omega,PV,λb R=>by rw[wBM,if_pos R];rfl,aZ,H2⟩
 rintro k _ _ _ _ _ h3 ⟨i,kl,⟨⟩,Y,a6,T,s3,H3⟩;unfold vx;by_cases hi:i<S.length
 ·refine gB ?_;have f:=hO hi;have ak:S.take (i+1)=S.take i++[S[i]]:=NG hi;generalize S[i]=b at*;have bH:=ae b (Ik f);obtain⟨l1,o1,x1,x2⟩:=H3.K7 0 rfl f .i64;obtain⟨l2,o2,h4,e1,e2,_,H4,s4⟩:=H3.IG 1 rfl (k:=b) (y:=true) (u:=V.bool true) (by omega) rfl rfl rfl;refine ee x1 (ee x2 (ee e1 ?_));rw[e2,ei];simp only[jo,l0]at H4;refine fM ⟨k-1,by omega,i+1,kl.set b true,rfl,by omega,by simp[a6],λc aH=>?_,s3.trans s4,H4⟩;rw[ak];by_cases e:c=b
  ·subst e;rw[Hf (by omega)];simp
  ·rw[ES λh=>e h.symm,T c aH];simp[e]
 refine iJ ?_;obtain rfl:i=S.length:=by omega
 rw[JF]at T;clear Y k H2;have H3:=H3.tail;obtain⟨kp,a7⟩:∃kp:Nat->Bool,(λb=>S.contains b)=kp:=⟨_,rfl⟩
 have T:∀b,b<u.blocks.length->kl[b]? =some (kp b):=λb R=>by rw[T b R,<-a7]
 have a8:kp=λb=>post.reverse.contains b:=by rw[a5,a7]
 have a9:fH (.slice lk 0 u.blocks.length)=some (.I u.blocks.length):=rfl;refine ee a9 ?_;rw[ka (z:=V.I 0) rfl (by decide) (by omega),fG];obtain⟨H4,s4⟩:=H3.make (E:=eN) (ty:=eJ) (y:=0) (u:=V.I 0) u.blocks.length rfl rfl;generalize h3.new (.cells eJ 1 true false (List.replicate u.blocks.length (V.I 0)))=h4 at*;generalize h3.next=ln at*;refine ee a9 ?_;have ba:=s3.trans s4;clear aZ s3 s4 H3
 refine Cj (λk l h'=>∃(i:Nat) (ns:List Nat),l=[.ptr lt 0,.slice lk 0 u.blocks.length,.slice ln 0 u.blocks.length,.I (((List.range i).filter kp).length:Nat),.slice lk 0 u.blocks.length,.I u.blocks.length,.I i]/\i+k=u.blocks.length/\ns.length=u.blocks.length/\(∀b,b<i->ns[b]? =some (xo kp b))/\(∀b,i<=b->b<u.blocks.length->ns[b]? =some 0)/\Sn F h F h'/\
  eo F h' (eR eN eJ ns (.slice ln 0 u.blocks.length)::eR eB ju kl (.slice lk 0 u.blocks.length)::eR yh hK xs wv::eR vP fR bs wb::fS eJ fa::fS eJ fn::eR eZ eJ az pP::ez lt ty [.I u.func,.I u.pc,wv,wb,ws,pP]::cs)) ?_ (k:=u.blocks.length)
  ⟨0,_,rfl,by omega,PV,λb R=>by omega,λb _ R=>by rw[wBM,if_pos R],ba,H4⟩
 clear ba H4 H0;rintro k _ _ _ _ _ _ _ h3 ⟨i,ns,⟨⟩,Y,ai,aw,ax,s3,H3⟩;unfold vM;have bb:((List.range i).filter kp).length<=i:=by
  have:=wBT kp (List.range i)
  rwa [YR]at this
 by_cases hi:i<u.blocks.length
 ·refine gB ?_;obtain⟨l1,o1,x1,x2⟩:=H3.G8 1 rfl (T i hi) .i64;refine ee x1 (ee x2 (jd ?_));have hr:((List.range (i+1)).filter kp).length=((List.range i).filter kp).length+(if kp i=true then 1 else 0):=by
   rw[Yl,wBu,Ec,wBp];split <;> rfl
  by_cases D:kp i=true
  ·refine gv D ?_;obtain⟨l2,o2,h4,e1,e2,_,H4,s4⟩:=H3.IG 0 rfl (k:=i) (y:=((List.range i).filter kp).length) (u:=V.I (((List.range i).filter kp).length:Nat)) (by omega) rfl rfl rfl;refine ee e1 ?_;rw[e2,ei];simp only[jo]at H4;refine fM (ud ?_);unfold oI;rw[if_pos D]at hr;refine fM ⟨k-1,by omega,i+1,ns.set i ((List.range i).filter kp).length,by rw[hr],by omega,by simp[ai],λb R=>?_,λb R aI=>?_,s3.trans s4,H4⟩
   ·by_cases e:b=i
    ·subst e;rw[Hf (by omega)];unfold xo;rw[if_pos D]
    ·rw[ES λh=>e h.symm];exact aw b (by omega)
   ·rw[ES (by omega)];exact ax b (by omega) aI
  ·refine gg D (ud ?_);unfold oI;rw[if_neg D,YZ]at hr;refine fM ⟨k-1,by omega,i+1,ns,by rw[hr];rfl,by omega,ai,λb R=>?_,λb R aI=>ax b (by omega) aI,s3,H3⟩;by_cases e:b=i
   ·subst e;rw[ax b (jK _) hi];unfold xo;rw[if_neg D]
   ·exact aw b (by omega)
 refine iJ ?_;obtain rfl:i=u.blocks.length:=by omega
 clear Y k ax bb;refine ee (gj _ _) (ee (fe _ _ _) (oF (H3.ld 7 rfl rfl) (ee (H3.len 3 rfl) ?_)));rw[aX];have H3:eo F h3 (eR vP fR [] .ef::eR eN eJ ns (.slice ln 0 u.blocks.length)::eR eB ju kl (.slice lk 0 u.blocks.length)::eR yh hK xs wv::eR vP fR bs wb::fS eJ fa::fS eJ fn::eR eZ eJ az pP::ez lt ty [.I u.func,.I u.pc,wv,wb,ws,pP]::cs):=H3.add .nil λ_ h=>h;have ai:∀b,b<u.blocks.length->ns[b]? =some (xo kp b):=aw
 refine Cz (λk l h'=>∃(F':Nat->Prop) (i:Nat) (r:List (Vl×V)) (d:Nat->Option (List Nat×V)) (s:List Int) (Z:V),l=[.ptr lt 0,.slice lk 0 u.blocks.length,.slice ln 0 u.blocks.length,Z,wb,.I u.blocks.length,.I i]/\i+k=u.blocks.length/\Sn F h F' h'/\
  Rb u kp (Cd u kp true i 0) r d/\AsD (Cd u kp false i 0) az s/\
  eo F' h' (eR vP fR (((List.range i).filter kp).map λb=>(tw u kp b,PL bs b)) Z::eR eN eJ ns (.slice ln 0 u.blocks.length)::eR eB ju kl (.slice lk 0 u.blocks.length)::eR yh hK r wv::eR vP fR bs wb::fS eJ d::fS eJ fn::eR eZ eJ s pP::ez lt ty [.I u.func,.I u.pc,wv,wb,ws,pP]::cs)) ?_ (k:=u.blocks.length)
  ⟨F,0,xs,fa,az,.ef,rfl,by omega,s3,?_,?_,H3⟩
 rotate_left
 ·refine ⟨bE,λi hi=>hc.out i (by omega),λv b k x B hD=>?_,λv x f _=>?_⟩
  ·rcases hD with⟨_,_,h,_⟩|⟨_,h,_⟩ <;> omega
  ·rw[<-hc.fst,Cq]at f
   cases hy:xs[v]? with
   |none=>rw[hy]at f;cases f
   | some y=>
     rw[hy]at f;cases f;exact⟨y.2,rfl,hc.row v y.1 y.2 hy⟩
 ·refine⟨rfl,λv hD=>?_,λv _=>rfl⟩;rcases hD with⟨_,_,h,_⟩|⟨_,h,_⟩ <;> omega
 clear H3 s3 hi aw;rintro k _ _ _ Z _ _ _ h4 ⟨M,i,r,d,s,_,⟨⟩,Y,s4,I,aa,H4⟩;unfold uR;by_cases hi:i<u.blocks.length
 ·refine gB ?_;obtain⟨⟨B,wn⟩,N⟩:∃y,bs[i]? =some y:=⟨_,hO (by omega)⟩
  have W:u.blocks[i]? =some B:=by rw[<-R.fst,Cq,N];rfl
  have aJ:PL bs i=wn:=by unfold PL;rw[N]
  obtain ⟨l1,o1,w1,x1,x2,⟨bv,bp,rfl,iv,ip,aK⟩,_⟩:=H4.X1 4 rfl N .i64;have x1:gJ 6 wb (.I i)=some (.ptr l1 o1):=x1;have x2:fY 6 (.ptr l1 o1) h4=some (.agg (kE B bv wn bp)):=x2;refine ee x1 (ee x2 ?_);refine gY H4 rfl rfl (by simp only[kE,ey,iv.one,ip.one,aK];rfl) λh5 H5 s5=>?_;generalize h4.next=lb at*;have iv:=iv.since s5;have ip:=ip.since s5;clear x1 x2;obtain⟨l2,o2,y1,y2⟩:=H5.G8 3 rfl (T i hi) .i64;refine ee y1 (ee y2 (qt ?_));have ay:∀c v,Cd u kp c (i+1) 0 v↔Cd u kp c i 0 v\/(kp i=c/\∃k,At u v i k):=λc v=>by
   constructor
   ·rintro(⟨b,k,n,L,h3⟩|⟨k,n,_⟩)
    ·by_cases e:b=i
     ·subst e;exact .inr ⟨L,k,h3⟩
     ·exact .inl (.inl ⟨b,k,by omega,L,h3⟩)
    ·omega
   ·rintro((⟨b,k,n,L,h3⟩|⟨k,n,_⟩)|⟨n,k,L⟩)
    ·exact .inl ⟨b,k,by omega,L,h3⟩
    ·omega
    ·exact .inl ⟨i,k,by omega,n,L⟩
  have al:∀c j w,B.eh[j]? =some w->∀v,Cd u kp c i (j+1) v↔Cd u kp c i j v\/v=w:=λc j w hw v=>by
   constructor
   ·rintro(n|⟨k,n,L⟩)
    ·exact .inl (.inl n)
    ·by_cases e:k=j
     ·subst e;obtain⟨B',e1,e2⟩:=L;rw[W]at e1;cases e1;rw[hw]at e2;cases e2;exact .inr rfl
     ·exact .inl (.inr ⟨k,by omega,L⟩)
   ·rintro((n|⟨k,n,L⟩)|rfl)
    ·exact .inl n
    ·exact .inr ⟨k,by omega,L⟩
    ·exact .inr ⟨j,by omega,B,W,hw⟩
  have am:∀c,kp i=c->∀v,Cd u kp c i B.eh.length v↔Cd u kp c (i+1) 0 v:=λc bI v=>by
   rw[ay];constructor
   ·rintro(n|⟨k,n,L⟩)
    ·exact .inl (.inl n)
    ·exact .inr ⟨bI,k,L⟩
   ·rintro((n|⟨k,n,_⟩)|⟨_,k,B',e1,e2⟩)
    ·exact .inl n
    ·omega
    ·rw[W]at e1;cases e1;exact .inr ⟨k,(jR.1 e2).1,B,W,e2⟩
  have cf:B.eh.length<=u.eh.length:=by
   refine kj u.eh.length B.eh ?_ λv hv=>?_
   ·rw[wBY,Zm];intro a b ha R cl e;have:=(g.Px B.eh[a] i a i b ⟨B,W,hO ha⟩ ⟨B,W,by rw[e];exact hO R⟩).2;omega
   ·obtain⟨k,Y⟩:=oD.1 hv;exact g.mH v i k ⟨B,W,Y⟩
  by_cases D:kp i=true
  ·refine gv D ?_;have bJ:=g.pre i B W;have aL:u.blocks.getD i PG=B:=by rw[G2,W];rfl
   refine oF (H5.ld 0 rfl rfl) (ee ip.len ?_);obtain⟨c,aM⟩:∃c:Nat->Bool,(λj=>kp (B.fh.getD j 0)&&(next u (B.fh.getD j 0)).contains i)=c:=⟨_,rfl⟩
   have aN:(List.range B.fh.length).filter c=xO u kp i B.fh:=by rw[<-aM];rfl
   have H5:=(H5.add (p:=eR eN eJ [] .ef) .nil λ_ h=>h).add (p:=eR eN eJ [] .ef) .nil λ_ h=>h
   refine Cn (λk' l h'=>∃(j:Nat) (X A:V),l=[.ptr lt 0,.slice lk 0 u.blocks.length,.slice ln 0 u.blocks.length,Z,.I i,.ptr lb 0,X,A,wb,.I u.blocks.length,.I i,bp,.I B.fh.length,.I j]/\j+k' = B.fh.length/\Sn F h M h'/\Sn M h5 M h'/\
    eo M h' (eR eN eJ (((List.range j).filter c).map λj=>xo kp (B.fh.getD j 0)) A::eR eN eJ ((List.range j).filter c) X::ez lb 43 (kE B bv wn bp)::eR vP fR (((List.range i).filter kp).map λb=>(tw u kp b,PL bs b)) Z::eR eN eJ ns (.slice ln 0 u.blocks.length)::eR eB ju kl (.slice lk 0 u.blocks.length)::eR yh hK r wv::eR vP fR bs wb::fS eJ d::fS eJ fn::eR eZ eJ s pP::ez lt ty [.I u.func,.I u.pc,wv,wb,ws,pP]::cs)) ?_ (k:=B.fh.length)
    ⟨0,.ef,.ef,rfl,by omega,s4.trans s5,Sn.refl _ _,H5⟩
   clear H5 H4;rintro k' _ _ _ _ _ _ X A _ _ _ _ _ _ h6 ⟨j,_,_,⟨⟩,ag,s6,ab,U⟩;unfold vH;have aH:((List.range j).filter c).length<=j:=by
    have:=wBT c (List.range j)
    rwa [YR]at this
   by_cases hj:j<B.fh.length
   ·refine gB ?_;have f:=hO hj;have aA:=bJ.2 B.fh[j] (zd hj);have bc:B.fh.getD j 0=B.fh[j]:=by rw[G2,f];rfl
    generalize B.fh[j]=p at*;obtain⟨l1,o1,_,x1,x2⟩:=(ip.since ab).nat f .i64;obtain⟨l2,o2,y1,y2⟩:=U.G8 5 rfl (T p aA) .i64;refine ee x1 (ee x2 (ee y1 (ee y2 ?_)));have aO:=wG c j;have an:c j=(kp p&&(next u p).contains i):=by rw[<-aM];simp only[bc]
    cases hkp':kp p with
    | false=>
      refine im (im (im (im (im (im (im (im (im (im (EY ?_))))))))));refine ee (show js (.bool false) .undef (.bool false)=some (.bool false) from rfl) (jd (gg (by decide) (oJ ?_)));unfold lO;refine j8 (m:=1) (by omega) (by omega) ⟨k'-1,by omega,j+1,X,A,rfl,by omega,s6,ab,?_⟩;rw[aO,show c j=false by rw[an,hkp'];rfl]
      simpa using U
    | true=>
      obtain⟨⟨P,wp⟩,aP⟩:∃y,bs[p]? =some y:=⟨_,hO (by omega)⟩
      have hP:u.blocks[p]? =some P:=by rw[<-R.fst,Cq,aP];rfl
      have bK:next u p=P.next:=by unfold next;rw[hP]
      obtain⟨l3,o3,w3,z1,_,⟨pv,pp,rfl,_,_,_⟩,z2⟩:=U.X1 7 rfl aP .i64;have z1:gJ 6 wb (.I (p:Nat))=some (.ptr l3 o3):=z1;have z3:=z2 3 wp rfl;refine fU (ee rfl (fU (ee (gj _ _) (fU (ee (fe _ _ _) (fU (ee (fe _ _ _) (fU (ee (U.ld 11 rfl rfl) (fU (ee rfl (fU (ee z1 (fU (ee (fe _ _ _) (fU (ee z3 (fU (ee rfl (vf ?_))))))))))))))))))));refine zbJ (U.rows 9 rfl (R.row p P wp aP)).read (by have:=g.walk.two p P hP;omega) i ?_;rw[<-bK];refine ee (show js (.bool true) (.bool ((next u p).contains i)) (.bool false)=some (.bool ((next u p).contains i)) from rfl) (jd ?_);rw[hkp',wB7]at an;by_cases aj:(next u p).contains i=true
      ·refine gv aj ?_
       rw[aj]at an;rw[oV,hV];obtain⟨H7,s7⟩:=U.zI eJ (hZ [j]);have H7:eo M (h6.new (.cells 3 1 true false (hZ [j]))) (ez h6.next 3 (hZ [j])::_):=H7;have s7:Sn M h6 M (h6.new (.cells 3 1 true false (hZ [j]))):=s7;generalize h6.new (.cells 3 1 true false (hZ [j]))=h7 at*;generalize h6.next=r1 at*;obtain⟨l4,o4,n1,n2⟩:=H7.K7 5 rfl (ai p aA) .i64;refine ee n1 (ee n2 ?_);rw[oV,hV];obtain⟨K,s8⟩:=H7.zI eJ (hZ [xo kp p]);have K:eo M (h7.new (.cells 3 1 true false (hZ [xo kp p]))) (ez h7.next 3 (hZ [xo kp p])::ez r1 3 (hZ [j])::_):=K;have s8:Sn M h7 M (h7.new (.cells 3 1 true false (hZ [xo kp p]))):=s8;generalize h7.new (.cells 3 1 true false (hZ [xo kp p]))=h8 at*;generalize h7.next=r2 at*;refine⟨⟨K.get 0 rfl,bq⟩,K.zaT 6 rfl (ai p aA) n1,⟨K.get 1 rfl,bq⟩,?_⟩;have K:=K.zdJ 1 rfl;simp only[jo,l0]at K;obtain⟨va,h9,e9,n9,H9,s9⟩:=K.ZL 3 1 rfl rfl (j7:=8) (by decide) (by decide) (by simp;omega);have ao:fg 3 1 8 X (.slice r1 0 1) h8=some (.val va h9):=e9;simp only[jo,l0]at H9;rw[ao,ei];refine⟨n9,⟨H9.get 0 rfl,bq⟩,H9.zaT 6 rfl (ai p aA) n1,?_⟩;have H9:=H9.zdJ 0 rfl;simp only[jo]at H9;obtain⟨vc,bL,K6,bQ,ap,bR⟩:=H9.ZL 2 0 rfl rfl (j7:=8) (by decide) (by decide) (by simp;omega);have bd:fg 3 1 8 A (.slice r2 0 1) h9=some (.val vc bL):=K6;rw[bd,ei];simp only[jo,l0]at ap;refine⟨bQ,oJ ?_⟩;unfold lO;have sA:=((s7.trans s8).trans s9).trans bR;refine j8 (m:=1) (by omega) (by omega) ⟨k'-1,by omega,j+1,va,vc,rfl,by omega,s6.trans sA,ab.trans sA,?_⟩;rw[aO,an,if_pos rfl,Nh,wCC,Yp,bc];exact ap.tail.tail
      ·refine gg aj (oJ ?_)
       unfold lO;refine j8 (m:=1) (by omega) (by omega) ⟨k'-1,by omega,j+1,X,A,rfl,by omega,s6,ab,?_⟩;rw[aO,show c j=false by rw[an];simpa using aj];simpa using U
   refine iJ ?_;obtain rfl:j=B.fh.length:=by omega
   rw[aN]at U;have mM:(xO u kp i B.fh).length<=700:=by rw[<-aN];omega
   have bS:∀m∈xO u kp i B.fh,m<B.fh.length:=λm hm=>by
    unfold xO at hm;exact YQ.1 (PU.1 hm).1
   have be:(xO u kp i B.fh).map (λj=>xo kp (B.fh.getD j 0))=yx u kp i B.fh:=rfl;rw[be]at U;clear ag k' aH hj aN aM c be;refine oF (U.ld 2 rfl rfl) (ee iv.len ?_);have bf:=iv.since ab;clear iv ip ab
   refine Cs (λk' l h'=>∃(j:Nat) (r:List (Vl×V)) (d:Nat->Option (List Nat×V)),l=[.ptr lt 0,.slice lk 0 u.blocks.length,.slice ln 0 u.blocks.length,Z,.ptr lb 0,X,A,wb,.I u.blocks.length,.I i,bv,.I B.eh.length,.I j]/\j+k' = B.eh.length/\Sn F h M h'/\Sn M h6 M h'/\Rb u kp (Cd u kp true i j) r d/\
    eo M h' (eR eN eJ (yx u kp i B.fh) A::eR eN eJ (xO u kp i B.fh) X::ez lb 43 (kE B bv wn bp)::eR vP fR (((List.range i).filter kp).map λb=>(tw u kp b,PL bs b)) Z::eR eN eJ ns (.slice ln 0 u.blocks.length)::eR eB ju kl (.slice lk 0 u.blocks.length)::eR yh hK r wv::eR vP fR bs wb::fS eJ d::fS eJ fn::eR eZ eJ s pP::ez lt ty [.I u.func,.I u.pc,wv,wb,ws,pP]::cs)) ?_ (k:=B.eh.length)
    ⟨0,r,d,rfl,by omega,s6,Sn.refl _ _,I,U⟩
   clear U s6 I;rintro k' _ _ _ _ _ _ _ _ _ _ _ _ _ h7 ⟨j,r,d,⟨⟩,ag,s7,aB,I,H7⟩;unfold vg;by_cases hj:j<B.eh.length
   ·refine gB ?_;have f:=hO hj;generalize B.eh[j]=v at*;have O:At u v i j:=⟨B,W,f⟩
    have aC:=g.mH v i j O;obtain⟨l1,o1,_,x1,x2⟩:=(bf.since aB).nat f .i64;obtain⟨x,aq⟩:∃x,u.eh[v]? =some x:=⟨_,hO aC⟩
    have bU:¬Cd u kp true i j v:=by
     rintro(⟨b,k,n,_,L⟩|⟨k,n,L⟩)
     ·have:=(g.Px _ _ _ _ _ L O).1;omega
     ·have:=(g.Px _ _ _ _ _ L O).2;omega
    obtain⟨w,aQ,bV⟩:=I.same v x aq λh=>bU h.2;obtain⟨lv,ov,wl,y1,_,⟨rfl,w1⟩,y2⟩:=H7.X1 6 rfl aQ .i64;have y1:gJ 6 wv (.I v)=some (.ptr lv ov):=y1;refine ee x1 (ee x2 (ee (gj _ _) (ee (fe _ _ _) (oF (H7.ld 11 rfl rfl) (ee y1 (oN (y2 0 _ rfl) (gi ?_)))))));by_cases ae:x.op=21
    ·refine gv (by show(x.op:Int)=21;omega) (ee (H7.len 1 rfl) ?_);have bW:=g.args v x aq;have cg:=g.KO v i j x B O aq ae W;have K:=H7.add (p:=eR eN eJ [] .ef) .nil λ_ h=>h
     refine CA (λaR l h'=>∃(m:Nat) (vr:V),l=[.ptr lt 0,.slice lk 0 u.blocks.length,.slice ln 0 u.blocks.length,Z,.ptr lb 0,X,A,.ptr lv ov,vr,wb,.I u.blocks.length,.I i,bv,.I B.eh.length,.I j,X,.I ((xO u kp i B.fh).length:Nat),.I m]/\m+aR=(xO u kp i B.fh).length/\Sn M h7 M h'/\
      eo M h' (eR eN eJ (((xO u kp i B.fh).take m).map λj=>x.args.getD j 0) vr::eR eN eJ (yx u kp i B.fh) A::eR eN eJ (xO u kp i B.fh) X::ez lb 43 (kE B bv wn bp)::eR vP fR (((List.range i).filter kp).map λb=>(tw u kp b,PL bs b)) Z::eR eN eJ ns (.slice ln 0 u.blocks.length)::eR eB ju kl (.slice lk 0 u.blocks.length)::eR yh hK r wv::eR vP fR bs wb::fS eJ d::fS eJ fn::eR eZ eJ s pP::ez lt ty [.I u.func,.I u.pc,wv,wb,ws,pP]::cs)) ?_ (k:=(xO u kp i B.fh).length)
      ⟨0,.ef,rfl,by omega,Sn.refl _ _,K⟩
     clear K H7 y2;rintro aR _ _ _ _ _ _ _ _ vr _ _ _ _ _ _ _ _ _ h8 ⟨m,_,⟨⟩,ci,aS,K⟩;unfold uK;obtain⟨bg,bh,wl,y3,_,⟨rfl,_⟩,y4⟩:=K.X1 7 rfl aQ .i64;have y3:gJ 6 wv (.I v)=some (.ptr bg bh):=y3;rw[y1]at y3;obtain⟨rfl,rfl⟩:lv=bg/\ov=bh:=by cases y3;exact⟨rfl,rfl⟩
     clear y3;by_cases hm:m<(xO u kp i B.fh).length
     ·refine gB ?_;have hq:=hO hm;have ak:=zE hq;have cm:=bS _ (zd hm);generalize (xO u kp i B.fh)[m]=q at*;obtain⟨l2,o2,z1,z2⟩:=K.K7 2 rfl hq .i64;have ha:=hO (show q<x.args.length by omega);have bX:x.args.getD q 0=x.args[q]:=by rw[G2,ha];rfl
      generalize x.args[q]=a at*;obtain⟨l3,o3,_,z3,z4⟩:=(K.rows 9 rfl bV).read.nat ha .i64;refine ee z1 (ee z2 (oN (y4 4 _ rfl) (ee z3 (ee z4 ?_))));rw[oV,fG];obtain⟨va,h9,e9,_,H9,s9⟩:=K.uD 0 rfl (j7:=8) (Ca:=3) (y:=a) (w:=hZ [a]) (ro:=false) rfl (by decide) (by decide) (by simp;omega);have ao:fg 3 1 8 vr (.slice h8.next 0 1) (h8.new (.cells 3 1 true false (hZ [a])))=some (.val va h9):=e9;rw[ao,ei];simp only[jo]at H9;refine fM ⟨aR-1,by omega,m+1,va,rfl,by omega,aS.trans s9,?_⟩;rw[ak,Nh,wCC,Yp,bX];exact H9
     refine iJ ?_;obtain rfl:m=(xO u kp i B.fh).length:=by omega
     rw [JF]at K;have K:eo M h8 (eR eN eJ (wL u kp i B.fh x.args) vr::_):=K;have bi:=K.one 0 rfl;have aE:=jR.1 aQ;obtain⟨lq,h9,e1,e2,_,H9,s9⟩:=K.stF 7 rfl (k:=v) (j:=4) (y:=({x with args:=wL u kp i B.fh x.args},vr)) (a:=vr) aE.1 (by decide) bi (λw' hw=>by
      rw[aE.2]at hw;obtain⟨rfl,_⟩:=hw;exact⟨rfl,bi⟩)
     have e1:gJ 6 wv (.I v)=some (.ptr lq (v*6)):=e1;rw[y1]at e1;obtain⟨rfl,rfl⟩:lv=lq/\ov=v*6:=by cases e1;exact⟨rfl,rfl⟩
     have e2:gM 1 (.ptr lv (v*6+4)) vr h8=some (.val .undef h9):=e2;refine ee (gj _ _) (ee (fe _ _ _) ?_);rw[e2,ei];simp only[jo,l0]at H9;have ap:=H9.Ql 9 rfl (up d v Option.none) id (λa p ha=>by
      by_cases e:a=v
      ·subst e;rw[jx]at ha;cases ha
      ·rwa [jt _ _ e]at ha) (λ_ _ _ _ _ _ e=>e)
     simp only[jo,l0]at ap;have aT:=ap.WM 8 rfl (i:=v) (jx _ _ _);simp only[jo,l0]at aT;have bj:up (up d v Option.none) v (some (wL u kp i B.fh x.args,vr))=up d v (some (wL u kp i B.fh x.args,vr)):=funext λa=>by
      by_cases e:a=v
      ·subst e;rw[jx,jx]
      ·rw[jt _ _ e,jt _ _ e,jt _ _ e]
     rw[bj]at aT;refine tZ ?_;unfold oC;have c2:=I.put g O aq ae W vr;refine fM ⟨k'-1,by omega,j+1,_,_,rfl,by omega,(s7.trans aS).trans s9,(aB.trans aS).trans s9,?_,aT⟩;exact c2.more (λa ha=> .inl ((al true j v f a).1 ha)) λa ha=>(al true j v f a).2 ha
    ·refine gg (by show ¬(x.op:Int)=21;omega) (tZ ?_);unfold oC;refine fM ⟨k'-1,by omega,j+1,r,d,rfl,by omega,s7,aB,I.more (λa ha=>?_) (λa ha=>(al true j v f a).2 (.inl ha)),H7⟩;rcases(al true j v f a).1 ha with n|rfl
     ·exact .inl n
     ·exact .inr ⟨x,aq,ae⟩
   refine iJ ?_;obtain rfl:j=B.eh.length:=by omega
   clear ag k' hj;have bY:=bf.since aB;obtain⟨K,s8,rp⟩:=H7.ma 0 rfl;simp only[jo]at K;have bZ:=bY.since s8;generalize (λl=>M l\/Loc A l)=F8 at*;have K:=K.tail.tail;obtain⟨h9,e9,_,H9,s9⟩:=K.st 0 (o:=4) (u:=A) rfl (by simp[kE]) rp.one;refine ee (fe _ _ _) ?_;have ao:gM 1 (.ptr lb (0+4)) A h7=some (.val .undef h9):=by rw[zA];exact e9
   rw[ao,ei];simp only[jo]at H9;have bm:tw u kp i = {B with fh:=yx u kp i B.fh}:=by unfold tw;rw[aL]
   have aj:(kE B bv wn bp).set 4 A=kE (tw u kp i) bv wn A:=by rw[bm];rfl
   rw [aj]at H9;have bo:=bZ.since s9;have br:=rp.since s9;refine ee (H9.rh 0 rfl rfl) ?_;have H9:=H9.tail;rw[qa (sz:=6) (w:=kE (tw u kp i) bv wn A) rfl rfl (by simp only[kE,ey,bo.one,aK,br.one];rfl),fG];have cn:((List.range i).filter kp).length<=i:=by
    have:=wBT kp (List.range i)
    rwa [YR]at this
   obtain⟨bt,hA,eA,_,HA,sA⟩:=H9.uD 0 rfl (j7:=96) (Ca:=43) (y:=(tw u kp i,wn)) (w:=kE (tw u kp i) bv wn A) (ro:=false) (by rw[bm];exact⟨bv,A,rfl,bo,br,aK⟩) (by decide) (by decide) (by simp;omega);have b4:fg 43 6 96 Z (.slice h9.next 0 1) (h9.new (.cells 43 6 true false (kE (tw u kp i) bv wn A)))=some (.val bt hA):=eA;rw[b4,ei];simp only[jo]at HA;refine tz ?_;unfold oQ;refine fM ⟨k-1,by omega,F8,i+1,r,d,s,bt,rfl,by omega,((s7.trans s8).trans s9).trans sA,?_,?_,?_⟩
   ·exact I.more (λv n=> .inl ((am true D v).2 n)) λv n=>(am true D v).1 n
   ·refine aa.congr λv=>?_;rw[ay];exact⟨.inl,λh=>h.resolve_right λh=>by rw[D]at h;cases h.1⟩
   ·rw[wG,D,if_pos rfl,Nh,wCC,Yp,aJ];exact HA
  ·refine gg D ?_;have D:kp i=false:=wBl.2 D;refine oF (H5.ld 0 rfl rfl) (ee iv.len ?_);have H5:=H5.tail
   refine CY (λk' l h'=>∃(j:Nat) (s:List Int),l=[.ptr lt 0,.slice lk 0 u.blocks.length,.slice ln 0 u.blocks.length,Z,wb,.I u.blocks.length,.I i,bv,.I B.eh.length,.I j]/\j+k' = B.eh.length/\Sn F h M h'/\Sn M h5 M h'/\AsD (Cd u kp false i j) az s/\
    eo M h' (eR vP fR (((List.range i).filter kp).map λb=>(tw u kp b,PL bs b)) Z::eR eN eJ ns (.slice ln 0 u.blocks.length)::eR eB ju kl (.slice lk 0 u.blocks.length)::eR yh hK r wv::eR vP fR bs wb::fS eJ d::fS eJ fn::eR eZ eJ s pP::ez lt ty [.I u.func,.I u.pc,wv,wb,ws,pP]::cs)) ?_ (k:=B.eh.length)
    ⟨0,s,rfl,by omega,s4.trans s5,Sn.refl _ _,aa,H5⟩
   clear H5 H4;rintro k' _ _ _ Z _ _ _ _ _ _ h6 ⟨j,s,⟨⟩,ag,s6,ab,aa,U⟩;unfold vB;by_cases hj:j<B.eh.length
   ·refine gB ?_;have f:=hO hj;generalize B.eh[j]=v at*;have aC:=g.mH v i j ⟨B,W,f⟩;obtain⟨l1,o1,_,x1,x2⟩:=(iv.since ab).nat f .i64;refine ee x1 (ee x2 (oN (U.ld 8 rfl rfl) ?_));obtain⟨l2,o2,h7,e1,e2,_,H7,s7⟩:=U.IG 7 rfl (k:=v) (y:=(-1:Int)) (u:=V.I (-1)) (by rw[aa.len];omega) rfl rfl rfl;refine ee e1 ?_;rw[e2,ei];simp only[jo,l0]at H7;exact fM ⟨k'-1,by omega,j+1,s.set v (-1),rfl,by omega,s6.trans s7,ab.trans s7,(aa.put v).congr λa=>(al false j v f a).symm,H7⟩
   refine iJ (tz ?_);unfold oQ;obtain rfl:j=B.eh.length:=by omega
   refine fM ⟨k-1,by omega,M,i+1,r,d,s,_,rfl,by omega,s6,?_,aa.congr (am false D),?_⟩
   ·refine I.more (λv n=> .inl ?_) λv n=>(ay true v).2 (.inl n);rcases(ay true v).1 n with L|⟨L,_⟩
    ·exact L
    ·rw[D]at L;cases L
   ·rw[wG,D];simpa using U
 refine iJ ?_;obtain rfl:i=u.blocks.length:=by omega
 clear Y k hi;have a6:(mS u kp).length<=u.blocks.length:=by
  have:=wBT kp (List.range u.blocks.length)
  rwa [YR]at this
 rw[show(List.range u.blocks.length).filter kp=mS u kp from rfl]at H4;refine ee (H4.len 0 rfl) ?_;rw[GM];have bu:(mS u kp).Nodup:=List.nodup_range.filter _;have bw:∀b∈mS u kp,b<u.blocks.length:=λb R=>YQ.1 (PU.1 R).1
 refine C7 (λk l h'=>∃(i:Nat) (J:Nat->Option (List Nat×V)),l=[.ptr lt 0,.slice ln 0 u.blocks.length,Z,.I ((mS u kp).length:Nat),.I i]/\i+k=(mS u kp).length/\Sn F h M h'/\
  (∀b B w,bs[b]? =some (B,w)->J b=some (if b∈(mS u kp).take i then B.next.map (xo kp) else B.next,w))/\
  eo M h' (eR vP fR ((mS u kp).map λb=>(tw u kp b,PL bs b)) Z::eR eN eJ ns (.slice ln 0 u.blocks.length)::eR eB ju kl (.slice lk 0 u.blocks.length)::eR yh hK r wv::eR vP fR bs wb::fS eJ d::fS eJ J::eR eZ eJ s pP::ez lt ty [.I u.func,.I u.pc,wv,wb,ws,pP]::cs)) ?_ (k:=(mS u kp).length)
  ⟨0,fn,rfl,by omega,s4,λb B w b5=>by rw[R.row b B w b5];simp,H4⟩
 clear H4 s4;rintro k _ _ _ _ _ h5 ⟨i,J,⟨⟩,Y,s5,ah,H5⟩;unfold vz;by_cases hi:i<(mS u kp).length
 ·refine gB ?_;have f:=hO hi;have ak:=zE f;have bH:=bw _ (zd hi);have b6:(mS u kp)[i] ∉ (mS u kp).take i:=λhm=>by
   obtain⟨j,hj⟩:=oD.1 hm;have am:=(jR.1 hj).1;rw[Ip]at am;rw[wBI (by omega)]at hj;have:=zS bu hj f;omega
  generalize (mS u kp)[i]=b at*;obtain⟨⟨B,wn⟩,N⟩:∃y,bs[b]? =some y:=⟨_,hO (by omega)⟩
  have W:u.blocks[b]? =some B:=by rw[<-R.fst,Cq,N];rfl
  have aJ:PL bs b=wn:=by unfold PL;rw[N]
  have bx:((mS u kp).map λb=>(tw u kp b,PL bs b))[i]? =some (tw u kp b,wn):=by rw[Cq,f,<-aJ];rfl
  have co:=g.walk.two b B W;have b7:∀t∈B.next,t<u.blocks.length:=λt ht=>g.walk.nx b t (by unfold next;rw[W];exact ht);have ac:=ah b B wn N;rw[if_neg b6]at ac;obtain⟨lo,oo,w1,z1,_,⟨pv,pp,rfl,_,_,_⟩,z2⟩:=H5.X1 0 rfl bx .i64;have z1:gJ 6 Z (.I i)=some (.ptr lo oo):=z1;have z3:=z2 3 wn rfl;refine ee z1 (oF z3 (ee (H5.rows 6 rfl ac).len ?_))
  refine Ce (λk' l h'=>∃(j:Nat) (J:Nat->Option (List Nat×V)),l=[.ptr lt 0,.slice ln 0 u.blocks.length,Z,.I i,.I ((mS u kp).length:Nat),.I i,wn,.I B.next.length,.I j]/\j+k' = B.next.length/\Sn F h M h'/\
   (∀c B w,c≠b->bs[c]? =some (B,w)->J c=some (if c∈(mS u kp).take i then B.next.map (xo kp) else B.next,w))/\J b=some ((B.next.take j).map (xo kp)++B.next.drop j,wn)/\
   eo M h' (eR vP fR ((mS u kp).map λb=>(tw u kp b,PL bs b)) Z::eR eN eJ ns (.slice ln 0 u.blocks.length)::eR eB ju kl (.slice lk 0 u.blocks.length)::eR yh hK r wv::eR vP fR bs wb::fS eJ d::fS eJ J::eR eZ eJ s pP::ez lt ty [.I u.func,.I u.pc,wv,wb,ws,pP]::cs)) ?_ (k:=B.next.length)
   ⟨0,J,rfl,by omega,s5,λc B w _ hc=>ah c B w hc,ac,H5⟩
  clear H5 s5 z2 z3 ac ah;rintro k' _ _ _ _ _ _ _ _ _ h6 ⟨j,J,⟨⟩,ag,s6,ah,ac,U⟩;unfold uN;obtain⟨b8,b9,w1,z4,_,⟨pv,pp,rfl,_,_,_⟩,z2⟩:=U.X1 0 rfl bx .i64;have z4:gJ 6 Z (.I i)=some (.ptr b8 b9):=z4;have z3:=z2 3 wn rfl;by_cases hj:j<B.next.length
  ·refine gB ?_;have hn:=hO hj;have aF:((B.next.take j).map (xo kp)++B.next.drop j)[j]? =some B.next[j]:=by
    rw[SQ (by simp;omega)];simp[Ip,wBm (Nat.le_of_lt hj)]
   have bz:((B.next.take j).map (xo kp)++B.next.drop j).set j (xo kp B.next[j])=(B.next.take (j+1)).map (xo kp)++B.next.drop (j+1):=by
    have hL:((B.next.take j).map (xo kp)).length=j:=by rw[GM,Ip];omega
    rw[zE hn,Nh,Ii,Ys hj,List.set_append_right _ _ (by omega),hL,Nat.sub_self];rfl
   have aU:j<((B.next.take j).map (xo kp)++B.next.drop j).length:=(jR.1 aF).1;have ca:=b7 _ (zd hj);generalize B.next[j]=t at*;obtain⟨l1,o1,_,x1,x2⟩:=(U.rows 6 rfl ac).read.nat aF .i64;obtain⟨l2,o2,y1,y2⟩:=U.K7 1 rfl (ai t ca) .i64;obtain⟨l3,o3,h7,e1,e2,n7,H7,s7⟩:=U.Wq 6 rfl ac aU (xo kp t);refine ee x1 (ee x2 (ee z4 (oF z3 (ee y1 (ee y2 (ee e1 ?_))))));rw[e2,ei];simp only[jo,l0]at H7;refine⟨n7,fM ⟨k'-1,by omega,j+1,_,rfl,by omega,s6.trans s7,λc C w bA hc=>?_,?_,H7⟩⟩
   ·rw[jt _ _ bA];exact ah c C w bA hc
   ·rw[jx,bz]
  refine iJ ?_;obtain rfl:j=B.next.length:=by omega
  rw[JF,List.drop_length,GP]at ac;refine fM ⟨k-1,by omega,i+1,J,rfl,by omega,s6,λc C w hc=>?_,U⟩;rw[ak];by_cases e:c=b
  ·subst e;rw[N]at hc;cases hc;rw[ac,if_pos (by simp)]
  ·rw[ah c C w e hc];simp[e]
 refine iJ ?_;obtain rfl:i=(mS u kp).length:=by omega
 rw [JF]at ah;clear Y k hi;obtain⟨h6,e6,_,U,s6⟩:=H5.st 8 (o:=3) (u:=Z) rfl (by simp) (H5.one 0 rfl);refine ee (gj _ _) (ee (fe _ _ _) (ee (fe _ _ _) ?_));have cb:gM 1 (.ptr lt (0+0+3)) Z h5=some (.val .undef h6):=e6;rw[cb,ei];simp only[jo,l0]at U;have cd:∀b,b∈mS u kp->∃B,u.blocks[b]? =some B/\bs[b]? =some (B,PL bs b)/\u.blocks.getD b PG=B:=λb ce=>by
  obtain⟨⟨B,w⟩,N⟩:∃y,bs[b]? =some y:=⟨_,hO (by have:=bw b ce;omega)⟩
  have W:u.blocks[b]? =some B:=by rw[<-R.fst,Cq,N];rfl
  exact⟨B,W,by unfold PL;rw[N],by rw[G2,W];rfl⟩
 have H7:=U.Zt (E':=vP) (ys:=(mS u kp).map λb=>(ID u kp b,PL bs b)) 0 rfl rfl (by simp) λk x y ws f hy hr=>by
  rw[Cq]at f hy
  cases hkk:(mS u kp)[k]? with
  |none=>rw[hkk]at f;cases f
  | some b=>
    rw[hkk]at f hy;cases f;cases hy;exact hr
 simp only[jo]at H7;obtain⟨ar,au⟩:∃ar:Nat->Option (List Nat×V),∀k,ar k=match (mS u kp)[k]? with|some b=>J b|none=>Option.none:=⟨_,λ_=>rfl⟩
 have bC:∀{k b:Nat},(mS u kp)[k]? =some b->ar k=J b:=λY=>by rw[au,Y]
 have K:=H7.Ql 6 rfl ar (λk=>(mS u kp).getD k 0) (λk p Y=>by
  cases hkk:(mS u kp)[k]? with
  |none=>rw[au,hkk]at Y;cases Y
  |some b=>rw[bC hkk]at Y;rw[G2,hkk];exact Y) (λk k' p q Y ag e=>by
  cases hkk:(mS u kp)[k]? with
  |none=>rw[au,hkk]at Y;cases Y
  | some b=>
    cases hkk':(mS u kp)[k']? with
    |none=>rw[au,hkk']at ag;cases ag
    | some b'=>
      simp only[G2,hkk,hkk',Option.getD_some]at e;subst e;exact zS bu hkk hkk')
 simp only[jo,l0]at K;have hU:∀c v,Cd u kp c u.blocks.length 0 v↔∃b k,At u v b k/\kp b=c:=λc v=>by
  constructor
  ·rintro(⟨b,k,_,h3,h4⟩|⟨k,h3,_⟩)
   ·exact⟨b,k,h4,h3⟩
   ·omega
  ·rintro⟨b,k,h4,h3⟩;exact .inl ⟨b,k,(let⟨_,h,_⟩:=h4;(jR.1 h).1),h3,h4⟩
 refine H M h6 seen post kp ⟨u.func,u.pc,r.map Prod.fst,(mS u kp).map (ID u kp),u.en⟩ r ((mS u kp).map λb=>(ID u kp b,PL bs b)) d ar s Z (s5.trans s6) G a8 ⟨rfl,rfl,rfl,rfl,by rw[GM,I.len],λv b k x B O f ae T W=>?_,λv x f hn=>?_⟩ ⟨rfl,λv x w f=>?_,λv hv=>I.out v (by rw[I.len]at hv;exact hv)⟩ ⟨by rw[List.map_map];rfl,λk B w f=>?_,λk Y=>?_⟩ ⟨aa.len,λv b k O T hv=>aa.gone v ((hU false v).2 ⟨b,k,O,T⟩) hv,λv hn=>aa.same v λhD=>hn ((hU false v).1 hD)⟩ K.VS
 ·obtain⟨w,n,_⟩:=I.KO v b k x B ((hU true v).2 ⟨b,k,O,T⟩) O f ae W;rw[Cq,n];rfl
 ·obtain⟨w,n,_⟩:=I.same v x f λ⟨n,L⟩=>hn ⟨n,(hU true v).1 L⟩;rw[Cq,n];rfl
 ·have aC:v<u.eh.length:=by rw[<-I.len];exact(jR.1 f).1
  have hy:=hO aC;generalize u.eh[v]=y at*;by_cases hD:y.op=21/\Cd u kp true u.blocks.length 0 v
  ·obtain⟨b,k,O,T⟩:=(hU true v).1 hD.2;obtain⟨B,W,cp⟩:=id O;obtain⟨w',n,L⟩:=I.KO v b k y B hD.2 O hy hD.1 W;rw[f]at n;cases n;exact L
  ·obtain⟨w',n,L⟩:=I.same v y hy hD;rw[f]at n;cases n;exact L
 ·rw[Cq]at f
  cases hkk:(mS u kp)[k]? with
  |none=>rw[hkk]at f;cases f
  | some b=>
    rw[hkk]at f;cases f;obtain⟨B,W,N,aL⟩:=cd b (Ik hkk);rw[bC hkk,ah b B _ N,if_pos (Ik hkk)];unfold ID;rw[aL]
 ·rw[GM]at Y;rw[au,NT Y]
end
