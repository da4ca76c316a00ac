/- Parts. -/
import Derived.Test.YtkpicojjjifmgaaGreatDoorM41
namespace Go.Proofs.YtkpicojjjifmgaaGreatDoor.Hx
open Un Dm
def Sa(u:U)(locals:List Int)(gW:Int)(fuel EN b:Nat)(B:Bk):Ex ⊕ Rs->Ex
 | .inl e=>e
 | .inr s=>if fuel<=s.steps then .zW else if B.fin=3 then yd u {s with steps:=s.steps+1} B.state else match En B s with
   |none=> .stuck
   |some t=>runM u locals gW fuel EN (some b) t {s with steps:=s.steps+1}
theorem Y6{u:U}{locals:List Int}{gW:Int}{fuel EN b:Nat}{pg:Option Nat}{s:Rs}{B:Bk}(a:u.blocks[b]? =some B) :
  runM u locals gW fuel (EN+1) pg b s=Sa u locals gW fuel EN b B (p9 u gW fuel (B.eh.dropWhile (gU u)) (oY u locals pg B s)):=by
 unfold runM;simp only[a];cases p9 u gW fuel (B.eh.dropWhile (gU u)) (oY u locals pg B s) <;> rfl
theorem zat{p:Nat->Bool}:∀(l:List Nat)(i:Nat),i<=l.length->(∀(m v:Nat),m<i->l[m]? =some v->p v=true)->(∀v,l[i]? =some v->p v=false)->l.takeWhile p=l.take i/\l.dropWhile p=l.drop i
 |[],i,h,_,_=>by simp
 | a::l,0,_,_,h=>by
   have:=h a rfl
   simp[this]
 | a::l,i+1,hl,b,d=>by
   have c:=b 0 a (by omega) rfl;obtain⟨e,f⟩:=zat l i (by simpa using hl) (λm v g hv=>b (m+1) v (by omega) (by simpa using hv)) λv hv=>d v (by simpa using hv);rw[List.takeWhile_cons,List.dropWhile_cons,if_pos c,if_pos c,e,f];exact⟨rfl,rfl⟩
def KQ:Option Nat->Int
 |none=>-1
 |some p=>(p:Int)
section
variable{F F':Nat->Prop}{h h':Hp}{cs ds:List Pc}{Q:fy}{u:U}{vv vb vs oh vN rm mM bv bn bp:V}{eh hp locals:List Int}{lu lr lh lb Th:Nat}{fT:LP}{gW:Int}{fuel steps polls b:Nat}{pg:Option Nat}{B:Bk}
abbrev Rn(eh:List Int) (oh:V) (lr lu:Nat) (u:U) (vv vb vs:V) (lh Th:Nat) (rm mM:V) (hp:List Int) (ds:List Pc):List Pc:=
 eR (eI .u64) zT eh oh::ez lr 83 [.I 0,.I 0,.I 0,.ef,.I 0]::ez lu 30 (uC u vv vb vs)::ez lh Th [rm,mM]::eR (eI .u64) zT hp mM::ds
abbrev Ws(u:U)(locals:List Int)(pg:Option Nat)(B:Bk)(eh:List Int)(v:Nat):Int:=Mo u locals pg B (CE eh) v
def ZD(pg:Option Nat)(B:Bk)(x:Vl)(eh:List Int):Int:=match pg with
 | some p=>match B.fh.findIdx? (·== p)with
   |some j=>CE eh (x.args.getD j 0)
   |none=>0
 |none=>0
theorem zc1{v:Nat}{x:Vl}(a:u.eh[v]? =some x):Ws u locals pg B eh v=if x.op=1 then locals.getD x.n.toNat 0 else ZD pg B x eh:=by
 show Mo u locals pg B (CE eh) v=_;unfold Mo ZD;simp only[a];cases pg <;> rfl
theorem zcD(g:Good u)(H0:eo F h (ez lb 43 (kE B bv bn bp)::Rn eh oh lr lu u vv vb vs lh Th rm mM hp ds))(hu:ym F h u vv vb vs)(A:iq (eI .u64) F h locals vN)(Y:eh.length=u.eh.length)(N:u.blocks[b]? =some B)(iv:iq eN F h B.eh bv)(ip:iq eN F h B.fh bp)(ll:locals.length<1000000000)
  (K:∀h' CR,Sn F h F h'->eo F h' (eR (eI .u64) zT ((B.eh.takeWhile (gU u)).map (Ws u locals pg B eh)) CR::ez lb 43 (kE B bv bn bp)::Rn eh oh lr lu u vv vb vs lh Th rm mM hp ds)->
   jA CS Q fT [.ptr lh 0,vN,.I gW,.I fuel,.ptr lu 0,.ptr lr 0,oh,.I steps,.I polls,.I b,.ptr lb 0,CR,.I ((B.eh.takeWhile (gU u)).length:Nat)] h') :
  pd CS Q fT [.ptr lh 0,vN,.I gW,.I fuel,.ptr lu 0,.ptr lr 0,oh,.I steps,.I polls,.I b,.I (KQ pg),.ptr lb 0,.ef,.I 0] h:=by
 have nv:=g.nv;have ak:B.eh.length<=u.eh.length:=kj _ B.eh (Cf g N) λv hv=>by
  obtain⟨k,hk⟩:=oD.1 hv;exact g.mH v b k ⟨B,N,hk⟩
 obtain ⟨J,Z⟩:∃J:Nat->LP,J=λk l h'=>∃(i:Nat) (CR:V),l=[.ptr lh 0,vN,.I gW,.I fuel,.ptr lu 0,.ptr lr 0,oh,.I steps,.I polls,.I b,.I (KQ pg),.ptr lb 0,CR,.I i]/\i+k=B.eh.length/\Sn F h F h'/\
   (∀(m v:Nat),m<i->B.eh[m]? =some v->gU u v=true)/\eo F h' (eR (eI .u64) zT ((B.eh.take i).map (Ws u locals pg B eh)) CR::ez lb 43 (kE B bv bn bp)::Rn eh oh lr lu u vv vb vs lh Th rm mM hp ds):=⟨_,rfl⟩
 refine Cu J (λk x1 x2 x3 x4 x5 al am an ao ap aq ar CR au O hi=>?_) (k:=B.eh.length) ?_;rotate_left
 ·rw[Z];exact⟨0,.ef,rfl,by omega,Sn.refl _ _,λm v h=>by omega,H0.add (p:=eR (eI .u64) zT [] .ef) .nil λ_ h=>h⟩
 clear H0;rw[Z]at hi;obtain⟨i,_,⟨⟩,hk,D,hh,C⟩:=hi;unfold vI;have P:=iv.since D;have u1:=hu.since D;have fin:∀{R},Sn F O F R->(∀v,B.eh[i]? =some v->gU u v=false)->eo F R (eR (eI .u64) zT ((B.eh.take i).map (Ws u locals pg B eh)) CR::ez lb 43 (kE B bv bn bp)::Rn eh oh lr lu u vv vb vs lh Th rm mM hp ds)->jA CS Q fT [.ptr lh 0,vN,.I gW,.I fuel,.ptr lu 0,.ptr lr 0,oh,.I steps,.I polls,.I b,.ptr lb 0,CR,.I i] R:=λ{R} s2 S H2=>by
  have e:=(zat (p:=gU u) B.eh i (by omega) hh S).1;have K2:=K R CR (D.trans s2) (by rw[e];exact H2);rw[e,Ip,wBm (by omega)]at K2;exact K2
 have c0:eQ (.ptr lb (0+0)) O=some bv:=C.ld 1 rfl rfl;have c2:eQ (.ptr lu (0+2)) O=some vv:=C.ld 4 rfl rfl;refine oF c0 (ee P.len ?_);by_cases hi:i<B.eh.length;rotate_left
 ·exact iJ (fin (Sn.refl _ _) (λv hv=>by rw[NT (by omega)]at hv;cases hv) C)
 refine gB ?_;have hv:=hO hi;have aa:=NG hi;generalize B.eh[i]=v at*;have T:At u v b i:=⟨B,N,hv⟩
 have ab:=g.mH v b i T;have L:=hO ab;generalize u.eh[v]=x at*;obtain⟨l1,o1,ac,p1,p2⟩:=P.nat hv .i64;obtain⟨l2,o2,xa,ae,q1,q2,xr,_⟩:=u1.val L;refine oF c2 (oF c0 (ee p1 (ee p2 (ee q1 (ee q2 ?_)))));rw[hV];obtain⟨H2,s2⟩:=C.zI 45 [.I 0,.I 0,.I 0,.I 0,.ef,.I 0];refine⟨⟨fj _ _,bq⟩,Gc q2 (fo _ (C.fl _ ae)),iL p2 (fo _ (C.fl _ ac)),iL c0 (fo _ (Pc.Co C 1 rfl)),iL c2 (fo _ (Pc.Co C 4 rfl)),?_⟩;obtain⟨h3,e3,n3,f,s3⟩:=H2.WS 0 (n:=6) (ws:=mI x xa) rfl rfl rfl (by simp only[mI,ey,xr.one];rfl);rw[e3,ei];simp only[jo]at f;generalize O.next=lc at*;refine⟨n3,oF (f.ld 0 rfl rfl) (gi ?_)⟩;have c:=s2.trans s3;have s:=zc1 (locals:=locals) (pg:=pg) (B:=B) (eh:=eh) L
 have t:∀{E w},Sn F O F E->gU u v=true->tI .u64 w->w=Ws u locals pg B eh v->eo F E (ez lc 45 (mI x xa)::eR (eI .u64) zT ((B.eh.take i).map (Ws u locals pg B eh)) CR::ez lb 43 (kE B bv bn bp)::Rn eh oh lr lu u vv vb vs lh Th rm mM hp ds)->
   jm CS Q fT (Db J k) [.ptr lh 0,vN,.I gW,.I fuel,.ptr lu 0,.ptr lr 0,oh,.I steps,.I polls,.I b,.I (KQ pg),.ptr lb 0,CR,.I i,.int .u64 w] E:=λ{E w} s4 d hw he H4=>by
  refine B6 ?_;unfold tT;rw[An,fG];obtain⟨G,h5,e5,_,H5,s5⟩:=H4.uD 1 rfl (j7:=8) (Ca:=90) (y:=w) (w:=[.int .u64 w]) (ro:=false) ⟨rfl,hw⟩ (by decide) (by decide) (by simp;omega);rw[show fg 90 1 8 CR (.slice E.next 0 1) (E.new (.cells 90 1 true false [.int .u64 w]))=_ from e5,ei];simp only[jo,l0]at H5;refine fM ⟨k-1,by omega,?_⟩;rw[Z];refine⟨i+1,G,rfl,by omega,(D.trans s4).trans s5,λm v' M r=>?_,?_⟩
  ·by_cases e:m=i
   ·subst e;rw[hv]at r;cases r;exact d
   ·exact hh m v' (by omega) r
  ·rw[aa,Nh,List.map_singleton,<-he];exact H5.tail
 have H:gU u v=iU x.op:=by unfold gU;simp only[L]
 by_cases U:x.op=1
 ·obtain⟨n0,aw,_⟩:=g.param v x L U;have d:gU u v=true:=by rw[H,U];rfl
  rw[if_pos U]at s;obtain⟨n,S⟩:=wBG n0;rw[S]at s;have s:Ws u locals pg B eh v=locals.getD n 0:=s;refine gv (by omega) (oF (show _=some (.I (n:Int)) by rw[f.ld (o:=0+3) 0 rfl rfl,S]) (ee (A.since (D.trans c)).len (Wt ?_)));by_cases cl:n<locals.length
  ·have W:=hO cl;obtain⟨l5,o5,_,r1,r2,r3⟩:=(A.since (D.trans c)).word W .i64;refine gv (by omega) (oF (show _=some (.I (n:Int)) by rw[f.ld (o:=0+3) 0 rfl rfl,S]) (ee r1 (ee r2 (t c d r3 ?_ f))));rw[s,G2,W];rfl
  ·refine gg (by omega) (t c d zJ ?_ f);rw[s,G2,NT (by omega)];rfl
 refine gg (by omega) (oF (f.ld 0 rfl rfl) (gi ?_));rw[if_neg U]at s;by_cases z:x.op=21;rotate_left
 ·exact gg (by omega) (fin c (λv' r=>by rw[hv]at r;cases r;rw[H];unfold iU;rw[Bool.or_eq_false_iff,Nj,Nj];exact⟨U,z⟩) f.tail)
 have d:gU u v=true:=by rw[H,z];rfl
 refine gv (by omega) ?_;obtain⟨_,ax⟩:=g.KO v b i x B T L z N;have ay:=Am g N;have X:=ip.since (D.trans c);have ag:=xr.since c;refine CD (λk4 l h'=>∃j:Nat,l=[.ptr lh 0,vN,.I gW,.I fuel,.ptr lu 0,.ptr lr 0,oh,.I steps,.I polls,.I b,.I (KQ pg),.ptr lb 0,CR,.I i,.ptr lc 0,.int .u64 0,.I (j:Nat)]/\j+k4=B.fh.length/\h' = h3/\∀m:Nat,m<j->∀p,B.fh[m]? =some p->(p:Int)≠KQ pg) ?_ (k:=B.fh.length) ⟨0,rfl,by omega,rfl,λm h=>by omega⟩;rintro k4 _ _ _ _ _ _ _ _ _ _ _ _ _ _ _ _ _ E ⟨j,⟨⟩,aA,rfl,I⟩;unfold vn;refine oF (f.ld 2 rfl rfl) (ee X.len ?_);by_cases hj:j<B.fh.length;rotate_left
 ·refine iJ (t c d zJ ?_ f);rw[s]
  cases pg with
  |none=>rfl
  | some p=>
    have:B.fh.findIdx? (·== p)=none:=by
      rw[List.findIdx?_eq_none_iff];intro q hq;obtain⟨m,M⟩:=oD.1 hq;have:=I m (by have:=(jR.1 M).1;omega) q M;rw[Nj];exact λe=>this (by rw[e];rfl)
    simp only[ZD,this]
 refine gB ?_;have hp:=hO hj;have aB:B.fh[j]=B.fh[j]:=rfl;generalize ah:B.fh[j]=p at hp;obtain⟨l5,o5,_,r1,r2⟩:=X.nat hp .i64;refine oF (f.ld 2 rfl rfl) (ee r1 (ee r2 (gi ?_)));by_cases cp:(p:Int)=KQ pg;rotate_left
 ·refine gg cp (fM ⟨k4-1,by omega,j+1,rfl,by omega,rfl,λm M q hq=>?_⟩);by_cases e:m=j
  ·subst e;rw[hp]at hq;cases hq;exact cp
  ·exact I m (by omega) q hq
 have ha:=hO (l:=x.args) (i:=j) (by omega);have ai:=zd (l:=x.args) (n:=j) (by omega);have aj:x.args[j]<eh.length:=by
  rw[Y];exact xj (g.use v x L _ (by unfold jk;rw[if_pos z];exact ai))
 generalize x.args[j]=a at*;obtain⟨l6,o6,_,t1,t2⟩:=ag.nat ha .i64;obtain⟨l7,o7,y1,y2,y3,_⟩:=f.KJ 3 rfl (I3 aj) .i64;refine gv cp (oF (f.ld 0 rfl rfl) (ee t1 (ee t2 (ee y1 (ee y2 (t c d y3 ?_ f))))));rw[s]
 cases pg with
 |none=>exact absurd cp (by simp only[KQ];omega)
 | some p'=>
   have:B.fh.findIdx? (·== p')=some j:=by
     rw[List.findIdx?_eq_some_iff_getElem];refine⟨hj,?_,λm M=>?_⟩
     ·rw[ah,C9];exact Int.ofNat.inj cp
     ·have:=I m M _ (hO (by omega))
      simp only[Bool.not_eq_true,Nj];exact λe=>this (by rw[e];rfl)
   simp only[ZD,this];rw[G2,ha];rfl
end
open Un Dm
theorem RM(val:List Int)(l:List (Nat×Int))(p:Nat×Int):yT val (l++[p])=(yT val l).set p.1 p.2:=by
 unfold yT;rw[List.foldl_append];rfl
theorem VW{u:U}{gW:Int}{n:Nat}{x:Vl}{s:Rs}(h:x.op≠19/\x.op≠20/\x.op≠22/\x.op≠23):yE u gW n x s = .inr {s with val:=s.val.set n (Fq x s.of s.heap),steps:=s.steps+1}:=by
 unfold yE;rw[if_neg h.1,if_neg h.2.1,if_neg h.2.2.1,if_neg h.2.2.2]
theorem LI{u:U}{gW:Int}{fuel v:Nat}{l:List Nat}{s:Rs}{x:Vl}(a:¬fuel<=s.steps)(b:u.eh[v]? =some x):p9 u gW fuel (v::l) s=match yE u gW v x s with
  | .inl e=> .inl e
  | .inr s=>p9 u gW fuel l s:=by
 conv=>lhs;unfold p9
 simp only[b,if_neg a];cases yE u gW v x s <;> rfl
theorem Sq{u:U}{gW:Int}{fuel v:Nat}{l:List Nat} {s s':Rs}{x:Vl}(a:¬fuel<=s.steps)(b:u.eh[v]? =some x)(h:yE u gW v x s = .inr s'):p9 u gW fuel (v::l) s=p9 u gW fuel l s':=by
 rw[LI a b,h]
theorem VT{u:U}{gW:Int}{fuel v:Nat}{l:List Nat}{s:Rs}{e:Ex}{x:Vl}(a:¬fuel<=s.steps)(b:u.eh[v]? =some x)(h:yE u gW v x s = .inl e):p9 u gW fuel (v::l) s = .inl e:=by
 rw[LI a b,h]
theorem Qp{u:U}{gW:Int}{fuel v:Nat}{l:List Nat}{s:Rs}(a:fuel<=s.steps):p9 u gW fuel (v::l) s = .inl .zW:=by
 rw[p9,if_pos a]
theorem Ov{u:U}{s:Rs}{st:Nat}{fs:List Fm}(a:u.en[st]? =some fs):yd u s st = .left s.steps (fs.map (Qh s.val)) s.heap:=by
 unfold yd;rw[a];rfl
section
variable{F F':Nat->Prop}{h h':Hp}{cs ds:List Pc}{Q:fy}{u:U}{vv vb vs oh vN rm mM bv bn bp CR:V}{eh hp locals:List Int}{lu lr lh lb Th:Nat}{fT:LP}{gW:Int}{fuel steps polls b:Nat}{pg:Option Nat}{B:Bk}
theorem SX{ws:List V}(d:eo F h (ez lb 43 (kE B bv bn bp)::Rn eh oh lr lu u vv vb vs lh Th rm mM hp ds))(c:ws.length=5)(a:gG ws=true)(K:∀h',Sn F h F h'->eo F h' (ez lh Th [rm,mM]::eR (eI .u64) zT hp mM::ds)->Q (.agg ws) h') :
  fk (gM 5 (.ptr lr 0) (.agg ws) h) λ_ a=>oP (fY 5 (.ptr lr 0) a) λr=>Q r a:=by
 obtain⟨e,f,_,b,g⟩:=d.WS 2 (n:=5) (ws:=ws) rfl c rfl a;rw[f,ei];simp only[jo,l0]at b;exact ee (b.rh 2 rfl c) (K e g b.tail.tail.tail.tail)
theorem zcK(g:Good u)(o:eo F h (eR (eI .u64) zT ((B.eh.takeWhile (gU u)).map (Ws u locals pg B eh)) CR::ez lb 43 (kE B bv bn bp)::Rn eh oh lr lu u vv vb vs lh Th rm mM hp ds))(r:eh.length=u.eh.length)(e:u.blocks[b]? =some B)(s:iq eN F h B.eh bv)(hs:steps<100000000)
  (K:∀h',Sn F h F h'->eo F h' (ez lb 43 (kE B bv bn bp)::Rn (yT eh ((B.eh.takeWhile (gU u)).map λv=>(v,Ws u locals pg B eh v))) oh lr lu u vv vb vs lh Th rm mM hp ds)->
   mm CS Q fT [.ptr lh 0,vN,.I gW,.I fuel,.ptr lu 0,.ptr lr 0,oh,.I ((steps+(B.eh.takeWhile (gU u)).length:Nat):Int),.I polls,.I b,.ptr lb 0,.I ((B.eh.takeWhile (gU u)).length:Nat)] h') :
  jA CS Q fT [.ptr lh 0,vN,.I gW,.I fuel,.ptr lu 0,.ptr lr 0,oh,.I steps,.I polls,.I b,.ptr lb 0,CR,.I ((B.eh.takeWhile (gU u)).length:Nat)] h:=by
 have nv:=g.nv;have t:B.eh.length<=u.eh.length:=kj _ B.eh (Cf g e) λv hv=>by
  obtain⟨k,p⟩:=oD.1 hv;exact g.mH v b k ⟨B,e,p⟩
 have a:B.eh.takeWhile (gU u)++B.eh.dropWhile (gU u)=B.eh:=wA9;have f:∀(j v:Nat),(B.eh.takeWhile (gU u))[j]? =some v->B.eh[j]? =some v:=λj v hv=>by
  rw[<-a,PX (jR.1 hv).1];exact hv
 have w:(B.eh.takeWhile (gU u)).length<=B.eh.length:=by
  have:=congrArg List.length a;rw[Ec]at this;omega
 clear a;generalize B.eh.takeWhile (gU u)=hs at*;refine CU ?_;unfold vG
 obtain ⟨J,i⟩:∃J:Nat->LP,J=λk l h'=>∃j:Nat,l=[.ptr lh 0,vN,.I gW,.I fuel,.ptr lu 0,.ptr lr 0,oh,.I ((steps+j:Nat):Int),.I polls,.I b,.ptr lb 0,CR,.I hs.length,.I (j:Nat)]/\j+k=hs.length/\Sn F h F h'/\
   eo F h' (eR (eI .u64) zT (hs.map (Ws u locals pg B eh)) CR::ez lb 43 (kE B bv bn bp)::Rn (yT eh ((hs.take j).map λv=>(v,Ws u locals pg B eh v))) oh lr lu u vv vb vs lh Th rm mM hp ds):=⟨_,rfl⟩
 refine C0 J (λk V W X Y Z x z A C D E G H I L hi=>?_) (k:=hs.length) ?_;rotate_left
 ·rw[i];exact⟨0,rfl,by omega,Sn.refl _ _,o⟩
 clear o;rw[i]at hi;obtain⟨j,⟨⟩,p,m,c⟩:=hi;unfold uP;by_cases hj:j<hs.length;rotate_left
 ·refine iJ ?_;obtain rfl:j=hs.length:=by omega
  rw[JF]at c;exact K L m c.tail
 refine gB ?_;have hv:=hO hj;have n:=NG hj;generalize hs[j]=v at*;have d:=f j v hv;have M:=g.mH v b j ⟨B,e,d⟩;have N:(hs.map (Ws u locals pg B eh))[j]? =some (Ws u locals pg B eh v):=by rw[Cq,hv];rfl
 obtain⟨l1,o1,_,p1,p2⟩:=(s.since m).nat d .i64;obtain⟨l2,o2,O,P,R,_⟩:=c.KJ 0 rfl N .i64;obtain⟨l3,o3,h2,r1,S,T,q,U⟩:=c.IG 2 rfl (k:=v) (y:=Ws u locals pg B eh v) (u:= .int .u64 (Ws u locals pg B eh v)) (by rw[DA];omega) rfl rfl ⟨rfl,R⟩;refine oF (c.ld 1 rfl rfl) (ee p1 (ee p2 (ee O (ee P (ee r1 ?_)))));rw[S,ei];simp only[jo,l0]at q;refine⟨T,fM (fM ⟨k-1,by omega,?_⟩)⟩;rw[i];refine⟨j+1,rfl,by omega,m.trans U,?_⟩;rw[n,Nh,List.map_singleton,RM];exact q
def zdh(fr:List Fw):Prop:=fr.length<=1000/\∀f∈fr,f.locals.length<=1000/\f.stack.length<=1000
theorem Um(g:Good u){st:Nat}{fs:List Fm}(a:u.en[st]? =some fs):zdh (fs.map (Qh eh)):=by
 obtain⟨_,e,b⟩:=g.st st fs a;refine⟨by rw[GM];omega,λf c=>?_⟩;obtain⟨x,d,rfl⟩:=LN.1 c;obtain⟨h,i,_⟩:=b x d;simp only[Qh,GM];omega
def ExR(F:Nat->Prop)(h:Hp)(e:Ex)(hp:List Int)(a d:Int)(w:V):Prop:=(e = .zW/\a=0/\w = .ef)\/∃(n:Nat)(fr:List Fw),e = .left n fr hp/\a=1/\d=(n:Int)/\iq Zk F h fr w/\zdh fr
end
