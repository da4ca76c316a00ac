/- Parts. -/
import Derived.Test.YtcoaokdoecgcbaaGreatDoorM22
import Derived.Test.YtcoaokdoecgcbaaGreatDoorM16
set_option maxHeartbeats 4000000
namespace Go.Proofs.YtcoaokdoecgcbaaGreatDoor.Hx
open Un
variable{K:V->Prop}{F:Nat->Prop}{X:Option V}{h:Hp}{F':Nat->Prop}{A B:Prop}{a:List V}{T:Nat}{b:Int}{t:Nat}{v:V}{f:Nat}{u:U}{vb vs vv:V}{C:mh}{h':Hp}
def eZ:tq Int where
 sz:=1
 rel _ _ n cs:=cs=[.I n]
 len h:=by simp_all
 one h:=by subst h;rfl
 fy _ h:=h
 mono _ h:=h
def eW:tq (Nat×Nat) where
 sz:=2
 rel _ _ x cs:=cs=[.I (x.1:Nat),.I (x.2:Nat)]
 len h:=by simp_all
 one h:=by subst h;rfl
 fy _ h:=h
 mono _ h:=h
structure EZ (F:Nat->Prop) (h:Hp) (u:U) (vv vb vs:V):Prop where
 v:hD eV F h u.ee vv
 b:hD eK F h u.blocks vb
 s:hD eT F h u.eE vs
theorem EZ.fy(c:∀l,F l->h'.get l=h.get l)(a:EZ F h u vv vb vs):EZ F h' u vv vb vs:=⟨a.v.fy c,a.b.fy c,a.s.fy c⟩
theorem EZ.mono(c:∀l,F l->F' l)(a:EZ F h u vv vb vs):EZ F' h u vv vb vs:=⟨a.v.mono c,a.b.mono c,a.s.mono c⟩
theorem EZ.one(a:EZ F h u vv vb vs):gi (uC u vv vb vs)=true:=by simp only[uC,fe,a.v.one,a.b.one,a.s.one];rfl
theorem hD.since{α:Type}{E:tq α}{xs:List α}(hs:hD E F h xs v)(s:Sn F h F' h'):hD E F' h' xs v:=(hs.fy s.fy).mono s.mono
theorem EZ.since(a:EZ F h u vv vb vs)(s:Sn F h F' h'):EZ F' h' u vv vb vs:=(a.fy s.fy).mono s.mono
section
variable{F F':Nat->Prop}{h h':Hp}{cs:List Pc}{Q:fj}{u:U}{vv vb vs:V}
structure zh1 (h:Hp) (l o:Nat) (x:Vl) (w:V):Prop where
 op:ez (.ptr l (o+0)) h=some (.I x.op)
 a:ez (.ptr l (o+1)) h=some (.I x.a)
 b:ez (.ptr l (o+2)) h=some (.I x.b)
 n:ez (.ptr l (o+3)) h=some (.I x.n)
 args:ez (.ptr l (o+4)) h=some w
 st:ez (.ptr l (o+5)) h=some (.I x.state)
structure zgQ (h:Hp) (l o:Nat) (x:Bk) (v n p:V):Prop where
 ee:ez (.ptr l (o+0)) h=some v
 fin:ez (.ptr l (o+1)) h=some (.I x.fin)
 cond:ez (.ptr l (o+2)) h=some (.I x.cond)
 next:ez (.ptr l (o+3)) h=some n
 fk:ez (.ptr l (o+4)) h=some p
 st:ez (.ptr l (o+5)) h=some (.I x.state)
theorem EZ.val(a:EZ F h u vv vb vs){i:Nat}{x:Vl}(c:u.ee[i]? =some x) :
  ∃l o w,F l/\gM 6 vv (.I i)=some (.ptr l o)/\fZ 6 (.ptr l o) h=some (.agg (yM x w))/\hD eN F h x.args w/\zh1 h l o x w:=by
 obtain⟨hi,rfl⟩:=ke.1 c;obtain⟨l,o,w,d,e,f,⟨a,rfl,g⟩,b⟩:=a.v.ix hi .i64;exact⟨l,o,a,d,e,f,g,⟨b 0 _ rfl,b 1 _ rfl,b 2 _ rfl,b 3 _ rfl,b 4 _ rfl,b 5 _ rfl⟩⟩
theorem EZ.B8(a:EZ F h u vv vb vs){i:Nat}{x:Bk}(d:u.blocks[i]? =some x) :
  ∃l o v n p,F l/\gM 6 vb (.I i)=some (.ptr l o)/\fZ 6 (.ptr l o) h=some (.agg (pR x v n p))/\hD eN F h x.ee v/\hD eN F h x.next n/\hD eN F h x.fk p/\zgQ h l o x v n p:=by
 obtain⟨hi,rfl⟩:=ke.1 d;obtain⟨l,o,w,e,f,g,⟨v,n,p,rfl,j,k,m⟩,c⟩:=a.b.ix hi .i64;exact⟨l,o,v,n,p,e,f,g,j,k,m,⟨c 0 _ rfl,c 1 _ rfl,c 2 _ rfl,c 3 _ rfl,c 4 _ rfl,c 5 _ rfl⟩⟩
theorem EZ.st(a:EZ F h u vv vb vs){i:Nat}{x:List Fm}(b:u.eE[i]? =some x) :
  ∃l o f,F l/\gM 1 vs (.I i)=some (.ptr l o)/\fZ 1 (.ptr l o) h=some (.agg [f])/\ez (.ptr l o) h=some f/\hD eF F h x f:=by
 obtain⟨hi,rfl⟩:=ke.1 b;obtain⟨l,o,w,c,d,e,⟨f,rfl,g⟩,j⟩:=a.s.ix hi .i64;exact⟨l,o,f,c,d,e,j 0 f rfl,g⟩
theorem hD.qJ{fs:List Fm}{f:V}(a:hD eF F h fs f){i:Nat}{x:Fm}(c:fs[i]? =some x) :
  ∃l o a b,F l/\gM 4 f (.I i)=some (.ptr l o)/\fZ 4 (.ptr l o) h=some (.agg (fmC x a b))/\hD eN F h x.locals a/\hD eN F h x.stack b:=by
 obtain⟨hi,rfl⟩:=ke.1 c;obtain⟨l,o,w,d,e,g,⟨a,b,rfl,j,k⟩,_⟩:=a.ix hi .i64;exact⟨l,o,a,b,d,e,g,j,k⟩
theorem hD.nat{xs:List Nat}(a:hD eN F h xs v){i x:Nat}(c:xs[i]? =some x)(b:IntKind):∃l o,F l/\gM 1 v (.int b (i:Nat))=some (.ptr l o)/\ez (.ptr l o) h=some (.I x):=by
 obtain⟨hi,rfl⟩:=ke.1 c
 let⟨l,o,w,e,f,g,d⟩:=a.Yt hi b rfl
 obtain rfl:w = .I (xs[i]:Nat):=by
  have:[w]=[V.I (xs[i]:Nat)]:=d
  simp_all
 grind
theorem hD.int{xs:List Int}(a:hD eZ F h xs v){i:Nat}{x:Int}(c:xs[i]? =some x)(b:IntKind):∃l o,F l/\gM 1 v (.int b (i:Nat))=some (.ptr l o)/\ez (.ptr l o) h=some (.I x):=by
 obtain⟨hi,rfl⟩:=ke.1 c
 let⟨l,o,w,e,f,g,d⟩:=a.Yt hi b rfl
 obtain rfl:w = .I xs[i]:=by
  have:[w]=[V.I xs[i]]:=d
  simp_all
 grind
theorem hD.bool{xs:List Bool}(a:hD eB F h xs v){i:Nat}{x:Bool}(c:xs[i]? =some x)(b:IntKind):∃l o,F l/\gM 1 v (.int b (i:Nat))=some (.ptr l o)/\ez (.ptr l o) h=some (.bool x):=by
 obtain⟨hi,rfl⟩:=ke.1 c
 let⟨l,o,w,e,f,g,d⟩:=a.Yt hi b rfl
 obtain rfl:w = .bool xs[i]:=by
  have:[w]=[V.bool xs[i]]:=d
  simp_all
 grind
theorem hD.list{α:Type}{E:tq α}{xs:List (List α)}(a:hD (eL E) F h xs v){i:Nat}{x:List α}(c:xs[i]? =some x)(b:IntKind):∃l o w,F l/\gM 1 v (.int b (i:Nat))=some (.ptr l o)/\ez (.ptr l o) h=some w/\hD E F h x w:=by
 obtain⟨hi,rfl⟩:=ke.1 c
 let⟨l,o,w,d,e,g,f,j,k⟩:=a.Yt hi b rfl
 grind
theorem xh{k:IntKind}{a:Int}(h:if a=b then B else A):oP (ef .neq t (.int k a) (.int k b)) λv=>bP v A B:=by
 simp_all
theorem zhu{k:IntKind}{a:Int}(h:if a<=b then A else B):oP (ef .leq t (.int k a) (.int k b)) λv=>bP v A B:=by
 simp_all
theorem MG{k:IntKind}{a:Int}(h:if b<=a then A else B):oP (ef .geq t (.int k a) (.int k b)) λv=>bP v A B:=by
 simp_all
theorem ieq(a b:Nat):((a:Int) == (b:Int))=(a == b):=by
 grind
theorem fM{k:IntKind}{a:Int}(h:K (.bool (decide (a=b)))):oP (ef .eql t (.int k a) (.int k b)) K:=by
 rw[gS]
 grind[oP]
def DH(op:Nat):Nat:=if two op=true then 2 else if uk op=true then 1 else 0
theorem zbL{op:Nat}(H:Q (.I (DH op:Nat)) h):cP CS Iv [.I op] h Q:=by
 refine Vy ?_;have m:∀b,(b=true->uk op=true/\two op≠true)->(b=false->uk op≠true/\two op≠true)->iK Q (.bool b) h:=by
  intro b t u;refine QE ?_;unfold Bz;rw[mf];unfold DH at H
  cases b with
  |true=>simp_all
  |false=>simp_all
 have a:∀b,b=two op->ie Q (.I op) (.bool b) h:=by
  intro b o;refine Rb ?_;unfold BL;rw[mf]
  cases b with
  |true=>simp_all[DH,if_pos]
  | false=>
    have l:two op≠true:=by rw[<-o];simp
    rw[if_neg (by simp)];refine fM ?_;rw[mf];split
    ·grind[iK,Un.uk]
    rename_i e1;refine fM ?_;rw[mf];split
    ·grind[iK,Un.uk]
    rename_i e2;refine fM ?_;rw[mf];split
    ·grind[iK,Un.uk]
    rename_i d;refine fM ?_;rw[mf];split
    ·grind[iK,Un.uk]
    rename_i f;refine fM ?_;rw[mf];split
    ·grind[iK,Un.uk]
    rename_i g;refine fM ?_;simp at e1 e2 d f g;refine m _ (λe=>⟨?_,l⟩) λe=>⟨?_,l⟩
    ·grind[DH,Un.uk]
    ·have e:=of_decide_eq_false e
     intro hq;unfold uk at hq
     grind
 have c:∀n:Nat,(op:Int)=n->(two n=true)->two op=true:=by grind
 refine fM ?_;rw[mf];split
 ·rename_i e;exact a _ (e.trans (c 3 (by simp_all) rfl).symm)
 rename_i e1;refine fM ?_;rw[mf];split
 ·rename_i e;exact a _ (e.trans (c 4 (by simp_all) rfl).symm)
 rename_i e2;refine fM ?_;rw[mf];split
 ·rename_i e;exact a _ (e.trans (c 5 (by simp_all) rfl).symm)
 rename_i d;refine fM ?_;rw[mf];split
 ·rename_i e;exact a _ (e.trans (c 6 (by simp_all) rfl).symm)
 rename_i f;refine fM ?_;rw[mf];split
 ·rename_i e;exact a _ (e.trans (c 7 (by simp_all) rfl).symm)
 rename_i g;refine fM ?_;rw[mf];split
 ·rename_i e;exact a _ (e.trans (c 10 (by simp_all) rfl).symm)
 rename_i p;refine fM ?_;rw[mf];split
 ·rename_i e;exact a _ (e.trans (c 11 (by simp_all) rfl).symm)
 rename_i q;refine fM ?_;rw[mf];split
 ·rename_i e;exact a _ (e.trans (c 12 (by simp_all) rfl).symm)
 rename_i r;refine fM ?_;rw[mf];split
 ·rename_i e;exact a _ (e.trans (c 13 (by simp_all) rfl).symm)
 rename_i s;refine fM ?_;rw[mf];split
 ·rename_i e;exact a _ (e.trans (c 14 (by simp_all) rfl).symm)
 rename_i i;refine fM ?_;rw[mf];split
 ·rename_i e;exact a _ (e.trans (c 18 (by simp_all) rfl).symm)
 rename_i j;refine fM ?_;rw[mf];split
 ·rename_i e;exact a _ (e.trans (c 19 (by simp_all) rfl).symm)
 rename_i k;refine fM (a _ ?_);simp at e1 e2 d f g p q r s i j k;rw[WK];unfold two
 grind
theorem RT{op:Nat}(H:Q (.bool (leaves op)) h):cP CS AQ [.I op] h Q:=by
 refine Uz ?_
 grind[L4,leaves,ieq,gS,gQ,eQ,jj]
theorem BI{a b:Nat}(H:Q (.bool (decide (a<b))) h):cP CS mH [.I a,.I b] h Q:=by
 refine VG ?_
 grind[Oq,jK,gQ,eQ,iF,iT,decide,Int,CS]
theorem zbX{xs:List Nat}{a b:V}(c:hD eN F h xs a)(d:hD eN F h xs b)(hl:xs.length<1000000000)(H:Q (.bool true) h):cP CS qi [a,b] h Q:=by
 refine Fs ?_;refine ec c.len (ec d.len (xh (fO rfl (ec c.len ?_))));refine BX (λk e f g j h'=>∃i,e=a/\f=b/\g = .I xs.length/\j = .I (i:Nat)/\i+k=xs.length/\h' = h) ?_ (k:=xs.length) (by simp_all);rintro k e f g j h' ⟨i,rfl,rfl,rfl,rfl,r,rfl⟩;unfold nE;by_cases hi:i<xs.length
 ·refine gy ?_
  let⟨l,o,_,m,n⟩:=c.nat (hZ hi) .i64
  let⟨l',o',_,p,q⟩:=d.nat (hZ hi) .i64
  refine ec m (ec n (ec p (ec q (xh (fO rfl ?_)))));exact fG ⟨k-1,by omega,i+1,rfl,rfl,rfl,rfl,by omega,rfl⟩
 ·exact iA H
theorem PB(x:Vl):jn x=([x.a,x.b].take (DH x.op))++(if x.op=20 then x.args.take 1 else if x.op=21 then x.args else[]):=by
 unfold jn DH;by_cases c:x.op=21
 ·grind[two,uk]
 ·rw[if_neg c];by_cases d:x.op=20
  ·grind[two]
  grind
theorem QZ{x:Vl}(hl:x.op=21\/x.op=20->x.args.length<=700):(jn x).length<=1000:=by
 rw[PB]
 grind
theorem Uk(R:ej F h cs){x:Vl}{c:V}(O:hD eN F h x.args c)(hl:x.op=21\/x.op=20->x.args.length<=1000000)(H:∀F' h' v,Sn F h F' h'->ej F' h' cs->hD eN F' h' (jn x) v->Q v h'):cP CS BR [.agg (yM x c)] h Q:=by
 refine XP ?_;have S:gi (yM x c)=true:=by simp only[yM,fe,O.one];rfl
 rw[Jy S,fK];obtain⟨C,s1⟩:=R.xC Ay (yM x c);have n1:(h.new (.cells 81 1 true false (yM x c))).next=h.next+1:=rfl;have C:ej F (h.new (.cells 81 1 true false (yM x c))) (eD h.next Ay (yM x c)::cs):=C;have s1:Sn F h F (h.new (.cells 81 1 true false (yM x c))):=s1;generalize h.new (.cells 81 1 true false (yM x c))=d at*;rw[za,gI];obtain⟨s,D⟩:=C.Ra (E:=eN) (xs:=[]) (ws:=[]) (n:=0) fN rfl trivial rfl;have s:ej F (d.new (.cells 3 1 true false [])) (ft eN fN [] (.slice d.next 0 0)::eD h.next Ay (yM x c)::cs):=s;have D:Sn F d F (d.new (.cells 3 1 true false [])):=D;have g2:(d.new (.cells 3 1 true false [])).get d.next=some (.cells 3 1 true false []):=fh _ _;have n2:(d.new (.cells 3 1 true false [])).next=d.next+1:=rfl;generalize d.new (.cells 3 1 true false [])=i at*;refine ec (by rfl) (ec (s.ld 1 rfl rfl) (ec (by rfl) (ec (s.ld 1 rfl rfl) ?_)));rw[nx2,gI];obtain⟨j,G⟩:=s.Ra (E:=eN) (xs:=[x.a,x.b]) (ws:=oY [x.a,x.b]) (n:=2) fN rfl (BB _ _ _) (QI _);have j:ej F (i.new (.cells 3 1 true false (oY [x.a,x.b]))) (ft eN fN [x.a,x.b] (.slice i.next 0 2)::ft eN fN [] (.slice d.next 0 0)::eD h.next Ay (yM x c)::cs):=j;have G:Sn F i F (i.new (.cells 3 1 true false (oY [x.a,x.b]))):=G;have g3:(i.new (.cells 3 1 true false (oY [x.a,x.b]))).get i.next=some (.cells 3 1 true false (oY [x.a,x.b])):=fh _ _;have T:(i.new (.cells 3 1 true false (oY [x.a,x.b]))).get d.next=some (.cells 3 1 true false []):=by grind[fi,trans]
 generalize i.new (.cells 3 1 true false (oY [x.a,x.b]))=U at*;refine ec (by rfl) (ec (j.ld 2 rfl rfl) ⟨by simp_all,j.ld 2 rfl rfl,j.ld 2 rfl rfl,by simp_all,?_⟩);refine zbL ⟨jJ _,?_⟩;have hp:DH x.op<=2:=by
  unfold DH;split
  ·omega
  ·grind
 obtain⟨t,I,P⟩:=j.zd0 0 rfl (n:=DH x.op) hp;refine ec I ⟨by simp_all,j.ld 2 rfl rfl,j.ld 2 rfl rfl,by simp_all,?_⟩;simp only[DR]at P;obtain⟨g,r,J,W,k,X⟩:=P.zeP 1 0 rfl rfl (iU:=8) (by decide) (by decide) (by simp;omega);have u:fg 3 1 8 (.slice d.next 0 0) t U=some (.val g r):=J;rw[u,eh];refine⟨W,?_⟩;simp only[M8,DR,RL]at k;have w:=((s1.trans D).trans G).trans X;have o:hD eN F r x.args c:=(O.fy w.fy)
 have p:∀(F':Nat->Prop) (h':Hp) (v:V) (l:List Nat),Sn F r F' h'->ej F' h' (ft eN fN ([x.a,x.b].take (DH x.op)) t::ft eN fN l v::eD h.next Ay (yM x c)::cs)->l=jn x->uL Q v h':=by
  intro F' h' v l Y Z K;subst K;refine RB ?_;unfold CN;obtain⟨y,z,r6⟩:=Z.hY 1 rfl;exact H _ _ v ((w.trans Y).trans z) y.tail.tail.tail r6
 refine ec (by rfl) (ec (k.ld 2 rfl rfl) ?_);by_cases L:x.op=20
 ·have hl:=by omega
  refine fx (io ?_);refine ec (by rfl) (ec (k.ld 2 rfl rfl) (ec (by rfl) (ec (k.ld 2 rfl rfl) (ec o.len (ec (Vr _ _ _ _) ?_)))));have em:(if false=true then max (1:Int) (x.args.length:Nat) else min (1:Int) (x.args.length:Nat))=((min 1 x.args.length:Nat):Int):=by simp;omega
  rw[em];obtain⟨M,N,A⟩:=o.cut (lo:=none) (hi:=some (.I ((min 1 x.args.length:Nat):Int))) (m:=0) (n:=min 1 x.args.length) rfl (by rfl) (PM _) (by omega);refine ec N ?_;rw[wBT]at A;obtain⟨e,B,q,n6,y,z⟩:=k.WI 1 rfl (iU:=8) A (by decide) (by decide) (by simp;omega);have f:fg 3 1 8 g M r=some (.val e B):=q;rw[f,eh];refine p F B e _ z y ?_;rw[PB,if_pos L]
  simp_all
 refine fx (kw ?_);by_cases aa:x.op=21
 ·have hl:=by omega
  refine fx (io ?_);refine ec (by rfl) (ec (k.ld 2 rfl rfl) ?_);obtain⟨e,B,q,n6,y,z⟩:=k.WI 1 rfl (iU:=8) o (by decide) (by decide) (by simp;omega);have f:fg 3 1 8 g c r=some (.val e B):=q;rw[f,eh];refine p F B e _ z y ?_
  simp_all[PB,if_neg,if_pos]
 ·refine fx (kw ?_);refine p F r g _ (Sn.refl _ _) k ?_
  simp_all[PB,if_neg,Ku]
theorem pf{l o k:Nat}:fJ k (.ptr l o)=some (.ptr l (o+k)):=fo _ _ _
theorem pn{l o:Nat}:fR (.ptr l o)=some (.ptr l o):=eC _ _
theorem bq{e sz:Nat}{a b:Bool}{cs:List V}:O.beq (.cells e sz a b cs) (.cells e sz a b cs)=true:=O.jS _ _ _ _ _
theorem fY(h:oP X K):oP (gD false (.bool false)) λb=>oP (gV b X) K:=h
theorem gY(h:oP X K):oP (gD true (.bool true)) λb=>oP (gV b X) K:=h
theorem sX(h:K .undef):oP (gD true (.bool false)) λb=>oP (gV b X) K:=h
theorem tX(h:K .undef):oP (gD false (.bool true)) λb=>oP (gV b X) K:=h
theorem qC{K:fj}(H:cP C f a h K):oP (gD false (.bool false)) λb=>oP (gC b (some (f,a))) λy=>zL C y h K:=H
theorem Ci{K:fj}(H:cP C f a h K):oP (gD true (.bool true)) λb=>oP (gC b (some (f,a))) λy=>zL C y h K:=H
theorem zb6{K:fj}(H:K .undef h):oP (gD true (.bool false)) λb=>oP (gC b (some (f,a))) λy=>zL C y h K:=H
theorem py{b:Bool}(h:if b=true then B else A):oP (wI .not (.bool b)) λv=>bP v A B:=by
 cases b <;> exact h
theorem Q9(a:X=some (.bool false))(H:K (.bool false)):oP (mi (.bool false) X) K:=by simp_all
theorem T8{b:Bool}(h:K (.bool (!b))):oP (wI .not (.bool b)) K:=h
end
section
variable{F F':Nat->Prop}{h h':Hp}{cs:List Pc}{Q:fj}{u:U}{vv vb vs:V}
theorem jX{n:Nat}{b ws:List V}{K:fj}(H:ej F h cs)(d:b.length=n)(e:ws.length=n)(c:gi ws=true)(f:∀a,ej F a (eD h.next T ws::cs)->Sn F h F a->K (.ptr h.next 0) a) :
  gU (some (O.cells T 1 true false b,λl=>V.ptr l 0)) h λv c=>eJ (gj n v (.agg ws) c) λ_ a=>K v a:=by
 rw[fK]
 let⟨g,s1⟩:=H.xC T b
 let⟨a,e2,_,i,j⟩:=g.Tw 0 rfl e d c
 rw[e2,eh];exact f a i (s1.trans j)
theorem oC{ws:List V}{K:fj}(H:ej F h cs)(b:gi ws=true)(c:∀a,ej F a (eD h.next T ws::cs)->Sn F h F a->K (.ptr h.next 0) a):gU (kZ T (.agg ws)) h K:=by
 rw[Jy b,fK]
 let⟨d,s1⟩:=H.xC T ws
 exact c _ d s1
theorem za1(xs:List Nat){b:Option (O×(Nat->V))}(c:b=some (O.cells T 1 true false (oY xs),λl=> .slice l 0 xs.length)){K:fj}(H:ej F h cs)
  (d:∀F' a v,ej F' a cs->Sn F h F' a->hD eN F' a xs v->K v a):gU b h K:=by
 subst c;rw[fK]
 let⟨e,s1,r1⟩:=H.zaU T rfl (BB F h xs) false
 exact d _ _ _ e s1 r1
theorem F0(x:Nat):iO T 1 1 (V.I 0) [(0,V.I x)]=some (.cells T 1 true false (oY [x]),λl=> .slice l 0 1):=rfl
structure Ck (F:Nat->Prop) (h:Hp) (cs:List Pc) (lc:Nat) (u:U) (vv vb vs bl pl Jf:V):Prop where
 H:ej F h cs
 c:∃(i ty:Nat),cs[i]? =some (eD lc ty [.I u.func,.I u.pc,vv,vb,vs,bl,pl,Jf])
 u:EZ F h u vv vb vs
variable{lc:Nat}{bl pl Jf:V}
theorem Ck.since(C:Ck F h cs lc u vv vb vs bl pl Jf)(s:Sn F h F' h')(a:ej F' h' cs):Ck F' h' cs lc u vv vb vs bl pl Jf:=⟨a,C.c,C.u.since s⟩
theorem Ck.cons(C:Ck F h cs lc u vv vb vs bl pl Jf)(s:Sn F h F' h'){p:Pc} (a:ej F' h' (p::cs)):Ck F' h' (p::cs) lc u vv vb vs bl pl Jf:=
 ⟨a,let⟨i,ty,hc⟩:=C.c;⟨i+1,ty,hc⟩,C.u.since s⟩
theorem Ck.ld(C:Ck F h cs lc u vv vb vs bl pl Jf)(o:Nat){y:V}(a:[.I u.func,.I u.pc,vv,vb,vs,bl,pl,Jf][o]? =some y):ez (.ptr lc o) h=some y:=
 let⟨i,_,hc⟩:=C.c;C.H.ld i hc a
theorem Qd{l c:V}{n:Nat}(m:n<1000000)(P:(Nat->Prop)->Hp->Prop)(h0:P F h)
  (step:∀i,i<n->∀F' h',P F' h'->∀e,(∀a b,P a b->e (.bool true) b)->gP CS (gh c [.I (i:Nat)]) h' e) (H:∀F' h',P F' h'->Q (.bool true) h') :
  cP CS kF [l,.I n,c] h Q:=by
 refine MV ?_;refine IW (λk f g j h'=>∃F' i,f = .I n/\g=c/\j = .I (i:Nat)/\i+k=n/\P F' h') ?_ (k:=n) ⟨F,0,rfl,rfl,rfl,by omega,h0⟩;rintro k f g j h' ⟨F',i,rfl,rfl,rfl,o,hp⟩;unfold rX;by_cases hi:i<n
 ·refine gy ?_;refine step i hi F' h' hp _ λa b d=>?_;refine py (fO rfl ?_);exact fG ⟨k-1,by omega,a,i+1,rfl,rfl,rfl,by omega,d⟩
 ·exact iA (H F' h' hp)
theorem MZ(C:Ck F h cs lc u vv vb vs bl pl Jf){l:List Nat}{v:V}(hl:hD eN F h l v)(p:l.length<1000000)(f:∀w∈l,nz u w)(H:Q (.bool true) h):cP CS kJ [.ptr lc 0,v] h Q:=by
 refine Km ?_;refine ec hl.len ?_;refine Gf (λk b c d e h'=>∃i,b = .ptr lc 0/\c=v/\d = .I l.length/\e = .I (i:Nat)/\i+k=l.length/\h' = h) ?_ (k:=l.length) ⟨0,rfl,rfl,rfl,rfl,by omega,rfl⟩;rintro k b c d e h' ⟨i,rfl,rfl,rfl,rfl,q,rfl⟩;unfold qx;by_cases hi:i<l.length
 ·refine gy ?_
  let⟨r,s,_,g,j⟩:=hl.nat (hZ hi) .i64
  let⟨x,hx,gx⟩:=f _ (AL hi)
  have a:=(ke.1 hx).1;refine ec g (ec j (ec (eC _ _) (ec (fo _ _ _) (oF (C.ld 2 rfl) (ec C.u.v.len ?_)))));refine BI (py (fO (by simpa using a) ?_))
  let⟨t,o2,w2,_,m,_,_,n⟩:=C.u.val hx
  refine ec (eC _ _) (ec (fo _ _ _) (oF (C.ld 2 rfl) (ec m (oF n.op ?_))));have o:x.op<19\/x.op=21:=by
   unfold Gv at gx;simpa using gx
  refine fM (fX (fH (by simp;omega) ?_));refine fM (fX (fH (by simp;omega) ?_));refine fM (fX (fH (by simp;omega) ?_));refine fM ?_;rw[LI (by omega)];refine ES ?_;unfold pB;refine fX (fH (by simp) ?_);exact fG ⟨k-1,by omega,i+1,rfl,rfl,rfl,rfl,by omega,rfl⟩
 ·exact iA H
theorem zcD(C:Ck F h cs lc u vv vb vs bl pl Jf){i:Nat}{fs:List Fm}(hs:u.eE[i]? =some fs)(D:1<=fs.length/\fs.length<=30)(t:∀f∈fs,f.locals.length<=40/\f.stack.length<=60/\(∀v∈f.locals,nz u v)/\∀v∈f.stack,nz u v)
  (H:∀h',Sn F h F h'->ej F h' cs->Q (.bool true) h'):cP CS pb [.ptr lc 0,.I i] h Q:=by
 refine Kq ?_
 let⟨E,G,f,_,w,x,_,p⟩:=C.u.st hs
 refine ec (eC _ _) (ec (fo _ _ _) (oF (C.ld 4 rfl) (ec w (ec x ?_))));refine jX C.H rfl rfl (by simp[p.one]) λI n q=>?_;have r2:=p.since q;refine oF (n.ld 0 rfl rfl) (ec r2.len (fM ?_));rw[LI (by omega),qK,fo,eQ,n.ld 0 rfl rfl,eQ,r2.len,eQ,jr];refine ec rfl (fX (fH (by simp;omega) ?_));refine oF (n.ld 0 rfl rfl) (ec r2.len ?_);have C2:=C.since q n.tail
 refine Fe (λk s c d e h'=>∃j,s = .ptr lc 0/\c=f/\d = .I fs.length/\e = .I (j:Nat)/\j+k=fs.length/\Sn F h F h'/\Ck F h' cs lc u vv vb vs bl pl Jf) ?_ (k:=fs.length)
  ⟨0,rfl,rfl,rfl,rfl,by omega,q,C2⟩
 rintro k s c d e h' ⟨j,rfl,rfl,rfl,rfl,J,s',r⟩;unfold qp;by_cases hj:j<fs.length
 ·refine gy ?_
  let⟨K,L,a,b,_,y,z,g,l⟩:=(p.since s').qJ (hZ hj)
  refine ec y (ec z ?_)
  let⟨M,N,A,B⟩:=t _ (AL hj)
  refine jX r.H rfl rfl (by simp only[fmC,fe,g.one,l.one];rfl) λO m o=>?_;have g:=g.since o;have l:=l.since o;have C3:=r.since o m.tail;refine oF (m.ld 0 rfl rfl) (ec g.len ?_);refine ec (jr _ _ _ _) ?_;rw[LI (by omega),qK,fo,eQ,m.ld 0 rfl rfl,eQ,l.len,eQ,jr,LI (by omega)];refine ec rfl (fY (ec rfl (fY (ec (fo _ _ _) (fY (ec (m.ld 0 rfl rfl) (qC ?_)))))));refine MZ C3 g (by omega) A (ec rfl (fY (ec rfl (fY (ec (fo _ _ _) (fY (ec (m.ld 0 rfl rfl) (qC ?_))))))));refine MZ C3 l (by omega) B (ec rfl (fX (fH (by simp) ?_)));exact fG ⟨k-1,by omega,j+1,rfl,rfl,rfl,rfl,by omega,s'.trans o,C3⟩
 ·exact iA (H h' s' r.H)
end
