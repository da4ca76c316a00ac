/- Parts. -/
import Derived.Test.YtloecllhljfidaaDoorM35
import Derived.Test.YtloecllhljfidaaDoorM56
import Derived.Test.YtloecllhljfidaaDoorM54
set_option maxHeartbeats 4000000
namespace Go.Proofs.YtloecllhljfidaaDoor.Hx
open Un Dm
theorem WJ{X:Option V}{K:Bool->V->Prop}(h:oP X (K true)):oP (gq true (.bool true)) λb=>oP (gV b X) (K b):=h
theorem zco{X:Option V}{K:Bool->V->Prop}(h:oP X (K true)):oP (gq false (.bool false)) λb=>oP (gV b X) (K b):=h
section
variable{u:U}
theorem Ey{az:List Int}{n:Nat}(a:az.length=n)(v:Nat)(hv:n<=v):iL az v = -1:=by
 unfold iL;rw[CM,JA (by omega)];rfl
theorem MS(a:oh u)(g:Good u){r:Nat->Int}:oh (gG u r):=λv y b=>by
 obtain⟨n,x,_,hx,rfl,_⟩:=Ai g b;have:=a n x hx;unfold gW;dsimp only;split
 ·rw[B5];exact this
 ·exact this
end
open Un Dm
section
variable{F F':Nat->Prop}{h h':Hp}{cs ds:List Pc}{Q:fq}{u:U}{vv vb vs wv wb ws:V}
theorem PH{op:Nat}(H:∀b,Q (.bool b) h):cP CS tZ [.I op] h Q:=by
 refine KP rfl rfl ?_;unfold DG;simp only[fy,ie,TH,pD];exact H _
theorem RO(p:ej F h cs){x:Vl}{j k:V}(hx:iG eN F h x.args j)(l:iG eN F h x.args k)(m:x.args.length<=1000000)(H:∀F' h',Sn F h F' h'->ej F' h' cs->Q (.bool true) h'):cP CS oD [.agg (lW x j),.agg (lW x k)] h Q:=by
 refine MC rfl rfl ?_;unfold Fk;refine jP p (by simp only[lW,eo,hx.one];rfl) λq r s=>jP r (by simp only[lW,eo,l.one];rfl) λv d t=>?_;have a:=s.trans t;generalize h.next=l1 at*;generalize q.next=l2 at*;refine oF (d.ld 1 rfl rfl) (oF (d.ld 0 rfl rfl) (ed (uD ..) ?_));rw[show(((x.op:Nat):Int) != ((x.op:Nat):Int))=false by simp];refine hZ (ed (d.oL 1 rfl rfl) (zco (ed (d.oL 0 rfl rfl) (vw ?_))));refine BI d (hx.since a) (λ_=>m) λw y xv e n r3=>⟨e.next,n.oL 0 rfl rfl,vw ?_⟩
 refine BI n ((l.since a).since e) (λ_=>m) λu o z f c r4=>⟨f.next,vw ?_⟩
 have g:(gO x).length<1000000000:=by
  unfold gO;split
  ·omega
  ·split
   ·simp only[Pb,JT];omega
   ·split
    ·simp
    ·split <;> simp
 refine yQ (r3.since f) r4 g ⟨jb _,NH rfl ?_⟩;have i:=(a.trans e).trans f;have out:∀b:Bool,b=true->Q (.bool b) o:=λb hb=>hb▸H u o i c.tail.tail;refine jF (gv (by simp) (oF (c.ld 1 rfl rfl) (PH λb=>jF ?_)))
 cases b with
 |true=>exact gI rfl (oF (c.ld 1 rfl rfl) (oF (c.ld 0 rfl rfl) (ed (ie ..) (out _ (by simp)))))
 | false=>
   refine gv (by simp) (oF (c.ld 1 rfl rfl) (Ek (jF ?_)))
   cases leaves x.op with
   |true=>exact gI rfl (oF (c.ld 1 rfl rfl) (oF (c.ld 0 rfl rfl) (ed (ie ..) (out _ (by simp)))))
   |false=>exact gv (by simp) (out true rfl)
theorem O0(p:ej F h cs){x:Bk}{xv i j k l m:V}(hv:iG eN F h x.ef xv)(n:iG eN F h x.next i)(o:iG eN F h x.ez j) (e:iG eN F h x.ef k) (f:iG eN F h x.next l) (g:iG eN F h x.ez m)(l1:x.ef.length<1000000000)(l2:x.next.length<1000000000)(l3:x.ez.length<1000000000)
  (H:∀F' h',Sn F h F' h'->ej F' h' cs->Q (.bool true) h'):cP CS mA [.agg (kS x xv i j),.agg (kS x k l m)] h Q:=by
 refine JG rfl rfl ?_;unfold Cq;refine jP p (by simp only[kS,eo,hv.one,n.one,o.one];rfl) λq r s=>jP r (by simp only[kS,eo,e.one,f.one,g.one];rfl) λd c t=>?_;have b:=s.trans t;generalize h.next=la at*;generalize q.next=lb at*;have a1:eQ (.ptr la (0+1)) d=some (.I x.fin):=c.ld 1 rfl rfl;have a2:eQ (.ptr la (0+2)) d=some (.I x.cond):=c.ld 1 rfl rfl;have u:eQ (.ptr la (0+5)) d=some (.I x.state):=c.ld 1 rfl rfl;have b1:eQ (.ptr lb (0+1)) d=some (.I x.fin):=c.ld 0 rfl rfl;have b2:eQ (.ptr lb (0+2)) d=some (.I x.cond):=c.ld 0 rfl rfl;have v:eQ (.ptr lb (0+5)) d=some (.I x.state):=c.ld 0 rfl rfl;refine oF a1 (oF b1 (ed (uD ..) ?_));rw[show(((x.fin:Nat):Int) != ((x.fin:Nat):Int))=false by simp];refine hZ (ed pf (hZ (ed (c.ld 1 rfl rfl) (hZ (ed pf (hZ (ed (c.ld 0 rfl rfl) (vw ?_))))))));refine yQ (hv.since b) (e.since b) l1 (NH rfl ?_);refine hZ (ed pf (hZ (ed (c.ld 1 rfl rfl) (hZ (ed pf (hZ (ed (c.ld 0 rfl rfl) (vw ?_))))))));refine yQ (n.since b) (f.since b) l2 (NH rfl ?_);refine hZ (ed pf (hZ (ed (c.ld 1 rfl rfl) (hZ (ed pf (hZ (ed (c.ld 0 rfl rfl) (vw ?_))))))));refine yQ (o.since b) (g.since b) l3 (NH rfl ?_);refine jF (gv (by simp) (oF a1 (ed (uD ..) (ed (a:= .bool true) ?_ (ed (a:= .bool true) ?_ (H F d b c.tail.tail))))))
 ·simp only[pD,fy,fR,a2,b2,ie,beq_self_eq_true,Bool.or_true]
 ·simp only[Eo,pD,fy,fR,a1,u,v,uD,ie,beq_self_eq_true,Bool.or_true]
theorem OM(m:ej F h cs){x:Fm}{g i j k:V}(l:iG eN F h x.locals g)(hs:iG eN F h x.stack i) (d:iG eN F h x.locals j) (e:iG eN F h x.stack k)(l1:x.locals.length<1000000000)(l2:x.stack.length<1000000000)
  (H:∀F' h',Sn F h F' h'->ej F' h' cs->Q (.bool true) h'):cP CS lF [.agg (Ji x g i),.agg (Ji x j k)] h Q:=by
 refine Ha rfl rfl ?_;unfold zF;refine jP m (by simp only[Ji,eo,l.one,hs.one];rfl) λn o p=>jP o (by simp only[Ji,eo,d.one,e.one];rfl) λf c q=>?_;have b:=p.trans q;generalize h.next=la at*;generalize n.next=lb at*;have a1:eQ (.ptr la (0+1)) f=some (.I x.pc):=c.ld 1 rfl rfl;have b1:eQ (.ptr lb (0+1)) f=some (.I x.pc):=c.ld 0 rfl rfl;refine oF (c.ld 1 rfl rfl) (oF (c.ld 0 rfl rfl) (ed (ie ..) (ed (a:= .bool true) ?_ ?_)))
 ·rw[beq_self_eq_true,Eo];simp only[fy,fR,a1,b1,ie,beq_self_eq_true]
 refine gL (ed pf (gL (ed (c.ld 1 rfl rfl) (gL (ed pf (gL (ed (c.ld 0 rfl rfl) (uj ?_))))))));refine yQ (l.since b) (d.since b) l1 (ed (pI ..) ?_);rw[if_pos rfl];refine gL (ed pf (gL (ed (c.ld 1 rfl rfl) (gL (ed pf (gL (ed (c.ld 0 rfl rfl) (uj ?_))))))));refine yQ (hs.since b) (e.since b) l2 (ed (pI ..) ?_);rw[if_pos rfl];exact H F f b c.tail.tail
theorem VF(g:M0 u)(q:ej F h cs)(b:tL F h u vv vb vs)(m:tL F h u wv wb ws)(H:∀F' h',Sn F h F' h'->ej F' h' cs->Q (.bool true) h') :
  cP CS gy [vv,wv,.func oD [] []] h Q:=by
 refine l0 rfl rfl ?_;unfold iV;have nv:=g.nv;refine ed b.v.len (ed m.v.len (zs (gI rfl (ed b.v.len ?_))));obtain⟨I,c⟩:∃I:Nat->LP,I=λk l h'=>∃(F':Nat->Prop) (i:Nat),l=[wv,.func oD [] [],vv,.I u.ef.length,.I i]/\i+k=u.ef.length/\Sn F h F' h'/\ej F' h' cs:=⟨_,rfl⟩
 refine lK I (λk J K r s t w hi=>?_) (k:=u.ef.length) ?_;rotate_left
 ·rw[c];exact⟨F,0,rfl,by omega,Sn.refl _ _,q⟩
 rw[c]at hi;obtain⟨y,i,⟨⟩,hk,a,n⟩:=hi;unfold iK;by_cases hi:i<u.ef.length;rotate_left
 ·exact jf (H y w a n)
 have hx:=g0 hi;generalize u.ef[i]=x at*;have d:x.args.length<=1000000:=BX (g.args i x hx) (by decide);obtain⟨l1,L,M,_,p1,z,o,_⟩:=(b.since a).val hx;refine gR (ed p1 (ed z ?_));refine gQ n rfl rfl (by simp only[lW,eo,o.one];rfl) λN A e=>?_;obtain⟨l2,O,P,_,B,C,p,_⟩:=((m.since a).since e).val hx;refine ed B (ed C ?_);refine gQ A rfl rfl (by simp only[lW,eo,p.one];rfl) λR f j=>?_;refine ed (f.oL 1 rfl rfl) (ed (f.oL 0 rfl rfl) ?_);simp only[rL,vO,MR,wBo];refine RO f ((o.since e).since j) (p.since j) d λD S E G=>?_;refine ed rfl (jF (gv (by simp) (fS ⟨k-1,by omega,?_⟩)));rw[c];exact⟨D,i+1,rfl,by omega,((a.trans e).trans j).trans E,G.tail.tail⟩
theorem Qt(g:Good u)(r:ej F h cs)(f:tL F h u vv vb vs)(n:tL F h u wv wb ws)(H:∀F' h',Sn F h F' h'->ej F' h' cs->Q (.bool true) h') :
  cP CS fV [vb,wb,.func mA [] []] h Q:=by
 refine kF rfl rfl ?_;unfold iC;have nb:=g.nb;refine ed f.b.len (ed n.b.len (zs (gI rfl (ed f.b.len ?_))));obtain⟨I,j⟩:∃I:Nat->LP,I=λk l h'=>∃(F':Nat->Prop) (i:Nat),l=[wb,.func mA [] [],vb,.I u.blocks.length,.I i]/\i+k=u.blocks.length/\Sn F h F' h'/\ej F' h' cs:=⟨_,rfl⟩
 refine jT I (λk J K s t v w hi=>?_) (k:=u.blocks.length) ?_;rotate_left
 ·rw[j];exact⟨F,0,rfl,by omega,Sn.refl _ _,r⟩
 rw[j]at hi;obtain⟨x,i,⟨⟩,hk,e,o⟩:=hi;unfold iq;by_cases hi:i<u.blocks.length;rotate_left
 ·exact jf (H x w e o)
 have c:=g0 hi;generalize u.blocks[i]=B at*;have L:=Nt g c;have M:=ID g c;have N:=FJ g c;obtain⟨l1,O,xv,P,R,_,p1,y,r1,r2,r3,_⟩:=(f.since e).vf c;refine gR (ed p1 (ed y ?_));refine gQ o rfl rfl (by simp only[kS,eo,r1.one,r2.one,r3.one];rfl) λS z d=>?_;obtain⟨l2,T,U,V,W,_,A,C,p,q,t3,_⟩:=((n.since e).since d).vf c;refine ed A (ed C ?_);refine gQ z rfl rfl (by simp only[kS,eo,p.one,q.one,t3.one];rfl) λX m a=>?_;refine ed (m.oL 1 rfl rfl) (ed (m.oL 0 rfl rfl) ?_);simp only[rL,vO,MR,wBo];refine O0 m ((r1.since d).since a) ((r2.since d).since a) ((r3.since d).since a) (p.since a) (q.since a) (t3.since a) (by omega) (by omega) (by omega) λD Y E G=>?_;refine ed rfl (jF (gv (by simp) (fS ⟨k-1,by omega,?_⟩)));rw[j];exact⟨D,i+1,rfl,by omega,((e.trans d).trans a).trans E,G.tail.tail⟩
theorem Pm(r:ej F h cs){fs:List Fm}{a b:V}(g:iG eF F h fs a)(n:iG eF F h fs b)(J:fs.length<=1000000)(s:∀f∈fs,f.locals.length<=1000/\f.stack.length<=1000)(H:∀F' h',Sn F h F' h'->ej F' h' cs->Q (.bool true) h') :
  cP CS fU [a,b,.func lF [] []] h Q:=by
 refine ko rfl rfl ?_;unfold iD;refine ed g.len (ed n.len (zs (gI rfl (ed g.len ?_))));obtain⟨I,j⟩:∃I:Nat->LP,I=λk l h'=>∃(F':Nat->Prop) (i:Nat),l=[b,.func lF [] [],a,.I fs.length,.I i]/\i+k=fs.length/\Sn F h F' h'/\ej F' h' cs:=⟨_,rfl⟩
 refine jU I (λk K L t u v w hi=>?_) (k:=fs.length) ?_;rotate_left
 ·rw[j];exact⟨F,0,rfl,by omega,Sn.refl _ _,r⟩
 rw[j]at hi;obtain⟨y,i,⟨⟩,hk,d,o⟩:=hi;unfold ik;by_cases hi:i<fs.length;rotate_left
 ·exact jf (H y w d o)
 have hx:=g0 hi;obtain⟨M,N⟩:=s _ (EA hi);generalize fs[i]=x at*;obtain⟨l1,O,P,R,_,p1,z,r1,r2⟩:=(g.since d).wB hx;refine gR (ed p1 (ed z ?_));refine gQ o rfl rfl (by simp only[Ji,eo,r1.one,r2.one];rfl) λS A e=>?_;obtain⟨l2,T,U,W,_,B,C,p,q⟩:=((n.since d).since e).wB hx;refine ed B (ed C ?_);refine gQ A rfl rfl (by simp only[Ji,eo,p.one,q.one];rfl) λX m c=>?_;refine ed (m.oL 1 rfl rfl) (ed (m.oL 0 rfl rfl) ?_);simp only[rL,vO,MR,wBo];refine OM m ((r1.since e).since c) ((r2.since e).since c) (p.since c) (q.since c) (by omega) (by omega) λD Y E G=>?_;refine ed rfl (jF (gv (by simp) (fS ⟨k-1,by omega,?_⟩)));rw[j];exact⟨D,i+1,rfl,by omega,((d.trans e).trans c).trans E,G.tail.tail⟩
theorem QI(g:Good u)(x:ej F h cs)(e:tL F h u vv vb vs)(t:tL F h u wv wb ws)(H:∀F' h',Sn F h F' h'->ej F' h' cs->Q (.bool true) h') :
  cP CS fW [vs,ws,.func om [] []] h Q:=by
 refine kr rfl rfl ?_;unfold iB;have ns:=g.ns;refine ed e.s.len (ed t.s.len (zs (gI rfl (ed e.s.len ?_))));obtain⟨I,j⟩:∃I:Nat->LP,I=λk l h'=>∃(F':Nat->Prop) (i:Nat),l=[ws,.func om [] [],vs,.I u.eh.length,.I i]/\i+k=u.eh.length/\Sn F h F' h'/\ej F' h' cs:=⟨_,rfl⟩
 refine jW I (λk S T y z A B hi=>?_) (k:=u.eh.length) ?_;rotate_left
 ·rw[j];exact⟨F,0,rfl,by omega,Sn.refl _ _,x⟩
 rw[j]at hi;obtain⟨C,i,⟨⟩,hk,d,v⟩:=hi;unfold ir;by_cases hi:i<u.eh.length;rotate_left
 ·exact jf (H C B d v)
 have c:=g0 hi;generalize u.eh[i]=fs at*;obtain⟨_,D,E⟩:=g.st i fs c;obtain⟨l1,U,V,_,p1,G,_,r1⟩:=(e.since d).st c;refine gR (ed p1 (ed G ?_));refine gQ v rfl rfl (by simp only[eo,r1.one];rfl) λW J m=>?_;obtain⟨l2,X,Y,_,K,L,_,w⟩:=((t.since d).since m).st c;refine ed K (ed L ?_);refine gQ J rfl rfl (by simp only[eo,w.one];rfl) λZ n o=>?_;refine ed (n.oL 1 rfl rfl) (ed (n.oL 0 rfl rfl) ?_);simp only[rL,vO,MR,wBo];refine JB rfl rfl ?_;unfold Cg;have r3:=(r1.since m).since o;have t3:=w.since o;refine jP n (by simp only[eo,r3.one];rfl) λh4 M p=>jP M (by simp only[eo,t3.one];rfl) λh5 q r=>?_;refine oF (q.ld 1 rfl rfl) (oF (q.ld 0 rfl rfl) ?_);refine Pm q ((r3.since p).since r) ((t3.since p).since r) (by omega) (λf N=>by obtain⟨a,b,_⟩:=E f N;omega) λO h6 P R=>?_;refine ed rfl (jF (gv (by simp) (fS ⟨k-1,by omega,?_⟩)));rw[j];exact⟨O,i+1,rfl,by omega,((((d.trans m).trans o).trans p).trans r).trans P,R.tail.tail.tail.tail⟩
theorem N6(g:Good u)(m:oh u)(n:ej F h cs)(f:tL F h u vv vb vs)(i:tL F h u wv wb ws)(H:∀F' h',Sn F h F' h'->ej F' h' cs->Q (.bool true) h') :
  cP CS vK [.agg (uC u vv vb vs),.agg (uC u wv wb ws)] h Q:=by
 refine Rt rfl rfl ?_;unfold KY;refine jP n f.one λo p q=>jP p i.one λl b r=>?_;have c:=q.trans r;generalize h.next=la at*;generalize o.next=lb at*;have a1:eQ (.ptr la (0+1)) l=some (.I u.pc):=b.ld 1 rfl rfl;have b1:eQ (.ptr lb (0+1)) l=some (.I u.pc):=b.ld 0 rfl rfl;refine oF (b.ld 1 rfl rfl) (oF (b.ld 0 rfl rfl) (ed (ie ..) (ed (a:= .bool true) ?_ ?_)))
 ·rw[beq_self_eq_true,Eo];simp only[fy,fR,a1,b1,ie,beq_self_eq_true]
 refine gL (ed pf (gL (ed (b.ld 1 rfl rfl) (gL (ed pf (gL (ed (b.ld 0 rfl rfl) (uj ?_))))))));refine VF (vL g m) b (f.since c) (i.since c) λz A s j=>ed (pI ..) ?_;rw[if_pos rfl];have d:=c.trans s;refine gL (ed pf (gL (ed (j.ld 1 rfl rfl) (gL (ed pf (gL (ed (j.ld 0 rfl rfl) (uj ?_))))))));refine Qt g j (f.since d) (i.since d) λB C t k=>ed (pI ..) ?_;rw[if_pos rfl];have e:=d.trans t;refine gL (ed pf (gL (ed (k.ld 1 rfl rfl) (gL (ed pf (gL (ed (k.ld 0 rfl rfl) (uj ?_))))))));refine QI g k (f.since e) (i.since e) λv w x y=>ed (pI ..) ?_;rw[if_pos rfl];exact H v w (e.trans x) y.tail.tail
end
open Un Dm
def V2(u z:U):Prop:=∃az:List Int,Hh u (iL az)/\az.length=u.ef.length/\z=gG u (iL az)
def TF(u z:U):Prop:=∃az:List Int,IM u (iL az)/\az.length=u.ef.length/\z=gG u (iL az)
theorem V2.uniq{u a b:U}(g:Good u)(h:V2 u a) (h':V2 u b):a=b:=by
 obtain⟨x,c,d,rfl⟩:=h;obtain⟨y,e,f,rfl⟩:=h';rw[show iL x=iL y from funext λv=>if hv:v<u.ef.length then Xb g c e v hv else by rw[Ey d v (by omega),Ey f v (by omega)]]
theorem TF.uniq{u a b:U}(h:TF u a) (h':TF u b):a=b:=by
 obtain⟨x,c,d,rfl⟩:=h;obtain⟨y,e,f,rfl⟩:=h';rw[show iL x=iL y from funext λv=>if hv:v<u.ef.length then UK c e v hv else by rw[Ey d v (by omega),Ey f v (by omega)]]
def Zu(u:U):Nat->U->Prop
 |0,z=>z=u
 |1,z=>oQ u z/\Good z
 |2,z=>∃a,oQ u a/\Good a/\V2 a z
 |_,z=>∃a b,oQ u a/\Good a/\V2 a b/\TF b z
def zv(u:U):Nat->U->Prop
 |0,z=>z=u
 |i+1,z=>∃y,zv u i y/\Zu y 3 z
theorem zv.uniq{u:U}:∀{i:Nat}{a b:U},zv u i a->zv u i b->a=b
 |0,_,_,h,h'=>by rw[h,h']
 | i+1,_,_,⟨y,g,p,q,j,k,l,m⟩,⟨y',c,p',q',d,_,e,f⟩=>by
   obtain rfl:=zv.uniq g c;obtain rfl:=j.uniq d;obtain rfl:=l.uniq k e;exact m.uniq f
section
variable{F F':Nat->Prop}{h h':Hp}{cs ds:List Pc}{Q:fq}{u:U}{vv vb vs:V}
theorem ZR{T a b c:Nat}{K:fq}(H:ej F h cs)(d:∀h',ej F h' (er h.next T [.func a [] [],.func b [] [],.func c [] []]::cs)->Sn F h F h'->K (.slice h.next 0 3) h'):gX (jd T 1 3 V.nilFunc [(0,.func a [] []),(1,.func b [] []),(2,.func c [] [])]) h K:=by
 rw[show jd T 1 3 V.nilFunc [(0,.func a [] []),(1,.func b [] []),(2,.func c [] [])]=some (.cells T 1 true false [.func a [] [],.func b [] [],.func c [] []],λl=> .slice l 0 3) from rfl,fF];exact d _ (H.yO T _).1 (H.yO T _).2
theorem yp{n:Int}(g:Good u)(ha:oh u)(H0:ej F h cs)(hu:tL F h u vv vb vs)
  (H:∀F' h' u' wv wb ws,Sn F h F' h'->ej F' h' cs->tL F' h' u' wv wb ws->Good u'->oh u'->zv u (min n 10).toNat u'->Q (.agg (uC u' wv wb ws)) h'):cP CS mB [.agg (uC u vv vb vs),.I n] h Q:=by
 refine OJ rfl rfl ?_;unfold Hy;refine jP H0 hu.one λh1 x t=>rh x λW H2 s2=>?_;generalize h.next=l2 at*;generalize h1.next=l4 at*;have u2:=(hu.since t).since s2;refine ed (H2.oL 1 rfl rfl) ?_;refine J2 (vL g ha) H2 u2 λF3 h3 wv wb ws xs bs ss fa fn fl s3 hc hb hs H3=>?_;obtain⟨G,H4,s4,c4⟩:=H3.P9 hc hb hs;obtain⟨h5,e5,n5,X,s5⟩:=H4.Uf 1 (ws:=uC u wv wb ws) (n:=5) rfl rfl rfl c4.one;rw[e5,ei];have X:=X.perm [1,0] 2 (by decide) (by decide) (by simp);have L:=(((t.trans s2).trans s3).trans s4).trans s5;obtain⟨z,M⟩:∃z:List V,z=[.I 0,.I 0,.ee,.ee,.ee]:=⟨_,rfl⟩
 obtain⟨r,aa⟩:∃T:Nat,T=fT:=⟨_,rfl⟩
 obtain ⟨I,hI⟩:∃I:Nat->LP,I=λk l h'=>∃(F':Nat->Prop) (i:Nat) (u':U) (wv wb ws:V),l=[.I n,.ptr l2 0,.ptr l4 0,.I i]/\i+k=10/\i<=(min n 10).toNat/\Sn F h F' h'/\Good u'/\oh u'/\zv u i u'/\tL F' h' u' wv wb ws/\
   ej F' h' (er l2 r (uC u' wv wb ws)::er l4 r z::cs):=⟨_,rfl⟩
 refine JC I (λk x1 x2 x4 x5 h6 hi=>?_) (k:=10) ?_;rotate_left
 ·rw[hI];subst M aa;exact⟨G,0,u,wv,wb,ws,rfl,rfl,Jw _,L,g,ha,rfl,c4.since s5,X⟩
 clear X H4 H3 H2 x L s5 s4 s3 s2 t c4 u2;rw[hI]at hi;obtain⟨F6,i,v,wv,wb,ws,⟨⟩,hk,ah,s6,g6,a6,R6,r6,Y⟩:=hi;unfold Ca;refine ed (a:= .I (min n 10)) (by rw[PK];rfl) ?_;by_cases hin:(i:Int)<min n 10;rotate_left
 ·refine Ta (gv hin (ed (Y.oL 0 rfl rfl) ?_));obtain⟨h7,e7,n7,A,D⟩:=Y.Uf 1 (ws:=uC v wv wb ws) (n:=5) rfl rfl (by subst M;rfl) r6.one;rw[e7,ei];refine ed (A.oL 1 rfl rfl) ?_;obtain rfl:i=(min n 10).toNat:=by omega
  exact H F6 h7 v wv wb ws (s6.trans D) A.tail.tail (r6.since D) g6 a6 R6
 have ag:i<10:=by omega
 refine Ta (gI hin ?_);refine ZR Y λh7 A D=>?_;generalize h6.next=lf at*;have N:=s6.trans D;refine ed (show _=some (V.I ((3:Nat):Int)) from rfl) ?_;obtain⟨E,A,ld⟩:∃E:Pc,ej F6 h7 (E::er l2 r (uC v wv wb ws)::er l4 r z::cs)/\∀(F':Nat->Prop) (h':Hp) (ds:List Pc),ej F' h' (E::ds)->∀(o f:Nat),[V.func wk [] [],.func oz [] [],.func wG [] []][o]? =some (.func f [] [])->eQ (.ptr lf o) h' = some (.func f [] []):=⟨_,A,λF' h' ds H o f ho=>H.ld 0 rfl ho⟩
 obtain ⟨I2,B⟩:∃I:Nat->LP,I=λk l h'=>∃(F':Nat->Prop) (j:Nat) (u':U) (wv wb ws:V),l=[.I n,.ptr l2 0,.ptr l4 0,.I i,.slice lf 0 3,.I ((3:Nat):Int),.I j]/\j+k=3/\Sn F h F' h'/\Good u'/\oh u'/\Zu v j u'/\tL F' h' u' wv wb ws/\
   ej F' h' (E::er l2 r (uC u' wv wb ws)::er l4 r z::cs):=⟨_,rfl⟩
 refine Jx I2 (λk2 x1 x2 x4 x5 ai aj ak O hi=>?_) (k:=3) ?_;rotate_left
 ·rw[B];exact⟨F6,0,v,wv,wb,ws,rfl,rfl,N,g6,a6,rfl,r6.since D,A⟩
 clear A Y s6 D N r6;rw[B]at hi;obtain⟨F8,j,w,wv,wb,ws,⟨⟩,al,s8,m,J,Z,r8,y⟩:=hi;unfold Cp;by_cases hj:j<3;rotate_left
 ·refine jf (fS ⟨k-1,by omega,?_⟩);rw[hI];obtain rfl:j=3:=by omega
  exact⟨F8,i+1,w,wv,wb,ws,rfl,by omega,by omega,s8,m,J,⟨v,R6,Z⟩,r8,y.tail⟩
 refine gR ?_
 have fin:∀F' h' u' b c e,Sn F8 O F' h'->ej F' h' (E::er l2 r (uC w wv wb ws)::er l4 r z::cs)->tL F' h' u' b c e->Good u'->oh u'->Zu v (j+1) u'->
   fc (gh 5 (.ptr l2 0) (.agg (uC u' b c e)) h') λ_ W=>oP (eJ .add 3 (.I j) (.I 1)) λC=>A4 I2 k2 [.I n,.ptr l2 0,.ptr l4 0,.I i,.slice lf 0 3,.I ((3:Nat):Int),C] W:=λF' h' u' b c e s9 H9 r9 g9 a9 J9=>by
  obtain⟨am,ab,an,ac,P⟩:=H9.Uf 1 (ws:=uC u' b c e) (n:=5) rfl rfl rfl r9.one;rw[ab,ei];refine fS ⟨k2-1,by omega,?_⟩;rw[B];exact⟨F',j+1,u',b,c,e,rfl,by omega,(s8.trans s9).trans P,g9,a9,J9,r9.since P,ac⟩
 have p:∀f,(∀K:fq,(∀F' h' u' b c e,Sn F8 O F' h'->ej F' h' (E::er l2 r (uC w wv wb ws)::er l4 r z::cs)->tL F' h' u' b c e->Good u'->oh u'->Zu v (j+1) u'->K (.agg (uC u' b c e)) h')->cP CS f [.agg (uC w wv wb ws)] O K)->
   gN CS (fO (.func f [] []) [.agg (uC w wv wb ws)]) O λae h1=>fc (gh 5 (.ptr l2 0) ae h1) λ_ W=>oP (eJ .add 3 (.I j) (.I 1)) λC=>A4 I2 k2 [.I n,.ptr l2 0,.ptr l4 0,.I i,.slice lf 0 3,.I ((3:Nat):Int),C] W:=λf hf=>by
  rw[rL,vO];exact hf _ fin
 have lu:fM 5 (.ptr l2 0) O=some (.agg (uC w wv wb ws)):=y.oL 1 rfl rfl;obtain rfl|rfl|rfl:j=0\/j=1\/j=2:=by omega
 ·exact ed rfl (ed (ld _ _ _ y 0 _ rfl) (ed lu (p _ λK S=>WS m J y r8 λF' h' u' wv wb ws t x u1 R fr=>S F' h' u' wv wb ws t x u1 R.BB R.args ⟨by rw[show w=v from Z]at fr;exact fr,R.BB⟩)))
 ·exact ed rfl (ed (ld _ _ _ y 1 _ rfl) (ed lu (p _ λK S=>Uz m J y r8 λF' h' az wv wb ws t x d q u1=>S F' h' _ wv wb ws t x u1 (IF m (d.fit m (Ey q))) (MS J m) ⟨w,Z.1,m,az,d,q,rfl⟩)))
 ·exact ed rfl (ed (ld _ _ _ y 2 _ rfl) (ed lu (p _ λK S=>Y7 m J y r8 λF' h' az wv wb ws t x d q u1=>S F' h' _ wv wb ws t x u1 (IF m (d.fit m (Ey q))) (MS J m) (let⟨a,q1,q2,q3⟩:=Z;⟨a,w,q1,q2,q3,az,d,q,rfl⟩))))
theorem NZ(g:Good u)(i:oh u)(j:ej F h cs)(a:tL F h u vv vb vs)
  (H:∀F' h' u' wv wb ws,Sn F h F' h'->ej F' h' cs->tL F' h' u' wv wb ws->Good u'->oh u'->zv u 3 u'->Q (.agg (uC u' wv wb ws)) h'):cP CS tu [.agg (uC u vv vb vs)] h Q:=by
 refine K7 rfl rfl ?_;unfold Dl;refine jP j a.one λs k b=>rh k λt c d=>?_;refine ed (c.oL 1 rfl rfl) (yp g i c ((a.since b).since d) λl v u' wv wb ws m o r3 p a3 R=>?_);obtain⟨q,r,w,e,f⟩:=o.Uf 0 (ws:=uC u' wv wb ws) (n:=5) rfl rfl rfl r3.one;rw[r,ei];exact ed (e.oL 0 rfl rfl) (H l q u' wv wb ws (((b.trans d).trans m).trans f) e.tail.tail (r3.since f) p a3 R)
end
open Un Dm
section
variable{F F':Nat->Prop}{h h':Hp}{cs ds:List Pc}{Q:fq}{u:U}{vv vb vs:V}
theorem RZ(H:Q (.bool true) h):cP CS nP [] h Q:=by
 obtain⟨fn,c,a,hb⟩:=Lr;exact cP.known a hb (show CS.K nP [] h=some (.bool true) from rfl) rfl rfl H
theorem NU{ops d:List Int}{np n:Int}{vo e:V}(U:ej F h cs)(f:iG (eI .i64) F h ops vo)(i:iG (eI .i64) F h d e)(W:ops.length<9223372036854775808)(H:∀h',Q (.bool true) h') :
  cP CS mf [.agg [vo,e,.I np],.I n] h Q:=by
 refine yE rfl rfl ?_;unfold pQ;refine jP U (by simp only[eo,f.one,i.one];rfl) λh1 A B=>?_;refine ed (A.oL 0 rfl rfl) ?_;refine Zd A (f.since B) (i.since B) W λF2 h2 C s2 X Y=>?_;have D:Good (Fb ops d np):=VO ops d np;have a0:oh (Fb ops d np):=λv x hx=>BX (Ym ops d np x (yC hx)) (by decide);generalize Fb ops d np=E at*;obtain⟨Z,aa,ac,rfl,w1,C,w3⟩:=Y;refine ZL D X.tail ⟨w1,C,w3⟩ λF3 h3 vv vb s3 H3 G=>?_;have g:=VI D;have ga:oh (zM E):=λv x hx=>by
  rcases oV hx with hx|rfl
  ·exact a0 v x hx
  ·exact Jw _
 generalize zM E=u at*;refine gQ H3 rfl rfl G.one λh4 o s4=>?_;generalize h3.next=lu at*;have I:=G.since s4;have hp:=Db n (m:=1000) (by decide);refine J8 (m:=1000) (by decide) (by decide) (RZ ⟨jb _,?_⟩);generalize lj n 1000=m at*;refine gL (ed (o.oL 0 rfl rfl) (gL (ed rfl (gL (ed (a:= .I (10+(m:Int))) (by rw[CQ,tP (by simp only[Fx];omega)]) (WJ (ed (o.oL 0 rfl rfl) (uj ?_))))))));refine yp g ga o I λF5 h5 a av ab ax J K r5 g5 a5 R5=>⟨J.next,K.oL 0 rfl rfl,uj ?_⟩
 have L:=I.since J;refine yp g ga K L λF6 h6 b bv bb bx p H6 r6 g6 a6 R6=>⟨p.next,uj ?_⟩
 rw[show(min (10+(m:Int)) 10).toNat=10 by omega]at R5;rw[show(min (10:Int) 10).toNat=10 from rfl]at R6;obtain rfl:=R5.uniq R6;refine N6 g5 a5 H6 (r5.since p) r6 λF7 h7 M q=>⟨M.next,ed (pI ..) ?_⟩
 rw[if_pos rfl];have N:=(L.since p).since M;refine gL (ed (q.oL 0 rfl rfl) (gL (ed rfl (gL (ed (a:= .I (0-(m:Int))) (by rw[T6,tP (by simp only[Fx];omega)]) (WJ (ed (q.oL 0 rfl rfl) (uj ?_))))))));refine yp g ga q N λF8 h8 c cv cb cx O P r8 g8 a8 R8=>⟨O.next,P.oL 0 rfl rfl,uj ?_⟩
 rw[show(min (0-(m:Int)) 10).toNat=0 by omega]at R8;obtain rfl:c=u:=R8;have R:=N.since O;refine N6 g ga P r8 R λF9 h9 S r=>⟨S.next,ed (pI ..) ?_⟩
 rw[if_pos rfl];have T:=R.since S;refine gL (ed (r.oL 0 rfl rfl) (WJ (ed (r.oL 0 rfl rfl) (uj ?_))));refine NZ g ga r T λae ag a av ab ax j k r10 s t Az=>⟨j.next,k.oL 0 rfl rfl,uj ?_⟩
 refine yp g ga k (T.since j) λah ai b bv bb bx l w r11 aj ak R11=>⟨l.next,uj ?_⟩
 rw[show(min (3:Int) 10).toNat=3 from rfl]at R11;obtain rfl:=Az.uniq R11;refine N6 s t w (r10.since l) r11 λal y z am=>⟨z.next,ed (pI ..) ?_⟩
 rw[if_pos rfl];exact H y
end
