/- Parts. -/
import Derived.Test.YtcoaokdoecgcbaaGreatDoorM39
import Derived.Test.YtcoaokdoecgcbaaGreatDoorM42
import Derived.Test.YtcoaokdoecgcbaaGreatDoorM43
set_option maxHeartbeats 400000
namespace Go.Proofs.YtcoaokdoecgcbaaGreatDoor.Hx
open Un Dm
section
variable{F F':Nat->Prop}{h h':Hp}{cs:List Pc}{Q:fo}{u:U}{vv vb vs:V}
theorem U4(a b:Bool):ef .eql 4 (.bool a) (.bool b)=some (.bool (a == b)):=by
 show oB (X9 4 (.bool a) (.bool b)) _=_;unfold X9 VQ;rw[show P0.underlying 4=some .bool by kernel_rfl];rfl
theorem WE(H:Q (.bool true) h):cP CS pg [] h Q:=by
 obtain⟨fn,c,a,b⟩:=PV;exact cP.known a b (show CS.K pg [] h=some (.bool true) from rfl) rfl rfl H
theorem XI(g:Good u)(j:u.ee.length<=390)(k:ej F h cs)(b:Is F h u vv vb vs)
  (H:∀F' h' of tR fM In Out,Sn F h F' h'->ej F' h' (fE eZ fw of tR::cs)->rk u (jN u) In Out->pJ u Out of fM->Q (.tuple [.agg [tR,.I fM],.bool true]) h') :
  cP CS lI [.agg (uC u vv vb vs),.bool false] h Q:=by
 refine Cw rfl rfl ?_;unfold tO;refine xX k b.one λB C lu l s1 m=>?_;rw[fI];obtain⟨o,a⟩:=l.HM pB [.ed,.I 0];refine po (gD (by simp) (ec ((m.since a).zB rfl) ?_));refine SJ g j o (b.since (s1.trans a)) λp c of tR fM In Out q d r s _=>?_;have e:gz [tR,V.I fM]=true:=by simp only[fe,d.one 0 rfl];rfl
 refine ec rfl (ec rfl ?_);rw[fI];obtain⟨t,v⟩:=d.HM pB [.ed,.I 0];obtain⟨D,w,_,f,x⟩:=t.XM 0 rfl (n:=2) (ws:=[tR,.I fM]) rfl rfl e;rw[show gL 2 (.ptr c.next 0) (.agg [tR,.I fM]) (c.new (.cells pB 1 true false [.ed,.I 0]))=_ from w,eh];refine ec (f.zB 0 rfl rfl) (ec (show ef .eql 40 (.I 0) (.I 0)=some (.bool true) from rfl) ?_);obtain⟨y,z,_,i,A⟩:=f.XM 2 rfl (n:=2) (ws:=[tR,.I fM]) rfl rfl e;rw[z,eh];refine ec (i.zB 2 rfl rfl) ?_;exact H p y of tR fM In Out ((((s1.trans a).trans q).trans v).trans (x.trans A)) i.tail.Fk r s
structure O7 (F:Nat->Prop) (h:Hp) (bs:List Nat) (ex:List Nx) (en:List Nl) (a b d:V):Prop where
 c:iH eY F h bs a
 e:iH Tb F h ex b
 n:iH KI F h en d
 lb:bs.length<=2000000
 le:ex.length<100000000
 ln:en.length<100000000
theorem O7.since{bs:List Nat}{ex:List Nx}{en:List Nl}{b d f:V}(a:O7 F h bs ex en b d f)(s:Sn F h F' h'):O7 F' h' bs ex en b d f:=⟨a.c.since s,a.e.since s,a.n.since s,a.lb,a.le,a.ln⟩
theorem Zb{bs:List Nat}{ex:List Nx}{en:List Nl}{d g i:V}{f p:Int}{ln:Nat}(r:ej F h (ft ln p6 (OE f p d g i)::cs))(N:O7 F h bs ex en d g i)(H:∀h',Q (.bool true) h'):jk CS Q [.ptr ln 0] h:=by
 refine wy ?_;unfold ox;obtain⟨j,s1⟩:=r.MU 0 rfl;have k:Cl (λm=>F m\/m=ln) h ln p6 (OE f p d g i):=⟨.inr rfl,r.get 0 rfl⟩
 have j:ej (λm=>F m\/m=ln) h cs:=j.tail;have a:=N.since s1;refine ec (k.zB rfl) (ec (k.zB rfl) ?_);refine Xr j a.c a.e a.n N.lb N.le N.ln λx y b l s t=>⟨l.next,(k.since l).zB rfl,?_⟩
 have o:=a.since l;refine M3 s o.c o.e o.n N.lb N.le N.ln λz u v w A q=>⟨w.next,ec (U4 _ _) ?_⟩
 have:b=v:=by rw[Uv,t,q]
 rw[this,beq_self_eq_true];exact H u
theorem zdX{bs i:List Nat}{ex j:List Nx}{en k:List Nl}{l m o a b d:V}{f p af ap:Int}{ln q:Nat}{g:Bool}(r:ej F h (ft ln p6 (OE f p l m o)::cs))(N:O7 F h bs ex en l m o)(s:Cl F h q p6 (OE af ap a b d))(A:O7 F h i j k a b d)
  (H:∀h',Q (.bool true) h'):fZ CS Q [.bool g,.ptr q 0,.ptr ln 0] h:=by
 refine xm ?_;unfold oW;refine gh ?_
 cases g with
 |false=>exact gD (by simp) (Zb r N H)
 | true=>
   refine gN rfl (ec (s.zB rfl) ?_);obtain⟨u,e1,_,t,s1⟩:=r.XM 0 rfl (n:=5) (ws:=OE af ap a b d) rfl rfl (by simp only[fe,A.c.one,A.e.one,A.n.one];rfl);rw[e1,eh];exact Zb t (A.since s1) H
theorem zdS(a:Int):ef .quo 3 (.I a) (.I 6)=some (.I (iy .i64 (Int.tdiv a 6))):=rfl
theorem QA{ops f:List Int}{np at_ r:Int}{vo al:V}{aa:Bool}{aF:List Nat}{aG:List Nx}{aH:List Nl}{am an ao:V}{af ap:Int}(H0:ej F h cs)(aq:iH (eI .i64) F h ops vo)(ar:iH (eI .i64) F h f al)(ho:ops.length<9223372036854775808)
  (A:O7 F h aF aG aH am an ao) (H:∀h',Q (.bool true) h') :
  cP CS mz [.agg [vo,al,.I np],.I at_,.I r,.agg (OE af ap am an ao),.bool aa] h Q:=by
 refine Al rfl rfl ?_;unfold qo;refine xX H0 (by simp only[fe,aq.one,ar.one];rfl) λF1 h1 l5 H1 s1 c5=>?_;refine xX H1 (by simp only[fe,A.c.one,A.e.one,A.n.one];rfl) λF2 h2 l8 H2 s2 c8=>?_;have ab:=s1.trans s2;refine ec ((c5.since s2).zB rfl) (za5 H2 (aq.since ab) (ar.since ab) ho λF3 h3 w s3 H3 hw=>?_);obtain⟨vv,vb,vs,rfl,rv,rb,rs⟩:=hw;have ru:Is F3 h3 (zn ops f np) vv vb vs:=⟨rv,rb,rs⟩
 have g:=PN ops f np;obtain⟨aX,aY⟩:=zbR ops f np;obtain⟨aZ,bX,BX,aI,au⟩:=TP ops f np;generalize zn ops f np=u at*;refine tW H3 rfl rfl ru.one λF4 h4 lu H4 s4 cu=>?_;have aw:=ru.since s4;refine ec (cu.zB rfl) (XI g (by omega) H4 aw λF5 h5 of tR fM In Out s5 H5 hA hR=>?_);have aJ:=H5.one 0 rfl;refine ec rfl (ec rfl ?_);refine tW H5 rfl rfl (by simp only[fe,aJ];rfl) λF6 h6 lp H6 s6 cp=>?_;have aK:=(cu.since s5).since s6;have aL:=(aw.since s5).since s6;have hm:∀(t:Nat) T,u.blocks[t]? =some T->T.ee.length<=210:=λt T hT=>by
  have:=wZ u.ee.length T.ee (DB g hT) λv hv=>by
   obtain⟨k,hk⟩:=oR.1 hv;exact g.DW v t k ⟨T,hT,hk⟩
  omega
 have aM:u.blocks.length*(8*210+3)<=32768:=by omega
 have aW:=Pk (of:=of) hm;have U:0<(nK u of).length:=XF aI au;refine ec (aK.zB rfl) (ec (cp.zB rfl) (za3 g H6 aL (j:=0) rfl hA hR hm aM λD h7 J L M l s7 H7 hE rc re rn=>?_));have ax:=((((s3.trans s4).trans s5).trans s6).trans s7)
 have ay:=Tt g hR;obtain⟨a0,a1,a2⟩:=VS g ay hE hm (by omega);have bl:(EK l).length=11*l.length:=Nb l;have a3:=Oa g of u.ee.length;refine ec rfl (ec rfl ?_);refine lM H7 rfl rfl (by simp only[fe,rc.one,re.one,rn.one];rfl) λd H8 s8=>?_;generalize h7.next=ln at*;have s:O7 D d (EK l) (nK u of) (zq u of u.ee.length) J L M:=⟨rc.since s8,re.since s8,rn.since s8,by omega,by omega,by omega⟩
 have aN:=(c8.since ax).since s8;have A8:=(A.since ab).since (ax.trans s8);refine WE (ec (show qH .not (.bool true)=some (.bool false) from rfl) ?_);have l3:eC (.ptr ln (0+3)) d=some L:=H8.ld 0 rfl rfl;have l2:eC (.ptr ln (0+2)) d=some J:=H8.ld 0 rfl rfl;have l4:eC (.ptr ln (0+4)) d=some M:=H8.ld 0 rfl rfl;have e1:mm (.bool false) (oB (some (V.bool true)) λaO=>qH .not aO)=some (.bool false):=rfl;have e2:mm (.bool false) (oB (some (V.I 0)) λaP=>ef .neq 40 aP (V.I 0))=some (.bool false):=rfl;have e3:mm (.bool false) (oB (fK 3 (.ptr ln 0)) λac=>oB (eC ac d) λae=>oB (fD ae) λag=>ef .eql 3 ag (V.I 0))=some (.bool false):=by
  rw[fN,eD,l3,eD,s.e.len,eD,iE,iC];rw[show((((nK u of).length:Nat):Int) == 0)=false by rw[wBA];omega];rfl
 have e4:mm (.bool false) (oB (fK 2 (.ptr ln 0)) λac=>oB (eC ac d) λae=>oB (fD ae) λag=>ef .eql 3 ag (V.I 0))=some (.bool false):=by
  rw[fN,eD,l2,eD,s.c.len,eD,iE,iC];rw[show((((EK l).length:Nat):Int) == 0)=false by rw[wBA];omega];rfl
 refine ec e1 (ec e2 (ec e3 (ec e4 (gh (gD (by simp) ?_)))));refine wL (m:=6) (by decide) (by decide) ?_;have fin:∀{F9 N bs ex en J L M},Sn D d F9 N->ej F9 N (ft ln p6 (OE u.func u.pc J L M)::fE eZ fw of tR::cs)->O7 F9 N bs ex en J L M->fZ CS Q [.bool aa,.ptr l8 0,.ptr ln 0] N:=λz C Y=>zdX C Y (aN.since z) (A8.since z) H;generalize hk:iF r 6=kk at*;refine gw ?_;split
 ·
  rw[tY,fI];obtain⟨C,z⟩:=H8.NX (E:=eY) (xs:=[]) (ws:=[]) (n:=0) 5 rfl trivial rfl;have C:ej D (d.new (.cells 5 1 true false [])) (fE eY 5 [] (.slice d.next 0 0)::ft ln p6 (OE u.func u.pc J L M)::fE eZ fw of tR::cs):=C;have z:Sn D d D (d.new (.cells 5 1 true false [])):=z;generalize d.new (.cells 5 1 true false [])=N at*;generalize V.slice d.next 0 0=Z at*;have Y:=s.since z;refine oF (C.ld 1 rfl rfl) ?_;obtain⟨i,a,O,_,b,B⟩:=C.O9 0 rfl (lE:=1) Y.c (by decide) (by decide) (by have:=s.lb;simp;omega);rw[show eQ 5 1 1 Z J N=_ from O,eh];have b:ej D a (fE eY 5 (EK l) i::ft ln p6 (OE u.func u.pc J L M)::fE eZ fw of tR::cs):=b;refine ec (b.len 0 rfl) (wL (m:=(EK l).length) (by omega) (by omega) (ec (zdS r) (ec (jB _ _ _) ?_)));have ah:=rO at_ (m:=(EK l).length) (by omega);generalize iF at_ (EK l).length=pk at*;have hb:iy .u8 (iy .i64 (Int.tdiv r 6))=(((iy .u8 (iy .i64 (Int.tdiv r 6))).toNat:Nat):Int)/\(iy .u8 (iy .i64 (Int.tdiv r 6))).toNat<256:=by rw[PO];omega
  generalize (iy .u8 (iy .i64 (Int.tdiv r 6))).toNat=bb at*;rw[hb.1];obtain⟨l11,az,aA,p1,p2,p3,q,P⟩:=b.L9 0 rfl (k:=pk) ah rfl (y:=bb) (u:= .int .u8 (bb:Nat)) rfl ⟨rfl,hb.2⟩;refine ec p1 ?_;rw[p2,eh];have q:ej D aA (fE eY 5 ((EK l).set pk bb) i::ft ln p6 (OE u.func u.pc J L M)::fE eZ fw of tR::cs):=q;have aQ:=q.one 0 rfl;obtain⟨aR,ai,_,W,I⟩:=q.st 1 rfl (o:=0+2) (by simp) aQ;refine ec pf ?_;rw[ai,eh];obtain⟨R,S,aj⟩:=W.ji 0 rfl;have sA:=(((z.trans B).trans P).trans I).trans S;have X:=s.since sA;exact fin sA R.tail ⟨aj,X.e,X.n,by rw[X1];exact s.lb,s.le,s.ln⟩
 refine gw ?_;split
 ·
  obtain⟨Z,g1,g2⟩:=s.e.cut (lo:=some (.I 1)) (hi:=none) (m:=1) (n:=(nK u of).length) rfl rfl (by omega) (jv _);refine oF l3 (ec g1 (ec pf ?_));obtain⟨N,e9,_,C,z⟩:=H8.st 0 rfl (o:=0+3) (by simp) g2.one;rw[e9,eh];have Y:=s.since z;refine fin z C ⟨Y.c,g2.since z,Y.n,s.lb,?_,s.ln⟩;have:=s.le;rw[wBa,Rh];omega
 refine gw ?_;split
 ·
  rw[tY,fI];obtain⟨C,z⟩:=H8.NX (E:=KI) (xs:=[]) (ws:=[]) (n:=0) mq rfl trivial rfl;have C:ej D (d.new (.cells mq 2 true false [])) (fE KI mq [] (.slice d.next 0 0)::ft ln p6 (OE u.func u.pc J L M)::fE eZ fw of tR::cs):=C;have z:Sn D d D (d.new (.cells mq 2 true false [])):=z;generalize d.new (.cells mq 2 true false [])=N at*;generalize V.slice d.next 0 0=Z at*;have Y:=s.since z;refine oF (C.ld 1 rfl rfl) ?_;obtain⟨i,a,O,_,b,B⟩:=C.O9 0 rfl (lE:=16) Y.n (by decide) (by decide) (by have:=s.ln;simp;omega);rw[show eQ mq 2 16 Z M N=_ from O,eh];have b:ej D a (fE KI mq (zq u of u.ee.length) i::ft ln p6 (OE u.func u.pc J L M)::fE eZ fw of tR::cs):=b;refine ec (zdS r) (wL (m:=6) (by decide) (by decide) (wL (m:=410) (by decide) (by decide) ?_));have aS:=rO at_ (m:=410) (by omega);rw[iu,fY,gS (n:=((iF at_ 410:Nat):Int)-2) (by simp only[Cf];omega)];generalize ((iF (iy .i64 (r.tdiv 6)) 6:Nat):Int)=G at*;generalize ((iF at_ 410:Nat):Int)-2=nd at*;refine ec (show _=some (V.agg (AB ⟨G,nd⟩)) from rfl) ?_;rw[show iK mq 2 1 (.agg [.I 0,.I 0]) [(0,.agg (AB ⟨G,nd⟩))]=some (.cells mq 2 true false (AB ⟨G,nd⟩),λl=> .slice l 0 1) from rfl,fI];obtain⟨a4,aA,aT,_,q,P⟩:=b.wi 0 rfl (lE:=16) (IZ:=mq) (ro:=false) (y:=(⟨G,nd⟩:Nl)) (w:=AB ⟨G,nd⟩) rfl (by decide) (by decide) (by omega);rw[show eQ mq 2 16 i (.slice a.next 0 1) (a.new (.cells mq 2 true false (AB ⟨G,nd⟩)))=_ from aT,eh];have az:=q.one 0 rfl;obtain⟨aR,ai,_,W,I⟩:=q.st 1 rfl (o:=0+4) (by simp) az;refine ec pf ?_;rw[ai,eh];obtain⟨R,S,aj⟩:=W.ji 0 rfl;have sA:=(((z.trans B).trans P).trans I).trans S;have X:=s.since sA;exact fin sA R.tail ⟨X.c,X.e,aj,s.lb,s.le,by rw[oQ,Qv];omega⟩
 have aB:∀{K:fo},(∀a i,Sn D d D a->ej D a (fE Tb ny (nK u of) i::ft ln p6 (OE u.func u.pc J L M)::fE eZ fw of tR::cs)->K i a)->
   hZ (iK ny 3 0 (.agg [.ed,.I 0,.I 0]) []) d λv h=>oP (fK 3 (.ptr ln 0)) λp=>oP (eC p h) λx=>fg (eQ ny 3 40 v x h) K:=λHK=>by
  rw[tY,fI];obtain⟨C,z⟩:=H8.NX (E:=Tb) (xs:=[]) (ws:=[]) (n:=0) ny rfl trivial rfl;have C:ej D (d.new (.cells ny 3 true false [])) (fE Tb ny [] (.slice d.next 0 0)::ft ln p6 (OE u.func u.pc J L M)::fE eZ fw of tR::cs):=C;have z:Sn D d D (d.new (.cells ny 3 true false [])):=z;generalize d.new (.cells ny 3 true false [])=N at*;generalize V.slice d.next 0 0=Z at*;have Y:=s.since z;refine oF (C.ld 1 rfl rfl) ?_;obtain⟨i,a,O,_,b,B⟩:=C.O9 0 rfl (lE:=40) Y.e (by decide) (by decide) (by simp;omega);rw[show eQ ny 3 40 Z L N=_ from O,eh];exact HK a i (z.trans B) b
 have put:∀{F9 N Z ex},Sn D d F9 N->ej F9 N (fE Tb ny ex Z::ft ln p6 (OE u.func u.pc J L M)::fE eZ fw of tR::cs)->ex.length<100000000->
   oP (fK 3 (.ptr ln 0)) λp=>fg (gL 1 p Z N) λ_ h=>fZ CS Q [.bool aa,.ptr l8 0,.ptr ln 0] h:=λz C hl=>by
  have o9:=C.one 0 rfl;obtain⟨a,O,_,b,B⟩:=C.st 1 rfl (o:=0+3) (by simp) o9;refine ec pf ?_;rw[O,eh];obtain⟨q,P,ak⟩:=b.ji 0 rfl;have sA:=(z.trans B).trans P;have aC:=s.since sA;exact fin sA q.tail ⟨aC.c,ak,aC.n,s.lb,hl,s.ln⟩
 refine gw ?_;split
 ·
  refine aB λa i B b=>?_;refine ec (zdS r) (wL (m:=6) (by decide) (by decide) (wL (m:=410) (by decide) (by decide) ?_));have aS:=rO at_ (m:=410) (by omega);rw[iu,fY,gS (n:=((iF at_ 410:Nat):Int)-2) (by simp only[Cf];omega)];generalize ((iF (iy .i64 (r.tdiv 6)) 6:Nat):Int)=G at*;generalize ((iF at_ 410:Nat):Int)-2=nd at*;refine ec (show _=some (V.agg (AB ⟨G,nd⟩)) from rfl) ?_;rw[show iK mq 2 1 (.agg [.I 0,.I 0]) [(0,.agg (AB ⟨G,nd⟩))]=some (.cells mq 2 true false (AB ⟨G,nd⟩),λl=> .slice l 0 1) from rfl,fI];obtain⟨q,P,ak⟩:=b.Xu (E:=KI) (xs:=[⟨G,nd⟩]) (ws:=AB ⟨G,nd⟩) (n:=1) mq rfl ⟨AB ⟨G,nd⟩,[],by simp,rfl,trivial⟩ false;have q:ej _ (a.new (.cells mq 2 true false (AB ⟨G,nd⟩))) (fE Tb ny (nK u of) i::ft ln p6 (OE u.func u.pc J L M)::fE eZ fw of tR::cs):=q;refine ec (show _=some (V.agg [.I 0,.I 0,.slice a.next 0 1,.ed]) from rfl) ?_;rw[show iK O0 4 1 (.agg [.I 0,.I 0,.ed,.ed]) [(0,.agg [.I 0,.I 0,.slice a.next 0 1,.ed])]=_ from Db rfl rfl rfl,fI];obtain⟨W,I,aD⟩:=q.Xu (E:=eFr) (xs:=[⟨0,0,[⟨G,nd⟩],[]⟩]) (ws:=[.I 0,.I 0,.slice a.next 0 1,.ed]) (n:=1) O0 rfl ⟨_,[],by simp,⟨_,_,rfl,ak,.nil⟩,trivial⟩ false;have aU:=(B.trans P).trans I;obtain⟨x0,a5⟩:∃x0,(nK u of)[0]? =some x0:=⟨_,iz U⟩
  obtain ⟨l13,aE,aV,p1,p2,p3,R,S⟩:=W.stP 0 rfl (k:=0) U (j:=0) (by decide) (y:={ (nK u of)[0]with il:=[⟨0,0,[⟨G,nd⟩],[]⟩]}) aD.one (λw hw=>by
   obtain⟨fv,rfl,_⟩:=hw;exact⟨_,rfl,aD⟩)
  refine ec p1 (ec pf ?_);rw[show gL 1 (.ptr l13 (aE+0)) (.slice (a.new (.cells mq 2 true false (AB ⟨G,nd⟩))).next 0 1) ((a.new (.cells mq 2 true false (AB ⟨G,nd⟩))).new (.cells O0 4 true false [.I 0,.I 0,.slice a.next 0 1,.ed]))=_ from p2,eh];exact put (aU.trans S) R (by rw[X1];omega)
 refine gw ?_;split
 ·
  refine aB λa i B b=>?_;refine ec (b.len 0 rfl) (wL (m:=(nK u of).length) U (by omega) ?_);have ah:=rO at_ (m:=(nK u of).length) U;generalize iF at_ (nK u of).length=pk at*;obtain⟨l13,aE,aV,p1,p2,p3,R,S⟩:=b.stP 0 rfl (k:=pk) ah (j:=0) (by decide) (y:={ (nK u of)[pk]with il:=[]}) (u:= .ed) rfl (λw hw=>by
   obtain⟨fv,rfl,_⟩:=hw;exact⟨_,rfl,.nil⟩)
  refine ec p1 (ec pf ?_);rw[p2,eh];exact put (B.trans S) R (by rw[X1];omega)
 exact fin (.refl _ _) H8 s
end
