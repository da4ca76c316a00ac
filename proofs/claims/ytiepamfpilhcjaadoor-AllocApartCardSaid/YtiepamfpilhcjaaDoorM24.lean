/- Parts of the proof. -/
import Derived.Test.YtiepamfpilhcjaaDoorM23
import Derived.Test.YtiepamfpilhcjaaDoorM16
namespace Go.Proofs.YtiepamfpilhcjaaDoor.Hx
open Go.Proofs.YtiepamfpilhcjaaDoor.Un
def eZ:Enc Int where
 sz:=1
 rel _ _ n cs:=cs=[.int .i64 n]
 len h:=by subst h;rfl
 one h:=by subst h;rfl
 keep _ h:=h
 mono _ h:=h
def eW:Enc (Nat×Nat) where
 sz:=2
 rel _ _ x cs:=cs=[.int .i64 (x.1:Nat), .int .i64 (x.2:Nat)]
 len h:=by subst h;rfl
 one h:=by subst h;rfl
 keep _ h:=h
 mono _ h:=h
structure URd (F:Nat→Prop) (h:Hp) (u:U) (vv vb vs:V):Prop where
 v:SlR eV F h u.vals vv
 b:SlR eK F h u.blocks vb
 s:SlR eT F h u.states vs
theorem URd.keep {F:Nat→Prop} {h h' : Hp}{u:U}{vv vb vs:V}(hk:∀l,F l→h'.get l=h.get l)(a:URd F h u vv vb vs):URd F h' u vv vb vs:=⟨a.v.keep hk,a.b.keep hk,a.s.keep hk⟩
theorem URd.mono {F F' : Nat→Prop}{h:Hp}{u:U}{vv vb vs:V}(hk:∀l,F l→F' l)(a:URd F h u vv vb vs):URd F' h u vv vb vs:=⟨a.v.mono hk,a.b.mono hk,a.s.mono hk⟩
theorem URd.one {F:Nat→Prop}{h:Hp}{u:U}{vv vb vs:V}(a:URd F h u vv vb vs):allOne (uC u vv vb vs)=true:=by simp only [uC,allOne_cons,a.v.one,a.b.one,a.s.one];rfl
theorem SlR.since {α:Type}{E:Enc α} {F F' : Nat→Prop} {h h' : Hp}{xs:List α}{v:V}(hs:SlR E F h xs v)(s:Sn F h F' h'):SlR E F' h' xs v:=(hs.keep s.keep).mono s.mono
theorem URd.since {F F' : Nat→Prop} {h h' : Hp}{u:U}{vv vb vs:V}(a:URd F h u vv vb vs)(s:Sn F h F' h'):URd F' h' u vv vb vs:=(a.keep s.keep).mono s.mono
section
variable {F F' : Nat→Prop} {h h' : Hp} {cs:List Pc} {Q:QP1} {u:U} {vv vb vs:V}
theorem Hold.rd {α:Type}{E:Enc α}{xs:List α}{v:V}(H:Hold F h cs)(i:Nat)(hi:cs[i]? = some (readP E xs v)):SlR E F h xs v:=H.ok i _ hi
structure VlAt (h:Hp) (l o:Nat) (x:Vl) (w:V):Prop where
 op:pLd (.ptr l (o+0)) h=some (.int .i64 (x.op:Nat))
 a:pLd (.ptr l (o+1)) h=some (.int .i64 (x.a:Nat))
 b:pLd (.ptr l (o+2)) h=some (.int .i64 (x.b:Nat))
 n:pLd (.ptr l (o+3)) h=some (.int .i64 x.n)
 args:pLd (.ptr l (o+4)) h=some w
 st:pLd (.ptr l (o+5)) h=some (.int .i64 (x.state:Nat))
structure BkAt (h:Hp) (l o:Nat) (x:Bk) (v n p:V):Prop where
 vals:pLd (.ptr l (o+0)) h=some v
 fin:pLd (.ptr l (o+1)) h=some (.int .i64 (x.fin:Nat))
 cond:pLd (.ptr l (o+2)) h=some (.int .i64 (x.cond:Nat))
 next:pLd (.ptr l (o+3)) h=some n
 preds:pLd (.ptr l (o+4)) h=some p
 st:pLd (.ptr l (o+5)) h=some (.int .i64 (x.state:Nat))
theorem URd.val (a:URd F h u vv vb vs){i:Nat}{x:Vl}(hx:u.vals[i]? = some x) :
  ∃l o w,F l∧pIx 6 vv (.int .i64 (i:Nat))=some (.ptr l o)∧pLdA 6 (.ptr l o) h=some (.agg (vlC x w))∧SlR eN F h x.args w∧VlAt h l o x w:=by
 obtain ⟨hi,rfl⟩:=List.getElem?_eq_some_iff.1 hx
 obtain ⟨l,o,w,h1,h2,h3,⟨a,rfl,h5⟩,h6⟩:=a.v.ix hi .i64
 exact ⟨l,o,a,h1,h2,h3,h5,⟨h6 0 _ rfl,h6 1 _ rfl,h6 2 _ rfl,h6 3 _ rfl,h6 4 _ rfl,h6 5 _ rfl⟩⟩
theorem URd.blk (a:URd F h u vv vb vs){i:Nat}{x:Bk}(hx:u.blocks[i]? = some x) :
  ∃l o v n p,F l∧pIx 6 vb (.int .i64 (i:Nat))=some (.ptr l o)∧pLdA 6 (.ptr l o) h=some (.agg (bkC x v n p))∧SlR eN F h x.vals v∧SlR eN F h x.next n∧SlR eN F h x.preds p∧BkAt h l o x v n p:=by
 obtain ⟨hi,rfl⟩:=List.getElem?_eq_some_iff.1 hx
 obtain ⟨l,o,w,h1,h2,h3,⟨v,n,p,rfl,h5,h6,h7⟩,h8⟩:=a.b.ix hi .i64
 exact ⟨l,o,v,n,p,h1,h2,h3,h5,h6,h7,⟨h8 0 _ rfl,h8 1 _ rfl,h8 2 _ rfl,h8 3 _ rfl,h8 4 _ rfl,h8 5 _ rfl⟩⟩
theorem URd.st (a:URd F h u vv vb vs){i:Nat}{x:List Fm}(hx:u.states[i]? = some x) :
  ∃l o f,F l∧pIx 1 vs (.int .i64 (i:Nat))=some (.ptr l o)∧pLdA 1 (.ptr l o) h=some (.agg [f])∧pLd (.ptr l o) h=some f∧SlR eF F h x f:=by
 obtain ⟨hi,rfl⟩:=List.getElem?_eq_some_iff.1 hx
 obtain ⟨l,o,w,h1,h2,h3,⟨f,rfl,h5⟩,h6⟩:=a.s.ix hi .i64
 exact ⟨l,o,f,h1,h2,h3,h6 0 f rfl,h5⟩
theorem SlR.frm {fs:List Fm}{f:V}(a:SlR eF F h fs f){i:Nat}{x:Fm}(hx:fs[i]? = some x) :
  ∃l o a b,F l∧pIx 4 f (.int .i64 (i:Nat))=some (.ptr l o)∧pLdA 4 (.ptr l o) h=some (.agg (fmC x a b))∧SlR eN F h x.locals a∧SlR eN F h x.stack b:=by
 obtain ⟨hi,rfl⟩:=List.getElem?_eq_some_iff.1 hx
 obtain ⟨l,o,w,h1,h2,h3,⟨a,b,rfl,h5,h6⟩,_⟩:=a.ix hi .i64
 exact ⟨l,o,a,b,h1,h2,h3,h5,h6⟩
theorem SlR.nat {xs:List Nat}{v:V}(a:SlR eN F h xs v){i x:Nat}(hx:xs[i]? = some x)(kd:IntKind):∃l o,F l∧pIx 1 v (.int kd (i:Nat))=some (.ptr l o)∧pLd (.ptr l o) h=some (.int .i64 (x:Nat)):=by
 obtain ⟨hi,rfl⟩:=List.getElem?_eq_some_iff.1 hx
 obtain ⟨l,o,w,h1,h2,h3,h4⟩:=a.ix1 hi kd rfl
 obtain rfl:w = .int .i64 (xs[i]:Nat):=by
  have:[w]=[V.int .i64 (xs[i]:Nat)]:=h4
  simpa using this
 exact ⟨l,o,h1,h2,h3⟩
theorem SlR.int {xs:List Int}{v:V}(a:SlR eZ F h xs v){i:Nat}{x:Int}(hx:xs[i]? = some x)(kd:IntKind):∃l o,F l∧pIx 1 v (.int kd (i:Nat))=some (.ptr l o)∧pLd (.ptr l o) h=some (.int .i64 x):=by
 obtain ⟨hi,rfl⟩:=List.getElem?_eq_some_iff.1 hx
 obtain ⟨l,o,w,h1,h2,h3,h4⟩:=a.ix1 hi kd rfl
 obtain rfl:w = .int .i64 xs[i]:=by
  have:[w]=[V.int .i64 xs[i]]:=h4
  simpa using this
 exact ⟨l,o,h1,h2,h3⟩
theorem SlR.bool {xs:List Bool}{v:V}(a:SlR eB F h xs v){i:Nat}{x:Bool}(hx:xs[i]? = some x)(kd:IntKind):∃l o,F l∧pIx 1 v (.int kd (i:Nat))=some (.ptr l o)∧pLd (.ptr l o) h=some (.bool x):=by
 obtain ⟨hi,rfl⟩:=List.getElem?_eq_some_iff.1 hx
 obtain ⟨l,o,w,h1,h2,h3,h4⟩:=a.ix1 hi kd rfl
 obtain rfl:w = .bool xs[i]:=by
  have:[w]=[V.bool xs[i]]:=h4
  simpa using this
 exact ⟨l,o,h1,h2,h3⟩
theorem SlR.list {α:Type}{E:Enc α}{xs:List (List α)}{v:V}(a:SlR (eL E) F h xs v){i:Nat}{x:List α}(hx:xs[i]? = some x)(kd:IntKind):∃l o w,F l∧pIx 1 v (.int kd (i:Nat))=some (.ptr l o)∧pLd (.ptr l o) h=some w∧SlR E F h x w:=by
 obtain ⟨hi,rfl⟩:=List.getElem?_eq_some_iff.1 hx
 obtain ⟨l,o,w,h1,h2,h3,f,h4,h5⟩:=a.ix1 hi kd rfl
 obtain rfl:w=f:=by simpa using h4
 exact ⟨l,o,w,h1,h2,h3,h5⟩
theorem st_ne {t:Nat}{k:IntKind}{a b:Int}{A B:Prop}(h:if a=b then B else A):oP (hbin .neq t (.int k a) (.int k b)) fun v=>bP v A B:=by
 simp only [hbin_neq,oP_some',bP_bool',bne_iff_ne]
 by_cases e:a=b
 ·rw [if_pos e] at h;rw [if_neg (fun h=>h e)];exact h
 ·rw [if_neg e] at h;rw [if_pos e];exact h
theorem st_ge {t:Nat}{k:IntKind}{a b:Int}{A B:Prop}(h:if b≤a then A else B):oP (hbin .geq t (.int k a) (.int k b)) fun v=>bP v A B:=by
 simp only [hbin_geq,oP_some',bP_bool',decide_eq_true_eq];exact h
theorem ieq (a b:Nat):((a:Int) == (b:Int))=(a == b):=by
 rw [Bool.eq_iff_iff,beq_iff_eq,beq_iff_eq];omega
theorem st_eqv {t:Nat}{k:IntKind}{a b:Int}{K:V→Prop}(h:K (.bool (decide (a=b)))):oP (hbin .eql t (.int k a) (.int k b)) K:=by
 rw [hbin_eql]
 have:(a == b)=decide (a=b):=by by_cases e:a=b <;> simp [e]
 rw [this];exact h
def partsN (op:Nat):Nat:=if two op=true then 2 else if oneP op=true then 1 else 0
theorem ct_parts {op:Nat}(H:Q (.int .i64 (partsN op:Nat)) h):cP CS n_ssa_parts [.int .i64 (op:Nat)] h Q:=by
 refine c_ssa_parts rfl rfl ?_
 unfold B_ssa_parts
 have r9:∀b:Bool,(b=true→oneP op=true∧two op≠true)→(b=false→oneP op≠true∧two op≠true)→J_ssa_parts_R9 CS Q (.bool b) h:=by
  intro b h1 h2
  refine j_ssa_parts_R9 ?_
  unfold B_ssa_parts_R9
  rw [bP_bool]
  unfold partsN at H
  cases b with
  | true=>rw [if_neg (h1 rfl).2,if_pos (h1 rfl).1] at H;exact H
  | false=>rw [if_neg (h2 rfl).2,if_neg (h2 rfl).1] at H;exact H
 have r4:∀b:Bool,b=two op→J_ssa_parts_R4 CS Q (.int .i64 (op:Nat)) (.bool b) h:=by
  intro b hb
  refine j_ssa_parts_R4 ?_
  unfold B_ssa_parts_R4
  rw [bP_bool]
  cases b with
  | true=>unfold partsN at H;rw [if_pos hb.symm] at H;exact H
  | false =>
    have hn : two op ≠ true := by rw [← hb]; simp
    rw [if_neg (by simp)]
    refine st_eqv ?_
    rw [bP_bool]; split
    · rename_i e; refine r9 _ (fun _ => ⟨?_, hn⟩) fun h => absurd (h.symm.trans e) (by simp)
      have : op = 8 := by simp at e; omega
      subst this; rfl
    rename_i e1
    refine st_eqv ?_
    rw [bP_bool]; split
    · rename_i e; refine r9 _ (fun _ => ⟨?_, hn⟩) fun h => absurd (h.symm.trans e) (by simp)
      have : op = 9 := by simp at e; omega
      subst this; rfl
    rename_i e2
    refine st_eqv ?_
    rw [bP_bool]; split
    · rename_i e; refine r9 _ (fun _ => ⟨?_, hn⟩) fun h => absurd (h.symm.trans e) (by simp)
      have : op = 15 := by simp at e; omega
      subst this; rfl
    rename_i e3
    refine st_eqv ?_
    rw [bP_bool]; split
    · rename_i e; refine r9 _ (fun _ => ⟨?_, hn⟩) fun h => absurd (h.symm.trans e) (by simp)
      have : op = 16 := by simp at e; omega
      subst this; rfl
    rename_i e4
    refine st_eqv ?_
    rw [bP_bool]; split
    · rename_i e; refine r9 _ (fun _ => ⟨?_, hn⟩) fun h => absurd (h.symm.trans e) (by simp)
      have : op = 17 := by simp at e; omega
      subst this; rfl
    rename_i e5
    refine st_eqv ?_
    simp at e1 e2 e3 e4 e5
    refine r9 _ (fun e => ⟨?_, hn⟩) fun e => ⟨?_, hn⟩
    · have : op = 22 := by simp at e; omega
      subst this; rfl
    · have e := of_decide_eq_false e
      intro hq
      unfold oneP at hq
      simp only [Bool.or_eq_true, beq_iff_eq] at hq
      omega
 have tw:∀n:Nat,(op:Int)=n→(two n=true)→two op=true:=fun n e h=>by
  have:op=n:=by omega
  subst this;exact h
 refine st_eqv ?_
 rw [bP_bool];split
 ·rename_i e;exact r4 _ (e.trans (tw 3 (by simpa using e) rfl).symm)
 rename_i e1
 refine st_eqv ?_
 rw [bP_bool];split
 ·rename_i e;exact r4 _ (e.trans (tw 4 (by simpa using e) rfl).symm)
 rename_i e2
 refine st_eqv ?_
 rw [bP_bool];split
 ·rename_i e;exact r4 _ (e.trans (tw 5 (by simpa using e) rfl).symm)
 rename_i e3
 refine st_eqv ?_
 rw [bP_bool];split
 ·rename_i e;exact r4 _ (e.trans (tw 6 (by simpa using e) rfl).symm)
 rename_i e4
 refine st_eqv ?_
 rw [bP_bool];split
 ·rename_i e;exact r4 _ (e.trans (tw 7 (by simpa using e) rfl).symm)
 rename_i e5
 refine st_eqv ?_
 rw [bP_bool];split
 ·rename_i e;exact r4 _ (e.trans (tw 10 (by simpa using e) rfl).symm)
 rename_i e6
 refine st_eqv ?_
 rw [bP_bool];split
 ·rename_i e;exact r4 _ (e.trans (tw 11 (by simpa using e) rfl).symm)
 rename_i e7
 refine st_eqv ?_
 rw [bP_bool];split
 ·rename_i e;exact r4 _ (e.trans (tw 12 (by simpa using e) rfl).symm)
 rename_i e8
 refine st_eqv ?_
 rw [bP_bool];split
 ·rename_i e;exact r4 _ (e.trans (tw 13 (by simpa using e) rfl).symm)
 rename_i e9
 refine st_eqv ?_
 rw [bP_bool];split
 ·rename_i e;exact r4 _ (e.trans (tw 14 (by simpa using e) rfl).symm)
 rename_i e10
 refine st_eqv ?_
 rw [bP_bool];split
 ·rename_i e;exact r4 _ (e.trans (tw 18 (by simpa using e) rfl).symm)
 rename_i e11
 refine st_eqv ?_
 rw [bP_bool];split
 ·rename_i e;exact r4 _ (e.trans (tw 19 (by simpa using e) rfl).symm)
 rename_i e12
 refine st_eqv (r4 _ ?_)
 simp at e1 e2 e3 e4 e5 e6 e7 e8 e9 e10 e11 e12
 rw [Bool.eq_iff_iff]
 unfold two
 simp only [decide_eq_true_eq,Bool.or_eq_true,Bool.and_eq_true,beq_iff_eq]
 omega
theorem ct_leaves {op:Nat}(H:Q (.bool (leaves op)) h):cP CS n_ssa_leaves [.int .i64 (op:Nat)] h Q:=by
 refine c_ssa_leaves rfl rfl ?_
 unfold B_ssa_leaves
 have e:leaves op=(((op:Int) == 22) || ((op:Int) == 23)):=by
  unfold leaves
  rw [show ((op:Int) == 22)=(op == 22) from ieq op 22,show ((op:Int) == 23)=(op == 23) from ieq op 23]
 simp only [hbin_eql,oP_some',oB_some',pOr_bool]
 rw [←e];exact H
theorem ct_below {a b:Nat}(H:Q (.bool (decide (a<b))) h):cP CS n_ssa_below [.int .i64 (a:Nat), .int .i64 (b:Nat)] h Q:=by
 refine c_ssa_below rfl rfl ?_
 unfold B_ssa_below
 simp only [hbin_geq,oP_some',oB_some',hbin_lss,pAnd_bool]
 have e:(decide ((0:Int)≤(a:Nat))&&decide (((a:Nat):Int)<(b:Nat)))=decide (a<b):=by
  rw [Bool.eq_iff_iff];simp only [Bool.and_eq_true,decide_eq_true_eq];omega
 rw [e];exact H
theorem ct_Equal {xs:List Nat}{a b:V}(ha:SlR eN F h xs a)(hb:SlR eN F h xs b)(hl:xs.length<1000000000)(H:Q (.bool true) h):cP CS n_slices_Equal_int_int [a,b] h Q:=by
 refine c_slices_Equal_int_int rfl rfl ?_
 unfold B_slices_Equal_int_int
 refine oP_mk ha.len (oP_mk hb.len (st_ne (if_t rfl (oP_mk ha.len ?_))))
 refine l_slices_Equal_int_int_L0 (fun k x0 x1 x2 x3 h'=>∃i:Nat,x0=a∧x1=b∧x2 = .int .i64 (xs.length:Nat)∧x3 = .int .i64 (i:Nat)∧i+k=xs.length∧h' = h) ?_ (k:=xs.length) ⟨0,rfl,rfl,rfl,rfl,by omega,rfl⟩
 rintro k x0 x1 x2 x3 h' ⟨i,rfl,rfl,rfl,rfl,hk,rfl⟩
 unfold B_slices_Equal_int_int_L0
 by_cases hi:i<xs.length
 ·refine st_lt (if_t (by omega) ?_)
  obtain ⟨l,o,_,i1,i2⟩:=ha.nat (List.getElem?_eq_getElem hi) .i64
  obtain ⟨l',o',_,j1,j2⟩:=hb.nat (List.getElem?_eq_getElem hi) .i64
  refine oP_mk i1 (oP_mk i2 (oP_mk j1 (oP_mk j2 (st_ne (if_t rfl ?_)))))
  exact st_add (m:=1) (by omega) (by omega) ⟨k - 1,by omega,i+1,rfl,rfl,rfl,rfl,by omega,rfl⟩
 ·exact st_lt (if_f (by omega) H)
end
end Go.Proofs.YtiepamfpilhcjaaDoor.Hx
namespace Go.Proofs.YtiepamfpilhcjaaDoor.Hx
open Go.Proofs.YtiepamfpilhcjaaDoor.Un
theorem take1:∀{l:List Nat}(h:0<l.length),l.take 1=[l[0]]
 | y::l,_=>by simp
theorem uses_eq (x:Vl):uses x=([x.a,x.b].take (partsN x.op))++(if x.op=20 then x.args.take 1 else if x.op=21 then x.args else []):=by
 unfold uses partsN
 by_cases h1:x.op=21
 ·rw [h1];simp [two,oneP]
 ·rw [if_neg h1]
  by_cases h2:x.op=20
  ·rw [h2];simp [two]
  ·rw [if_neg h2,if_neg h2,if_neg h1]
   by_cases h3:two x.op=true
   ·simp [h3]
   ·by_cases h4:oneP x.op=true
    ·simp [h3,h4]
    ·simp [h3,h4]
section
variable {F F' : Nat→Prop} {h h' : Hp} {cs:List Pc} {Q:QP1} {u:U} {vv vb vs:V}
theorem uses_len {x:Vl}(hl:x.op=21∨x.op=20→x.args.length≤700):(uses x).length≤1000:=by
 rw [uses_eq]
 by_cases h1:x.op=20
 ·rw [if_pos h1];simp;omega
 ·rw [if_neg h1]
  by_cases h2:x.op=21
  ·have:=hl (.inl h2)
   rw [if_pos h2];simp;omega
  ·rw [if_neg h2];simp;omega
theorem ct_Uses (H0:Hold F h cs){x:Vl}{wa:V}(ha:SlR eN F h x.args wa)(hl:x.op=21∨x.op=20→x.args.length≤1000000)(H:∀F' h' v,Sn F h F' h'→Hold F' h' cs→SlR eN F' h' (uses x) v→Q v h'):cP CS n_ssa_Uses [.agg (vlC x wa)] h Q:=by
 refine c_ssa_Uses rfl rfl ?_
 unfold B_ssa_Uses
 have o1:allOne (vlC x wa)=true:=by simp only [vlC,allOne_cons,ha.one];rfl
 rw [hbox_of o1,alP_some]
 obtain ⟨H1,s1⟩:=H0.newC tyVal (vlC x wa)
 have n1:(h.new (.cells 39 1 true false (vlC x wa))).next=h.next+1:=rfl
 have H1:Hold F (h.new (.cells 39 1 true false (vlC x wa))) (cellP h.next tyVal (vlC x wa)::cs):=H1
 have s1:Sn F h F (h.new (.cells 39 1 true false (vlC x wa))):=s1
 generalize h.new (.cells 39 1 true false (vlC x wa))=h1 at *
 rw [pBS_zero,alO_some]
 obtain ⟨H2,s2⟩:=H1.newR (E:=eN) (xs:=[]) (ws:=[]) (n:=0) tyInt rfl trivial rfl
 have H2:Hold F (h1.new (.cells 3 1 true false [])) (rowP eN tyInt [] (.slice h1.next 0 0)::cellP h.next tyVal (vlC x wa)::cs):=H2
 have s2:Sn F h1 F (h1.new (.cells 3 1 true false [])):=s2
 have g2:(h1.new (.cells 3 1 true false [])).get h1.next=some (.cells 3 1 true false []):=get_new_self _ _
 have n2:(h1.new (.cells 3 1 true false [])).next=h1.next+1:=rfl
 generalize h1.new (.cells 3 1 true false [])=h2 at *
 refine oP_mk (pFA_ptr _ _ _) (oP_mk (H2.ld 1 rfl rfl) (oP_mk (pFA_ptr _ _ _) (oP_mk (H2.ld 1 rfl rfl) ?_)))
 rw [nx2,alO_some]
 obtain ⟨H3,s3⟩:=H2.newR (E:=eN) (xs:=[x.a,x.b]) (ws:=nats [x.a,x.b]) (n:=2) tyInt rfl (win_nats _ _ _) (nats_one _)
 have H3:Hold F (h2.new (.cells 3 1 true false (nats [x.a,x.b]))) (rowP eN tyInt [x.a,x.b] (.slice h2.next 0 2)::rowP eN tyInt [] (.slice h1.next 0 0)::cellP h.next tyVal (vlC x wa)::cs):=H3
 have s3:Sn F h2 F (h2.new (.cells 3 1 true false (nats [x.a,x.b]))):=s3
 have g3:(h2.new (.cells 3 1 true false (nats [x.a,x.b]))).get h2.next=some (.cells 3 1 true false (nats [x.a,x.b])):=get_new_self _ _
 have g23:(h2.new (.cells 3 1 true false (nats [x.a,x.b]))).get h1.next=some (.cells 3 1 true false []):=(get_new_lt _ (by omega)).trans g2
 generalize h2.new (.cells 3 1 true false (nats [x.a,x.b]))=h3 at *
 refine oP_mk (pFA_ptr _ _ _) (oP_mk (H3.ld 2 rfl rfl) ⟨⟨g3,O.beq_cells _ _ _ _ _⟩,H3.ld 2 rfl rfl,H3.ld 2 rfl rfl,⟨g23,O.beq_cells _ _ _ _ _⟩,?_⟩)
 refine ct_parts ⟨Nat.le_refl _,?_⟩
 have hp:partsN x.op≤2:=by
  unfold partsN
  split
  ·omega
  ·split <;> omega
 obtain ⟨v13,e13,H4⟩:=H3.cutR 0 rfl (n:=partsN x.op) hp
 refine oP_mk e13 ⟨⟨g3,O.beq_cells _ _ _ _ _⟩,H3.ld 2 rfl rfl,H3.ld 2 rfl rfl,⟨g23,O.beq_cells _ _ _ _ _⟩,?_⟩
 simp only [List.set_cons_zero] at H4
 obtain ⟨v14,h5,e14,n5,H5,s5⟩:=H4.appO 1 0 rfl rfl (by_:=8) (by decide) (by decide) (by simp;omega)
 have e14' : happend 3 1 8 (.slice h1.next 0 0) v13 h3=some (.val v14 h5):=e14
 rw [e14',valP_some]
 refine ⟨n5,?_⟩
 simp only [List.set_cons_succ,List.set_cons_zero,List.nil_append] at H5
 have s15:=((s1.trans s2).trans s3).trans s5
 have ha5:SlR eN F h5 x.args wa:=(ha.keep s15.keep)
 have key:∀(F' : Nat→Prop) (h' : Hp) (v:V) (l:List Nat),Sn F h5 F' h'→Hold F' h' (rowP eN tyInt ([x.a,x.b].take (partsN x.op)) v13::rowP eN tyInt l v::cellP h.next tyVal (vlC x wa)::cs)→l=uses x→J_ssa_Uses_R3 CS Q v h':=by
  intro F' h' v l sF HF hlu
  subst hlu
  refine j_ssa_Uses_R3 ?_
  unfold B_ssa_Uses_R3
  obtain ⟨H6,s6,r6⟩:=HF.freezeR 1 rfl
  exact H _ _ v ((s15.trans sF).trans s6) H6.tail.tail.tail r6
 refine oP_mk (pFA_ptr _ _ _) (oP_mk (H5.ld 2 rfl rfl) ?_)
 by_cases c20:x.op=20
 ·have hl:=hl (.inr c20)
  refine st_eq (if_t (by omega) ?_)
  refine oP_mk (pFA_ptr _ _ _) (oP_mk (H5.ld 2 rfl rfl) (oP_mk (pFA_ptr _ _ _) (oP_mk (H5.ld 2 rfl rfl) (oP_mk ha5.len (oP_mk (hmin_one _ _ _ _) ?_)))))
  have em:(if false=true then max (1:Int) (x.args.length:Nat) else min (1:Int) (x.args.length:Nat))=((min 1 x.args.length:Nat):Int):=by simp;omega
  rw [em]
  obtain ⟨v26,e26,r26⟩:=ha5.cut (lo:=none) (hi:=some (.int .i64 ((min 1 x.args.length:Nat):Int))) (m:=0) (n:=min 1 x.args.length) rfl (hbound_at _ _ _) (Nat.zero_le _) (by omega)
  refine oP_mk e26 ?_
  rw [List.drop_zero] at r26
  obtain ⟨v27,h6,e27,n6,H6,s6⟩:=H5.appR 1 rfl (by_:=8) r26 (by decide) (by decide) (by simp;omega)
  have e27' : happend 3 1 8 v14 v26 h5=some (.val v27 h6):=e27
  rw [e27',valP_some]
  refine key F h6 v27 _ s6 H6 ?_
  rw [uses_eq,if_pos c20]
  congr 1
  rcases Nat.eq_zero_or_pos x.args.length with e | e
  ·rw [List.eq_nil_of_length_eq_zero e];rfl
  ·rw [Nat.min_eq_left e]
 refine st_eq (if_f (by omega) ?_)
 by_cases c21:x.op=21
 ·have hl:=hl (.inl c21)
  refine st_eq (if_t (by omega) ?_)
  refine oP_mk (pFA_ptr _ _ _) (oP_mk (H5.ld 2 rfl rfl) ?_)
  obtain ⟨v27,h6,e27,n6,H6,s6⟩:=H5.appR 1 rfl (by_:=8) ha5 (by decide) (by decide) (by simp;omega)
  have e27' : happend 3 1 8 v14 wa h5=some (.val v27 h6):=e27
  rw [e27',valP_some]
  refine key F h6 v27 _ s6 H6 ?_
  rw [uses_eq,if_neg c20,if_pos c21]
 ·refine st_eq (if_f (by omega) ?_)
  refine key F h5 v14 _ (Sn.refl _ _) H5 ?_
  rw [uses_eq,if_neg c20,if_neg c21,List.append_nil]
def two2 (op:Nat):Bool:=two op&&op != 20
theorem ct_refUses (H0:Hold F h cs){x:Vl}{wa:V}(ha:SlR eN F h x.args wa)(H:∀F' h' v,Sn F h F' h'→Hold F' h' cs→SlR eN F' h' (uses x) v→Q v h'):cP CS n_turnstoneref14_Uses [.agg (vlC x wa)] h Q:=by
 refine c_turnstoneref14_Uses rfl rfl ?_
 unfold B_turnstoneref14_Uses
 have o1:allOne (vlC x wa)=true:=by simp only [vlC,allOne_cons,ha.one];rfl
 rw [hbox_of o1,alP_some]
 obtain ⟨H1,s1⟩:=H0.newC tyVal (vlC x wa)
 have H1:Hold F (h.new (.cells 39 1 true false (vlC x wa))) (cellP h.next tyVal (vlC x wa)::cs):=H1
 have s1:Sn F h F (h.new (.cells 39 1 true false (vlC x wa))):=s1
 generalize h.new (.cells 39 1 true false (vlC x wa))=h1 at *
 have ha1:=ha.keep s1.keep
 have fin:∀(xs:List Nat),xs=uses x→Q (.slice h1.next 0 xs.length) (h1.new (.cells 3 1 true false (nats xs))):=by
  intro xs e
  obtain ⟨H2,s2,r2⟩:=H1.newF (E:=eN) (n:=xs.length) tyInt rfl (win_nats F h1 xs) false
  have:=H _ _ _ (s1.trans s2) H2.tail (by rw [←e];exact r2)
  exact this
 have r9:∀b:Bool,(b=true→oneP x.op=true∧two2 x.op≠true)→(b=false→oneP x.op≠true∧two2 x.op≠true)→J_turnstoneref14_Uses_R9 CS Q (.ptr h.next 0) (.int .i64 (x.op:Nat)) (.bool b) h1:=by
  intro b h1' h2
  refine j_turnstoneref14_Uses_R9 ?_
  unfold B_turnstoneref14_Uses_R9
  rw [bP_bool]
  cases b with
  | true =>
    rw [if_pos rfl]
    obtain ⟨a1, a2⟩ := h1' rfl
    refine oP_mk (pFA_ptr _ _ _) (oP_mk (H1.ld 0 rfl rfl) ?_)
    rw [show pBS 3 1 1 (V.int .i64 0) [(0, V.int .i64 (x.a : Nat))] = some (.cells 3 1 true false (nats [x.a]), fun l => .slice l 0 1) from rfl, alP_some]
    refine fin [x.a] ?_
    unfold two2 at a2
    unfold oneP at a1
    unfold uses two oneP
    simp only [Bool.or_eq_true, beq_iff_eq] at a1
    rcases a1 with ((((e | e) | e) | e) | e) | e <;> rw [e] <;> rfl
  | false =>
    rw [if_neg (by simp)]
    obtain ⟨a1, a2⟩ := h2 rfl
    by_cases c20 : x.op = 20
    · refine st_eq (if_t (by omega) ?_)
      refine oP_mk (pFA_ptr _ _ _) (oP_mk (H1.ld 0 rfl rfl) (oP_mk ha1.len ?_))
      have eu : uses x = x.a :: x.b :: x.args.take 1 := by unfold uses; rw [c20]; rfl
      by_cases c0 : x.args.length = 0
      · refine st_eq (if_t (by omega) ?_)
        refine oP_mk (pFA_ptr _ _ _) (oP_mk (H1.ld 0 rfl rfl) (oP_mk (pFA_ptr _ _ _) (oP_mk (H1.ld 0 rfl rfl) ?_)))
        rw [nx2, alP_some]
        refine fin [x.a, x.b] ?_
        rw [eu, List.eq_nil_of_length_eq_zero c0]; rfl
      · refine st_eq (if_f (by omega) ?_)
        obtain ⟨l, o, hl, i1, i2⟩ := ha1.nat (i := 0) (List.getElem?_eq_getElem (by omega)) .i64
        refine oP_mk (pFA_ptr _ _ _) (oP_mk (H1.ld 0 rfl rfl) (oP_mk (pFA_ptr _ _ _) (oP_mk (H1.ld 0 rfl rfl) (oP_mk (pFA_ptr _ _ _) (oP_mk (H1.ld 0 rfl rfl) (oP_mk i1 (oP_mk i2 ?_)))))))
        rw [show pBS 3 1 3 (V.int .i64 0) [(0, V.int .i64 (x.a : Nat)), (1, V.int .i64 (x.b : Nat)), (2, V.int .i64 (x.args[0] : Nat))] = some (.cells 3 1 true false (nats [x.a, x.b, x.args[0]]), fun l => .slice l 0 3) from rfl, alO_some]
        obtain ⟨H2, s2⟩ := H1.grow (Chg.new h1 (.cells 3 1 true false (nats [x.a, x.b, x.args[0]])))
        refine ⟨⟨get_new_self _ _, O.beq_cells _ _ _ _ _⟩, pLd_keep i2 (get_new_lt _ (H1.fl _ hl)), H2.ld 0 rfl rfl, H2.ld 0 rfl rfl, H2.ld 0 rfl rfl, fin [x.a, x.b, x.args[0]] ?_⟩
        rw [eu, take1 (show 0 < x.args.length by omega)]
    refine st_eq (if_f (by omega) ?_)
    by_cases c21 : x.op = 21
    · refine st_eq (if_t (by omega) ?_)
      refine oP_mk (pFA_ptr _ _ _) (oP_mk (H1.ld 0 rfl rfl) ?_)
      refine H _ _ _ s1 H1.tail ?_
      have : uses x = x.args := by unfold uses; rw [if_pos c21]
      rw [this]; exact ha1
    · refine st_eq (if_f (by omega) ?_)
      refine H _ _ _ s1 H1.tail ?_
      have : uses x = [] := by
        unfold uses
        rw [if_neg c21, if_neg c20, if_neg, if_neg a1]
        intro e
        apply a2
        unfold two2
        rw [e]
        simpa using c20
      rw [this]; exact .nil
 have r4:∀b:Bool,b=two2 x.op→J_turnstoneref14_Uses_R4 CS Q (.ptr h.next 0) (.int .i64 (x.op:Nat)) (.bool b) h1:=by
  intro b hb
  refine j_turnstoneref14_Uses_R4 ?_
  unfold B_turnstoneref14_Uses_R4
  rw [bP_bool]
  cases b with
  | true =>
    rw [if_pos rfl]
    refine oP_mk (pFA_ptr _ _ _) (oP_mk (H1.ld 0 rfl rfl) (oP_mk (pFA_ptr _ _ _) (oP_mk (H1.ld 0 rfl rfl) ?_)))
    rw [nx2, alP_some]
    refine fin [x.a, x.b] ?_
    unfold two2 at hb
    have hb := hb.symm
    rw [Bool.and_eq_true, bne_iff_ne] at hb
    unfold uses
    rw [if_neg, if_neg hb.2, if_pos hb.1]
    intro e
    rw [e] at hb
    exact absurd hb.1 (by decide)
  | false =>
    have hn : two2 x.op ≠ true := by rw [← hb]; simp
    rw [if_neg (by simp)]
    refine st_eqv ?_
    rw [bP_bool]; split
    · rename_i e; refine r9 _ (fun _ => ⟨?_, hn⟩) fun h => absurd (h.symm.trans e) (by simp)
      have : x.op = 8 := by simp at e; omega
      rw [this]; rfl
    rename_i g0
    have g0 : x.op ≠ 8 := fun e => g0 (by rw [e]; rfl)
    refine st_eqv ?_
    rw [bP_bool]; split
    · rename_i e; refine r9 _ (fun _ => ⟨?_, hn⟩) fun h => absurd (h.symm.trans e) (by simp)
      have : x.op = 9 := by simp at e; omega
      rw [this]; rfl
    rename_i g1
    have g1 : x.op ≠ 9 := fun e => g1 (by rw [e]; rfl)
    refine st_eqv ?_
    rw [bP_bool]; split
    · rename_i e; refine r9 _ (fun _ => ⟨?_, hn⟩) fun h => absurd (h.symm.trans e) (by simp)
      have : x.op = 15 := by simp at e; omega
      rw [this]; rfl
    rename_i g2
    have g2 : x.op ≠ 15 := fun e => g2 (by rw [e]; rfl)
    refine st_eqv ?_
    rw [bP_bool]; split
    · rename_i e; refine r9 _ (fun _ => ⟨?_, hn⟩) fun h => absurd (h.symm.trans e) (by simp)
      have : x.op = 16 := by simp at e; omega
      rw [this]; rfl
    rename_i g3
    have g3 : x.op ≠ 16 := fun e => g3 (by rw [e]; rfl)
    refine st_eqv ?_
    rw [bP_bool]; split
    · rename_i e; refine r9 _ (fun _ => ⟨?_, hn⟩) fun h => absurd (h.symm.trans e) (by simp)
      have : x.op = 17 := by simp at e; omega
      rw [this]; rfl
    rename_i g4
    have g4 : x.op ≠ 17 := fun e => g4 (by rw [e]; rfl)
    refine st_eqv ?_
    refine r9 _ (fun e => ⟨?_, hn⟩) fun e => ⟨?_, hn⟩
    · have : x.op = 22 := by simp at e; omega
      rw [this]; rfl
    · have e := of_decide_eq_false e
      intro hq
      unfold oneP at hq
      simp only [Bool.or_eq_true, beq_iff_eq] at hq
      omega
 have tw:∀n:Nat,(x.op:Int)=n→(two2 n=true)→two2 x.op=true:=fun n e h=>by
  have:x.op=n:=by omega
  rw [this];exact h
 refine oP_mk (pFA_ptr _ _ _) (oP_mk (H1.ld 0 rfl rfl) ?_)
 refine st_eqv ?_
 rw [bP_bool];split
 ·rename_i e;exact r4 _ (e.trans (tw 3 (by simpa using e) rfl).symm)
 rename_i f0
 refine st_eqv ?_
 rw [bP_bool];split
 ·rename_i e;exact r4 _ (e.trans (tw 4 (by simpa using e) rfl).symm)
 rename_i f1
 refine st_eqv ?_
 rw [bP_bool];split
 ·rename_i e;exact r4 _ (e.trans (tw 5 (by simpa using e) rfl).symm)
 rename_i f2
 refine st_eqv ?_
 rw [bP_bool];split
 ·rename_i e;exact r4 _ (e.trans (tw 6 (by simpa using e) rfl).symm)
 rename_i f3
 refine st_eqv ?_
 rw [bP_bool];split
 ·rename_i e;exact r4 _ (e.trans (tw 7 (by simpa using e) rfl).symm)
 rename_i f4
 refine st_eqv ?_
 rw [bP_bool];split
 ·rename_i e;exact r4 _ (e.trans (tw 10 (by simpa using e) rfl).symm)
 rename_i f5
 refine st_eqv ?_
 rw [bP_bool];split
 ·rename_i e;exact r4 _ (e.trans (tw 11 (by simpa using e) rfl).symm)
 rename_i f6
 refine st_eqv ?_
 rw [bP_bool];split
 ·rename_i e;exact r4 _ (e.trans (tw 12 (by simpa using e) rfl).symm)
 rename_i f7
 refine st_eqv ?_
 rw [bP_bool];split
 ·rename_i e;exact r4 _ (e.trans (tw 13 (by simpa using e) rfl).symm)
 rename_i f8
 refine st_eqv ?_
 rw [bP_bool];split
 ·rename_i e;exact r4 _ (e.trans (tw 14 (by simpa using e) rfl).symm)
 rename_i f9
 refine st_eqv ?_
 rw [bP_bool];split
 ·rename_i e;exact r4 _ (e.trans (tw 18 (by simpa using e) rfl).symm)
 rename_i f10
 refine st_eqv (r4 _ ?_)
 rw [Bool.eq_iff_iff]
 unfold two2 two
 simp only [decide_eq_true_eq,Bool.or_eq_true,Bool.and_eq_true,beq_iff_eq,bne_iff_ne]
 constructor
 ·intro e;omega
 ·intro e
  have q:∀n:Nat,¬decide ((x.op:Int)=(n:Nat))=true→x.op≠n:=fun n h e=>h (by rw [e];simp)
  have k0:=q 3 f0
  have k1:=q 4 f1
  have k2:=q 5 f2
  have k3:=q 6 f3
  have k4:=q 7 f4
  have k5:=q 10 f5
  have k6:=q 11 f6
  have k7:=q 12 f7
  have k8:=q 13 f8
  have k9:=q 14 f9
  have k10:=q 18 f10
  omega
end
end Go.Proofs.YtiepamfpilhcjaaDoor.Hx
namespace Go.Proofs.YtiepamfpilhcjaaDoor.Hx
open Go.Proofs.YtiepamfpilhcjaaDoor.Un
theorem gd_ff {X:Option V}{K:V→Prop}(h:oP X K):oP (pGd false (.bool false)) fun b=>oP (gV b X) K:=h
theorem gd_tt {X:Option V}{K:V→Prop}(h:oP X K):oP (pGd true (.bool true)) fun b=>oP (gV b X) K:=h
theorem gd_tf {X:Option V}{K:V→Prop}(h:K .undef):oP (pGd true (.bool false)) fun b=>oP (gV b X) K:=h
theorem gc_ff {C:Cfg}{f:Nat}{al:List V}{h:Hp}{K:QP1}(H:cP C f al h K):oP (pGd false (.bool false)) fun b=>oP (gC b (some (f,al))) fun y=>cgP C y h K:=H
theorem gc_tt {C:Cfg}{f:Nat}{al:List V}{h:Hp}{K:QP1}(H:cP C f al h K):oP (pGd true (.bool true)) fun b=>oP (gC b (some (f,al))) fun y=>cgP C y h K:=H
theorem gc_tf {C:Cfg}{f:Nat}{al:List V}{h:Hp}{K:QP1}(H:K .undef h):oP (pGd true (.bool false)) fun b=>oP (gC b (some (f,al))) fun y=>cgP C y h K:=H
theorem st_not {b:Bool}{A B:Prop}(h:if b=true then B else A):oP (hun .not (.bool b)) fun v=>bP v A B:=by
 cases b <;> exact h
theorem st_notv {b:Bool}{K:V→Prop}(h:K (.bool (!b))):oP (hun .not (.bool b)) K:=h
section
variable {F F' : Nat→Prop} {h h' : Hp} {cs:List Pc} {Q:QP1} {u:U} {vv vb vs:V}
theorem st_copy {T n:Nat}{zs ws:List V}{K:QP1}(H:Hold F h cs)(hz:zs.length=n)(hw:ws.length=n)(h1:allOne ws=true)(HK:∀h2,Hold F h2 (cellP h.next T ws::cs)→Sn F h F h2→K (.ptr h.next 0) h2) :
  alP (some (O.cells T 1 true false zs,fun l=>V.ptr l 0)) h fun v h1=>valP (pSt n v (.agg ws) h1) fun _ h2=>K v h2:=by
 rw [alP_some]
 obtain ⟨H1,s1⟩:=H.newC T zs
 obtain ⟨h2,e2,_,H2,s2⟩:=H1.stA 0 rfl hw hz h1
 rw [e2,valP_some]
 exact HK h2 H2 (s1.trans s2)
theorem st_box {T:Nat}{ws:List V}{K:QP1}(H:Hold F h cs)(h1:allOne ws=true)(HK:∀h2,Hold F h2 (cellP h.next T ws::cs)→Sn F h F h2→K (.ptr h.next 0) h2):alP (hbox T (.agg ws)) h K:=by
 rw [hbox_of h1,alP_some]
 obtain ⟨H1,s1⟩:=H.newC T ws
 exact HK _ H1 s1
theorem st_row {T:Nat}(xs:List Nat){ps:Option (O×(Nat→V))}(hx:ps=some (O.cells T 1 true false (nats xs),fun l=> .slice l 0 xs.length)){K:QP1}(H:Hold F h cs)
  (HK:∀F' h2 v,Hold F' h2 cs→Sn F h F' h2→SlR eN F' h2 xs v→K v h2):alP ps h K:=by
 subst hx
 rw [alP_some]
 obtain ⟨H1,s1,r1⟩:=H.newF (E:=eN) T rfl (win_nats F h xs) false
 exact HK _ _ _ H1 s1 r1
theorem pBS_nat {T:Nat}(x:Nat):pBS T 1 1 (V.int .i64 0) [(0,V.int .i64 (x:Nat))]=some (.cells T 1 true false (nats [x]),fun l=> .slice l 0 1):=rfl
structure Ck (F:Nat→Prop) (h:Hp) (cs:List Pc) (lc:Nat) (u:U) (vv vb vs bl pl idm:V):Prop where
 H:Hold F h cs
 c:∃(i ty:Nat),cs[i]? = some (cellP lc ty [.int .i64 u.func, .int .i64 u.pc,vv,vb,vs,bl,pl,idm])
 u:URd F h u vv vb vs
variable {lc:Nat} {bl pl idm:V}
theorem Ck.since (C:Ck F h cs lc u vv vb vs bl pl idm)(s:Sn F h F' h') (H' : Hold F' h' cs):Ck F' h' cs lc u vv vb vs bl pl idm:=⟨H',C.c,C.u.since s⟩
theorem Ck.cons (C:Ck F h cs lc u vv vb vs bl pl idm)(s:Sn F h F' h'){p:Pc} (H' : Hold F' h' (p::cs)):Ck F' h' (p::cs) lc u vv vb vs bl pl idm:=
 ⟨H',let ⟨i,ty,hc⟩:=C.c;⟨i+1,ty,hc⟩,C.u.since s⟩
theorem Ck.ld (C:Ck F h cs lc u vv vb vs bl pl idm)(o:Nat){y:V}(hy:[.int .i64 u.func, .int .i64 u.pc,vv,vb,vs,bl,pl,idm][o]? = some y):pLd (.ptr lc o) h=some y:=
 let ⟨i,_,hc⟩:=C.c;C.H.ld i hc hy
theorem ct_all {a0 fv:V}{n:Nat}(hn:n<1000000)(P:(Nat→Prop)→Hp→Prop)(h0:P F h)
  (step:∀i,i<n→∀F' h',P F' h'→∀Q' : V→Hp→Prop,(∀F'' h'',P F'' h''→Q' (.bool true) h'')→calP CS (hcall fv [.int .i64 (i:Nat)]) h' Q') (H:∀F' h',P F' h'→Q (.bool true) h') :
  cP CS n_ssa_checker_all [a0, .int .i64 (n:Nat),fv] h Q:=by
 refine c_ssa_checker_all rfl rfl ?_
 unfold B_ssa_checker_all
 refine l_ssa_checker_all_L0 (fun k x1 x2 x7 h'=>∃(F' : Nat→Prop) (i:Nat),x1 = .int .i64 (n:Nat)∧x2=fv∧x7 = .int .i64 (i:Nat)∧i+k=n∧P F' h') ?_ (k:=n) ⟨F,0,rfl,rfl,rfl,by omega,h0⟩
 rintro k x1 x2 x7 h' ⟨F',i,rfl,rfl,rfl,hk,hp⟩
 unfold B_ssa_checker_all_L0
 by_cases hi:i<n
 ·refine st_lt (if_t (by omega) ?_)
  refine step i hi F' h' hp _ fun F'' h'' hp'=>?_
  refine st_not (if_t rfl ?_)
  exact st_add (m:=1) (by omega) (by omega) ⟨k - 1,by omega,F'',i+1,rfl,rfl,rfl,by omega,hp'⟩
 ·exact st_lt (if_f (by omega) (H F' h' hp))
theorem ck_there (C:Ck F h cs lc u vv vb vs bl pl idm){l:List Nat}{v:V}(hl:SlR eN F h l v)(hn:l.length<1000000)(hg:∀w∈l,Gives u w)(H:Q (.bool true) h):cP CS n_ssa_checker_there [.ptr lc 0,v] h Q:=by
 refine c_ssa_checker_there rfl rfl ?_
 unfold B_ssa_checker_there
 refine oP_mk hl.len ?_
 refine l_ssa_checker_there_L0 (fun k x0 x7 x8 x9 h'=>∃i:Nat,x0 = .ptr lc 0∧x7=v∧x8 = .int .i64 (l.length:Nat)∧x9 = .int .i64 (i:Nat)∧i+k=l.length∧h' = h) ?_ (k:=l.length) ⟨0,rfl,rfl,rfl,rfl,by omega,rfl⟩
 rintro k x0 x7 x8 x9 h' ⟨i,rfl,rfl,rfl,rfl,hk,rfl⟩
 unfold B_ssa_checker_there_L0
 by_cases hi:i<l.length
 ·refine st_lt (if_t (by omega) ?_)
  obtain ⟨l1,o1,_,i1,i2⟩:=hl.nat (List.getElem?_eq_getElem hi) .i64
  obtain ⟨x,hx,gx⟩:=hg _ (List.getElem_mem hi)
  have hlt:=(List.getElem?_eq_some_iff.1 hx).1
  refine oP_mk i1 (oP_mk i2 (oP_mk (pNil_ptr _ _) (oP_mk (pFA_ptr _ _ _) (oP_mk (pFA_ptr _ _ _) (oP_mk (C.ld 2 rfl) (oP_mk C.u.v.len ?_))))))
  refine ct_below (st_not (if_t (by simpa using hlt) ?_))
  obtain ⟨l2,o2,w2,_,j1,_,_,j2⟩:=C.u.val hx
  refine oP_mk (pNil_ptr _ _) (oP_mk (pFA_ptr _ _ _) (oP_mk (pFA_ptr _ _ _) (oP_mk (C.ld 2 rfl) (oP_mk j1 (oP_mk (pFA_ptr _ _ _) (oP_mk j2.op ?_))))))
  have hop:x.op<19∨x.op=21:=by
   unfold gives at gx
   simpa using gx
  refine st_eqv (st_b (if_f (by simp;omega) ?_))
  refine st_eqv (st_b (if_f (by simp;omega) ?_))
  refine st_eqv (st_b (if_f (by simp;omega) ?_))
  refine st_eqv ?_
  rw [decide_eq_false (by omega)]
  refine j_ssa_checker_there_R13 ?_
  unfold B_ssa_checker_there_R13
  refine st_b (if_f (by simp) ?_)
  exact st_add (m:=1) (by omega) (by omega) ⟨k - 1,by omega,i+1,rfl,rfl,rfl,rfl,by omega,rfl⟩
 ·exact st_lt (if_f (by omega) H)
theorem ck_state (C:Ck F h cs lc u vv vb vs bl pl idm){i:Nat}{fs:List Fm}(hs:u.states[i]? = some fs)(hf:1≤fs.length∧fs.length≤30)(hg:∀f∈fs,f.locals.length≤40∧f.stack.length≤60∧(∀v∈f.locals,Gives u v)∧∀v∈f.stack,Gives u v)
  (H:∀h',Sn F h F h'→Hold F h' cs→Q (.bool true) h'):cP CS n_ssa_checker_state [.ptr lc 0, .int .i64 (i:Nat)] h Q:=by
 refine c_ssa_checker_state rfl rfl ?_
 unfold B_ssa_checker_state
 obtain ⟨l1,o1,f,_,i1,i2,_,i4⟩:=C.u.st hs
 refine oP_mk (pNil_ptr _ _) (oP_mk (pFA_ptr _ _ _) (oP_mk (pFA_ptr _ _ _) (oP_mk (C.ld 4 rfl) (oP_mk i1 (oP_mk i2 ?_)))))
 refine st_copy C.H rfl rfl (by simp [i4.one]) fun h2 H2 s2=>?_
 have r2:=i4.since s2
 refine oP_mk (pFA_ptr _ _ _) (oP_mk (H2.ld 0 rfl rfl) (oP_mk r2.len (st_eqv ?_)))
 rw [decide_eq_false (by omega),pOr_false,pFA_ptr,oB_some',H2.ld 0 (o:=0+0) rfl rfl,oB_some',r2.len,oB_some',hbin_gtr]
 refine oP_mk rfl (st_b (if_f (by simp;omega) ?_))
 refine oP_mk (pFA_ptr _ _ _) (oP_mk (H2.ld 0 rfl rfl) (oP_mk r2.len ?_))
 have C2:=C.since s2 H2.tail
 refine l_ssa_checker_state_L0 (fun k x0 x27 x28 x29 h'=>∃j:Nat,x0 = .ptr lc 0∧x27=f∧x28 = .int .i64 (fs.length:Nat)∧x29 = .int .i64 (j:Nat)∧j+k=fs.length∧Sn F h F h'∧Ck F h' cs lc u vv vb vs bl pl idm) ?_ (k:=fs.length)
  ⟨0,rfl,rfl,rfl,rfl,by omega,s2,C2⟩
 rintro k x0 x27 x28 x29 h' ⟨j,rfl,rfl,rfl,rfl,hk,s',C'⟩
 unfold B_ssa_checker_state_L0
 by_cases hj:j<fs.length
 ·refine st_lt (if_t (by omega) ?_)
  obtain ⟨l3,o3,a,b,_,j1,j2,ja,jb⟩:=(i4.since s').frm (List.getElem?_eq_getElem hj)
  refine oP_mk j1 (oP_mk j2 ?_)
  obtain ⟨g1,g2,g3,g4⟩:=hg _ (List.getElem_mem hj)
  refine st_copy C'.H rfl rfl (by simp only [fmC,allOne_cons,ja.one,jb.one];rfl) fun h3 H3 s3=>?_
  have ja:=ja.since s3
  have jb:=jb.since s3
  have C3:=C'.since s3 H3.tail
  refine oP_mk (pFA_ptr _ _ _) (oP_mk (H3.ld 0 rfl rfl) (oP_mk ja.len ?_))
  refine oP_mk (hbin_gtr _ _ _ _) ?_
  rw [decide_eq_false (by omega),pOr_false,pFA_ptr,oB_some',H3.ld 0 (o:=0+3) rfl rfl,oB_some',jb.len,oB_some',hbin_gtr,decide_eq_false (by omega)]
  refine oP_mk rfl (gd_ff (oP_mk rfl (gd_ff (oP_mk (pFA_ptr _ _ _) (gd_ff (oP_mk (H3.ld 0 rfl rfl) (gc_ff ?_)))))))
  refine ck_there C3 ja (by omega) g3 (oP_mk rfl (gd_ff (oP_mk rfl (gd_ff (oP_mk (pFA_ptr _ _ _) (gd_ff (oP_mk (H3.ld 0 rfl rfl) (gc_ff ?_))))))))
  refine ck_there C3 jb (by omega) g4 (oP_mk rfl (st_b (if_f (by simp) ?_)))
  exact st_add (m:=1) (by omega) (by omega) ⟨k - 1,by omega,j+1,rfl,rfl,rfl,rfl,by omega,s'.trans s3,C3⟩
 ·exact st_lt (if_f (by omega) (H h' s' C'.H))
end
end Go.Proofs.YtiepamfpilhcjaaDoor.Hx
