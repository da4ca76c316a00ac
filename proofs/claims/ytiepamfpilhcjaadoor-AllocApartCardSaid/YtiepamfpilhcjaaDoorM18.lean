/- Parts of the proof. -/
import Derived.Test.YtiepamfpilhcjaaDoorM09
import Derived.Test.YtiepamfpilhcjaaDoorM13
namespace Go.Proofs.YtiepamfpilhcjaaDoor.Hx
open Go.Proofs.YtiepamfpilhcjaaDoor.Un
def eN:Enc Nat where
 sz:=1
 rel _ _ n cs:=cs=[.int .i64 (n:Nat)]
 len h:=by subst h;rfl
 one h:=by subst h;rfl
 keep _ h:=h
 mono _ h:=h
def vlC (x:Vl)(w:V):List V:=[.int .i64 (x.op:Nat), .int .i64 (x.a:Nat), .int .i64 (x.b:Nat), .int .i64 x.n,w, .int .i64 (x.state:Nat)]
def eV:Enc Vl where
 sz:=6
 rel F h x cs:=∃w,cs=vlC x w∧SlR eN F h x.args w
 len:=fun ⟨_,h,_⟩=>by subst h;rfl
 one:=fun ⟨_,h,hs⟩=>by subst h;simp only [vlC,allOne_cons,hs.one];rfl
 keep:=fun hk ⟨w,h,hs⟩=>⟨w,h,hs.keep hk⟩
 mono:=fun hb ⟨w,h,hs⟩=>⟨w,h,hs.mono hb⟩
def bkC (x:Bk)(v n p:V):List V:=[v, .int .i64 (x.fin:Nat), .int .i64 (x.cond:Nat),n,p, .int .i64 (x.state:Nat)]
def eK:Enc Bk where
 sz:=6
 rel F h x cs:=∃v n p,cs=bkC x v n p∧SlR eN F h x.vals v∧SlR eN F h x.next n∧SlR eN F h x.preds p
 len:=fun ⟨_,_,_,h,_⟩=>by subst h;rfl
 one:=fun ⟨_,_,_,h,h1,h2,h3⟩=>by subst h;simp only [bkC,allOne_cons,h1.one,h2.one,h3.one];rfl
 keep:=fun hk ⟨v,n,p,h,h1,h2,h3⟩=>⟨v,n,p,h,h1.keep hk,h2.keep hk,h3.keep hk⟩
 mono:=fun hb ⟨v,n,p,h,h1,h2,h3⟩=>⟨v,n,p,h,h1.mono hb,h2.mono hb,h3.mono hb⟩
def fmC (x:Fm)(l s:V):List V:=[.int .i64 x.func, .int .i64 x.pc,l,s]
def eF:Enc Fm where
 sz:=4
 rel F h x cs:=∃l s,cs=fmC x l s∧SlR eN F h x.locals l∧SlR eN F h x.stack s
 len:=fun ⟨_,_,h,_⟩=>by subst h;rfl
 one:=fun ⟨_,_,h,h1,h2⟩=>by subst h;simp only [fmC,allOne_cons,h1.one,h2.one];rfl
 keep:=fun hk ⟨l,s,h,h1,h2⟩=>⟨l,s,h,h1.keep hk,h2.keep hk⟩
 mono:=fun hb ⟨l,s,h,h1,h2⟩=>⟨l,s,h,h1.mono hb,h2.mono hb⟩
def eT:Enc (List Fm):=eL eF
theorem win_nats (F:Nat→Prop)(h:Hp):∀(l:List Nat),Win eN F h (l.map fun n=>V.int .i64 (n:Nat)) l
 | []=>trivial
 | n::l=>⟨[.int .i64 (n:Nat)],_,rfl,rfl,win_nats F h l⟩
def Loc (v:V)(t:Nat):Prop:=match v with
 | .slice l _ _=>l=t
 | _=>False
@[simp] theorem Loc_nil (t:Nat):Loc .nilSlice t=False:=rfl
@[simp] theorem Loc_slice (l o n t:Nat):Loc (.slice l o n) t=(l=t):=rfl
def OwnR {α:Type}(E:Enc α)(ty:Nat)(F:Nat→Prop)(h:Hp)(xs:List α)(v:V):Prop:=
 (v = .nilSlice∧xs=[])∨∃t cs,v = .slice t 0 xs.length∧t<h.next∧¬F t∧h.get t=some (.cells ty E.sz true false cs)∧Win E F h cs xs∧allOne cs=true
section
variable {α:Type} {E:Enc α} {ty:Nat} {F F' : Nat→Prop} {h h' : Hp} {xs:List α} {v:V}
theorem OwnR.nil:OwnR E ty F h [] .nilSlice:= .inl ⟨rfl,rfl⟩
theorem OwnR.len (ho:OwnR E ty F h xs v):pLen v=some (.int .i64 (xs.length:Nat)):=by
 rcases ho with ⟨rfl,rfl⟩ | ⟨t,cs,rfl,_⟩ <;> rfl
theorem OwnR.one (ho:OwnR E ty F h xs v):v.one=true:=by
 rcases ho with ⟨rfl,rfl⟩ | ⟨t,cs,rfl,_⟩ <;> rfl
noncomputable def tyAt (h:Hp) (l:Nat):Option (Nat×Nat):=match h.get l with
 | some (.cells e sz _ _ _)=>some (e,sz)
 | _=>none
theorem tyAt_of {l e sz:Nat}{a b:Bool}{cs:List V}(hg:h.get l=some (.cells e sz a b cs)):tyAt h l=some (e,sz):=by unfold tyAt;rw [hg]
theorem OwnR.tyOf (ho:OwnR E ty F h xs v){t:Nat}(ht:Loc v t):tyAt h t=some (ty,E.sz)∧t<h.next∧¬F t:=by
 rcases ho with ⟨rfl,_⟩ | ⟨t',cs,rfl,h1,h2,h3,_⟩
 ·exact ht.elim
 ·obtain rfl:t' = t:=ht
  exact ⟨tyAt_of h3,h1,h2⟩
theorem OwnR.keep (ho:OwnR E ty F h xs v)(hk:∀l,F l→h'.get l=h.get l)(hl:∀l,Loc v l→h'.get l=h.get l)(hn:h.next≤h'.next):OwnR E ty F h' xs v:=by
 rcases ho with ho | ⟨t,cs,rfl,h1,h2,h3,h4,h5⟩
 ·exact .inl ho
 ·exact .inr ⟨t,cs,rfl,Nat.lt_of_lt_of_le h1 hn,h2,by rw [hl t rfl];exact h3,h4.keep hk,h5⟩
theorem OwnR.mono (ho:OwnR E ty F h xs v)(hF:∀l,F l→F' l)(hn:∀t,Loc v t→¬F' t):OwnR E ty F' h xs v:=by
 rcases ho with ho | ⟨t,cs,rfl,h1,h2,h3,h4,h5⟩
 ·exact .inl ho
 ·exact .inr ⟨t,cs,rfl,h1,hn t rfl,h3,h4.mono hF,h5⟩
theorem OwnR.slR (ho:OwnR E ty F h xs v)(hF:∀l,F l→F' l)(hn:∀t,Loc v t→F' t):SlR E F' h xs v:=by
 rcases ho with ho | ⟨t,cs,rfl,h1,h2,h3,h4,h5⟩
 ·exact .inl ho
 ·exact .inr ⟨t,0,ty,true,false,cs,rfl,hn t rfl,h3, .inr rfl,Nat.zero_le _,by simpa using h4.mono hF⟩
theorem OwnR.read (ho:OwnR E ty F h xs v):SlR E (fun l=>F l∨Loc v l) h xs v:=ho.slR (fun _ h=> .inl h) fun _ h=> .inr h
theorem OwnR.append {by_:Nat}{x:V}{new:List V}{ys:List α}(ho:OwnR E ty F h xs v)(hx:xcells h E.sz x=some (ys.length,new))(hy:Win E F h new ys)(hl:new.length=ys.length * E.sz)(h1:allOne new=true)(hk:0<ys.length)(hz:0<E.sz)
  (hF:∀l,F l→l<h.next) (hb:(xs.length+ys.length) * by_≤70368744177664) (hb2:xs.length+ys.length≤70368744177664) :
  ∃v' h',happend ty E.sz by_ v x h=some (.val v' h')∧OwnR E ty F h' (xs++ys) v'∧Chg (Loc v) h h'∧(∀t,Loc v' t→Loc v t∨t=h.next):=by
 have hk0:Nat.beq ys.length 0=false:=by
  cases hq:ys.length with
  | zero=>omega
  | succ k=>rfl
 rcases ho with ⟨rfl,rfl⟩ | ⟨t,cs,rfl,h2,h3,h4,h5,h6⟩
 ·refine ⟨.slice h.next 0 ys.length,h.new (.cells ty E.sz true false new),?_, .inr ⟨h.next,new,by simp,Nat.lt_succ_self _,fun hf=>Nat.lt_irrefl _ (hF _ hf),get_new_self _ _,?_,h1⟩,Chg.new _ _,fun t ht=> .inr ht.symm⟩
  ·unfold happend
   simp only [hx,oB_some',hk0,h1,bB_true']
   rw [bB_of _ (Nat.ble_eq_true_of_le (by simpa using hb)),bB_of _ (Nat.ble_eq_true_of_le (by simpa using hb2))]
  ·exact hy.keep fun l hf=>get_new_lt _ (hF l hf)
 ·have hle:=h5.length
  have hmul:(xs.length+ys.length) * E.sz=xs.length * E.sz+ys.length * E.sz:=Nat.add_mul _ _ _
  cases hroom:Nat.ble (Nat.add 0 (Nat.mul (Nat.add xs.length ys.length) E.sz)) cs.length with
  | true =>
    have hr : (xs.length + ys.length) * E.sz ≤ cs.length := by
      have := Nat.le_of_ble_eq_true hroom
      show _ ≤ _
      rw [show Nat.add 0 (Nat.mul (Nat.add xs.length ys.length) E.sz) = (xs.length + ys.length) * E.sz from Nat.zero_add _] at this
      exact this
    refine ⟨.slice t 0 (xs.length + ys.length), h.put t (.cells ty E.sz true false (cs.take (xs.length * E.sz) ++ new ++ cs.drop (xs.length * E.sz + new.length))), ?_,
      .inr ⟨t, _, by simp, h2, h3, get_put_self _ h2, ?_, ?_⟩, Chg.put _ rfl h2, fun _ h => .inl h⟩
    · unfold happend cellsAt
      have hsp : splice (Nat.add 0 (Nat.mul xs.length E.sz)) cs new = some (cs.take (xs.length * E.sz) ++ new ++ cs.drop (xs.length * E.sz + new.length)) := by
        rw [show Nat.add 0 (Nat.mul xs.length E.sz) = xs.length * E.sz from Nat.zero_add _]
        exact splice_of (by rw [hl]; omega)
      simp only [hx, oB_some', hk0, h1, bB_true', h4, Bool.not_false, hroom, hsp]
      rw [bB_of _ (Nat.beq_refl _)]
      rfl
    · refine Win.keep (h := h) (fun l hf => get_put_ne _ h2 fun e => h3 (e ▸ hf)) ?_
      rw [List.append_assoc]
      exact h5.take.append (by rw [List.length_take]; omega) hy.more
    · rw [allOne_append, allOne_append, h1]
      have e1 : ∀ (l : List V), allOne l = l.all V.one := fun l => by
        induction l with
        | nil => rfl
        | cons a l ih => rw [allOne_cons, ih]; rfl
      rw [e1] at h6 ⊢
      rw [e1]
      rw [List.all_eq_true] at h6
      simp only [Bool.and_true, Bool.and_eq_true, List.all_eq_true]
      exact ⟨fun x hx => h6 x (List.mem_of_mem_take hx), fun x hx => h6 x (List.mem_of_mem_drop hx)⟩
  | false =>
    have e1 : ∀ (l : List V), allOne l = l.all V.one := fun l => by
      induction l with
      | nil => rfl
      | cons a l ih => rw [allOne_cons, ih]; rfl
    have hold : allOne (cs.take (xs.length * E.sz)) = true := by
      rw [e1] at h6 ⊢
      rw [List.all_eq_true] at h6 ⊢
      exact fun x hx => h6 x (List.mem_of_mem_take hx)
    refine ⟨.slice h.next 0 (xs.length + ys.length), (h.put t (.cells ty E.sz false false cs)).new (.cells ty E.sz true false (cs.take (xs.length * E.sz) ++ new)), ?_,
      .inr ⟨h.next, _, by simp, Nat.lt_succ_self _, fun hf => Nat.lt_irrefl _ (hF _ hf), get_new_self (h.put t _) _, ?_, by rw [allOne_append, hold, h1]; rfl⟩,
      (Chg.put (S := Loc (.slice t 0 xs.length)) (.cells ty E.sz false false cs) rfl h2).trans (Chg.new _ _), fun _ h => .inr h.symm⟩
    · unfold happend cellsAt
      have hsub : sub cs 0 (Nat.mul xs.length E.sz) = some (cs.take (xs.length * E.sz)) := by
        show sub cs 0 (xs.length * E.sz) = _
        rw [sub_of (show 0 + xs.length * E.sz ≤ cs.length by omega), List.drop_zero]
      simp only [hx, oB_some', hk0, h1, bB_true', h4, Bool.not_false, hroom, hsub, hold]
      rw [bB_of _ (Nat.beq_refl _), bB_of _ (show Nat.ble (Nat.mul (Nat.add xs.length ys.length) by_) 70368744177664 = true from Nat.ble_eq_true_of_le hb), bB_of _ (show Nat.ble (Nat.add xs.length ys.length) 70368744177664 = true from Nat.ble_eq_true_of_le hb2)]
      rfl
    · refine Win.keep (h := h) (fun l hf => ?_) ?_
      · rw [get_new_lt _ (show l < (h.put t _).next from hF l hf), get_put_ne _ h2 fun e => h3 (e ▸ hf)]
      · exact h5.take.append (by rw [List.length_take]; omega) hy
theorem OwnR.cut (ho:OwnR E ty F h xs v){n:Nat}(hn:n≤xs.length):∃v',hsliceV E.sz v none (some (.int .i64 (n:Nat))) h=some v'∧OwnR E ty F h (xs.take n) v'∧∀t,Loc v' t→Loc v t:=by
 rcases ho with ⟨rfl,rfl⟩ | ⟨t,cs,rfl,h2,h3,h4,h5,h6⟩
 ·obtain rfl:n=0:=by simpa using hn
  exact ⟨.nilSlice,rfl, .inl ⟨rfl,rfl⟩,fun _ h=>h⟩
 ·refine ⟨.slice t 0 n,?_, .inr ⟨t,cs,by rw [List.length_take,Nat.min_eq_left hn],h2,h3,h4,h5.taken n,h6⟩,fun _ h=>h⟩
  unfold hsliceV cellsAt
  simp only [h4,oB_some',hbound_none,hbound_at]
  rw [bB_of _ (Nat.beq_refl _),bB_of _ (Nat.ble_eq_true_of_le (Nat.zero_le _)),bB_of _ (by rw [Nat.ble_eq_true_of_le hn];rfl)]
  simp
theorem OwnR.store (ho:OwnR E ty F h xs v){i k:Nat}{y:α}{u:V}(hi:i<xs.length)(hk:k<E.sz)(hu:u.one=true)(hy:∀w,E.rel F h xs[i] w→E.rel F h y (w.set k u)) :
  ∃t h',Loc v t∧pIx E.sz v (.int .i64 (i:Nat))=some (.ptr t (i * E.sz))∧pSt 1 (.ptr t (i * E.sz+k)) u h=some (.val .undef h')∧OwnR E ty F h' (xs.set i y) v∧Chg (Loc v) h h':=by
 rcases ho with ⟨rfl,rfl⟩ | ⟨t,cs,rfl,h2,h3,h4,h5,h6⟩
 ·simp at hi
 ·obtain ⟨w,g1,g2,g3⟩:=h5.get (i:=i) (x:=xs[i]) (List.getElem?_eq_getElem hi)
  have hset:cs.set (i * E.sz+k) u=cs.take (i * E.sz)++w.set k u++cs.drop (i * E.sz+E.sz):=by
   have e0:cs=cs.take (i * E.sz)++(w++cs.drop (i * E.sz+E.sz)):=by
    rw [←g1]
    conv=>lhs;rw [←List.take_append_drop (i * E.sz) cs]
    congr 1
    rw [←List.drop_drop,List.take_append_drop]
   have hw:=E.len g3
   conv=>lhs;rw [e0]
   rw [List.set_append_right _ _ (by rw [List.length_take];omega),List.length_take,Nat.min_eq_left (by omega),Nat.add_sub_cancel_left,List.set_append_left _ _ (by omega),List.append_assoc]
  refine ⟨t,h.put t (.cells ty E.sz true false (cs.set (i * E.sz+k) u)),rfl,by rw [pIx_slice _ _ _ _ _ _ hi,Nat.zero_add],pSt_at h4 (by omega) hu, .inr ⟨t,_,by simp,h2,h3,get_put_self _ h2,?_,?_⟩,Chg.put _ rfl h2⟩
  ·refine Win.keep (h:=h) (fun l hf=>get_put_ne _ h2 fun e=>h3 (e▸hf)) ?_
   rw [hset]
   exact h5.set hi (hy w g3)
  ·have e1:∀(l:List V),allOne l=l.all V.one:=fun l=>by
    induction l with
    | nil=>rfl
    | cons a l ih=>rw [allOne_cons,ih];rfl
   rw [e1] at h6 ⊢
   rw [List.all_eq_true] at h6 ⊢
   intro x hx
   rcases List.mem_or_eq_of_mem_set hx with h7 | rfl
   ·exact h6 x h7
   ·exact hu
end
end Go.Proofs.YtiepamfpilhcjaaDoor.Hx
namespace Go.Proofs.YtiepamfpilhcjaaDoor.Hx
abbrev tyInt:Nat:=3
abbrev tyBool:Nat:=4
abbrev tyInts:Nat:=22
abbrev tyUnit:Nat:=29
abbrev tyVal:Nat:=39
abbrev tyBlock:Nat:=36
abbrev tyState:Nat:=60
abbrev tyRaw:Nat:=24
abbrev tyVisit:Nat:=86
abbrev tyBools:Nat:=37
abbrev tyLiver:Nat:=67
end Go.Proofs.YtiepamfpilhcjaaDoor.Hx
namespace Go.Proofs.YtiepamfpilhcjaaDoor.Hx
open Go.Proofs.YtiepamfpilhcjaaDoor.Un
structure Pc where
 foot:Nat→Prop
 ok:(Nat→Prop)→Hp→Prop
 inn:∀{F:Nat→Prop} {h:Hp},ok F h→∀l,foot l→l<h.next∧¬F l
 keep:∀{F:Nat→Prop} {h h' : Hp},ok F h→(∀l,F l→h'.get l=h.get l)→(∀l,foot l→h'.get l=h.get l)→h.next≤h'.next→ok F h'
 mono:∀{F F' : Nat→Prop} {h:Hp},ok F h→(∀l,F l→F' l)→(∀l,foot l→¬F' l)→ok F' h
def emp:Pc:=⟨fun _=>False,fun _ _=>True,fun _ _ h=>h.elim,fun _ _ _ _=>trivial,fun _ _ _=>trivial⟩
def cellP (l ty:Nat)(vs:List V):Pc where
 foot:=fun m=>m=l
 ok F h:=h.get l=some (.cells ty 1 true false vs)∧l<h.next∧¬F l
 inn:=fun h _ e=>by subst e;exact h.2
 keep:=fun h _ hl hn=>⟨(hl l rfl).trans h.1,Nat.lt_of_lt_of_le h.2.1 hn,h.2.2⟩
 mono:=fun h _ hl=>⟨h.1,h.2.1,hl l rfl⟩
def rowP {α:Type}(E:Enc α)(ty:Nat)(xs:List α)(v:V):Pc where
 foot:=Loc v
 ok F h:=OwnR E ty F h xs v
 inn:=fun h _ hl=>(h.tyOf hl).2
 keep:=fun h hF hl hn=>OwnR.keep h hF hl hn
 mono:=fun h hF hl=>OwnR.mono h hF hl
def readP {α:Type}(E:Enc α)(xs:List α)(v:V):Pc where
 foot:=fun _=>False
 ok F h:=SlR E F h xs v
 inn:=fun _ _ h=>h.elim
 keep:=fun h hF _ _=>SlR.keep hF h
 mono:=fun h hF _=>SlR.mono hF h
def valP_ {α:Type}(E:Enc α)(x:α)(w:List V):Pc where
 foot:=fun _=>False
 ok F h:=E.rel F h x w
 inn:=fun _ _ h=>h.elim
 keep:=fun h hF _ _=>E.keep hF h
 mono:=fun h hF _=>E.mono hF h
structure Sn (F:Nat→Prop) (h:Hp) (F' : Nat→Prop) (h' : Hp):Prop where
 next:h.next≤h'.next
 keep:∀l,F l→h'.get l=h.get l
 mono:∀l,F l→F' l
theorem Sn.refl (F:Nat→Prop)(h:Hp):Sn F h F h:=⟨Nat.le_refl _,fun _ _=>rfl,fun _ h=>h⟩
theorem Sn.trans {F F' F'' : Nat→Prop} {h h' h'' : Hp}(a:Sn F h F' h')(b:Sn F' h' F'' h''):Sn F h F'' h'':=
 ⟨Nat.le_trans a.next b.next,fun l hl=>(b.keep l (a.mono l hl)).trans (a.keep l hl),fun l hl=>b.mono l (a.mono l hl)⟩
structure Hold (F:Nat→Prop) (h:Hp) (cs:List Pc):Prop where
 fl:∀l,F l→l<h.next
 ok:∀(i:Nat) (c:Pc),cs[i]? = some c→c.ok F h
 dis:∀(i j:Nat) (c d:Pc),cs[i]? = some c→cs[j]? = some d→i≠j→∀l,c.foot l→¬d.foot l
section
variable {F F' : Nat→Prop} {h h' : Hp} {cs:List Pc} {i j:Nat} {c d p:Pc}
theorem set_at {cs:List Pc}{i:Nat}{p:Pc}{j:Nat}{d:Pc}(hd:(cs.set i p)[j]? = some d):(j=i∧d=p)∨(j≠i∧cs[j]? = some d):=by
 by_cases e:i=j
 ·subst e
  have hl:i<cs.length:=by
   have:=(List.getElem?_eq_some_iff.1 hd).1
   simpa using this
  rw [List.getElem?_set_self hl] at hd
  exact .inl ⟨rfl,(Option.some.inj hd).symm⟩
 ·rw [List.getElem?_set_ne e] at hd
  exact .inr ⟨fun e2=>e e2.symm,hd⟩
theorem Hold.nil (hfl:∀l,F l→l<h.next):Hold F h []:=⟨hfl,fun _ _ h=>by simp at h,fun _ _ _ _ h=>by simp at h⟩
theorem Hold.cons (H:Hold F h cs)(ho:p.ok F h)(hp:∀(i:Nat) c,cs[i]? = some c→∀l,p.foot l→¬c.foot l):Hold F h (p::cs) where
 fl:=H.fl
 ok:=fun i c hc=>by
  cases i with
  | zero=>cases hc;exact ho
  | succ i=>exact H.ok i c hc
 dis:=fun i j c d hc hd hn l hl hl'=>by
  cases i with
  | zero =>
    cases hc
    cases j with
    | zero => exact hn rfl
    | succ j => exact hp j d hd l hl hl'
  | succ i =>
    cases j with
    | zero => cases hd; exact hp i c hc l hl' hl
    | succ j => exact H.dis i j c d hc hd (fun e => hn (by rw [e])) l hl hl'
theorem Hold.tail (H:Hold F h (p::cs)):Hold F h cs where
 fl:=H.fl
 ok:=fun i c hc=>H.ok (i+1) c hc
 dis:=fun i j c d hc hd hn=>H.dis (i+1) (j+1) c d hc hd (fun e=>hn (by omega))
theorem Hold.add (H:Hold F h cs)(ho:p.ok F h)(hp:∀l,¬p.foot l):Hold F h (p::cs):=H.cons ho fun _ _ _ l hl=>(hp l hl).elim
theorem Hold.read (H:Hold F h cs){α:Type}{E:Enc α}{xs:List α}{v:V}(hs:SlR E F h xs v):Hold F h (readP E xs v::cs):=H.add hs fun _ h=>h
theorem Hold.val (H:Hold F h cs){α:Type}{E:Enc α}{x:α}{w:List V}(hs:E.rel F h x w):Hold F h (valP_ E x w::cs):=H.add hs fun _ h=>h
theorem Hold.swap (H:Hold F h cs)(hi:cs[i]? = some c)(ho:p.ok F h)(hp:∀l,p.foot l→c.foot l):Hold F h (cs.set i p) where
 fl:=H.fl
 ok:=fun j d hd=>by
  rcases set_at hd with ⟨_,rfl⟩ | ⟨_,h2⟩
  ·exact ho
  ·exact H.ok j d h2
 dis:=fun j k a b ha hb hn l hl hl'=>by
  rcases set_at ha with ⟨e1,rfl⟩ | ⟨e1,h1⟩
  ·rcases set_at hb with ⟨e2,_⟩ | ⟨_,h2⟩
   ·exact hn (e1.trans e2.symm)
   ·subst e1
    exact H.dis j k c b hi h2 hn l (hp l hl) hl'
  ·rcases set_at hb with ⟨e2,rfl⟩ | ⟨_,h2⟩
   ·subst e2
    exact H.dis j k a c h1 hi hn l hl (hp l hl')
   ·exact H.dis j k a b h1 h2 hn l hl hl'
theorem Hold.forget (H:Hold F h cs)(hi:cs[i]? = some c):Hold F h (cs.set i emp):=H.swap hi trivial fun _ h=>h.elim
theorem Hold.turn (H:Hold F h cs)(hi:cs[i]? = some c)(hc:Chg c.foot h h')(hF:∀l,F l→F' l)(hF2:∀l,F' l→F l∨c.foot l∨(h.next≤l∧l<h'.next))(ho:p.ok F' h')(hp:∀l,p.foot l→c.foot l∨h.next≤l):Hold F' h' (cs.set i p)∧Sn F h F' h':=by
 have hok:=H.ok i c hi
 have kF:∀l,F l→h'.get l=h.get l:=fun l hl=>hc.keep l (H.fl l hl) fun hs=>(c.inn hok l hs).2 hl
 have other:∀(j:Nat) (d:Pc),j≠i→cs[j]? = some d→d.ok F' h'∧∀l,d.foot l→¬p.foot l:=fun j d hj hd=>by
  have h1:=H.ok j d hd
  have h2:∀l,d.foot l→¬c.foot l:=H.dis j i d c hd hi hj
  refine ⟨d.mono (d.keep h1 kF (fun l hl=>hc.keep l (d.inn h1 l hl).1 (h2 l hl)) hc.next) hF fun l hl hl'=>?_,fun l hl hl'=>?_⟩
  ·rcases hF2 l hl' with h3 | h3 | h3
   ·exact (d.inn h1 l hl).2 h3
   ·exact h2 l hl h3
   ·have:=(d.inn h1 l hl).1;omega
  ·rcases hp l hl' with h3 | h3
   ·exact h2 l hl h3
   ·have:=(d.inn h1 l hl).1;omega
 refine ⟨⟨fun l hl=>?_,fun j d hd=>?_,fun j k a b ha hb hn l hl hl'=>?_⟩,⟨hc.next,kF,hF⟩⟩
 ·rcases hF2 l hl with h3 | h3 | h3
  ·exact Nat.lt_of_lt_of_le (H.fl l h3) hc.next
  ·exact Nat.lt_of_lt_of_le (c.inn hok l h3).1 hc.next
  ·exact h3.2
 ·rcases set_at hd with ⟨_,rfl⟩ | ⟨h1,h2⟩
  ·exact ho
  ·exact (other j d h1 h2).1
 ·rcases set_at ha with ⟨e1,rfl⟩ | ⟨e1,h1⟩
  ·rcases set_at hb with ⟨e2,_⟩ | ⟨e2,h2⟩
   ·exact hn (e1.trans e2.symm)
   ·exact (other k b e2 h2).2 l hl' hl
  ·rcases set_at hb with ⟨e2,rfl⟩ | ⟨_,h2⟩
   ·exact (other j a e1 h1).2 l hl hl'
   ·exact H.dis j k a b h1 h2 hn l hl hl'
theorem Hold.turn' (H:Hold F h cs)(hi:cs[i]? = some c)(hc:Chg c.foot h h')(ho:p.ok F h')(hp:∀l,p.foot l→c.foot l∨h.next≤l):Hold F h' (cs.set i p)∧Sn F h F h':=
 H.turn hi hc (fun _ h=>h) (fun _ h=> .inl h) ho hp
theorem Hold.grow (H:Hold F h cs)(hg:Grows h h'):Hold F h' cs∧Sn F h F h':=by
 have kF:∀l,F l→h'.get l=h.get l:=fun l hl=>hg.keep l (H.fl l hl) id
 exact ⟨⟨fun l hl=>Nat.lt_of_lt_of_le (H.fl l hl) hg.next,fun j d hd=>d.keep (H.ok j d hd) kF (fun l hl=>hg.keep l (d.inn (H.ok j d hd) l hl).1 id) hg.next,H.dis⟩,⟨hg.next,kF,fun _ h=>h⟩⟩
theorem Hold.new (H:Hold F h cs)(o:O)(ho:p.ok F (h.new o))(hp:∀l,p.foot l→l=h.next):Hold F (h.new o) (p::cs)∧Sn F h F (h.new o):=by
 obtain ⟨h1,h2⟩:=H.grow (Chg.new h o)
 refine ⟨h1.cons ho fun j d hd l hl hl'=>?_,h2⟩
 have:=(d.inn (H.ok j d hd) l hl').1
 have:=hp l hl
 omega
theorem Hold.fresh (H:Hold F h cs):¬F h.next:=fun hf=>Nat.lt_irrefl _ (H.fl _ hf)
theorem Hold.newC (H:Hold F h cs)(ty:Nat)(vs:List V):Hold F (h.new (.cells ty 1 true false vs)) (cellP h.next ty vs::cs)∧Sn F h F (h.new (.cells ty 1 true false vs)):=
 H.new _ ⟨get_new_self _ _,Nat.lt_succ_self _,H.fresh⟩ fun _ e=>e
theorem Hold.newR (H:Hold F h cs){α:Type}{E:Enc α}(ty:Nat){xs:List α}{ws:List V}{n:Nat}(hn:n=xs.length)(hw:Win E F h ws xs)(h1:allOne ws=true) :
  Hold F (h.new (.cells ty E.sz true false ws)) (rowP E ty xs (.slice h.next 0 n)::cs)∧Sn F h F (h.new (.cells ty E.sz true false ws)):=by
 subst hn
 exact H.new _ (.inr ⟨h.next,ws,rfl,Nat.lt_succ_self _,H.fresh,get_new_self _ _,hw.keep fun l hl=>get_new_lt _ (H.fl l hl),h1⟩) fun _ e=>e.symm
theorem Hold.newF (H:Hold F h cs){α:Type}{E:Enc α}(ty:Nat){xs:List α}{ws:List V}{n:Nat}(hn:n=xs.length)(hw:Win E F h ws xs)(ro:Bool) :
  Hold (fun l=>F l∨l=h.next) (h.new (.cells ty E.sz true ro ws)) cs∧Sn F h (fun l=>F l∨l=h.next) (h.new (.cells ty E.sz true ro ws))∧SlR E (fun l=>F l∨l=h.next) (h.new (.cells ty E.sz true ro ws)) xs (.slice h.next 0 n):=by
 subst hn
 obtain ⟨h1,h2⟩:=H.grow (Chg.new h (.cells ty E.sz true ro ws))
 refine ⟨⟨fun l hl=>?_,fun j d hd=>d.mono (h1.ok j d hd) (fun _ h=> .inl h) fun l hl hl'=>?_,h1.dis⟩,⟨h2.next,h2.keep,fun _ h=> .inl h⟩,?_⟩
 ·rcases hl with hl | rfl
  ·exact h1.fl l hl
  ·exact Nat.lt_succ_self _
 ·have h3:=d.inn (H.ok j d hd) l hl
  rcases hl' with h4 | rfl
  ·exact h3.2 h4
  ·exact Nat.lt_irrefl _ h3.1
 ·exact .inr ⟨h.next,0,ty,true,ro,ws,rfl, .inr rfl,get_new_self _ _, .inr rfl,Nat.zero_le _,by rw [List.drop_zero];exact (hw.keep fun l hl=>get_new_lt _ (H.fl l hl)).mono fun _ h=> .inl h⟩
theorem Hold.get (H:Hold F h cs)(i:Nat){l ty:Nat}{vs:List V}(hi:cs[i]? = some (cellP l ty vs)):h.get l=some (.cells ty 1 true false vs):=(H.ok i _ hi).1
theorem Hold.ld (H:Hold F h cs)(i:Nat){l ty o:Nat}{vs:List V}{u:V}(hi:cs[i]? = some (cellP l ty vs))(hu:vs[o]? = some u):pLd (.ptr l o) h=some u:=pLd_get (H.get i hi) hu
theorem Hold.ldA (H:Hold F h cs)(i:Nat){l ty n:Nat}{vs:List V}(hi:cs[i]? = some (cellP l ty vs))(hn:vs.length=n):pLdA n (.ptr l 0) h=some (.agg vs):=pLdA_all (H.get i hi) hn
theorem Hold.st (H:Hold F h cs)(i:Nat){l ty o:Nat}{vs:List V}{u:V}(hi:cs[i]? = some (cellP l ty vs))(ho:o<vs.length)(hu:u.one=true) :
  ∃h',pSt 1 (.ptr l o) u h=some (.val .undef h')∧h.next≤h'.next∧Hold F h' (cs.set i (cellP l ty (vs.set o u)))∧Sn F h F h':=by
 have hg:=H.ok i _ hi
 refine ⟨_,pSt_at hg.1 ho hu,Nat.le_refl _,H.turn' hi (Chg.put _ rfl hg.2.1) ⟨get_put_self _ hg.2.1,hg.2.1,hg.2.2⟩ fun _ h=> .inl h⟩
theorem Hold.stk (H:Hold F h cs)(i:Nat){l ty o:Nat}{vs:List V}{u:V}(hi:cs[i]? = some (cellP l ty vs))(ho:o<vs.length)(hu:u.one=true) :
  ∃h',pSt 1 (.ptr l o) u h=some (.val .undef h')∧h.next≤h'.next∧Hold F h' (cs.set i (cellP l ty (vs.set o u)))∧Sn F h F h'∧∀m,m≠l→h'.get m=h.get m:=by
 have hg:=H.ok i _ hi
 obtain ⟨g1,g2⟩:=H.turn' (p:=cellP l ty (vs.set o u)) (h':=h.put l (.cells ty 1 true false (vs.set o u))) hi (Chg.put _ rfl hg.2.1) ⟨get_put_self _ hg.2.1,hg.2.1,hg.2.2⟩ fun _ h=> .inl h
 exact ⟨_,pSt_at hg.1 ho hu,Nat.le_refl _,g1,g2,fun m hm=>get_put_ne _ hg.2.1 fun e=>hm e.symm⟩
theorem Hold.stA (H:Hold F h cs)(i:Nat){l ty n:Nat}{vs ws:List V}(hi:cs[i]? = some (cellP l ty vs))(hn:ws.length=n)(hv:vs.length=n)(h1:allOne ws=true) :
  ∃h',pSt n (.ptr l 0) (.agg ws) h=some (.val .undef h')∧h.next≤h'.next∧Hold F h' (cs.set i (cellP l ty ws))∧Sn F h F h':=by
 have hg:=H.ok i _ hi
 refine ⟨_,pSt_all hg.1 hn hv h1,Nat.le_refl _,H.turn' hi (Chg.put _ rfl hg.2.1) ⟨get_put_self _ hg.2.1,hg.2.1,hg.2.2⟩ fun _ h=> .inl h⟩
section
variable {α:Type} {E:Enc α} {ty:Nat} {xs:List α} {v:V}
theorem Hold.row (H:Hold F h cs)(i:Nat)(hi:cs[i]? = some (rowP E ty xs v)):OwnR E ty F h xs v:=H.ok i _ hi
theorem Hold.len (H:Hold F h cs)(i:Nat)(hi:cs[i]? = some (rowP E ty xs v)):pLen v=some (.int .i64 (xs.length:Nat)):=(H.row i hi).len
theorem Hold.one (H:Hold F h cs)(i:Nat)(hi:cs[i]? = some (rowP E ty xs v)):v.one=true:=(H.row i hi).one
theorem Hold.ix (H:Hold F h cs)(i:Nat)(hi:cs[i]? = some (rowP E ty xs v)){k:Nat}(hk:k<xs.length)(kd:IntKind) :
  ∃l o w,pIx E.sz v (.int kd k)=some (.ptr l o)∧pLdA E.sz (.ptr l o) h=some (.agg w)∧E.rel (fun l=>F l∨Loc v l) h xs[k] w∧∀j u,w[j]? = some u→pLd (.ptr l (o+j)) h=some u:=by
 obtain ⟨l,o,w,_,h1,h2,h3,h4⟩:=(H.row i hi).read.ix hk kd
 exact ⟨l,o,w,h1,h2,h3,h4⟩
theorem Hold.ix1 (H:Hold F h cs)(i:Nat)(hi:cs[i]? = some (rowP E ty xs v)){k:Nat}(hk:k<xs.length)(kd:IntKind)(he:E.sz=1) :
  ∃l o u,pIx 1 v (.int kd k)=some (.ptr l o)∧pLd (.ptr l o) h=some u∧E.rel (fun l=>F l∨Loc v l) h xs[k] [u]:=by
 obtain ⟨l,o,u,_,h1,h2,h3⟩:=(H.row i hi).read.ix1 hk kd he
 exact ⟨l,o,u,h1,h2,h3⟩
theorem Hold.stR (H:Hold F h cs)(i:Nat)(hi:cs[i]? = some (rowP E ty xs v)){k:Nat}(hk:k<xs.length)(he:E.sz=1){y:α}{u:V}(hu:u.one=true)(hy:E.rel F h y [u]) :
  ∃l o h',pIx 1 v (.int .i64 (k:Nat))=some (.ptr l o)∧pSt 1 (.ptr l o) u h=some (.val .undef h')∧h.next≤h'.next∧Hold F h' (cs.set i (rowP E ty (xs.set k y) v))∧Sn F h F h':=by
 obtain ⟨t,h',h1,h2,h3,h4,h5⟩:=(H.row i hi).store (k:=0) (y:=y) (u:=u) hk (by omega) hu (fun w hw=>by
  have hl:=E.len hw
  rw [he] at hl
  match w,hl with
  | [x],_=>exact hy)
 rw [he] at h2 h3
 exact ⟨t,k * 1,h',h2,h3,h5.next,H.turn' hi h5 h4 fun _ h=> .inl h⟩
end
end
end Go.Proofs.YtiepamfpilhcjaaDoor.Hx
namespace Go.Proofs.YtiepamfpilhcjaaDoor.Hx
open Go.Proofs.YtiepamfpilhcjaaDoor.Un
section
variable {F F' : Nat→Prop} {h h' : Hp} {cs:List Pc} {α:Type} {E:Enc α} {ty:Nat} {xs ys:List α} {v x:V}
theorem Win.one:∀{xs:List α}{ws:List V},Win E F h ws xs→ws.length=xs.length * E.sz→allOne ws=true
 | [], ws, _, hl => by
   have : ws = [] := List.eq_nil_of_length_eq_zero (by simpa using hl)
   subst this; rfl
 | y :: xs, ws, ⟨w, r, h1, h2, h3⟩, hl => by
   subst h1
   have hw := E.len h2
   rw [allOne_append, E.one h2, Win.one h3 (by simp only [List.length_append, List.length_cons, Nat.add_mul, Nat.one_mul] at hl; omega)]
   rfl
theorem Win.rep {y:α}{u:V}(he:E.rel F h y [u]):∀n,Win E F h (List.replicate n u) (List.replicate n y)
 | 0=>trivial
 | n+1=>⟨[u],_,rfl,he,Win.rep he n⟩
theorem allOne_rep {u:V}(hu:u.one=true):∀n,allOne (List.replicate n u)=true
 | 0=>rfl
 | n+1=>by rw [List.replicate_succ,allOne_cons,hu,allOne_rep hu n];rfl
theorem xcells_slice {l off n ety sz:Nat}{ro:Bool}{ds:List V}(hg:h.get l=some (.cells ety sz true ro ds))(hl:off+n * sz≤ds.length):∃new,xcells h sz (.slice l off n)=some (n,new)∧new=(ds.drop off).take (n * sz):=by
 cases n with
 | zero=>exact ⟨_,rfl,by simp⟩
 | succ n =>
   refine ⟨_, ?_, rfl⟩
   unfold xcells ldAt cellsAt
   have : sub ds off (Nat.mul (Nat.succ n) sz) = some ((ds.drop off).take ((n + 1) * sz)) := sub_of hl
   simp only [hg, oB_some', bB_true', this]
theorem SlR.xc (hs:SlR E F h ys x):∃new,xcells h E.sz x=some (ys.length,new)∧Win E F h new ys∧new.length=ys.length * E.sz:=by
 rcases hs with ⟨rfl,rfl⟩ | ⟨l,off,ety,live,ro,ds,rfl,h1,h2,h3,h4,h5⟩
 ·exact ⟨[],rfl,trivial,by simp⟩
 ·have hw:=h5.length
  rw [List.length_drop] at hw
  rcases h3 with rfl | rfl
  ·exact ⟨[],rfl,trivial,by simp⟩
  ·obtain ⟨new,e1,e2⟩:=xcells_slice (n:=ys.length) (off:=off) (sz:=E.sz) h2 (by omega)
   exact ⟨new,e1,by rw [e2];exact h5.take,by rw [e2,List.length_take,List.length_drop];omega⟩
theorem OwnR.xc (hs:OwnR E ty F h ys x):∃new,xcells h E.sz x=some (ys.length,new)∧Win E F h new ys∧new.length=ys.length * E.sz:=by
 rcases hs with ⟨rfl,rfl⟩ | ⟨t,ds,rfl,h1,h2,h3,h4,h5⟩
 ·exact ⟨[],rfl,trivial,by simp⟩
 ·have hw:=h4.length
  obtain ⟨new,e1,e2⟩:=xcells_slice (n:=ys.length) (off:=0) (sz:=E.sz) h3 (by omega)
  refine ⟨new,e1,by rw [e2,List.drop_zero];exact h4.take,by rw [e2,List.length_take,List.length_drop];omega⟩
theorem pBS_one {e:Nat}{z w:V}(hz:z.one=true)(h1:w.one=true):pBS e 1 1 z [(0,w)]=some (.cells e 1 true false [w],fun l=> .slice l 0 1):=by
 unfold pBS
 simp only [fillV,oB_some',cells_one hz,cells_one h1,repl,List.append_nil]
 rw [bB_of _ (by rfl)]
 show oB (oB (some [w]) fun cs=>some cs) _=_
 simp only [oB_some',allOne_cons,h1,allOne_nil]
 rfl
theorem pBS_zero {e sz:Nat}{z:V} : pBS e sz 0 z []=some (.cells e sz true false [],fun l=> .slice l 0 0):=rfl
theorem Hold.app (H:Hold F h cs)(i:Nat)(hi:cs[i]? = some (rowP E ty xs v)){by_:Nat}{new:List V}(hx:xcells h E.sz x=some (ys.length,new))(hy:Win E F h new ys)(hl:new.length=ys.length * E.sz)
  (hz:0<E.sz) (hb:by_≤1000) (hb2:xs.length+ys.length≤10000000) :
  ∃v' h',happend ty E.sz by_ v x h=some (.val v' h')∧h.next≤h'.next∧Hold F h' (cs.set i (rowP E ty (xs++ys) v'))∧Sn F h F h':=by
 have hO:=H.row i hi
 by_cases hk:0<ys.length
 ·have hb3:(xs.length+ys.length) * by_≤10000000 * 1000:=Nat.mul_le_mul hb2 hb
  obtain ⟨v',h',e1,o1,c1,l1⟩:=hO.append (by_:=by_) hx hy hl (hy.one hl) hk hz H.fl (by omega) (by omega)
  obtain ⟨g1,g2⟩:=H.turn' (p:=rowP E ty (xs++ys) v') hi c1 o1 fun l hl=>(l1 l hl).imp id fun e=>by omega
  exact ⟨v',h',e1,c1.next,g1,g2⟩
 ·have e0:ys=[]:=List.eq_nil_of_length_eq_zero (by omega)
  subst e0
  refine ⟨v,h,?_,Nat.le_refl _,by rw [List.append_nil];exact H.swap hi hO fun _ h=>h,Sn.refl _ _⟩
  unfold happend
  rw [hx]
  rcases hO with ⟨rfl,_⟩ | ⟨t,ds,rfl,_⟩ <;> rfl
theorem Hold.appR (H:Hold F h cs)(i:Nat)(hi:cs[i]? = some (rowP E ty xs v)){by_:Nat}(hs:SlR E F h ys x)(hz:0<E.sz)(hb:by_≤1000)(hb2:xs.length+ys.length≤10000000) :
  ∃v' h',happend ty E.sz by_ v x h=some (.val v' h')∧h.next≤h'.next∧Hold F h' (cs.set i (rowP E ty (xs++ys) v'))∧Sn F h F h':=by
 obtain ⟨new,e1,e2,e3⟩:=hs.xc
 exact H.app i hi e1 e2 e3 hz hb hb2
theorem Hold.appO (H:Hold F h cs)(i j:Nat)(hi:cs[i]? = some (rowP E ty xs v)){tj:Nat}(hj:cs[j]? = some (rowP E tj ys x)){by_:Nat}(hz:0<E.sz)(hb:by_≤1000)(hb2:xs.length+ys.length≤10000000) :
  ∃v' h',happend ty E.sz by_ v x h=some (.val v' h')∧h.next≤h'.next∧Hold F h' (cs.set i (rowP E ty (xs++ys) v'))∧Sn F h F h':=by
 obtain ⟨new,e1,e2,e3⟩:=(H.row j hj).xc
 exact H.app i hi e1 e2 e3 hz hb hb2
theorem Hold.app1 (H:Hold F h cs)(i:Nat)(hi:cs[i]? = some (rowP E ty xs v)){by_ ety:Nat}{y:α}{w:List V}{ro:Bool}(hw:E.rel F h y w)(hz:0<E.sz)(hb:by_≤1000)(hb2:xs.length<1000000) :
  ∃v' h',happend ty E.sz by_ v (.slice h.next 0 1) (h.new (.cells ety E.sz true ro w))=some (.val v' h')∧h.next+1≤h'.next∧Hold F h' (cs.set i (rowP E ty (xs++[y]) v'))∧Sn F h F h':=by
 obtain ⟨H1,s1⟩:=H.grow (Chg.new h (.cells ety E.sz true ro w))
 have hx:xcells (h.new (.cells ety E.sz true ro w)) E.sz (.slice h.next 0 1)=some (1,w):=xcells_new (k:=0) (by rw [E.len hw];simp)
 obtain ⟨v',h',e1,e2,e3,e4⟩:=H1.app (ys:=[y]) i hi hx ⟨w,[],by simp,E.keep (fun l hl=>get_new_lt _ (H.fl l hl)) hw,trivial⟩ (by rw [E.len hw];simp) hz hb (by simp;omega)
 exact ⟨v',h',e1,e2,e3,s1.trans e4⟩
theorem Hold.cutR (H:Hold F h cs)(i:Nat)(hi:cs[i]? = some (rowP E ty xs v)){n:Nat}(hn:n≤xs.length) :
  ∃v',hsliceV E.sz v none (some (.int .i64 (n:Nat))) h=some v'∧Hold F h (cs.set i (rowP E ty (xs.take n) v')):=by
 obtain ⟨v',h1,h2,h3⟩:=(H.row i hi).cut hn
 exact ⟨v',h1,H.swap hi h2 h3⟩
theorem Hold.freezeR (H:Hold F h cs)(i:Nat)(hi:cs[i]? = some (rowP E ty xs v)):Hold (fun l=>F l∨Loc v l) h (cs.set i emp)∧Sn F h (fun l=>F l∨Loc v l) h∧SlR E (fun l=>F l∨Loc v l) h xs v:=by
 obtain ⟨h1,h2⟩:=H.turn (p:=emp) (F':=fun l=>F l∨Loc v l) hi (Chg.refl _ _) (fun _ h=> .inl h) (fun _ h=>h.imp id .inl) trivial fun _ h=>h.elim
 exact ⟨h1,h2,(H.row i hi).read⟩
theorem Hold.make (H:Hold F h cs){y:α}{u:V}(n:Nat)(he:E.rel F h y [u])(hz:E.sz=1):Hold F (h.new (.cells ty 1 true false (List.replicate n u))) (rowP E ty (List.replicate n y) (.slice h.next 0 n)::cs)∧Sn F h F (h.new (.cells ty 1 true false (List.replicate n u))):=by
 have h1:=E.one he
 rw [allOne_cons,Bool.and_eq_true] at h1
 have:=H.newR (E:=E) ty (n:=n) (by simp) (Win.rep he n) (allOne_rep h1.1 n)
 rwa [hz] at this
theorem hmake_of {e by_ n:Nat}{z:V}(hz:z.one=true)(hb:by_≤100)(h1:n≤1000000) :
  hmakeSlice e 1 by_ z (.int .i64 (n:Int)) (.int .i64 (n:Int))=some (O.cells e 1 true false (List.replicate n z),fun l=>V.slice l 0 n):=by
 have:n * by_≤1000000 * 100:=Nat.mul_le_mul h1 hb
 rw [hmakeSlice_of (by omega) (by omega),cells_one hz,repl_one]
theorem pLd_keep {l o:Nat}{u:V}(hl:pLd (.ptr l o) h=some u)(hk:h'.get l=h.get l):pLd (.ptr l o) h' = some u:=by
 rw [←hl]
 unfold pLd ld1 cellsAt
 simp only [asPtr_ptr,hk]
end
end Go.Proofs.YtiepamfpilhcjaaDoor.Hx
namespace Go.Proofs.YtiepamfpilhcjaaDoor.Hx
open Go.Proofs.YtiepamfpilhcjaaDoor.Un
structure Rw where
 vv:V
 vb:V
 vs:V
 vk:V
 vc:V
 vp:V
 cc:V
def comp (lu lkn lbl:Nat)(R:Rw):Nat→Nat→Prop
 | 0,l=>l=lu
 | 1,l=>l=lkn
 | 2,l=>l=lbl
 | 3,l=>Loc R.vv l
 | 4,l=>Loc R.vb l
 | 5,l=>Loc R.vs l
 | 6,l=>Loc R.vk l
 | 7,l=>Loc R.vc l
 | _,_=>False
def sig:Nat→Nat×Nat
 | 0=>(tyUnit,1)
 | 1=>(tyInts,1)
 | 2=>(tyBlock,1)
 | 3=>(tyVal,6)
 | 4=>(tyBlock,6)
 | 5=>(tyState,1)
 | _=>(tyInt,1)
structure Dw (F G:Nat→Prop) (h:Hp) (lu lkn lbl:Nat) (t:Dt) (R:Rw):Prop where
 fl:∀l,F l→l<h.next
 gu:h.get lu=some (.cells tyUnit 1 true false [.int .i64 1, .int .i64 2,R.vv,R.vb,R.vs])
 gk:h.get lkn=some (.cells tyInts 1 true false [R.vk])
 gb:h.get lbl=some (.cells tyBlock 1 true false [R.cc, .int .i64 0, .int .i64 0, .nilSlice,R.vp, .int .i64 0])
 nu:lu<h.next∧¬F lu
 nk:lkn<h.next∧¬F lkn
 nb:lbl<h.next∧¬F lbl
 ov:OwnR eV tyVal F h t.s.vals R.vv
 ob:OwnR eK tyBlock F h t.blocks R.vb
 os:OwnR eT tyState F h t.s.states R.vs
 ok:OwnR eN tyInt F h t.s.known R.vk
 oc:OwnR eN tyInt F h t.s.cur R.vc
 sp:SlR eN F h t.preds R.vp
 kc:∀l,Loc R.vk l→¬Loc R.vc l
 gx:∀l,G l→l<h.next∧¬F l∧∀i,¬comp lu lkn lbl R i l
structure Kp (F G:Nat→Prop) (h h' : Hp):Prop where
 next:h.next≤h'.next
 keep:∀l,F l∨G l→h'.get l=h.get l
theorem Kp.refl (F G:Nat→Prop)(h:Hp):Kp F G h h:=⟨Nat.le_refl _,fun _ _=>rfl⟩
theorem Kp.trans {F F' G:Nat→Prop} {h h' h'' : Hp}(a:Kp F G h h')(b:Kp F' G h' h'')(hF:∀l,F l→F' l):Kp F G h h'':=
 ⟨Nat.le_trans a.next b.next,fun l hl=>by rw [b.keep l (hl.imp (hF l) id),a.keep l hl]⟩
section
variable {F G:Nat→Prop} {h h' : Hp} {lu lkn lbl:Nat} {t:Dt} {R:Rw}
theorem Dw.sig (D:Dw F G h lu lkn lbl t R){l:Nat} : ∀{i:Nat},comp lu lkn lbl R i l→tyAt h l=some (Hx.sig i)∧l<h.next∧¬F l
 | 0,hl=>by have e:l=lu:=hl;subst e;exact ⟨tyAt_of D.gu,D.nu⟩
 | 1,hl=>by have e:l=lkn:=hl;subst e;exact ⟨tyAt_of D.gk,D.nk⟩
 | 2,hl=>by have e:l=lbl:=hl;subst e;exact ⟨tyAt_of D.gb,D.nb⟩
 | 3,hl=>D.ov.tyOf hl
 | 4,hl=>D.ob.tyOf hl
 | 5,hl=>D.os.tyOf hl
 | 6,hl=>D.ok.tyOf hl
 | 7,hl=>D.oc.tyOf hl
 | _+8,hl=>hl.elim
theorem Dw.dis (D:Dw F G h lu lkn lbl t R){l i j:Nat}(hi:comp lu lkn lbl R i l)(hj:comp lu lkn lbl R j l):Hx.sig i=Hx.sig j:=by
 have h1:=(D.sig hi).1
 rw [(D.sig hj).1] at h1
 exact (Option.some.inj h1).symm
theorem Dw.dis' (D:Dw F G h lu lkn lbl t R){l i j:Nat}(hi:comp lu lkn lbl R i l)(hj:comp lu lkn lbl R j l)(i8:i<8)(j8:j<8):i=j:=by
 have h1:=D.dis hi hj
 have key:∀i,i<8→∀j,j<8→Hx.sig i=Hx.sig j→i=j∨(i=6∧j=7)∨(i=7∧j=6):=by decide
 rcases key i i8 j j8 h1 with h2 | ⟨rfl,rfl⟩ | ⟨rfl,rfl⟩
 ·exact h2
 ·exact absurd hj (D.kc l hi)
 ·exact absurd hi (D.kc l hj)
theorem Dw.kept (D:Dw F G h lu lkn lbl t R){i j:Nat}(hi:i<8)(hj:j<8)(hc:Chg (fun l=>comp lu lkn lbl R i l∨comp lu lkn lbl R j l) h h') :
  (∀l,F l→h'.get l=h.get l)∧(∀l,G l→h'.get l=h.get l)∧∀k l,k<8→k≠i→k≠j→comp lu lkn lbl R k l→h'.get l=h.get l:=by
 refine ⟨fun l hl=>hc.keep l (D.fl l hl) ?_,fun l hl=>hc.keep l (D.gx l hl).1 ?_,fun k l hk h1 h2 hl=>hc.keep l (D.sig hl).2.1 ?_⟩
 ·rintro (h1 | h1)
  ·exact (D.sig h1).2.2 hl
  ·exact (D.sig h1).2.2 hl
 ·rintro (h1 | h1)
  ·exact (D.gx l hl).2.2 _ h1
  ·exact (D.gx l hl).2.2 _ h1
 ·rintro (h3 | h3)
  ·exact h1 (D.dis' hl h3 hk hi)
  ·exact h2 (D.dis' hl h3 hk hj)
theorem Dw.other (D:Dw F G h lu lkn lbl t R){S:Nat→Prop}(hg:Chg S h h')(hS:∀l,S l→¬F l∧¬G l∧∀i,¬comp lu lkn lbl R i l):Dw F G h' lu lkn lbl t R∧Kp F G h h':=by
 have kF:∀l,F l→h'.get l=h.get l:=fun l hl=>hg.keep l (D.fl l hl) fun hs=>(hS l hs).1 hl
 have kG:∀l,G l→h'.get l=h.get l:=fun l hl=>hg.keep l (D.gx l hl).1 fun hs=>(hS l hs).2.1 hl
 have k:∀i l,comp lu lkn lbl R i l→h'.get l=h.get l:=fun i l hl=>hg.keep l (D.sig hl).2.1 fun hs=>(hS l hs).2.2 i hl
 have lt:∀l,l<h.next→l<h'.next:=fun l hl=>Nat.lt_of_lt_of_le hl hg.next
 exact ⟨{
  fl:=fun l hl=>lt l (D.fl l hl)
  gu:=by rw [k 0 _ rfl];exact D.gu
  gk:=by rw [k 1 _ rfl];exact D.gk
  gb:=by rw [k 2 _ rfl];exact D.gb
  nu:=⟨lt _ D.nu.1,D.nu.2⟩
  nk:=⟨lt _ D.nk.1,D.nk.2⟩
  nb:=⟨lt _ D.nb.1,D.nb.2⟩
  ov:=D.ov.keep kF (fun l hl=>k 3 l hl) hg.next
  ob:=D.ob.keep kF (fun l hl=>k 4 l hl) hg.next
  os:=D.os.keep kF (fun l hl=>k 5 l hl) hg.next
  ok:=D.ok.keep kF (fun l hl=>k 6 l hl) hg.next
  oc:=D.oc.keep kF (fun l hl=>k 7 l hl) hg.next
  sp:=D.sp.keep kF
  kc:=D.kc
  gx:=fun l hl=>⟨lt l (D.gx l hl).1,(D.gx l hl).2⟩ },⟨hg.next,fun l hl=>hl.elim (kF l) (kG l)⟩⟩
theorem Dw.grow (D:Dw F G h lu lkn lbl t R)(hg:Grows h h'):Dw F G h' lu lkn lbl t R:=(D.other hg fun _ h=>h.elim).1
theorem Dw.more (D:Dw F G h lu lkn lbl t R) {F' : Nat→Prop}(hF:∀l,F l→F' l)(hn:∀l,F' l→F l∨(l<h.next∧(∀i,¬comp lu lkn lbl R i l)∧¬G l)):Dw F' G h lu lkn lbl t R:=by
 have nf:∀i l,comp lu lkn lbl R i l→¬F' l:=fun i l hl hf=>by
  rcases hn l hf with h1 | ⟨_,h1,_⟩
  ·exact (D.sig hl).2.2 h1
  ·exact h1 i hl
 exact {
  fl:=fun l hl=>(hn l hl).elim (D.fl l) fun h=>h.1
  gu:=D.gu
  gk:=D.gk
  gb:=D.gb
  nu:=⟨D.nu.1,nf 0 _ rfl⟩
  nk:=⟨D.nk.1,nf 1 _ rfl⟩
  nb:=⟨D.nb.1,nf 2 _ rfl⟩
  ov:=D.ov.mono hF fun l hl=>nf 3 l hl
  ob:=D.ob.mono hF fun l hl=>nf 4 l hl
  os:=D.os.mono hF fun l hl=>nf 5 l hl
  ok:=D.ok.mono hF fun l hl=>nf 6 l hl
  oc:=D.oc.mono hF fun l hl=>nf 7 l hl
  sp:=D.sp.mono hF
  kc:=D.kc
  gx:=fun l hl=>⟨(D.gx l hl).1,fun hf=>(hn l hf).elim (D.gx l hl).2.1 fun h=>h.2.2 hl,(D.gx l hl).2.2⟩ }
def fz (F:Nat→Prop)(n:Nat):Nat→Prop:=fun l=>F l∨l=n
theorem fz_le (F:Nat→Prop)(n:Nat):∀l,F l→fz F n l:=fun _ h=> .inl h
theorem Dw.new (D:Dw F G h lu lkn lbl t R)(o:O):Dw (fz F h.next) G (h.new o) lu lkn lbl t R:=
 (D.grow (Chg.new h o)).more (fz_le _ _) fun l hl=>hl.imp id fun e=>by
  subst e
  refine ⟨Nat.lt_succ_self _,fun i hi=>Nat.lt_irrefl _ (D.sig hi).2.1,fun hg=>Nat.lt_irrefl _ (D.gx _ hg).1⟩
theorem Kp.new (F G:Nat→Prop)(h:Hp)(o:O)(hF:∀l,F l→l<h.next)(hG:∀l,G l→l<h.next):Kp F G h (h.new o):=
 ⟨Nat.le_succ _,fun l hl=>get_new_lt o (hl.elim (hF l) (hG l))⟩
theorem Dw.kpNew (D:Dw F G h lu lkn lbl t R)(o:O):Kp F G h (h.new o):=Kp.new F G h o D.fl fun l hl=>(D.gx l hl).1
theorem pSt_put {l o e sz:Nat} {cs cs' : List V}{v:V}(hg:h.get l=some (.cells e sz true false cs))(ho:o<cs.length)(hv:v.one=true)(hs:cs.set o v=cs'):pSt 1 (.ptr l o) v h=some (.val .undef (h.put l (.cells e sz true false cs'))):=by
 subst hs;exact pSt_at hg ho hv
private theorem chg2 {a:Nat→Prop} {l:Nat} {S:Nat→Prop} {h1:Hp} {o:O} (hc:Chg a h h1) (ha:∀l,a l→S l) (hl:l<h.next) (hs:S l):Chg S h (h1.put l o):=
 (hc.weak fun l _ h=>ha l h).trans (Chg.put o hs (Nat.lt_of_lt_of_le hl hc.next))
theorem Dw.appV (D:Dw F G h lu lkn lbl t R){ys:List Vl}{new:List V}{xv:V}(hx:xcells h 6 xv=some (ys.length,new))(hy:Win eV F h new ys)(hl:new.length=ys.length * 6) (h1' : allOne new=true)(hk:0<ys.length)(hlen:t.s.vals.length+ys.length<1000000) :
  ∃v' h1 h2,happend tyVal 6 64 R.vv xv h=some (.val v' h1)∧h.next≤h1.next∧pSt 1 (.ptr lu 2) v' h1=some (.val .undef h2)∧h1.next≤h2.next∧Kp F G h h2∧
   Dw F G h2 lu lkn lbl { t with s:={ t.s with vals:=t.s.vals++ys } } { R with vv:=v' }:=by
 obtain ⟨v',h1,e1,o1,c1,l1⟩:=D.ov.append (by_:=64) (ys:=ys) hx hy hl h1' hk (by decide) D.fl (by omega) (by omega)
 have gu1:h1.get lu=some (.cells tyUnit 1 true false [.int .i64 1, .int .i64 2,R.vv,R.vb,R.vs]):=by
  rw [c1.keep lu D.nu.1 fun hl=>nomatch D.dis' (i:=0) (j:=3) rfl hl (by decide) (by decide)];exact D.gu
 have lu1:lu<h1.next:=Nat.lt_of_lt_of_le D.nu.1 c1.next
 have e2:=pSt_put (o:=2) (v:=v') (cs':=[.int .i64 1, .int .i64 2,v',R.vb,R.vs]) gu1 (by simp) o1.one rfl
 have hc:Chg (fun l=>comp lu lkn lbl R 0 l∨comp lu lkn lbl R 3 l) h (h1.put lu (.cells tyUnit 1 true false [.int .i64 1, .int .i64 2,v',R.vb,R.vs])):=chg2 c1 (fun _ h=> .inr h) D.nu.1 (.inl rfl)
 obtain ⟨kF,kG,kC⟩:=D.kept (by decide) (by decide) hc
 have ltn:∀l,l<h.next→l<(h1.put lu (.cells tyUnit 1 true false [.int .i64 1, .int .i64 2,v',R.vb,R.vs])).next:=fun l hl=>Nat.lt_of_lt_of_le hl hc.next
 have nl:∀l,Loc v' l→l≠lu:=fun l hl e=>by
  subst e
  rcases l1 _ hl with h2 | h2
  ·exact absurd (D.dis' (i:=0) (j:=3) rfl h2 (by decide) (by decide)) (by decide)
  ·exact absurd h2 (Nat.ne_of_lt D.nu.1)
 have hO:OwnR eV tyVal F (h1.put lu (.cells tyUnit 1 true false [.int .i64 1, .int .i64 2,v',R.vb,R.vs])) (t.s.vals++ys) v':=
  o1.keep (fun l hl=>get_put_ne _ lu1 fun e=>D.nu.2 (e▸hl)) (fun l hl=>get_put_ne _ lu1 fun e=>nl l hl e.symm) (Nat.le_refl _)
 refine ⟨v',h1,_,e1,c1.next,e2,Nat.le_refl _,⟨hc.next,fun l hl=>hl.elim (kF l) (kG l)⟩,?_⟩
 exact {
  fl:=fun l hl=>ltn l (D.fl l hl)
  gu:=get_put_self _ lu1
  gk:=by rw [kC 1 lkn (by decide) (by decide) (by decide) rfl];exact D.gk
  gb:=by rw [kC 2 lbl (by decide) (by decide) (by decide) rfl];exact D.gb
  ov:=hO
  ob:=D.ob.keep kF (fun l hl=>kC 4 l (by decide) (by decide) (by decide) hl) hc.next
  os:=D.os.keep kF (fun l hl=>kC 5 l (by decide) (by decide) (by decide) hl) hc.next
  ok:=D.ok.keep kF (fun l hl=>kC 6 l (by decide) (by decide) (by decide) hl) hc.next
  oc:=D.oc.keep kF (fun l hl=>kC 7 l (by decide) (by decide) (by decide) hl) hc.next
  nu:=⟨ltn _ D.nu.1,D.nu.2⟩
  nk:=⟨ltn _ D.nk.1,D.nk.2⟩
  nb:=⟨ltn _ D.nb.1,D.nb.2⟩
  sp:=D.sp.keep kF
  kc:=D.kc
  gx:=fun l hl=>⟨ltn l (D.gx l hl).1,(D.gx l hl).2.1,fun i hi=>by
   match i,hi with
   | 0,hi=>exact (D.gx l hl).2.2 0 hi
   | 1,hi=>exact (D.gx l hl).2.2 1 hi
   | 2,hi=>exact (D.gx l hl).2.2 2 hi
   | 3,hi=>exact (l1 l hi).elim ((D.gx l hl).2.2 3) fun e=>absurd e (Nat.ne_of_lt (D.gx l hl).1)
   | 4,hi=>exact (D.gx l hl).2.2 4 hi
   | 5,hi=>exact (D.gx l hl).2.2 5 hi
   | 6,hi=>exact (D.gx l hl).2.2 6 hi
   | 7,hi=>exact (D.gx l hl).2.2 7 hi⟩ }
theorem Dw.appB (D:Dw F G h lu lkn lbl t R){ys:List Bk}{new:List V}{xv:V}(hx:xcells h 6 xv=some (ys.length,new))(hy:Win eK F h new ys)(hl:new.length=ys.length * 6) (h1' : allOne new=true)(hk:0<ys.length)(hlen:t.blocks.length+ys.length<1000000) :
  ∃v' h1 h2,happend tyBlock 6 96 R.vb xv h=some (.val v' h1)∧h.next≤h1.next∧pSt 1 (.ptr lu 3) v' h1=some (.val .undef h2)∧h1.next≤h2.next∧Kp F G h h2∧
   Dw F G h2 lu lkn lbl { t with blocks:=t.blocks++ys } { R with vb:=v' }:=by
 obtain ⟨v',h1,e1,o1,c1,l1⟩:=D.ob.append (by_:=96) (ys:=ys) hx hy hl h1' hk (by decide) D.fl (by omega) (by omega)
 have gu1:h1.get lu=some (.cells tyUnit 1 true false [.int .i64 1, .int .i64 2,R.vv,R.vb,R.vs]):=by
  rw [c1.keep lu D.nu.1 fun hl=>nomatch D.dis' (i:=0) (j:=4) rfl hl (by decide) (by decide)];exact D.gu
 have lu1:lu<h1.next:=Nat.lt_of_lt_of_le D.nu.1 c1.next
 have e2:=pSt_put (o:=3) (v:=v') (cs':=[.int .i64 1, .int .i64 2,R.vv,v',R.vs]) gu1 (by simp) o1.one rfl
 have hc:Chg (fun l=>comp lu lkn lbl R 0 l∨comp lu lkn lbl R 4 l) h (h1.put lu (.cells tyUnit 1 true false [.int .i64 1, .int .i64 2,R.vv,v',R.vs])):=chg2 c1 (fun _ h=> .inr h) D.nu.1 (.inl rfl)
 obtain ⟨kF,kG,kC⟩:=D.kept (by decide) (by decide) hc
 have ltn:∀l,l<h.next→l<(h1.put lu (.cells tyUnit 1 true false [.int .i64 1, .int .i64 2,R.vv,v',R.vs])).next:=fun l hl=>Nat.lt_of_lt_of_le hl hc.next
 have nl:∀l,Loc v' l→l≠lu:=fun l hl e=>by
  subst e
  rcases l1 _ hl with h2 | h2
  ·exact absurd (D.dis' (i:=0) (j:=4) rfl h2 (by decide) (by decide)) (by decide)
  ·exact absurd h2 (Nat.ne_of_lt D.nu.1)
 have hO:OwnR eK tyBlock F (h1.put lu (.cells tyUnit 1 true false [.int .i64 1, .int .i64 2,R.vv,v',R.vs])) (t.blocks++ys) v':=
  o1.keep (fun l hl=>get_put_ne _ lu1 fun e=>D.nu.2 (e▸hl)) (fun l hl=>get_put_ne _ lu1 fun e=>nl l hl e.symm) (Nat.le_refl _)
 refine ⟨v',h1,_,e1,c1.next,e2,Nat.le_refl _,⟨hc.next,fun l hl=>hl.elim (kF l) (kG l)⟩,?_⟩
 exact {
  fl:=fun l hl=>ltn l (D.fl l hl)
  gu:=get_put_self _ lu1
  gk:=by rw [kC 1 lkn (by decide) (by decide) (by decide) rfl];exact D.gk
  gb:=by rw [kC 2 lbl (by decide) (by decide) (by decide) rfl];exact D.gb
  ov:=D.ov.keep kF (fun l hl=>kC 3 l (by decide) (by decide) (by decide) hl) hc.next
  ob:=hO
  os:=D.os.keep kF (fun l hl=>kC 5 l (by decide) (by decide) (by decide) hl) hc.next
  ok:=D.ok.keep kF (fun l hl=>kC 6 l (by decide) (by decide) (by decide) hl) hc.next
  oc:=D.oc.keep kF (fun l hl=>kC 7 l (by decide) (by decide) (by decide) hl) hc.next
  nu:=⟨ltn _ D.nu.1,D.nu.2⟩
  nk:=⟨ltn _ D.nk.1,D.nk.2⟩
  nb:=⟨ltn _ D.nb.1,D.nb.2⟩
  sp:=D.sp.keep kF
  kc:=D.kc
  gx:=fun l hl=>⟨ltn l (D.gx l hl).1,(D.gx l hl).2.1,fun i hi=>by
   match i,hi with
   | 0,hi=>exact (D.gx l hl).2.2 0 hi
   | 1,hi=>exact (D.gx l hl).2.2 1 hi
   | 2,hi=>exact (D.gx l hl).2.2 2 hi
   | 3,hi=>exact (D.gx l hl).2.2 3 hi
   | 4,hi=>exact (l1 l hi).elim ((D.gx l hl).2.2 4) fun e=>absurd e (Nat.ne_of_lt (D.gx l hl).1)
   | 5,hi=>exact (D.gx l hl).2.2 5 hi
   | 6,hi=>exact (D.gx l hl).2.2 6 hi
   | 7,hi=>exact (D.gx l hl).2.2 7 hi⟩ }
theorem Dw.appS (D:Dw F G h lu lkn lbl t R){ys:List (List Fm)}{new:List V}{xv:V}(hx:xcells h 1 xv=some (ys.length,new))(hy:Win eT F h new ys)(hl:new.length=ys.length * 1) (h1' : allOne new=true)(hk:0<ys.length)(hlen:t.s.states.length+ys.length<1000000) :
  ∃v' h1 h2,happend tyState 1 24 R.vs xv h=some (.val v' h1)∧h.next≤h1.next∧pSt 1 (.ptr lu 4) v' h1=some (.val .undef h2)∧h1.next≤h2.next∧Kp F G h h2∧
   Dw F G h2 lu lkn lbl { t with s:={ t.s with states:=t.s.states++ys } } { R with vs:=v' }:=by
 obtain ⟨v',h1,e1,o1,c1,l1⟩:=D.os.append (by_:=24) (ys:=ys) hx hy hl h1' hk (by decide) D.fl (by omega) (by omega)
 have gu1:h1.get lu=some (.cells tyUnit 1 true false [.int .i64 1, .int .i64 2,R.vv,R.vb,R.vs]):=by
  rw [c1.keep lu D.nu.1 fun hl=>nomatch D.dis' (i:=0) (j:=5) rfl hl (by decide) (by decide)];exact D.gu
 have lu1:lu<h1.next:=Nat.lt_of_lt_of_le D.nu.1 c1.next
 have e2:=pSt_put (o:=4) (v:=v') (cs':=[.int .i64 1, .int .i64 2,R.vv,R.vb,v']) gu1 (by simp) o1.one rfl
 have hc:Chg (fun l=>comp lu lkn lbl R 0 l∨comp lu lkn lbl R 5 l) h (h1.put lu (.cells tyUnit 1 true false [.int .i64 1, .int .i64 2,R.vv,R.vb,v'])):=chg2 c1 (fun _ h=> .inr h) D.nu.1 (.inl rfl)
 obtain ⟨kF,kG,kC⟩:=D.kept (by decide) (by decide) hc
 have ltn:∀l,l<h.next→l<(h1.put lu (.cells tyUnit 1 true false [.int .i64 1, .int .i64 2,R.vv,R.vb,v'])).next:=fun l hl=>Nat.lt_of_lt_of_le hl hc.next
 have nl:∀l,Loc v' l→l≠lu:=fun l hl e=>by
  subst e
  rcases l1 _ hl with h2 | h2
  ·exact absurd (D.dis' (i:=0) (j:=5) rfl h2 (by decide) (by decide)) (by decide)
  ·exact absurd h2 (Nat.ne_of_lt D.nu.1)
 have hO:OwnR eT tyState F (h1.put lu (.cells tyUnit 1 true false [.int .i64 1, .int .i64 2,R.vv,R.vb,v'])) (t.s.states++ys) v':=
  o1.keep (fun l hl=>get_put_ne _ lu1 fun e=>D.nu.2 (e▸hl)) (fun l hl=>get_put_ne _ lu1 fun e=>nl l hl e.symm) (Nat.le_refl _)
 refine ⟨v',h1,_,e1,c1.next,e2,Nat.le_refl _,⟨hc.next,fun l hl=>hl.elim (kF l) (kG l)⟩,?_⟩
 exact {
  fl:=fun l hl=>ltn l (D.fl l hl)
  gu:=get_put_self _ lu1
  gk:=by rw [kC 1 lkn (by decide) (by decide) (by decide) rfl];exact D.gk
  gb:=by rw [kC 2 lbl (by decide) (by decide) (by decide) rfl];exact D.gb
  ov:=D.ov.keep kF (fun l hl=>kC 3 l (by decide) (by decide) (by decide) hl) hc.next
  ob:=D.ob.keep kF (fun l hl=>kC 4 l (by decide) (by decide) (by decide) hl) hc.next
  os:=hO
  ok:=D.ok.keep kF (fun l hl=>kC 6 l (by decide) (by decide) (by decide) hl) hc.next
  oc:=D.oc.keep kF (fun l hl=>kC 7 l (by decide) (by decide) (by decide) hl) hc.next
  nu:=⟨ltn _ D.nu.1,D.nu.2⟩
  nk:=⟨ltn _ D.nk.1,D.nk.2⟩
  nb:=⟨ltn _ D.nb.1,D.nb.2⟩
  sp:=D.sp.keep kF
  kc:=D.kc
  gx:=fun l hl=>⟨ltn l (D.gx l hl).1,(D.gx l hl).2.1,fun i hi=>by
   match i,hi with
   | 0,hi=>exact (D.gx l hl).2.2 0 hi
   | 1,hi=>exact (D.gx l hl).2.2 1 hi
   | 2,hi=>exact (D.gx l hl).2.2 2 hi
   | 3,hi=>exact (D.gx l hl).2.2 3 hi
   | 4,hi=>exact (D.gx l hl).2.2 4 hi
   | 5,hi=>exact (l1 l hi).elim ((D.gx l hl).2.2 5) fun e=>absurd e (Nat.ne_of_lt (D.gx l hl).1)
   | 6,hi=>exact (D.gx l hl).2.2 6 hi
   | 7,hi=>exact (D.gx l hl).2.2 7 hi⟩ }
theorem Dw.appK (D:Dw F G h lu lkn lbl t R){ys:List Nat}{new:List V}{xv:V}(hx:xcells h 1 xv=some (ys.length,new))(hy:Win eN F h new ys)(hl:new.length=ys.length * 1) (h1' : allOne new=true)(hk:0<ys.length)(hlen:t.s.known.length+ys.length<1000000) :
  ∃v' h1 h2,happend tyInt 1 8 R.vk xv h=some (.val v' h1)∧h.next≤h1.next∧pSt 1 (.ptr lkn 0) v' h1=some (.val .undef h2)∧h1.next≤h2.next∧Kp F G h h2∧
   Dw F G h2 lu lkn lbl { t with s:={ t.s with known:=t.s.known++ys } } { R with vk:=v' }:=by
 obtain ⟨v',h1,e1,o1,c1,l1⟩:=D.ok.append (by_:=8) (ys:=ys) hx hy hl h1' hk (by decide) D.fl (by omega) (by omega)
 have gu1:h1.get lkn=some (.cells tyInts 1 true false [R.vk]):=by
  rw [c1.keep lkn D.nk.1 fun hl=>nomatch D.dis' (i:=1) (j:=6) rfl hl (by decide) (by decide)];exact D.gk
 have lu1:lkn<h1.next:=Nat.lt_of_lt_of_le D.nk.1 c1.next
 have e2:=pSt_put (o:=0) (v:=v') (cs':=[v']) gu1 (by simp) o1.one rfl
 have hc:Chg (fun l=>comp lu lkn lbl R 1 l∨comp lu lkn lbl R 6 l) h (h1.put lkn (.cells tyInts 1 true false [v'])):=chg2 c1 (fun _ h=> .inr h) D.nk.1 (.inl rfl)
 obtain ⟨kF,kG,kC⟩:=D.kept (by decide) (by decide) hc
 have ltn:∀l,l<h.next→l<(h1.put lkn (.cells tyInts 1 true false [v'])).next:=fun l hl=>Nat.lt_of_lt_of_le hl hc.next
 have nl:∀l,Loc v' l→l≠lkn:=fun l hl e=>by
  subst e
  rcases l1 _ hl with h2 | h2
  ·exact absurd (D.dis' (i:=1) (j:=6) rfl h2 (by decide) (by decide)) (by decide)
  ·exact absurd h2 (Nat.ne_of_lt D.nk.1)
 have hO:OwnR eN tyInt F (h1.put lkn (.cells tyInts 1 true false [v'])) (t.s.known++ys) v':=
  o1.keep (fun l hl=>get_put_ne _ lu1 fun e=>D.nk.2 (e▸hl)) (fun l hl=>get_put_ne _ lu1 fun e=>nl l hl e.symm) (Nat.le_refl _)
 refine ⟨v',h1,_,e1,c1.next,e2,Nat.le_refl _,⟨hc.next,fun l hl=>hl.elim (kF l) (kG l)⟩,?_⟩
 exact {
  fl:=fun l hl=>ltn l (D.fl l hl)
  gu:=by rw [kC 0 lu (by decide) (by decide) (by decide) rfl];exact D.gu
  gk:=get_put_self _ lu1
  gb:=by rw [kC 2 lbl (by decide) (by decide) (by decide) rfl];exact D.gb
  ov:=D.ov.keep kF (fun l hl=>kC 3 l (by decide) (by decide) (by decide) hl) hc.next
  ob:=D.ob.keep kF (fun l hl=>kC 4 l (by decide) (by decide) (by decide) hl) hc.next
  os:=D.os.keep kF (fun l hl=>kC 5 l (by decide) (by decide) (by decide) hl) hc.next
  ok:=hO
  oc:=D.oc.keep kF (fun l hl=>kC 7 l (by decide) (by decide) (by decide) hl) hc.next
  nu:=⟨ltn _ D.nu.1,D.nu.2⟩
  nk:=⟨ltn _ D.nk.1,D.nk.2⟩
  nb:=⟨ltn _ D.nb.1,D.nb.2⟩
  sp:=D.sp.keep kF
  kc:=fun l hl hc=>(l1 l hl).elim (fun h2=>D.kc l h2 hc) fun e=>absurd e (Nat.ne_of_lt (D.oc.tyOf hc).2.1)
  gx:=fun l hl=>⟨ltn l (D.gx l hl).1,(D.gx l hl).2.1,fun i hi=>by
   match i,hi with
   | 0,hi=>exact (D.gx l hl).2.2 0 hi
   | 1,hi=>exact (D.gx l hl).2.2 1 hi
   | 2,hi=>exact (D.gx l hl).2.2 2 hi
   | 3,hi=>exact (D.gx l hl).2.2 3 hi
   | 4,hi=>exact (D.gx l hl).2.2 4 hi
   | 5,hi=>exact (D.gx l hl).2.2 5 hi
   | 6,hi=>exact (l1 l hi).elim ((D.gx l hl).2.2 6) fun e=>absurd e (Nat.ne_of_lt (D.gx l hl).1)
   | 7,hi=>exact (D.gx l hl).2.2 7 hi⟩ }
theorem Dw.appC (D:Dw F G h lu lkn lbl t R){ys:List Nat}{new:List V}{xv:V}(hx:xcells h 1 xv=some (ys.length,new))(hy:Win eN F h new ys)(hl:new.length=ys.length * 1) (h1' : allOne new=true)(hk:0<ys.length)(hlen:t.s.cur.length+ys.length<1000000) :
  ∃v' h1 h2,happend tyInt 1 8 R.vc xv h=some (.val v' h1)∧h.next≤h1.next∧pSt 1 (.ptr lbl 0) v' h1=some (.val .undef h2)∧h1.next≤h2.next∧Kp F G h h2∧
   Dw F G h2 lu lkn lbl { t with s:={ t.s with cur:=t.s.cur++ys } } { R with vc:=v',cc:=v' }:=by
 obtain ⟨v',h1,e1,o1,c1,l1⟩:=D.oc.append (by_:=8) (ys:=ys) hx hy hl h1' hk (by decide) D.fl (by omega) (by omega)
 have gu1:h1.get lbl=some (.cells tyBlock 1 true false [R.cc, .int .i64 0, .int .i64 0, .nilSlice,R.vp, .int .i64 0]):=by
  rw [c1.keep lbl D.nb.1 fun hl=>nomatch D.dis' (i:=2) (j:=7) rfl hl (by decide) (by decide)];exact D.gb
 have lu1:lbl<h1.next:=Nat.lt_of_lt_of_le D.nb.1 c1.next
 have e2:=pSt_put (o:=0) (v:=v') (cs':=[v', .int .i64 0, .int .i64 0, .nilSlice,R.vp, .int .i64 0]) gu1 (by simp) o1.one rfl
 have hc:Chg (fun l=>comp lu lkn lbl R 2 l∨comp lu lkn lbl R 7 l) h (h1.put lbl (.cells tyBlock 1 true false [v', .int .i64 0, .int .i64 0, .nilSlice,R.vp, .int .i64 0])):=chg2 c1 (fun _ h=> .inr h) D.nb.1 (.inl rfl)
 obtain ⟨kF,kG,kC⟩:=D.kept (by decide) (by decide) hc
 have ltn:∀l,l<h.next→l<(h1.put lbl (.cells tyBlock 1 true false [v', .int .i64 0, .int .i64 0, .nilSlice,R.vp, .int .i64 0])).next:=fun l hl=>Nat.lt_of_lt_of_le hl hc.next
 have nl:∀l,Loc v' l→l≠lbl:=fun l hl e=>by
  subst e
  rcases l1 _ hl with h2 | h2
  ·exact absurd (D.dis' (i:=2) (j:=7) rfl h2 (by decide) (by decide)) (by decide)
  ·exact absurd h2 (Nat.ne_of_lt D.nb.1)
 have hO:OwnR eN tyInt F (h1.put lbl (.cells tyBlock 1 true false [v', .int .i64 0, .int .i64 0, .nilSlice,R.vp, .int .i64 0])) (t.s.cur++ys) v':=
  o1.keep (fun l hl=>get_put_ne _ lu1 fun e=>D.nb.2 (e▸hl)) (fun l hl=>get_put_ne _ lu1 fun e=>nl l hl e.symm) (Nat.le_refl _)
 refine ⟨v',h1,_,e1,c1.next,e2,Nat.le_refl _,⟨hc.next,fun l hl=>hl.elim (kF l) (kG l)⟩,?_⟩
 exact {
  fl:=fun l hl=>ltn l (D.fl l hl)
  gu:=by rw [kC 0 lu (by decide) (by decide) (by decide) rfl];exact D.gu
  gk:=by rw [kC 1 lkn (by decide) (by decide) (by decide) rfl];exact D.gk
  gb:=get_put_self _ lu1
  ov:=D.ov.keep kF (fun l hl=>kC 3 l (by decide) (by decide) (by decide) hl) hc.next
  ob:=D.ob.keep kF (fun l hl=>kC 4 l (by decide) (by decide) (by decide) hl) hc.next
  os:=D.os.keep kF (fun l hl=>kC 5 l (by decide) (by decide) (by decide) hl) hc.next
  ok:=D.ok.keep kF (fun l hl=>kC 6 l (by decide) (by decide) (by decide) hl) hc.next
  oc:=hO
  nu:=⟨ltn _ D.nu.1,D.nu.2⟩
  nk:=⟨ltn _ D.nk.1,D.nk.2⟩
  nb:=⟨ltn _ D.nb.1,D.nb.2⟩
  sp:=D.sp.keep kF
  kc:=fun l hl hc=>(l1 l hc).elim (fun h2=>D.kc l hl h2) fun e=>absurd e (Nat.ne_of_lt (D.ok.tyOf hl).2.1)
  gx:=fun l hl=>⟨ltn l (D.gx l hl).1,(D.gx l hl).2.1,fun i hi=>by
   match i,hi with
   | 0,hi=>exact (D.gx l hl).2.2 0 hi
   | 1,hi=>exact (D.gx l hl).2.2 1 hi
   | 2,hi=>exact (D.gx l hl).2.2 2 hi
   | 3,hi=>exact (D.gx l hl).2.2 3 hi
   | 4,hi=>exact (D.gx l hl).2.2 4 hi
   | 5,hi=>exact (D.gx l hl).2.2 5 hi
   | 6,hi=>exact (D.gx l hl).2.2 6 hi
   | 7,hi=>exact (l1 l hi).elim ((D.gx l hl).2.2 7) fun e=>absurd e (Nat.ne_of_lt (D.gx l hl).1)⟩ }
theorem Dw.cell (D:Dw F G h lu lkn lbl t R){i:Nat}(hi:i<8)(hc:Chg (fun l=>comp lu lkn lbl R i l) h h') :
  (∀l,F l→h'.get l=h.get l)∧(∀l,G l→h'.get l=h.get l)∧∀k l,k<8→k≠i→comp lu lkn lbl R k l→h'.get l=h.get l:=by
 obtain ⟨h1,h2,h3⟩:=D.kept hi hi (hc.weak (S':=fun l=>comp lu lkn lbl R i l∨comp lu lkn lbl R i l) fun _ _ h=> .inl h)
 exact ⟨h1,h2,fun k l a b=>h3 k l a b b⟩
theorem Dw.cutK (D:Dw F G h lu lkn lbl t R){n:Nat}(hn:n≤t.s.known.length) :
  ∃v' h2,hsliceV 1 R.vk none (some (.int .i64 (n:Nat))) h=some v'∧pSt 1 (.ptr lkn 0) v' h=some (.val .undef h2)∧h.next≤h2.next∧Kp F G h h2∧Dw F G h2 lu lkn lbl { t with s:=Un.cut n t.s } { R with vk:=v' }:=by
 obtain ⟨v',e1,o1,l1⟩:=D.ok.cut hn
 have e2:=pSt_put (o:=0) (v:=v') (cs':=[v']) D.gk (by simp) o1.one rfl
 have hc:Chg (fun l=>comp lu lkn lbl R 1 l) h (h.put lkn (.cells tyInts 1 true false [v'])):=Chg.put _ rfl D.nk.1
 obtain ⟨kF,kG,kC⟩:=D.cell (by decide) hc
 refine ⟨v',_,e1,e2,Nat.le_refl _,⟨hc.next,fun l hl=>hl.elim (kF l) (kG l)⟩,?_⟩
 exact {
  fl:=D.fl
  gu:=by rw [kC 0 lu (by decide) (by decide) rfl];exact D.gu
  gk:=get_put_self _ D.nk.1
  gb:=by rw [kC 2 lbl (by decide) (by decide) rfl];exact D.gb
  nu:=D.nu
  nk:=D.nk
  nb:=D.nb
  ov:=D.ov.keep kF (fun l hl=>kC 3 l (by decide) (by decide) hl) hc.next
  ob:=D.ob.keep kF (fun l hl=>kC 4 l (by decide) (by decide) hl) hc.next
  os:=D.os.keep kF (fun l hl=>kC 5 l (by decide) (by decide) hl) hc.next
  ok:=o1.keep kF (fun l hl=>kC 6 l (by decide) (by decide) (l1 l hl)) hc.next
  oc:=D.oc.keep kF (fun l hl=>kC 7 l (by decide) (by decide) hl) hc.next
  sp:=D.sp.keep kF
  kc:=fun l hl=>D.kc l (l1 l hl)
  gx:=fun l hl=>⟨(D.gx l hl).1,(D.gx l hl).2.1,fun i hi=>by
   match i,hi with
   | 0,hi=>exact (D.gx l hl).2.2 0 hi
   | 1,hi=>exact (D.gx l hl).2.2 1 hi
   | 2,hi=>exact (D.gx l hl).2.2 2 hi
   | 3,hi=>exact (D.gx l hl).2.2 3 hi
   | 4,hi=>exact (D.gx l hl).2.2 4 hi
   | 5,hi=>exact (D.gx l hl).2.2 5 hi
   | 6,hi=>exact (D.gx l hl).2.2 6 (l1 l hi)
   | 7,hi=>exact (D.gx l hl).2.2 7 hi⟩ }
theorem Dw.setBl (D:Dw F G h lu lkn lbl t R){c p:V}{ps:List Nat}(hp:SlR eN F h ps p):Kp F G h (h.put lbl (.cells tyBlock 1 true false [c, .int .i64 0, .int .i64 0, .nilSlice,p, .int .i64 0]))∧
  Dw F G (h.put lbl (.cells tyBlock 1 true false [c, .int .i64 0, .int .i64 0, .nilSlice,p, .int .i64 0])) lu lkn lbl { t with preds:=ps } { R with vp:=p,cc:=c }:=by
 have hc:Chg (fun l=>comp lu lkn lbl R 2 l) h (h.put lbl (.cells tyBlock 1 true false [c, .int .i64 0, .int .i64 0, .nilSlice,p, .int .i64 0])):=Chg.put _ rfl D.nb.1
 obtain ⟨kF,kG,kC⟩:=D.cell (by decide) hc
 refine ⟨⟨hc.next,fun l hl=>hl.elim (kF l) (kG l)⟩,?_⟩
 exact {
  fl:=D.fl
  gu:=by rw [kC 0 lu (by decide) (by decide) rfl];exact D.gu
  gk:=by rw [kC 1 lkn (by decide) (by decide) rfl];exact D.gk
  gb:=get_put_self _ D.nb.1
  nu:=D.nu
  nk:=D.nk
  nb:=D.nb
  ov:=D.ov.keep kF (fun l hl=>kC 3 l (by decide) (by decide) hl) hc.next
  ob:=D.ob.keep kF (fun l hl=>kC 4 l (by decide) (by decide) hl) hc.next
  os:=D.os.keep kF (fun l hl=>kC 5 l (by decide) (by decide) hl) hc.next
  ok:=D.ok.keep kF (fun l hl=>kC 6 l (by decide) (by decide) hl) hc.next
  oc:=D.oc.keep kF (fun l hl=>kC 7 l (by decide) (by decide) hl) hc.next
  sp:=hp.keep kF
  kc:=D.kc
  gx:=D.gx }
def fzc (F:Nat→Prop)(v:V):Nat→Prop:=fun l=>F l∨Loc v l
theorem Dw.flush (D:Dw F G h lu lkn lbl t R):SlR eN (fzc F R.vc) h t.s.cur R.vc∧Dw (fzc F R.vc) G h lu lkn lbl { t with s:={ t.s with cur:=[] } } { R with vc:= .nilSlice }:=by
 refine ⟨D.oc.slR (fun _ h=> .inl h) fun _ h=> .inr h,?_⟩
 have D' : Dw F G h lu lkn lbl { t with s:={ t.s with cur:=[] } } { R with vc:= .nilSlice }:=
  { D with
    oc := .nil
    kc := fun _ _ h => h
    gx := fun l hl => ⟨(D.gx l hl).1, (D.gx l hl).2.1, fun i hi => by
      match i, hi with
      | 0, hi => exact (D.gx l hl).2.2 0 hi
      | 1, hi => exact (D.gx l hl).2.2 1 hi
      | 2, hi => exact (D.gx l hl).2.2 2 hi
      | 3, hi => exact (D.gx l hl).2.2 3 hi
      | 4, hi => exact (D.gx l hl).2.2 4 hi
      | 5, hi => exact (D.gx l hl).2.2 5 hi
      | 6, hi => exact (D.gx l hl).2.2 6 hi
      | n + 7, hi => exact (match n, hi with | 0, hi => hi)⟩ }
 refine D'.more (fun _ h=> .inl h) fun l hl=>hl.imp id fun hc=>⟨(D.oc.tyOf hc).2.1,fun i hi=>?_,fun hg=>(D.gx l hg).2.2 7 hc⟩
 match i,hi with
 | 0,hi=>exact nomatch D.dis' (i:=0) (j:=7) hi hc (by decide) (by decide)
 | 1,hi=>exact nomatch D.dis' (i:=1) (j:=7) hi hc (by decide) (by decide)
 | 2,hi=>exact nomatch D.dis' (i:=2) (j:=7) hi hc (by decide) (by decide)
 | 3,hi=>exact nomatch D.dis' (i:=3) (j:=7) hi hc (by decide) (by decide)
 | 4,hi=>exact nomatch D.dis' (i:=4) (j:=7) hi hc (by decide) (by decide)
 | 5,hi=>exact nomatch D.dis' (i:=5) (j:=7) hi hc (by decide) (by decide)
 | 6,hi=>exact nomatch D.dis' (i:=6) (j:=7) hi hc (by decide) (by decide)
 | n+7,hi=>exact (match n,hi with | 0,hi=>hi)
theorem Dw.setA (D:Dw F G h lu lkn lbl t R){p:Nat}{xs:List Nat}{a:V}(hp:p<t.s.vals.length)(ha:SlR eN F h xs a) :
  ∃l h2,pIx 6 R.vv (.int .i64 (p:Nat))=some (.ptr l (p * 6))∧pSt 1 (.ptr l (p * 6+4)) a h=some (.val .undef h2)∧h.next≤h2.next∧Kp F G h h2∧Dw F G h2 lu lkn lbl { t with s:=setArgs t.s p xs } R:=by
 obtain ⟨l,h2,_,e1,e2,o1,hc⟩:=D.ov.store (i:=p) (k:=4) (y:={ t.s.vals[p] with args:=xs }) hp (by decide) ha.one (fun w ⟨x,hw,_⟩=>by subst hw;exact ⟨a,rfl,ha⟩)
 obtain ⟨kF,kG,kC⟩:=D.cell (i:=3) (by decide) hc
 refine ⟨l,h2,e1,e2,hc.next,⟨hc.next,fun l hl=>hl.elim (kF l) (kG l)⟩,?_⟩
 have ltn:∀l,l<h.next→l<h2.next:=fun l hl=>Nat.lt_of_lt_of_le hl hc.next
 have em:(setArgs t.s p xs).vals=t.s.vals.set p { t.s.vals[p] with args:=xs }:=by
  unfold setArgs
  show t.s.vals.modify p _=_
  refine List.ext_getElem? fun i=>?_
  rw [List.getElem?_modify,List.getElem?_set]
  by_cases e:p=i
  ·subst e;simp [hp]
  ·simp [e]
 exact {
  fl:=fun l hl=>ltn l (D.fl l hl)
  gu:=by rw [kC 0 lu (by decide) (by decide) rfl];exact D.gu
  gk:=by rw [kC 1 lkn (by decide) (by decide) rfl];exact D.gk
  gb:=by rw [kC 2 lbl (by decide) (by decide) rfl];exact D.gb
  nu:=⟨ltn _ D.nu.1,D.nu.2⟩
  nk:=⟨ltn _ D.nk.1,D.nk.2⟩
  nb:=⟨ltn _ D.nb.1,D.nb.2⟩
  ov:=by show OwnR eV tyVal F h2 (setArgs t.s p xs).vals R.vv;rw [em];exact o1
  ob:=D.ob.keep kF (fun l hl=>kC 4 l (by decide) (by decide) hl) hc.next
  os:=D.os.keep kF (fun l hl=>kC 5 l (by decide) (by decide) hl) hc.next
  ok:=D.ok.keep kF (fun l hl=>kC 6 l (by decide) (by decide) hl) hc.next
  oc:=D.oc.keep kF (fun l hl=>kC 7 l (by decide) (by decide) hl) hc.next
  sp:=D.sp.keep kF
  kc:=D.kc
  gx:=fun l hl=>⟨ltn l (D.gx l hl).1,(D.gx l hl).2⟩ }
end
end Go.Proofs.YtiepamfpilhcjaaDoor.Hx
