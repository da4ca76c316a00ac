/-
  NARROWER THAN 'FOR EVERY INPUT', by the rows' own cells (each row's printed sentence says how): DeadKnown: laid · DeadAsked: laid · DeadAgain: laid · NumberKnown: laid · NumberOnce: laid · FoldKnown: laid · FoldLeaves: laid · FoldConst: laid.
  DERIVED. THE GIVEN ROWS OF THIS SEAT. 8 by the template 'for every input the law returns true; each argument reads behind the call as it read before'; 0 by the template 'total and deterministic' (their statements: YtpnddokajmjpbaaDoorTotals.lean).
  GIVEN WITH THE SEED: the statements are not yours to turn. If you find one false, say at which input.
  Laid BY PROGRAM, IN A SANDBOX (cutbox-rows.mjs): the forced cells as the released guide's own fill.sh prints them over the translation 36fb59d694cacc96… (all of the seat's roots in one cut). By AI agents, Wed Nov 11 2026. No macro, syntax, notation, axiom, sorry.
-/
import Derived.Test.YtpnddokajmjpbaaDoorChecked
import GoSem.PinnedTables
import GoSem.Claim
import GoSem.ClaimJoined
import GoSem.ClaimMapViews
import Derived.JoinedTies
import Derived.KernelRfl
namespace Go.Proofs.YtpnddokajmjpbaaDoor
/- THE CELL 'sum', in the pinned program and in every row, IS THE sha256 OF THE DUMP (.gsa) THAT YtpnddokajmjpbaaDoorProg.lean LOADS. Nothing in Lean hashes anything: it is a label: what it is worth is what the hold of that sum in a sandbox is worth. -/
noncomputable def Tryd.pinned : Pinned := { name := "ytpnddokajmjpbaadoor", sum := "36fb59d694cacc960e003385384b3024ab01d390e29d7b1060313329375245ca", checked := Tryd.checked }
namespace Rows
def none {H : Type} : Left H := { results := [], args := [] }

/- WHAT THE LISTED PACKAGE-LEVEL VARIABLES READ AS WHEN THE CALL BEGINS. Each datum BY PROGRAM (the guide's laid-datum.mjs) off the statement by which the dump's own 'gosem.cut.vars' lays the variable. In a bare row this is a premise. The card (YtpnddokajmjpbaaDoorCards.lean) ties it to the program's text. -/
def laid_unicode_utf8_acceptRanges {H : Type} : DataW H := .agg [.agg [.lit (.int .u8 128), .lit (.int .u8 191)], .agg [.lit (.int .u8 160), .lit (.int .u8 191)], .agg [.lit (.int .u8 128), .lit (.int .u8 159)], .agg [.lit (.int .u8 144), .lit (.int .u8 191)], .agg [.lit (.int .u8 128), .lit (.int .u8 143)], .agg [.lit (.int .u8 0), .lit (.int .u8 0)], .agg [.lit (.int .u8 0), .lit (.int .u8 0)], .agg [.lit (.int .u8 0), .lit (.int .u8 0)], .agg [.lit (.int .u8 0), .lit (.int .u8 0)], .agg [.lit (.int .u8 0), .lit (.int .u8 0)], .agg [.lit (.int .u8 0), .lit (.int .u8 0)], .agg [.lit (.int .u8 0), .lit (.int .u8 0)], .agg [.lit (.int .u8 0), .lit (.int .u8 0)], .agg [.lit (.int .u8 0), .lit (.int .u8 0)], .agg [.lit (.int .u8 0), .lit (.int .u8 0)], .agg [.lit (.int .u8 0), .lit (.int .u8 0)]]
/-- One of Go's own tables, pinned by name: the form's constant. -/
def laid_unicode_utf8_first : DataW Unit := Go.Pinned.utf8First

/-- 'turnstonelaw20.DeadKnown': WHATEVER THE INPUT: true; the input reads as it did. -/
def deadKnownSpec : ChangeSpec := { name := "deadKnown", fn := fun _ => fun
  | [] => { results := [.lit (.bool true)], args := [] }
  | _ => none }
def deadKnownRow : OpenClaim := { program := "ytpnddokajmjpbaadoor", sum := "36fb59d694cacc960e003385384b3024ab01d390e29d7b1060313329375245ca", func := "turnstone/turnstonelaw20.DeadKnown", spec := "deadKnown", inPlace := ["internal/bytealg.CountString", "internal/bytealg.IndexByteString", "internal/bytealg.IndexString"], unfollowed := true, recurses := true, named := ["unicode/utf8.first", "unicode/utf8.acceptRanges", "internal/bytealg.MaxLen"], plainKeys := false, apart := false, laid := [("unicode/utf8.acceptRanges", laid_unicode_utf8_acceptRanges), ("unicode/utf8.first", laid_unicode_utf8_first)] }
def DeadKnownSaid : Prop := deadKnownRow.holds Tryd.pinned (OpenSpec.ofChange deadKnownSpec)

/-- ITS FALSE NEIGHBOUR: 'it returns false'. Refute it at one input. -/
def deadKnownWrong : ChangeSpec := { name := "deadKnown", fn := fun _ => fun
  | [] => { results := [.lit (.bool false)], args := [] }
  | _ => none }
def DeadKnownWrongFalsely : Prop := deadKnownRow.holds Tryd.pinned (OpenSpec.ofChange deadKnownWrong)

/-- 'turnstonelaw20.DeadAsked': WHATEVER THE INPUT: true; the input reads as it did. -/
def deadAskedSpec : ChangeSpec := { name := "deadAsked", fn := fun _ => fun
  | [d] => { results := [.lit (.bool true)], args := [d] }
  | _ => none }
def deadAskedRow : OpenClaim := { program := "ytpnddokajmjpbaadoor", sum := "36fb59d694cacc960e003385384b3024ab01d390e29d7b1060313329375245ca", func := "turnstone/turnstonelaw20.DeadAsked", spec := "deadAsked", inPlace := ["internal/bytealg.CountString", "internal/bytealg.IndexByteString", "internal/bytealg.IndexString"], unfollowed := true, recurses := true, named := ["unicode/utf8.first", "unicode/utf8.acceptRanges", "internal/bytealg.MaxLen"], plainKeys := false, apart := false, laid := [("unicode/utf8.acceptRanges", laid_unicode_utf8_acceptRanges), ("unicode/utf8.first", laid_unicode_utf8_first)] }
def DeadAskedSaid : Prop := deadAskedRow.holds Tryd.pinned (OpenSpec.ofChange deadAskedSpec)

/-- ITS FALSE NEIGHBOUR: 'it returns false'. Refute it at one input. -/
def deadAskedWrong : ChangeSpec := { name := "deadAsked", fn := fun _ => fun
  | [d] => { results := [.lit (.bool false)], args := [d] }
  | _ => none }
def DeadAskedWrongFalsely : Prop := deadAskedRow.holds Tryd.pinned (OpenSpec.ofChange deadAskedWrong)

/-- 'turnstonelaw20.DeadAgain': WHATEVER THE INPUT: true; the input reads as it did. -/
def deadAgainSpec : ChangeSpec := { name := "deadAgain", fn := fun _ => fun
  | [d1, d2, d3, d4] => { results := [.lit (.bool true)], args := [d1, d2, d3, d4] }
  | _ => none }
def deadAgainRow : OpenClaim := { program := "ytpnddokajmjpbaadoor", sum := "36fb59d694cacc960e003385384b3024ab01d390e29d7b1060313329375245ca", func := "turnstone/turnstonelaw20.DeadAgain", spec := "deadAgain", inPlace := ["internal/bytealg.CountString", "internal/bytealg.IndexByteString", "internal/bytealg.IndexString"], unfollowed := true, recurses := true, named := ["unicode/utf8.first", "unicode/utf8.acceptRanges", "internal/bytealg.MaxLen"], plainKeys := false, apart := false, laid := [("unicode/utf8.acceptRanges", laid_unicode_utf8_acceptRanges), ("unicode/utf8.first", laid_unicode_utf8_first)] }
def DeadAgainSaid : Prop := deadAgainRow.holds Tryd.pinned (OpenSpec.ofChange deadAgainSpec)

/-- ITS FALSE NEIGHBOUR: 'it returns false'. Refute it at one input. -/
def deadAgainWrong : ChangeSpec := { name := "deadAgain", fn := fun _ => fun
  | [d1, d2, d3, d4] => { results := [.lit (.bool false)], args := [d1, d2, d3, d4] }
  | _ => none }
def DeadAgainWrongFalsely : Prop := deadAgainRow.holds Tryd.pinned (OpenSpec.ofChange deadAgainWrong)

/-- 'turnstonelaw19.NumberKnown': WHATEVER THE INPUT: true; the input reads as it did. -/
def numberKnownSpec : ChangeSpec := { name := "numberKnown", fn := fun _ => fun
  | [] => { results := [.lit (.bool true)], args := [] }
  | _ => none }
def numberKnownRow : OpenClaim := { program := "ytpnddokajmjpbaadoor", sum := "36fb59d694cacc960e003385384b3024ab01d390e29d7b1060313329375245ca", func := "turnstone/turnstonelaw19.NumberKnown", spec := "numberKnown", inPlace := ["internal/bytealg.CountString", "internal/bytealg.IndexByteString", "internal/bytealg.IndexString"], unfollowed := true, recurses := true, named := ["unicode/utf8.first", "unicode/utf8.acceptRanges", "internal/bytealg.MaxLen"], plainKeys := false, apart := false, laid := [("unicode/utf8.acceptRanges", laid_unicode_utf8_acceptRanges), ("unicode/utf8.first", laid_unicode_utf8_first)] }
def NumberKnownSaid : Prop := numberKnownRow.holds Tryd.pinned (OpenSpec.ofChange numberKnownSpec)

/-- ITS FALSE NEIGHBOUR: 'it returns false'. Refute it at one input. -/
def numberKnownWrong : ChangeSpec := { name := "numberKnown", fn := fun _ => fun
  | [] => { results := [.lit (.bool false)], args := [] }
  | _ => none }
def NumberKnownWrongFalsely : Prop := numberKnownRow.holds Tryd.pinned (OpenSpec.ofChange numberKnownWrong)

/-- 'turnstonelaw19.NumberOnce': WHATEVER THE INPUT: true; the input reads as it did. -/
def numberOnceSpec : ChangeSpec := { name := "numberOnce", fn := fun _ => fun
  | [d] => { results := [.lit (.bool true)], args := [d] }
  | _ => none }
def numberOnceRow : OpenClaim := { program := "ytpnddokajmjpbaadoor", sum := "36fb59d694cacc960e003385384b3024ab01d390e29d7b1060313329375245ca", func := "turnstone/turnstonelaw19.NumberOnce", spec := "numberOnce", inPlace := ["internal/bytealg.CountString", "internal/bytealg.IndexByteString", "internal/bytealg.IndexString"], unfollowed := true, recurses := true, named := ["unicode/utf8.first", "unicode/utf8.acceptRanges", "internal/bytealg.MaxLen"], plainKeys := false, apart := false, laid := [("unicode/utf8.acceptRanges", laid_unicode_utf8_acceptRanges), ("unicode/utf8.first", laid_unicode_utf8_first)] }
def NumberOnceSaid : Prop := numberOnceRow.holds Tryd.pinned (OpenSpec.ofChange numberOnceSpec)

/-- ITS FALSE NEIGHBOUR: 'it returns false'. Refute it at one input. -/
def numberOnceWrong : ChangeSpec := { name := "numberOnce", fn := fun _ => fun
  | [d] => { results := [.lit (.bool false)], args := [d] }
  | _ => none }
def NumberOnceWrongFalsely : Prop := numberOnceRow.holds Tryd.pinned (OpenSpec.ofChange numberOnceWrong)

/-- 'turnstonelaw18.FoldKnown': WHATEVER THE INPUT: true; the input reads as it did. -/
def foldKnownSpec : ChangeSpec := { name := "foldKnown", fn := fun _ => fun
  | [] => { results := [.lit (.bool true)], args := [] }
  | _ => none }
def foldKnownRow : OpenClaim := { program := "ytpnddokajmjpbaadoor", sum := "36fb59d694cacc960e003385384b3024ab01d390e29d7b1060313329375245ca", func := "turnstone/turnstonelaw18.FoldKnown", spec := "foldKnown", inPlace := ["internal/bytealg.CountString", "internal/bytealg.IndexByteString", "internal/bytealg.IndexString"], unfollowed := true, recurses := true, named := ["unicode/utf8.first", "unicode/utf8.acceptRanges", "internal/bytealg.MaxLen"], plainKeys := false, apart := false, laid := [("unicode/utf8.acceptRanges", laid_unicode_utf8_acceptRanges), ("unicode/utf8.first", laid_unicode_utf8_first)] }
def FoldKnownSaid : Prop := foldKnownRow.holds Tryd.pinned (OpenSpec.ofChange foldKnownSpec)

/-- ITS FALSE NEIGHBOUR: 'it returns false'. Refute it at one input. -/
def foldKnownWrong : ChangeSpec := { name := "foldKnown", fn := fun _ => fun
  | [] => { results := [.lit (.bool false)], args := [] }
  | _ => none }
def FoldKnownWrongFalsely : Prop := foldKnownRow.holds Tryd.pinned (OpenSpec.ofChange foldKnownWrong)

/-- 'turnstonelaw18.FoldLeaves': WHATEVER THE INPUT: true; the input reads as it did. -/
def foldLeavesSpec : ChangeSpec := { name := "foldLeaves", fn := fun _ => fun
  | [d] => { results := [.lit (.bool true)], args := [d] }
  | _ => none }
def foldLeavesRow : OpenClaim := { program := "ytpnddokajmjpbaadoor", sum := "36fb59d694cacc960e003385384b3024ab01d390e29d7b1060313329375245ca", func := "turnstone/turnstonelaw18.FoldLeaves", spec := "foldLeaves", inPlace := ["internal/bytealg.CountString", "internal/bytealg.IndexByteString", "internal/bytealg.IndexString"], unfollowed := true, recurses := true, named := ["unicode/utf8.first", "unicode/utf8.acceptRanges", "internal/bytealg.MaxLen"], plainKeys := false, apart := false, laid := [("unicode/utf8.acceptRanges", laid_unicode_utf8_acceptRanges), ("unicode/utf8.first", laid_unicode_utf8_first)] }
def FoldLeavesSaid : Prop := foldLeavesRow.holds Tryd.pinned (OpenSpec.ofChange foldLeavesSpec)

/-- ITS FALSE NEIGHBOUR: 'it returns false'. Refute it at one input. -/
def foldLeavesWrong : ChangeSpec := { name := "foldLeaves", fn := fun _ => fun
  | [d] => { results := [.lit (.bool false)], args := [d] }
  | _ => none }
def FoldLeavesWrongFalsely : Prop := foldLeavesRow.holds Tryd.pinned (OpenSpec.ofChange foldLeavesWrong)

/-- 'turnstonelaw18.FoldConst': WHATEVER THE INPUT: true; the input reads as it did. -/
def foldConstSpec : ChangeSpec := { name := "foldConst", fn := fun _ => fun
  | [d1, d2] => { results := [.lit (.bool true)], args := [d1, d2] }
  | _ => none }
def foldConstRow : OpenClaim := { program := "ytpnddokajmjpbaadoor", sum := "36fb59d694cacc960e003385384b3024ab01d390e29d7b1060313329375245ca", func := "turnstone/turnstonelaw18.FoldConst", spec := "foldConst", inPlace := ["internal/bytealg.CountString", "internal/bytealg.IndexByteString", "internal/bytealg.IndexString"], unfollowed := true, recurses := true, named := ["unicode/utf8.first", "unicode/utf8.acceptRanges", "internal/bytealg.MaxLen"], plainKeys := false, apart := false, laid := [("unicode/utf8.acceptRanges", laid_unicode_utf8_acceptRanges), ("unicode/utf8.first", laid_unicode_utf8_first)] }
def FoldConstSaid : Prop := foldConstRow.holds Tryd.pinned (OpenSpec.ofChange foldConstSpec)

/-- ITS FALSE NEIGHBOUR: 'it returns false'. Refute it at one input. -/
def foldConstWrong : ChangeSpec := { name := "foldConst", fn := fun _ => fun
  | [d1, d2] => { results := [.lit (.bool false)], args := [d1, d2] }
  | _ => none }
def FoldConstWrongFalsely : Prop := foldConstRow.holds Tryd.pinned (OpenSpec.ofChange foldConstWrong)

/- THE SECOND FORM. 'bulk': how many values and letters a reading holds, each counted each time it is reached (what is shared counts as often as it is met; a slice's spare places count too). A statement '..UptoSaid' is the law's where the arguments, and the package variables that the reading takes, are together of bulk at most 1048576: NARROWER than '..Said'. Prove '..Said' where nothing that the law and all that it calls make is longer than what came in: it says more and counts as full. Else prove '..UptoSaid'. A law counts once. -/
mutual
def uptoBulk {H : Type} : DataW H → Nat
  | .lit (.string bytes) => bytes.length + 1
  | .lit _ => 1
  | .nil => 1
  | .ptr d => uptoBulk d + 1
  | .slice elems spare => uptoBulkAll elems + uptoBulkAll spare + 1
  | .agg parts => uptoBulkAll parts + 1
  | .iface _ d => uptoBulk d + 1
  | .map entries => uptoBulkEntries entries + 1
  | .held _ => 1
def uptoBulkAll {H : Type} : List (DataW H) → Nat
  | [] => 0
  | d :: r => uptoBulk d + uptoBulkAll r
def uptoBulkEntries {H : Type} : List (Lit × DataW H) → Nat
  | [] => 0
  | x :: r => uptoBulkEntry x + uptoBulkEntries r
def uptoBulkEntry {H : Type} : Lit × DataW H → Nat
  | (.string bytes, d) => bytes.length + uptoBulk d + 1
  | (_, d) => uptoBulk d + 1
 end
def uptoSmall : (H : Type) → List (DataW H) → Bool := fun _ ds => decide (uptoBulkAll ds ≤ 1048576)
def OpenSpec.upto (s : _root_.Go.ChangeSpec) : _root_.Go.OpenSpec := { _root_.Go.OpenSpec.ofChange s with cond := some uptoSmall }

/-- 'turnstonelaw20.DeadKnown', WHERE WHAT IT READS IS OF BULK AT MOST 1048576: true; the input reads as it did. -/
def deadKnownUptoRow : OpenClaim := { program := "ytpnddokajmjpbaadoor", sum := "36fb59d694cacc960e003385384b3024ab01d390e29d7b1060313329375245ca", func := "turnstone/turnstonelaw20.DeadKnown", spec := "deadKnown", inPlace := ["internal/bytealg.CountString", "internal/bytealg.IndexByteString", "internal/bytealg.IndexString"], unfollowed := true, recurses := true, named := ["unicode/utf8.first", "unicode/utf8.acceptRanges", "internal/bytealg.MaxLen"], plainKeys := false, apart := false, laid := [("unicode/utf8.acceptRanges", laid_unicode_utf8_acceptRanges), ("unicode/utf8.first", laid_unicode_utf8_first)], narrowed := true }
def DeadKnownUptoSaid : Prop := deadKnownUptoRow.holds Tryd.pinned (OpenSpec.upto deadKnownSpec)

/-- 'turnstonelaw20.DeadAsked', WHERE WHAT IT READS IS OF BULK AT MOST 1048576: true; the input reads as it did. -/
def deadAskedUptoRow : OpenClaim := { program := "ytpnddokajmjpbaadoor", sum := "36fb59d694cacc960e003385384b3024ab01d390e29d7b1060313329375245ca", func := "turnstone/turnstonelaw20.DeadAsked", spec := "deadAsked", inPlace := ["internal/bytealg.CountString", "internal/bytealg.IndexByteString", "internal/bytealg.IndexString"], unfollowed := true, recurses := true, named := ["unicode/utf8.first", "unicode/utf8.acceptRanges", "internal/bytealg.MaxLen"], plainKeys := false, apart := false, laid := [("unicode/utf8.acceptRanges", laid_unicode_utf8_acceptRanges), ("unicode/utf8.first", laid_unicode_utf8_first)], narrowed := true }
def DeadAskedUptoSaid : Prop := deadAskedUptoRow.holds Tryd.pinned (OpenSpec.upto deadAskedSpec)

/-- 'turnstonelaw20.DeadAgain', WHERE WHAT IT READS IS OF BULK AT MOST 1048576: true; the input reads as it did. -/
def deadAgainUptoRow : OpenClaim := { program := "ytpnddokajmjpbaadoor", sum := "36fb59d694cacc960e003385384b3024ab01d390e29d7b1060313329375245ca", func := "turnstone/turnstonelaw20.DeadAgain", spec := "deadAgain", inPlace := ["internal/bytealg.CountString", "internal/bytealg.IndexByteString", "internal/bytealg.IndexString"], unfollowed := true, recurses := true, named := ["unicode/utf8.first", "unicode/utf8.acceptRanges", "internal/bytealg.MaxLen"], plainKeys := false, apart := false, laid := [("unicode/utf8.acceptRanges", laid_unicode_utf8_acceptRanges), ("unicode/utf8.first", laid_unicode_utf8_first)], narrowed := true }
def DeadAgainUptoSaid : Prop := deadAgainUptoRow.holds Tryd.pinned (OpenSpec.upto deadAgainSpec)

/-- 'turnstonelaw19.NumberKnown', WHERE WHAT IT READS IS OF BULK AT MOST 1048576: true; the input reads as it did. -/
def numberKnownUptoRow : OpenClaim := { program := "ytpnddokajmjpbaadoor", sum := "36fb59d694cacc960e003385384b3024ab01d390e29d7b1060313329375245ca", func := "turnstone/turnstonelaw19.NumberKnown", spec := "numberKnown", inPlace := ["internal/bytealg.CountString", "internal/bytealg.IndexByteString", "internal/bytealg.IndexString"], unfollowed := true, recurses := true, named := ["unicode/utf8.first", "unicode/utf8.acceptRanges", "internal/bytealg.MaxLen"], plainKeys := false, apart := false, laid := [("unicode/utf8.acceptRanges", laid_unicode_utf8_acceptRanges), ("unicode/utf8.first", laid_unicode_utf8_first)], narrowed := true }
def NumberKnownUptoSaid : Prop := numberKnownUptoRow.holds Tryd.pinned (OpenSpec.upto numberKnownSpec)

/-- 'turnstonelaw19.NumberOnce', WHERE WHAT IT READS IS OF BULK AT MOST 1048576: true; the input reads as it did. -/
def numberOnceUptoRow : OpenClaim := { program := "ytpnddokajmjpbaadoor", sum := "36fb59d694cacc960e003385384b3024ab01d390e29d7b1060313329375245ca", func := "turnstone/turnstonelaw19.NumberOnce", spec := "numberOnce", inPlace := ["internal/bytealg.CountString", "internal/bytealg.IndexByteString", "internal/bytealg.IndexString"], unfollowed := true, recurses := true, named := ["unicode/utf8.first", "unicode/utf8.acceptRanges", "internal/bytealg.MaxLen"], plainKeys := false, apart := false, laid := [("unicode/utf8.acceptRanges", laid_unicode_utf8_acceptRanges), ("unicode/utf8.first", laid_unicode_utf8_first)], narrowed := true }
def NumberOnceUptoSaid : Prop := numberOnceUptoRow.holds Tryd.pinned (OpenSpec.upto numberOnceSpec)

/-- 'turnstonelaw18.FoldKnown', WHERE WHAT IT READS IS OF BULK AT MOST 1048576: true; the input reads as it did. -/
def foldKnownUptoRow : OpenClaim := { program := "ytpnddokajmjpbaadoor", sum := "36fb59d694cacc960e003385384b3024ab01d390e29d7b1060313329375245ca", func := "turnstone/turnstonelaw18.FoldKnown", spec := "foldKnown", inPlace := ["internal/bytealg.CountString", "internal/bytealg.IndexByteString", "internal/bytealg.IndexString"], unfollowed := true, recurses := true, named := ["unicode/utf8.first", "unicode/utf8.acceptRanges", "internal/bytealg.MaxLen"], plainKeys := false, apart := false, laid := [("unicode/utf8.acceptRanges", laid_unicode_utf8_acceptRanges), ("unicode/utf8.first", laid_unicode_utf8_first)], narrowed := true }
def FoldKnownUptoSaid : Prop := foldKnownUptoRow.holds Tryd.pinned (OpenSpec.upto foldKnownSpec)

/-- 'turnstonelaw18.FoldLeaves', WHERE WHAT IT READS IS OF BULK AT MOST 1048576: true; the input reads as it did. -/
def foldLeavesUptoRow : OpenClaim := { program := "ytpnddokajmjpbaadoor", sum := "36fb59d694cacc960e003385384b3024ab01d390e29d7b1060313329375245ca", func := "turnstone/turnstonelaw18.FoldLeaves", spec := "foldLeaves", inPlace := ["internal/bytealg.CountString", "internal/bytealg.IndexByteString", "internal/bytealg.IndexString"], unfollowed := true, recurses := true, named := ["unicode/utf8.first", "unicode/utf8.acceptRanges", "internal/bytealg.MaxLen"], plainKeys := false, apart := false, laid := [("unicode/utf8.acceptRanges", laid_unicode_utf8_acceptRanges), ("unicode/utf8.first", laid_unicode_utf8_first)], narrowed := true }
def FoldLeavesUptoSaid : Prop := foldLeavesUptoRow.holds Tryd.pinned (OpenSpec.upto foldLeavesSpec)

/-- 'turnstonelaw18.FoldConst', WHERE WHAT IT READS IS OF BULK AT MOST 1048576: true; the input reads as it did. -/
def foldConstUptoRow : OpenClaim := { program := "ytpnddokajmjpbaadoor", sum := "36fb59d694cacc960e003385384b3024ab01d390e29d7b1060313329375245ca", func := "turnstone/turnstonelaw18.FoldConst", spec := "foldConst", inPlace := ["internal/bytealg.CountString", "internal/bytealg.IndexByteString", "internal/bytealg.IndexString"], unfollowed := true, recurses := true, named := ["unicode/utf8.first", "unicode/utf8.acceptRanges", "internal/bytealg.MaxLen"], plainKeys := false, apart := false, laid := [("unicode/utf8.acceptRanges", laid_unicode_utf8_acceptRanges), ("unicode/utf8.first", laid_unicode_utf8_first)], narrowed := true }
def FoldConstUptoSaid : Prop := foldConstUptoRow.holds Tryd.pinned (OpenSpec.upto foldConstSpec)

end Rows
end Go.Proofs.YtpnddokajmjpbaaDoor
