/-
  NARROWER THAN 'FOR EVERY INPUT', by the rows' own cells (each row's printed sentence says how): WatchPlain: laid · WatchWaits: laid · WatchApart: laid · WatchTakes: laid · WatchAlternates: laid · WatchFlaps: laid.
  DERIVED. THE GIVEN ROWS OF THIS SEAT. 6 by the template 'for every input the law returns true; each argument reads behind the call as it read before'; 0 by the template 'total and deterministic' (their statements: YtcpgkdaicglogaaGreatDoorTotals.lean).
  GIVEN WITH THE SEED: the statements are not yours to turn. If you find one false, say at which input.
  Laid BY PROGRAM, IN A SANDBOX (cutbox-rows.mjs): the forced cells as the released guide's own fill.sh prints them over the translation 306f7997f8292549… (all of the seat's roots in one cut). By AI agents, Wed Nov 11 2026. No macro, syntax, notation, axiom, sorry.
-/
import Derived.Test.YtcpgkdaicglogaaGreatDoorChecked
import GoSem.PinnedTables
import GoSem.Claim
import GoSem.ClaimJoined
import GoSem.ClaimMapViews
import Derived.JoinedTies
import Derived.KernelRfl
namespace Go.Proofs.YtcpgkdaicglogaaGreatDoor
/- THE CELL 'sum', in the pinned program and in every row, IS THE sha256 OF THE DUMP (.gsa) THAT YtcpgkdaicglogaaGreatDoorProg.lean LOADS. Nothing in Lean hashes anything: it is a label: what it is worth is what the hold of that sum in a sandbox is worth. -/
noncomputable def Tryz.pinned : Pinned := { name := "ytcpgkdaicglogaagreatdoor", sum := "306f7997f829254908919d1b9f17c12ea49e0e87fbf4f9773a28b5f40ef52870", checked := Tryz.checked }
namespace Rows
def none {H : Type} : Left H := { results := [], args := [] }

/- WHAT THE LISTED PACKAGE-LEVEL VARIABLES READ AS WHEN THE CALL BEGINS. Each datum BY PROGRAM (the guide's laid-datum.mjs) off the statement by which the dump's own 'gosem.cut.vars' lays the variable. In a bare row this is a premise. The card (YtcpgkdaicglogaaGreatDoorCards.lean) ties it to the program's text. -/
def laid_unicode_utf8_acceptRanges {H : Type} : DataW H := .agg [.agg [.lit (.int .u8 128), .lit (.int .u8 191)], .agg [.lit (.int .u8 160), .lit (.int .u8 191)], .agg [.lit (.int .u8 128), .lit (.int .u8 159)], .agg [.lit (.int .u8 144), .lit (.int .u8 191)], .agg [.lit (.int .u8 128), .lit (.int .u8 143)], .agg [.lit (.int .u8 0), .lit (.int .u8 0)], .agg [.lit (.int .u8 0), .lit (.int .u8 0)], .agg [.lit (.int .u8 0), .lit (.int .u8 0)], .agg [.lit (.int .u8 0), .lit (.int .u8 0)], .agg [.lit (.int .u8 0), .lit (.int .u8 0)], .agg [.lit (.int .u8 0), .lit (.int .u8 0)], .agg [.lit (.int .u8 0), .lit (.int .u8 0)], .agg [.lit (.int .u8 0), .lit (.int .u8 0)], .agg [.lit (.int .u8 0), .lit (.int .u8 0)], .agg [.lit (.int .u8 0), .lit (.int .u8 0)], .agg [.lit (.int .u8 0), .lit (.int .u8 0)]]
/-- One of Go's own tables, pinned by name: the form's constant. -/
def laid_unicode_utf8_first : DataW Unit := Go.Pinned.utf8First

/-- 'transhipmentlaw14.WatchPlain': WHATEVER THE INPUT: true; the input reads as it did. -/
def watchPlainSpec : ChangeSpec := { name := "watchPlain", fn := fun _ => fun
  | [d1, d2, d3] => { results := [.lit (.bool true)], args := [d1, d2, d3] }
  | _ => none }
def watchPlainRow : OpenClaim := { program := "ytcpgkdaicglogaagreatdoor", sum := "306f7997f829254908919d1b9f17c12ea49e0e87fbf4f9773a28b5f40ef52870", func := "transhipment/transhipmentlaw14.WatchPlain", spec := "watchPlain", inPlace := ["internal/bytealg.CountString", "internal/bytealg.IndexByteString", "internal/bytealg.IndexString", "internal/abi.NoEscape", "internal/bytealg.MakeNoZero", "internal/bytealg.abigen_runtime_cmpstring", "slices.overlaps[transhipment/api.Alert]"], unfollowed := true, recurses := true, named := ["internal/bytealg.MaxLen", "unicode/utf8.first", "unicode/utf8.acceptRanges"], apart := false, laid := [("unicode/utf8.acceptRanges", laid_unicode_utf8_acceptRanges), ("unicode/utf8.first", laid_unicode_utf8_first)] }
def WatchPlainSaid : Prop := watchPlainRow.holds Tryz.pinned (OpenSpec.ofChange watchPlainSpec)

/-- ITS FALSE NEIGHBOUR: 'it returns false'. Refute it at one input. -/
def watchPlainWrong : ChangeSpec := { name := "watchPlain", fn := fun _ => fun
  | [d1, d2, d3] => { results := [.lit (.bool false)], args := [d1, d2, d3] }
  | _ => none }
def WatchPlainWrongFalsely : Prop := watchPlainRow.holds Tryz.pinned (OpenSpec.ofChange watchPlainWrong)

/-- 'transhipmentlaw14.WatchWaits': WHATEVER THE INPUT: true; the input reads as it did. -/
def watchWaitsSpec : ChangeSpec := { name := "watchWaits", fn := fun _ => fun
  | [d1, d2, d3] => { results := [.lit (.bool true)], args := [d1, d2, d3] }
  | _ => none }
def watchWaitsRow : OpenClaim := { program := "ytcpgkdaicglogaagreatdoor", sum := "306f7997f829254908919d1b9f17c12ea49e0e87fbf4f9773a28b5f40ef52870", func := "transhipment/transhipmentlaw14.WatchWaits", spec := "watchWaits", inPlace := ["internal/bytealg.CountString", "internal/bytealg.IndexByteString", "internal/bytealg.IndexString", "internal/abi.NoEscape", "internal/bytealg.MakeNoZero", "internal/bytealg.abigen_runtime_cmpstring", "slices.overlaps[transhipment/api.Alert]"], unfollowed := true, recurses := true, named := ["internal/bytealg.MaxLen", "unicode/utf8.first", "unicode/utf8.acceptRanges"], apart := false, laid := [("unicode/utf8.acceptRanges", laid_unicode_utf8_acceptRanges), ("unicode/utf8.first", laid_unicode_utf8_first)] }
def WatchWaitsSaid : Prop := watchWaitsRow.holds Tryz.pinned (OpenSpec.ofChange watchWaitsSpec)

/-- ITS FALSE NEIGHBOUR: 'it returns false'. Refute it at one input. -/
def watchWaitsWrong : ChangeSpec := { name := "watchWaits", fn := fun _ => fun
  | [d1, d2, d3] => { results := [.lit (.bool false)], args := [d1, d2, d3] }
  | _ => none }
def WatchWaitsWrongFalsely : Prop := watchWaitsRow.holds Tryz.pinned (OpenSpec.ofChange watchWaitsWrong)

/-- 'transhipmentlaw14.WatchApart': WHATEVER THE INPUT: true; the input reads as it did. -/
def watchApartSpec : ChangeSpec := { name := "watchApart", fn := fun _ => fun
  | [d1, d2, d3, d4] => { results := [.lit (.bool true)], args := [d1, d2, d3, d4] }
  | _ => none }
def watchApartRow : OpenClaim := { program := "ytcpgkdaicglogaagreatdoor", sum := "306f7997f829254908919d1b9f17c12ea49e0e87fbf4f9773a28b5f40ef52870", func := "transhipment/transhipmentlaw14.WatchApart", spec := "watchApart", inPlace := ["internal/bytealg.CountString", "internal/bytealg.IndexByteString", "internal/bytealg.IndexString", "internal/abi.NoEscape", "internal/bytealg.MakeNoZero", "internal/bytealg.abigen_runtime_cmpstring", "slices.overlaps[transhipment/api.Alert]"], unfollowed := true, recurses := true, named := ["internal/bytealg.MaxLen", "unicode/utf8.first", "unicode/utf8.acceptRanges"], apart := false, laid := [("unicode/utf8.acceptRanges", laid_unicode_utf8_acceptRanges), ("unicode/utf8.first", laid_unicode_utf8_first)] }
def WatchApartSaid : Prop := watchApartRow.holds Tryz.pinned (OpenSpec.ofChange watchApartSpec)

/-- ITS FALSE NEIGHBOUR: 'it returns false'. Refute it at one input. -/
def watchApartWrong : ChangeSpec := { name := "watchApart", fn := fun _ => fun
  | [d1, d2, d3, d4] => { results := [.lit (.bool false)], args := [d1, d2, d3, d4] }
  | _ => none }
def WatchApartWrongFalsely : Prop := watchApartRow.holds Tryz.pinned (OpenSpec.ofChange watchApartWrong)

/-- 'transhipmentlaw14.WatchTakes': WHATEVER THE INPUT: true; the input reads as it did. -/
def watchTakesSpec : ChangeSpec := { name := "watchTakes", fn := fun _ => fun
  | [d1, d2, d3, d4] => { results := [.lit (.bool true)], args := [d1, d2, d3, d4] }
  | _ => none }
def watchTakesRow : OpenClaim := { program := "ytcpgkdaicglogaagreatdoor", sum := "306f7997f829254908919d1b9f17c12ea49e0e87fbf4f9773a28b5f40ef52870", func := "transhipment/transhipmentlaw14.WatchTakes", spec := "watchTakes", inPlace := ["internal/bytealg.CountString", "internal/bytealg.IndexByteString", "internal/bytealg.IndexString", "internal/abi.NoEscape", "internal/bytealg.MakeNoZero", "internal/bytealg.abigen_runtime_cmpstring", "slices.overlaps[transhipment/api.Alert]"], unfollowed := true, recurses := true, named := ["internal/bytealg.MaxLen", "unicode/utf8.first", "unicode/utf8.acceptRanges"], apart := false, laid := [("unicode/utf8.acceptRanges", laid_unicode_utf8_acceptRanges), ("unicode/utf8.first", laid_unicode_utf8_first)] }
def WatchTakesSaid : Prop := watchTakesRow.holds Tryz.pinned (OpenSpec.ofChange watchTakesSpec)

/-- ITS FALSE NEIGHBOUR: 'it returns false'. Refute it at one input. -/
def watchTakesWrong : ChangeSpec := { name := "watchTakes", fn := fun _ => fun
  | [d1, d2, d3, d4] => { results := [.lit (.bool false)], args := [d1, d2, d3, d4] }
  | _ => none }
def WatchTakesWrongFalsely : Prop := watchTakesRow.holds Tryz.pinned (OpenSpec.ofChange watchTakesWrong)

/-- 'transhipmentlaw14.WatchAlternates': WHATEVER THE INPUT: true; the input reads as it did. -/
def watchAlternatesSpec : ChangeSpec := { name := "watchAlternates", fn := fun _ => fun
  | [d1, d2] => { results := [.lit (.bool true)], args := [d1, d2] }
  | _ => none }
def watchAlternatesRow : OpenClaim := { program := "ytcpgkdaicglogaagreatdoor", sum := "306f7997f829254908919d1b9f17c12ea49e0e87fbf4f9773a28b5f40ef52870", func := "transhipment/transhipmentlaw14.WatchAlternates", spec := "watchAlternates", inPlace := ["internal/bytealg.CountString", "internal/bytealg.IndexByteString", "internal/bytealg.IndexString", "internal/abi.NoEscape", "internal/bytealg.MakeNoZero", "internal/bytealg.abigen_runtime_cmpstring", "slices.overlaps[transhipment/api.Alert]"], unfollowed := true, recurses := true, named := ["internal/bytealg.MaxLen", "unicode/utf8.first", "unicode/utf8.acceptRanges"], apart := false, laid := [("unicode/utf8.acceptRanges", laid_unicode_utf8_acceptRanges), ("unicode/utf8.first", laid_unicode_utf8_first)] }
def WatchAlternatesSaid : Prop := watchAlternatesRow.holds Tryz.pinned (OpenSpec.ofChange watchAlternatesSpec)

/-- ITS FALSE NEIGHBOUR: 'it returns false'. Refute it at one input. -/
def watchAlternatesWrong : ChangeSpec := { name := "watchAlternates", fn := fun _ => fun
  | [d1, d2] => { results := [.lit (.bool false)], args := [d1, d2] }
  | _ => none }
def WatchAlternatesWrongFalsely : Prop := watchAlternatesRow.holds Tryz.pinned (OpenSpec.ofChange watchAlternatesWrong)

/-- 'transhipmentlaw14.WatchFlaps': WHATEVER THE INPUT: true; the input reads as it did. -/
def watchFlapsSpec : ChangeSpec := { name := "watchFlaps", fn := fun _ => fun
  | [d1, d2] => { results := [.lit (.bool true)], args := [d1, d2] }
  | _ => none }
def watchFlapsRow : OpenClaim := { program := "ytcpgkdaicglogaagreatdoor", sum := "306f7997f829254908919d1b9f17c12ea49e0e87fbf4f9773a28b5f40ef52870", func := "transhipment/transhipmentlaw14.WatchFlaps", spec := "watchFlaps", inPlace := ["internal/bytealg.CountString", "internal/bytealg.IndexByteString", "internal/bytealg.IndexString", "internal/abi.NoEscape", "internal/bytealg.MakeNoZero", "internal/bytealg.abigen_runtime_cmpstring", "slices.overlaps[transhipment/api.Alert]"], unfollowed := true, recurses := true, named := ["internal/bytealg.MaxLen", "unicode/utf8.first", "unicode/utf8.acceptRanges"], apart := false, laid := [("unicode/utf8.acceptRanges", laid_unicode_utf8_acceptRanges), ("unicode/utf8.first", laid_unicode_utf8_first)] }
def WatchFlapsSaid : Prop := watchFlapsRow.holds Tryz.pinned (OpenSpec.ofChange watchFlapsSpec)

/-- ITS FALSE NEIGHBOUR: 'it returns false'. Refute it at one input. -/
def watchFlapsWrong : ChangeSpec := { name := "watchFlaps", fn := fun _ => fun
  | [d1, d2] => { results := [.lit (.bool false)], args := [d1, d2] }
  | _ => none }
def WatchFlapsWrongFalsely : Prop := watchFlapsRow.holds Tryz.pinned (OpenSpec.ofChange watchFlapsWrong)

/- THE SECOND FORM. 'bulk': how many values and letters a reading holds, each counted each time it is reached (what is shared counts as often as it is met; a slice's spare places count too). A statement '..UptoSaid' is the law's where the arguments, and the package variables that the reading takes, are together of bulk at most 1048576: NARROWER than '..Said'. Prove '..Said' where nothing that the law and all that it calls make is longer than what came in: it says more and counts as full. Else prove '..UptoSaid'. A law counts once. -/
mutual
def uptoBulk {H : Type} : DataW H → Nat
  | .lit (.string bytes) => bytes.length + 1
  | .lit _ => 1
  | .nil => 1
  | .ptr d => uptoBulk d + 1
  | .slice elems spare => uptoBulkAll elems + uptoBulkAll spare + 1
  | .agg parts => uptoBulkAll parts + 1
  | .iface _ d => uptoBulk d + 1
  | .map entries => uptoBulkEntries entries + 1
  | .held _ => 1
def uptoBulkAll {H : Type} : List (DataW H) → Nat
  | [] => 0
  | d :: r => uptoBulk d + uptoBulkAll r
def uptoBulkEntries {H : Type} : List (Lit × DataW H) → Nat
  | [] => 0
  | x :: r => uptoBulkEntry x + uptoBulkEntries r
def uptoBulkEntry {H : Type} : Lit × DataW H → Nat
  | (.string bytes, d) => bytes.length + uptoBulk d + 1
  | (_, d) => uptoBulk d + 1
 end
def uptoSmall : (H : Type) → List (DataW H) → Bool := fun _ ds => decide (uptoBulkAll ds ≤ 1048576)
def OpenSpec.upto (s : _root_.Go.ChangeSpec) : _root_.Go.OpenSpec := { _root_.Go.OpenSpec.ofChange s with cond := some uptoSmall }

/-- 'transhipmentlaw14.WatchPlain', WHERE WHAT IT READS IS OF BULK AT MOST 1048576: true; the input reads as it did. -/
def watchPlainUptoRow : OpenClaim := { program := "ytcpgkdaicglogaagreatdoor", sum := "306f7997f829254908919d1b9f17c12ea49e0e87fbf4f9773a28b5f40ef52870", func := "transhipment/transhipmentlaw14.WatchPlain", spec := "watchPlain", inPlace := ["internal/bytealg.CountString", "internal/bytealg.IndexByteString", "internal/bytealg.IndexString", "internal/abi.NoEscape", "internal/bytealg.MakeNoZero", "internal/bytealg.abigen_runtime_cmpstring", "slices.overlaps[transhipment/api.Alert]"], unfollowed := true, recurses := true, named := ["internal/bytealg.MaxLen", "unicode/utf8.first", "unicode/utf8.acceptRanges"], apart := false, laid := [("unicode/utf8.acceptRanges", laid_unicode_utf8_acceptRanges), ("unicode/utf8.first", laid_unicode_utf8_first)], narrowed := true }
def WatchPlainUptoSaid : Prop := watchPlainUptoRow.holds Tryz.pinned (OpenSpec.upto watchPlainSpec)

/-- 'transhipmentlaw14.WatchWaits', WHERE WHAT IT READS IS OF BULK AT MOST 1048576: true; the input reads as it did. -/
def watchWaitsUptoRow : OpenClaim := { program := "ytcpgkdaicglogaagreatdoor", sum := "306f7997f829254908919d1b9f17c12ea49e0e87fbf4f9773a28b5f40ef52870", func := "transhipment/transhipmentlaw14.WatchWaits", spec := "watchWaits", inPlace := ["internal/bytealg.CountString", "internal/bytealg.IndexByteString", "internal/bytealg.IndexString", "internal/abi.NoEscape", "internal/bytealg.MakeNoZero", "internal/bytealg.abigen_runtime_cmpstring", "slices.overlaps[transhipment/api.Alert]"], unfollowed := true, recurses := true, named := ["internal/bytealg.MaxLen", "unicode/utf8.first", "unicode/utf8.acceptRanges"], apart := false, laid := [("unicode/utf8.acceptRanges", laid_unicode_utf8_acceptRanges), ("unicode/utf8.first", laid_unicode_utf8_first)], narrowed := true }
def WatchWaitsUptoSaid : Prop := watchWaitsUptoRow.holds Tryz.pinned (OpenSpec.upto watchWaitsSpec)

/-- 'transhipmentlaw14.WatchApart', WHERE WHAT IT READS IS OF BULK AT MOST 1048576: true; the input reads as it did. -/
def watchApartUptoRow : OpenClaim := { program := "ytcpgkdaicglogaagreatdoor", sum := "306f7997f829254908919d1b9f17c12ea49e0e87fbf4f9773a28b5f40ef52870", func := "transhipment/transhipmentlaw14.WatchApart", spec := "watchApart", inPlace := ["internal/bytealg.CountString", "internal/bytealg.IndexByteString", "internal/bytealg.IndexString", "internal/abi.NoEscape", "internal/bytealg.MakeNoZero", "internal/bytealg.abigen_runtime_cmpstring", "slices.overlaps[transhipment/api.Alert]"], unfollowed := true, recurses := true, named := ["internal/bytealg.MaxLen", "unicode/utf8.first", "unicode/utf8.acceptRanges"], apart := false, laid := [("unicode/utf8.acceptRanges", laid_unicode_utf8_acceptRanges), ("unicode/utf8.first", laid_unicode_utf8_first)], narrowed := true }
def WatchApartUptoSaid : Prop := watchApartUptoRow.holds Tryz.pinned (OpenSpec.upto watchApartSpec)

/-- 'transhipmentlaw14.WatchTakes', WHERE WHAT IT READS IS OF BULK AT MOST 1048576: true; the input reads as it did. -/
def watchTakesUptoRow : OpenClaim := { program := "ytcpgkdaicglogaagreatdoor", sum := "306f7997f829254908919d1b9f17c12ea49e0e87fbf4f9773a28b5f40ef52870", func := "transhipment/transhipmentlaw14.WatchTakes", spec := "watchTakes", inPlace := ["internal/bytealg.CountString", "internal/bytealg.IndexByteString", "internal/bytealg.IndexString", "internal/abi.NoEscape", "internal/bytealg.MakeNoZero", "internal/bytealg.abigen_runtime_cmpstring", "slices.overlaps[transhipment/api.Alert]"], unfollowed := true, recurses := true, named := ["internal/bytealg.MaxLen", "unicode/utf8.first", "unicode/utf8.acceptRanges"], apart := false, laid := [("unicode/utf8.acceptRanges", laid_unicode_utf8_acceptRanges), ("unicode/utf8.first", laid_unicode_utf8_first)], narrowed := true }
def WatchTakesUptoSaid : Prop := watchTakesUptoRow.holds Tryz.pinned (OpenSpec.upto watchTakesSpec)

/-- 'transhipmentlaw14.WatchAlternates', WHERE WHAT IT READS IS OF BULK AT MOST 1048576: true; the input reads as it did. -/
def watchAlternatesUptoRow : OpenClaim := { program := "ytcpgkdaicglogaagreatdoor", sum := "306f7997f829254908919d1b9f17c12ea49e0e87fbf4f9773a28b5f40ef52870", func := "transhipment/transhipmentlaw14.WatchAlternates", spec := "watchAlternates", inPlace := ["internal/bytealg.CountString", "internal/bytealg.IndexByteString", "internal/bytealg.IndexString", "internal/abi.NoEscape", "internal/bytealg.MakeNoZero", "internal/bytealg.abigen_runtime_cmpstring", "slices.overlaps[transhipment/api.Alert]"], unfollowed := true, recurses := true, named := ["internal/bytealg.MaxLen", "unicode/utf8.first", "unicode/utf8.acceptRanges"], apart := false, laid := [("unicode/utf8.acceptRanges", laid_unicode_utf8_acceptRanges), ("unicode/utf8.first", laid_unicode_utf8_first)], narrowed := true }
def WatchAlternatesUptoSaid : Prop := watchAlternatesUptoRow.holds Tryz.pinned (OpenSpec.upto watchAlternatesSpec)

/-- 'transhipmentlaw14.WatchFlaps', WHERE WHAT IT READS IS OF BULK AT MOST 1048576: true; the input reads as it did. -/
def watchFlapsUptoRow : OpenClaim := { program := "ytcpgkdaicglogaagreatdoor", sum := "306f7997f829254908919d1b9f17c12ea49e0e87fbf4f9773a28b5f40ef52870", func := "transhipment/transhipmentlaw14.WatchFlaps", spec := "watchFlaps", inPlace := ["internal/bytealg.CountString", "internal/bytealg.IndexByteString", "internal/bytealg.IndexString", "internal/abi.NoEscape", "internal/bytealg.MakeNoZero", "internal/bytealg.abigen_runtime_cmpstring", "slices.overlaps[transhipment/api.Alert]"], unfollowed := true, recurses := true, named := ["internal/bytealg.MaxLen", "unicode/utf8.first", "unicode/utf8.acceptRanges"], apart := false, laid := [("unicode/utf8.acceptRanges", laid_unicode_utf8_acceptRanges), ("unicode/utf8.first", laid_unicode_utf8_first)], narrowed := true }
def WatchFlapsUptoSaid : Prop := watchFlapsUptoRow.holds Tryz.pinned (OpenSpec.upto watchFlapsSpec)

end Rows
end Go.Proofs.YtcpgkdaicglogaaGreatDoor
