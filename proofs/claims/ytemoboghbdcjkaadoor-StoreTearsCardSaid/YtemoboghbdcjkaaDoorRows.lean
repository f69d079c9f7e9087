/-
  NARROWER THAN 'FOR EVERY INPUT', by the rows' own cells (each row's printed sentence says how): StoreTurns: laid · StoreSafe: laid · StoreTears: laid · StoreRecords: laid.
  DERIVED. THE GIVEN ROWS OF THIS SEAT. 4 by the template 'for every input the law returns true; each argument reads behind the call as it read before'; 0 by the template 'total and deterministic' (their statements: YtemoboghbdcjkaaDoorTotals.lean).
  GIVEN WITH THE SEED: the statements are not yours to turn. If you find one false, say at which input.
  Laid BY PROGRAM, IN A SANDBOX (cutbox-rows.mjs): the forced cells as the released guide's own fill.sh prints them over the translation 732f17b3dbfb3bac… (all of the seat's roots in one cut). By AI agents, Wed Nov 11 2026. No macro, syntax, notation, axiom, sorry.
-/
import Derived.Test.YtemoboghbdcjkaaDoorChecked
import GoSem.PinnedTables
import GoSem.Claim
import GoSem.ClaimJoined
import GoSem.ClaimMapViews
import Derived.JoinedTies
import Derived.KernelRfl
namespace Go.Proofs.YtemoboghbdcjkaaDoor
/- THE CELL 'sum', in the pinned program and in every row, IS THE sha256 OF THE DUMP (.gsa) THAT YtemoboghbdcjkaaDoorProg.lean LOADS. Nothing in Lean hashes anything: it is a label: what it is worth is what the hold of that sum in a sandbox is worth. -/
noncomputable def Tryd.pinned : Pinned := { name := "ytemoboghbdcjkaadoor", sum := "732f17b3dbfb3bac28b553e1ad14438e87f11aff64c2560edcd0c37109705fa6", checked := Tryd.checked }
namespace Rows
def none {H : Type} : Left H := { results := [], args := [] }

/- WHAT THE LISTED PACKAGE-LEVEL VARIABLES READ AS WHEN THE CALL BEGINS. Each datum BY PROGRAM (the guide's laid-datum.mjs) off the statement by which the dump's own 'gosem.cut.vars' lays the variable. In a bare row this is a premise. The card (YtemoboghbdcjkaaDoorCards.lean) ties it to the program's text. -/
def laid_unicode_utf8_acceptRanges {H : Type} : DataW H := .agg [.agg [.lit (.int .u8 128), .lit (.int .u8 191)], .agg [.lit (.int .u8 160), .lit (.int .u8 191)], .agg [.lit (.int .u8 128), .lit (.int .u8 159)], .agg [.lit (.int .u8 144), .lit (.int .u8 191)], .agg [.lit (.int .u8 128), .lit (.int .u8 143)], .agg [.lit (.int .u8 0), .lit (.int .u8 0)], .agg [.lit (.int .u8 0), .lit (.int .u8 0)], .agg [.lit (.int .u8 0), .lit (.int .u8 0)], .agg [.lit (.int .u8 0), .lit (.int .u8 0)], .agg [.lit (.int .u8 0), .lit (.int .u8 0)], .agg [.lit (.int .u8 0), .lit (.int .u8 0)], .agg [.lit (.int .u8 0), .lit (.int .u8 0)], .agg [.lit (.int .u8 0), .lit (.int .u8 0)], .agg [.lit (.int .u8 0), .lit (.int .u8 0)], .agg [.lit (.int .u8 0), .lit (.int .u8 0)], .agg [.lit (.int .u8 0), .lit (.int .u8 0)]]
/-- One of Go's own tables, pinned by name: the form's constant. -/
def laid_unicode_utf8_first : DataW Unit := Go.Pinned.utf8First

/-- 'transhipmentlaw19.StoreTurns': WHATEVER THE INPUT: true; the input reads as it did. -/
def storeTurnsSpec : ChangeSpec := { name := "storeTurns", fn := fun _ => fun
  | [d1, d2, d3] => { results := [.lit (.bool true)], args := [d1, d2, d3] }
  | _ => none }
def storeTurnsRow : OpenClaim := { program := "ytemoboghbdcjkaadoor", sum := "732f17b3dbfb3bac28b553e1ad14438e87f11aff64c2560edcd0c37109705fa6", func := "transhipment/transhipmentlaw19.StoreTurns", spec := "storeTurns", inPlace := ["internal/bytealg.IndexByteString", "internal/bytealg.IndexString", "internal/bytealg.abigen_runtime_cmpstring", "slices.overlaps[transhipment/api.File]"], unfollowed := true, recurses := true, named := ["unicode/utf8.first", "unicode/utf8.acceptRanges", "internal/bytealg.MaxLen"], apart := false, laid := [("unicode/utf8.acceptRanges", laid_unicode_utf8_acceptRanges), ("unicode/utf8.first", laid_unicode_utf8_first)] }
def StoreTurnsSaid : Prop := storeTurnsRow.holds Tryd.pinned (OpenSpec.ofChange storeTurnsSpec)

/-- ITS FALSE NEIGHBOUR: 'it returns false'. Refute it at one input. -/
def storeTurnsWrong : ChangeSpec := { name := "storeTurns", fn := fun _ => fun
  | [d1, d2, d3] => { results := [.lit (.bool false)], args := [d1, d2, d3] }
  | _ => none }
def StoreTurnsWrongFalsely : Prop := storeTurnsRow.holds Tryd.pinned (OpenSpec.ofChange storeTurnsWrong)

/-- 'transhipmentlaw19.StoreSafe': WHATEVER THE INPUT: true; the input reads as it did. -/
def storeSafeSpec : ChangeSpec := { name := "storeSafe", fn := fun _ => fun
  | [d1, d2, d3] => { results := [.lit (.bool true)], args := [d1, d2, d3] }
  | _ => none }
def storeSafeRow : OpenClaim := { program := "ytemoboghbdcjkaadoor", sum := "732f17b3dbfb3bac28b553e1ad14438e87f11aff64c2560edcd0c37109705fa6", func := "transhipment/transhipmentlaw19.StoreSafe", spec := "storeSafe", inPlace := ["internal/bytealg.IndexByteString", "internal/bytealg.IndexString", "internal/bytealg.abigen_runtime_cmpstring", "slices.overlaps[transhipment/api.File]"], unfollowed := true, recurses := true, named := ["unicode/utf8.first", "unicode/utf8.acceptRanges", "internal/bytealg.MaxLen"], apart := false, laid := [("unicode/utf8.acceptRanges", laid_unicode_utf8_acceptRanges), ("unicode/utf8.first", laid_unicode_utf8_first)] }
def StoreSafeSaid : Prop := storeSafeRow.holds Tryd.pinned (OpenSpec.ofChange storeSafeSpec)

/-- ITS FALSE NEIGHBOUR: 'it returns false'. Refute it at one input. -/
def storeSafeWrong : ChangeSpec := { name := "storeSafe", fn := fun _ => fun
  | [d1, d2, d3] => { results := [.lit (.bool false)], args := [d1, d2, d3] }
  | _ => none }
def StoreSafeWrongFalsely : Prop := storeSafeRow.holds Tryd.pinned (OpenSpec.ofChange storeSafeWrong)

/-- 'transhipmentlaw19.StoreTears': WHATEVER THE INPUT: true; the input reads as it did. -/
def storeTearsSpec : ChangeSpec := { name := "storeTears", fn := fun _ => fun
  | [d1, d2, d3, d4] => { results := [.lit (.bool true)], args := [d1, d2, d3, d4] }
  | _ => none }
def storeTearsRow : OpenClaim := { program := "ytemoboghbdcjkaadoor", sum := "732f17b3dbfb3bac28b553e1ad14438e87f11aff64c2560edcd0c37109705fa6", func := "transhipment/transhipmentlaw19.StoreTears", spec := "storeTears", inPlace := ["internal/bytealg.IndexByteString", "internal/bytealg.IndexString", "internal/bytealg.abigen_runtime_cmpstring", "slices.overlaps[transhipment/api.File]"], unfollowed := true, recurses := true, named := ["unicode/utf8.first", "unicode/utf8.acceptRanges", "internal/bytealg.MaxLen"], apart := false, laid := [("unicode/utf8.acceptRanges", laid_unicode_utf8_acceptRanges), ("unicode/utf8.first", laid_unicode_utf8_first)] }
def StoreTearsSaid : Prop := storeTearsRow.holds Tryd.pinned (OpenSpec.ofChange storeTearsSpec)

/-- ITS FALSE NEIGHBOUR: 'it returns false'. Refute it at one input. -/
def storeTearsWrong : ChangeSpec := { name := "storeTears", fn := fun _ => fun
  | [d1, d2, d3, d4] => { results := [.lit (.bool false)], args := [d1, d2, d3, d4] }
  | _ => none }
def StoreTearsWrongFalsely : Prop := storeTearsRow.holds Tryd.pinned (OpenSpec.ofChange storeTearsWrong)

/-- 'transhipmentlaw19.StoreRecords': WHATEVER THE INPUT: true; the input reads as it did. -/
def storeRecordsSpec : ChangeSpec := { name := "storeRecords", fn := fun _ => fun
  | [d1, d2] => { results := [.lit (.bool true)], args := [d1, d2] }
  | _ => none }
def storeRecordsRow : OpenClaim := { program := "ytemoboghbdcjkaadoor", sum := "732f17b3dbfb3bac28b553e1ad14438e87f11aff64c2560edcd0c37109705fa6", func := "transhipment/transhipmentlaw19.StoreRecords", spec := "storeRecords", inPlace := ["internal/bytealg.IndexByteString", "internal/bytealg.IndexString", "internal/bytealg.abigen_runtime_cmpstring", "slices.overlaps[transhipment/api.File]"], unfollowed := true, recurses := true, named := ["unicode/utf8.first", "unicode/utf8.acceptRanges", "internal/bytealg.MaxLen"], apart := false, laid := [("unicode/utf8.acceptRanges", laid_unicode_utf8_acceptRanges), ("unicode/utf8.first", laid_unicode_utf8_first)] }
def StoreRecordsSaid : Prop := storeRecordsRow.holds Tryd.pinned (OpenSpec.ofChange storeRecordsSpec)

/-- ITS FALSE NEIGHBOUR: 'it returns false'. Refute it at one input. -/
def storeRecordsWrong : ChangeSpec := { name := "storeRecords", fn := fun _ => fun
  | [d1, d2] => { results := [.lit (.bool false)], args := [d1, d2] }
  | _ => none }
def StoreRecordsWrongFalsely : Prop := storeRecordsRow.holds Tryd.pinned (OpenSpec.ofChange storeRecordsWrong)

/- THE SECOND FORM. 'bulk': how many values and letters a reading holds, each counted each time it is reached (what is shared counts as often as it is met; a slice's spare places count too). A statement '..UptoSaid' is the law's where the arguments, and the package variables that the reading takes, are together of bulk at most 1048576: NARROWER than '..Said'. Prove '..Said' where nothing that the law and all that it calls make is longer than what came in: it says more and counts as full. Else prove '..UptoSaid'. A law counts once. -/
mutual
def uptoBulk {H : Type} : DataW H → Nat
  | .lit (.string bytes) => bytes.length + 1
  | .lit _ => 1
  | .nil => 1
  | .ptr d => uptoBulk d + 1
  | .slice elems spare => uptoBulkAll elems + uptoBulkAll spare + 1
  | .agg parts => uptoBulkAll parts + 1
  | .iface _ d => uptoBulk d + 1
  | .map entries => uptoBulkEntries entries + 1
  | .held _ => 1
def uptoBulkAll {H : Type} : List (DataW H) → Nat
  | [] => 0
  | d :: r => uptoBulk d + uptoBulkAll r
def uptoBulkEntries {H : Type} : List (Lit × DataW H) → Nat
  | [] => 0
  | x :: r => uptoBulkEntry x + uptoBulkEntries r
def uptoBulkEntry {H : Type} : Lit × DataW H → Nat
  | (.string bytes, d) => bytes.length + uptoBulk d + 1
  | (_, d) => uptoBulk d + 1
 end
def uptoSmall : (H : Type) → List (DataW H) → Bool := fun _ ds => decide (uptoBulkAll ds ≤ 1048576)
def OpenSpec.upto (s : _root_.Go.ChangeSpec) : _root_.Go.OpenSpec := { _root_.Go.OpenSpec.ofChange s with cond := some uptoSmall }

/-- 'transhipmentlaw19.StoreTurns', WHERE WHAT IT READS IS OF BULK AT MOST 1048576: true; the input reads as it did. -/
def storeTurnsUptoRow : OpenClaim := { program := "ytemoboghbdcjkaadoor", sum := "732f17b3dbfb3bac28b553e1ad14438e87f11aff64c2560edcd0c37109705fa6", func := "transhipment/transhipmentlaw19.StoreTurns", spec := "storeTurns", inPlace := ["internal/bytealg.IndexByteString", "internal/bytealg.IndexString", "internal/bytealg.abigen_runtime_cmpstring", "slices.overlaps[transhipment/api.File]"], unfollowed := true, recurses := true, named := ["unicode/utf8.first", "unicode/utf8.acceptRanges", "internal/bytealg.MaxLen"], apart := false, laid := [("unicode/utf8.acceptRanges", laid_unicode_utf8_acceptRanges), ("unicode/utf8.first", laid_unicode_utf8_first)], narrowed := true }
def StoreTurnsUptoSaid : Prop := storeTurnsUptoRow.holds Tryd.pinned (OpenSpec.upto storeTurnsSpec)

/-- 'transhipmentlaw19.StoreSafe', WHERE WHAT IT READS IS OF BULK AT MOST 1048576: true; the input reads as it did. -/
def storeSafeUptoRow : OpenClaim := { program := "ytemoboghbdcjkaadoor", sum := "732f17b3dbfb3bac28b553e1ad14438e87f11aff64c2560edcd0c37109705fa6", func := "transhipment/transhipmentlaw19.StoreSafe", spec := "storeSafe", inPlace := ["internal/bytealg.IndexByteString", "internal/bytealg.IndexString", "internal/bytealg.abigen_runtime_cmpstring", "slices.overlaps[transhipment/api.File]"], unfollowed := true, recurses := true, named := ["unicode/utf8.first", "unicode/utf8.acceptRanges", "internal/bytealg.MaxLen"], apart := false, laid := [("unicode/utf8.acceptRanges", laid_unicode_utf8_acceptRanges), ("unicode/utf8.first", laid_unicode_utf8_first)], narrowed := true }
def StoreSafeUptoSaid : Prop := storeSafeUptoRow.holds Tryd.pinned (OpenSpec.upto storeSafeSpec)

/-- 'transhipmentlaw19.StoreTears', WHERE WHAT IT READS IS OF BULK AT MOST 1048576: true; the input reads as it did. -/
def storeTearsUptoRow : OpenClaim := { program := "ytemoboghbdcjkaadoor", sum := "732f17b3dbfb3bac28b553e1ad14438e87f11aff64c2560edcd0c37109705fa6", func := "transhipment/transhipmentlaw19.StoreTears", spec := "storeTears", inPlace := ["internal/bytealg.IndexByteString", "internal/bytealg.IndexString", "internal/bytealg.abigen_runtime_cmpstring", "slices.overlaps[transhipment/api.File]"], unfollowed := true, recurses := true, named := ["unicode/utf8.first", "unicode/utf8.acceptRanges", "internal/bytealg.MaxLen"], apart := false, laid := [("unicode/utf8.acceptRanges", laid_unicode_utf8_acceptRanges), ("unicode/utf8.first", laid_unicode_utf8_first)], narrowed := true }
def StoreTearsUptoSaid : Prop := storeTearsUptoRow.holds Tryd.pinned (OpenSpec.upto storeTearsSpec)

/-- 'transhipmentlaw19.StoreRecords', WHERE WHAT IT READS IS OF BULK AT MOST 1048576: true; the input reads as it did. -/
def storeRecordsUptoRow : OpenClaim := { program := "ytemoboghbdcjkaadoor", sum := "732f17b3dbfb3bac28b553e1ad14438e87f11aff64c2560edcd0c37109705fa6", func := "transhipment/transhipmentlaw19.StoreRecords", spec := "storeRecords", inPlace := ["internal/bytealg.IndexByteString", "internal/bytealg.IndexString", "internal/bytealg.abigen_runtime_cmpstring", "slices.overlaps[transhipment/api.File]"], unfollowed := true, recurses := true, named := ["unicode/utf8.first", "unicode/utf8.acceptRanges", "internal/bytealg.MaxLen"], apart := false, laid := [("unicode/utf8.acceptRanges", laid_unicode_utf8_acceptRanges), ("unicode/utf8.first", laid_unicode_utf8_first)], narrowed := true }
def StoreRecordsUptoSaid : Prop := storeRecordsUptoRow.holds Tryd.pinned (OpenSpec.upto storeRecordsSpec)

end Rows
end Go.Proofs.YtemoboghbdcjkaaDoor
