/-
  NARROWER THAN 'FOR EVERY INPUT', by the rows' own cells (each row's printed sentence says how): LabelReads: laid · LabelBack: laid · LabelSets: laid · LabelLays: laid · LabelOver: laid · LabelTurns: laid · LabelApart: laid.
  DERIVED. THE GIVEN ROWS OF THIS SEAT. 7 by the template 'for every input the law returns true; each argument reads behind the call as it read before'; 0 by the template 'total and deterministic' (their statements: YtjijlmfhnkipmaaDoorTotals.lean).
  GIVEN WITH THE SEED: the statements are not yours to turn. If you find one false, say at which input.
  Laid BY PROGRAM, IN A SANDBOX (cutbox-rows.mjs): the forced cells as the released guide's own fill.sh prints them over the translation c953d3284978a625… (all of the seat's roots in one cut). By AI agents, Wed Nov 11 2026. No macro, syntax, notation, axiom, sorry.
-/
import Derived.Test.YtjijlmfhnkipmaaDoorChecked
import GoSem.PinnedTables
import GoSem.Claim
import GoSem.ClaimJoined
import GoSem.ClaimMapViews
import Derived.JoinedTies
import Derived.KernelRfl
namespace Go.Proofs.YtjijlmfhnkipmaaDoor
/- THE CELL 'sum', in the pinned program and in every row, IS THE sha256 OF THE DUMP (.gsa) THAT YtjijlmfhnkipmaaDoorProg.lean LOADS. Nothing in Lean hashes anything: it is a label: what it is worth is what the hold of that sum in a sandbox is worth. -/
noncomputable def Tryd.pinned : Pinned := { name := "ytjijlmfhnkipmaadoor", sum := "c953d3284978a6257158a945fb92ccf79c30ba92ed2c5de039eeda98861de3a9", checked := Tryd.checked }
namespace Rows
def none {H : Type} : Left H := { results := [], args := [] }

/- WHAT THE LISTED PACKAGE-LEVEL VARIABLES READ AS WHEN THE CALL BEGINS. Each datum BY PROGRAM (the guide's laid-datum.mjs) off the statement by which the dump's own 'gosem.cut.vars' lays the variable. In a bare row this is a premise. The card (YtjijlmfhnkipmaaDoorCards.lean) ties it to the program's text. -/
def laid_unicode_utf8_acceptRanges {H : Type} : DataW H := .agg [.agg [.lit (.int .u8 128), .lit (.int .u8 191)], .agg [.lit (.int .u8 160), .lit (.int .u8 191)], .agg [.lit (.int .u8 128), .lit (.int .u8 159)], .agg [.lit (.int .u8 144), .lit (.int .u8 191)], .agg [.lit (.int .u8 128), .lit (.int .u8 143)], .agg [.lit (.int .u8 0), .lit (.int .u8 0)], .agg [.lit (.int .u8 0), .lit (.int .u8 0)], .agg [.lit (.int .u8 0), .lit (.int .u8 0)], .agg [.lit (.int .u8 0), .lit (.int .u8 0)], .agg [.lit (.int .u8 0), .lit (.int .u8 0)], .agg [.lit (.int .u8 0), .lit (.int .u8 0)], .agg [.lit (.int .u8 0), .lit (.int .u8 0)], .agg [.lit (.int .u8 0), .lit (.int .u8 0)], .agg [.lit (.int .u8 0), .lit (.int .u8 0)], .agg [.lit (.int .u8 0), .lit (.int .u8 0)], .agg [.lit (.int .u8 0), .lit (.int .u8 0)]]
/-- One of Go's own tables, pinned by name: the form's constant. -/
def laid_unicode_utf8_first : DataW Unit := Go.Pinned.utf8First

/-- 'transhipmentlaw03.LabelReads': WHATEVER THE INPUT: true; the input reads as it did. -/
def labelReadsSpec : ChangeSpec := { name := "labelReads", fn := fun _ => fun
  | [d] => { results := [.lit (.bool true)], args := [d] }
  | _ => none }
def labelReadsRow : OpenClaim := { program := "ytjijlmfhnkipmaadoor", sum := "c953d3284978a6257158a945fb92ccf79c30ba92ed2c5de039eeda98861de3a9", func := "transhipment/transhipmentlaw03.LabelReads", spec := "labelReads", inPlace := ["internal/bytealg.IndexByteString", "internal/bytealg.IndexString", "internal/abi.NoEscape", "internal/bytealg.CountString", "internal/bytealg.MakeNoZero"], unfollowed := true, recurses := true, named := ["internal/bytealg.MaxLen", "unicode/utf8.first", "unicode/utf8.acceptRanges"], apart := false, laid := [("unicode/utf8.acceptRanges", laid_unicode_utf8_acceptRanges), ("unicode/utf8.first", laid_unicode_utf8_first)] }
def LabelReadsSaid : Prop := labelReadsRow.holds Tryd.pinned (OpenSpec.ofChange labelReadsSpec)

/-- ITS FALSE NEIGHBOUR: 'it returns false'. Refute it at one input. -/
def labelReadsWrong : ChangeSpec := { name := "labelReads", fn := fun _ => fun
  | [d] => { results := [.lit (.bool false)], args := [d] }
  | _ => none }
def LabelReadsWrongFalsely : Prop := labelReadsRow.holds Tryd.pinned (OpenSpec.ofChange labelReadsWrong)

/-- 'transhipmentlaw03.LabelBack': WHATEVER THE INPUT: true; the input reads as it did. -/
def labelBackSpec : ChangeSpec := { name := "labelBack", fn := fun _ => fun
  | [d1, d2, d3] => { results := [.lit (.bool true)], args := [d1, d2, d3] }
  | _ => none }
def labelBackRow : OpenClaim := { program := "ytjijlmfhnkipmaadoor", sum := "c953d3284978a6257158a945fb92ccf79c30ba92ed2c5de039eeda98861de3a9", func := "transhipment/transhipmentlaw03.LabelBack", spec := "labelBack", inPlace := ["internal/bytealg.CountString", "internal/bytealg.IndexByteString", "internal/bytealg.IndexString", "internal/abi.NoEscape", "internal/bytealg.MakeNoZero"], unfollowed := true, recurses := true, named := ["internal/bytealg.MaxLen", "unicode/utf8.first", "unicode/utf8.acceptRanges"], apart := false, laid := [("unicode/utf8.acceptRanges", laid_unicode_utf8_acceptRanges), ("unicode/utf8.first", laid_unicode_utf8_first)] }
def LabelBackSaid : Prop := labelBackRow.holds Tryd.pinned (OpenSpec.ofChange labelBackSpec)

/-- ITS FALSE NEIGHBOUR: 'it returns false'. Refute it at one input. -/
def labelBackWrong : ChangeSpec := { name := "labelBack", fn := fun _ => fun
  | [d1, d2, d3] => { results := [.lit (.bool false)], args := [d1, d2, d3] }
  | _ => none }
def LabelBackWrongFalsely : Prop := labelBackRow.holds Tryd.pinned (OpenSpec.ofChange labelBackWrong)

/-- 'transhipmentlaw03.LabelSets': WHATEVER THE INPUT: true; the input reads as it did. -/
def labelSetsSpec : ChangeSpec := { name := "labelSets", fn := fun _ => fun
  | [d1, d2] => { results := [.lit (.bool true)], args := [d1, d2] }
  | _ => none }
def labelSetsRow : OpenClaim := { program := "ytjijlmfhnkipmaadoor", sum := "c953d3284978a6257158a945fb92ccf79c30ba92ed2c5de039eeda98861de3a9", func := "transhipment/transhipmentlaw03.LabelSets", spec := "labelSets", inPlace := ["internal/bytealg.abigen_runtime_cmpstring", "internal/bytealg.CountString", "internal/bytealg.IndexByteString", "internal/bytealg.IndexString", "internal/abi.NoEscape", "internal/bytealg.MakeNoZero"], unfollowed := true, recurses := true, named := ["internal/bytealg.MaxLen", "unicode/utf8.first", "unicode/utf8.acceptRanges"], apart := false, laid := [("unicode/utf8.acceptRanges", laid_unicode_utf8_acceptRanges), ("unicode/utf8.first", laid_unicode_utf8_first)] }
def LabelSetsSaid : Prop := labelSetsRow.holds Tryd.pinned (OpenSpec.ofChange labelSetsSpec)

/-- ITS FALSE NEIGHBOUR: 'it returns false'. Refute it at one input. -/
def labelSetsWrong : ChangeSpec := { name := "labelSets", fn := fun _ => fun
  | [d1, d2] => { results := [.lit (.bool false)], args := [d1, d2] }
  | _ => none }
def LabelSetsWrongFalsely : Prop := labelSetsRow.holds Tryd.pinned (OpenSpec.ofChange labelSetsWrong)

/-- 'transhipmentlaw03.LabelLays': WHATEVER THE INPUT: true; the input reads as it did. -/
def labelLaysSpec : ChangeSpec := { name := "labelLays", fn := fun _ => fun
  | [d1, d2, d3] => { results := [.lit (.bool true)], args := [d1, d2, d3] }
  | _ => none }
def labelLaysRow : OpenClaim := { program := "ytjijlmfhnkipmaadoor", sum := "c953d3284978a6257158a945fb92ccf79c30ba92ed2c5de039eeda98861de3a9", func := "transhipment/transhipmentlaw03.LabelLays", spec := "labelLays", inPlace := ["internal/bytealg.abigen_runtime_cmpstring", "internal/bytealg.CountString", "internal/bytealg.IndexByteString", "internal/bytealg.IndexString", "internal/abi.NoEscape", "internal/bytealg.MakeNoZero"], unfollowed := true, recurses := true, named := ["internal/bytealg.MaxLen", "unicode/utf8.first", "unicode/utf8.acceptRanges"], apart := false, laid := [("unicode/utf8.acceptRanges", laid_unicode_utf8_acceptRanges), ("unicode/utf8.first", laid_unicode_utf8_first)] }
def LabelLaysSaid : Prop := labelLaysRow.holds Tryd.pinned (OpenSpec.ofChange labelLaysSpec)

/-- ITS FALSE NEIGHBOUR: 'it returns false'. Refute it at one input. -/
def labelLaysWrong : ChangeSpec := { name := "labelLays", fn := fun _ => fun
  | [d1, d2, d3] => { results := [.lit (.bool false)], args := [d1, d2, d3] }
  | _ => none }
def LabelLaysWrongFalsely : Prop := labelLaysRow.holds Tryd.pinned (OpenSpec.ofChange labelLaysWrong)

/-- 'transhipmentlaw03.LabelOver': WHATEVER THE INPUT: true; the input reads as it did. -/
def labelOverSpec : ChangeSpec := { name := "labelOver", fn := fun _ => fun
  | [d1, d2, d3] => { results := [.lit (.bool true)], args := [d1, d2, d3] }
  | _ => none }
def labelOverRow : OpenClaim := { program := "ytjijlmfhnkipmaadoor", sum := "c953d3284978a6257158a945fb92ccf79c30ba92ed2c5de039eeda98861de3a9", func := "transhipment/transhipmentlaw03.LabelOver", spec := "labelOver", inPlace := ["internal/bytealg.abigen_runtime_cmpstring", "internal/bytealg.CountString", "internal/bytealg.IndexByteString", "internal/bytealg.IndexString", "internal/abi.NoEscape", "internal/bytealg.MakeNoZero"], unfollowed := true, recurses := true, named := ["internal/bytealg.MaxLen", "unicode/utf8.first", "unicode/utf8.acceptRanges"], apart := false, laid := [("unicode/utf8.acceptRanges", laid_unicode_utf8_acceptRanges), ("unicode/utf8.first", laid_unicode_utf8_first)] }
def LabelOverSaid : Prop := labelOverRow.holds Tryd.pinned (OpenSpec.ofChange labelOverSpec)

/-- ITS FALSE NEIGHBOUR: 'it returns false'. Refute it at one input. -/
def labelOverWrong : ChangeSpec := { name := "labelOver", fn := fun _ => fun
  | [d1, d2, d3] => { results := [.lit (.bool false)], args := [d1, d2, d3] }
  | _ => none }
def LabelOverWrongFalsely : Prop := labelOverRow.holds Tryd.pinned (OpenSpec.ofChange labelOverWrong)

/-- 'transhipmentlaw03.LabelTurns': WHATEVER THE INPUT: true; the input reads as it did. -/
def labelTurnsSpec : ChangeSpec := { name := "labelTurns", fn := fun _ => fun
  | [d1, d2, d3] => { results := [.lit (.bool true)], args := [d1, d2, d3] }
  | _ => none }
def labelTurnsRow : OpenClaim := { program := "ytjijlmfhnkipmaadoor", sum := "c953d3284978a6257158a945fb92ccf79c30ba92ed2c5de039eeda98861de3a9", func := "transhipment/transhipmentlaw03.LabelTurns", spec := "labelTurns", inPlace := ["internal/bytealg.abigen_runtime_cmpstring", "internal/bytealg.CountString", "internal/bytealg.IndexByteString", "internal/bytealg.IndexString", "internal/abi.NoEscape", "internal/bytealg.MakeNoZero"], unfollowed := true, recurses := true, named := ["internal/bytealg.MaxLen", "unicode/utf8.first", "unicode/utf8.acceptRanges"], apart := false, laid := [("unicode/utf8.acceptRanges", laid_unicode_utf8_acceptRanges), ("unicode/utf8.first", laid_unicode_utf8_first)] }
def LabelTurnsSaid : Prop := labelTurnsRow.holds Tryd.pinned (OpenSpec.ofChange labelTurnsSpec)

/-- ITS FALSE NEIGHBOUR: 'it returns false'. Refute it at one input. -/
def labelTurnsWrong : ChangeSpec := { name := "labelTurns", fn := fun _ => fun
  | [d1, d2, d3] => { results := [.lit (.bool false)], args := [d1, d2, d3] }
  | _ => none }
def LabelTurnsWrongFalsely : Prop := labelTurnsRow.holds Tryd.pinned (OpenSpec.ofChange labelTurnsWrong)

/-- 'transhipmentlaw03.LabelApart': WHATEVER THE INPUT: true; the input reads as it did. -/
def labelApartSpec : ChangeSpec := { name := "labelApart", fn := fun _ => fun
  | [d1, d2] => { results := [.lit (.bool true)], args := [d1, d2] }
  | _ => none }
def labelApartRow : OpenClaim := { program := "ytjijlmfhnkipmaadoor", sum := "c953d3284978a6257158a945fb92ccf79c30ba92ed2c5de039eeda98861de3a9", func := "transhipment/transhipmentlaw03.LabelApart", spec := "labelApart", inPlace := ["internal/bytealg.CountString", "internal/bytealg.IndexByteString", "internal/bytealg.IndexString", "internal/abi.NoEscape", "internal/bytealg.MakeNoZero", "internal/bytealg.abigen_runtime_cmpstring"], unfollowed := true, recurses := true, named := ["internal/bytealg.MaxLen", "unicode/utf8.first", "unicode/utf8.acceptRanges"], apart := false, laid := [("unicode/utf8.acceptRanges", laid_unicode_utf8_acceptRanges), ("unicode/utf8.first", laid_unicode_utf8_first)] }
def LabelApartSaid : Prop := labelApartRow.holds Tryd.pinned (OpenSpec.ofChange labelApartSpec)

/-- ITS FALSE NEIGHBOUR: 'it returns false'. Refute it at one input. -/
def labelApartWrong : ChangeSpec := { name := "labelApart", fn := fun _ => fun
  | [d1, d2] => { results := [.lit (.bool false)], args := [d1, d2] }
  | _ => none }
def LabelApartWrongFalsely : Prop := labelApartRow.holds Tryd.pinned (OpenSpec.ofChange labelApartWrong)

/- THE SECOND FORM. 'bulk': how many values and letters a reading holds, each counted each time it is reached (what is shared counts as often as it is met; a slice's spare places count too). A statement '..UptoSaid' is the law's where the arguments, and the package variables that the reading takes, are together of bulk at most 1048576: NARROWER than '..Said'. Prove '..Said' where nothing that the law and all that it calls make is longer than what came in: it says more and counts as full. Else prove '..UptoSaid'. A law counts once. -/
mutual
def uptoBulk {H : Type} : DataW H → Nat
  | .lit (.string bytes) => bytes.length + 1
  | .lit _ => 1
  | .nil => 1
  | .ptr d => uptoBulk d + 1
  | .slice elems spare => uptoBulkAll elems + uptoBulkAll spare + 1
  | .agg parts => uptoBulkAll parts + 1
  | .iface _ d => uptoBulk d + 1
  | .map entries => uptoBulkEntries entries + 1
  | .held _ => 1
def uptoBulkAll {H : Type} : List (DataW H) → Nat
  | [] => 0
  | d :: r => uptoBulk d + uptoBulkAll r
def uptoBulkEntries {H : Type} : List (Lit × DataW H) → Nat
  | [] => 0
  | x :: r => uptoBulkEntry x + uptoBulkEntries r
def uptoBulkEntry {H : Type} : Lit × DataW H → Nat
  | (.string bytes, d) => bytes.length + uptoBulk d + 1
  | (_, d) => uptoBulk d + 1
 end
def uptoSmall : (H : Type) → List (DataW H) → Bool := fun _ ds => decide (uptoBulkAll ds ≤ 1048576)
def OpenSpec.upto (s : _root_.Go.ChangeSpec) : _root_.Go.OpenSpec := { _root_.Go.OpenSpec.ofChange s with cond := some uptoSmall }

/-- 'transhipmentlaw03.LabelReads', WHERE WHAT IT READS IS OF BULK AT MOST 1048576: true; the input reads as it did. -/
def labelReadsUptoRow : OpenClaim := { program := "ytjijlmfhnkipmaadoor", sum := "c953d3284978a6257158a945fb92ccf79c30ba92ed2c5de039eeda98861de3a9", func := "transhipment/transhipmentlaw03.LabelReads", spec := "labelReads", inPlace := ["internal/bytealg.IndexByteString", "internal/bytealg.IndexString", "internal/abi.NoEscape", "internal/bytealg.CountString", "internal/bytealg.MakeNoZero"], unfollowed := true, recurses := true, named := ["internal/bytealg.MaxLen", "unicode/utf8.first", "unicode/utf8.acceptRanges"], apart := false, laid := [("unicode/utf8.acceptRanges", laid_unicode_utf8_acceptRanges), ("unicode/utf8.first", laid_unicode_utf8_first)], narrowed := true }
def LabelReadsUptoSaid : Prop := labelReadsUptoRow.holds Tryd.pinned (OpenSpec.upto labelReadsSpec)

/-- 'transhipmentlaw03.LabelBack', WHERE WHAT IT READS IS OF BULK AT MOST 1048576: true; the input reads as it did. -/
def labelBackUptoRow : OpenClaim := { program := "ytjijlmfhnkipmaadoor", sum := "c953d3284978a6257158a945fb92ccf79c30ba92ed2c5de039eeda98861de3a9", func := "transhipment/transhipmentlaw03.LabelBack", spec := "labelBack", inPlace := ["internal/bytealg.CountString", "internal/bytealg.IndexByteString", "internal/bytealg.IndexString", "internal/abi.NoEscape", "internal/bytealg.MakeNoZero"], unfollowed := true, recurses := true, named := ["internal/bytealg.MaxLen", "unicode/utf8.first", "unicode/utf8.acceptRanges"], apart := false, laid := [("unicode/utf8.acceptRanges", laid_unicode_utf8_acceptRanges), ("unicode/utf8.first", laid_unicode_utf8_first)], narrowed := true }
def LabelBackUptoSaid : Prop := labelBackUptoRow.holds Tryd.pinned (OpenSpec.upto labelBackSpec)

/-- 'transhipmentlaw03.LabelSets', WHERE WHAT IT READS IS OF BULK AT MOST 1048576: true; the input reads as it did. -/
def labelSetsUptoRow : OpenClaim := { program := "ytjijlmfhnkipmaadoor", sum := "c953d3284978a6257158a945fb92ccf79c30ba92ed2c5de039eeda98861de3a9", func := "transhipment/transhipmentlaw03.LabelSets", spec := "labelSets", inPlace := ["internal/bytealg.abigen_runtime_cmpstring", "internal/bytealg.CountString", "internal/bytealg.IndexByteString", "internal/bytealg.IndexString", "internal/abi.NoEscape", "internal/bytealg.MakeNoZero"], unfollowed := true, recurses := true, named := ["internal/bytealg.MaxLen", "unicode/utf8.first", "unicode/utf8.acceptRanges"], apart := false, laid := [("unicode/utf8.acceptRanges", laid_unicode_utf8_acceptRanges), ("unicode/utf8.first", laid_unicode_utf8_first)], narrowed := true }
def LabelSetsUptoSaid : Prop := labelSetsUptoRow.holds Tryd.pinned (OpenSpec.upto labelSetsSpec)

/-- 'transhipmentlaw03.LabelLays', WHERE WHAT IT READS IS OF BULK AT MOST 1048576: true; the input reads as it did. -/
def labelLaysUptoRow : OpenClaim := { program := "ytjijlmfhnkipmaadoor", sum := "c953d3284978a6257158a945fb92ccf79c30ba92ed2c5de039eeda98861de3a9", func := "transhipment/transhipmentlaw03.LabelLays", spec := "labelLays", inPlace := ["internal/bytealg.abigen_runtime_cmpstring", "internal/bytealg.CountString", "internal/bytealg.IndexByteString", "internal/bytealg.IndexString", "internal/abi.NoEscape", "internal/bytealg.MakeNoZero"], unfollowed := true, recurses := true, named := ["internal/bytealg.MaxLen", "unicode/utf8.first", "unicode/utf8.acceptRanges"], apart := false, laid := [("unicode/utf8.acceptRanges", laid_unicode_utf8_acceptRanges), ("unicode/utf8.first", laid_unicode_utf8_first)], narrowed := true }
def LabelLaysUptoSaid : Prop := labelLaysUptoRow.holds Tryd.pinned (OpenSpec.upto labelLaysSpec)

/-- 'transhipmentlaw03.LabelOver', WHERE WHAT IT READS IS OF BULK AT MOST 1048576: true; the input reads as it did. -/
def labelOverUptoRow : OpenClaim := { program := "ytjijlmfhnkipmaadoor", sum := "c953d3284978a6257158a945fb92ccf79c30ba92ed2c5de039eeda98861de3a9", func := "transhipment/transhipmentlaw03.LabelOver", spec := "labelOver", inPlace := ["internal/bytealg.abigen_runtime_cmpstring", "internal/bytealg.CountString", "internal/bytealg.IndexByteString", "internal/bytealg.IndexString", "internal/abi.NoEscape", "internal/bytealg.MakeNoZero"], unfollowed := true, recurses := true, named := ["internal/bytealg.MaxLen", "unicode/utf8.first", "unicode/utf8.acceptRanges"], apart := false, laid := [("unicode/utf8.acceptRanges", laid_unicode_utf8_acceptRanges), ("unicode/utf8.first", laid_unicode_utf8_first)], narrowed := true }
def LabelOverUptoSaid : Prop := labelOverUptoRow.holds Tryd.pinned (OpenSpec.upto labelOverSpec)

/-- 'transhipmentlaw03.LabelTurns', WHERE WHAT IT READS IS OF BULK AT MOST 1048576: true; the input reads as it did. -/
def labelTurnsUptoRow : OpenClaim := { program := "ytjijlmfhnkipmaadoor", sum := "c953d3284978a6257158a945fb92ccf79c30ba92ed2c5de039eeda98861de3a9", func := "transhipment/transhipmentlaw03.LabelTurns", spec := "labelTurns", inPlace := ["internal/bytealg.abigen_runtime_cmpstring", "internal/bytealg.CountString", "internal/bytealg.IndexByteString", "internal/bytealg.IndexString", "internal/abi.NoEscape", "internal/bytealg.MakeNoZero"], unfollowed := true, recurses := true, named := ["internal/bytealg.MaxLen", "unicode/utf8.first", "unicode/utf8.acceptRanges"], apart := false, laid := [("unicode/utf8.acceptRanges", laid_unicode_utf8_acceptRanges), ("unicode/utf8.first", laid_unicode_utf8_first)], narrowed := true }
def LabelTurnsUptoSaid : Prop := labelTurnsUptoRow.holds Tryd.pinned (OpenSpec.upto labelTurnsSpec)

/-- 'transhipmentlaw03.LabelApart', WHERE WHAT IT READS IS OF BULK AT MOST 1048576: true; the input reads as it did. -/
def labelApartUptoRow : OpenClaim := { program := "ytjijlmfhnkipmaadoor", sum := "c953d3284978a6257158a945fb92ccf79c30ba92ed2c5de039eeda98861de3a9", func := "transhipment/transhipmentlaw03.LabelApart", spec := "labelApart", inPlace := ["internal/bytealg.CountString", "internal/bytealg.IndexByteString", "internal/bytealg.IndexString", "internal/abi.NoEscape", "internal/bytealg.MakeNoZero", "internal/bytealg.abigen_runtime_cmpstring"], unfollowed := true, recurses := true, named := ["internal/bytealg.MaxLen", "unicode/utf8.first", "unicode/utf8.acceptRanges"], apart := false, laid := [("unicode/utf8.acceptRanges", laid_unicode_utf8_acceptRanges), ("unicode/utf8.first", laid_unicode_utf8_first)], narrowed := true }
def LabelApartUptoSaid : Prop := labelApartUptoRow.holds Tryd.pinned (OpenSpec.upto labelApartSpec)

end Rows
end Go.Proofs.YtjijlmfhnkipmaaDoor
