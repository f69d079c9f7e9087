/-
  DERIVED. GIVEN WITH THE SEED: THE CARDS: each row of YtjijlmfhnkipmaaDoorRows.lean that lists a variable, with what it lists TIED to the program's text (the seventh form; the later family's looks); each row that meets fmt, with fmt's text TOLD by the authors' own Lean function (tested against real Go, not proved from fmt's source: count such statements apart). THE CARD IS WHAT COUNTS. Prove the row's statement (the work); the ties are given (YtjijlmfhnkipmaaDoorTie.lean); close each card by the builder's one call (the guide's Derived/Test/ToyasCard.lean, 'card_holds'). Laid BY PROGRAM, IN A SANDBOX (cutbox-door.mjs). By AI agents, Wed Nov 11 2026. No macro, syntax, notation, axiom, sorry.
-/
import Derived.Test.YtjijlmfhnkipmaaDoorRows
import GoSem.ClaimSeven
namespace Go.Proofs.YtjijlmfhnkipmaaDoor
namespace Rows

/-- THE TIED CARD OF 'transhipmentlaw03.LabelReads'. -/
def labelReadsCard : Claim7 := { stood := { row := labelReadsRow, standIns := [], harness := (true, "10ddcf9d7c31a260b2da6c52c7b9fa528c544f1aed79c1cd857f813e5bc49f28"), looks := false }, kinds := [], alts := [], laidByText := true, laidKinds := [.data, .pinned], laidTests := true, laidLooks := .later }
def LabelReadsCardSaid : Prop := Claim7.holds Tryd.pinned (.plain (OpenSpec.ofChange labelReadsSpec)) labelReadsCard

/-- THE TIED CARD OF 'transhipmentlaw03.LabelBack'. -/
def labelBackCard : Claim7 := { stood := { row := labelBackRow, standIns := [], harness := (true, "10ddcf9d7c31a260b2da6c52c7b9fa528c544f1aed79c1cd857f813e5bc49f28"), looks := false }, kinds := [], alts := [], laidByText := true, laidKinds := [.data, .pinned], laidTests := true, laidLooks := .later }
def LabelBackCardSaid : Prop := Claim7.holds Tryd.pinned (.plain (OpenSpec.ofChange labelBackSpec)) labelBackCard

/-- THE TIED CARD OF 'transhipmentlaw03.LabelSets'. -/
def labelSetsCard : Claim7 := { stood := { row := labelSetsRow, standIns := [], harness := (true, "10ddcf9d7c31a260b2da6c52c7b9fa528c544f1aed79c1cd857f813e5bc49f28"), looks := false }, kinds := [], alts := [], laidByText := true, laidKinds := [.data, .pinned], laidTests := true, laidLooks := .later }
def LabelSetsCardSaid : Prop := Claim7.holds Tryd.pinned (.plain (OpenSpec.ofChange labelSetsSpec)) labelSetsCard

/-- THE TIED CARD OF 'transhipmentlaw03.LabelLays'. -/
def labelLaysCard : Claim7 := { stood := { row := labelLaysRow, standIns := [], harness := (true, "10ddcf9d7c31a260b2da6c52c7b9fa528c544f1aed79c1cd857f813e5bc49f28"), looks := false }, kinds := [], alts := [], laidByText := true, laidKinds := [.data, .pinned], laidTests := true, laidLooks := .later }
def LabelLaysCardSaid : Prop := Claim7.holds Tryd.pinned (.plain (OpenSpec.ofChange labelLaysSpec)) labelLaysCard

/-- THE TIED CARD OF 'transhipmentlaw03.LabelOver'. -/
def labelOverCard : Claim7 := { stood := { row := labelOverRow, standIns := [], harness := (true, "10ddcf9d7c31a260b2da6c52c7b9fa528c544f1aed79c1cd857f813e5bc49f28"), looks := false }, kinds := [], alts := [], laidByText := true, laidKinds := [.data, .pinned], laidTests := true, laidLooks := .later }
def LabelOverCardSaid : Prop := Claim7.holds Tryd.pinned (.plain (OpenSpec.ofChange labelOverSpec)) labelOverCard

/-- THE TIED CARD OF 'transhipmentlaw03.LabelTurns'. -/
def labelTurnsCard : Claim7 := { stood := { row := labelTurnsRow, standIns := [], harness := (true, "10ddcf9d7c31a260b2da6c52c7b9fa528c544f1aed79c1cd857f813e5bc49f28"), looks := false }, kinds := [], alts := [], laidByText := true, laidKinds := [.data, .pinned], laidTests := true, laidLooks := .later }
def LabelTurnsCardSaid : Prop := Claim7.holds Tryd.pinned (.plain (OpenSpec.ofChange labelTurnsSpec)) labelTurnsCard

/-- THE TIED CARD OF 'transhipmentlaw03.LabelApart'. -/
def labelApartCard : Claim7 := { stood := { row := labelApartRow, standIns := [], harness := (true, "10ddcf9d7c31a260b2da6c52c7b9fa528c544f1aed79c1cd857f813e5bc49f28"), looks := false }, kinds := [], alts := [], laidByText := true, laidKinds := [.data, .pinned], laidTests := true, laidLooks := .later }
def LabelApartCardSaid : Prop := Claim7.holds Tryd.pinned (.plain (OpenSpec.ofChange labelApartSpec)) labelApartCard

/-- THE SECOND FORM's CARD OF 'transhipmentlaw03.LabelReads'. -/
def labelReadsUptoCard : Claim7 := { stood := { row := labelReadsUptoRow, standIns := [], harness := (true, "10ddcf9d7c31a260b2da6c52c7b9fa528c544f1aed79c1cd857f813e5bc49f28"), looks := false }, kinds := [], alts := [], laidByText := true, laidKinds := [.data, .pinned], laidTests := true, laidLooks := .later }
def LabelReadsUptoCardSaid : Prop := Claim7.holds Tryd.pinned (.plain (OpenSpec.upto labelReadsSpec)) labelReadsUptoCard

/-- THE SECOND FORM's CARD OF 'transhipmentlaw03.LabelBack'. -/
def labelBackUptoCard : Claim7 := { stood := { row := labelBackUptoRow, standIns := [], harness := (true, "10ddcf9d7c31a260b2da6c52c7b9fa528c544f1aed79c1cd857f813e5bc49f28"), looks := false }, kinds := [], alts := [], laidByText := true, laidKinds := [.data, .pinned], laidTests := true, laidLooks := .later }
def LabelBackUptoCardSaid : Prop := Claim7.holds Tryd.pinned (.plain (OpenSpec.upto labelBackSpec)) labelBackUptoCard

/-- THE SECOND FORM's CARD OF 'transhipmentlaw03.LabelSets'. -/
def labelSetsUptoCard : Claim7 := { stood := { row := labelSetsUptoRow, standIns := [], harness := (true, "10ddcf9d7c31a260b2da6c52c7b9fa528c544f1aed79c1cd857f813e5bc49f28"), looks := false }, kinds := [], alts := [], laidByText := true, laidKinds := [.data, .pinned], laidTests := true, laidLooks := .later }
def LabelSetsUptoCardSaid : Prop := Claim7.holds Tryd.pinned (.plain (OpenSpec.upto labelSetsSpec)) labelSetsUptoCard

/-- THE SECOND FORM's CARD OF 'transhipmentlaw03.LabelLays'. -/
def labelLaysUptoCard : Claim7 := { stood := { row := labelLaysUptoRow, standIns := [], harness := (true, "10ddcf9d7c31a260b2da6c52c7b9fa528c544f1aed79c1cd857f813e5bc49f28"), looks := false }, kinds := [], alts := [], laidByText := true, laidKinds := [.data, .pinned], laidTests := true, laidLooks := .later }
def LabelLaysUptoCardSaid : Prop := Claim7.holds Tryd.pinned (.plain (OpenSpec.upto labelLaysSpec)) labelLaysUptoCard

/-- THE SECOND FORM's CARD OF 'transhipmentlaw03.LabelOver'. -/
def labelOverUptoCard : Claim7 := { stood := { row := labelOverUptoRow, standIns := [], harness := (true, "10ddcf9d7c31a260b2da6c52c7b9fa528c544f1aed79c1cd857f813e5bc49f28"), looks := false }, kinds := [], alts := [], laidByText := true, laidKinds := [.data, .pinned], laidTests := true, laidLooks := .later }
def LabelOverUptoCardSaid : Prop := Claim7.holds Tryd.pinned (.plain (OpenSpec.upto labelOverSpec)) labelOverUptoCard

/-- THE SECOND FORM's CARD OF 'transhipmentlaw03.LabelTurns'. -/
def labelTurnsUptoCard : Claim7 := { stood := { row := labelTurnsUptoRow, standIns := [], harness := (true, "10ddcf9d7c31a260b2da6c52c7b9fa528c544f1aed79c1cd857f813e5bc49f28"), looks := false }, kinds := [], alts := [], laidByText := true, laidKinds := [.data, .pinned], laidTests := true, laidLooks := .later }
def LabelTurnsUptoCardSaid : Prop := Claim7.holds Tryd.pinned (.plain (OpenSpec.upto labelTurnsSpec)) labelTurnsUptoCard

/-- THE SECOND FORM's CARD OF 'transhipmentlaw03.LabelApart'. -/
def labelApartUptoCard : Claim7 := { stood := { row := labelApartUptoRow, standIns := [], harness := (true, "10ddcf9d7c31a260b2da6c52c7b9fa528c544f1aed79c1cd857f813e5bc49f28"), looks := false }, kinds := [], alts := [], laidByText := true, laidKinds := [.data, .pinned], laidTests := true, laidLooks := .later }
def LabelApartUptoCardSaid : Prop := Claim7.holds Tryd.pinned (.plain (OpenSpec.upto labelApartSpec)) labelApartUptoCard
end Rows
end Go.Proofs.YtjijlmfhnkipmaaDoor
