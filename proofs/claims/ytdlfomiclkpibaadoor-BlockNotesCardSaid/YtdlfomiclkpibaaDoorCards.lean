/-
  DERIVED. GIVEN WITH THE SEED: THE CARDS: each row of YtdlfomiclkpibaaDoorRows.lean that lists a variable, with what it lists TIED to the program's text (the seventh form; the later family's looks); each row that meets fmt, with fmt's text TOLD by the authors' own Lean function (tested against real Go, not proved from fmt's source: count such statements apart). THE CARD IS WHAT COUNTS. Prove the row's statement (the work); the ties are given (YtdlfomiclkpibaaDoorTie.lean); close each card by the builder's one call (the guide's Derived/Test/ToyasCard.lean, 'card_holds'). Laid BY PROGRAM, IN A SANDBOX (cutbox-door.mjs). By AI agents, Wed Nov 11 2026. No macro, syntax, notation, axiom, sorry.
-/
import Derived.Test.YtdlfomiclkpibaaDoorRows
import GoSem.ClaimSeven
namespace Go.Proofs.YtdlfomiclkpibaaDoor
namespace Rows

/-- THE TIED CARD OF 'transhipmentlaw06.BlockPrints'. -/
def blockPrintsCard : Claim7 := { stood := { row := blockPrintsRow, standIns := [], harness := (true, "5c151c37a252308b0127d27fd9f303b0ea64d4af28fed4189c2c85bdd3df6cb2"), looks := false }, kinds := [], alts := [], laidByText := true, laidKinds := [.data, .pinned], laidTests := true, laidLooks := .later }
def BlockPrintsCardSaid : Prop := Claim7.holds Tryd.pinned (.plain (OpenSpec.ofChange blockPrintsSpec)) blockPrintsCard

/-- THE TIED CARD OF 'transhipmentlaw06.BlockParses'. -/
def blockParsesCard : Claim7 := { stood := { row := blockParsesRow, standIns := [], harness := (true, "5c151c37a252308b0127d27fd9f303b0ea64d4af28fed4189c2c85bdd3df6cb2"), looks := false }, kinds := [], alts := [], laidByText := true, laidKinds := [.data, .pinned], laidTests := true, laidLooks := .later }
def BlockParsesCardSaid : Prop := Claim7.holds Tryd.pinned (.plain (OpenSpec.ofChange blockParsesSpec)) blockParsesCard

/-- THE TIED CARD OF 'transhipmentlaw06.BlockParts'. -/
def blockPartsCard : Claim7 := { stood := { row := blockPartsRow, standIns := [], harness := (true, "5c151c37a252308b0127d27fd9f303b0ea64d4af28fed4189c2c85bdd3df6cb2"), looks := false }, kinds := [], alts := [], laidByText := true, laidKinds := [.data, .pinned], laidTests := true, laidLooks := .later }
def BlockPartsCardSaid : Prop := Claim7.holds Tryd.pinned (.plain (OpenSpec.ofChange blockPartsSpec)) blockPartsCard

/-- THE TIED CARD OF 'transhipmentlaw06.BlockApart'. -/
def blockApartCard : Claim7 := { stood := { row := blockApartRow, standIns := [], harness := (true, "5c151c37a252308b0127d27fd9f303b0ea64d4af28fed4189c2c85bdd3df6cb2"), looks := false }, kinds := [], alts := [], laidByText := true, laidKinds := [.data, .pinned], laidTests := true, laidLooks := .later }
def BlockApartCardSaid : Prop := Claim7.holds Tryd.pinned (.plain (OpenSpec.ofChange blockApartSpec)) blockApartCard

/-- THE TIED CARD OF 'transhipmentlaw06.BlockBack'. -/
def blockBackCard : Claim7 := { stood := { row := blockBackRow, standIns := [], harness := (true, "5c151c37a252308b0127d27fd9f303b0ea64d4af28fed4189c2c85bdd3df6cb2"), looks := false }, kinds := [], alts := [], laidByText := true, laidKinds := [.data, .pinned], laidTests := true, laidLooks := .later }
def BlockBackCardSaid : Prop := Claim7.holds Tryd.pinned (.plain (OpenSpec.ofChange blockBackSpec)) blockBackCard

/-- THE TIED CARD OF 'transhipmentlaw06.BlockNotes'. -/
def blockNotesCard : Claim7 := { stood := { row := blockNotesRow, standIns := [], harness := (true, "5c151c37a252308b0127d27fd9f303b0ea64d4af28fed4189c2c85bdd3df6cb2"), looks := false }, kinds := [], alts := [], laidByText := true, laidKinds := [.data, .pinned], laidTests := true, laidLooks := .later }
def BlockNotesCardSaid : Prop := Claim7.holds Tryd.pinned (.plain (OpenSpec.ofChange blockNotesSpec)) blockNotesCard

/-- THE SECOND FORM's CARD OF 'transhipmentlaw06.BlockPrints'. -/
def blockPrintsUptoCard : Claim7 := { stood := { row := blockPrintsUptoRow, standIns := [], harness := (true, "5c151c37a252308b0127d27fd9f303b0ea64d4af28fed4189c2c85bdd3df6cb2"), looks := false }, kinds := [], alts := [], laidByText := true, laidKinds := [.data, .pinned], laidTests := true, laidLooks := .later }
def BlockPrintsUptoCardSaid : Prop := Claim7.holds Tryd.pinned (.plain (OpenSpec.upto blockPrintsSpec)) blockPrintsUptoCard

/-- THE SECOND FORM's CARD OF 'transhipmentlaw06.BlockParses'. -/
def blockParsesUptoCard : Claim7 := { stood := { row := blockParsesUptoRow, standIns := [], harness := (true, "5c151c37a252308b0127d27fd9f303b0ea64d4af28fed4189c2c85bdd3df6cb2"), looks := false }, kinds := [], alts := [], laidByText := true, laidKinds := [.data, .pinned], laidTests := true, laidLooks := .later }
def BlockParsesUptoCardSaid : Prop := Claim7.holds Tryd.pinned (.plain (OpenSpec.upto blockParsesSpec)) blockParsesUptoCard

/-- THE SECOND FORM's CARD OF 'transhipmentlaw06.BlockParts'. -/
def blockPartsUptoCard : Claim7 := { stood := { row := blockPartsUptoRow, standIns := [], harness := (true, "5c151c37a252308b0127d27fd9f303b0ea64d4af28fed4189c2c85bdd3df6cb2"), looks := false }, kinds := [], alts := [], laidByText := true, laidKinds := [.data, .pinned], laidTests := true, laidLooks := .later }
def BlockPartsUptoCardSaid : Prop := Claim7.holds Tryd.pinned (.plain (OpenSpec.upto blockPartsSpec)) blockPartsUptoCard

/-- THE SECOND FORM's CARD OF 'transhipmentlaw06.BlockApart'. -/
def blockApartUptoCard : Claim7 := { stood := { row := blockApartUptoRow, standIns := [], harness := (true, "5c151c37a252308b0127d27fd9f303b0ea64d4af28fed4189c2c85bdd3df6cb2"), looks := false }, kinds := [], alts := [], laidByText := true, laidKinds := [.data, .pinned], laidTests := true, laidLooks := .later }
def BlockApartUptoCardSaid : Prop := Claim7.holds Tryd.pinned (.plain (OpenSpec.upto blockApartSpec)) blockApartUptoCard

/-- THE SECOND FORM's CARD OF 'transhipmentlaw06.BlockBack'. -/
def blockBackUptoCard : Claim7 := { stood := { row := blockBackUptoRow, standIns := [], harness := (true, "5c151c37a252308b0127d27fd9f303b0ea64d4af28fed4189c2c85bdd3df6cb2"), looks := false }, kinds := [], alts := [], laidByText := true, laidKinds := [.data, .pinned], laidTests := true, laidLooks := .later }
def BlockBackUptoCardSaid : Prop := Claim7.holds Tryd.pinned (.plain (OpenSpec.upto blockBackSpec)) blockBackUptoCard

/-- THE SECOND FORM's CARD OF 'transhipmentlaw06.BlockNotes'. -/
def blockNotesUptoCard : Claim7 := { stood := { row := blockNotesUptoRow, standIns := [], harness := (true, "5c151c37a252308b0127d27fd9f303b0ea64d4af28fed4189c2c85bdd3df6cb2"), looks := false }, kinds := [], alts := [], laidByText := true, laidKinds := [.data, .pinned], laidTests := true, laidLooks := .later }
def BlockNotesUptoCardSaid : Prop := Claim7.holds Tryd.pinned (.plain (OpenSpec.upto blockNotesSpec)) blockNotesUptoCard
end Rows
end Go.Proofs.YtdlfomiclkpibaaDoor
