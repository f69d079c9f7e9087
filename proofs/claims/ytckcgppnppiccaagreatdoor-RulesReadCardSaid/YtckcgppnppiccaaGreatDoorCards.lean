/-
  DERIVED. GIVEN WITH THE SEED: THE CARDS: each row of YtckcgppnppiccaaGreatDoorRows.lean that lists a variable, with what it lists TIED to the program's text (the seventh form; the later family's looks); each row that meets fmt, with fmt's text TOLD by the authors' own Lean function (tested against real Go, not proved from fmt's source: count such statements apart). THE CARD IS WHAT COUNTS. Prove the row's statement (the work); the ties are given (YtckcgppnppiccaaGreatDoorTie.lean); close each card by the builder's one call (the guide's Derived/Test/ToyasCard.lean, 'card_holds'). Laid BY PROGRAM, IN A SANDBOX (cutbox-door.mjs). By AI agents, Wed Nov 11 2026. No macro, syntax, notation, axiom, sorry.
-/
import Derived.Test.YtckcgppnppiccaaGreatDoorRows
import GoSem.ClaimSeven
namespace Go.Proofs.YtckcgppnppiccaaGreatDoor
namespace Rows

/-- THE TIED CARD OF 'transhipmentlaw08.RulesFire'. -/
def rulesFireCard : Claim7 := { stood := { row := rulesFireRow, standIns := [], harness := (true, "2142f04bfdb8459c714ec8aa3e77f217c0308c6c9a02c491a7a2fc860bdecd8b"), looks := false }, kinds := [], alts := [], laidByText := true, laidKinds := [.data, .pinned], laidTests := true, laidLooks := .later }
def RulesFireCardSaid : Prop := Claim7.holds Tryz.pinned (.plain (OpenSpec.ofChange rulesFireSpec)) rulesFireCard

/-- THE TIED CARD OF 'transhipmentlaw08.RulesApart'. -/
def rulesApartCard : Claim7 := { stood := { row := rulesApartRow, standIns := [], harness := (true, "2142f04bfdb8459c714ec8aa3e77f217c0308c6c9a02c491a7a2fc860bdecd8b"), looks := false }, kinds := [], alts := [], laidByText := true, laidKinds := [.data, .data, .data, .data, .pinned], laidTests := true, laidLooks := .later }
def RulesApartCardSaid : Prop := Claim7.holds Tryz.pinned (.plain (OpenSpec.ofChange rulesApartSpec)) rulesApartCard

/-- THE TIED CARD OF 'transhipmentlaw08.RulesRead'. -/
def rulesReadCard : Claim7 := { stood := { row := rulesReadRow, standIns := [], harness := (true, "2142f04bfdb8459c714ec8aa3e77f217c0308c6c9a02c491a7a2fc860bdecd8b"), looks := false }, kinds := [], alts := [], laidByText := true, laidKinds := [.data, .data, .data, .data, .pinned], laidTests := true, laidLooks := .later }
def RulesReadCardSaid : Prop := Claim7.holds Tryz.pinned (.plain (OpenSpec.ofChange rulesReadSpec)) rulesReadCard

/-- THE TIED CARD OF 'transhipmentlaw08.RulesBack'. -/
def rulesBackCard : Claim7 := { stood := { row := rulesBackRow, standIns := [], harness := (true, "2142f04bfdb8459c714ec8aa3e77f217c0308c6c9a02c491a7a2fc860bdecd8b"), looks := false }, kinds := [], alts := [], laidByText := true, laidKinds := [.data, .data, .data, .data, .pinned], laidTests := true, laidLooks := .later }
def RulesBackCardSaid : Prop := Claim7.holds Tryz.pinned (.plain (OpenSpec.ofChange rulesBackSpec)) rulesBackCard

/-- THE SECOND FORM's CARD OF 'transhipmentlaw08.RulesFire'. -/
def rulesFireUptoCard : Claim7 := { stood := { row := rulesFireUptoRow, standIns := [], harness := (true, "2142f04bfdb8459c714ec8aa3e77f217c0308c6c9a02c491a7a2fc860bdecd8b"), looks := false }, kinds := [], alts := [], laidByText := true, laidKinds := [.data, .pinned], laidTests := true, laidLooks := .later }
def RulesFireUptoCardSaid : Prop := Claim7.holds Tryz.pinned (.plain (OpenSpec.upto rulesFireSpec)) rulesFireUptoCard

/-- THE SECOND FORM's CARD OF 'transhipmentlaw08.RulesApart'. -/
def rulesApartUptoCard : Claim7 := { stood := { row := rulesApartUptoRow, standIns := [], harness := (true, "2142f04bfdb8459c714ec8aa3e77f217c0308c6c9a02c491a7a2fc860bdecd8b"), looks := false }, kinds := [], alts := [], laidByText := true, laidKinds := [.data, .data, .data, .data, .pinned], laidTests := true, laidLooks := .later }
def RulesApartUptoCardSaid : Prop := Claim7.holds Tryz.pinned (.plain (OpenSpec.upto rulesApartSpec)) rulesApartUptoCard

/-- THE SECOND FORM's CARD OF 'transhipmentlaw08.RulesRead'. -/
def rulesReadUptoCard : Claim7 := { stood := { row := rulesReadUptoRow, standIns := [], harness := (true, "2142f04bfdb8459c714ec8aa3e77f217c0308c6c9a02c491a7a2fc860bdecd8b"), looks := false }, kinds := [], alts := [], laidByText := true, laidKinds := [.data, .data, .data, .data, .pinned], laidTests := true, laidLooks := .later }
def RulesReadUptoCardSaid : Prop := Claim7.holds Tryz.pinned (.plain (OpenSpec.upto rulesReadSpec)) rulesReadUptoCard

/-- THE SECOND FORM's CARD OF 'transhipmentlaw08.RulesBack'. -/
def rulesBackUptoCard : Claim7 := { stood := { row := rulesBackUptoRow, standIns := [], harness := (true, "2142f04bfdb8459c714ec8aa3e77f217c0308c6c9a02c491a7a2fc860bdecd8b"), looks := false }, kinds := [], alts := [], laidByText := true, laidKinds := [.data, .data, .data, .data, .pinned], laidTests := true, laidLooks := .later }
def RulesBackUptoCardSaid : Prop := Claim7.holds Tryz.pinned (.plain (OpenSpec.upto rulesBackSpec)) rulesBackUptoCard
end Rows
end Go.Proofs.YtckcgppnppiccaaGreatDoor
