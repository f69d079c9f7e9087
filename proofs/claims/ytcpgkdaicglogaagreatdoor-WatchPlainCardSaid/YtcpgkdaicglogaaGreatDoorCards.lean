/-
  DERIVED. GIVEN WITH THE SEED: THE CARDS: each row of YtcpgkdaicglogaaGreatDoorRows.lean that lists a variable, with what it lists TIED to the program's text (the seventh form; the later family's looks); each row that meets fmt, with fmt's text TOLD by the authors' own Lean function (tested against real Go, not proved from fmt's source: count such statements apart). THE CARD IS WHAT COUNTS. Prove the row's statement (the work); the ties are given (YtcpgkdaicglogaaGreatDoorTie.lean); close each card by the builder's one call (the guide's Derived/Test/ToyasCard.lean, 'card_holds'). Laid BY PROGRAM, IN A SANDBOX (cutbox-door.mjs). By AI agents, Wed Nov 11 2026. No macro, syntax, notation, axiom, sorry.
-/
import Derived.Test.YtcpgkdaicglogaaGreatDoorRows
import GoSem.ClaimSeven
namespace Go.Proofs.YtcpgkdaicglogaaGreatDoor
namespace Rows

/-- THE TIED CARD OF 'transhipmentlaw14.WatchPlain'. -/
def watchPlainCard : Claim7 := { stood := { row := watchPlainRow, standIns := [], harness := (true, "d165b8c3435686308b03e2428c0394a00abb74ee1c90edfe137f861cb4c97536"), looks := false }, kinds := [], alts := [], laidByText := true, laidKinds := [.data, .pinned], laidTests := true, laidLooks := .later }
def WatchPlainCardSaid : Prop := Claim7.holds Tryz.pinned (.plain (OpenSpec.ofChange watchPlainSpec)) watchPlainCard

/-- THE TIED CARD OF 'transhipmentlaw14.WatchWaits'. -/
def watchWaitsCard : Claim7 := { stood := { row := watchWaitsRow, standIns := [], harness := (true, "d165b8c3435686308b03e2428c0394a00abb74ee1c90edfe137f861cb4c97536"), looks := false }, kinds := [], alts := [], laidByText := true, laidKinds := [.data, .pinned], laidTests := true, laidLooks := .later }
def WatchWaitsCardSaid : Prop := Claim7.holds Tryz.pinned (.plain (OpenSpec.ofChange watchWaitsSpec)) watchWaitsCard

/-- THE TIED CARD OF 'transhipmentlaw14.WatchApart'. -/
def watchApartCard : Claim7 := { stood := { row := watchApartRow, standIns := [], harness := (true, "d165b8c3435686308b03e2428c0394a00abb74ee1c90edfe137f861cb4c97536"), looks := false }, kinds := [], alts := [], laidByText := true, laidKinds := [.data, .pinned], laidTests := true, laidLooks := .later }
def WatchApartCardSaid : Prop := Claim7.holds Tryz.pinned (.plain (OpenSpec.ofChange watchApartSpec)) watchApartCard

/-- THE TIED CARD OF 'transhipmentlaw14.WatchTakes'. -/
def watchTakesCard : Claim7 := { stood := { row := watchTakesRow, standIns := [], harness := (true, "d165b8c3435686308b03e2428c0394a00abb74ee1c90edfe137f861cb4c97536"), looks := false }, kinds := [], alts := [], laidByText := true, laidKinds := [.data, .pinned], laidTests := true, laidLooks := .later }
def WatchTakesCardSaid : Prop := Claim7.holds Tryz.pinned (.plain (OpenSpec.ofChange watchTakesSpec)) watchTakesCard

/-- THE TIED CARD OF 'transhipmentlaw14.WatchAlternates'. -/
def watchAlternatesCard : Claim7 := { stood := { row := watchAlternatesRow, standIns := [], harness := (true, "d165b8c3435686308b03e2428c0394a00abb74ee1c90edfe137f861cb4c97536"), looks := false }, kinds := [], alts := [], laidByText := true, laidKinds := [.data, .pinned], laidTests := true, laidLooks := .later }
def WatchAlternatesCardSaid : Prop := Claim7.holds Tryz.pinned (.plain (OpenSpec.ofChange watchAlternatesSpec)) watchAlternatesCard

/-- THE TIED CARD OF 'transhipmentlaw14.WatchFlaps'. -/
def watchFlapsCard : Claim7 := { stood := { row := watchFlapsRow, standIns := [], harness := (true, "d165b8c3435686308b03e2428c0394a00abb74ee1c90edfe137f861cb4c97536"), looks := false }, kinds := [], alts := [], laidByText := true, laidKinds := [.data, .pinned], laidTests := true, laidLooks := .later }
def WatchFlapsCardSaid : Prop := Claim7.holds Tryz.pinned (.plain (OpenSpec.ofChange watchFlapsSpec)) watchFlapsCard

/-- THE SECOND FORM's CARD OF 'transhipmentlaw14.WatchPlain'. -/
def watchPlainUptoCard : Claim7 := { stood := { row := watchPlainUptoRow, standIns := [], harness := (true, "d165b8c3435686308b03e2428c0394a00abb74ee1c90edfe137f861cb4c97536"), looks := false }, kinds := [], alts := [], laidByText := true, laidKinds := [.data, .pinned], laidTests := true, laidLooks := .later }
def WatchPlainUptoCardSaid : Prop := Claim7.holds Tryz.pinned (.plain (OpenSpec.upto watchPlainSpec)) watchPlainUptoCard

/-- THE SECOND FORM's CARD OF 'transhipmentlaw14.WatchWaits'. -/
def watchWaitsUptoCard : Claim7 := { stood := { row := watchWaitsUptoRow, standIns := [], harness := (true, "d165b8c3435686308b03e2428c0394a00abb74ee1c90edfe137f861cb4c97536"), looks := false }, kinds := [], alts := [], laidByText := true, laidKinds := [.data, .pinned], laidTests := true, laidLooks := .later }
def WatchWaitsUptoCardSaid : Prop := Claim7.holds Tryz.pinned (.plain (OpenSpec.upto watchWaitsSpec)) watchWaitsUptoCard

/-- THE SECOND FORM's CARD OF 'transhipmentlaw14.WatchApart'. -/
def watchApartUptoCard : Claim7 := { stood := { row := watchApartUptoRow, standIns := [], harness := (true, "d165b8c3435686308b03e2428c0394a00abb74ee1c90edfe137f861cb4c97536"), looks := false }, kinds := [], alts := [], laidByText := true, laidKinds := [.data, .pinned], laidTests := true, laidLooks := .later }
def WatchApartUptoCardSaid : Prop := Claim7.holds Tryz.pinned (.plain (OpenSpec.upto watchApartSpec)) watchApartUptoCard

/-- THE SECOND FORM's CARD OF 'transhipmentlaw14.WatchTakes'. -/
def watchTakesUptoCard : Claim7 := { stood := { row := watchTakesUptoRow, standIns := [], harness := (true, "d165b8c3435686308b03e2428c0394a00abb74ee1c90edfe137f861cb4c97536"), looks := false }, kinds := [], alts := [], laidByText := true, laidKinds := [.data, .pinned], laidTests := true, laidLooks := .later }
def WatchTakesUptoCardSaid : Prop := Claim7.holds Tryz.pinned (.plain (OpenSpec.upto watchTakesSpec)) watchTakesUptoCard

/-- THE SECOND FORM's CARD OF 'transhipmentlaw14.WatchAlternates'. -/
def watchAlternatesUptoCard : Claim7 := { stood := { row := watchAlternatesUptoRow, standIns := [], harness := (true, "d165b8c3435686308b03e2428c0394a00abb74ee1c90edfe137f861cb4c97536"), looks := false }, kinds := [], alts := [], laidByText := true, laidKinds := [.data, .pinned], laidTests := true, laidLooks := .later }
def WatchAlternatesUptoCardSaid : Prop := Claim7.holds Tryz.pinned (.plain (OpenSpec.upto watchAlternatesSpec)) watchAlternatesUptoCard

/-- THE SECOND FORM's CARD OF 'transhipmentlaw14.WatchFlaps'. -/
def watchFlapsUptoCard : Claim7 := { stood := { row := watchFlapsUptoRow, standIns := [], harness := (true, "d165b8c3435686308b03e2428c0394a00abb74ee1c90edfe137f861cb4c97536"), looks := false }, kinds := [], alts := [], laidByText := true, laidKinds := [.data, .pinned], laidTests := true, laidLooks := .later }
def WatchFlapsUptoCardSaid : Prop := Claim7.holds Tryz.pinned (.plain (OpenSpec.upto watchFlapsSpec)) watchFlapsUptoCard
end Rows
end Go.Proofs.YtcpgkdaicglogaaGreatDoor
