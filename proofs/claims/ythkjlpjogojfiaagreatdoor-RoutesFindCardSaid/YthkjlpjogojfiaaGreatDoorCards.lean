/-
  DERIVED. GIVEN WITH THE SEED: THE CARDS: each row of YthkjlpjogojfiaaGreatDoorRows.lean that lists a variable, with what it lists TIED to the program's text (the seventh form; the later family's looks); each row that meets fmt, with fmt's text TOLD by the authors' own Lean function (tested against real Go, not proved from fmt's source: count such statements apart). THE CARD IS WHAT COUNTS. Prove the row's statement (the work); the ties are given (YthkjlpjogojfiaaGreatDoorTie.lean); close each card by the builder's one call (the guide's Derived/Test/ToyasCard.lean, 'card_holds'). Laid BY PROGRAM, IN A SANDBOX (cutbox-door.mjs). By AI agents, Wed Nov 11 2026. No macro, syntax, notation, axiom, sorry.
-/
import Derived.Test.YthkjlpjogojfiaaGreatDoorRows
import GoSem.ClaimSeven
namespace Go.Proofs.YthkjlpjogojfiaaGreatDoor
namespace Rows

/-- THE TIED CARD OF 'transhipmentlaw09.RoutesFind'. -/
def routesFindCard : Claim7 := { stood := { row := routesFindRow, standIns := [], harness := (true, "4f7f36c81a8fbc1b3132ff5777ca078b9012a69567055793e57bc109dfcf9b0d"), looks := false }, kinds := [], alts := [], laidByText := true, laidKinds := [.data, .data, .data, .data, .pinned], laidTests := true, laidLooks := .later }
def RoutesFindCardSaid : Prop := Claim7.holds Tryz.pinned (.plain (OpenSpec.ofChange routesFindSpec)) routesFindCard

/-- THE SECOND FORM's CARD OF 'transhipmentlaw09.RoutesFind'. -/
def routesFindUptoCard : Claim7 := { stood := { row := routesFindUptoRow, standIns := [], harness := (true, "4f7f36c81a8fbc1b3132ff5777ca078b9012a69567055793e57bc109dfcf9b0d"), looks := false }, kinds := [], alts := [], laidByText := true, laidKinds := [.data, .data, .data, .data, .pinned], laidTests := true, laidLooks := .later }
def RoutesFindUptoCardSaid : Prop := Claim7.holds Tryz.pinned (.plain (OpenSpec.upto routesFindSpec)) routesFindUptoCard
end Rows
end Go.Proofs.YthkjlpjogojfiaaGreatDoor
