/-
  DERIVED. GIVEN WITH THE SEED: THE CARDS: each row of YthkjlpjogojfiaaDoorRows.lean that lists a variable, with what it lists TIED to the program's text (the seventh form; the later family's looks); each row that meets fmt, with fmt's text TOLD by the authors' own Lean function (tested against real Go, not proved from fmt's source: count such statements apart). THE CARD IS WHAT COUNTS. Prove the row's statement (the work); the ties are given (YthkjlpjogojfiaaDoorTie.lean); close each card by the builder's one call (the guide's Derived/Test/ToyasCard.lean, 'card_holds'). Laid BY PROGRAM, IN A SANDBOX (cutbox-door.mjs). By AI agents, Wed Nov 11 2026. No macro, syntax, notation, axiom, sorry.
-/
import Derived.Test.YthkjlpjogojfiaaDoorRows
import GoSem.ClaimSeven
namespace Go.Proofs.YthkjlpjogojfiaaDoor
namespace Rows

/-- THE TIED CARD OF 'transhipmentlaw09.RoutesLead'. -/
def routesLeadCard : Claim7 := { stood := { row := routesLeadRow, standIns := [], harness := (true, "f605a40f3eb7345c89d25794d9365e24a6e7afc7589f606afff938b729aa129a"), looks := false }, kinds := [], alts := [], laidByText := true, laidKinds := [.data, .data, .data, .data, .pinned], laidTests := true, laidLooks := .later }
def RoutesLeadCardSaid : Prop := Claim7.holds Tryd.pinned (.plain (OpenSpec.ofChange routesLeadSpec)) routesLeadCard

/-- THE TIED CARD OF 'transhipmentlaw09.RoutesMore'. -/
def routesMoreCard : Claim7 := { stood := { row := routesMoreRow, standIns := [], harness := (true, "f605a40f3eb7345c89d25794d9365e24a6e7afc7589f606afff938b729aa129a"), looks := false }, kinds := [], alts := [], laidByText := true, laidKinds := [.data, .data, .data, .data, .pinned], laidTests := true, laidLooks := .later }
def RoutesMoreCardSaid : Prop := Claim7.holds Tryd.pinned (.plain (OpenSpec.ofChange routesMoreSpec)) routesMoreCard

/-- THE TIED CARD OF 'transhipmentlaw09.RoutesWalk'. -/
def routesWalkCard : Claim7 := { stood := { row := routesWalkRow, standIns := [], harness := (true, "f605a40f3eb7345c89d25794d9365e24a6e7afc7589f606afff938b729aa129a"), looks := false }, kinds := [], alts := [], laidByText := true, laidKinds := [.data, .data, .data, .data, .pinned], laidTests := true, laidLooks := .later }
def RoutesWalkCardSaid : Prop := Claim7.holds Tryd.pinned (.plain (OpenSpec.ofChange routesWalkSpec)) routesWalkCard

/-- THE TIED CARD OF 'transhipmentlaw09.RoutesWithin'. -/
def routesWithinCard : Claim7 := { stood := { row := routesWithinRow, standIns := [], harness := (true, "f605a40f3eb7345c89d25794d9365e24a6e7afc7589f606afff938b729aa129a"), looks := false }, kinds := [], alts := [], laidByText := true, laidKinds := [.data, .data, .data, .data, .pinned], laidTests := true, laidLooks := .later }
def RoutesWithinCardSaid : Prop := Claim7.holds Tryd.pinned (.plain (OpenSpec.ofChange routesWithinSpec)) routesWithinCard

/-- THE TIED CARD OF 'transhipmentlaw09.RoutesNames'. -/
def routesNamesCard : Claim7 := { stood := { row := routesNamesRow, standIns := [], harness := (true, "f605a40f3eb7345c89d25794d9365e24a6e7afc7589f606afff938b729aa129a"), looks := false }, kinds := [], alts := [], laidByText := true, laidKinds := [.data, .data, .data, .data, .pinned], laidTests := true, laidLooks := .later }
def RoutesNamesCardSaid : Prop := Claim7.holds Tryd.pinned (.plain (OpenSpec.ofChange routesNamesSpec)) routesNamesCard

/-- THE SECOND FORM's CARD OF 'transhipmentlaw09.RoutesLead'. -/
def routesLeadUptoCard : Claim7 := { stood := { row := routesLeadUptoRow, standIns := [], harness := (true, "f605a40f3eb7345c89d25794d9365e24a6e7afc7589f606afff938b729aa129a"), looks := false }, kinds := [], alts := [], laidByText := true, laidKinds := [.data, .data, .data, .data, .pinned], laidTests := true, laidLooks := .later }
def RoutesLeadUptoCardSaid : Prop := Claim7.holds Tryd.pinned (.plain (OpenSpec.upto routesLeadSpec)) routesLeadUptoCard

/-- THE SECOND FORM's CARD OF 'transhipmentlaw09.RoutesMore'. -/
def routesMoreUptoCard : Claim7 := { stood := { row := routesMoreUptoRow, standIns := [], harness := (true, "f605a40f3eb7345c89d25794d9365e24a6e7afc7589f606afff938b729aa129a"), looks := false }, kinds := [], alts := [], laidByText := true, laidKinds := [.data, .data, .data, .data, .pinned], laidTests := true, laidLooks := .later }
def RoutesMoreUptoCardSaid : Prop := Claim7.holds Tryd.pinned (.plain (OpenSpec.upto routesMoreSpec)) routesMoreUptoCard

/-- THE SECOND FORM's CARD OF 'transhipmentlaw09.RoutesWalk'. -/
def routesWalkUptoCard : Claim7 := { stood := { row := routesWalkUptoRow, standIns := [], harness := (true, "f605a40f3eb7345c89d25794d9365e24a6e7afc7589f606afff938b729aa129a"), looks := false }, kinds := [], alts := [], laidByText := true, laidKinds := [.data, .data, .data, .data, .pinned], laidTests := true, laidLooks := .later }
def RoutesWalkUptoCardSaid : Prop := Claim7.holds Tryd.pinned (.plain (OpenSpec.upto routesWalkSpec)) routesWalkUptoCard

/-- THE SECOND FORM's CARD OF 'transhipmentlaw09.RoutesWithin'. -/
def routesWithinUptoCard : Claim7 := { stood := { row := routesWithinUptoRow, standIns := [], harness := (true, "f605a40f3eb7345c89d25794d9365e24a6e7afc7589f606afff938b729aa129a"), looks := false }, kinds := [], alts := [], laidByText := true, laidKinds := [.data, .data, .data, .data, .pinned], laidTests := true, laidLooks := .later }
def RoutesWithinUptoCardSaid : Prop := Claim7.holds Tryd.pinned (.plain (OpenSpec.upto routesWithinSpec)) routesWithinUptoCard

/-- THE SECOND FORM's CARD OF 'transhipmentlaw09.RoutesNames'. -/
def routesNamesUptoCard : Claim7 := { stood := { row := routesNamesUptoRow, standIns := [], harness := (true, "f605a40f3eb7345c89d25794d9365e24a6e7afc7589f606afff938b729aa129a"), looks := false }, kinds := [], alts := [], laidByText := true, laidKinds := [.data, .data, .data, .data, .pinned], laidTests := true, laidLooks := .later }
def RoutesNamesUptoCardSaid : Prop := Claim7.holds Tryd.pinned (.plain (OpenSpec.upto routesNamesSpec)) routesNamesUptoCard
end Rows
end Go.Proofs.YthkjlpjogojfiaaDoor
