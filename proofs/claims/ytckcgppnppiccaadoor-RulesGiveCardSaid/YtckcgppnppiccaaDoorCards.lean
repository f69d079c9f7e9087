/-
  DERIVED. GIVEN WITH THE SEED: THE CARDS: each row of YtckcgppnppiccaaDoorRows.lean that lists a variable, with what it lists TIED to the program's text (the seventh form; the later family's looks); each row that meets fmt, with fmt's text TOLD by the authors' own Lean function (tested against real Go, not proved from fmt's source: count such statements apart). THE CARD IS WHAT COUNTS. Prove the row's statement (the work); the ties are given (YtckcgppnppiccaaDoorTie.lean); close each card by the builder's one call (the guide's Derived/Test/ToyasCard.lean, 'card_holds'). Laid BY PROGRAM, IN A SANDBOX (cutbox-door.mjs). By AI agents, Wed Nov 11 2026. No macro, syntax, notation, axiom, sorry.
-/
import Derived.Test.YtckcgppnppiccaaDoorRows
import GoSem.ClaimSeven
namespace Go.Proofs.YtckcgppnppiccaaDoor
namespace Rows

/-- THE TIED CARD OF 'transhipmentlaw08.RulesOppose'. -/
def rulesOpposeCard : Claim7 := { stood := { row := rulesOpposeRow, standIns := [], harness := (true, "43255e8043c067d81910ea6990f68fe7193da02c533c67225cce88bd901b9ec0"), looks := false }, kinds := [], alts := [], laidByText := true, laidKinds := [.data, .pinned], laidTests := true, laidLooks := .later }
def RulesOpposeCardSaid : Prop := Claim7.holds Tryd.pinned (.plain (OpenSpec.ofChange rulesOpposeSpec)) rulesOpposeCard

/-- THE TIED CARD OF 'transhipmentlaw08.RulesGive'. -/
def rulesGiveCard : Claim7 := { stood := { row := rulesGiveRow, standIns := [], harness := (true, "43255e8043c067d81910ea6990f68fe7193da02c533c67225cce88bd901b9ec0"), looks := false }, kinds := [], alts := [], laidByText := true, laidKinds := [.data, .pinned], laidTests := true, laidLooks := .later }
def RulesGiveCardSaid : Prop := Claim7.holds Tryd.pinned (.plain (OpenSpec.ofChange rulesGiveSpec)) rulesGiveCard

/-- THE SECOND FORM's CARD OF 'transhipmentlaw08.RulesOppose'. -/
def rulesOpposeUptoCard : Claim7 := { stood := { row := rulesOpposeUptoRow, standIns := [], harness := (true, "43255e8043c067d81910ea6990f68fe7193da02c533c67225cce88bd901b9ec0"), looks := false }, kinds := [], alts := [], laidByText := true, laidKinds := [.data, .pinned], laidTests := true, laidLooks := .later }
def RulesOpposeUptoCardSaid : Prop := Claim7.holds Tryd.pinned (.plain (OpenSpec.upto rulesOpposeSpec)) rulesOpposeUptoCard

/-- THE SECOND FORM's CARD OF 'transhipmentlaw08.RulesGive'. -/
def rulesGiveUptoCard : Claim7 := { stood := { row := rulesGiveUptoRow, standIns := [], harness := (true, "43255e8043c067d81910ea6990f68fe7193da02c533c67225cce88bd901b9ec0"), looks := false }, kinds := [], alts := [], laidByText := true, laidKinds := [.data, .pinned], laidTests := true, laidLooks := .later }
def RulesGiveUptoCardSaid : Prop := Claim7.holds Tryd.pinned (.plain (OpenSpec.upto rulesGiveSpec)) rulesGiveUptoCard
end Rows
end Go.Proofs.YtckcgppnppiccaaDoor
