/-
  DERIVED. GIVEN WITH THE SEED: THE CARDS: each row of YtemoboghbdcjkaaDoorRows.lean that lists a variable, with what it lists TIED to the program's text (the seventh form; the later family's looks); each row that meets fmt, with fmt's text TOLD by the authors' own Lean function (tested against real Go, not proved from fmt's source: count such statements apart). THE CARD IS WHAT COUNTS. Prove the row's statement (the work); the ties are given (YtemoboghbdcjkaaDoorTie.lean); close each card by the builder's one call (the guide's Derived/Test/ToyasCard.lean, 'card_holds'). Laid BY PROGRAM, IN A SANDBOX (cutbox-door.mjs). By AI agents, Wed Nov 11 2026. No macro, syntax, notation, axiom, sorry.
-/
import Derived.Test.YtemoboghbdcjkaaDoorRows
import GoSem.ClaimSeven
namespace Go.Proofs.YtemoboghbdcjkaaDoor
namespace Rows

/-- THE TIED CARD OF 'transhipmentlaw19.StoreTurns'. -/
def storeTurnsCard : Claim7 := { stood := { row := storeTurnsRow, standIns := [], harness := (true, "329f30ec2e1d019ec440e8a64ed1b9cd09c1cc41215f2069fed085dc877a7452"), looks := false }, kinds := [], alts := [], laidByText := true, laidKinds := [.data, .pinned], laidTests := true, laidLooks := .later }
def StoreTurnsCardSaid : Prop := Claim7.holds Tryd.pinned (.plain (OpenSpec.ofChange storeTurnsSpec)) storeTurnsCard

/-- THE TIED CARD OF 'transhipmentlaw19.StoreSafe'. -/
def storeSafeCard : Claim7 := { stood := { row := storeSafeRow, standIns := [], harness := (true, "329f30ec2e1d019ec440e8a64ed1b9cd09c1cc41215f2069fed085dc877a7452"), looks := false }, kinds := [], alts := [], laidByText := true, laidKinds := [.data, .pinned], laidTests := true, laidLooks := .later }
def StoreSafeCardSaid : Prop := Claim7.holds Tryd.pinned (.plain (OpenSpec.ofChange storeSafeSpec)) storeSafeCard

/-- THE TIED CARD OF 'transhipmentlaw19.StoreTears'. -/
def storeTearsCard : Claim7 := { stood := { row := storeTearsRow, standIns := [], harness := (true, "329f30ec2e1d019ec440e8a64ed1b9cd09c1cc41215f2069fed085dc877a7452"), looks := false }, kinds := [], alts := [], laidByText := true, laidKinds := [.data, .pinned], laidTests := true, laidLooks := .later }
def StoreTearsCardSaid : Prop := Claim7.holds Tryd.pinned (.plain (OpenSpec.ofChange storeTearsSpec)) storeTearsCard

/-- THE TIED CARD OF 'transhipmentlaw19.StoreRecords'. -/
def storeRecordsCard : Claim7 := { stood := { row := storeRecordsRow, standIns := [], harness := (true, "329f30ec2e1d019ec440e8a64ed1b9cd09c1cc41215f2069fed085dc877a7452"), looks := false }, kinds := [], alts := [], laidByText := true, laidKinds := [.data, .pinned], laidTests := true, laidLooks := .later }
def StoreRecordsCardSaid : Prop := Claim7.holds Tryd.pinned (.plain (OpenSpec.ofChange storeRecordsSpec)) storeRecordsCard

/-- THE SECOND FORM's CARD OF 'transhipmentlaw19.StoreTurns'. -/
def storeTurnsUptoCard : Claim7 := { stood := { row := storeTurnsUptoRow, standIns := [], harness := (true, "329f30ec2e1d019ec440e8a64ed1b9cd09c1cc41215f2069fed085dc877a7452"), looks := false }, kinds := [], alts := [], laidByText := true, laidKinds := [.data, .pinned], laidTests := true, laidLooks := .later }
def StoreTurnsUptoCardSaid : Prop := Claim7.holds Tryd.pinned (.plain (OpenSpec.upto storeTurnsSpec)) storeTurnsUptoCard

/-- THE SECOND FORM's CARD OF 'transhipmentlaw19.StoreSafe'. -/
def storeSafeUptoCard : Claim7 := { stood := { row := storeSafeUptoRow, standIns := [], harness := (true, "329f30ec2e1d019ec440e8a64ed1b9cd09c1cc41215f2069fed085dc877a7452"), looks := false }, kinds := [], alts := [], laidByText := true, laidKinds := [.data, .pinned], laidTests := true, laidLooks := .later }
def StoreSafeUptoCardSaid : Prop := Claim7.holds Tryd.pinned (.plain (OpenSpec.upto storeSafeSpec)) storeSafeUptoCard

/-- THE SECOND FORM's CARD OF 'transhipmentlaw19.StoreTears'. -/
def storeTearsUptoCard : Claim7 := { stood := { row := storeTearsUptoRow, standIns := [], harness := (true, "329f30ec2e1d019ec440e8a64ed1b9cd09c1cc41215f2069fed085dc877a7452"), looks := false }, kinds := [], alts := [], laidByText := true, laidKinds := [.data, .pinned], laidTests := true, laidLooks := .later }
def StoreTearsUptoCardSaid : Prop := Claim7.holds Tryd.pinned (.plain (OpenSpec.upto storeTearsSpec)) storeTearsUptoCard

/-- THE SECOND FORM's CARD OF 'transhipmentlaw19.StoreRecords'. -/
def storeRecordsUptoCard : Claim7 := { stood := { row := storeRecordsUptoRow, standIns := [], harness := (true, "329f30ec2e1d019ec440e8a64ed1b9cd09c1cc41215f2069fed085dc877a7452"), looks := false }, kinds := [], alts := [], laidByText := true, laidKinds := [.data, .pinned], laidTests := true, laidLooks := .later }
def StoreRecordsUptoCardSaid : Prop := Claim7.holds Tryd.pinned (.plain (OpenSpec.upto storeRecordsSpec)) storeRecordsUptoCard
end Rows
end Go.Proofs.YtemoboghbdcjkaaDoor
