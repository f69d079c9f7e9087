/-
Own text of the proof.
-/
import Derived.Test.YtemoboghbdcjkaaDoorPkStoreRecordsB
namespace Go.Proofs.YtemoboghbdcjkaaDoorPv
open Go
section
variable {P : Program}
end
end Go.Proofs.YtemoboghbdcjkaaDoorPv

