/-
Own text of the proof.
-/
import Derived.Test.YtemoboghbdcjkaaDoorPkStoreTurnsB
namespace Go.Proofs.YtemoboghbdcjkaaDoorPv
open Go
section
variable {P : Program}
end
end Go.Proofs.YtemoboghbdcjkaaDoorPv

