/-
Own text of the proof.
-/
import Derived.Test.YtemoboghbdcjkaaDoorCPvRc
import Derived.Test.YtemoboghbdcjkaaDoorPkStoreTearsB
namespace Go.Proofs.YtemoboghbdcjkaaDoorPv
open Go
section
variable {P : Program}
end
end Go.Proofs.YtemoboghbdcjkaaDoorPv

