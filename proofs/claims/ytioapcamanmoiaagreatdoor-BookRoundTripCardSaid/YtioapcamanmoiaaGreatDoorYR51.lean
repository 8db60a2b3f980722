/-
  Part 51.
-/
import Derived.Test.YtioapcamanmoiaaGreatDoorYR50
namespace Go.Proofs.YtioapcamanmoiaaGreatDoor
open Go.Rv
set_option linter.unusedVariables false
set_option linter.unusedSimpArgs false
set_option maxRecDepth 8000
set_option maxHeartbeats 8000000
theorem Ym(a b:UInt8):(a==b)=(a.toNat==b.toNat):=by rw[ApK,ApQ,ApQ,Aqq]
end Go.Proofs.YtioapcamanmoiaaGreatDoor
