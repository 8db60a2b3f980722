/-
  Part 46.
-/
import Derived.Test.YtioapcamanmoiaaDoorYX643
import Derived.Test.YtioapcamanmoiaaDoorYX645
namespace Go.Proofs.YtioapcamanmoiaaDoor
open Go.Rv
theorem Xr {p : Api_Pool} (_ : Ab8 p) {b : Api_Books} (_ : Y1 b) {r : Api_Record} (_ : He r) : Gg p b r = some true:=AaS p b r
end Go.Proofs.YtioapcamanmoiaaDoor
