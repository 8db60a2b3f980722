/-
  Part 47.
-/
import Derived.Test.YtioapcamanmoiaaDoorYX344
import Derived.Test.YtioapcamanmoiaaDoorYX346
namespace Go.Proofs.YtioapcamanmoiaaDoor
open Go.Rv
theorem AaD {p : Api_Pool} (_ : Abu p) {b : Api_Books} (_ : Y6 b) {rw : Int} (_ : I64 rw) {s : UInt64} (_ : True) {t : Int} (_ : I64 t) {it : Api_Item} (_ : Xc it) : Cr p b rw s t it = some true:=Abh p b rw s t it
end Go.Proofs.YtioapcamanmoiaaDoor
