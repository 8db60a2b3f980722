/-
  Part 41.
-/
import Derived.Test.YtnfoiocigicdnaaGreatDoorYH40
namespace Go.Proofs.YtnfoiocigicdnaaGreatDoor
open Go.Rv
set_option linter.unusedVariables false
set_option maxRecDepth 100000
def hexd : List UInt8:=[48,49,50,51,52,53,54,55,56,57,97,98,99,100,101,102]
def badB (c : UInt8) : Bool:=decide (c < 32) || decide (c > 126) || c == 43 || c == 39 || c == 63
def escB (c : UInt8) : List UInt8:=if badB c then [63,nth hexd (c.toNat / 16),nth hexd (c.toNat % 16)] else [c]
def esc (t : List UInt8) : List UInt8:=t.flatMap escB
def I64 (n : Int) : Prop:=-9223372036854775808≤n∧n≤9223372036854775807
structure OkItem (it : Api_Item) : Prop where
 kind : I64 it.Zb
 ref : I64 it.Ref.Za∧I64 it.Ref.No
 nums : I64 it.Ze∧I64 it.Zf∧I64 it.Zg∧I64 it.Zh∧I64 it.Zi∧I64 it.To∧I64 it.Code∧I64 it.Zj∧I64 it.Zk∧I64 it.Zl∧I64 it.Zm
 text : it.Zn.length≤70000
 parts : it.Zo.length≤2000
 part : ∀ x ∈ it.Zo,I64 x.Zb∧I64 x.Zc
end Go.Proofs.YtnfoiocigicdnaaGreatDoor
