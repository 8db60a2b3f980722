/-
  DigestValues, the plain law.
-/
import Derived.Test.YtgdiabbgiiemcaaDoorA4
import Derived.Test.YtgdiabbgiiemcaaDoorE2
namespace Go.Proofs.YtgdiabbgiiemcaaDoor
open Go.Rv
set_option linter.unusedVariables false
set_option linter.unusedSimpArgs false

def zero32 : Arr UInt8 32 := ⟨[(0 : UInt8), (0 : UInt8), (0 : UInt8), (0 : UInt8), (0 : UInt8), (0 : UInt8), (0 : UInt8), (0 : UInt8), (0 : UInt8), (0 : UInt8), (0 : UInt8), (0 : UInt8), (0 : UInt8), (0 : UInt8), (0 : UInt8), (0 : UInt8), (0 : UInt8), (0 : UInt8), (0 : UInt8), (0 : UInt8), (0 : UInt8), (0 : UInt8), (0 : UInt8), (0 : UInt8), (0 : UInt8), (0 : UInt8), (0 : UInt8), (0 : UInt8), (0 : UInt8), (0 : UInt8), (0 : UInt8), (0 : UInt8)], rfl⟩

theorem value_bad (tag : List UInt8) (v : Api_Value) (h : szV v ≤ 100000000000) (he : (Enc v).2 ≠ 0) : digest_Value tag v = some (zero32, (Enc v).2) := by
  unfold digest_Value
  refine (bindT (encode_eq v h)).trans ?_
  rw [if_pos (by simpa using he)]
  rfl
theorem value_good (tag : List UInt8) (v : Api_Value) (h : szV v ≤ 100000000000) (he : (Enc v).2 = 0) (hl : (Enc v).1.length ≤ 3000) : digest_Value tag v = some (DS (hsh tag (Enc v).1), 0) := by
  unfold digest_Value
  refine (bindT (encode_eq v h)).trans ?_
  rw [if_neg (by simp [he])]
  exact bindT (tagged tag _ hl)

theorem law_values (tag : List UInt8) (v : Api_Value) (h : szV v ≤ 100000000000) : law02_DigestValues tag v = some true := by
  unfold law02_DigestValues
  rw [sane_ok]
  refine (bindT rfl).trans ?_
  rw [if_neg (by simp)]
  refine (bindT (encode_eq v h)).trans ?_
  by_cases h1 : (tag.length : Int) > 400
  · simp [h1]
  by_cases h2 : ((Enc v).1.length : Int) > 1000
  · simp [h1, h2]
  have hc : (if decide ((tag.length : Int) > 400) = true then some true else some (decide (((Enc v).1.length : Int) > 1000)) : Option Bool) = some false := by simp [h1, h2]
  refine (bindT hc).trans ?_
  rw [if_neg (by simp)]
  by_cases he : (Enc v).2 = 0
  · have hl : (Enc v).1.length ≤ 3000 := by omega
    refine (bindT (value_good tag v h he hl)).trans ?_
    rw [if_neg (by simp [he])]
    simp only [beq_self_eq_true, if_true]
    rw [tagged tag _ hl]
    simp
  · refine (bindT (value_bad tag v h he)).trans ?_
    rw [if_pos (by simpa using he)]
    simp only [beq_self_eq_true, if_true]
    rfl
end Go.Proofs.YtgdiabbgiiemcaaDoor
