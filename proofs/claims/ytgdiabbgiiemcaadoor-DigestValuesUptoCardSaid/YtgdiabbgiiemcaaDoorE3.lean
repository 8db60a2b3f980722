/-
  Readings of values (api.Value, a type that holds slices of itself).
-/
import Derived.Test.YtgdiabbgiiemcaaDoorE1
namespace Go.Proofs.YtgdiabbgiiemcaaDoor
open Go.Rv
set_option linter.unusedVariables false

def rangeI (x : Int) : Prop := -9223372036854775808 ≤ x ∧ x ≤ 9223372036854775807
mutual
def okV : Api_Value → Prop
  | .mk k n b l => rangeI k ∧ rangeI n ∧ okVs l
def okVs : List Api_Value → Prop
  | [] => True
  | x :: l => okV x ∧ okVs l
end
theorem okVs_all (l : List Api_Value) : okVs l ↔ ∀ x ∈ l, okV x := by
  induction l with
  | nil => simp [okVs]
  | cons x l ih => simp [okVs, ih]
theorem okV_eq (v : Api_Value) : okV v ↔ rangeI v.Kind ∧ rangeI v.N ∧ ∀ x ∈ v.L, okV x := by
  rw [← okVs_all]
  cases v with
  | mk k n b l => simp only [okV]; rfl

theorem szL_one (b : List UInt8) : b.length ≤ szL (fun _ => 1) b := by
  unfold szL
  induction b with
  | nil => simp
  | cons x b ih => simp only [List.map_cons, List.sum_cons, List.length_cons] at ih ⊢; omega
theorem szL_szV (l : List Api_Value) : szVs l + 1 ≤ szL szV l := by
  unfold szL
  induction l with
  | nil => simp [szVs]
  | cons x b ih => simp only [List.map_cons, List.sum_cons, szVs] at ih ⊢; omega

theorem opensAt_value {P : Program} {BB : ∀ H : Type, DataW H → Nat} {t tI tB tL : TypeId} {fs : Array Field} (hB : BulkOk BB) (ht : P.underlying t = some (.struct fs))
    (hfs : fs.toList = [⟨"Kind", tI, 0, false, "", "", 0⟩, ⟨"N", tI, 1, false, "", "", 8⟩, ⟨"B", tB, 2, false, "", "", 16⟩, ⟨"L", tL, 3, false, "", "", 40⟩])
    (hn : P.cellsOf t = 4) (cI : P.cellsOf tI = 1) (cB : P.cellsOf tB = 1) (cL : P.cellsOf tL = 1)
    (oI : Opens P BB tI cI64 (fun _ => 1) (fun x => -9223372036854775808 ≤ x ∧ x ≤ 9223372036854775807))
    (oB : Opens P BB tB (cSl cU8) (szL fun _ => 1) (fun l => l.length ≤ maxLen ∧ ∀ x ∈ l, True))
    (hL : P.underlying tL = some (.slice t)) : ∀ fuel, OpensAt P BB fuel t cApi_Value szV okV
  | 0 => opensAt_zero
  | fuel + 1 => by
    have hl : OpensAt P BB fuel tL (cSl cApi_Value) (szL szV) (fun l => l.length ≤ maxLen ∧ ∀ x ∈ l, okV x) := by
      cases fuel with
      | zero => exact opensAt_zero
      | succ n => exact opensAt_slice hB hL hn (fun x => by rw [cApi_Value_eq]; rfl) (opensAt_value hB ht hfs hn cI cB cL oI oB hL n)
    refine opensAt_struct hB ht hn (c := fun x : Int × Int × List UInt8 × List Api_Value × Unit => cI64 x.1 ++ (cI64 x.2.1 ++ (cSl cU8 x.2.2.1 ++ (cSl cApi_Value x.2.2.2.1 ++ []))))
      (by
        rw [hfs]
        exact opensFsAt_cons (k := 1) rfl cI (fun _ => rfl) (oI.at fuel) (opensFsAt_cons (k := 1) rfl cI (fun _ => rfl) (oI.at fuel) (opensFsAt_cons (k := 1) rfl cB (fun _ => rfl) (oB.at fuel) (opensFsAt_cons (k := 1) rfl cL (fun _ => rfl) hl opensFsAt_nil))))
      (fun x => (Api_Value.mk x.1 x.2.1 x.2.2.1 x.2.2.2.1)) (fun x => by rw [cApi_Value_eq]; rfl) (fun x => by rw [cApi_Value_eq]; rfl) (fun x => ?_) (fun x h => ?_)
    · have h1 := szL_one x.2.2.1
      have h2 := szL_szV x.2.2.2.1
      simp only [szV]
      omega
    · exact (okV_eq _).2 ⟨h.1, h.2.1, h.2.2.2.1.2⟩
  termination_by fuel => fuel
end Go.Proofs.YtgdiabbgiiemcaaDoor
