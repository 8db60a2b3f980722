/-
  Readings of arguments of chapter 02, and of the package variable that the row lists.
-/
import Derived.Test.YtgdiabbgiiemcaaDoorRows
import Derived.Test.YtgdiabbgiiemcaaDoorDP
import Derived.Test.YtgdiabbgiiemcaaDoorR28
import Derived.WalkKit
import Derived.ProofKit
import Derived.OpenShut
import Derived.JoinedCond
import Derived.LaidMore
import Derived.Lay
import Derived.SevenTiedAt
import Derived.Stop.Joined
namespace Go.Proofs.YtgdiabbgiiemcaaDoor
open Go.Rv Go.ChangeShapes Go.WideShapes Go.ChangeAt Go.RowKit
set_option linter.unusedVariables false

theorem bulk_all (H : Type) (l : List (DataW H)) : (l.map (Rows.uptoBulk (H := H))).sum = Rows.uptoBulkAll l := by
  induction l with
  | nil => rfl
  | cons x l ih => simp only [List.map_cons, List.sum_cons, ih, Rows.uptoBulkAll]

theorem bulk_ok : BulkOk (fun H => Rows.uptoBulk (H := H)) where
  one := fun H d => by
    cases d with
    | lit l => cases l <;> simp [Rows.uptoBulk]
    | _ => simp [Rows.uptoBulk]
  str := fun H l => by simp [Rows.uptoBulk]
  slice := fun H e s => by rw [bulk_all]; simp only [Rows.uptoBulk]; omega
  agg := fun H p => by rw [bulk_all]; simp only [Rows.uptoBulk]; omega

theorem cells_of_5 : Tryd.prog.cellsOf 5 = 1 := by kernel_rfl
theorem cells_of_22 : Tryd.prog.cellsOf 22 = 1 := by kernel_rfl
theorem cells_of_25 : Tryd.prog.cellsOf 25 = 32 := by kernel_rfl
theorem opens22 : Opens Tryd.prog (fun H => Rows.uptoBulk (H := H)) 22 (cSl cU8) (szL fun _ => 1) (fun l => l.length ≤ maxLen ∧ ∀ x ∈ l, True) :=
  opens_slice bulk_ok Tryd.underlying22 cells_of_5 (fun _ => rfl) (opens_u8 bulk_ok Tryd.underlying5)
theorem opens45 : Opens Tryd.prog (fun H => Rows.uptoBulk (H := H)) 45 (cSl (cSl cU8)) (szL (szL fun _ => 1)) (fun l => l.length ≤ maxLen ∧ ∀ x ∈ l, x.length ≤ maxLen ∧ ∀ y ∈ x, True) :=
  opens_slice bulk_ok Tryd.underlying45 cells_of_22 (fun _ => rfl) opens22
theorem opens9 : Opens Tryd.prog (fun H => Rows.uptoBulk (H := H)) 9 cStr (fun l => l.length + 1) (fun l => l.length ≤ maxLen) := opens_str bulk_ok Tryd.underlying9
theorem opens25 : Opens Tryd.prog (fun H => Rows.uptoBulk (H := H)) 25 (fun a : Arr UInt8 32 => C1 u8 a.l) (fun a => (a.l.map fun _ => 1).sum) (fun a => ∀ x ∈ a.l, True) :=
  opens_arr bulk_ok Tryd.underlying25 cells_of_25 cells_of_5 (opens_u8 bulk_ok Tryd.underlying5)

theorem own : ownKnob Tryd.prog.godebug = none := by kernel_rfl
theorem laid_ok : laidOutB Tryd.prog = true := by kernel_rfl

abbrev laidK : List (String × DataW Unit) := [("wagonpool/digest.k", Rows.laid_wagonpool_digest_k)]
def kz : List Int := glob0.l.map fun x => (x.toNat : Int)
theorem kz_len : kz.length = 64 := by simp [kz, glob0.h]
theorem laid_kz : (Rows.laid_wagonpool_digest_k : DataW Unit) = .agg (kz.map fun n => .lit (.int .u32 n)) := by kernel_rfl

theorem k_cell {W : World} (h : laidMetH Tryd.prog laidK W) (r : Nat) (hr : r < 64) : W.cell? ⟨0, r, none⟩ = some (.int .u32 (kz.getD r 0)) := by
  rw [MakeChecks.laidMetH_plain _ _ _ (by kernel_rfl)] at h
  obtain ⟨ps, ⟨g, t, cs, fuel, p, q, hg, ht, hv, hd, _, _⟩, _, _⟩ := h
  obtain rfl := Option.some.inj ((show Tryd.prog.globalNamed "wagonpool/digest.k" = some 0 by kernel_rfl).symm.trans hg)
  obtain rfl := Option.some.inj ((show (Tryd.prog.globals[0]?).map (·.type) = some 66 by kernel_rfl).symm.trans ht)
  rw [laid_kz] at hd
  obtain ⟨xs, m, _, ex, _, hl, hel⟩ := DataW.trod_array Tryd.underlying66 hd
  have c5 : Tryd.prog.cellsOf 55 = 1 := by kernel_rfl
  have hE := hel r hr
  rw [c5, Nat.mul_one, List.getElem?_eq_getElem (by omega)] at hE
  obtain ⟨z, e1, e2, _⟩ := DataW.trod_int Tryd.underlying55 hE
  have hlen := kz_len
  have e3 : (xs.map (·.1)) = kz.map fun n => .lit (.int .u32 n) := (DataW.agg.inj (Prod.mk.inj ex).1).symm
  have e4 : (xs.map (·.1))[r]? = (kz.map fun n => (DataW.lit (.int .u32 n) : DataW Unit))[r]? := by rw [e3]
  rw [List.getElem?_map, List.getElem?_map, List.getElem?_eq_getElem (by omega : r < xs.length), List.getElem?_eq_getElem (by omega : r < kz.length), e2] at e4
  have hz : z = kz.getD r 0 := by
    simp only [Option.map_some, Option.some.injEq, DataW.lit.injEq, Lit.int.injEq, true_and] at e4
    rw [e4, List.getD, List.getElem?_eq_getElem (by omega : r < kz.length)]; rfl
  rw [World.var?_cell hg hv r, ← hz]
  have : cs.toList[r]? = some (.int .u32 z) := by
    have h0 : ((cs.toList.drop r).take 1)[0]? = some (.int .u32 z) := by rw [e1]; rfl
    simpa using h0
  simpa using this

theorem mem_k {W : World} (h : laidMetH Tryd.prog laidK W) : Mem (B.env fun _ => False) W [] [] := by
  refine ⟨rfl, fun id b ab h => by simp at h, fun id id' b b' β h => by simp at h, fun a h => h.elim, fun i cs hG => ?_⟩
  have hG' : (if i = 0 then some (C1 u32 glob0.l) else none) = some cs := hG
  by_cases hi : i = 0
  · rw [if_pos hi] at hG'
    cases hG'
    subst hi
    refine ⟨cell?_lt (k_cell h 0 (by omega)), (by rintro ⟨id, b, hb, _⟩; simp at hb), fun _ hf => hf, fun j => .int .u32 (kz.getD j 0), fun j x hj => ?_⟩
    have hj64 : j < 64 := by
      have := (List.getElem?_eq_some_iff.1 hj).1
      rwa [C1_len] at this
    have hx : x = .int .u32 (kz.getD j 0) := by
      simp only [C1, List.getElem?_map, Option.map_eq_some_iff] at hj
      obtain ⟨y, hy, rfl⟩ := hj
      simp [kz, u32, List.getD_eq_getElem?_getD, hy]
    subst hx
    exact ⟨k_cell h j hj64, .int _ _ _, rfl⟩
  · rw [if_neg hi] at hG'; cases hG'

/-- A law whose contract says true: the call returns true, and below the heap's old size nothing turns. -/
theorem law_callsK {f : FuncId} {avs : List AV} (h : Con B f avs [] (fun r σ' => r = .bool true ∧ σ' = [])) {W : World} (hL : laidMetH Tryd.prog laidK W) {args : Array Value}
    (ha : AllRep W (prot (B.env fun _ => False) []) [] args.toList avs) : Calls B.P f args W fun e W' => e = .returned (.bool true) ∧ Below W.heap.size W W' := by
  refine (h.call (fun _ => False) W [] args (mem_k hL) ha).mono ?_
  rintro e w' ⟨v, r, σ', g', rfl, ⟨rfl, rfl⟩, hm, he, hr⟩
  exact ⟨by rw [rep_bool hr], he.below⟩

end Go.Proofs.YtgdiabbgiiemcaaDoor
