/-
  R23: arrays.
-/
import Derived.Test.YtomjphpnpcgacaaR22
namespace Go.Rv
set_option linter.unusedVariables false
set_option linter.unusedSimpArgs false

variable {E : Env} {σ : Store}

structure Arr (α : Type) (n : Nat) where
  l : List α
  h : l.length = n
  deriving DecidableEq

def Arr.rep {α : Type} (n : Nat) (x : α) : Arr α n := ⟨List.replicate n x, List.length_replicate⟩
def Arr.set {α : Type} {n : Nat} (a : Arr α n) (i : Nat) (x : α) : Arr α n := ⟨a.l.set i x, by rw [List.length_set, a.h]⟩
def Arr.get {α : Type} [Inhabited α] {n : Nat} (a : Arr α n) (i : Nat) : α := nth a.l i
instance {α : Type} [Inhabited α] {n : Nat} : Inhabited (Arr α n) := ⟨Arr.rep n default⟩

theorem Arr.ext' {α : Type} {n : Nat} {a b : Arr α n} (h : a.l = b.l) : a = b := by cases a; cases b; cases h; rfl

/-- The cells of an array. -/
def C1 {α : Type} (c : α → AV) (l : List α) : List AV := l.map c

section
variable {α : Type} {c : α → AV} {n : Nat} {a b : Arr α n}
theorem C1_len : (C1 c a.l).length = n := by simp [C1, a.h]
theorem C1_get [Inhabited α] {i : Nat} (h : i < n) : (C1 c a.l)[i]? = some (c (a.get i)) := by
  have : i < a.l.length := by rw [a.h]; exact h
  simp [C1, Arr.get, nth, this]
theorem C1_set {i : Nat} {x : α} : C1 c (a.set i x).l = (C1 c a.l).set i (c x) := by simp [C1, Arr.set, List.map_set]
theorem C1_take : (C1 c a.l).take n = C1 c a.l := List.take_of_length_le (Nat.le_of_eq C1_len)
theorem C1_ne (h : (n == 0) = false) : (C1 c a.l = []) = False := by
  refine eq_false ?_
  intro e
  have := congrArg List.length e
  rw [C1_len] at this
  simp at this
  simp [this] at h
theorem splice_all {a b : Arr α n} : splice (C1 c a.l) 0 (C1 c b.l) = C1 c b.l := by
  refine List.ext_getElem? fun k => ?_
  rw [splice_get _ _ _ (by rw [C1_len, C1_len]; omega)]
  rw [C1_len]
  by_cases hk : k < n
  · rw [if_pos ⟨Nat.zero_le _, by omega⟩]; rfl
  · rw [if_neg (by omega), List.getElem?_eq_none (by rw [C1_len]; omega), List.getElem?_eq_none (by rw [C1_len]; omega)]
theorem C1_all_closed (h : ∀ x, (c x).closed = true) {l : List α} : (C1 c l).all AV.closed = true := by
  simp [C1, h]
theorem C1_flat (h : ∀ x, (c x).flat = true) {l : List α} : (C1 c l).all AV.flat = true := by
  simp [C1, h]
theorem fzCells_C1 (h : ∀ x, fzCell σ (c x) = some (c x)) : ∀ {l : List α}, fzCells σ (C1 c l) = some (C1 c l)
  | [] => rfl
  | x :: l => by
    show (fzCell σ (c x)).bind (fun y => (fzCells σ (C1 c l)).bind fun ys => some (y :: ys)) = _
    rw [h, fzCells_C1 h]; rfl
theorem wkL_C1 {sel : List Nat} (h : ∀ x, wk0 sel (c x) (c x)) : ∀ {l : List α}, wkL sel (C1 c l) (C1 c l) = True
  | [] => by simp [C1, wkL]
  | x :: l => by
    refine eq_true ⟨h x, ?_⟩
    exact of_eq_true (wkL_C1 h)
end

theorem bsIds_C1 {α : Type} {c : α → AV} (h : ∀ x, (match c x with | .bs _ id .. => some id | _ => none) = none) {l : List α} : bsIds (.agg (C1 c l)) = [] := by
  show (C1 c l).filterMap _ = []
  simp only [C1, List.filterMap_map, List.filterMap_eq_nil_iff]
  intro x _
  exact h x

theorem C1_mapU8 {l : List UInt8} : (C1 u8 l).map (fun c => [c]) = L cU8 l := by simp [C1, L, cU8]
theorem C1_mapU32 {l : List UInt32} : (C1 u32 l).map (fun c => [c]) = L cU32 l := by simp [C1, L, cU32]
theorem bsU8 {l : List UInt8} : bsIds (.agg (C1 u8 l)) = [] := bsIds_C1 (fun _ => rfl)
theorem bsU32 {l : List UInt32} : bsIds (.agg (C1 u32 l)) = [] := bsIds_C1 (fun _ => rfl)
theorem bsU64 {l : List UInt64} : bsIds (.agg (C1 u64 l)) = [] := bsIds_C1 (fun _ => rfl)
theorem bsI64 {l : List Int} : bsIds (.agg (C1 i64 l)) = [] := bsIds_C1 (fun _ => rfl)
theorem flU8 {l : List UInt8} : (C1 u8 l).all AV.flat = true := C1_flat fun _ => rfl
theorem flU32 {l : List UInt32} : (C1 u32 l).all AV.flat = true := C1_flat fun _ => rfl
theorem flU64 {l : List UInt64} : (C1 u64 l).all AV.flat = true := C1_flat fun _ => rfl
theorem flI64 {l : List Int} : (C1 i64 l).all AV.flat = true := C1_flat fun _ => rfl
theorem clU8 {l : List UInt8} : (C1 u8 l).all AV.closed = true := C1_all_closed fun _ => closed_u8 _
theorem clU32 {l : List UInt32} : (C1 u32 l).all AV.closed = true := C1_all_closed fun _ => closed_u32 _
theorem clU64 {l : List UInt64} : (C1 u64 l).all AV.closed = true := C1_all_closed fun _ => closed_u64 _
theorem clI64 {l : List Int} : (C1 i64 l).all AV.closed = true := C1_all_closed fun _ => closed_i64 _
theorem fzU8 {l : List UInt8} : fzCells σ (C1 u8 l) = some (C1 u8 l) := fzCells_C1 fun _ => rfl
theorem fzU32 {l : List UInt32} : fzCells σ (C1 u32 l) = some (C1 u32 l) := fzCells_C1 fun _ => rfl
theorem fzU64 {l : List UInt64} : fzCells σ (C1 u64 l) = some (C1 u64 l) := fzCells_C1 fun _ => rfl
theorem fzI64 {l : List Int} : fzCells σ (C1 i64 l) = some (C1 i64 l) := fzCells_C1 fun _ => rfl
theorem wkU8 {sel : List Nat} {l : List UInt8} : wkL sel (C1 u8 l) (C1 u8 l) = True := wkL_C1 fun _ => of_eq_true wk0_u8
theorem wkU32 {sel : List Nat} {l : List UInt32} : wkL sel (C1 u32 l) (C1 u32 l) = True := wkL_C1 fun _ => of_eq_true wk0_u32
theorem wkU64 {sel : List Nat} {l : List UInt64} : wkL sel (C1 u64 l) (C1 u64 l) = True := wkL_C1 fun _ => of_eq_true wk0_u64
theorem wkI64 {sel : List Nat} {l : List Int} : wkL sel (C1 i64 l) (C1 i64 l) = True := wkL_C1 fun _ => of_eq_true wk0_i64
theorem lt_le {i n : Nat} (h : i < n) : i + 1 ≤ n := h

attribute [go_sem] C1_mapU8 C1_mapU32 C1_len C1_get C1_set C1_take C1_ne splice_all bsU8 bsU32 bsU64 bsI64 flU8 flU32 flU64 flI64 clU8 clU32 clU64 clI64 fzU8 fzU32 fzU64 fzI64 wkU8 wkU32 wkU64 wkI64 Nat.le_refl fzOps fzAll fzSlot

end Go.Rv
