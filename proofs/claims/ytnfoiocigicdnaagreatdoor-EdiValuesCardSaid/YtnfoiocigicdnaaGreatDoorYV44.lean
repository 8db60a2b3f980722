/-
  Part 44.
-/
import Derived.Test.YtnfoiocigicdnaaGreatDoorProg
import Derived.Test.YtnfoiocigicdnaaGreatDoorRows
import Derived.Test.YtnfoiocigicdnaaGreatDoorYV26
import Derived.Test.YtnfoiocigicdnaaGreatDoorYV35
import Derived.Test.YtnfoiocigicdnaaGreatDoorYV41
import Derived.Test.YtnfoiocigicdnaaGreatDoorYV43
import Derived.KernelRfl
import Derived.Lib.LaidTab
import Derived.WalkKit
import Derived.ProofKit
import Derived.OpenShut
import Derived.JoinedCond
import Derived.LaidMore
import Derived.Lay
import Derived.SevenTiedAt
import Derived.Stop.Joined
import Derived.Shelf.Strings.Builder1
import Derived.Shelf.Strconv.Itoa3
import Derived.Shelf.Strconv.AtoiAll
import Derived.Shelf.Strconv.ToError
import Derived.Shelf.Strconv.ToErrorRange
import Derived.Shelf.Strings.Count
import Derived.Shelf.RegionOpenPlain
import Derived.Lib.AppendIntMem
import Derived.RangeFuncNested
import Derived.RangeFuncBound
import Derived.RangeFuncCalls
import Derived.RangeFuncLeaves
import Derived.RangeFuncBox
import Derived.Shelf.Abstract
import Derived.Shelf.RegionOpen
import Derived.OwnWalkIn
import Derived.TacticsInMore
import Derived.LoopNIn
import Derived.LoopIn
import Derived.Maps.AppendAt
import Derived.Shelf.Strings.Search3
import Derived.LoopTactic
namespace Go.Proofs.YtnfoiocigicdnaaGreatDoor
open Go.Rv
set_option linter.unusedVariables false
set_option maxRecDepth 100000
def hexd : List UInt8 := [48, 49, 50, 51, 52, 53, 54, 55, 56, 57, 97, 98, 99, 100, 101, 102]
def badB (c : UInt8) : Bool := decide (c < 32) || decide (c > 126) || c == 43 || c == 39 || c == 63
def escB (c : UInt8) : List UInt8 := if badB c then [63, nth hexd (c.toNat / 16), nth hexd (c.toNat % 16)] else [c]
def esc (t : List UInt8) : List UInt8 := t.flatMap escB
theorem escB_len (c : UInt8) : (escB c).length ≤ 3 := by unfold escB; split <;> simp
theorem Mb {k : Nat} (h : k + 1 < 9223372036854775807) : w64 ((k : Int) + 1) = ((k + 1 : Nat) : Int) := by rw [L4 (by omega)]; omega
def I64 (n : Int) : Prop := -9223372036854775808 ≤ n ∧ n ≤ 9223372036854775807
structure OkItem (it : Api_Item) : Prop where
  kind : I64 it.Kind
  ref : I64 it.Ref.Railway ∧ I64 it.Ref.No
  nums : I64 it.Wagon ∧ I64 it.Place ∧ I64 it.Other ∧ I64 it.Number ∧ I64 it.From ∧ I64 it.To ∧ I64 it.Code ∧ I64 it.Dest ∧ I64 it.Class ∧ I64 it.Weight ∧ I64 it.Amount
  text : it.Text.length ≤ 70000
  parts : it.Parts.length ≤ 2000
  part : ∀ x ∈ it.Parts, I64 x.Kind ∧ I64 x.Serial
theorem K0 {α : Type} [Inhabited α] {l : List α} {k : Nat} (hk : k < l.length) : nth l k ∈ l := by
  simp [nth, List.getElem?_eq_getElem hk]
def lets : List UInt8 := [119, 112, 111, 110, 102, 116, 99, 100, 107, 103, 97]
def Mw (it : Api_Item) : List (UInt8 × Int) := [(119, it.Wagon), (112, it.Place), (111, it.Other), (110, it.Number), (102, it.From), (116, it.To), (99, it.Code), (100, it.Dest), (107, it.Class), (103, it.Weight), (97, it.Amount)]
theorem Aby {it : Api_Item} (hi : OkItem it) {k : Nat} (hk : k < 11) : ∃ c n, (Mw it)[k]? = some (c, n) ∧ I64 n ∧ Hv it (nth lets k) = some n ∧ (lets.drop k).take (k + 1 - k) = [c] := by
  obtain ⟨h1, h2, h3, h4, h5, h6, h7, h8, h9, h10, h11⟩ := hi.nums
  have : k = 0 ∨ k = 1 ∨ k = 2 ∨ k = 3 ∨ k = 4 ∨ k = 5 ∨ k = 6 ∨ k = 7 ∨ k = 8 ∨ k = 9 ∨ k = 10 := by omega
  rcases this with rfl | rfl | rfl | rfl | rfl | rfl | rfl | rfl | rfl | rfl | rfl
  · exact ⟨_, _, rfl, h1, rfl, rfl⟩
  · exact ⟨_, _, rfl, h2, rfl, rfl⟩
  · exact ⟨_, _, rfl, h3, rfl, rfl⟩
  · exact ⟨_, _, rfl, h4, rfl, rfl⟩
  · exact ⟨_, _, rfl, h5, rfl, rfl⟩
  · exact ⟨_, _, rfl, h6, rfl, rfl⟩
  · exact ⟨_, _, rfl, h7, rfl, rfl⟩
  · exact ⟨_, _, rfl, h8, rfl, rfl⟩
  · exact ⟨_, _, rfl, h9, rfl, rfl⟩
  · exact ⟨_, _, rfl, h10, rfl, rfl⟩
  · exact ⟨_, _, rfl, h11, rfl, rfl⟩
theorem Yt {n : Nat} (h : n ≤ 2199023255552) : Fv n 64 := ⟨Nat.le_trans h (by decide), Nat.le_trans (Nat.mul_le_mul_right 64 h) (by decide)⟩
def iV (n : Int) : Api_Value := Api_Value.mk 1 n [] []
def tV (s : List UInt8) : Api_Value := Api_Value.mk 2 0 s []
def lV (l : List Api_Value) : Api_Value := Api_Value.mk 3 0 [] l
def H0 (x : Api_Part) : Api_Value := lV [iV x.Kind, iV x.Serial, iV (if x.Fitted = true then 1 else 0)]
def U8 (it : Api_Item) : List Api_Value := [iV it.Kind, lV [iV it.Ref.Railway, iV it.Ref.No], iV it.Wagon, iV it.Place, iV it.Other, iV it.Number, iV it.From, iV it.To, iV it.Code, iV it.Dest, iV it.Class, iV it.Weight, iV it.Amount]
def val (it : Api_Item) : Api_Value := lV (U8 it ++ [tV it.Text, lV (it.Parts.map H0)])
theorem map_take {α β : Type} [Inhabited α] (f : α → β) (l : List α) (k : Nat) (hk : k < l.length) : (l.take (k + 1)).map f = (l.take k).map f ++ [f (nth l k)] := by
  have h : l.take (k + 1) = l.take k ++ [nth l k] := by
    rw [List.take_add_one, List.getElem?_eq_getElem hk]
    simp [nth, List.getElem?_eq_getElem hk]
  rw [h]; simp
theorem AiJ {it : Api_Item} (hp : it.Parts.length ≤ 2199023255552) : C6 (fun (v : Int × List Api_Value) => D1 it v.1 v.2) (0, []) = some (it.Parts.map H0) := by
  obtain ⟨x, hx, rfl⟩ := I9 (f := fun (v : Int × List Api_Value) => D1 it v.1 v.2) it.Parts.length (fun k v => v = ((k : Int), (it.Parts.take k).map H0)) (fun x => x = it.Parts.map H0) (by omega) (by
      rintro k v hk rfl
      refine ⟨_, ?_, rfl⟩
      have hin : InR (k : Int) it.Parts.length := ⟨by omega, by simpa using hk⟩
      unfold D1
      rw [if_pos (decide_eq_true (by omega)), if_pos hin, Mb (by omega), map_take _ _ k hk]
      simp only [Int.toNat_natCast, lt1]
      have e : (if (nth it.Parts k).Fitted = true then some 1 else some 0 : Option Int) = some (if (nth it.Parts k).Fitted = true then 1 else 0) := by split <;> rfl
      rw [e]
      simp only [Option.bind_some, Bh, Ed]
      rw [if_pos (Yt (by simp; omega))]
      rfl) (by
      rintro v rfl
      refine ⟨_, ?_, rfl⟩
      unfold D1
      rw [if_neg (by simp)]
      simp) (v0 := (0, [])) (by simp)
  exact hx
theorem Uv {it : Api_Item} (hp : it.Parts.length ≤ 2199023255552) : En it = some (val it) := by
  unfold En
  simp only [Option.bind_some, Bh, Ed, Ig, edi_list_cnil, P6, lt1, AiJ hp]
  repeat rw [if_pos (Yt (by simp))]
  simp only [Option.bind_some]
  rw [if_pos (Yt (by simp))]
  rfl
theorem Aju : law11_sane = some true := by decide +kernel
theorem AcW (n : Int) : I6 n n = some 0 := by
  unfold I6
  rw [if_neg (by simp), if_neg (by simp)]
theorem Adm {l : List UInt8} (h : l.length ≤ 140737488355328) : Ek l l = some 0 := by
  unfold Ek
  obtain ⟨x, hx, rfl⟩ := I9 (f := fun (v : Int) => C0 l l v) l.length (fun k v => v = (k : Int)) (fun x => x = .inl ()) (by omega) (by
      rintro k v hk rfl
      refine ⟨_, ?_, rfl⟩
      have hin : InR (k : Int) l.length := ⟨by omega, by simpa using hk⟩
      unfold C0
      have c1 : decide ((k : Int) < (l.length : Int)) = true := decide_eq_true (by omega)
      rw [c1, if_pos rfl, Option.bind_some, if_pos rfl, if_pos hin, if_pos hin, if_neg (by simp), Mb (by omega)]) (by
      rintro v rfl
      refine ⟨_, ?_, rfl⟩
      unfold C0
      rw [if_neg (by simp), Option.bind_some, if_neg (by simp)]) (v0 := 0) rfl
  rw [hx]
  simp only [Option.bind_some, AcW]
theorem Jf {n : Nat} {v : Api_Value} (hb : v.B.length ≤ 140737488355328) (hl : v.L.length ≤ 140737488355328) (h : ∀ x ∈ v.L, Di n x x = some true) : Di (n + 1) v v = some true := by
  show I0 (Di n) v v = _
  unfold I0
  rw [if_neg (by simp), if_neg (by simp), Adm hb, Option.bind_some, if_neg (by simp), Option.bind_some, if_neg (by simp)]
  obtain ⟨x, hx, rfl⟩ := I9 (f := fun (i : Int) => F4 v v (Di n) i) v.L.length (fun k i => i = (k : Int)) (fun x => x = .inl ()) (by omega) (by
      rintro k i hk rfl
      refine ⟨_, ?_, rfl⟩
      have hin : InR (k : Int) v.L.length := ⟨by omega, by simpa using hk⟩
      unfold F4
      rw [if_pos (decide_eq_true (by omega)), if_pos hin, if_pos hin, Int.toNat_natCast, h _ (K0 hk), Option.bind_some, if_neg (by simp), Mb (by omega)]) (by
      rintro i rfl
      refine ⟨_, ?_, rfl⟩
      unfold F4
      rw [if_neg (by simp)]) (v0 := 0) rfl
  rw [hx]
  rfl
theorem Aeo (n : Nat) (x : Int) : Di (n + 1) (iV x) (iV x) = some true := Jf (by simp [iV, Api_Value.B]) (by simp [iV, Api_Value.L]) (by simp [iV, Api_Value.L])
theorem Agm {it : Api_Item} (ht : it.Text.length ≤ 140737488355328) (hp : it.Parts.length ≤ 2199023255552) : Wi (val it) (val it) = some true := by
  refine Jf (n := 18446744073709551615) (by simp [val, lV, Api_Value.B]) (by simp [val, lV, U8, Api_Value.L]) ?_
  intro x hx
  have hi : ∀ z, Di 18446744073709551615 (iV z) (iV z) = some true := fun z => Aeo 18446744073709551614 z
  have hi2 : ∀ z, Di 18446744073709551614 (iV z) (iV z) = some true := fun z => Aeo 18446744073709551613 z
  have hi3 : ∀ z, Di 18446744073709551613 (iV z) (iV z) = some true := fun z => Aeo 18446744073709551612 z
  have hL : (val it).L = U8 it ++ [tV it.Text, lV (it.Parts.map H0)] := rfl
  rw [hL] at hx
  simp only [U8, List.cons_append, List.nil_append, List.mem_cons, List.not_mem_nil, or_false] at hx
  rcases hx with rfl | rfl | rfl | rfl | rfl | rfl | rfl | rfl | rfl | rfl | rfl | rfl | rfl | rfl | rfl
  · exact hi _
  · refine Jf (n := 18446744073709551614) (by simp [lV, Api_Value.B]) (by simp [lV, Api_Value.L]) ?_
    intro y hy
    have : (lV [iV it.Ref.Railway, iV it.Ref.No]).L = [iV it.Ref.Railway, iV it.Ref.No] := rfl
    rw [this] at hy
    simp only [List.mem_cons, List.not_mem_nil, or_false] at hy
    rcases hy with rfl | rfl <;> exact hi2 _
  · exact hi _
  · exact hi _
  · exact hi _
  · exact hi _
  · exact hi _
  · exact hi _
  · exact hi _
  · exact hi _
  · exact hi _
  · exact hi _
  · exact hi _
  · exact Jf (n := 18446744073709551614) (by simpa [tV, Api_Value.B] using (by omega : it.Text.length ≤ 140737488355328)) (by simp [tV, Api_Value.L]) (by simp [tV, Api_Value.L])
  · refine Jf (n := 18446744073709551614) (by simp [lV, Api_Value.B]) (by simp [lV, Api_Value.L]; omega) ?_
    intro y hy
    have : (lV (it.Parts.map H0)).L = it.Parts.map H0 := rfl
    rw [this] at hy
    obtain ⟨p, _, rfl⟩ := List.mem_map.1 hy
    refine Jf (n := 18446744073709551613) (by simp [H0, lV, Api_Value.B]) (by simp [H0, lV, Api_Value.L]) ?_
    intro z hz
    have : (H0 p).L = [iV p.Kind, iV p.Serial, iV (if p.Fitted = true then 1 else 0)] := rfl
    rw [this] at hz
    simp only [List.mem_cons, List.not_mem_nil, or_false] at hz
    rcases hz with rfl | rfl | rfl <;> exact hi3 _
structure Ints (it : Api_Item) : Prop where
  kind : I64 it.Kind
  ref : I64 it.Ref.Railway ∧ I64 it.Ref.No
  nums : I64 it.Wagon ∧ I64 it.Place ∧ I64 it.Other ∧ I64 it.Number ∧ I64 it.From ∧ I64 it.To ∧ I64 it.Code ∧ I64 it.Dest ∧ I64 it.Class ∧ I64 it.Weight ∧ I64 it.Amount
  part : ∀ x ∈ it.Parts, I64 x.Kind ∧ I64 x.Serial
theorem Ints.ok {it : Api_Item} (h : Ints it) (ht : it.Text.length ≤ 2000) (hp : it.Parts.length ≤ 20) : OkItem it := ⟨h.kind, h.ref, h.nums, by omega, by omega, h.part⟩
theorem Ahh (it : Api_Item) : Hu it = some (decide (it.Text.length ≤ 2000 ∧ it.Parts.length ≤ 20)) := by
  unfold Hu
  by_cases h1 : it.Text.length ≤ 2000
  · by_cases h2 : it.Parts.length ≤ 20
    · rw [if_pos (decide_eq_true (by omega)), Option.bind_some, decide_eq_true (show (it.Parts.length : Int) ≤ 20 by omega)]; simp [h1, h2]
    · rw [if_pos (decide_eq_true (by omega)), Option.bind_some, decide_eq_false (show ¬(it.Parts.length : Int) ≤ 20 by omega)]; simp [h2]
  · rw [if_neg (by simp; omega), Option.bind_some]; simp [h1]
theorem Afz {T : Tables} {f u : Nat} {i : TypeInfo} (hu : ¬ u < T.types.size) (h : Made.infoAt T (f + 1) u = some i) : ∃ d, Made.reckon (Made.infoAt T f) d = some i := by
  unfold Made.infoAt at h
  rw [if_neg hu] at h
  obtain ⟨d, _, h2⟩ := Option.bind_eq_some_iff.1 h
  exact ⟨d, h2⟩
theorem Aca {info : TypeId → Option TypeInfo} {d : TypeDesc} {i : TypeInfo} (h : Made.reckon info d = some i) : (∃ e j, i.desc = .pointer e ∧ info e = some j ∧ ∀ n r, j.desc ≠ .named n r) ∨ (∀ e, i.desc ≠ .pointer e) ∧ (∀ n r, i.desc ≠ .named n r) ∧ i.desc ≠ .bool ∧ (∀ k, i.desc ≠ .int k) ∧ (∀ k, i.desc ≠ .float k) ∧ i.desc ≠ .string := by
  cases d with
  | pointer e =>
    left
    simp only [Made.reckon, Option.bind_eq_bind, Option.bind_eq_some_iff] at h
    obtain ⟨j, h1, h2⟩ := h
    refine ⟨e, j, ?_, h1, ?_⟩
    · split at h2
      · cases h2
      · split at h2
        · cases h2
        · simp only [Option.pure_def, Option.bind_eq_some_iff] at h2; obtain ⟨s, _, h3⟩ := h2; cases h3; rfl
      · simp only [Option.pure_def, Option.bind_eq_some_iff] at h2; obtain ⟨s, _, h3⟩ := h2; cases h3; rfl
    · intro n r e2
      rw [e2] at h2
      cases h2
  | bool => cases h
  | string => cases h
  | int k => cases h
  | float k => cases h
  | named n r => cases h
  | slice e =>
    right
    simp only [Made.reckon, Option.bind_eq_bind, Option.bind_eq_some_iff, Option.pure_def] at h
    obtain ⟨j, _, s, _, h3⟩ := h
    cases h3
    exact ⟨fun e h => (by cases h), fun n r h => (by cases h), (by intro h; cases h), fun k h => (by cases h), fun k h => (by cases h), (by intro h; cases h)⟩
  | map k e =>
    right
    simp only [Made.reckon, Option.bind_eq_bind, Option.bind_eq_some_iff, Option.pure_def] at h
    obtain ⟨jk, _, sk, _, je, _, se, _, h3⟩ := h
    cases h3
    exact ⟨fun e h => (by cases h), fun n r h => (by cases h), (by intro h; cases h), fun k h => (by cases h), fun k h => (by cases h), (by intro h; cases h)⟩
  | chan dir e =>
    right
    simp only [Made.reckon, Option.bind_eq_bind, Option.bind_eq_some_iff, Option.pure_def] at h
    obtain ⟨j, _, s, _, h3⟩ := h
    cases h3
    exact ⟨fun e h => (by cases h), fun n r h => (by cases h), (by intro h; cases h), fun k h => (by cases h), fun k h => (by cases h), (by intro h; cases h)⟩
  | func ps rs v =>
    right
    simp only [Made.reckon, Option.bind_eq_bind, Option.bind_eq_some_iff, Option.pure_def] at h
    obtain ⟨s, _, h3⟩ := h
    cases h3
    exact ⟨fun e h => (by cases h), fun n r h => (by cases h), (by intro h; cases h), fun k h => (by cases h), fun k h => (by cases h), (by intro h; cases h)⟩
  | array n e =>
    right
    simp only [Made.reckon, Option.bind_eq_bind, Option.bind_eq_some_iff, Option.pure_def] at h
    obtain ⟨j, _, s, _, h3⟩ := h
    cases h3
    exact ⟨fun e h => (by cases h), fun n r h => (by cases h), (by intro h; cases h), fun k h => (by cases h), fun k h => (by cases h), (by intro h; cases h)⟩
  | struct fs =>
    right
    simp only [Made.reckon, Made.reckonStruct, Option.bind_eq_bind, Option.bind_eq_some_iff, Option.pure_def] at h
    obtain ⟨r, _, h3⟩ := h
    split at h3 <;> cases h3
    all_goals exact ⟨fun e h => (by cases h), fun n r h => (by cases h), (by intro h; cases h), fun k h => (by cases h), fun k h => (by cases h), (by intro h; cases h)⟩
  | _ => cases h
theorem Zn {a b : String} (h : "*" ++ a = "*" ++ b) : a = b := by
  have h2 := congrArg String.toList h
  simp only [String.toList_append] at h2
  exact String.toList_injective (List.append_cancel_left h2)
theorem AgL : ((List.range Tryz.prog.types.size).all fun u => (Tryz.prog.typeName? 3 u != some "*errors.errorString") || (u == 248)) = true := by kernel_rfl
noncomputable def Ans (o : Option TypeInfo) : Bool := match o with | some j => (match j.desc with | .named _ _ => true | _ => false) | none => true
theorem AdF {j : TypeInfo} (h : Ans (some j) = true) : ∃ n r, j.desc = .named n r := by
  have h' : (match j.desc with | .named _ _ => true | _ => false) = true := h
  cases hd : j.desc with
  | named n r => exact ⟨n, r, rfl⟩
  | _ => rw [hd] at h'; cases h'
noncomputable def nmd (e : Nat) : Bool := Ans Tryz.prog.types[e]?
theorem Ahr : ((List.range Tryz.prog.types.size).all fun e => (Tryz.prog.typeName? 2 e != some "errors.errorString") || nmd e) = true := by kernel_rfl
theorem Ag0 {u : Nat} (h : ¬ u < Tryz.prog.types.size) : Tryz.prog.info? u = Made.infoAt Tryz.prog.toTables 100 u := by
  show Tables.info? _ u = _
  unfold Tables.info?
  rw [if_neg h]
  rfl
theorem AhU {d u : Nat} (hu : ¬ u < Tryz.prog.types.size) {s : String} (h : Tryz.prog.typeName? (d + 1) u = some s) :
    ∃ e j x, Made.infoAt Tryz.prog.toTables 99 e = some j ∧ (∀ n r, j.desc ≠ .named n r) ∧ Tryz.prog.typeName? d e = some x ∧ s = "*" ++ x := by
  unfold Program.typeName? at h
  rw [Ag0 hu] at h
  split at h
  · rename_i i hi
    obtain ⟨dd, hd⟩ := Afz hu hi
    rcases Aca hd with ⟨e, j, h1, h2, h3⟩ | ⟨h1, h2, h3, h4, h5, h6⟩
    · rw [h1] at h
      simp only [Option.map_eq_some_iff] at h
      obtain ⟨x, hx, rfl⟩ := h
      exact ⟨e, j, x, h2, h3, hx, rfl⟩
    · exfalso
      split at h
      · exact h2 _ _ (by assumption)
      · exact h1 _ (by assumption)
      · exact h3 (by assumption)
      · exact h4 _ (by assumption)
      · exact h5 _ (by assumption)
      · exact h6 (by assumption)
      · cases h
  · cases h
theorem Ag5 : ("errors.errorString" : String).toList.head? = some (Char.ofNat 101) := by decide +kernel
theorem AfB : ("*" : String).toList.head? = some (Char.ofNat 42) := by decide +kernel
theorem AiU {u : Nat} (h : Tryz.prog.typeName? 3 u = some "*errors.errorString") : u = 248 := by
  by_cases hu : u < Tryz.prog.types.size
  · have := List.all_eq_true.1 AgL u (List.mem_range.2 hu)
    rw [h] at this
    simpa using this
  · exfalso
    obtain ⟨e, j, x, h1, h2, h3, h4⟩ := AhU hu h
    have hx : x = "errors.errorString" := (Zn (a := "errors.errorString") (by rw [← h4]; decide +kernel)).symm
    subst hx
    by_cases he : e < Tryz.prog.types.size
    · have hb := List.all_eq_true.1 Ahr e (List.mem_range.2 he)
      rw [h3] at hb
      have hn : nmd e = true := by simpa using hb
      unfold Made.infoAt at h1
      rw [if_pos he] at h1
      have h1' : Tryz.prog.types[e]? = some j := h1
      have hm : Ans (some j) = true := (congrArg Ans h1').symm.trans hn
      obtain ⟨n, r, hd⟩ := AdF hm
      exact h2 n r hd
    · obtain ⟨_, _, y, _, _, _, h8⟩ := AhU he h3
      have := congrArg String.toList h8
      simp only [String.toList_append] at this
      have h9 := congrArg List.head? this
      rw [List.head?_append, Ag5, AfB] at h9
      exact absurd (Option.some.inj h9) (by decide +kernel)
open Go.Rv Go.ChangeShapes Go.WideShapes Go.ChangeAt Go.RowKit
theorem AbV (H : Type) (l : List (DataW H)) : (l.map (Rows.uptoBulk (H := H))).sum = Rows.uptoBulkAll l := by
  induction l with
  | nil => rfl
  | cons x l ih => simp only [List.map_cons, List.sum_cons, ih, Rows.uptoBulkAll]
theorem Hh : BulkOk (fun H => Rows.uptoBulk (H := H)) where
  one := fun H d => by
    cases d with
    | lit l => cases l <;> simp [Rows.uptoBulk]
    | _ => simp [Rows.uptoBulk]
  str := fun H l => by simp [Rows.uptoBulk]
  slice := fun H e s => by rw [AbV]; simp only [Rows.uptoBulk]; omega
  agg := fun H p => by rw [AbV]; simp only [Rows.uptoBulk]; omega
theorem B7 : Tryz.prog.cellsOf 3 = 1 := by kernel_rfl
theorem AcC : Tryz.prog.cellsOf 4 = 1 := by kernel_rfl
theorem AcH : Tryz.prog.cellsOf 9 = 1 := by kernel_rfl
theorem Rm : Tryz.prog.cellsOf 38 = 2 := by kernel_rfl
theorem Aag : Tryz.prog.cellsOf 39 = 1 := by kernel_rfl
theorem Sd : Tryz.prog.cellsOf 66 = 3 := by kernel_rfl
theorem Aam : Tryz.prog.cellsOf 41 = 16 := by kernel_rfl
theorem G2 : Opens Tryz.prog (fun H => Rows.uptoBulk (H := H)) 3 Nc (fun _ => 1) I64 := Xb Hh Tryz.underlying3
theorem Anl : Opens Tryz.prog (fun H => Rows.uptoBulk (H := H)) 4 AiK (fun _ => 1) (fun _ => True) := Acj Hh Tryz.underlying4
theorem AkW : Opens Tryz.prog (fun H => Rows.uptoBulk (H := H)) 9 Tj (fun l => l.length + 1) (fun l => l.length ≤ maxLen) := AdS Hh Tryz.underlying9
theorem Aio : Opens Tryz.prog (fun H => Rows.uptoBulk (H := H)) 38 AbQ (fun _ => 0) (fun r => I64 r.Railway ∧ I64 r.No) :=
  K1 Hh Tryz.underlying38 (n := 2) Rm
    (Be (k := 1) rfl B7 (fun _ => rfl) G2 (Be (k := 1) rfl B7 (fun _ => rfl) G2 Mf))
    (fun x => (⟨x.1, x.2.1⟩ : Api_Ref)) (fun _ => rfl) (fun _ => rfl) (fun x => Nat.zero_le _) (fun x h => ⟨h.1, h.2.1⟩)
theorem AjA : Opens Tryz.prog (fun H => Rows.uptoBulk (H := H)) 66 Ac (fun _ => 0) (fun r => I64 r.Kind ∧ I64 r.Serial) :=
  K1 Hh Tryz.underlying66 (n := 3) Sd
    (Be (k := 1) rfl B7 (fun _ => rfl) G2 (Be (k := 1) rfl B7 (fun _ => rfl) G2 (Be (k := 1) rfl AcC (fun _ => rfl) Anl Mf)))
    (fun x => (⟨x.1, x.2.1, x.2.2.1⟩ : Api_Part)) (fun _ => rfl) (fun _ => rfl) (fun x => Nat.zero_le _) (fun x h => ⟨h.1, h.2.1⟩)
theorem Ajf : Opens Tryz.prog (fun H => Rows.uptoBulk (H := H)) 39 (cSl Ac) (szL fun _ => 0) (fun l => l.length ≤ maxLen ∧ ∀ x ∈ l, I64 x.Kind ∧ I64 x.Serial) :=
  Qf Hh Tryz.underlying39 Sd (fun _ => rfl) AjA
theorem Aiy : Opens Tryz.prog (fun H => Rows.uptoBulk (H := H)) 41 Xz (fun _ => 0) Ints :=
  K1 Hh Tryz.underlying41 (n := 16) Aam
    (Be (k := 1) rfl B7 (fun _ => rfl) G2 (Be (k := 2) rfl Rm (fun _ => rfl) Aio (Be (k := 1) rfl B7 (fun _ => rfl) G2 (Be (k := 1) rfl B7 (fun _ => rfl) G2
      (Be (k := 1) rfl B7 (fun _ => rfl) G2 (Be (k := 1) rfl B7 (fun _ => rfl) G2 (Be (k := 1) rfl B7 (fun _ => rfl) G2 (Be (k := 1) rfl B7 (fun _ => rfl) G2
      (Be (k := 1) rfl B7 (fun _ => rfl) G2 (Be (k := 1) rfl B7 (fun _ => rfl) G2 (Be (k := 1) rfl B7 (fun _ => rfl) G2 (Be (k := 1) rfl B7 (fun _ => rfl) G2
      (Be (k := 1) rfl B7 (fun _ => rfl) G2 (Be (k := 1) rfl AcH (fun _ => rfl) AkW (Be (k := 1) rfl Aag (fun _ => rfl) Ajf Mf)))))))))))))))
    (fun x => (⟨x.1, x.2.1, x.2.2.1, x.2.2.2.1, x.2.2.2.2.1, x.2.2.2.2.2.1, x.2.2.2.2.2.2.1, x.2.2.2.2.2.2.2.1, x.2.2.2.2.2.2.2.2.1, x.2.2.2.2.2.2.2.2.2.1, x.2.2.2.2.2.2.2.2.2.2.1, x.2.2.2.2.2.2.2.2.2.2.2.1, x.2.2.2.2.2.2.2.2.2.2.2.2.1, x.2.2.2.2.2.2.2.2.2.2.2.2.2.1, x.2.2.2.2.2.2.2.2.2.2.2.2.2.2.1⟩ : Api_Item)) (fun _ => rfl) (fun _ => rfl) (fun x => Nat.zero_le _)
    (fun x h => ⟨h.1, h.2.1, ⟨h.2.2.1, h.2.2.2.1, h.2.2.2.2.1, h.2.2.2.2.2.1, h.2.2.2.2.2.2.1, h.2.2.2.2.2.2.2.1, h.2.2.2.2.2.2.2.2.1, h.2.2.2.2.2.2.2.2.2.1, h.2.2.2.2.2.2.2.2.2.2.1, h.2.2.2.2.2.2.2.2.2.2.2.1, h.2.2.2.2.2.2.2.2.2.2.2.2.1⟩, h.2.2.2.2.2.2.2.2.2.2.2.2.2.2.1.2⟩)
theorem own : ownKnob Tryz.prog.godebug = none := by kernel_rfl
theorem Aiq : laidOutB Tryz.prog = true := by kernel_rfl
theorem Aci {H : Type} {enc : TypeId × Value → H} {P : Program} {w : World} {fuel t : Nat} {ms : Array (String × TypeId)} (ht : P.underlying t = some (.interface ms)) {cs : List Value} {nm : String} {d : DataW H} {p : List MemPlace}
    (h : DataW.trod enc P w 0 (fun _ => true) false fuel t cs = some (.iface nm d, p)) : ∃ u v, cs = [.iface u v] ∧ P.typeName? 3 u = some nm := by
  cases fuel with
  | zero => cases h
  | succ fuel =>
    unfold DataW.trod at h
    rw [ht] at h
    match cs, h with
    | [.nilIface], h => cases h
    | [.iface u v], h =>
      simp only at h
      cases hn : P.typeName? 3 u with
      | none => rw [hn] at h; cases h
      | some name =>
        rw [hn] at h
        simp only [Option.map_eq_some_iff, Prod.mk.injEq] at h
        obtain ⟨x, _, h2, _⟩ := h
        cases h2
        exact ⟨u, v, rfl, hn⟩
abbrev Rx : List (String × DataW Unit) := [("math/bits.deBruijn32tab", Rows.laid_math_bits_deBruijn32tab), ("math/bits.deBruijn64tab", Rows.laid_math_bits_deBruijn64tab), ("internal/strconv.uint64pow10", Rows.laid_internal_strconv_uint64pow10), ("unicode/utf8.acceptRanges", Rows.laid_unicode_utf8_acceptRanges), ("strconv.ErrRange", Rows.laid_strconv_ErrRange), ("strconv.ErrSyntax", Rows.laid_strconv_ErrSyntax), ("wagonpool/edi.tags", Rows.laid_wagonpool_edi_tags), ("unicode/utf8.first", Rows.laid_unicode_utf8_first)]
theorem AlH : (Rows.laid_wagonpool_edi_tags : DataW Unit) = .agg (glob0.l.map fun s => .lit (.string s)) := by kernel_rfl
theorem AkN : (Rows.laid_internal_strconv_uint64pow10 : DataW Unit) = Lib.tabData .u64 Lib.pow10Tab := by kernel_rfl
theorem AgC (os : Os) (args : Array Value) : laidMetH Tryz.prog Rx ((World.laidAll Tryz.prog os Rx).forCall (fun _ _ => 0) ⟨#[], args, []⟩).memory := by
  rw [MakeChecks.laidMetH_plain _ _ _ (by kernel_rfl)]
  exact laidMet_laidAll _ (by kernel_rfl) (by kernel_rfl)
theorem Mz {P : Program} {w : World} : ∀ {l : List (String × DataW Unit)} {ps : List MemPlace}, DataW.LaidVars P w l ps → ∀ x ∈ l, ∃ g t cs fuel p, P.globalNamed x.1 = some g ∧ (P.globals[g]?).map (·.type) = some t ∧ w.var? P x.1 = some cs ∧
    DataW.trod (fun _ => ()) P w 0 (fun _ => true) false fuel t cs.toList = some (x.2, p)
  | [], _, _, x, hx => by cases hx
  | (n, d) :: r, ps, ⟨g, t, cs, fuel, p, q, hg, ht, hv, hd, hr, _⟩, x, hx => by
    rcases List.mem_cons.1 hx with rfl | hx
    · exact ⟨g, t, cs, fuel, p, hg, ht, hv, hd⟩
    · exact Mz hr x hx
theorem Af6 {W : World} {cs : Array Value} {f : Nat} {p : List MemPlace} (hv : W.var? Tryz.prog "wagonpool/edi.tags" = some cs) (hd : DataW.trod (fun _ => ()) Tryz.prog W 0 (fun _ => true) false f 113 cs.toList = some (Rows.laid_wagonpool_edi_tags, p)) (r : Nat) (hr : r < 16) :
    ∃ s : ByteArray, W.cell? ⟨0, r, none⟩ = some (.string s) ∧ s.data.toList = nth glob0.l r := by
  rw [AlH] at hd
  obtain ⟨xs, m, _, ex, _, hl, hel⟩ := DataW.trod_array Tryz.underlying113 hd
  have c5 : Tryz.prog.cellsOf 9 = 1 := by kernel_rfl
  have hE := hel r hr
  rw [c5, Nat.mul_one, List.getElem?_eq_getElem (by omega)] at hE
  obtain ⟨z, e1, e2, _⟩ := DataW.trod_string Tryz.underlying9 hE
  have hlen : glob0.l.length = 16 := glob0.h
  have e3 : (xs.map (·.1)) = glob0.l.map fun n => .lit (.string n) := (DataW.agg.inj (Prod.mk.inj ex).1).symm
  have e4 : (xs.map (·.1))[r]? = (glob0.l.map fun n => (DataW.lit (.string n) : DataW Unit))[r]? := by rw [e3]
  rw [List.getElem?_map, List.getElem?_map, List.getElem?_eq_getElem (by omega : r < xs.length), List.getElem?_eq_getElem (by omega : r < glob0.l.length), e2] at e4
  have hz : z.data.toList = nth glob0.l r := by
    simp only [Option.map_some, Option.some.injEq, DataW.lit.injEq, Lit.string.injEq] at e4
    rw [e4]
    simp [nth, List.getElem?_eq_getElem (by omega : r < glob0.l.length)]
  refine ⟨z, ?_, hz⟩
  rw [World.var?_cell (show Tryz.prog.globalNamed "wagonpool/edi.tags" = some 0 by kernel_rfl) hv r]
  have : cs.toList[r]? = some (.string z) := by
    have h0 : ((cs.toList.drop r).take 1)[0]? = some (.string z) := by rw [e1]; rfl
    simpa using h0
  simpa using this
theorem AbP {W : World} {n : String} {i : Nat} {cs : Array Value} {f : Nat} {p : List MemPlace} {d : DataW Unit} (hn : Tryz.prog.globalNamed n = some i) (hv : W.var? Tryz.prog n = some cs) (hd : DataW.trod (fun _ => ()) Tryz.prog W 0 (fun _ => true) false f 110 cs.toList = some (.iface "*errors.errorString" d, p)) :
    ∃ v, W.cell? ⟨i, 0, none⟩ = some (.iface 248 v) := by
  obtain ⟨u, v, e, hu⟩ := Aci Tryz.underlying110 hd
  obtain rfl := AiU hu
  refine ⟨v, ?_⟩
  rw [World.var?_cell hn hv 0, Array.eq_one_of_toList e]
  rfl
theorem ApU {W : World} (h : laidMetH Tryz.prog Rx W) : Mem (B.env fun _ => False) W [] [] := by
  rw [MakeChecks.laidMetH_plain _ _ _ (by kernel_rfl)] at h
  obtain ⟨ps, hl, _⟩ := h
  have hw : ∃ t o, W.heap[4]? = some (.cells ((Lib.pow10Tab.map fun z => Value.int .u64 z).toArray) t o) := by
    obtain ⟨g0, t0, cs0, f0, p0, hg0, ht0, hv0, hd0⟩ := Mz hl ("internal/strconv.uint64pow10", Rows.laid_internal_strconv_uint64pow10) (by simp [Rx])
    obtain rfl := Option.some.inj ((show Tryz.prog.globalNamed "internal/strconv.uint64pow10" = some 4 by kernel_rfl).symm.trans hg0)
    obtain rfl := Option.some.inj ((show (Tryz.prog.globals[4]?).map (·.type) = some 227 by kernel_rfl).symm.trans ht0)
    simp only [AkN] at hd0
    have hc := Lib.cells_of_tab (n := 20) Tryz.underlying227 Tryz.underlying88 (by kernel_rfl) (by kernel_rfl) hd0
    unfold World.var? at hv0
    rw [show Tryz.prog.globalNamed "internal/strconv.uint64pow10" = some 4 by kernel_rfl, Option.bind_some] at hv0
    split at hv0
    · rename_i c t o hcell
      cases hv0
      rw [← hc]
      exact ⟨t, o, hcell⟩
    · cases hv0
  obtain ⟨g0, t0, cs0, f0, p0, hg0, ht0, hv0, hd0⟩ := Mz hl ("wagonpool/edi.tags", Rows.laid_wagonpool_edi_tags) (by simp [Rx])
  obtain rfl := Option.some.inj ((show Tryz.prog.globalNamed "wagonpool/edi.tags" = some 0 by kernel_rfl).symm.trans hg0)
  obtain rfl := Option.some.inj ((show (Tryz.prog.globals[0]?).map (·.type) = some 113 by kernel_rfl).symm.trans ht0)
  have htag := Af6 hv0 hd0
  obtain ⟨g1, t1, cs1, f1, p1, hg1, ht1, hv1, hd1⟩ := Mz hl ("strconv.ErrSyntax", Rows.laid_strconv_ErrSyntax) (by simp [Rx])
  obtain rfl := Option.some.inj ((show Tryz.prog.globalNamed "strconv.ErrSyntax" = some 7 by kernel_rfl).symm.trans hg1)
  obtain rfl := Option.some.inj ((show (Tryz.prog.globals[7]?).map (·.type) = some 110 by kernel_rfl).symm.trans ht1)
  obtain ⟨v7, h7⟩ := AbP hg1 hv1 hd1
  obtain ⟨g2, t2, cs2, f2, p2, hg2, ht2, hv2, hd2⟩ := Mz hl ("strconv.ErrRange", Rows.laid_strconv_ErrRange) (by simp [Rx])
  obtain rfl := Option.some.inj ((show Tryz.prog.globalNamed "strconv.ErrRange" = some 8 by kernel_rfl).symm.trans hg2)
  obtain rfl := Option.some.inj ((show (Tryz.prog.globals[8]?).map (·.type) = some 110 by kernel_rfl).symm.trans ht2)
  obtain ⟨v8, h8⟩ := AbP hg2 hv2 hd2
  refine ⟨rfl, fun id b ab h => by simp at h, fun id id' b b' β h => by simp at h, fun a h => h.elim, fun i cs hG => ?_, fun t m h => (by have h' : (none : Option MapS) = some m := h; cases h'), fun i p h => ?_⟩
  · have nomine : ¬ Gu ([] : Gh) i := by rintro ⟨id, b, hb, _⟩; simp at hb
    have hG' : (if i = 0 then some (C1 .str glob0.l) else if i = 7 then some [AV.iface 248 .junk] else if i = 8 then some [AV.iface 248 .junk] else none) = some cs := hG
    by_cases hi : i = 0
    · rw [if_pos hi] at hG'
      cases hG'
      subst hi
      have hex : ∀ j : Nat, ∃ v : Value, j < 16 → ∃ s : ByteArray, v = .string s ∧ W.cell? ⟨0, j, none⟩ = some v ∧ s.data.toList = nth glob0.l j := by
        intro j
        by_cases hj : j < 16
        · obtain ⟨s, h1, h2⟩ := htag j hj
          exact ⟨.string s, fun _ => ⟨s, rfl, h1, h2⟩⟩
        · exact ⟨undef, fun h => absurd h hj⟩
      obtain ⟨c, hc⟩ := Classical.axiomOfChoice hex
      obtain ⟨s0, _, hs0, _⟩ := hc 0 (by omega)
      refine ⟨cell?_lt hs0, nomine, fun _ hf => hf, c, fun j x hj => ?_⟩
      have hlen : glob0.l.length = 16 := glob0.h
      have hj16 : j < 16 := by
        have := (List.getElem?_eq_some_iff.1 hj).1
        rw [AfJ] at this; omega
      obtain ⟨s, e, h1, h2⟩ := hc j hj16
      have hx : x = .str (nth glob0.l j) := by
        simp only [C1, List.getElem?_map, Option.map_eq_some_iff] at hj
        obtain ⟨y, hy, rfl⟩ := hj
        simp [nth, hy]
      subst hx
      rw [e] at h1 ⊢
      exact ⟨h1, .str _ _ _ h2, rfl⟩
    · rw [if_neg hi] at hG'
      by_cases hi7 : i = 7
      · rw [if_pos hi7] at hG'
        cases hG'
        subst hi7
        refine ⟨cell?_lt h7, nomine, fun _ hf => hf, fun j => .iface 248 v7, fun j x hj => ?_⟩
        cases j with
        | zero => cases hj; exact ⟨h7, .iface _ _ _ _ (.junk _ _), rfl⟩
        | succ j => simp at hj
      · rw [if_neg hi7] at hG'
        by_cases hi8 : i = 8
        · rw [if_pos hi8] at hG'
          cases hG'
          subst hi8
          refine ⟨cell?_lt h8, nomine, fun _ hf => hf, fun j => .iface 248 v8, fun j x hj => ?_⟩
          cases j with
          | zero => cases hj; exact ⟨h8, .iface _ _ _ _ (.junk _ _), rfl⟩
          | succ j => simp at hj
        · rw [if_neg hi8] at hG'; cases hG'
  · have h' : (if i = 4 then some ((Lib.pow10Tab.map fun z => Value.int .u64 z).toArray) else none) = some p := h
    by_cases hi : i = 4
    · rw [if_pos hi] at h'
      cases h'
      subst hi
      exact ⟨(by rintro ⟨id, b, hb, _⟩; simp at hb), hw⟩
    · rw [if_neg hi] at h'; cases h'
theorem Ac9 {f : FuncId} {avs : List AV} (h : Con B f avs [] (fun r σ' => r = .bool true ∧ σ' = [])) {fn : Func} {c : Code} (hf : Tryz.prog.funcs[f]? = some fn) (hb : fn.body = some c) (hn : (fn.name == "runtime.NumGoroutine") = false) {W : World} (hL : laidMetH Tryz.prog Rx W) {args : Array Value}
    (ha : Cm W (A2 (B.env fun _ => False) []) [] args.toList avs) : Calls Tryz.prog f args W fun e W' => e = .returned (.bool true) ∧ Below W.heap.size W W' := by
  refine ((h.call (fun _ => False) W [] args (ApU hL) ha).calls hf hb hn).mono ?_
  rintro e w' ⟨v, r, σ', g', rfl, ⟨rfl, rfl⟩, hm, he, hr⟩
  exact ⟨by rw [Fq hr], he.below⟩
open Go.Shelf
def Tryz.laysM171_ren : Go.Shelf.Ren := ⟨fun | 171 => 48 | 243 => 100 | 246 => 141 | 283 => 158 | 284 => 159 | 285 => 160 | 286 => 161 | 129 => 128 | 317 => 172 | 318 => 173 | 319 => 174 | 320 => 175 | 337 => 188 | 338 => 189 | n => n, fun | 3 => 3 | 9 => 9 | 2 => 2 | 4 => 4 | 171 => 217 | 0 => 0 | 53 => 88 | 37 => 52 | 5 => 5 | 173 => 219 | 212 => 227 | 51 => 182 | 20 => 20 | 213 => 228 | 46 => 171 | 232 => 246 | 233 => 247 | n => n, fun | 17 => 4 | 18 => 9 | 19 => 10 | n => n⟩
theorem Tryz.laysM171 : Go.Proofs.LaysM.n171 Tryz.prog Tryz.laysM171_ren := {
  mixed := by kernel_rfl
  f129 := Tryz.func128.trans (congrArg some (by kernel_rfl))
  f171 := Tryz.func48.trans (congrArg some (by kernel_rfl))
  f243 := Tryz.func100.trans (congrArg some (by kernel_rfl))
  f246 := Tryz.func141.trans (congrArg some (by kernel_rfl))
  f283 := Tryz.func158.trans (congrArg some (by kernel_rfl))
  f284 := Tryz.func159.trans (congrArg some (by kernel_rfl))
  f285 := Tryz.func160.trans (congrArg some (by kernel_rfl))
  f286 := Tryz.func161.trans (congrArg some (by kernel_rfl))
  f317 := Tryz.func172.trans (congrArg some (by kernel_rfl))
  f318 := Tryz.func173.trans (congrArg some (by kernel_rfl))
  f319 := Tryz.func174.trans (congrArg some (by kernel_rfl))
  f320 := Tryz.func175.trans (congrArg some (by kernel_rfl))
  f337 := Tryz.func188.trans (congrArg some (by kernel_rfl))
  f338 := Tryz.func189.trans (congrArg some (by kernel_rfl))
  t0 := Tryz.underlying0
  a0 := Tryz.isAgg0
  z0 := Tryz.sizeOf0
  v0 := Tryz.zeroValue0
  t2 := Tryz.underlying2
  a2 := Tryz.isAgg2
  z2 := Tryz.sizeOf2
  v2 := Tryz.zeroValue2
  t3 := Tryz.underlying3
  a3 := Tryz.isAgg3
  z3 := Tryz.sizeOf3
  v3 := Tryz.zeroValue3
  t4 := Tryz.underlying4
  a4 := Tryz.isAgg4
  z4 := Tryz.sizeOf4
  v4 := Tryz.zeroValue4
  t5 := Tryz.underlying5
  a5 := Tryz.isAgg5
  z5 := Tryz.sizeOf5
  v5 := Tryz.zeroValue5
  t9 := Tryz.underlying9
  a9 := Tryz.isAgg9
  z9 := Tryz.sizeOf9
  v9 := Tryz.zeroValue9
  t20 := Tryz.underlying20
  a20 := Tryz.isAgg20
  z20 := Tryz.sizeOf20
  v20 := Tryz.zeroValue20
  t37 := Tryz.underlying52
  a37 := Tryz.isAgg52
  z37 := Tryz.sizeOf52
  v37 := Tryz.zeroValue52
  t46 := Tryz.underlying171
  a46 := Tryz.isAgg171
  z46 := Tryz.sizeOf171
  v46 := Tryz.zeroValue171
  t51 := Tryz.underlying182
  a51 := Tryz.isAgg182
  z51 := Tryz.sizeOf182
  v51 := Tryz.zeroValue182
  t53 := Tryz.underlying88
  a53 := Tryz.isAgg88
  z53 := Tryz.sizeOf88
  v53 := Tryz.zeroValue88
  t171 := Tryz.underlying217
  a171 := Tryz.isAgg217
  z171 := Tryz.sizeOf217
  v171 := Tryz.zeroValue217
  t173 := Tryz.underlying219
  a173 := Tryz.isAgg219
  z173 := Tryz.sizeOf219
  v173 := Tryz.zeroValue219
  t212 := Tryz.underlying227
  a212 := Tryz.isAgg227
  z212 := Tryz.sizeOf227
  v212 := Tryz.zeroValue227
  t213 := Tryz.underlying228
  a213 := Tryz.isAgg228
  z213 := Tryz.sizeOf228
  t232 := Tryz.underlying246
  a232 := Tryz.isAgg246
  z232 := Tryz.sizeOf246
  v232 := Tryz.zeroValue246
  t233 := Tryz.underlying247
  a233 := Tryz.isAgg247
  z233 := Tryz.sizeOf247
  v233 := Tryz.zeroValue247
  g17 := by kernel_rfl
  g18 := by kernel_rfl
  g19 := by kernel_rfl
  i0 := by kernel_rfl
  i2 := by kernel_rfl
  i3 := by kernel_rfl
  i4 := by kernel_rfl
  i5 := by kernel_rfl
  i9 := by kernel_rfl
  i20 := by kernel_rfl
  i37 := by kernel_rfl
  i46 := by kernel_rfl
  i51 := by kernel_rfl
  i53 := by kernel_rfl
  i171 := by kernel_rfl
  i173 := by kernel_rfl
  i212 := by kernel_rfl
  i232 := by kernel_rfl
  i233 := by kernel_rfl
  m17 := by kernel_rfl
  m18 := by kernel_rfl
  m19 := by kernel_rfl }
def Tryz.laysC172_ren : Go.Shelf.Ren := ⟨fun | 172 => 149 | 244 => 168 | 245 => 169 | 247 => 181 | 279 => 182 | 280 => 183 | 281 => 184 | 282 => 185 | 287 => 170 | 316 => 191 | 171 => 48 | 205 => 192 | 321 => 186 | 322 => 187 | 243 => 100 | 246 => 141 | 283 => 158 | 284 => 159 | 285 => 160 | 286 => 161 | 129 => 128 | 317 => 172 | 318 => 173 | 319 => 174 | 320 => 175 | 337 => 188 | 338 => 189 | n => n, fun | 9 => 9 | 3 => 3 | 75 => 110 | 76 => 111 | 4 => 4 | 5 => 5 | 167 => 230 | 37 => 52 | 0 => 0 | 85 => 231 | 2 => 2 | 168 => 233 | 53 => 88 | 175 => 208 | 46 => 171 | 210 => 244 | 127 => 172 | 145 => 250 | 143 => 248 | 21 => 21 | 171 => 217 | 173 => 219 | 212 => 227 | 51 => 182 | 20 => 20 | 213 => 228 | 232 => 246 | 233 => 247 | 80 => 124 | n => n, fun | 15 => 7 | 16 => 8 | 17 => 4 | 18 => 9 | 19 => 10 | n => n⟩
theorem Tryz.laysC172 : Go.Proofs.LaysC.n172 Tryz.prog Tryz.laysC172_ren := {
  mixed := by kernel_rfl
  f129 := Tryz.func128.trans (congrArg some (by kernel_rfl))
  f171 := Tryz.func48.trans (congrArg some (by kernel_rfl))
  f172 := Tryz.func149.trans (congrArg some (by kernel_rfl))
  f205 := Tryz.func192.trans (congrArg some (by kernel_rfl))
  f243 := Tryz.func100.trans (congrArg some (by kernel_rfl))
  f244 := Tryz.func168.trans (congrArg some (by kernel_rfl))
  f245 := Tryz.func169.trans (congrArg some (by kernel_rfl))
  f246 := Tryz.func141.trans (congrArg some (by kernel_rfl))
  f247 := Tryz.func181.trans (congrArg some (by kernel_rfl))
  f279 := Tryz.func182.trans (congrArg some (by kernel_rfl))
  f280 := Tryz.func183.trans (congrArg some (by kernel_rfl))
  f281 := Tryz.func184.trans (congrArg some (by kernel_rfl))
  f282 := Tryz.func185.trans (congrArg some (by kernel_rfl))
  f283 := Tryz.func158.trans (congrArg some (by kernel_rfl))
  f284 := Tryz.func159.trans (congrArg some (by kernel_rfl))
  f285 := Tryz.func160.trans (congrArg some (by kernel_rfl))
  f286 := Tryz.func161.trans (congrArg some (by kernel_rfl))
  f287 := Tryz.func170.trans (congrArg some (by kernel_rfl))
  f316 := Tryz.func191.trans (congrArg some (by kernel_rfl))
  f317 := Tryz.func172.trans (congrArg some (by kernel_rfl))
  f318 := Tryz.func173.trans (congrArg some (by kernel_rfl))
  f319 := Tryz.func174.trans (congrArg some (by kernel_rfl))
  f320 := Tryz.func175.trans (congrArg some (by kernel_rfl))
  f321 := Tryz.func186.trans (congrArg some (by kernel_rfl))
  f322 := Tryz.func187.trans (congrArg some (by kernel_rfl))
  f337 := Tryz.func188.trans (congrArg some (by kernel_rfl))
  f338 := Tryz.func189.trans (congrArg some (by kernel_rfl))
  t0 := Tryz.underlying0
  a0 := Tryz.isAgg0
  z0 := Tryz.sizeOf0
  v0 := Tryz.zeroValue0
  t2 := Tryz.underlying2
  a2 := Tryz.isAgg2
  z2 := Tryz.sizeOf2
  v2 := Tryz.zeroValue2
  t3 := Tryz.underlying3
  a3 := Tryz.isAgg3
  z3 := Tryz.sizeOf3
  v3 := Tryz.zeroValue3
  t4 := Tryz.underlying4
  a4 := Tryz.isAgg4
  z4 := Tryz.sizeOf4
  v4 := Tryz.zeroValue4
  t5 := Tryz.underlying5
  a5 := Tryz.isAgg5
  z5 := Tryz.sizeOf5
  v5 := Tryz.zeroValue5
  t9 := Tryz.underlying9
  a9 := Tryz.isAgg9
  z9 := Tryz.sizeOf9
  v9 := Tryz.zeroValue9
  t20 := Tryz.underlying20
  a20 := Tryz.isAgg20
  z20 := Tryz.sizeOf20
  v20 := Tryz.zeroValue20
  t21 := Tryz.underlying21
  a21 := Tryz.isAgg21
  z21 := Tryz.sizeOf21
  v21 := Tryz.zeroValue21
  t37 := Tryz.underlying52
  a37 := Tryz.isAgg52
  z37 := Tryz.sizeOf52
  v37 := Tryz.zeroValue52
  t46 := Tryz.underlying171
  a46 := Tryz.isAgg171
  z46 := Tryz.sizeOf171
  v46 := Tryz.zeroValue171
  t51 := Tryz.underlying182
  a51 := Tryz.isAgg182
  z51 := Tryz.sizeOf182
  v51 := Tryz.zeroValue182
  t53 := Tryz.underlying88
  a53 := Tryz.isAgg88
  z53 := Tryz.sizeOf88
  v53 := Tryz.zeroValue88
  t75 := Tryz.underlying110
  a75 := Tryz.isAgg110
  z75 := Tryz.sizeOf110
  v75 := Tryz.zeroValue110
  t76 := Tryz.underlying111
  a76 := Tryz.isAgg111
  z76 := Tryz.sizeOf111
  v76 := Tryz.zeroValue111
  t85 := Tryz.underlying231
  a85 := Tryz.isAgg231
  z85 := Tryz.sizeOf231
  v85 := Tryz.zeroValue231
  t127 := Tryz.underlying172
  a127 := Tryz.isAgg172
  z127 := Tryz.sizeOf172
  v127 := Tryz.zeroValue172
  t143 := Tryz.underlying248
  a143 := Tryz.isAgg248
  z143 := Tryz.sizeOf248
  v143 := Tryz.zeroValue248
  t145 := Tryz.underlying250
  a145 := Tryz.isAgg250
  z145 := Tryz.sizeOf250
  v145 := Tryz.zeroValue250
  t167 := Tryz.underlying230
  a167 := Tryz.isAgg230
  z167 := Tryz.sizeOf230
  v167 := Tryz.zeroValue230
  t168 := Tryz.underlying233
  a168 := Tryz.isAgg233
  z168 := Tryz.sizeOf233
  v168 := Tryz.zeroValue233
  t171 := Tryz.underlying217
  a171 := Tryz.isAgg217
  z171 := Tryz.sizeOf217
  v171 := Tryz.zeroValue217
  t173 := Tryz.underlying219
  a173 := Tryz.isAgg219
  z173 := Tryz.sizeOf219
  v173 := Tryz.zeroValue219
  t175 := Tryz.underlying208
  a175 := Tryz.isAgg208
  z175 := Tryz.sizeOf208
  v175 := Tryz.zeroValue208
  t210 := Tryz.underlying244
  a210 := Tryz.isAgg244
  z210 := Tryz.sizeOf244
  v210 := Tryz.zeroValue244
  t212 := Tryz.underlying227
  a212 := Tryz.isAgg227
  z212 := Tryz.sizeOf227
  v212 := Tryz.zeroValue227
  t213 := Tryz.underlying228
  a213 := Tryz.isAgg228
  z213 := Tryz.sizeOf228
  t232 := Tryz.underlying246
  a232 := Tryz.isAgg246
  z232 := Tryz.sizeOf246
  v232 := Tryz.zeroValue246
  t233 := Tryz.underlying247
  a233 := Tryz.isAgg247
  z233 := Tryz.sizeOf247
  v233 := Tryz.zeroValue247
  g15 := by kernel_rfl
  g16 := by kernel_rfl
  g17 := by kernel_rfl
  g18 := by kernel_rfl
  g19 := by kernel_rfl
  t80 := Tryz.underlying124
  a80 := Tryz.isAgg124
  z80 := Tryz.sizeOf124
  v80 := Tryz.zeroValue124
  i0 := by kernel_rfl
  i2 := by kernel_rfl
  i3 := by kernel_rfl
  i4 := by kernel_rfl
  i5 := by kernel_rfl
  i9 := by kernel_rfl
  i20 := by kernel_rfl
  i21 := by kernel_rfl
  i37 := by kernel_rfl
  i46 := by kernel_rfl
  i51 := by kernel_rfl
  i53 := by kernel_rfl
  i75 := by kernel_rfl
  i76 := by kernel_rfl
  i80 := by kernel_rfl
  i85 := by kernel_rfl
  i127 := by kernel_rfl
  i143 := by kernel_rfl
  i145 := by kernel_rfl
  i167 := by kernel_rfl
  i168 := by kernel_rfl
  i171 := by kernel_rfl
  i173 := by kernel_rfl
  i175 := by kernel_rfl
  i210 := by kernel_rfl
  i212 := by kernel_rfl
  i232 := by kernel_rfl
  i233 := by kernel_rfl
  m15 := by kernel_rfl
  m16 := by kernel_rfl
  m17 := by kernel_rfl
  m18 := by kernel_rfl
  m19 := by kernel_rfl
  c0 := by kernel_rfl
  c2 := by kernel_rfl
  c3 := by kernel_rfl
  c4 := by kernel_rfl
  c5 := by kernel_rfl
  c9 := by kernel_rfl
  c20 := by kernel_rfl
  c21 := by kernel_rfl
  c37 := by kernel_rfl
  c46 := by kernel_rfl
  c51 := by kernel_rfl
  c53 := by kernel_rfl
  c75 := by kernel_rfl
  c76 := by kernel_rfl
  c80 := by kernel_rfl
  c85 := by kernel_rfl
  c127 := by kernel_rfl
  c143 := by kernel_rfl
  c145 := by kernel_rfl
  c167 := by kernel_rfl
  c168 := by kernel_rfl
  c171 := by kernel_rfl
  c173 := by kernel_rfl
  c175 := by kernel_rfl
  c210 := by kernel_rfl
  c212 := by kernel_rfl
  c213 := by kernel_rfl
  c232 := by kernel_rfl
  c233 := by kernel_rfl }
def Tryz.lays138_ren : Go.Shelf.Ren := ⟨fun | 138 => 145 | 195 => 162 | 218 => 164 | 143 => 146 | 219 => 165 | 217 => 147 | 225 => 177 | 224 => 178 | 267 => 179 | 266 => 166 | 314 => 190 | n => n, fun | 9 => 9 | 3 => 3 | 4 => 4 | 5 => 5 | 0 => 0 | 46 => 171 | 146 => 241 | 51 => 182 | n => n, fun | 1 => 1 | n => n⟩
theorem Tryz.lays138 : Go.Proofs.Lays.n138 Tryz.prog Tryz.lays138_ren := {
  mixed := by kernel_rfl
  f138 := Tryz.func145.trans (congrArg some (by kernel_rfl))
  f143 := Tryz.func146.trans (congrArg some (by kernel_rfl))
  f195 := Tryz.func162.trans (congrArg some (by kernel_rfl))
  f217 := Tryz.func147.trans (congrArg some (by kernel_rfl))
  f218 := Tryz.func164.trans (congrArg some (by kernel_rfl))
  f219 := Tryz.func165.trans (congrArg some (by kernel_rfl))
  f224 := Tryz.func178.trans (congrArg some (by kernel_rfl))
  f225 := Tryz.func177.trans (congrArg some (by kernel_rfl))
  f266 := Tryz.func166.trans (congrArg some (by kernel_rfl))
  f267 := Tryz.func179.trans (congrArg some (by kernel_rfl))
  f314 := Tryz.func190.trans (congrArg some (by kernel_rfl))
  t0 := Tryz.underlying0
  a0 := Tryz.isAgg0
  z0 := Tryz.sizeOf0
  v0 := Tryz.zeroValue0
  t3 := Tryz.underlying3
  a3 := Tryz.isAgg3
  z3 := Tryz.sizeOf3
  v3 := Tryz.zeroValue3
  t4 := Tryz.underlying4
  a4 := Tryz.isAgg4
  z4 := Tryz.sizeOf4
  v4 := Tryz.zeroValue4
  t5 := Tryz.underlying5
  a5 := Tryz.isAgg5
  z5 := Tryz.sizeOf5
  v5 := Tryz.zeroValue5
  t9 := Tryz.underlying9
  a9 := Tryz.isAgg9
  z9 := Tryz.sizeOf9
  v9 := Tryz.zeroValue9
  t46 := Tryz.underlying171
  a46 := Tryz.isAgg171
  z46 := Tryz.sizeOf171
  v46 := Tryz.zeroValue171
  t51 := Tryz.underlying182
  a51 := Tryz.isAgg182
  z51 := Tryz.sizeOf182
  v51 := Tryz.zeroValue182
  t146 := Tryz.underlying241
  a146 := Tryz.isAgg241
  z146 := Tryz.sizeOf241
  v146 := Tryz.zeroValue241
  g1 := by kernel_rfl }
def Tryz.lays240_ren : Go.Shelf.Ren := ⟨fun | 240 => 99 | 276 => 140 | n => n, fun | 0 => 0 | 4 => 4 | 9 => 9 | 20 => 20 | 70 => 106 | 72 => 108 | 164 => 198 | 37 => 52 | n => n, fun | n => n⟩
theorem Tryz.lays240 : Go.Proofs.Lays.n240 Tryz.prog Tryz.lays240_ren := {
  mixed := by kernel_rfl
  f240 := Tryz.func99.trans (congrArg some (by kernel_rfl))
  f276 := Tryz.func140.trans (congrArg some (by kernel_rfl))
  t0 := Tryz.underlying0
  a0 := Tryz.isAgg0
  z0 := Tryz.sizeOf0
  v0 := Tryz.zeroValue0
  t4 := Tryz.underlying4
  a4 := Tryz.isAgg4
  z4 := Tryz.sizeOf4
  v4 := Tryz.zeroValue4
  t9 := Tryz.underlying9
  a9 := Tryz.isAgg9
  z9 := Tryz.sizeOf9
  v9 := Tryz.zeroValue9
  t20 := Tryz.underlying20
  a20 := Tryz.isAgg20
  z20 := Tryz.sizeOf20
  v20 := Tryz.zeroValue20
  t70 := Tryz.underlying106
  a70 := Tryz.isAgg106
  z70 := Tryz.sizeOf106
  v70 := Tryz.zeroValue106
  t72 := Tryz.underlying108
  a72 := Tryz.isAgg108
  z72 := Tryz.sizeOf108
  v72 := Tryz.zeroValue108
  t164 := Tryz.underlying198
  a164 := Tryz.isAgg198
  z164 := Tryz.sizeOf198
  v164 := Tryz.zeroValue198 }
open Go.Rv Go.RowKit
set_option linter.unusedSimpArgs false
set_option maxRecDepth 20000
theorem x72 : Builder.X72 Tryz.prog Tryz.lays240_ren := { sizeBuilder := by kernel_rfl, liesBuilder := by kernel_rfl }
theorem Ahx {σ : Ab} {i : Nat} {b : ABlk} (h : σ[i]? = some b) : σ.set i b = σ := by
  refine List.ext_getElem? fun j => ?_
  rw [List.getElem?_set]
  split
  · rename_i e
    subst e
    rw [if_pos (List.getElem?_eq_some_iff.1 h).1, h]
  · rfl
theorem L5 {σ : Ab} {id : Nat} {c : AV} (hσ : σ[id]? = some (.box [.nref id, c] false)) : ∀ F, Wv (B.env F) 99 [.tref id 108] σ (.tup []) σ := by
  intro F w g vs hm ha
  have hE := ok.env F
  refine .inl ⟨⟨Tryz.f99, _, Tryz.func99, rfl, by decide +kernel⟩, ?_⟩
  obtain ⟨vs⟩ := vs
  match vs, ha with
  | [u], ⟨h1, _⟩ =>
    cases h1 with
    | tref _ _ _ β b hb hbx hβ ht =>
      obtain ⟨k1, k2, k3, k4, k5, β', arr, t, fz, k6, k7, k8, k9, k10⟩ := hm.blk id b _ hb hσ
      rw [hβ] at k6; cases k6
      have hty : tyB b t = 108 := by unfold tyB; rw [if_pos (by omega), ht]
      rw [hty] at k7
      have hs2 : arr.size = 2 := k8
      obtain ⟨r0, o0⟩ := k10 0 (.nref id) rfl
      have hc0 : w.cell? ⟨β, 0, none⟩ = some (arr.getD 0 undef) := by rw [cell?_eq k7, A0 (by omega)]
      have hfr : w.frozen? ⟨β, 0, none⟩ = false := by
        have := k9.2 0 (Nat.zero_le _) (by omega)
        obtain ⟨lo, hi⟩ := fz
        simp only [World.frozen?, k7, Bool.and_eq_false_iff, decide_eq_false_iff_not]
        simp only at this
        omega
      have hsh : w.shape? β = some (108, 2) := by simp [World.shape?, k7, hs2]
      have hpt : Rep w (A2 (B.env F) g) g (.pointer (some ⟨β, 0, none⟩)) (.nref id) := .nref _ _ _ b hb hbx (.inr ⟨β, hβ, rfl⟩)
      generalize arr.getD 0 undef = p0 at r0 hc0
      cases r0 with
      | nref _ _ _ b' hb' hbx' hv =>
        rw [hb] at hb'; cases hb'
        rcases hv with rfl | ⟨β2, hβ2, rfl⟩
        · refine (Any.Builder_copyCheck_fresh Tryz.lays240 x72 β w hc0 hsh hfr).mono ?_
          rintro e w' ⟨rfl, rfl⟩
          obtain ⟨w', g', hrun, hm', hle, he⟩ := R6 (d := ⟨.pointer 108, 1, 8, [.val (.pointer none)]⟩) (σ' := σ) (t := 106) hE hm (AiO F) (Rep.ref g id 0 β b hb hbx hβ) hpt (by
            simp only [storeA, AV.cells?, hσ, List.length_cons, List.length_nil]
            rw [if_neg (by decide), if_pos (by decide)]
            simp only [splice, List.set_cons_zero]
            exact congrArg some (Ahx hσ))
          have hw : w' = w.setCell ⟨β, 0, none⟩ (.pointer (some ⟨β, 0, none⟩)) := by
            have hsz := B2 hE (AiO F) w
            have : (Instr.storeAt 106 (.pointer (some ⟨β, 0, none⟩)) (.pointer (some ⟨β, 0, none⟩))).run Tryz.prog w = .ok () (w.setCell ⟨β, 0, none⟩ (.pointer (some ⟨β, 0, none⟩))) := by
              have hst := run_store Tryz.prog w ⟨β, 0, none⟩ (.pointer (some ⟨β, 0, none⟩)) .plain rfl
              rw [hc0] at hst
              simp only [hfr, Bool.false_eq_true, if_false] at hst
              have hsz' : (Go.sizeOf 106).run Tryz.prog w = .ok 1 w := hsz
              simp [Instr.storeAt, Instr.sureAddr, storeVar, hsz', Value.cells, storeCells, Addr.add, hst]
            have h2 := hrun.symm.trans this
            injection h2
          subst hw
          exact ⟨_, g', rfl, hm', hle, he, .tup _ #[] [] rfl (by simp)⟩
        · rw [hβ] at hβ2; cases hβ2
          refine (Any.Builder_copyCheck_used Tryz.lays240 x72 β w hc0).mono ?_
          rintro e w' ⟨rfl, rfl⟩
          exact ⟨_, g, rfl, hm, GLe.refl _, Evo.refl _ _ _ _, .tup _ #[] [] rfl (by simp)⟩
theorem Ag2 (w : World) (p : Addr) (n : Nat) (a : Addr) (u : Value) (h : w.cell? a = some u) : (w.drew.freeze p n).cell? a = some u := by
  have h2 : w.drew.cell? a = some u := h
  rw [← h2]
  unfold World.freeze
  split
  · rfl
  · unfold World.cell?
    simp only [Array.getElem?_modify]
    by_cases e : p.block = a.block
    · rw [if_pos e]
      cases w.drew.heap[a.block]? with
      | none => rfl
      | some o => cases o <;> rfl
    · rw [if_neg e]
theorem AjV (w : World) (p : Addr) (n β : Nat) (h : β ≠ p.block) : (w.drew.freeze p n).heap[β]? = w.heap[β]? := by
  unfold World.freeze
  split
  · rfl
  · simp only [Array.getElem?_modify]
    rw [if_neg (fun e => h e.symm)]
    rfl
theorem Af2 (w : World) (p : Addr) (n : Nat) : (w.drew.freeze p n).heap.size = w.heap.size := by
  unfold World.freeze
  split
  · rfl
  · show (Array.modify _ _ _).size = _
    rw [Array.size_modify]; rfl
theorem AgF (w : World) (p : Addr) (n : Nat) : (w.drew.freeze p n).os = w.os ∧ (w.drew.freeze p n).tape = w.tape ∧ (w.drew.freeze p n).output = w.output := by
  unfold World.freeze
  split <;> exact ⟨rfl, rfl, rfl⟩
set_option maxHeartbeats 2000000 in
theorem AaV (β γ o : Nat) (l : List UInt8) (cap : Nat) (w : World) (hl : l ≠ []) (hcap : l.length ≤ cap) (h63 : l.length ≤ 9223372036854775807) (cells : Nat) (hsh : w.shape? γ = some (5, cells)) (hn : o + l.length ≤ cells)
    (h1 : w.cell? ⟨β, 1, none⟩ = some (.slice (some ⟨γ, o, none⟩) l.length cap)) (hc : ∀ j x, l[j]? = some x → w.cell? ((⟨γ, o, none⟩ : Addr).add j) = some (.int .u8 x.toNat)) :
    Calls Tryz.prog 54 #[.pointer (some ⟨β, 0, none⟩)] w fun e w' => e = .returned (.string ⟨l.toArray⟩) ∧ w' = w.drew.freeze ⟨γ, o, none⟩ l.length := by
  have hl0 : l.length ≠ 0 := by simpa using hl
  have c1 : w.drew.cell? ⟨β, 1, none⟩ = some (.slice (some ⟨γ, o, none⟩) l.length cap) := h1
  have hSD : (Builtin.unsafeSliceData_ #[52] 172 #[.slice (some ⟨γ, o, none⟩) l.length cap]).run Tryz.prog w.drew = .ok (.pointer (some ⟨γ, o, none⟩)) w.drew :=
    Lib.run_unsafeSliceData_row _ _ _ _ _ _ (by omega)
  have hUS : (Builtin.unsafeString_ #[172, 3] 9 #[.pointer (some ⟨γ, o, none⟩), .int .i64 l.length]).run Tryz.prog w.drew = .ok (.string ⟨l.toArray⟩) (w.drew.freeze ⟨γ, o, none⟩ l.length) :=
    Lw w.drew 172 3 9 5 Tryz.underlying172 (by kernel_rfl) γ o cells hsh l hl hn h63 hc
  have mixed : Tryz.prog.follows Departure.mixedOrders = true := by kernel_rfl
  go_enter Tryz.func54, Tryz.ntmps54
  go_wp2
  go_region_o
  all_goals (go_wp2; go_ret; exact ⟨rfl, rfl⟩)
set_option maxHeartbeats 2000000 in
theorem AcA (β : Nat) (n c : Nat) (w : World) (hn : n = 0) (h1 : w.cell? ⟨β, 1, none⟩ = some (.slice none n c)) :
    Calls Tryz.prog 54 #[.pointer (some ⟨β, 0, none⟩)] w fun e w' => e = .returned (.string ⟨#[]⟩) ∧ w' = w.drew := by
  subst hn
  have c1 : w.drew.cell? ⟨β, 1, none⟩ = some (.slice none 0 c) := h1
  have hUS := fun (W : World) (q : Option Addr) => Lib.run_unsafeString_none (P := Tryz.prog) W 172 3 9 q
  have hSD : (Builtin.unsafeSliceData_ #[52] 172 #[.slice none 0 c]).run Tryz.prog w.drew = .ok (.pointer none) w.drew := rfl
  have mixed : Tryz.prog.follows Departure.mixedOrders = true := by kernel_rfl
  go_enter Tryz.func54, Tryz.ntmps54
  go_wp2
  go_region_o
  all_goals (go_wp2; go_ret; exact ⟨rfl, rfl⟩)
theorem Ag7 (β : Nat) (a : Option Addr) (n cap : Nat) (w : World) (h1 : w.cell? ⟨β, 1, none⟩ = some (.slice a n cap)) :
    Calls Tryz.prog 53 #[.pointer (some ⟨β, 0, none⟩)] w fun e w' => e = .returned (.int .i64 n) ∧ w' = w := by
  go_enter Tryz.func53, Tryz.ntmps53
  go_wp2
  all_goals (go_ret; exact ⟨rfl, rfl⟩)
theorem Ag4 {σ : Ab} {id id2 : Nat} {ro f : Bool} {l : List UInt8} (hσ : σ[id]? = some (.box [.nref id, .bs f id2 l.length 0 l.length] ro)) (hσ2 : σ[id2]? = some (.tb 5 l)) :
    ∀ F, Wv (B.env F) 53 [.tref id 108] σ (i64 l.length) σ := by
  intro F w g vs hm ha
  refine .inl ⟨⟨Tryz.f53, _, Tryz.func53, rfl, by decide +kernel⟩, ?_⟩
  obtain ⟨vs⟩ := vs
  match vs, ha with
  | [u], ⟨h1, _⟩ =>
    cases h1 with
    | tref _ _ _ β b hb hbx hβ ht =>
      obtain ⟨k1, k2, k3, k4, k5, β', arr, t, fz, k6, k7, k8, k9, k10⟩ := hm.blk id b _ hb hσ
      rw [hβ] at k6; cases k6
      have hs2 : arr.size = 2 := k8
      obtain ⟨r0, o0⟩ := k10 1 (.bs f id2 l.length 0 l.length) rfl
      have hc1 : w.cell? ⟨β, 1, none⟩ = some (arr.getD 1 undef) := by rw [cell?_eq k7, A0 (by omega)]
      have hlen : (G1 l).length = l.length := by simp [G1]
      generalize arr.getD 1 undef = v1 at r0 hc1
      cases r0 with
      | bs _ _ _ _ _ _ _ b2 hb2 hbx2 htot hat ho2 =>
        have hok2 := hm.blk id2 b2 _ hb2 hσ2
        obtain ⟨a, cap, rfl, q2, q3, q4, q5⟩ := hat (by rw [hok2.1.2.2.2.1, hlen])
        refine (Ag7 β a l.length cap w hc1).mono ?_
        rintro e w' ⟨rfl, rfl⟩
        exact ⟨_, g, rfl, hm, GLe.refl _, Evo.refl _ _ _ _, .int _ _ _⟩
theorem R3 {σ : Ab} {id id2 : Nat} {ro f : Bool} {l : List UInt8} (hσ : σ[id]? = some (.box [.nref id, .bs f id2 l.length 0 l.length] ro)) (hσ2 : σ[id2]? = some (.tb 5 l)) (hl : ¬l = []) (h63 : Fv l.length 1) {σ' : Ab} (hσ' : (σ.set id2 (Acq l.length)).set id (.box [.nref id, .junk] ro) = σ') :
    ∀ F, Wv (B.env F) 54 [.tref id 108] σ (.str l) σ' := by
  subst hσ'
  intro F w g vs hm ha
  have hE := ok.env F
  refine .inl ⟨⟨Tryz.f54, _, Tryz.func54, rfl, by decide +kernel⟩, ?_⟩
  obtain ⟨vs⟩ := vs
  match vs, ha with
  | [u], ⟨h1, _⟩ =>
    cases h1 with
    | tref _ _ _ β b hb hbx hβ ht =>
      obtain ⟨k1, k2, k3, k4, k5, β', arr, t, fz, k6, k7, k8, k9, k10⟩ := hm.blk id b _ hb hσ
      rw [hβ] at k6; cases k6
      have hs2 : arr.size = 2 := k8
      obtain ⟨r0, o0⟩ := k10 1 (.bs f id2 l.length 0 l.length) rfl
      have hc1 : w.cell? ⟨β, 1, none⟩ = some (arr.getD 1 undef) := by rw [cell?_eq k7, A0 (by omega)]
      have hne : id ≠ id2 := fun e => by subst e; rw [hσ] at hσ2; cases hσ2
      have hlen : (G1 l).length = l.length := by simp [G1]
      have hpos : 0 < l.length := List.length_pos_iff.2 hl
      have hmax : l.length ≤ 9223372036854775807 := Nat.le_trans h63.1 (by decide)
      generalize arr.getD 1 undef = v1 at r0 hc1
      cases r0 with
      | bs _ _ _ _ _ _ _ b2 hb2 hbx2 htot hat ho2 =>
        have hok2 := hm.blk id2 b2 _ hb2 hσ2
        obtain ⟨⟨j1, j2, j3, j4, j5, j6, j7⟩, j8⟩ := hok2
        obtain ⟨a, cap, rfl, q2, q3, q4, q5⟩ := hat (by rw [j4, hlen])
        rcases q5 with q5 | ⟨γ, hγ, rfl, q6⟩
        · omega
        · have e0 : b2.o + 0 * b2.k = b2.o := by omega
          rw [e0] at hc1
          obtain ⟨arr2, t2, fz2, g1, g2, g3, g4, g5⟩ := j7 γ hγ
          obtain ⟨arr3, fz3, g6⟩ := j8 γ hγ
          rw [g1] at g6; cases g6
          have hsh : w.shape? γ = some (5, arr2.size) := by simp [World.shape?, g1]
          refine (AaV β γ b2.o l cap w hl q2 hmax arr2.size hsh (by omega) hc1 (fun j x hj => ?_)).mono ?_
          · have hi : (G1 l)[j]? = some [.int .u8 (x.toNat : Int)] := by simp [G1, hj]
            obtain ⟨r1, r2⟩ := g5 j _ 0 _ hi rfl
            have hjl : j < l.length := (List.getElem?_eq_some_iff.1 hj).1
            have e1 : b2.o + j * 1 + 0 = b2.o + j := by omega
            rw [e1] at r1
            rw [Bp, cell?_eq g1, A0 (by omega), Cl r1]
          · rintro e w' ⟨rfl, rfl⟩
            obtain ⟨y1, y2, y3⟩ := AgF w ⟨γ, b2.o, none⟩ l.length
            obtain ⟨g', m1, m2, m3⟩ := Zp (w' := w.drew.freeze ⟨γ, b2.o, none⟩ l.length) hm hσ2 hb2 y1 y2 y3 (by rw [Af2]; exact Nat.le_refl _) (fun a u h => Ag2 w _ _ a u h) (fun β' hβ' hn => AjV w _ _ β' (fun e => hn (by rw [hγ, e])))
            have hs1 : (σ.set id2 (Acq l.length))[id]? = some (.box [.nref id, .bs f id2 l.length 0 l.length] ro) := by
              rw [List.getElem?_set_ne (fun e => hne e.symm)]; exact hσ
            exact ⟨_, g', rfl, AgS (j := 1) m1 hs1, m2, m3, .str _ _ _ (by simp)⟩
theorem Hx {F : Addr → Prop} {w w' : World} (hb : Below w.heap.size w w') : Evo (B.env F) 0 w [] w' [] := ⟨hb.os, hb.tape, hb.output, hb.size, fun a u hc hp => ⟨by
  rw [← hc]
  simp only [World.cell?, hb.block _ (cell?_lt hc)], hp⟩, fun β hβ hn => ⟨hb.block β hβ, hn⟩, fun _ hh => absurd hh (Nat.not_lt_zero _)⟩
theorem I4 {F : Addr → Prop} {w w' : World} (hm : Mem (B.env F) w [] []) (hb : Below w.heap.size w w') : Mem (B.env F) w' [] [] := by
  have evo : Evo (B.env F) 0 w [] w' [] := Hx hb
  exact (Vu hm evo).1
theorem Aev {F : Addr → Prop} {w : World} (hm : Mem (B.env F) w [] []) : Lib.TabIs Tryz.prog w "internal/strconv.uint64pow10" .u64 Lib.pow10Tab := by
  obtain ⟨_, t, o, hw⟩ := hm.whole 4 _ rfl
  unfold Lib.TabIs World.var?
  rw [show Tryz.prog.globalNamed "internal/strconv.uint64pow10" = some 4 by kernel_rfl, Option.bind_some, hw]
theorem Vq {w : World} {pr : Addr → Prop} {g : Gh} {v1 v2 : Value} {x1 x2 : AV} (h1 : Rep w pr g v1 x1) (h2 : Rep w pr g v2 x2) : Rep w pr g (.tuple #[v1, v2]) (.tup [x1, x2]) := by
  refine .tup _ #[v1, v2] [x1, x2] rfl (fun i x hx => ?_)
  match i, hx with
  | 0, hx => cases hx; exact h1
  | 1, hx => cases hx; exact h2
theorem Ll {F : Addr → Prop} {w : World} (hm : Mem (B.env F) w [] []) {i : Nat} (hi : B.G i = some [.iface 248 .junk]) : ∃ ev, w.cell? ⟨i, 0, none⟩ = some ev ∧ ∃ te pe, ev = .iface te pe := by
  obtain ⟨h1, h2, h3, c, hc⟩ := hm.glob i _ hi
  obtain ⟨q1, q2, q3⟩ := hc 0 _ rfl
  refine ⟨_, q1, ?_⟩
  generalize c 0 = v at q2
  cases q2 with
  | iface _ t v x hr => exact ⟨_, _, rfl⟩
theorem AbA {σ : Ab} {b : ABlk} : (σ ++ [b])[σ.length]? = some b := by
  rw [List.getElem?_append_right (Nat.le_refl _)]; simp
theorem AgB {σ : Ab} {b c : ABlk} : (σ ++ [b]).set σ.length c = σ ++ [c] := by
  rw [List.set_append_right _ _ (Nat.le_refl _)]; simp
theorem A8 {σ : Ab} {id : Nat} : ∀ F, Wv (B.env F) 51 [.ref id 0] σ (.agg [.ref id 3, .ref id 4, .ref id 5, .ref id 6, .ref id 7, .ref id 8, .ref id 9, .ref id 10, .ref id 11, .ref id 12, .ref id 13]) σ := by
  intro F w g vs hm ha
  have hid : id < σ.length := by
    obtain ⟨vs⟩ := vs
    match vs, ha with
    | [u], ⟨h1, _⟩ =>
      cases h1 with
      | ref _ _ _ β b hb _ _ => have := (List.getElem?_eq_some_iff.1 hb).1; rwa [hm.len] at this
  refine Ae9 (N := 37) (rs := [.cell 2 118]) σ.length rfl ok Tryz.func51 rfl (by decide +kernel) rfl rfl (Nat.le_of_ble_eq_true rfl) ?_ (fun F => ?_) F w g vs hm ha
  · simp [AV.under, hid]
  have hE := ok.env F
  show Run (B.env F) σ.length _ ⟨Am 37 [(0, .ref id 0)], σ⟩ _
  refine Ca hE [0, 2] (fr' := [(0, .ref id 0), (2, .ref σ.length 0)]) (σ' := σ ++ [.box [.val (.pointer none), .val (.pointer none), .val (.pointer none), .val (.pointer none), .val (.pointer none), .val (.pointer none), .val (.pointer none), .val (.pointer none), .val (.pointer none), .val (.pointer none), .val (.pointer none)] false]) ⟨_, Aa, ?_⟩ ?_
  · simp only [go_sem]
  refine Xh hE mixed [[], [0], [0, 1], [], [3], [3, 4], [], [6], [6, 7], [], [9], [9, 10], [], [12], [12, 13], [], [15], [15, 16], [], [18], [18, 19], [], [21], [21, 22], [], [24], [24, 25], [], [27], [27, 28], [], [30], [30, 31], [0, 1, 2, 3, 4, 5, 6, 7, 8, 9, 10, 11, 12, 13, 14, 15, 16, 17, 18, 19, 20, 21, 22, 23, 24, 25, 26, 27, 28, 29, 30, 31, 32], [0, 1, 2, 3, 4, 5, 6, 7, 8, 9, 10, 11, 12, 13, 14, 15, 16, 17, 18, 19, 20, 21, 22, 23, 24, 25, 26, 27, 28, 29, 30, 31, 32, 33]] (by kernel_rfl) (by kernel_rfl) [2] (fr' := [(2, .ref σ.length 0)]) (σ' := σ ++ [.box [.ref id 3, .ref id 4, .ref id 5, .ref id 6, .ref id 7, .ref id 8, .ref id 9, .ref id 10, .ref id 11, .ref id 12, .ref id 13] false]) ⟨_, Aa, ?_⟩ ?_
  · simp only [go_sem, AbA, AgB, reduceIte, Nat.reduceLT, Nat.reduceEqDiff, Nat.reduceAdd, Nat.reduceGT, Nat.reduceLeDiff]
  refine Vo ?_
  refine ⟨.inr rfl, [.agg [.ref id 3, .ref id 4, .ref id 5, .ref id 6, .ref id 7, .ref id 8, .ref id 9, .ref id 10, .ref id 11, .ref id 12, .ref id 13]], [.box [.ref id 3, .ref id 4, .ref id 5, .ref id 6, .ref id 7, .ref id 8, .ref id 9, .ref id 10, .ref id 11, .ref id 12, .ref id 13] false], ?_, rfl, rfl⟩
  rw [Mv]
  simp only [go_sem, AbA, reduceIte, Nat.reduceLT, Nat.reduceEqDiff, Nat.reduceAdd, Nat.reduceLeDiff]
open Go.RowKit Go.Shelf
attribute [local go_sem] Oper.semAt_some
def txt (b : ByteArray) : List UInt8 := b.data.toList
theorem T9 {l : List UInt8} (h : (46 : UInt8) ∉ l) : Go.Rv.splitAtL 46 l = [l] := by
  induction l with
  | nil => rfl
  | cons c l ih =>
    simp only [List.mem_cons, not_or] at h
    rw [Go.Rv.splitAtL, if_neg (fun e => h.1 e.symm), ih h.2]
theorem Add {l1 l2 : List UInt8} (h : (46 : UInt8) ∉ l1) : Go.Rv.splitAtL 46 (l1 ++ 46 :: l2) = l1 :: Go.Rv.splitAtL 46 l2 := by
  induction l1 with
  | nil => rfl
  | cons c l ih =>
    simp only [List.mem_cons, not_or] at h
    rw [List.cons_append, Go.Rv.splitAtL, if_neg (fun e => h.1 e.symm), ih h.2]
theorem Aeq {l : List UInt8} : (Go.Rv.splitAtL 46 l).length ≤ l.length + 1 := by
  induction l with
  | nil => simp [Go.Rv.splitAtL]
  | cons c l ih =>
    rw [Go.Rv.splitAtL]
    split
    · simp; omega
    · split <;> simp_all <;> omega
theorem U1 : ∀ {l : List UInt8}, Lib.indexByte l 46 < 0 → (46 : UInt8) ∉ l
  | [], _ => by simp
  | b :: l, h => by
    unfold Lib.indexByte at h
    have hg := Lib.indexByte_ge l 46
    split at h
    · omega
    · rename_i hb
      have hl : Lib.indexByte l 46 < 0 := by
        split at h
        · rename_i e; have : Lib.indexByte l 46 = -1 := by simpa using e
          omega
        · rename_i e; have : Lib.indexByte l 46 ≠ -1 := by simpa using e
          omega
      simp only [List.mem_cons, not_or]
      exact ⟨fun e => hb (by rw [← e]; rfl), U1 hl⟩
theorem Abz : ∀ {l : List UInt8}, ¬Lib.indexByte l 46 < 0 → ∃ k : Nat, Lib.indexByte l 46 = k ∧ k < l.length ∧ (46 : UInt8) ∉ l.take k ∧ l = l.take k ++ 46 :: l.drop (k + 1)
  | [], h => by simp [Lib.indexByte] at h
  | b :: l, h => by
    unfold Lib.indexByte at h ⊢
    by_cases hb : (b == 46) = true
    · rw [if_pos hb]
      have : b = 46 := by simpa using hb
      subst this
      exact ⟨0, rfl, by simp, by simp, by simp⟩
    · rw [if_neg hb] at h ⊢
      by_cases he : (Lib.indexByte l 46 == -1) = true
      · rw [if_pos he] at h; omega
      · rw [if_neg he] at h ⊢
        have hg := Lib.indexByte_ge l 46
        have hne : Lib.indexByte l 46 ≠ -1 := by simpa using he
        obtain ⟨k, h1, h2, h3, h4⟩ := Abz (l := l) (by omega)
        refine ⟨k + 1, by rw [h1]; simp, by simp; omega, ?_, ?_⟩
        · simp only [List.take_succ_cons, List.mem_cons, not_or]
          exact ⟨fun e => hb (by rw [← e]; rfl), h3⟩
        · simp only [List.take_succ_cons, List.drop_succ_cons, List.cons_append]
          rw [← h4]
theorem AgK (b : ByteArray) (k : Nat) : txt (b.extract 0 k) = (txt b).take k := by
  unfold txt; rw [Lib.extract_data]; simp
theorem Wo (b : ByteArray) (k : Nat) : txt (b.extract k b.size) = (txt b).drop k := by
  unfold txt; rw [Lib.extract_data, List.take_of_length_le]
  simp only [List.length_drop]
  exact Nat.le_refl _
theorem Oa (b : ByteArray) : (txt b).length = b.size := rfl
theorem Aea {l : List UInt8} : ∀ {p : List UInt8}, p ∈ Go.Rv.splitAtL 46 l → p.length ≤ l.length := by
  induction l with
  | nil => intro p hp; simp [Go.Rv.splitAtL] at hp; subst hp; simp
  | cons c l ih =>
    intro p hp
    rw [Go.Rv.splitAtL] at hp
    split at hp
    · rcases List.mem_cons.1 hp with rfl | hp
      · simp
      · have := ih hp; simp; omega
    · split at hp
      · simp only [List.mem_singleton] at hp; subst hp; simp
      · rename_i q qs hq
        rcases List.mem_cons.1 hp with rfl | hp
        · have := ih (p := q) (by rw [hq]; simp); simp; omega
        · have := ih (p := p) (by rw [hq]; simp [hp]); simp; omega
def Aib (w : World) (B : Nat) : Nat := match w.cell? ⟨B, 0, none⟩ with | some (.string b) => b.size | _ => 0
theorem Ab1 {w : World} {B : Nat} {b : ByteArray} (h : w.cell? ⟨B, 0, none⟩ = some (.string b)) : Aib w B = b.size := by simp [Aib, h]
set_option maxRecDepth 100000 in
set_option maxHeartbeats 2000000 in
theorem AiF (F : Fence) (n : Nat) (hF : F = Fence.wide) (hn : 1 ≤ n) (l Bs Bsep Bsz : Nat) (J : List ByteArray → World → Prop) (Jx : World → Prop)
    (hset : ∀ pre W v, J pre W → J pre (W.setCell ⟨Bs, 0, none⟩ v))
    (hcell : ∀ pre W, J pre W → W.cell? ⟨Bsep, 0, none⟩ = some (.string ⟨#[46]⟩) ∧ W.cell? ⟨Bsz, 0, none⟩ = some (.int .i64 0) ∧ W.frozen? ⟨Bs, 0, none⟩ = false)
    (hne : Bs ≠ Bsep ∧ Bs ≠ Bsz) (s : ByteArray) (hs : s.size ≤ 1048576)
    (hY : ∀ pre x W r, J pre W → pre.length ≤ s.size → (∃ tl, (pre ++ [x]).map txt ++ tl = Go.Rv.splitAtL 46 (txt s)) → W.cell? ⟨Bs, 0, none⟩ = some r → YieldAt F (n - 1) Tryz.prog l #[.string x] W fun e W' =>
      (e = .returned (.bool true) ∧ J (pre ++ [x]) W' ∧ W'.cell? ⟨Bs, 0, none⟩ = some r) ∨ (e = .returned (.bool false) ∧ Jx W'))
    (W : World) (h0 : J [] W) (hc : W.cell? ⟨Bs, 0, none⟩ = some (.string s)) :
    CallsIn F n Tryz.prog 180 #[.func (.yield l) #[] #[], .pointer (some ⟨Bsep, 0, none⟩), .pointer (some ⟨Bs, 0, none⟩), .pointer (some ⟨Bsz, 0, none⟩)] W fun e W' => (∃ v, e = .returned v) ∧
      ((∃ ys, ys.map txt = Go.Rv.splitAtL 46 (txt s) ∧ J ys W') ∨ Jx W') := by
  subst hF
  refine callsIn_of_wp Tryz.func180 rfl trivial ?_ rfl
  simp only [Tryz.ntmps180, List.size_toArray, List.length_cons, List.length_nil, Nat.reduceAdd, Nat.reduceSub, Array.replicate_succ, Array.replicate_zero, List.push_toArray, List.append_toArray, List.nil_append, List.cons_append]
  obtain ⟨c1, c2, c3⟩ := hcell _ _ h0
  gi_wp2
  gi_loopw [] (fun wr => ∃ (pre : List ByteArray) (rest : ByteArray), pre.map txt ++ Go.Rv.splitAtL 46 (txt rest) = Go.Rv.splitAtL 46 (txt s) ∧ J pre wr ∧ wr.cell? ⟨Bs, 0, none⟩ = some (.string rest) ∧ rest.size ≤ s.size)
    (fun wr => Aib wr Bs)
  case atStart =>
    exact ⟨[], s, rfl, h0, hc, Nat.le_refl _⟩
  case round =>
    obtain ⟨pre, rest, hx, hJ, hr, hrs⟩ := hrel
    obtain ⟨d1, d2, d3⟩ := hcell _ _ hJ
    have hlen : pre.length ≤ s.size := by
      have h1 := congrArg List.length hx
      have h2 := Aeq (l := txt s)
      have h3 : 1 ≤ (Go.Rv.splitAtL 46 (txt rest)).length := by
        cases e : Go.Rv.splitAtL 46 (txt rest) with
        | nil =>
          exfalso
          revert e
          cases txt rest with
          | nil => simp [Go.Rv.splitAtL]
          | cons c l =>
            rw [Go.Rv.splitAtL]
            split
            · simp
            · split <;> simp
        | cons a b => simp
      have h4 : (txt s).length = s.size := rfl
      simp at h1
      omega
    by_cases hk : Lib.indexByte rest.data.toList 46 < 0
    · obtain ⟨fn, tmps, assign, body, hy, hR⟩ := hY pre rest wr _ hJ hlen ⟨[], by rw [← hx, T9 (l := txt rest) (U1 hk)]; simp⟩ hr
      gi_wp2_with (refine ⟨trivial, ?_⟩; gi_at_call 146; refine (callsIn_wide.2 (Any.strings_Index_one { Tryz.lays138 with } rest 46 wr)).mono ?_; rintro e w' ⟨rfl, rfl⟩)
      refine hR.mono ?_
      rintro e W3 (⟨rfl, hJ3, hk3⟩ | ⟨rfl, hJx3⟩)
      · gi_wp2
        refine bodyPost_end (results_none rfl _ _ _) rfl ?_
        exact ⟨⟨_, rfl⟩, .inl ⟨pre ++ [rest], by rw [← hx, T9 (l := txt rest) (U1 hk)]; simp, hJ3⟩⟩
      · gi_wp2
        refine bodyPost_end (results_none rfl _ _ _) rfl ?_
        exact ⟨⟨_, rfl⟩, .inr hJx3⟩
    · obtain ⟨k, hkk, hk1, hk2, hk4⟩ := Abz hk
      have hks : k < rest.size := hk1
      have hw : wrap64 ((k : Nat) : Int) = k := by unfold wrap64; omega
      have hw1 : wrap64 (((k : Nat) : Int) + 1) = ((k + 1 : Nat) : Int) := by unfold wrap64; omega
      have hsp : (pre ++ [rest.extract 0 k]).map txt ++ Go.Rv.splitAtL 46 (txt (rest.extract (k + 1) rest.size)) = Go.Rv.splitAtL 46 (txt s) := by
        rw [← hx, Wo, List.map_append, List.append_assoc]
        congr 1
        have h5 := Add (l2 := (txt rest).drop (k + 1)) hk2
        have h6 : txt rest = (txt rest).take k ++ 46 :: (txt rest).drop (k + 1) := hk4
        have h7 : rest.data.toList.take k = (txt rest).take k := rfl
        rw [h7] at h5
        rw [← h6] at h5
        rw [h5]
        simp [AgK]
      obtain ⟨fn, tmps, assign, body, hy, hR⟩ := hY pre (rest.extract 0 k) wr _ hJ hlen ⟨_, hsp⟩ hr
      gi_wp2_with (refine ⟨trivial, ?_⟩; gi_at_call 146; refine ((callsIn_wide.2 (Any.strings_Index_one { Tryz.lays138 with } rest 46 wr)).mono (R' := fun e w' => e = .returned (.int .i64 (k : Int)) ∧ w' = wr) (by rintro e w' ⟨rfl, rfl⟩; exact ⟨by rw [hkk], rfl⟩)).mono ?_; rintro e w' ⟨rfl, rfl⟩)
      refine hR.mono ?_
      rintro e W3 (⟨rfl, hJ3, hk3⟩ | ⟨rfl, hJx3⟩)
      · obtain ⟨q1, q2, q3⟩ := hcell _ _ hJ3
        gi_wp2
        go_roundw
        case rel =>
          refine ⟨pre ++ [rest.extract 0 k], rest.extract (k + 1) rest.size, ?_, hset _ _ _ hJ3, World.cell?_setCell_same' _ _ _ (by rw [hk3]; rfl), ?_⟩
          · exact hsp
          · have h8 := congrArg List.length (Wo rest (k + 1))
            rw [Oa, List.length_drop, Oa] at h8
            omega
        case measure =>
          rw [Ab1 (b := rest.extract (k + 1) rest.size) (World.cell?_setCell_same' _ _ _ (by rw [hk3]; rfl)), Ab1 hr]
          have h8 := congrArg List.length (Wo rest (k + 1))
          rw [Oa, List.length_drop, Oa] at h8
          omega
      · gi_wp2
        refine bodyPost_ret (results_none rfl _ _ _) rfl ?_
        exact ⟨⟨_, rfl⟩, .inr hJx3⟩
def Agy (B Bs : Nat) (I : List ByteArray → World → Prop) (Ix : World → Prop) (ys : List ByteArray) (W : World) : Exit → Act → World → Prop
  | .normal, _, W' => KeepsFrom B W W' ∧ I ys W' ∧ W'.cell? ⟨Bs, 0, none⟩ = W.cell? ⟨Bs, 0, none⟩
  | .ret, _, W' => KeepsFrom B W W' ∧ Ix W'
  | _, _, _ => False
set_option maxHeartbeats 1000000 in
theorem Amm {g : Operand} {ps : Array Tmp} {assign body : Code} {Q : Exit → Act → World → Prop} {a : Act} {w : World} {n : Nat} (h1 : 2 ≤ n) {Bs Bsep Bsz : Nat} {s : ByteArray} (hs : s.size ≤ 1048576)
    (hg : a.eval g = .func (.func 180) #[] #[.pointer (some ⟨Bsep, 0, none⟩), .pointer (some ⟨Bs, 0, none⟩), .pointer (some ⟨Bsz, 0, none⟩)]) (hne : Bs ≠ Bsep ∧ Bs ≠ Bsz) (hBs : Bs < w.heap.size) (hps : ps.size = 1)
    (I : List ByteArray → World → Prop) (Ix : World → Prop) (hI : OwnFrom w.heap.size I) (hIx : OwnFrom w.heap.size (fun (_ : Unit) W => Ix W))
    (hIs : ∀ pre W v, I pre W → I pre (W.setCell ⟨Bs, 0, none⟩ v))
    (hIF : ∀ pre W, I pre W → W.cell? ⟨Bsep, 0, none⟩ = some (.string ⟨#[46]⟩) ∧ W.cell? ⟨Bsz, 0, none⟩ = some (.int .i64 0) ∧ W.frozen? ⟨Bs, 0, none⟩ = false)
    (h0 : I [] w) (hc : w.cell? ⟨Bs, 0, none⟩ = some (.string s)) (a₁ : ByteArray → Act)
    (hassign : ∀ (l : Nat) (x : ByteArray) (W : World) (K : Act → World → Prop), K (a₁ x) W →
      assign.wpIn (Fence.wide.inRound l) (n - 1 - 1) Tryz.prog (Exit.then K (fun _ _ _ => False)) { tmps := (ps.zip #[Value.string x]).foldl (fun t (p, v) => t.setIfInBounds p v) a.tmps, defers := [] } W)
    (hbody : ∀ (l : Nat) (pre : List ByteArray) (x : ByteArray) (W : World), I pre W → pre.length ≤ s.size → (∃ tl, (pre ++ [x]).map txt ++ tl = Go.Rv.splitAtL 46 (txt s)) → body.wpIn (Fence.wide.inRound l) (n - 1 - 1) Tryz.prog (Agy w.heap.size Bs I Ix (pre ++ [x]) W) (a₁ x) W)
    (hdone : ∀ (D : Nat) (ys : List ByteArray) (W : World), w.heap.size ≤ D → ys.map txt = Go.Rv.splitAtL 46 (txt s) → I ys W → W.heap[D]? = some (.deferred (some [])) → Q .normal { a with defers := { target := .collected D, args := #[] } :: a.defers } W)
    (hstop : ∀ (D : Nat) (W : World), w.heap.size ≤ D → Ix W → W.heap[D]? = some (.deferred (some [])) → Code.ret.wpIn Fence.wide n Tryz.prog Q { a with defers := { target := .collected D, args := #[] } :: a.defers } W) :
    (Code.rangeFunc g ps assign body).wpIn Fence.wide n Tryz.prog Q a w := by
  refine wpIn_rangeFunc fun fn hfn => ?_
  obtain ⟨rc, hrc⟩ : ∃ rc : LoopState → Option Code → Loop, rc = fun st pe => { state := st, pending := pe, fn, tmps := a.tmps, params := ps, assign, body, defers := w.heap.size } := ⟨_, rfl⟩
  obtain ⟨V, hV⟩ : ∃ V, (w.alloc (.deferred (some []))).alloc (.loop (rc .ready none)) = V := ⟨_, rfl⟩
  have vL : V.heap[w.heap.size + 1]? = some (.loop (rc .ready none)) := by
    have h := World.alloc_heap_new (w.alloc (.deferred (some []))) (.loop (rc .ready none))
    rw [World.size_alloc, hV] at h; exact h
  have vD : V.heap[w.heap.size]? = some (.deferred (some [])) := by
    rw [← hV, Below.heap_alloc _ _ _ (by simp)]; exact World.alloc_heap_new w _
  have vc : V.cell? ⟨Bs, 0, none⟩ = some (.string s) := by
    rw [← hV]
    refine cell_kept (row := none) (cell_kept (row := none) hc (World.grownBy_alloc w _ none) (fun r e => by cases e)) (World.grownBy_alloc _ _ none) (fun r e => by cases e)
  have vI : I [] V := hV ▸ hI.alloc _ (hI.alloc _ h0)
  refine ⟨w.heap.size + 1, [{ target := .collected w.heap.size, args := #[] }], V, { target := .fn (.func 180) #[.pointer (some ⟨Bsep, 0, none⟩), .pointer (some ⟨Bs, 0, none⟩), .pointer (some ⟨Bsz, 0, none⟩)], args := #[.func (.yield (w.heap.size + 1)) #[] #[]] }, V, 180,
    #[.func (.yield (w.heap.size + 1)) #[] #[], .pointer (some ⟨Bsep, 0, none⟩), .pointer (some ⟨Bs, 0, none⟩), .pointer (some ⟨Bsz, 0, none⟩)], V, ?_, ?_, fun _ _ => trivial, ?_, fun _ => by omega, ?_⟩
  · rw [← hV, hrc]; exact run_enterLoop_outer _ _ _ _ _
  · simp only [resolve, hg]
    simp [go_sem]
  · have e180 : ∀ args w, (callFunc 180 args).run Tryz.prog w = .ok (.enter 180 args) w := enters_of Tryz.func180 (by kernel_rfl) rfl
    simp [invoke, go_sem, e180]
  have keepL : ∀ {W : World} {v : Value} {k : Nat} {o : Obj}, Bs ≠ k → W.heap[k]? = some o → (W.setCell ⟨Bs, 0, none⟩ v).heap[k]? = some o := fun hk h => (Below.heap_setCell _ _ _ _ (fun e => hk e.symm)).trans h
  refine (AiF Fence.wide (n - 1) rfl (by omega) (w.heap.size + 1) Bs Bsep Bsz
    (fun pre W => I pre W ∧ W.heap[w.heap.size + 1]? = some (.loop (rc .ready none)) ∧ W.heap[w.heap.size]? = some (.deferred (some [])))
    (fun W => Ix W ∧ W.heap[w.heap.size + 1]? = some (.loop (rc .done (some .ret))) ∧ W.heap[w.heap.size]? = some (.deferred (some [])))
    (fun pre W v h => ⟨hIs pre W v h.1, keepL (by omega) h.2.1, keepL (by omega) h.2.2⟩) (fun pre W h => hIF pre W h.1) hne s hs ?_ V ⟨vI, vL, vD⟩ vc).mono ?_
  · rintro pre x W r ⟨i1, i2, i3⟩ hlen htl hr
    have hlt : w.heap.size + 1 < W.heap.size := (Array.getElem?_eq_some_iff.1 i2).1
    have hy := run_yield (P := Tryz.prog) (args := #[Value.string x]) i2 (by rw [hrc]; exact hps.symm)
    rw [hrc] at hy
    refine ⟨fn, _, assign, body, hy, roundIn_of_wpIn hfn (hassign _ x W _ ⟨_, run_beginRound i2 (by rw [hrc]), ?_⟩)⟩
    obtain ⟨U, hU⟩ : ∃ U, W.putObj (w.heap.size + 1) (.loop { rc .ready none with state := .busy }) = U := ⟨_, rfl⟩
    rw [hU]
    have u2 : U.heap[w.heap.size + 1]? = some (.loop { rc .ready none with state := .busy }) := hU ▸ World.putObj_heap_same hlt
    have u3 : U.heap[w.heap.size]? = some (.deferred (some [])) := hU ▸ (World.putObj_heap_other (by omega)).trans i3
    have u1 : I pre U := hU ▸ hI.putObj _ i1 (by omega) i2 rfl
    have uc : U.cell? ⟨Bs, 0, none⟩ = some r := hU ▸ cell_kept hr (grownBy_putObj' W _ _) (fun q e => by cases e; exact ⟨_, i2, rfl⟩)
    refine wpIn_mono (hbody _ pre x U u1 hlen htl) ?_
    have fin : ∀ (jump : Option Code) (W3 : World), KeepsFrom w.heap.size U W3 → (Instr.endRound (w.heap.size + 1) jump).run Tryz.prog W3 = .ok (.bool jump.isNone) (W3.putObj (w.heap.size + 1) (.loop (rc (if jump.isNone then .ready else .done) jump))) ∧
        W3.heap[w.heap.size + 1]? = some (.loop { rc .ready none with state := .busy }) ∧ W3.heap[w.heap.size]? = some (.deferred (some [])) := fun jump W3 hk => by
      have l3 := hk.same _ _ (Nat.le_succ _) u2 rfl
      have d3 := hk.same _ _ (Nat.le_refl _) u3 rfl
      have he := run_endRound (P := Tryz.prog) jump l3
      rw [hrc] at he l3 ⊢
      exact ⟨he, l3, d3⟩
    rintro e a3 W3 hp
    have hsame : ∀ {o' : Obj} {l3 : World} {o : Obj}, l3.heap[w.heap.size + 1]? = some o → (l3.putObj (w.heap.size + 1) o').heap[w.heap.size + 1]? = some o' := fun h => World.putObj_heap_same (Array.getElem?_eq_some_iff.1 h).1
    cases e with
    | normal =>
      obtain ⟨k1, k2, k3⟩ := hp
      obtain ⟨f1, f2, f3⟩ := fin none W3 k1
      exact ⟨_, _, f1, .inl ⟨rfl, ⟨hI.putObj _ k2 (by omega) f2 rfl, hsame f2, (World.putObj_heap_other (by omega)).trans f3⟩, cell_kept (k3.trans uc) (grownBy_putObj' W3 _ _) (fun q e => by cases e; exact ⟨_, f2, rfl⟩)⟩⟩
    | ret =>
      obtain ⟨k1, k2⟩ := hp
      obtain ⟨f1, f2, f3⟩ := fin (some .ret) W3 k1
      exact ⟨_, _, f1, .inr ⟨rfl, hIx.putObj (s := ()) _ k2 (by omega) f2 rfl, hsame f2, (World.putObj_heap_other (by omega)).trans f3⟩⟩
    | exit id => exact hp.elim
    | goto t => exact hp.elim
    | panic ch => exact hp.elim
    | outgrown => exact hp.elim
  · rintro e W2 ⟨⟨v, rfl⟩, (⟨ys, hS, i1, i2, i3⟩ | ⟨i1, i2, i3⟩)⟩
    · have he := run_endLoop (P := Tryz.prog) i2 (by rw [hrc]; simp)
      rw [hrc] at he
      exact ⟨none, _, he, hdone _ ys _ (Nat.le_refl _) hS (hI.putObj _ i1 (by omega) i2 rfl) ((World.putObj_heap_other (by omega)).trans i3)⟩
    · have he := run_endLoop (P := Tryz.prog) i2 (by rw [hrc]; simp)
      rw [hrc] at he
      exact ⟨some .ret, _, he, hstop _ _ (Nat.le_refl _) (hIx.putObj (s := ()) _ i1 (by omega) i2 rfl) ((World.putObj_heap_other (by omega)).trans i3)⟩
set_option maxHeartbeats 1000000 in
theorem AaI (s sep : ByteArray) (n : Nat) (hn : 1 ≤ n) (w : World) : CallsIn Fence.wide n Tryz.prog 148 #[.string s, .string sep] w fun e w' =>
    e = .returned (.func (.func 180) #[] #[.pointer (some ⟨w.heap.size + 1, 0, none⟩), .pointer (some ⟨w.heap.size, 0, none⟩), .pointer (some ⟨w.heap.size + 2, 0, none⟩)]) ∧
      w' = ((w.alloc (.cells #[.string s] 9)).alloc (.cells #[.string sep] 9)).alloc (.cells #[.int .i64 0] 3) := by
  have key : CallsIn Fence.wide (n - 1) Tryz.prog 167 #[.string s, .string sep, .int .i64 0] w fun e w' =>
    e = .returned (.func (.func 180) #[] #[.pointer (some ⟨w.heap.size + 1, 0, none⟩), .pointer (some ⟨w.heap.size, 0, none⟩), .pointer (some ⟨w.heap.size + 2, 0, none⟩)]) ∧
      w' = ((w.alloc (.cells #[.string s] 9)).alloc (.cells #[.string sep] 9)).alloc (.cells #[.int .i64 0] 3) := by
    refine callsIn_of_wp Tryz.func167 rfl trivial ?_ rfl
    simp only [Tryz.ntmps167, List.size_toArray, List.length_cons, List.length_nil, Nat.reduceAdd, Nat.reduceSub, Array.replicate_succ, Array.replicate_zero, List.push_toArray, List.append_toArray, List.nil_append, List.cons_append]
    gi_wp2
    all_goals (go_ret; exact ⟨by simp, rfl⟩)
  refine callsIn_of_wp Tryz.func148 rfl trivial ?_ rfl
  simp only [Tryz.ntmps148, List.size_toArray, List.length_cons, List.length_nil, Nat.reduceAdd, Nat.reduceSub, Array.replicate_succ, Array.replicate_zero, List.push_toArray, List.append_toArray, List.nil_append, List.cons_append]
  gi_wp2_with (refine ⟨trivial, ?_⟩; gi_at_call 167; refine key.mono ?_; rintro e w' ⟨rfl, rfl⟩)
  all_goals (go_ret; exact ⟨rfl, rfl⟩)
def Ali (w : World) : Prop := (∃ ev, w.cell? ⟨7, 0, none⟩ = some ev ∧ ∃ te pe, ev = .iface te pe) ∧ ∃ ev, w.cell? ⟨8, 0, none⟩ = some ev ∧ ∃ te pe, ev = .iface te pe
theorem Ab8 (x : ByteArray) (hx : x.size ≤ 1048576) (w : World) (he : Ali w) : Calls Tryz.prog 149 #[.string x] w fun e w' => Below w.heap.size w w' ∧
    match Lib.atoiAll (txt x) with
    | .ok v => e = .returned (.tuple #[.int .i64 v, .nilIface])
    | _ => ∃ v t p, e = .returned (.tuple #[.int .i64 v, .iface t p]) := by
  obtain ⟨⟨e7, h7, t7, p7, q7⟩, ⟨e8, h8, t8, p8, q8⟩⟩ := he
  rcases hk : Lib.atoiAll (txt x) with v | _ | _
  · skip
    refine (Any.strconv_Atoi_ok Tryz.laysC172 x (by omega) v hk w).mono ?_
    rintro e w' ⟨rfl, hw⟩
    refine ⟨?_, rfl⟩
    rcases hw with rfl | ⟨t, rfl⟩
    · exact Below.refl _ _
    · exact Lib.bytesWorld_below _ _ _
  · skip
    refine (Any.strconv_Atoi_syntax Tryz.laysC172 x (by omega) hk e7 w h7 (.inr ⟨t7, p7, q7⟩)).mono ?_
    rintro e w' ⟨N, rfl, _, _, hw⟩
    exact ⟨hw, _, _, _, rfl⟩
  · skip
    refine (Any.strconv_Atoi_range Tryz.laysC172 x (by omega) hk e8 w h8 (.inr ⟨t8, p8, q8⟩)).mono ?_
    rintro e w' ⟨N, rfl, _, _, hw⟩
    exact ⟨hw, _, _, _, rfl⟩
theorem Amk : (Tryz.prog.info? 3).map (fun i => (i.zero, i.size, i.bytes)) = some (some (.int .i64 0), 1, 8) := by kernel_rfl
theorem F3 {X Y : World} {row : Option Nat} {C b : Nat} {t : TypeId} {v : Value} (h : Boxed X b t v) (hg : X.grownBy Y row) (hr : ∀ r, row = some r → C ≤ r ∧ ∃ o : Obj, X.heap[r]? = some o ∧ o.isCells = false) : Boxed Y b t v :=
  h.kept hg fun e => by
    obtain ⟨_, o, ho, hc⟩ := hr b e.symm
    rw [show X.heap[b]? = _ from h] at ho; cases ho; cases hc
theorem Ahf {X Y : World} {row : Option Nat} {C n₀ : Nat} {e : TypeId} {z k : Nat} {v : Value} {xs : List Value} (h : X.ownsRow n₀ e z v k xs) (hg : X.grownBy Y row) (hr : ∀ r, row = some r → C ≤ r ∧ ∃ o : Obj, X.heap[r]? = some o ∧ o.isCells = false) : Y.ownsRow n₀ e z v k xs := by
  refine h.kept hg ?_
  rcases h.2 with ⟨rfl, _⟩ | ⟨g, cap, cur, rfl, _, hgb, _⟩
  · exact .inl rfl
  · refine .inr fun e' => ?_
    obtain ⟨_, o, ho, hc⟩ := hr g (by simpa [Value.ownBlock] using e'.symm)
    rw [hgb] at ho; cases ho; cases hc
theorem AhG {X : World} {n₀ : Nat} {e : TypeId} {z k b : Nat} {v : Value} {xs : List Value} (h : X.ownsRow n₀ e z v k xs) (hb : b < n₀) : some b ≠ v.ownBlock := by
  rcases h.2 with ⟨rfl, _⟩ | ⟨g, cap, cur, rfl, hg, _, _⟩
  · simp [Value.ownBlock]
  · intro e'
    have : b = g := by simpa [Value.ownBlock] using e'
    omega
theorem AbN {X : World} {n₀ n₁ : Nat} {e : TypeId} {z k : Nat} {v : Value} {xs : List Value} (h : X.ownsRow n₀ e z v k xs) (hb : n₁ ≤ n₀) : X.ownsRow n₁ e z v k xs :=
  ⟨h.1, h.2.imp id fun ⟨g, cap, cur, h1, h2, h3⟩ => ⟨g, cap, cur, h1, Nat.le_trans hb h2, h3⟩⟩
theorem Ve {X : World} {n₀ : Nat} {e : TypeId} {z k b : Nat} {v : Value} {xs : List Value} (h : X.ownsRow n₀ e z v k xs) (hb : b < n₀) (u : Value) : (X.setCell ⟨b, 0, none⟩ u).ownsRow n₀ e z v k xs :=
  h.kept (grownBy_setCell' X b u) (.inr (AhG h hb).symm)
theorem C3 {X : World} {b c : Nat} {t : TypeId} {v : Value} (h : Boxed X b t v) (hn : b ≠ c) (u : Value) : Boxed (X.setCell ⟨c, 0, none⟩ u) b t v := h.kept (grownBy_setCell' X c u) (by simpa using hn)
theorem Eu {X Y : World} {b : Nat} {t : TypeId} {v : Value} (h : Boxed X b t v) (hb : Below X.heap.size X Y) : Boxed Y b t v := (hb.block b h.lt).trans h
theorem AfN {X Y : World} {n₀ : Nat} {e : TypeId} {z k : Nat} {v : Value} {xs : List Value} (h : X.ownsRow n₀ e z v k xs) (hb : Below X.heap.size X Y) : Y.ownsRow n₀ e z v k xs := by
  refine ⟨h.1, h.2.imp id ?_⟩
  rintro ⟨g, cap, cur, h1, h2, h3, h4⟩
  exact ⟨g, cap, cur, h1, h2, (hb.block g (Array.getElem?_eq_some_iff.1 h3).1).trans h3, h4⟩
theorem Ab9 {X Y : World} {B : Nat} (h : Ali X) (hb : Below B X Y) (h9 : 9 ≤ B) : Ali Y := by
  obtain ⟨⟨e7, h7, q7⟩, ⟨e8, h8, q8⟩⟩ := h
  exact ⟨⟨e7, (hb.cell (p := ⟨7, 0, none⟩) (by show 7 < B; omega)).trans h7, q7⟩, ⟨e8, (hb.cell (p := ⟨8, 0, none⟩) (by show 8 < B; omega)).trans h8, q8⟩⟩
theorem Mo {X Y : World} (B : Nat) (hb : Below X.heap.size X Y) : KeepsFrom B X Y := ⟨hb.size, fun k o _ hk _ => (hb.block k (Array.getElem?_eq_some_iff.1 hk).1).trans hk⟩
theorem AcT {ps : List (List UInt8)} {l : List Int} {p : List UInt8} (h : Go.Rv.atois ps = some l) : Go.Rv.atois (ps ++ [p]) = match Lib.atoiAll p with | .ok v => some (l ++ [v]) | _ => none := by
  induction ps generalizing l with
  | nil =>
    cases h
    simp only [List.nil_append, Go.Rv.atois]
    cases Lib.atoiAll p <;> rfl
  | cons q ps ih =>
    simp only [List.cons_append, Go.Rv.atois] at h ⊢
    rcases hq : Lib.atoiAll q with v | _ | _
    · skip
      rw [hq] at h
      simp only [Option.map_eq_some_iff] at h
      obtain ⟨l', h1, rfl⟩ := h
      rw [ih h1]
      cases Lib.atoiAll p <;> rfl
    · rw [hq] at h; cases h
    · rw [hq] at h; cases h
theorem Td {ps qs : List (List UInt8)} (h : Go.Rv.atois ps = none) : Go.Rv.atois (ps ++ qs) = none := by
  induction ps with
  | nil => cases h
  | cons q ps ih =>
    simp only [List.cons_append, Go.Rv.atois] at h ⊢
    rcases hq : Lib.atoiAll q with v | _ | _
    · skip
      rw [hq] at h
      simp only [Option.map_eq_none_iff] at h
      simp [ih h]
    · rfl
    · rfl
theorem AdC {ps : List (List UInt8)} {l : List Int} (h : Go.Rv.atois ps = some l) : l.length = ps.length := by
  induction ps generalizing l with
  | nil => cases h; rfl
  | cons q ps ih =>
    simp only [Go.Rv.atois] at h
    rcases hq : Lib.atoiAll q with v | _ | _
    · skip
      rw [hq] at h
      simp only [Option.map_eq_some_iff] at h
      obtain ⟨l', h1, rfl⟩ := h
      simp [ih h1]
    · rw [hq] at h; cases h
    · rw [hq] at h; cases h
theorem Mi (tmps : Array Value) (W : World) (B : Nat) (v b : Value) (h4 : tmps[4]? = some (.pointer (some ⟨B, 0, none⟩))) (h5 : tmps[5]? = some (.pointer (some ⟨B + 1, 0, none⟩)))
    (c4 : W.cell? ⟨B, 0, none⟩ = some v) (c5 : W.cell? ⟨B + 1, 0, none⟩ = some b) (hv : ∃ a n c, v = .slice a n c) (hb : ∃ x, b = .bool x) : (results Tryz.f108 tmps).run Tryz.prog W = .ok (.tuple #[v, b]) W := by
  obtain ⟨a, n, c, rfl⟩ := hv
  obtain ⟨x, rfl⟩ := hb
  have g4 : tmps.getD 4 undef = .pointer (some ⟨B, 0, none⟩) := by simp [Array.getD_eq_getD_getElem?, h4]
  have g5 : tmps.getD 5 undef = .pointer (some ⟨B + 1, 0, none⟩) := by simp [Array.getD_eq_getD_getElem?, h5]
  have l4 : (loadVar 85 ⟨B, 0, none⟩).run Tryz.prog W = .ok (.slice a n c) W := by
    simp [loadVar, go_sem, c4]
  have l5 : (loadVar 4 ⟨B + 1, 0, none⟩).run Tryz.prog W = .ok (.bool x) W := by
    simp [loadVar, go_sem, c5]
  have hres : Tryz.f108.results = #[.cell 4 85, .cell 5 4] := rfl
  simp only [results, hres]
  simp [Sem.run_bind, Result.andThen, h4, h5, asAddr, l4, l5]
set_option maxRecDepth 100000 in
set_option maxHeartbeats 4000000 in
theorem W4 (R : Ending → World → Prop) (s : ByteArray) (m : Int) (hs : s.size ≤ 1048576) (w : World) (he : Ali w) (h9 : 9 ≤ w.heap.size)
    (hR1 : ∀ l v W', Go.Rv.atois (Go.Rv.splitAtL 46 (txt s)) = some l → Below w.heap.size w W' → W'.ownsRow (w.heap.size + 5) 3 1 v l.length (l.map (Value.int .i64)) → R (.returned (.tuple #[v, .bool ((l.length : Int) == m)])) W')
    (hR2 : ∀ W', Go.Rv.atois (Go.Rv.splitAtL 46 (txt s)) = none → Below w.heap.size w W' → R (.returned (.tuple #[.slice none 0 0, .bool false])) W') : Calls Tryz.prog 108 #[.string s, .int .i64 m] w R := by
  refine (callsIn_wide (n := 5)).1 ?_
  obtain ⟨i0, hi, hz0, hz1, hz2⟩ := info_parts Amk
  refine callsIn_of_wp_marks Tryz.func108 rfl trivial ?_ rfl
  simp only [Tryz.ntmps108, List.size_toArray, List.length_cons, List.length_nil, Nat.reduceAdd, Nat.reduceSub, Array.replicate_succ, Array.replicate_zero, List.push_toArray, List.append_toArray, List.nil_append, List.cons_append]
  gi_wp2_with (refine ⟨trivial, ?_⟩; gi_at_call 148; refine (AaI s ⟨#[46]⟩ _ (by omega) _).mono ?_; rintro e w' ⟨rfl, rfl⟩)
  obtain ⟨w0, hw0⟩ : ∃ w0, (((((w.alloc (.cells #[.slice none 0 0] 85)).alloc (.cells #[.bool false] 4)).alloc (.cells #[.string s] 9)).alloc (.cells #[.string ⟨#[46]⟩] 9)).alloc (.cells #[.int .i64 0] 3)) = w0 := ⟨_, rfl⟩
  have z0 : w0.heap.size = w.heap.size + 5 := by rw [← hw0]; simp
  have b4 : Boxed w0 w.heap.size 85 (.slice none 0 0) := by rw [← hw0]; exact ((((Boxed.new w 85 _).alloc _).alloc _).alloc _).alloc _
  have b5 : Boxed w0 (w.heap.size + 1) 4 (.bool false) := by
    rw [← hw0]; have h := Boxed.new (w.alloc (.cells #[.slice none 0 0] 85)) 4 (.bool false)
    rw [World.size_alloc] at h; exact ((h.alloc _).alloc _).alloc _
  have bs : Boxed w0 (w.heap.size + 2) 9 (.string s) := by
    rw [← hw0]; have h := Boxed.new ((w.alloc (.cells #[.slice none 0 0] 85)).alloc (.cells #[.bool false] 4)) 9 (.string s)
    simp only [World.size_alloc] at h; exact (h.alloc _).alloc _
  have bp : Boxed w0 (w.heap.size + 3) 9 (.string ⟨#[46]⟩) := by
    rw [← hw0]; have h := Boxed.new (((w.alloc (.cells #[.slice none 0 0] 85)).alloc (.cells #[.bool false] 4)).alloc (.cells #[.string s] 9)) 9 (.string ⟨#[46]⟩)
    simp only [World.size_alloc] at h; exact h.alloc _
  have bz : Boxed w0 (w.heap.size + 4) 3 (.int .i64 0) := by
    rw [← hw0]; have h := Boxed.new ((((w.alloc (.cells #[.slice none 0 0] 85)).alloc (.cells #[.bool false] 4)).alloc (.cells #[.string s] 9)).alloc (.cells #[.string ⟨#[46]⟩] 9)) 3 (.int .i64 0)
    simp only [World.size_alloc] at h; exact h
  have hB0 : Below w.heap.size w w0 := by
    rw [← hw0]
    exact (((((Below.refl _ w).alloc (Nat.le_refl _) _).alloc (by simp) _).alloc (by simp; omega) _).alloc (by simp; omega) _).alloc (by simp; omega) _
  rw [hw0]
  refine Amm (Bs := w.heap.size + 2) (Bsep := w.heap.size + 3) (Bsz := w.heap.size + 4) (s := s) (by omega) hs rfl ⟨by omega, by omega⟩ (by omega) rfl
    (fun pre W => (∃ l v, Go.Rv.atois (pre.map txt) = some l ∧ Boxed W w.heap.size 85 v ∧ W.ownsRow (w.heap.size + 5) 3 1 v l.length (l.map (Value.int .i64))) ∧ Boxed W (w.heap.size + 1) 4 (.bool false) ∧ (∃ r, Boxed W (w.heap.size + 2) 9 r) ∧ Boxed W (w.heap.size + 3) 9 (.string ⟨#[46]⟩) ∧ Boxed W (w.heap.size + 4) 3 (.int .i64 0) ∧ Below w.heap.size w W)
    (fun W => Go.Rv.atois (Go.Rv.splitAtL 46 (txt s)) = none ∧ Boxed W w.heap.size 85 (.slice none 0 0) ∧ Boxed W (w.heap.size + 1) 4 (.bool false) ∧ Below w.heap.size w W)
    ?hI ?hIx ?hIs ?hIF ?h0 bs.cell
    (fun x => { tmps := #[Value.string s, Value.int IntKind.i64 m, undef, undef, Value.pointer (some { block := w.heap.size, off := 0 }), Value.pointer (some { block := w.heap.size + 1, off := 0 }), Value.string x, undef, undef, Value.string s,
          Value.func (Fn.func 180) #[] #[Value.pointer (some { block := w.heap.size + 3, off := 0 }), Value.pointer (some { block := w.heap.size + 2, off := 0 }), Value.pointer (some { block := w.heap.size + 4, off := 0 })],
          Value.string x, undef, undef, undef, undef, undef, undef, undef, undef, undef, undef, undef, undef, undef, undef, undef, undef], defers := [] }) ?assign ?body ?done ?stop
  case hI =>
    rintro pre X Y row ⟨⟨l, v, i1, i2, i3⟩, i4, ⟨r, i5⟩, i6, i7, i8⟩ hg hr
    exact ⟨⟨l, v, i1, F3 i2 hg hr, Ahf i3 hg hr⟩, F3 i4 hg hr, ⟨r, F3 i5 hg hr⟩, F3 i6 hg hr, F3 i7 hg hr, i8.grown hg i8.size (fun k e => Nat.le_trans (by omega) (hr k e).1)⟩
  case hIx =>
    rintro _ X Y row ⟨i1, i2, i3, i4⟩ hg hr
    exact ⟨i1, F3 i2 hg hr, F3 i3 hg hr, i4.grown hg i4.size (fun k e => Nat.le_trans (by omega) (hr k e).1)⟩
  case hIs =>
    rintro pre W u ⟨⟨l, v, i1, i2, i3⟩, i4, ⟨r, i5⟩, i6, i7, i8⟩
    exact ⟨⟨l, v, i1, C3 i2 (by omega) u, Ve i3 (by omega) u⟩, C3 i4 (by omega) u, ⟨u, i5.set u⟩, C3 i6 (by omega) u, C3 i7 (by omega) u, i8.setCell (p := ⟨w.heap.size + 2, 0, none⟩) (by show w.heap.size ≤ w.heap.size + 2; omega) u⟩
  case hIF =>
    rintro pre W ⟨⟨l, v, i1, i2, i3⟩, i4, ⟨r, i5⟩, i6, i7, i8⟩
    exact ⟨i6.cell, i7.cell, i5.frozen⟩
  case h0 =>
    exact ⟨⟨[], _, rfl, b4, World.ownsRow_nil _ _ _ _⟩, b5, ⟨_, bs⟩, bp, bz, hB0⟩
  case assign =>
    intro l x W K hK
    gi_wp2
    exact hK
  case body =>
    rintro l pre x W ⟨⟨li, v, i1, i2, i3⟩, i4, ⟨r, i5⟩, i6, i7, i8⟩ hlen ⟨tl, htl⟩
    have hxs : x.size ≤ 1048576 := by
      have h1 : txt x ∈ Go.Rv.splitAtL 46 (txt s) := by rw [← htl]; simp
      have h2 := Aea h1
      rw [Oa, Oa] at h2
      omega
    have hbelow : ∀ w1, Below W.heap.size W w1 → Below w.heap.size w w1 := fun w1 h => i8.trans (h.mono i8.size)
    have hA := Ab8 x hxs W (Ab9 he i8 h9)
    have c4 := i2.cell
    have f4 := i2.frozen
    have c5 := i4.cell
    have f5 := i4.frozen
    have hx2 := AcT (p := txt x) i1
    have hx3 : (pre ++ [x]).map txt = pre.map txt ++ [txt x] := by simp
    rcases hk : Lib.atoiAll (txt x) with k | _ | _
    · skip
      rw [hk] at hA hx2
      have hll := AdC i1
      have hmax : (1048577 : Nat) ≤ maxLen := by decide
      gi_wp2_with (first | (refine ⟨trivial, ?_⟩; gi_at_call 149; refine (CallsIn.inRound l (callsIn_wide.2 hA)).mono ?_; rintro e w1 ⟨hb1, rfl⟩; have y4 := Eu i2 hb1; have y5 := Eu i4 hb1; have d4 := y4.cell; have e4 := y4.frozen; have d5 := y5.cell; have e5 := y5.frozen; have r5 := AfN i3 hb1)
                           | (gi_at_builtin; refine wpListIn_append_own _ rfl _ _ 85 rfl (w.heap.size + 5) 3 i0 (.int .i64 0) 1 8 Tryz.underlying85 hi hz0 hz1 hz2 rfl (by decide) _ _ _ rfl (r5.alloc _) ⟨w1.heap.size, 0, none⟩ 1 1 [.int .i64 k] rfl rfl (cell_one_new _ _ _) (by simp [Value.oneCell']) (by rw [hll, List.length_map]; omega) (by rw [hll, List.length_map]; omega) (by have := i7.lt; have := hb1.size; simp; omega) ?_; intro v' w2 hown' hgrow _; obtain ⟨g', cap', rfl⟩ := ownsRow_succ hown'; obtain ⟨hv1, hv2, hr2, hk2, hb2⟩ := y4.appended (by decide) (AbN r5 (by omega)) (by have := i8.size; have := hb1.size; omega) (Nat.le_refl _) (AbN hown' (by omega)) hgrow; have hc1 := hv1.cell; have hf1 := hv1.frozen))
      have hbox : ∀ b t u, w.heap.size < b → b < w.heap.size + 5 → Boxed W b t u → Boxed (w2.setCell ⟨w.heap.size, 0, none⟩ (.slice (some ⟨g', 0, none⟩) (li.length + 1) cap')) b t u := fun b t u q1 q2 h =>
        C3 (((Eu h hb1).alloc _).kept hgrow (AhG r5 q2)) (by omega) _
      rw [show pre.length = li.length by rw [hll, List.length_map]]
      refine ⟨(Mo _ hb1).trans (hk2.from _), ⟨⟨li ++ [k], _, by rw [hx3]; exact hx2, hv2, ?_⟩, hbox _ _ _ (by omega) (by omega) i4, ⟨r, hbox _ _ _ (by omega) (by omega) i5⟩, hbox _ _ _ (by omega) (by omega) i6, hbox _ _ _ (by omega) (by omega) i7, (hbelow _ hb1).trans hb2⟩, (hbox _ _ _ (by omega) (by omega) i5).cell.trans i5.cell.symm⟩
      have hr5 := Ve hown' (b := w.heap.size) (by omega) (.slice (some ⟨g', 0, none⟩) (li.length + 1) cap')
      simpa using hr5
    · skip
      rw [hk] at hA hx2
      gi_wp2_with (refine ⟨trivial, ?_⟩; gi_at_call 149; refine (CallsIn.inRound l (callsIn_wide.2 hA)).mono ?_; rintro e w1 ⟨hb1, vv, tt, pp, rfl⟩; have y4 := Eu i2 hb1; have y5 := Eu i4 hb1; have d4 := y4.cell; have e4 := y4.frozen; have d5 := y5.cell; have e5 := y5.frozen)
      exact ⟨((Mo _ hb1).trans ((KeepsOthers.setCell _ _ _).from _)).trans ((KeepsOthers.setCell _ _ _).from _), by rw [← htl, hx3]; exact Td hx2, C3 (y4.set _) (by omega) _, (C3 y5 (by omega) _).set _,
        ((hbelow _ hb1).setCell (p := ⟨w.heap.size, 0, none⟩) (Nat.le_refl _) _).setCell (p := ⟨w.heap.size + 1, 0, none⟩) (by show w.heap.size ≤ w.heap.size + 1; omega) _⟩
    · skip
      rw [hk] at hA hx2
      gi_wp2_with (refine ⟨trivial, ?_⟩; gi_at_call 149; refine (CallsIn.inRound l (callsIn_wide.2 hA)).mono ?_; rintro e w1 ⟨hb1, vv, tt, pp, rfl⟩; have y4 := Eu i2 hb1; have y5 := Eu i4 hb1; have d4 := y4.cell; have e4 := y4.frozen; have d5 := y5.cell; have e5 := y5.frozen)
      exact ⟨((Mo _ hb1).trans ((KeepsOthers.setCell _ _ _).from _)).trans ((KeepsOthers.setCell _ _ _).from _), by rw [← htl, hx3]; exact Td hx2, C3 (y4.set _) (by omega) _, (C3 y5 (by omega) _).set _,
        ((hbelow _ hb1).setCell (p := ⟨w.heap.size, 0, none⟩) (Nat.le_refl _) _).setCell (p := ⟨w.heap.size + 1, 0, none⟩) (by show w.heap.size ≤ w.heap.size + 1; omega) _⟩
  case done =>
    rintro D ys W hD hys ⟨⟨li, v, i1, i2, i3⟩, i4, ⟨r, i5⟩, i6, i7, i8⟩ hK
    have c4 := i2.cell
    have f4 := i2.frozen
    have c5 := i4.cell
    have f5 := i4.frozen
    rw [hys] at i1
    have hll : (v = .slice none 0 0 ∧ li.length = 0) ∨ ∃ g cap, v = .slice (some ⟨g, 0, none⟩) li.length cap := by
      rcases i3.2 with ⟨e, h⟩ | ⟨g, cap, _, e, _⟩
      · exact .inl ⟨e, h⟩
      · exact .inr ⟨g, cap, e⟩
    have fin : ∀ (v : Value), (∃ a n c, v = .slice a n c) → Boxed W w.heap.size 85 v → W.ownsRow (w.heap.size + 5) 3 1 v li.length (li.map (Value.int .i64)) → ∀ (b : Value), (∃ x, b = .bool x) →
        ((W.setCell ⟨w.heap.size, 0, none⟩ v).setCell ⟨w.heap.size + 1, 0, none⟩ b).heap[D]? = some (.deferred (some [])) ∧
        (((W.setCell ⟨w.heap.size, 0, none⟩ v).setCell ⟨w.heap.size + 1, 0, none⟩ b).putObj D (.deferred none)).cell? ⟨w.heap.size, 0, none⟩ = some v ∧
        (((W.setCell ⟨w.heap.size, 0, none⟩ v).setCell ⟨w.heap.size + 1, 0, none⟩ b).putObj D (.deferred none)).cell? ⟨w.heap.size + 1, 0, none⟩ = some b ∧
        Below w.heap.size w (((W.setCell ⟨w.heap.size, 0, none⟩ v).setCell ⟨w.heap.size + 1, 0, none⟩ b).putObj D (.deferred none)) ∧
        (((W.setCell ⟨w.heap.size, 0, none⟩ v).setCell ⟨w.heap.size + 1, 0, none⟩ b).putObj D (.deferred none)).ownsRow (w.heap.size + 5) 3 1 v li.length (li.map (Value.int .i64)) := by
      intro v hv j2 j3 b hb
      have hd : ((W.setCell ⟨w.heap.size, 0, none⟩ v).setCell ⟨w.heap.size + 1, 0, none⟩ b).heap[D]? = some (.deferred (some [])) := (KeepsOthers.setCell _ _ _).same D _ ((KeepsOthers.setCell _ _ _).same D _ hK rfl) rfl
      have y4 : Boxed ((W.setCell ⟨w.heap.size, 0, none⟩ v).setCell ⟨w.heap.size + 1, 0, none⟩ b) w.heap.size 85 v := C3 (j2.set v) (by omega) b
      have y5 : Boxed ((W.setCell ⟨w.heap.size, 0, none⟩ v).setCell ⟨w.heap.size + 1, 0, none⟩ b) (w.heap.size + 1) 4 b := (C3 i4 (by omega) v).set b
      have yb : Below w.heap.size w ((W.setCell ⟨w.heap.size, 0, none⟩ v).setCell ⟨w.heap.size + 1, 0, none⟩ b) :=
        (i8.setCell (p := ⟨w.heap.size, 0, none⟩) (Nat.le_refl _) v).setCell (p := ⟨w.heap.size + 1, 0, none⟩) (by show w.heap.size ≤ w.heap.size + 1; omega) b
      exact ⟨hd, cell_kept y4.cell (grownBy_putObj' _ D _) (fun q e => by cases e; exact ⟨_, hd, rfl⟩), cell_kept y5.cell (grownBy_putObj' _ D _) (fun q e => by cases e; exact ⟨_, hd, rfl⟩),
        yb.grown (grownBy_putObj' _ D _) yb.size (fun k e => by cases e; omega), ownsRow_putObj (Ve (Ve j3 (by omega) v) (by omega) b) _ hd rfl⟩
    rcases hll with ⟨rfl, hl0⟩ | ⟨g, cap, rfl⟩
    · gi_wp2
      obtain ⟨q1, q2⟩ := fin _ ⟨_, _, _, rfl⟩ i2 i3 (.bool (0 == m)) ⟨_, rfl⟩
      refine ⟨by simp, .inl ⟨_, _, rfl, run_takeDeferred q1, ?_⟩⟩
      obtain ⟨q3, q4, q5, q6⟩ := q2
      refine ⟨_, Mi _ _ w.heap.size _ _ rfl rfl q3 q4 ⟨_, _, _, rfl⟩ ⟨_, rfl⟩, ?_⟩
      have := hR1 li _ _ i1 q5 q6
      rw [hl0] at this
      exact this
    · gi_wp2
      obtain ⟨q1, q2⟩ := fin _ ⟨_, _, _, rfl⟩ i2 i3 (.bool ((li.length : Int) == m)) ⟨_, rfl⟩
      refine ⟨by simp, .inl ⟨_, _, rfl, run_takeDeferred q1, ?_⟩⟩
      obtain ⟨q3, q4, q5, q6⟩ := q2
      exact ⟨_, Mi _ _ w.heap.size _ _ rfl rfl q3 q4 ⟨_, _, _, rfl⟩ ⟨_, rfl⟩, hR1 li _ _ i1 q5 q6⟩
  case stop =>
    rintro D W hD ⟨i1, i2, i3, i4⟩ hK
    have c4 := i2.cell
    have c5 := i3.cell
    gi_wp2
    refine ⟨by simp, .inl ⟨_, _, rfl, run_takeDeferred hK, ?_⟩⟩
    exact ⟨_, Mi _ _ w.heap.size (.slice none 0 0) (.bool false) rfl rfl (cell_kept c4 (grownBy_putObj' _ D _) (fun q e => by cases e; exact ⟨_, hK, rfl⟩)) (cell_kept c5 (grownBy_putObj' _ D _) (fun q e => by cases e; exact ⟨_, hK, rfl⟩)) ⟨_, _, _, rfl⟩ ⟨_, rfl⟩,
      hR2 _ i1 (i4.grown (grownBy_putObj' W D (.deferred none)) i4.size (fun k e => by cases e; omega))⟩
open Go.Rv Go.RowKit
set_option maxHeartbeats 2000000 in
theorem Sy (w : World) : Calls Tryz.prog 109 #[.string ⟨#[]⟩] w fun e w' => e = .returned (.tuple #[.string ⟨#[]⟩, .bool true]) ∧ w' = (w.alloc (.cells #[.pointer none, .slice none 0 0] 108)).drew := by
  have hb : (w.alloc (.cells #[.pointer none, .slice none 0 0] 108)).cell? ⟨w.heap.size, 1, none⟩ = some (.slice none 0 0) := by
    have h := World.alloc_heap_new w (.cells #[.pointer none, .slice none 0 0] 108)
    simp only [World.cell?, h]; rfl
  go_enter Tryz.func109, Tryz.ntmps109
  go_wp2
  go_loop [5] (fun i => i = .int .i64 0) (fun _ => 0)
  case atStart => rfl
  case round =>
    subst hrel
    go_wp2_with (refine (AcA w.heap.size 0 0 _ rfl hb).mono ?_; rintro e w' ⟨rfl, rfl⟩)
    refine bodyPost_ret (results_tmp2 rfl _ _ _) rfl ?_
    exact ⟨rfl, rfl⟩
open Go.RowKit
def aggB : Value → Bool
  | .agg _ => true
  | _ => false
theorem AjI : ∃ vs, ∀ w, (zeroValue 166).run Tryz.prog w = .ok (.agg vs) w := by
  have h : ((Tryz.prog.info? 166).bind (·.zero)).map aggB = some true := by kernel_rfl
  obtain ⟨z, hz, ha⟩ := Option.map_eq_some_iff.1 h
  obtain ⟨i, hi, hz⟩ := Option.bind_eq_some_iff.1 hz
  cases z with
  | agg vs =>
    refine ⟨vs, fun w => ?_⟩
    have ht : (typeInfo 166).run Tryz.prog w = .ok i w := by
      simp [typeInfo, Sem.run_bind, hi, Result.andThen]
    simp [zeroValue, Sem.run_bind, ht, Result.andThen, hz]
  | _ => cases ha
set_option maxRecDepth 100000 in
set_option maxHeartbeats 4000000 in
theorem Ps (a1 a2 a3 a4 : Option Addr) (c1 c2 c3 c4 : Nat) (w : World) : Calls Tryz.prog 40 #[.agg #[.slice a1 0 c1, .slice a2 0 c2, .slice a3 0 c3, .slice a4 0 c4]] w fun e w' => e = .returned (.int .i64 0) ∧ Below w.heap.size w w' := by
  obtain ⟨z, hz⟩ := AjI
  go_enter Tryz.func40, Tryz.ntmps40
  go_wp2
  go_loop [43] (fun i => i = .int .i64 0) (fun _ => 0)
  case atStart => rfl
  case round =>
    subst hrel
    go_wp2
    go_loop [85] (fun i => i = .int .i64 0) (fun _ => 0)
    case atStart => rfl
    case round =>
      subst hrel
      go_wp2
      go_loop [122] (fun i => i = .int .i64 0) (fun _ => 0)
      case atStart => rfl
      case round =>
        subst hrel
        go_wp2
        go_loop [160] (fun i => i = .int .i64 0) (fun _ => 0)
        case atStart => rfl
        case round =>
          subst hrel
          go_wp2
          go_ret
          exact ⟨rfl, (((Below.refl _ w).alloc (Nat.le_refl _) _).alloc (by simp) _).alloc (by simp; omega) _⟩
set_option maxHeartbeats 4000000
theorem Cb {a c r} (h : B3 a c = some r) : Con B 46 [.tref 0 108, .str c] [.box [.nref 0, .bs false 1 (a.buf.length) 0 (a.buf.length)] false, .tb 5 a.buf] (fun r' σ' => r' = .tup [i64 r.1, .val .nilIface] ∧ σ' = [.box [.nref 0, .bs false 1 (r.2.2.buf.length) 0 (r.2.2.buf.length)] false, .tb 5 r.2.2.buf]) := by
 refine Co 2 19 [.tmp 4, .tmp 5] Tryz.func46 (fun F hE => ?_) h
 unfold B3
 refine T0 [0, 1] ?_
 refine Te [0, 1] (Ag (l := []) (m := [(7, 99, [.tref 0 108], [.box [.nref 0, .bs false 1 (a.buf.length) 0 (a.buf.length)] false, .tb 5 a.buf], .tup [], [.box [.nref 0, .bs false 1 (a.buf.length) 0 (a.buf.length)] false, .tb 5 a.buf])]) trivial ⟨(L5 rfl), trivial⟩) Ev ?_
 refine Ck fun d =>Lt fun b e =>Te (σ' := [.box [.nref 0, .bs false 1 (b.length) 0 (b.length)] false, .tb 5 b]) [1] Aa (Ev (by simp only [go_sem, d, e]; exact Ad)) ?_
 refine T0 [4, 5] ?_
 exact Sr <|Ro [0, 1]
theorem Ar {a c r} (h : Ap a c = some r) : Con B 50 [.tref 0 108, u8 c] [.box [.nref 0, .bs false 1 (a.buf.length) 0 (a.buf.length)] false, .tb 5 a.buf] (fun r' σ' => r' = .val .nilIface ∧ σ' = [.box [.nref 0, .bs false 1 (r.2.buf.length) 0 (r.2.buf.length)] false, .tb 5 r.2.buf]) := by
 refine Co 2 17 [.tmp 4] Tryz.func50 (fun F hE => ?_) h
 unfold Ap
 refine T0 [0, 1] ?_
 refine Te [0, 1] (Ag (l := []) (m := [(6, 99, [.tref 0 108], [.box [.nref 0, .bs false 1 (a.buf.length) 0 (a.buf.length)] false, .tb 5 a.buf], .tup [], [.box [.nref 0, .bs false 1 (a.buf.length) 0 (a.buf.length)] false, .tb 5 a.buf])]) trivial ⟨(L5 rfl), trivial⟩) Ev ?_
 refine Ck fun d =>Lt fun b e =>Te (σ' := [.box [.nref 0, .bs false 1 (b.length) 0 (b.length)] false, .tb 5 b, _]) [] Aa (Ev (by simp only [go_sem, d, e]; exact Ad)) ?_
 refine T0 [4] ?_
 exact Sr <|Ro [0, 1]
theorem Sl {g a r} (h : Ot g a = some r) : Con B 52 [.tref 0 108, .str a] [.box [.nref 0, .bs false 1 (g.buf.length) 0 (g.buf.length)] false, .tb 5 g.buf] (fun r' σ' => r' = .tup [] ∧ σ' = [.box [.nref 0, .bs false 1 (r.buf.length) 0 (r.buf.length)] false, .tb 5 r.buf]) := by
 refine Co 2 46 [] Tryz.func52 (fun F hE => ?_) h
 unfold Ot
 refine T0 [0, 1, 7, 8] ?_
 refine Sb ?_
 refine Lo (fun (v : Int × List UInt8) => (⟨Am 46 [(0, .tref 0 108), (1, .str a), (7, i64 (a.length : Int)), (8, i64 v.1)], [.box [.nref 0, .bs false 1 (v.2.length) 0 (v.2.length)] false, .tb 5 v.2]⟩ : St)) (ws [0, 1]) ?_
 rintro ⟨e, b⟩ aj w x y
 show Jw a e b = some w → _
 unfold Jw
 refine T0 [0, 1, 7, 8, 9] ?_
 refine Sq <|Cd ?_ ?_
 ·refine Sk <|Tn <|Sq <|Sb <|T0 [0, 1, 4, 7, 8] ?_
  refine Ck fun z =>Te [0, 1, 5, 7, 8] Aa (Ev (by simp only [go_sem, qR z]; exact Ad)) ?_
  refine Ja (fun (v : UInt8 × List UInt8) => (⟨Am 46 [(0, .tref 0 108), (1, .str a), (5, u8 v.1), (7, i64 (a.length : Int)), (8, i64 e)], [.box [.nref 0, .bs false 1 (v.2.length) 0 (v.2.length)] false, .tb 5 v.2]⟩ : St)) ?_ ?_
  ·intro ak
   refine Tw [0, 1, 5, 7, 8, 31] (fun s => ⟨Am 46 [(0, .tref 0 108), (1, .str a), (5, u8 (nth a e.toNat)), (7, i64 (a.length : Int)), (8, i64 e), (31, .bool s)], [.box [.nref 0, .bs false 1 (b.length) 0 (b.length)] false, .tb 5 b]⟩) ?_ ?_
   ·intro _
    refine Sp (fun c => ?_) fun c => ?_
    ·exact Lf Aa (Ev (by simp only [go_sem, c]; exact Ad)) (ws [0, 1])
    ·refine Sp (fun f => ?_) fun f => ?_
     ·exact Lf Aa (Ev (by simp only [go_sem, c, f]; exact Ad)) (ws [0, 1])
     ·refine Sp (fun i => ?_) fun i => ?_
      ·exact Lf Aa (Ev (by simp only [go_sem, c, f, i]; exact Ad)) (ws [0, 1])
      ·refine Sp (fun n => ?_) fun n => ?_
       ·exact Lf Aa (Ev (by simp only [go_sem, c, f, i, n]; exact Ad)) (ws [0, 1])
       ·exact Lf Aa (Ev (by simp only [go_sem, c, f, i, n]; exact Ad)) (ws [0, 1])
   intro s
   refine Cd ?_ ?_
   ·refine Bd fun al aa =>Lt fun d ab =>Te (σ' := [.box [.nref 0, .bs false 1 (d.length) 0 (d.length)] false, .tb 5 d]) [0, 1, 5, 7, 8] (Ag (l := []) (m := [(33, 50, [.tref 0 108, u8 (63 : UInt8)], [.box [.nref 0, .bs false 1 (b.length) 0 (b.length)] false, .tb 5 b], _, _)]) trivial ⟨(wc (Ar aa) [0, 1]), trivial⟩) (Ev (by simp only [go_sem, ab]; exact Ad)) ?_
    refine Ck fun t => ?_
    have j := t; simp only [List.cons_append, List.nil_append, List.length_append, List.length_cons, List.length_nil, Nat.zero_add, Nat.reduceAdd] at j
    refine Bd fun am ac =>Lt fun o ad =>Te (σ' := [.box [.nref 0, .bs false 1 (o.length) 0 (o.length)] false, .tb 5 o]) [0, 1, 5, 7, 8] (Ag (l := []) (m := [(38, 50, [.tref 0 108, u8 (nth ([48, 49, 50, 51, 52, 53, 54, 55, 56, 57, 97, 98, 99, 100, 101, 102] : List UInt8) ((Ako (nth a e.toNat) (4 : UInt64).toNat).toNat))], [.box [.nref 0, .bs false 1 (d.length) 0 (d.length)] false, .tb 5 d], _, _)]) trivial ⟨(wc (Ar ac) [0, 1]), trivial⟩) (Ev (by simp only [go_sem, qN t, j, Oo j, Alv (Oo j), ad]; exact Ad)) ?_
    refine Ck fun u => ?_
    have k := u; simp only [List.cons_append, List.nil_append, List.length_append, List.length_cons, List.length_nil, Nat.zero_add, Nat.reduceAdd] at k
    refine Lt fun ae af =>Fe (fr' := [(0, _), (1, _), (5, u8 ae), (7, _), (8, _)]) [0, 1, 5, 7, 8] Aa (Ev (by simp only [go_sem, qN u, k, Oo k, Alv (Oo k), af]; exact Ad)) ?_
    exact Jm (ws [0, 1])
   ·exact Sk <|Jm (ws [0, 1])
  rintro ⟨ag, p⟩
  refine Bd fun an ah =>Lt fun q ai =>Fe (σ' := [.box [.nref 0, .bs false 1 (q.length) 0 (q.length)] false, .tb 5 q]) [0, 1, 7, 8] (Ag (l := []) (m := [(44, 50, [.tref 0 108, u8 ag], [.box [.nref 0, .bs false 1 (p.length) 0 (p.length)] false, .tb 5 p], _, _)]) trivial ⟨(wc (Ar ah) [0, 1]), trivial⟩) (Ev (by simp only [go_sem, ai]; exact Ad)) ?_
  refine Bn <|Tn <|F0 [0, 1, 7, 8] ?_
  exact Ln (ws [0, 1])
 ·exact Sx <|Tx <|Ly y x <|Bx <|Ro [0, 1]
open Go.RowKit in
theorem Pg {n : Int} {r : List UInt8} (h : strconv_Itoa n = some r) : Con B 48 [i64 n] [] (fun r' σ' => r' = .str r ∧ σ' = []) := by
  unfold strconv_Itoa AkL at h
  split at h
  case isFalse => cases h
  rename_i hl
  obtain ⟨hl1, hl2⟩ := hl
  simp only [Option.some.injEq] at h
  subst h
  refine ⟨fun F w g vs hm ha => .inl ⟨⟨Tryz.f48, _, Tryz.func48, rfl, by decide +kernel⟩, ?_⟩⟩
  have hg : g = [] := List.length_eq_zero_iff.1 hm.len
  subst hg
  obtain ⟨vs⟩ := vs
  match vs, ha with
  | [u], ⟨h1, _⟩ =>
    have hu := Cl h1
    subst hu
    have key : Calls Tryz.prog 48 #[.int .i64 n] w fun e w' => e = .returned (.string ⟨(Lib.itoa n).toArray⟩) ∧ Below w.heap.size w w' :=
      (Any.strconv_Itoa Tryz.laysM171 n hl1 hl2 w (Aev hm)).mono fun e w' ⟨e1, k, os, e2⟩ => ⟨e1, by
        rw [e2]
        exact Lib.below_grow _ w (Nat.le_refl _) k os⟩
    exact key.mono fun e w' ⟨he, hb⟩ => ⟨_, _, [], [], he, ⟨rfl, rfl⟩, I4 hm hb, Hx hb, .str _ _ _ (by simp)⟩
theorem A6 {c a r} (h : Bm c a = some r) : Con B 47 [i64 c, .tref 0 108] [.box [.nref 0, .bs false 1 (a.buf.length) 0 (a.buf.length)] false, .tb 5 a.buf] (fun r' σ' => r' = .tup [] ∧ σ' = [.box [.nref 0, .bs false 1 (r.buf.length) 0 (r.buf.length)] false, .tb 5 r.buf]) := by
 refine Co 2 6 [] Tryz.func47 (fun F hE => ?_) h
 unfold Bm
 refine Bd fun d e =>Bd fun i f =>Lt fun b g =>Fe (σ' := [.box [.nref 0, .bs false 1 (b.length) 0 (b.length)] false, .tb 5 b]) [] (Ag (l := [(4, _, _, _)]) (m := [(5, 46, [.tref 0 108, .str d], [.box [.nref 0, .bs false 1 (a.buf.length) 0 (a.buf.length)] false, .tb 5 a.buf], _, _)]) ⟨Pg  e, trivial⟩ ⟨(wc (Cb f) [0, 1]), trivial⟩) (Ev (by simp only [go_sem, g]; exact Ad)) ?_
 exact Ro [0, 1]
theorem Ba {c a r} (h : Bw c a = some r) : Con B 49 [u8 c, .tref 0 108] [.box [.nref 0, .bs false 1 (a.buf.length) 0 (a.buf.length)] false, .tb 5 a.buf] (fun r' σ' => r' = .tup [] ∧ σ' = [.box [.nref 0, .bs false 1 (r.buf.length) 0 (r.buf.length)] false, .tb 5 r.buf]) := by
 refine Co 2 6 [] Tryz.func49 (fun F hE => ?_) h
 unfold Bw
 refine Bd fun j e =>Lt fun b f =>Te (σ' := [.box [.nref 0, .bs false 1 (b.length) 0 (b.length)] false, .tb 5 b]) [0, 1] (Ag (l := []) (m := [(3, 50, [.tref 0 108, u8 (43 : UInt8)], [.box [.nref 0, .bs false 1 (a.buf.length) 0 (a.buf.length)] false, .tb 5 a.buf], _, _)]) trivial ⟨(wc (Ar e) [0, 1]), trivial⟩) (Ev (by simp only [go_sem, f]; exact Ad)) ?_
 refine Bd fun k g =>Lt fun d i =>Fe (σ' := [.box [.nref 0, .bs false 1 (d.length) 0 (d.length)] false, .tb 5 d]) [] (Ag (l := []) (m := [(5, 50, [.tref 0 108, u8 c], [.box [.nref 0, .bs false 1 (b.length) 0 (b.length)] false, .tb 5 b], _, _)]) trivial ⟨(wc (Ar g) [0, 1]), trivial⟩) (Ev (by simp only [go_sem, i]; exact Ad)) ?_
 exact Ro [0, 1]
theorem Iy {a r} (h : Jg a = some r) : Con B 18 [.agg [i64 a.Kind, i64 a.Ref.Railway, i64 a.Ref.No, i64 a.Wagon, i64 a.Place, i64 a.Other, i64 a.Number, i64 a.From, i64 a.To, i64 a.Code, i64 a.Dest, i64 a.Class, i64 a.Weight, i64 a.Amount, .str a.Text, .sl false (L Ac a.Parts)]] [] (fun r' σ' => r' = .tup [.str r.1, i64 r.2] ∧ σ' = []) := by
 refine Cw 104 [.tmp 2, .tmp 3] Tryz.func18 (fun F hE => ?_) h
 unfold Jg
 refine T0 [1] ?_
 refine Sq ?_
 refine Tw [1, 19] (fun ax => ⟨Am 104 [(1, .ref 0 0), (19, .bool ax)], [.box [i64 a.Kind, i64 a.Ref.Railway, i64 a.Ref.No, i64 a.Wagon, i64 a.Place, i64 a.Other, i64 a.Number, i64 a.From, i64 a.To, i64 a.Code, i64 a.Dest, i64 a.Class, i64 a.Weight, i64 a.Amount, .str a.Text, .sl false (L Ac a.Parts)] false]⟩) ?_ ?_
 ·intro _
  refine Sp (fun aa => ?_) fun aa => ?_
  ·exact Lf Aa (Ev (by simp only [go_sem, aa]; exact Ad)) (ws [0])
  ·exact Lf Aa (Ev (by simp only [go_sem, aa]; exact Ad)) (ws [0])
 intro ax
 refine Cd ?_ ?_
 ·refine T0 [2, 3] ?_
  exact Sr <|Tr <|Rr
 ·refine Sk <|Tn <|T0 [1, 4] ?_
  refine Rw (R4 1 1 5 rfl rfl) ?_
  refine Ck fun aW =>Bd fun ab aX =>Te [1, 4] (Ag (l := []) (m := [(24, 46, [.tref 1 108, .str (glob0.get a.Kind.toNat)], [.box [i64 a.Kind, i64 a.Ref.Railway, i64 a.Ref.No, i64 a.Wagon, i64 a.Place, i64 a.Other, i64 a.Number, i64 a.From, i64 a.To, i64 a.Code, i64 a.Dest, i64 a.Class, i64 a.Weight, i64 a.Amount, .str a.Text, .sl false (L Ac a.Parts)] false, .box [.nref 1, .bs true 2 0 0 0] false, .tb 5 ([])], _, _)]) trivial ⟨(wc (Cb aX) [1, 2]), trivial⟩) (Ev (by simp only [go_sem, qR aW]; exact Ad)) ?_
  refine T0 [1, 4, 5] ?_
  refine T0 [1, 4, 5, 6] ?_
  refine Ja (fun b => ⟨Am 104 [(1, .ref 0 0), (4, .tref 1 108), (5, .fn 47 [.tref 1 108]), (6, .fn 49 [.tref 1 108])], [.box [i64 a.Kind, i64 a.Ref.Railway, i64 a.Ref.No, i64 a.Wagon, i64 a.Place, i64 a.Other, i64 a.Number, i64 a.From, i64 a.To, i64 a.Code, i64 a.Dest, i64 a.Class, i64 a.Weight, i64 a.Amount, .str a.Text, .sl false (L Ac a.Parts)] false, .box [.nref 1, .bs false 2 (b.length) 0 (b.length)] false, .tb 5 b]⟩) ?_ ?_
  ·intro bG
   refine T0 [1, 4, 5, 6, 30] ?_
   refine Cd ?_ ?_
   ·refine Bd fun ac aY =>Te [1, 4, 5, 6] (Ag (l := []) (m := [(32, 49, [u8 (114 : UInt8), .tref 1 108], [.box [i64 a.Kind, i64 a.Ref.Railway, i64 a.Ref.No, i64 a.Wagon, i64 a.Place, i64 a.Other, i64 a.Number, i64 a.From, i64 a.To, i64 a.Code, i64 a.Dest, i64 a.Class, i64 a.Weight, i64 a.Amount, .str a.Text, .sl false (L Ac a.Parts)] false, .box [.nref 1, .bs false 2 (ab.2.2.buf.length) 0 (ab.2.2.buf.length)] false, .tb 5 ab.2.2.buf], _, _)]) trivial ⟨(wc (Ba aY) [1, 2]), trivial⟩) Ev ?_
    refine Bd fun ad aZ =>Te [1, 4, 5, 6] (Ag (l := []) (m := [(37, 47, [i64 a.Ref.Railway, .tref 1 108], [.box [i64 a.Kind, i64 a.Ref.Railway, i64 a.Ref.No, i64 a.Wagon, i64 a.Place, i64 a.Other, i64 a.Number, i64 a.From, i64 a.To, i64 a.Code, i64 a.Dest, i64 a.Class, i64 a.Weight, i64 a.Amount, .str a.Text, .sl false (L Ac a.Parts)] false, .box [.nref 1, .bs false 2 (ac.buf.length) 0 (ac.buf.length)] false, .tb 5 ac.buf], _, _)]) trivial ⟨(wc (A6 aZ) [1, 2]), trivial⟩) Ev ?_
    refine Bd fun ae a0 =>Te [1, 4, 5, 6] (Ag (l := []) (m := [(38, 50, [.tref 1 108, u8 (46 : UInt8)], [.box [i64 a.Kind, i64 a.Ref.Railway, i64 a.Ref.No, i64 a.Wagon, i64 a.Place, i64 a.Other, i64 a.Number, i64 a.From, i64 a.To, i64 a.Code, i64 a.Dest, i64 a.Class, i64 a.Weight, i64 a.Amount, .str a.Text, .sl false (L Ac a.Parts)] false, .box [.nref 1, .bs false 2 (ad.buf.length) 0 (ad.buf.length)] false, .tb 5 ad.buf], _, _)]) trivial ⟨(wc (Ar a0) [1, 2]), trivial⟩) Ev ?_
    refine Bd fun bH a1 =>Fe [1, 4, 5, 6] (Ag (l := []) (m := [(43, 47, [i64 a.Ref.No, .tref 1 108], [.box [i64 a.Kind, i64 a.Ref.Railway, i64 a.Ref.No, i64 a.Wagon, i64 a.Place, i64 a.Other, i64 a.Number, i64 a.From, i64 a.To, i64 a.Code, i64 a.Dest, i64 a.Class, i64 a.Weight, i64 a.Amount, .str a.Text, .sl false (L Ac a.Parts)] false, .box [.nref 1, .bs false 2 (ae.2.buf.length) 0 (ae.2.buf.length)] false, .tb 5 ae.2.buf], _, _)]) trivial ⟨(wc (A6 a1) [1, 2]), trivial⟩) Ev ?_
    exact Jm (ws [0, 1, 2])
   ·exact Sk <|Jm (ws [0, 1, 2])
  intro b
  refine Te [1, 4, 5, 6, 7] (Ag (l := []) (m := [(44, 51, [.ref 0 0], [.box [i64 a.Kind, i64 a.Ref.Railway, i64 a.Ref.No, i64 a.Wagon, i64 a.Place, i64 a.Other, i64 a.Number, i64 a.From, i64 a.To, i64 a.Code, i64 a.Dest, i64 a.Class, i64 a.Weight, i64 a.Amount, .str a.Text, .sl false (L Ac a.Parts)] false, .box [.nref 1, .bs false 2 (b.length) 0 (b.length)] false, .tb 5 b], .agg [.ref 0 3, .ref 0 4, .ref 0 5, .ref 0 6, .ref 0 7, .ref 0 8, .ref 0 9, .ref 0 10, .ref 0 11, .ref 0 12, .ref 0 13], [.box [i64 a.Kind, i64 a.Ref.Railway, i64 a.Ref.No, i64 a.Wagon, i64 a.Place, i64 a.Other, i64 a.Number, i64 a.From, i64 a.To, i64 a.Code, i64 a.Dest, i64 a.Class, i64 a.Weight, i64 a.Amount, .str a.Text, .sl false (L Ac a.Parts)] false, .box [.nref 1, .bs false 2 (b.length) 0 (b.length)] false, .tb 5 b])]) trivial ⟨A8, trivial⟩) Ev ?_
  refine Ja (fun d => ⟨Am 104 [(1, .ref 0 0), (4, .tref 1 108), (5, .fn 47 [.tref 1 108]), (6, .fn 49 [.tref 1 108])], [.box [i64 a.Kind, i64 a.Ref.Railway, i64 a.Ref.No, i64 a.Wagon, i64 a.Place, i64 a.Other, i64 a.Number, i64 a.From, i64 a.To, i64 a.Code, i64 a.Dest, i64 a.Class, i64 a.Weight, i64 a.Amount, .str a.Text, .sl false (L Ac a.Parts)] false, .box [.nref 1, .bs false 2 (d.length) 0 (d.length)] false, .tb 5 d]⟩) ?_ ?_
  ·intro bI
   refine T0 [1, 4, 5, 6, 7, 45] ?_
   refine Sb ?_
   refine Ul 17 ?_
   refine Ug (m := 16) ?_
   refine Ua (fun e => ⟨Am 104 [(1, .ref 0 0), (4, .tref 1 108), (5, .fn 47 [.tref 1 108]), (6, .fn 49 [.tref 1 108]), (7, .ref 2 0), (45, .ref 3 0)], [.box [i64 a.Kind, i64 a.Ref.Railway, i64 a.Ref.No, i64 a.Wagon, i64 a.Place, i64 a.Other, i64 a.Number, i64 a.From, i64 a.To, i64 a.Code, i64 a.Dest, i64 a.Class, i64 a.Weight, i64 a.Amount, .str a.Text, .sl false (L Ac a.Parts)] false, .box [.nref 1, .bs false 4 (e.length) 0 (e.length)] false, .box [.ref 0 3, .ref 0 4, .ref 0 5, .ref 0 6, .ref 0 7, .ref 0 8, .ref 0 9, .ref 0 10, .ref 0 11, .ref 0 12, .ref 0 13] false, .obj (.stringIter ⟨([119, 112, 111, 110, 102, 116, 99, 100, 107, 103, 97] : List UInt8).toArray⟩ 1), .tb 5 e]⟩) ?_ ?_
   ·intro bJ
    refine Te [1, 4, 5, 6, 7, 45, 46, 47] Aa (Ev (by simp only [go_sem, Ae, Int.reduceLT, Int.reduceAdd, Int.reduceSub, Nat.reduceMul, Nat.reduceGT, Nat.reduceLeDiff, decide_true, decide_false, Bool.false_eq_true, Int.reduceBEq, Int.reduceGT, Int.reduceLE, Int.reduceGE, beq_self_eq_true]; exact Ad)) ?_
    refine Sq <|Ct <|Sk <|Tn <|Sb <|Te [1, 4, 5, 6, 7, 8, 9, 45] Aa (Ev (by simp only [go_sem, Ae, Int.reduceLT, Int.reduceAdd, Int.reduceSub, Nat.reduceMul, Nat.reduceGT, Nat.reduceLeDiff, decide_true, decide_false, Bool.false_eq_true, Int.reduceBEq, Int.reduceGT, Int.reduceLE, Int.reduceGE, beq_self_eq_true]; exact Ad)) ?_
    have ay : InR 0 11 := by decide
    refine Te [1, 4, 5, 6, 7, 8, 9, 45, 55] Aa (Ev (by simp only [go_sem, Ae, Int.reduceLT, Int.reduceAdd, Int.reduceSub, Nat.reduceMul, Nat.reduceGT, Nat.reduceLeDiff, decide_true, decide_false, Bool.false_eq_true, Int.reduceBEq, Int.reduceGT, Int.reduceLE, Int.reduceGE, beq_self_eq_true, ay, ay.2]; exact Ad)) ?_
    refine Cd ?_ ?_
    ·refine Bd fun af a2 =>Te [1, 4, 5, 6, 7, 8, 45] (Ag (l := []) (m := [(59, 49, [u8 (119 : UInt8), .tref 1 108], [.box [i64 a.Kind, i64 a.Ref.Railway, i64 a.Ref.No, i64 a.Wagon, i64 a.Place, i64 a.Other, i64 a.Number, i64 a.From, i64 a.To, i64 a.Code, i64 a.Dest, i64 a.Class, i64 a.Weight, i64 a.Amount, .str a.Text, .sl false (L Ac a.Parts)] false, .box [.nref 1, .bs false 2 (b.length) 0 (b.length)] false, .tb 5 b, .box [.ref 0 3, .ref 0 4, .ref 0 5, .ref 0 6, .ref 0 7, .ref 0 8, .ref 0 9, .ref 0 10, .ref 0 11, .ref 0 12, .ref 0 13] false, .obj (.stringIter ⟨([119, 112, 111, 110, 102, 116, 99, 100, 107, 103, 97] : List UInt8).toArray⟩ 1)], _, _)]) trivial ⟨(wc (Ba a2) [1, 2]), trivial⟩) (Ev (by simp only [go_sem, Ae, Int.reduceLT, Int.reduceAdd, Int.reduceSub, Nat.reduceMul, Nat.reduceGT, Nat.reduceLeDiff, decide_true, decide_false, Bool.false_eq_true, Int.reduceBEq, Int.reduceGT, Int.reduceLE, Int.reduceGE, beq_self_eq_true]; exact Ad)) ?_
     have az : InR 0 11 := by decide
     refine Bd fun bK a3 =>Fe [1, 4, 5, 6, 7, 45] (Ag (l := []) (m := [(66, 47, [i64 a.Wagon, .tref 1 108], [.box [i64 a.Kind, i64 a.Ref.Railway, i64 a.Ref.No, i64 a.Wagon, i64 a.Place, i64 a.Other, i64 a.Number, i64 a.From, i64 a.To, i64 a.Code, i64 a.Dest, i64 a.Class, i64 a.Weight, i64 a.Amount, .str a.Text, .sl false (L Ac a.Parts)] false, .box [.nref 1, .bs false 2 (af.buf.length) 0 (af.buf.length)] false, .tb 5 af.buf, .box [.ref 0 3, .ref 0 4, .ref 0 5, .ref 0 6, .ref 0 7, .ref 0 8, .ref 0 9, .ref 0 10, .ref 0 11, .ref 0 12, .ref 0 13] false, .obj (.stringIter ⟨([119, 112, 111, 110, 102, 116, 99, 100, 107, 103, 97] : List UInt8).toArray⟩ 1)], _, _)]) trivial ⟨(wc (A6 a3) [1, 2]), trivial⟩) (Ev (by simp only [go_sem, Ae, Int.reduceLT, Int.reduceAdd, Int.reduceSub, Nat.reduceMul, Nat.reduceGT, Nat.reduceLeDiff, decide_true, decide_false, Bool.false_eq_true, Int.reduceBEq, Int.reduceGT, Int.reduceLE, Int.reduceGE, beq_self_eq_true, az, az.2]; exact Ad)) ?_
     exact Bn <|Jm (ws [0, 1, 3, 4, 2])
    ·exact Sk <|Bn <|Jm (ws [0, 1, 3, 4, 2])
   intro e
   refine Ug (m := 15) ?_
   refine Ua (fun f => ⟨Am 104 [(1, .ref 0 0), (4, .tref 1 108), (5, .fn 47 [.tref 1 108]), (6, .fn 49 [.tref 1 108]), (7, .ref 2 0), (45, .ref 3 0)], [.box [i64 a.Kind, i64 a.Ref.Railway, i64 a.Ref.No, i64 a.Wagon, i64 a.Place, i64 a.Other, i64 a.Number, i64 a.From, i64 a.To, i64 a.Code, i64 a.Dest, i64 a.Class, i64 a.Weight, i64 a.Amount, .str a.Text, .sl false (L Ac a.Parts)] false, .box [.nref 1, .bs false 4 (f.length) 0 (f.length)] false, .box [.ref 0 3, .ref 0 4, .ref 0 5, .ref 0 6, .ref 0 7, .ref 0 8, .ref 0 9, .ref 0 10, .ref 0 11, .ref 0 12, .ref 0 13] false, .obj (.stringIter ⟨([119, 112, 111, 110, 102, 116, 99, 100, 107, 103, 97] : List UInt8).toArray⟩ 2), .tb 5 f]⟩) ?_ ?_
   ·intro bL
    refine Te [1, 4, 5, 6, 7, 45, 46, 47] Aa (Ev (by simp only [go_sem, Ae, Int.reduceLT, Int.reduceAdd, Int.reduceSub, Nat.reduceMul, Nat.reduceGT, Nat.reduceLeDiff, decide_true, decide_false, Bool.false_eq_true, Int.reduceBEq, Int.reduceGT, Int.reduceLE, Int.reduceGE, beq_self_eq_true]; exact Ad)) ?_
    refine Sq <|Ct <|Sk <|Tn <|Sb <|Te [1, 4, 5, 6, 7, 8, 9, 45] Aa (Ev (by simp only [go_sem, Ae, Int.reduceLT, Int.reduceAdd, Int.reduceSub, Nat.reduceMul, Nat.reduceGT, Nat.reduceLeDiff, decide_true, decide_false, Bool.false_eq_true, Int.reduceBEq, Int.reduceGT, Int.reduceLE, Int.reduceGE, beq_self_eq_true]; exact Ad)) ?_
    have aA : InR 1 11 := by decide
    refine Te [1, 4, 5, 6, 7, 8, 9, 45, 55] Aa (Ev (by simp only [go_sem, Ae, Int.reduceLT, Int.reduceAdd, Int.reduceSub, Nat.reduceMul, Nat.reduceGT, Nat.reduceLeDiff, decide_true, decide_false, Bool.false_eq_true, Int.reduceBEq, Int.reduceGT, Int.reduceLE, Int.reduceGE, beq_self_eq_true, aA, aA.2]; exact Ad)) ?_
    refine Cd ?_ ?_
    ·refine Bd fun ag a4 =>Te [1, 4, 5, 6, 7, 8, 45] (Ag (l := []) (m := [(59, 49, [u8 (112 : UInt8), .tref 1 108], [.box [i64 a.Kind, i64 a.Ref.Railway, i64 a.Ref.No, i64 a.Wagon, i64 a.Place, i64 a.Other, i64 a.Number, i64 a.From, i64 a.To, i64 a.Code, i64 a.Dest, i64 a.Class, i64 a.Weight, i64 a.Amount, .str a.Text, .sl false (L Ac a.Parts)] false, .box [.nref 1, .bs false 4 (e.length) 0 (e.length)] false, .box [.ref 0 3, .ref 0 4, .ref 0 5, .ref 0 6, .ref 0 7, .ref 0 8, .ref 0 9, .ref 0 10, .ref 0 11, .ref 0 12, .ref 0 13] false, .obj (.stringIter ⟨([119, 112, 111, 110, 102, 116, 99, 100, 107, 103, 97] : List UInt8).toArray⟩ 2), .tb 5 e], _, _)]) trivial ⟨(wc (Ba a4) [1, 4]), trivial⟩) (Ev (by simp only [go_sem, Ae, Int.reduceLT, Int.reduceAdd, Int.reduceSub, Nat.reduceMul, Nat.reduceGT, Nat.reduceLeDiff, decide_true, decide_false, Bool.false_eq_true, Int.reduceBEq, Int.reduceGT, Int.reduceLE, Int.reduceGE, beq_self_eq_true]; exact Ad)) ?_
     have aB : InR 1 11 := by decide
     refine Bd fun bM a5 =>Fe [1, 4, 5, 6, 7, 45] (Ag (l := []) (m := [(66, 47, [i64 a.Place, .tref 1 108], [.box [i64 a.Kind, i64 a.Ref.Railway, i64 a.Ref.No, i64 a.Wagon, i64 a.Place, i64 a.Other, i64 a.Number, i64 a.From, i64 a.To, i64 a.Code, i64 a.Dest, i64 a.Class, i64 a.Weight, i64 a.Amount, .str a.Text, .sl false (L Ac a.Parts)] false, .box [.nref 1, .bs false 4 (ag.buf.length) 0 (ag.buf.length)] false, .box [.ref 0 3, .ref 0 4, .ref 0 5, .ref 0 6, .ref 0 7, .ref 0 8, .ref 0 9, .ref 0 10, .ref 0 11, .ref 0 12, .ref 0 13] false, .obj (.stringIter ⟨([119, 112, 111, 110, 102, 116, 99, 100, 107, 103, 97] : List UInt8).toArray⟩ 2), .tb 5 ag.buf], _, _)]) trivial ⟨(wc (A6 a5) [1, 4]), trivial⟩) (Ev (by simp only [go_sem, Ae, Int.reduceLT, Int.reduceAdd, Int.reduceSub, Nat.reduceMul, Nat.reduceGT, Nat.reduceLeDiff, decide_true, decide_false, Bool.false_eq_true, Int.reduceBEq, Int.reduceGT, Int.reduceLE, Int.reduceGE, beq_self_eq_true, aB, aB.2]; exact Ad)) ?_
     exact Bn <|Jm (ws [0, 1, 2, 3, 4])
    ·exact Sk <|Bn <|Jm (ws [0, 1, 2, 3, 4])
   intro f
   refine Ug (m := 14) ?_
   refine Ua (fun g => ⟨Am 104 [(1, .ref 0 0), (4, .tref 1 108), (5, .fn 47 [.tref 1 108]), (6, .fn 49 [.tref 1 108]), (7, .ref 2 0), (45, .ref 3 0)], [.box [i64 a.Kind, i64 a.Ref.Railway, i64 a.Ref.No, i64 a.Wagon, i64 a.Place, i64 a.Other, i64 a.Number, i64 a.From, i64 a.To, i64 a.Code, i64 a.Dest, i64 a.Class, i64 a.Weight, i64 a.Amount, .str a.Text, .sl false (L Ac a.Parts)] false, .box [.nref 1, .bs false 4 (g.length) 0 (g.length)] false, .box [.ref 0 3, .ref 0 4, .ref 0 5, .ref 0 6, .ref 0 7, .ref 0 8, .ref 0 9, .ref 0 10, .ref 0 11, .ref 0 12, .ref 0 13] false, .obj (.stringIter ⟨([119, 112, 111, 110, 102, 116, 99, 100, 107, 103, 97] : List UInt8).toArray⟩ 3), .tb 5 g]⟩) ?_ ?_
   ·intro bN
    refine Te [1, 4, 5, 6, 7, 45, 46, 47] Aa (Ev (by simp only [go_sem, Ae, Int.reduceLT, Int.reduceAdd, Int.reduceSub, Nat.reduceMul, Nat.reduceGT, Nat.reduceLeDiff, decide_true, decide_false, Bool.false_eq_true, Int.reduceBEq, Int.reduceGT, Int.reduceLE, Int.reduceGE, beq_self_eq_true]; exact Ad)) ?_
    refine Sq <|Ct <|Sk <|Tn <|Sb <|Te [1, 4, 5, 6, 7, 8, 9, 45] Aa (Ev (by simp only [go_sem, Ae, Int.reduceLT, Int.reduceAdd, Int.reduceSub, Nat.reduceMul, Nat.reduceGT, Nat.reduceLeDiff, decide_true, decide_false, Bool.false_eq_true, Int.reduceBEq, Int.reduceGT, Int.reduceLE, Int.reduceGE, beq_self_eq_true]; exact Ad)) ?_
    have aC : InR 2 11 := by decide
    refine Te [1, 4, 5, 6, 7, 8, 9, 45, 55] Aa (Ev (by simp only [go_sem, Ae, Int.reduceLT, Int.reduceAdd, Int.reduceSub, Nat.reduceMul, Nat.reduceGT, Nat.reduceLeDiff, decide_true, decide_false, Bool.false_eq_true, Int.reduceBEq, Int.reduceGT, Int.reduceLE, Int.reduceGE, beq_self_eq_true, aC, aC.2]; exact Ad)) ?_
    refine Cd ?_ ?_
    ·refine Bd fun ah a6 =>Te [1, 4, 5, 6, 7, 8, 45] (Ag (l := []) (m := [(59, 49, [u8 (111 : UInt8), .tref 1 108], [.box [i64 a.Kind, i64 a.Ref.Railway, i64 a.Ref.No, i64 a.Wagon, i64 a.Place, i64 a.Other, i64 a.Number, i64 a.From, i64 a.To, i64 a.Code, i64 a.Dest, i64 a.Class, i64 a.Weight, i64 a.Amount, .str a.Text, .sl false (L Ac a.Parts)] false, .box [.nref 1, .bs false 4 (f.length) 0 (f.length)] false, .box [.ref 0 3, .ref 0 4, .ref 0 5, .ref 0 6, .ref 0 7, .ref 0 8, .ref 0 9, .ref 0 10, .ref 0 11, .ref 0 12, .ref 0 13] false, .obj (.stringIter ⟨([119, 112, 111, 110, 102, 116, 99, 100, 107, 103, 97] : List UInt8).toArray⟩ 3), .tb 5 f], _, _)]) trivial ⟨(wc (Ba a6) [1, 4]), trivial⟩) (Ev (by simp only [go_sem, Ae, Int.reduceLT, Int.reduceAdd, Int.reduceSub, Nat.reduceMul, Nat.reduceGT, Nat.reduceLeDiff, decide_true, decide_false, Bool.false_eq_true, Int.reduceBEq, Int.reduceGT, Int.reduceLE, Int.reduceGE, beq_self_eq_true]; exact Ad)) ?_
     have aD : InR 2 11 := by decide
     refine Bd fun bO a7 =>Fe [1, 4, 5, 6, 7, 45] (Ag (l := []) (m := [(66, 47, [i64 a.Other, .tref 1 108], [.box [i64 a.Kind, i64 a.Ref.Railway, i64 a.Ref.No, i64 a.Wagon, i64 a.Place, i64 a.Other, i64 a.Number, i64 a.From, i64 a.To, i64 a.Code, i64 a.Dest, i64 a.Class, i64 a.Weight, i64 a.Amount, .str a.Text, .sl false (L Ac a.Parts)] false, .box [.nref 1, .bs false 4 (ah.buf.length) 0 (ah.buf.length)] false, .box [.ref 0 3, .ref 0 4, .ref 0 5, .ref 0 6, .ref 0 7, .ref 0 8, .ref 0 9, .ref 0 10, .ref 0 11, .ref 0 12, .ref 0 13] false, .obj (.stringIter ⟨([119, 112, 111, 110, 102, 116, 99, 100, 107, 103, 97] : List UInt8).toArray⟩ 3), .tb 5 ah.buf], _, _)]) trivial ⟨(wc (A6 a7) [1, 4]), trivial⟩) (Ev (by simp only [go_sem, Ae, Int.reduceLT, Int.reduceAdd, Int.reduceSub, Nat.reduceMul, Nat.reduceGT, Nat.reduceLeDiff, decide_true, decide_false, Bool.false_eq_true, Int.reduceBEq, Int.reduceGT, Int.reduceLE, Int.reduceGE, beq_self_eq_true, aD, aD.2]; exact Ad)) ?_
     exact Bn <|Jm (ws [0, 1, 2, 3, 4])
    ·exact Sk <|Bn <|Jm (ws [0, 1, 2, 3, 4])
   intro g
   refine Ug (m := 13) ?_
   refine Ua (fun i => ⟨Am 104 [(1, .ref 0 0), (4, .tref 1 108), (5, .fn 47 [.tref 1 108]), (6, .fn 49 [.tref 1 108]), (7, .ref 2 0), (45, .ref 3 0)], [.box [i64 a.Kind, i64 a.Ref.Railway, i64 a.Ref.No, i64 a.Wagon, i64 a.Place, i64 a.Other, i64 a.Number, i64 a.From, i64 a.To, i64 a.Code, i64 a.Dest, i64 a.Class, i64 a.Weight, i64 a.Amount, .str a.Text, .sl false (L Ac a.Parts)] false, .box [.nref 1, .bs false 4 (i.length) 0 (i.length)] false, .box [.ref 0 3, .ref 0 4, .ref 0 5, .ref 0 6, .ref 0 7, .ref 0 8, .ref 0 9, .ref 0 10, .ref 0 11, .ref 0 12, .ref 0 13] false, .obj (.stringIter ⟨([119, 112, 111, 110, 102, 116, 99, 100, 107, 103, 97] : List UInt8).toArray⟩ 4), .tb 5 i]⟩) ?_ ?_
   ·intro bP
    refine Te [1, 4, 5, 6, 7, 45, 46, 47] Aa (Ev (by simp only [go_sem, Ae, Int.reduceLT, Int.reduceAdd, Int.reduceSub, Nat.reduceMul, Nat.reduceGT, Nat.reduceLeDiff, decide_true, decide_false, Bool.false_eq_true, Int.reduceBEq, Int.reduceGT, Int.reduceLE, Int.reduceGE, beq_self_eq_true]; exact Ad)) ?_
    refine Sq <|Ct <|Sk <|Tn <|Sb <|Te [1, 4, 5, 6, 7, 8, 9, 45] Aa (Ev (by simp only [go_sem, Ae, Int.reduceLT, Int.reduceAdd, Int.reduceSub, Nat.reduceMul, Nat.reduceGT, Nat.reduceLeDiff, decide_true, decide_false, Bool.false_eq_true, Int.reduceBEq, Int.reduceGT, Int.reduceLE, Int.reduceGE, beq_self_eq_true]; exact Ad)) ?_
    have aE : InR 3 11 := by decide
    refine Te [1, 4, 5, 6, 7, 8, 9, 45, 55] Aa (Ev (by simp only [go_sem, Ae, Int.reduceLT, Int.reduceAdd, Int.reduceSub, Nat.reduceMul, Nat.reduceGT, Nat.reduceLeDiff, decide_true, decide_false, Bool.false_eq_true, Int.reduceBEq, Int.reduceGT, Int.reduceLE, Int.reduceGE, beq_self_eq_true, aE, aE.2]; exact Ad)) ?_
    refine Cd ?_ ?_
    ·refine Bd fun ai a8 =>Te [1, 4, 5, 6, 7, 8, 45] (Ag (l := []) (m := [(59, 49, [u8 (110 : UInt8), .tref 1 108], [.box [i64 a.Kind, i64 a.Ref.Railway, i64 a.Ref.No, i64 a.Wagon, i64 a.Place, i64 a.Other, i64 a.Number, i64 a.From, i64 a.To, i64 a.Code, i64 a.Dest, i64 a.Class, i64 a.Weight, i64 a.Amount, .str a.Text, .sl false (L Ac a.Parts)] false, .box [.nref 1, .bs false 4 (g.length) 0 (g.length)] false, .box [.ref 0 3, .ref 0 4, .ref 0 5, .ref 0 6, .ref 0 7, .ref 0 8, .ref 0 9, .ref 0 10, .ref 0 11, .ref 0 12, .ref 0 13] false, .obj (.stringIter ⟨([119, 112, 111, 110, 102, 116, 99, 100, 107, 103, 97] : List UInt8).toArray⟩ 4), .tb 5 g], _, _)]) trivial ⟨(wc (Ba a8) [1, 4]), trivial⟩) (Ev (by simp only [go_sem, Ae, Int.reduceLT, Int.reduceAdd, Int.reduceSub, Nat.reduceMul, Nat.reduceGT, Nat.reduceLeDiff, decide_true, decide_false, Bool.false_eq_true, Int.reduceBEq, Int.reduceGT, Int.reduceLE, Int.reduceGE, beq_self_eq_true]; exact Ad)) ?_
     have aF : InR 3 11 := by decide
     refine Bd fun bQ a9 =>Fe [1, 4, 5, 6, 7, 45] (Ag (l := []) (m := [(66, 47, [i64 a.Number, .tref 1 108], [.box [i64 a.Kind, i64 a.Ref.Railway, i64 a.Ref.No, i64 a.Wagon, i64 a.Place, i64 a.Other, i64 a.Number, i64 a.From, i64 a.To, i64 a.Code, i64 a.Dest, i64 a.Class, i64 a.Weight, i64 a.Amount, .str a.Text, .sl false (L Ac a.Parts)] false, .box [.nref 1, .bs false 4 (ai.buf.length) 0 (ai.buf.length)] false, .box [.ref 0 3, .ref 0 4, .ref 0 5, .ref 0 6, .ref 0 7, .ref 0 8, .ref 0 9, .ref 0 10, .ref 0 11, .ref 0 12, .ref 0 13] false, .obj (.stringIter ⟨([119, 112, 111, 110, 102, 116, 99, 100, 107, 103, 97] : List UInt8).toArray⟩ 4), .tb 5 ai.buf], _, _)]) trivial ⟨(wc (A6 a9) [1, 4]), trivial⟩) (Ev (by simp only [go_sem, Ae, Int.reduceLT, Int.reduceAdd, Int.reduceSub, Nat.reduceMul, Nat.reduceGT, Nat.reduceLeDiff, decide_true, decide_false, Bool.false_eq_true, Int.reduceBEq, Int.reduceGT, Int.reduceLE, Int.reduceGE, beq_self_eq_true, aF, aF.2]; exact Ad)) ?_
     exact Bn <|Jm (ws [0, 1, 2, 3, 4])
    ·exact Sk <|Bn <|Jm (ws [0, 1, 2, 3, 4])
   intro i
   refine Ug (m := 12) ?_
   refine Ua (fun j => ⟨Am 104 [(1, .ref 0 0), (4, .tref 1 108), (5, .fn 47 [.tref 1 108]), (6, .fn 49 [.tref 1 108]), (7, .ref 2 0), (45, .ref 3 0)], [.box [i64 a.Kind, i64 a.Ref.Railway, i64 a.Ref.No, i64 a.Wagon, i64 a.Place, i64 a.Other, i64 a.Number, i64 a.From, i64 a.To, i64 a.Code, i64 a.Dest, i64 a.Class, i64 a.Weight, i64 a.Amount, .str a.Text, .sl false (L Ac a.Parts)] false, .box [.nref 1, .bs false 4 (j.length) 0 (j.length)] false, .box [.ref 0 3, .ref 0 4, .ref 0 5, .ref 0 6, .ref 0 7, .ref 0 8, .ref 0 9, .ref 0 10, .ref 0 11, .ref 0 12, .ref 0 13] false, .obj (.stringIter ⟨([119, 112, 111, 110, 102, 116, 99, 100, 107, 103, 97] : List UInt8).toArray⟩ 5), .tb 5 j]⟩) ?_ ?_
   ·intro bR
    refine Te [1, 4, 5, 6, 7, 45, 46, 47] Aa (Ev (by simp only [go_sem, Ae, Int.reduceLT, Int.reduceAdd, Int.reduceSub, Nat.reduceMul, Nat.reduceGT, Nat.reduceLeDiff, decide_true, decide_false, Bool.false_eq_true, Int.reduceBEq, Int.reduceGT, Int.reduceLE, Int.reduceGE, beq_self_eq_true]; exact Ad)) ?_
    refine Sq <|Ct <|Sk <|Tn <|Sb <|Te [1, 4, 5, 6, 7, 8, 9, 45] Aa (Ev (by simp only [go_sem, Ae, Int.reduceLT, Int.reduceAdd, Int.reduceSub, Nat.reduceMul, Nat.reduceGT, Nat.reduceLeDiff, decide_true, decide_false, Bool.false_eq_true, Int.reduceBEq, Int.reduceGT, Int.reduceLE, Int.reduceGE, beq_self_eq_true]; exact Ad)) ?_
    have aG : InR 4 11 := by decide
    refine Te [1, 4, 5, 6, 7, 8, 9, 45, 55] Aa (Ev (by simp only [go_sem, Ae, Int.reduceLT, Int.reduceAdd, Int.reduceSub, Nat.reduceMul, Nat.reduceGT, Nat.reduceLeDiff, decide_true, decide_false, Bool.false_eq_true, Int.reduceBEq, Int.reduceGT, Int.reduceLE, Int.reduceGE, beq_self_eq_true, aG, aG.2]; exact Ad)) ?_
    refine Cd ?_ ?_
    ·refine Bd fun aj ba =>Te [1, 4, 5, 6, 7, 8, 45] (Ag (l := []) (m := [(59, 49, [u8 (102 : UInt8), .tref 1 108], [.box [i64 a.Kind, i64 a.Ref.Railway, i64 a.Ref.No, i64 a.Wagon, i64 a.Place, i64 a.Other, i64 a.Number, i64 a.From, i64 a.To, i64 a.Code, i64 a.Dest, i64 a.Class, i64 a.Weight, i64 a.Amount, .str a.Text, .sl false (L Ac a.Parts)] false, .box [.nref 1, .bs false 4 (i.length) 0 (i.length)] false, .box [.ref 0 3, .ref 0 4, .ref 0 5, .ref 0 6, .ref 0 7, .ref 0 8, .ref 0 9, .ref 0 10, .ref 0 11, .ref 0 12, .ref 0 13] false, .obj (.stringIter ⟨([119, 112, 111, 110, 102, 116, 99, 100, 107, 103, 97] : List UInt8).toArray⟩ 5), .tb 5 i], _, _)]) trivial ⟨(wc (Ba ba) [1, 4]), trivial⟩) (Ev (by simp only [go_sem, Ae, Int.reduceLT, Int.reduceAdd, Int.reduceSub, Nat.reduceMul, Nat.reduceGT, Nat.reduceLeDiff, decide_true, decide_false, Bool.false_eq_true, Int.reduceBEq, Int.reduceGT, Int.reduceLE, Int.reduceGE, beq_self_eq_true]; exact Ad)) ?_
     have aH : InR 4 11 := by decide
     refine Bd fun bS bb =>Fe [1, 4, 5, 6, 7, 45] (Ag (l := []) (m := [(66, 47, [i64 a.From, .tref 1 108], [.box [i64 a.Kind, i64 a.Ref.Railway, i64 a.Ref.No, i64 a.Wagon, i64 a.Place, i64 a.Other, i64 a.Number, i64 a.From, i64 a.To, i64 a.Code, i64 a.Dest, i64 a.Class, i64 a.Weight, i64 a.Amount, .str a.Text, .sl false (L Ac a.Parts)] false, .box [.nref 1, .bs false 4 (aj.buf.length) 0 (aj.buf.length)] false, .box [.ref 0 3, .ref 0 4, .ref 0 5, .ref 0 6, .ref 0 7, .ref 0 8, .ref 0 9, .ref 0 10, .ref 0 11, .ref 0 12, .ref 0 13] false, .obj (.stringIter ⟨([119, 112, 111, 110, 102, 116, 99, 100, 107, 103, 97] : List UInt8).toArray⟩ 5), .tb 5 aj.buf], _, _)]) trivial ⟨(wc (A6 bb) [1, 4]), trivial⟩) (Ev (by simp only [go_sem, Ae, Int.reduceLT, Int.reduceAdd, Int.reduceSub, Nat.reduceMul, Nat.reduceGT, Nat.reduceLeDiff, decide_true, decide_false, Bool.false_eq_true, Int.reduceBEq, Int.reduceGT, Int.reduceLE, Int.reduceGE, beq_self_eq_true, aH, aH.2]; exact Ad)) ?_
     exact Bn <|Jm (ws [0, 1, 2, 3, 4])
    ·exact Sk <|Bn <|Jm (ws [0, 1, 2, 3, 4])
   intro j
   refine Ug (m := 11) ?_
   refine Ua (fun k => ⟨Am 104 [(1, .ref 0 0), (4, .tref 1 108), (5, .fn 47 [.tref 1 108]), (6, .fn 49 [.tref 1 108]), (7, .ref 2 0), (45, .ref 3 0)], [.box [i64 a.Kind, i64 a.Ref.Railway, i64 a.Ref.No, i64 a.Wagon, i64 a.Place, i64 a.Other, i64 a.Number, i64 a.From, i64 a.To, i64 a.Code, i64 a.Dest, i64 a.Class, i64 a.Weight, i64 a.Amount, .str a.Text, .sl false (L Ac a.Parts)] false, .box [.nref 1, .bs false 4 (k.length) 0 (k.length)] false, .box [.ref 0 3, .ref 0 4, .ref 0 5, .ref 0 6, .ref 0 7, .ref 0 8, .ref 0 9, .ref 0 10, .ref 0 11, .ref 0 12, .ref 0 13] false, .obj (.stringIter ⟨([119, 112, 111, 110, 102, 116, 99, 100, 107, 103, 97] : List UInt8).toArray⟩ 6), .tb 5 k]⟩) ?_ ?_
   ·intro bT
    refine Te [1, 4, 5, 6, 7, 45, 46, 47] Aa (Ev (by simp only [go_sem, Ae, Int.reduceLT, Int.reduceAdd, Int.reduceSub, Nat.reduceMul, Nat.reduceGT, Nat.reduceLeDiff, decide_true, decide_false, Bool.false_eq_true, Int.reduceBEq, Int.reduceGT, Int.reduceLE, Int.reduceGE, beq_self_eq_true]; exact Ad)) ?_
    refine Sq <|Ct <|Sk <|Tn <|Sb <|Te [1, 4, 5, 6, 7, 8, 9, 45] Aa (Ev (by simp only [go_sem, Ae, Int.reduceLT, Int.reduceAdd, Int.reduceSub, Nat.reduceMul, Nat.reduceGT, Nat.reduceLeDiff, decide_true, decide_false, Bool.false_eq_true, Int.reduceBEq, Int.reduceGT, Int.reduceLE, Int.reduceGE, beq_self_eq_true]; exact Ad)) ?_
    have aI : InR 5 11 := by decide
    refine Te [1, 4, 5, 6, 7, 8, 9, 45, 55] Aa (Ev (by simp only [go_sem, Ae, Int.reduceLT, Int.reduceAdd, Int.reduceSub, Nat.reduceMul, Nat.reduceGT, Nat.reduceLeDiff, decide_true, decide_false, Bool.false_eq_true, Int.reduceBEq, Int.reduceGT, Int.reduceLE, Int.reduceGE, beq_self_eq_true, aI, aI.2]; exact Ad)) ?_
    refine Cd ?_ ?_
    ·refine Bd fun ak bc =>Te [1, 4, 5, 6, 7, 8, 45] (Ag (l := []) (m := [(59, 49, [u8 (116 : UInt8), .tref 1 108], [.box [i64 a.Kind, i64 a.Ref.Railway, i64 a.Ref.No, i64 a.Wagon, i64 a.Place, i64 a.Other, i64 a.Number, i64 a.From, i64 a.To, i64 a.Code, i64 a.Dest, i64 a.Class, i64 a.Weight, i64 a.Amount, .str a.Text, .sl false (L Ac a.Parts)] false, .box [.nref 1, .bs false 4 (j.length) 0 (j.length)] false, .box [.ref 0 3, .ref 0 4, .ref 0 5, .ref 0 6, .ref 0 7, .ref 0 8, .ref 0 9, .ref 0 10, .ref 0 11, .ref 0 12, .ref 0 13] false, .obj (.stringIter ⟨([119, 112, 111, 110, 102, 116, 99, 100, 107, 103, 97] : List UInt8).toArray⟩ 6), .tb 5 j], _, _)]) trivial ⟨(wc (Ba bc) [1, 4]), trivial⟩) (Ev (by simp only [go_sem, Ae, Int.reduceLT, Int.reduceAdd, Int.reduceSub, Nat.reduceMul, Nat.reduceGT, Nat.reduceLeDiff, decide_true, decide_false, Bool.false_eq_true, Int.reduceBEq, Int.reduceGT, Int.reduceLE, Int.reduceGE, beq_self_eq_true]; exact Ad)) ?_
     have aJ : InR 5 11 := by decide
     refine Bd fun bU bd =>Fe [1, 4, 5, 6, 7, 45] (Ag (l := []) (m := [(66, 47, [i64 a.To, .tref 1 108], [.box [i64 a.Kind, i64 a.Ref.Railway, i64 a.Ref.No, i64 a.Wagon, i64 a.Place, i64 a.Other, i64 a.Number, i64 a.From, i64 a.To, i64 a.Code, i64 a.Dest, i64 a.Class, i64 a.Weight, i64 a.Amount, .str a.Text, .sl false (L Ac a.Parts)] false, .box [.nref 1, .bs false 4 (ak.buf.length) 0 (ak.buf.length)] false, .box [.ref 0 3, .ref 0 4, .ref 0 5, .ref 0 6, .ref 0 7, .ref 0 8, .ref 0 9, .ref 0 10, .ref 0 11, .ref 0 12, .ref 0 13] false, .obj (.stringIter ⟨([119, 112, 111, 110, 102, 116, 99, 100, 107, 103, 97] : List UInt8).toArray⟩ 6), .tb 5 ak.buf], _, _)]) trivial ⟨(wc (A6 bd) [1, 4]), trivial⟩) (Ev (by simp only [go_sem, Ae, Int.reduceLT, Int.reduceAdd, Int.reduceSub, Nat.reduceMul, Nat.reduceGT, Nat.reduceLeDiff, decide_true, decide_false, Bool.false_eq_true, Int.reduceBEq, Int.reduceGT, Int.reduceLE, Int.reduceGE, beq_self_eq_true, aJ, aJ.2]; exact Ad)) ?_
     exact Bn <|Jm (ws [0, 1, 2, 3, 4])
    ·exact Sk <|Bn <|Jm (ws [0, 1, 2, 3, 4])
   intro k
   refine Ug (m := 10) ?_
   refine Ua (fun n => ⟨Am 104 [(1, .ref 0 0), (4, .tref 1 108), (5, .fn 47 [.tref 1 108]), (6, .fn 49 [.tref 1 108]), (7, .ref 2 0), (45, .ref 3 0)], [.box [i64 a.Kind, i64 a.Ref.Railway, i64 a.Ref.No, i64 a.Wagon, i64 a.Place, i64 a.Other, i64 a.Number, i64 a.From, i64 a.To, i64 a.Code, i64 a.Dest, i64 a.Class, i64 a.Weight, i64 a.Amount, .str a.Text, .sl false (L Ac a.Parts)] false, .box [.nref 1, .bs false 4 (n.length) 0 (n.length)] false, .box [.ref 0 3, .ref 0 4, .ref 0 5, .ref 0 6, .ref 0 7, .ref 0 8, .ref 0 9, .ref 0 10, .ref 0 11, .ref 0 12, .ref 0 13] false, .obj (.stringIter ⟨([119, 112, 111, 110, 102, 116, 99, 100, 107, 103, 97] : List UInt8).toArray⟩ 7), .tb 5 n]⟩) ?_ ?_
   ·intro bV
    refine Te [1, 4, 5, 6, 7, 45, 46, 47] Aa (Ev (by simp only [go_sem, Ae, Int.reduceLT, Int.reduceAdd, Int.reduceSub, Nat.reduceMul, Nat.reduceGT, Nat.reduceLeDiff, decide_true, decide_false, Bool.false_eq_true, Int.reduceBEq, Int.reduceGT, Int.reduceLE, Int.reduceGE, beq_self_eq_true]; exact Ad)) ?_
    refine Sq <|Ct <|Sk <|Tn <|Sb <|Te [1, 4, 5, 6, 7, 8, 9, 45] Aa (Ev (by simp only [go_sem, Ae, Int.reduceLT, Int.reduceAdd, Int.reduceSub, Nat.reduceMul, Nat.reduceGT, Nat.reduceLeDiff, decide_true, decide_false, Bool.false_eq_true, Int.reduceBEq, Int.reduceGT, Int.reduceLE, Int.reduceGE, beq_self_eq_true]; exact Ad)) ?_
    have aK : InR 6 11 := by decide
    refine Te [1, 4, 5, 6, 7, 8, 9, 45, 55] Aa (Ev (by simp only [go_sem, Ae, Int.reduceLT, Int.reduceAdd, Int.reduceSub, Nat.reduceMul, Nat.reduceGT, Nat.reduceLeDiff, decide_true, decide_false, Bool.false_eq_true, Int.reduceBEq, Int.reduceGT, Int.reduceLE, Int.reduceGE, beq_self_eq_true, aK, aK.2]; exact Ad)) ?_
    refine Cd ?_ ?_
    ·refine Bd fun al be =>Te [1, 4, 5, 6, 7, 8, 45] (Ag (l := []) (m := [(59, 49, [u8 (99 : UInt8), .tref 1 108], [.box [i64 a.Kind, i64 a.Ref.Railway, i64 a.Ref.No, i64 a.Wagon, i64 a.Place, i64 a.Other, i64 a.Number, i64 a.From, i64 a.To, i64 a.Code, i64 a.Dest, i64 a.Class, i64 a.Weight, i64 a.Amount, .str a.Text, .sl false (L Ac a.Parts)] false, .box [.nref 1, .bs false 4 (k.length) 0 (k.length)] false, .box [.ref 0 3, .ref 0 4, .ref 0 5, .ref 0 6, .ref 0 7, .ref 0 8, .ref 0 9, .ref 0 10, .ref 0 11, .ref 0 12, .ref 0 13] false, .obj (.stringIter ⟨([119, 112, 111, 110, 102, 116, 99, 100, 107, 103, 97] : List UInt8).toArray⟩ 7), .tb 5 k], _, _)]) trivial ⟨(wc (Ba be) [1, 4]), trivial⟩) (Ev (by simp only [go_sem, Ae, Int.reduceLT, Int.reduceAdd, Int.reduceSub, Nat.reduceMul, Nat.reduceGT, Nat.reduceLeDiff, decide_true, decide_false, Bool.false_eq_true, Int.reduceBEq, Int.reduceGT, Int.reduceLE, Int.reduceGE, beq_self_eq_true]; exact Ad)) ?_
     have aL : InR 6 11 := by decide
     refine Bd fun bW bf =>Fe [1, 4, 5, 6, 7, 45] (Ag (l := []) (m := [(66, 47, [i64 a.Code, .tref 1 108], [.box [i64 a.Kind, i64 a.Ref.Railway, i64 a.Ref.No, i64 a.Wagon, i64 a.Place, i64 a.Other, i64 a.Number, i64 a.From, i64 a.To, i64 a.Code, i64 a.Dest, i64 a.Class, i64 a.Weight, i64 a.Amount, .str a.Text, .sl false (L Ac a.Parts)] false, .box [.nref 1, .bs false 4 (al.buf.length) 0 (al.buf.length)] false, .box [.ref 0 3, .ref 0 4, .ref 0 5, .ref 0 6, .ref 0 7, .ref 0 8, .ref 0 9, .ref 0 10, .ref 0 11, .ref 0 12, .ref 0 13] false, .obj (.stringIter ⟨([119, 112, 111, 110, 102, 116, 99, 100, 107, 103, 97] : List UInt8).toArray⟩ 7), .tb 5 al.buf], _, _)]) trivial ⟨(wc (A6 bf) [1, 4]), trivial⟩) (Ev (by simp only [go_sem, Ae, Int.reduceLT, Int.reduceAdd, Int.reduceSub, Nat.reduceMul, Nat.reduceGT, Nat.reduceLeDiff, decide_true, decide_false, Bool.false_eq_true, Int.reduceBEq, Int.reduceGT, Int.reduceLE, Int.reduceGE, beq_self_eq_true, aL, aL.2]; exact Ad)) ?_
     exact Bn <|Jm (ws [0, 1, 2, 3, 4])
    ·exact Sk <|Bn <|Jm (ws [0, 1, 2, 3, 4])
   intro n
   refine Ug (m := 9) ?_
   refine Ua (fun o => ⟨Am 104 [(1, .ref 0 0), (4, .tref 1 108), (5, .fn 47 [.tref 1 108]), (6, .fn 49 [.tref 1 108]), (7, .ref 2 0), (45, .ref 3 0)], [.box [i64 a.Kind, i64 a.Ref.Railway, i64 a.Ref.No, i64 a.Wagon, i64 a.Place, i64 a.Other, i64 a.Number, i64 a.From, i64 a.To, i64 a.Code, i64 a.Dest, i64 a.Class, i64 a.Weight, i64 a.Amount, .str a.Text, .sl false (L Ac a.Parts)] false, .box [.nref 1, .bs false 4 (o.length) 0 (o.length)] false, .box [.ref 0 3, .ref 0 4, .ref 0 5, .ref 0 6, .ref 0 7, .ref 0 8, .ref 0 9, .ref 0 10, .ref 0 11, .ref 0 12, .ref 0 13] false, .obj (.stringIter ⟨([119, 112, 111, 110, 102, 116, 99, 100, 107, 103, 97] : List UInt8).toArray⟩ 8), .tb 5 o]⟩) ?_ ?_
   ·intro bX
    refine Te [1, 4, 5, 6, 7, 45, 46, 47] Aa (Ev (by simp only [go_sem, Ae, Int.reduceLT, Int.reduceAdd, Int.reduceSub, Nat.reduceMul, Nat.reduceGT, Nat.reduceLeDiff, decide_true, decide_false, Bool.false_eq_true, Int.reduceBEq, Int.reduceGT, Int.reduceLE, Int.reduceGE, beq_self_eq_true]; exact Ad)) ?_
    refine Sq <|Ct <|Sk <|Tn <|Sb <|Te [1, 4, 5, 6, 7, 8, 9, 45] Aa (Ev (by simp only [go_sem, Ae, Int.reduceLT, Int.reduceAdd, Int.reduceSub, Nat.reduceMul, Nat.reduceGT, Nat.reduceLeDiff, decide_true, decide_false, Bool.false_eq_true, Int.reduceBEq, Int.reduceGT, Int.reduceLE, Int.reduceGE, beq_self_eq_true]; exact Ad)) ?_
    have aM : InR 7 11 := by decide
    refine Te [1, 4, 5, 6, 7, 8, 9, 45, 55] Aa (Ev (by simp only [go_sem, Ae, Int.reduceLT, Int.reduceAdd, Int.reduceSub, Nat.reduceMul, Nat.reduceGT, Nat.reduceLeDiff, decide_true, decide_false, Bool.false_eq_true, Int.reduceBEq, Int.reduceGT, Int.reduceLE, Int.reduceGE, beq_self_eq_true, aM, aM.2]; exact Ad)) ?_
    refine Cd ?_ ?_
    ·refine Bd fun am bg =>Te [1, 4, 5, 6, 7, 8, 45] (Ag (l := []) (m := [(59, 49, [u8 (100 : UInt8), .tref 1 108], [.box [i64 a.Kind, i64 a.Ref.Railway, i64 a.Ref.No, i64 a.Wagon, i64 a.Place, i64 a.Other, i64 a.Number, i64 a.From, i64 a.To, i64 a.Code, i64 a.Dest, i64 a.Class, i64 a.Weight, i64 a.Amount, .str a.Text, .sl false (L Ac a.Parts)] false, .box [.nref 1, .bs false 4 (n.length) 0 (n.length)] false, .box [.ref 0 3, .ref 0 4, .ref 0 5, .ref 0 6, .ref 0 7, .ref 0 8, .ref 0 9, .ref 0 10, .ref 0 11, .ref 0 12, .ref 0 13] false, .obj (.stringIter ⟨([119, 112, 111, 110, 102, 116, 99, 100, 107, 103, 97] : List UInt8).toArray⟩ 8), .tb 5 n], _, _)]) trivial ⟨(wc (Ba bg) [1, 4]), trivial⟩) (Ev (by simp only [go_sem, Ae, Int.reduceLT, Int.reduceAdd, Int.reduceSub, Nat.reduceMul, Nat.reduceGT, Nat.reduceLeDiff, decide_true, decide_false, Bool.false_eq_true, Int.reduceBEq, Int.reduceGT, Int.reduceLE, Int.reduceGE, beq_self_eq_true]; exact Ad)) ?_
     have aN : InR 7 11 := by decide
     refine Bd fun bY bh =>Fe [1, 4, 5, 6, 7, 45] (Ag (l := []) (m := [(66, 47, [i64 a.Dest, .tref 1 108], [.box [i64 a.Kind, i64 a.Ref.Railway, i64 a.Ref.No, i64 a.Wagon, i64 a.Place, i64 a.Other, i64 a.Number, i64 a.From, i64 a.To, i64 a.Code, i64 a.Dest, i64 a.Class, i64 a.Weight, i64 a.Amount, .str a.Text, .sl false (L Ac a.Parts)] false, .box [.nref 1, .bs false 4 (am.buf.length) 0 (am.buf.length)] false, .box [.ref 0 3, .ref 0 4, .ref 0 5, .ref 0 6, .ref 0 7, .ref 0 8, .ref 0 9, .ref 0 10, .ref 0 11, .ref 0 12, .ref 0 13] false, .obj (.stringIter ⟨([119, 112, 111, 110, 102, 116, 99, 100, 107, 103, 97] : List UInt8).toArray⟩ 8), .tb 5 am.buf], _, _)]) trivial ⟨(wc (A6 bh) [1, 4]), trivial⟩) (Ev (by simp only [go_sem, Ae, Int.reduceLT, Int.reduceAdd, Int.reduceSub, Nat.reduceMul, Nat.reduceGT, Nat.reduceLeDiff, decide_true, decide_false, Bool.false_eq_true, Int.reduceBEq, Int.reduceGT, Int.reduceLE, Int.reduceGE, beq_self_eq_true, aN, aN.2]; exact Ad)) ?_
     exact Bn <|Jm (ws [0, 1, 2, 3, 4])
    ·exact Sk <|Bn <|Jm (ws [0, 1, 2, 3, 4])
   intro o
   refine Ug (m := 8) ?_
   refine Ua (fun p => ⟨Am 104 [(1, .ref 0 0), (4, .tref 1 108), (5, .fn 47 [.tref 1 108]), (6, .fn 49 [.tref 1 108]), (7, .ref 2 0), (45, .ref 3 0)], [.box [i64 a.Kind, i64 a.Ref.Railway, i64 a.Ref.No, i64 a.Wagon, i64 a.Place, i64 a.Other, i64 a.Number, i64 a.From, i64 a.To, i64 a.Code, i64 a.Dest, i64 a.Class, i64 a.Weight, i64 a.Amount, .str a.Text, .sl false (L Ac a.Parts)] false, .box [.nref 1, .bs false 4 (p.length) 0 (p.length)] false, .box [.ref 0 3, .ref 0 4, .ref 0 5, .ref 0 6, .ref 0 7, .ref 0 8, .ref 0 9, .ref 0 10, .ref 0 11, .ref 0 12, .ref 0 13] false, .obj (.stringIter ⟨([119, 112, 111, 110, 102, 116, 99, 100, 107, 103, 97] : List UInt8).toArray⟩ 9), .tb 5 p]⟩) ?_ ?_
   ·intro bZ
    refine Te [1, 4, 5, 6, 7, 45, 46, 47] Aa (Ev (by simp only [go_sem, Ae, Int.reduceLT, Int.reduceAdd, Int.reduceSub, Nat.reduceMul, Nat.reduceGT, Nat.reduceLeDiff, decide_true, decide_false, Bool.false_eq_true, Int.reduceBEq, Int.reduceGT, Int.reduceLE, Int.reduceGE, beq_self_eq_true]; exact Ad)) ?_
    refine Sq <|Ct <|Sk <|Tn <|Sb <|Te [1, 4, 5, 6, 7, 8, 9, 45] Aa (Ev (by simp only [go_sem, Ae, Int.reduceLT, Int.reduceAdd, Int.reduceSub, Nat.reduceMul, Nat.reduceGT, Nat.reduceLeDiff, decide_true, decide_false, Bool.false_eq_true, Int.reduceBEq, Int.reduceGT, Int.reduceLE, Int.reduceGE, beq_self_eq_true]; exact Ad)) ?_
    have aO : InR 8 11 := by decide
    refine Te [1, 4, 5, 6, 7, 8, 9, 45, 55] Aa (Ev (by simp only [go_sem, Ae, Int.reduceLT, Int.reduceAdd, Int.reduceSub, Nat.reduceMul, Nat.reduceGT, Nat.reduceLeDiff, decide_true, decide_false, Bool.false_eq_true, Int.reduceBEq, Int.reduceGT, Int.reduceLE, Int.reduceGE, beq_self_eq_true, aO, aO.2]; exact Ad)) ?_
    refine Cd ?_ ?_
    ·refine Bd fun an bi =>Te [1, 4, 5, 6, 7, 8, 45] (Ag (l := []) (m := [(59, 49, [u8 (107 : UInt8), .tref 1 108], [.box [i64 a.Kind, i64 a.Ref.Railway, i64 a.Ref.No, i64 a.Wagon, i64 a.Place, i64 a.Other, i64 a.Number, i64 a.From, i64 a.To, i64 a.Code, i64 a.Dest, i64 a.Class, i64 a.Weight, i64 a.Amount, .str a.Text, .sl false (L Ac a.Parts)] false, .box [.nref 1, .bs false 4 (o.length) 0 (o.length)] false, .box [.ref 0 3, .ref 0 4, .ref 0 5, .ref 0 6, .ref 0 7, .ref 0 8, .ref 0 9, .ref 0 10, .ref 0 11, .ref 0 12, .ref 0 13] false, .obj (.stringIter ⟨([119, 112, 111, 110, 102, 116, 99, 100, 107, 103, 97] : List UInt8).toArray⟩ 9), .tb 5 o], _, _)]) trivial ⟨(wc (Ba bi) [1, 4]), trivial⟩) (Ev (by simp only [go_sem, Ae, Int.reduceLT, Int.reduceAdd, Int.reduceSub, Nat.reduceMul, Nat.reduceGT, Nat.reduceLeDiff, decide_true, decide_false, Bool.false_eq_true, Int.reduceBEq, Int.reduceGT, Int.reduceLE, Int.reduceGE, beq_self_eq_true]; exact Ad)) ?_
     have aP : InR 8 11 := by decide
     refine Bd fun b0 bj =>Fe [1, 4, 5, 6, 7, 45] (Ag (l := []) (m := [(66, 47, [i64 a.Class, .tref 1 108], [.box [i64 a.Kind, i64 a.Ref.Railway, i64 a.Ref.No, i64 a.Wagon, i64 a.Place, i64 a.Other, i64 a.Number, i64 a.From, i64 a.To, i64 a.Code, i64 a.Dest, i64 a.Class, i64 a.Weight, i64 a.Amount, .str a.Text, .sl false (L Ac a.Parts)] false, .box [.nref 1, .bs false 4 (an.buf.length) 0 (an.buf.length)] false, .box [.ref 0 3, .ref 0 4, .ref 0 5, .ref 0 6, .ref 0 7, .ref 0 8, .ref 0 9, .ref 0 10, .ref 0 11, .ref 0 12, .ref 0 13] false, .obj (.stringIter ⟨([119, 112, 111, 110, 102, 116, 99, 100, 107, 103, 97] : List UInt8).toArray⟩ 9), .tb 5 an.buf], _, _)]) trivial ⟨(wc (A6 bj) [1, 4]), trivial⟩) (Ev (by simp only [go_sem, Ae, Int.reduceLT, Int.reduceAdd, Int.reduceSub, Nat.reduceMul, Nat.reduceGT, Nat.reduceLeDiff, decide_true, decide_false, Bool.false_eq_true, Int.reduceBEq, Int.reduceGT, Int.reduceLE, Int.reduceGE, beq_self_eq_true, aP, aP.2]; exact Ad)) ?_
     exact Bn <|Jm (ws [0, 1, 2, 3, 4])
    ·exact Sk <|Bn <|Jm (ws [0, 1, 2, 3, 4])
   intro p
   refine Ug (m := 7) ?_
   refine Ua (fun q => ⟨Am 104 [(1, .ref 0 0), (4, .tref 1 108), (5, .fn 47 [.tref 1 108]), (6, .fn 49 [.tref 1 108]), (7, .ref 2 0), (45, .ref 3 0)], [.box [i64 a.Kind, i64 a.Ref.Railway, i64 a.Ref.No, i64 a.Wagon, i64 a.Place, i64 a.Other, i64 a.Number, i64 a.From, i64 a.To, i64 a.Code, i64 a.Dest, i64 a.Class, i64 a.Weight, i64 a.Amount, .str a.Text, .sl false (L Ac a.Parts)] false, .box [.nref 1, .bs false 4 (q.length) 0 (q.length)] false, .box [.ref 0 3, .ref 0 4, .ref 0 5, .ref 0 6, .ref 0 7, .ref 0 8, .ref 0 9, .ref 0 10, .ref 0 11, .ref 0 12, .ref 0 13] false, .obj (.stringIter ⟨([119, 112, 111, 110, 102, 116, 99, 100, 107, 103, 97] : List UInt8).toArray⟩ 10), .tb 5 q]⟩) ?_ ?_
   ·intro b1
    refine Te [1, 4, 5, 6, 7, 45, 46, 47] Aa (Ev (by simp only [go_sem, Ae, Int.reduceLT, Int.reduceAdd, Int.reduceSub, Nat.reduceMul, Nat.reduceGT, Nat.reduceLeDiff, decide_true, decide_false, Bool.false_eq_true, Int.reduceBEq, Int.reduceGT, Int.reduceLE, Int.reduceGE, beq_self_eq_true]; exact Ad)) ?_
    refine Sq <|Ct <|Sk <|Tn <|Sb <|Te [1, 4, 5, 6, 7, 8, 9, 45] Aa (Ev (by simp only [go_sem, Ae, Int.reduceLT, Int.reduceAdd, Int.reduceSub, Nat.reduceMul, Nat.reduceGT, Nat.reduceLeDiff, decide_true, decide_false, Bool.false_eq_true, Int.reduceBEq, Int.reduceGT, Int.reduceLE, Int.reduceGE, beq_self_eq_true]; exact Ad)) ?_
    have aQ : InR 9 11 := by decide
    refine Te [1, 4, 5, 6, 7, 8, 9, 45, 55] Aa (Ev (by simp only [go_sem, Ae, Int.reduceLT, Int.reduceAdd, Int.reduceSub, Nat.reduceMul, Nat.reduceGT, Nat.reduceLeDiff, decide_true, decide_false, Bool.false_eq_true, Int.reduceBEq, Int.reduceGT, Int.reduceLE, Int.reduceGE, beq_self_eq_true, aQ, aQ.2]; exact Ad)) ?_
    refine Cd ?_ ?_
    ·refine Bd fun ao bk =>Te [1, 4, 5, 6, 7, 8, 45] (Ag (l := []) (m := [(59, 49, [u8 (103 : UInt8), .tref 1 108], [.box [i64 a.Kind, i64 a.Ref.Railway, i64 a.Ref.No, i64 a.Wagon, i64 a.Place, i64 a.Other, i64 a.Number, i64 a.From, i64 a.To, i64 a.Code, i64 a.Dest, i64 a.Class, i64 a.Weight, i64 a.Amount, .str a.Text, .sl false (L Ac a.Parts)] false, .box [.nref 1, .bs false 4 (p.length) 0 (p.length)] false, .box [.ref 0 3, .ref 0 4, .ref 0 5, .ref 0 6, .ref 0 7, .ref 0 8, .ref 0 9, .ref 0 10, .ref 0 11, .ref 0 12, .ref 0 13] false, .obj (.stringIter ⟨([119, 112, 111, 110, 102, 116, 99, 100, 107, 103, 97] : List UInt8).toArray⟩ 10), .tb 5 p], _, _)]) trivial ⟨(wc (Ba bk) [1, 4]), trivial⟩) (Ev (by simp only [go_sem, Ae, Int.reduceLT, Int.reduceAdd, Int.reduceSub, Nat.reduceMul, Nat.reduceGT, Nat.reduceLeDiff, decide_true, decide_false, Bool.false_eq_true, Int.reduceBEq, Int.reduceGT, Int.reduceLE, Int.reduceGE, beq_self_eq_true]; exact Ad)) ?_
     have aR : InR 9 11 := by decide
     refine Bd fun b2 bl =>Fe [1, 4, 5, 6, 7, 45] (Ag (l := []) (m := [(66, 47, [i64 a.Weight, .tref 1 108], [.box [i64 a.Kind, i64 a.Ref.Railway, i64 a.Ref.No, i64 a.Wagon, i64 a.Place, i64 a.Other, i64 a.Number, i64 a.From, i64 a.To, i64 a.Code, i64 a.Dest, i64 a.Class, i64 a.Weight, i64 a.Amount, .str a.Text, .sl false (L Ac a.Parts)] false, .box [.nref 1, .bs false 4 (ao.buf.length) 0 (ao.buf.length)] false, .box [.ref 0 3, .ref 0 4, .ref 0 5, .ref 0 6, .ref 0 7, .ref 0 8, .ref 0 9, .ref 0 10, .ref 0 11, .ref 0 12, .ref 0 13] false, .obj (.stringIter ⟨([119, 112, 111, 110, 102, 116, 99, 100, 107, 103, 97] : List UInt8).toArray⟩ 10), .tb 5 ao.buf], _, _)]) trivial ⟨(wc (A6 bl) [1, 4]), trivial⟩) (Ev (by simp only [go_sem, Ae, Int.reduceLT, Int.reduceAdd, Int.reduceSub, Nat.reduceMul, Nat.reduceGT, Nat.reduceLeDiff, decide_true, decide_false, Bool.false_eq_true, Int.reduceBEq, Int.reduceGT, Int.reduceLE, Int.reduceGE, beq_self_eq_true, aR, aR.2]; exact Ad)) ?_
     exact Bn <|Jm (ws [0, 1, 2, 3, 4])
    ·exact Sk <|Bn <|Jm (ws [0, 1, 2, 3, 4])
   intro q
   refine Ug (m := 6) ?_
   refine Ua (fun y => ⟨Am 104 [(1, .ref 0 0), (4, .tref 1 108), (5, .fn 47 [.tref 1 108]), (6, .fn 49 [.tref 1 108]), (7, .ref 2 0), (45, .ref 3 0)], [.box [i64 a.Kind, i64 a.Ref.Railway, i64 a.Ref.No, i64 a.Wagon, i64 a.Place, i64 a.Other, i64 a.Number, i64 a.From, i64 a.To, i64 a.Code, i64 a.Dest, i64 a.Class, i64 a.Weight, i64 a.Amount, .str a.Text, .sl false (L Ac a.Parts)] false, .box [.nref 1, .bs false 4 (y.length) 0 (y.length)] false, .box [.ref 0 3, .ref 0 4, .ref 0 5, .ref 0 6, .ref 0 7, .ref 0 8, .ref 0 9, .ref 0 10, .ref 0 11, .ref 0 12, .ref 0 13] false, .obj (.stringIter ⟨([119, 112, 111, 110, 102, 116, 99, 100, 107, 103, 97] : List UInt8).toArray⟩ 11), .tb 5 y]⟩) ?_ ?_
   ·intro b3
    refine Te [1, 4, 5, 6, 7, 45, 46, 47] Aa (Ev (by simp only [go_sem, Ae, Int.reduceLT, Int.reduceAdd, Int.reduceSub, Nat.reduceMul, Nat.reduceGT, Nat.reduceLeDiff, decide_true, decide_false, Bool.false_eq_true, Int.reduceBEq, Int.reduceGT, Int.reduceLE, Int.reduceGE, beq_self_eq_true]; exact Ad)) ?_
    refine Sq <|Ct <|Sk <|Tn <|Sb <|Te [1, 4, 5, 6, 7, 8, 9, 45] Aa (Ev (by simp only [go_sem, Ae, Int.reduceLT, Int.reduceAdd, Int.reduceSub, Nat.reduceMul, Nat.reduceGT, Nat.reduceLeDiff, decide_true, decide_false, Bool.false_eq_true, Int.reduceBEq, Int.reduceGT, Int.reduceLE, Int.reduceGE, beq_self_eq_true]; exact Ad)) ?_
    have aS : InR 10 11 := by decide
    refine Te [1, 4, 5, 6, 7, 8, 9, 45, 55] Aa (Ev (by simp only [go_sem, Ae, Int.reduceLT, Int.reduceAdd, Int.reduceSub, Nat.reduceMul, Nat.reduceGT, Nat.reduceLeDiff, decide_true, decide_false, Bool.false_eq_true, Int.reduceBEq, Int.reduceGT, Int.reduceLE, Int.reduceGE, beq_self_eq_true, aS, aS.2]; exact Ad)) ?_
    refine Cd ?_ ?_
    ·refine Bd fun ap bm =>Te [1, 4, 5, 6, 7, 8, 45] (Ag (l := []) (m := [(59, 49, [u8 (97 : UInt8), .tref 1 108], [.box [i64 a.Kind, i64 a.Ref.Railway, i64 a.Ref.No, i64 a.Wagon, i64 a.Place, i64 a.Other, i64 a.Number, i64 a.From, i64 a.To, i64 a.Code, i64 a.Dest, i64 a.Class, i64 a.Weight, i64 a.Amount, .str a.Text, .sl false (L Ac a.Parts)] false, .box [.nref 1, .bs false 4 (q.length) 0 (q.length)] false, .box [.ref 0 3, .ref 0 4, .ref 0 5, .ref 0 6, .ref 0 7, .ref 0 8, .ref 0 9, .ref 0 10, .ref 0 11, .ref 0 12, .ref 0 13] false, .obj (.stringIter ⟨([119, 112, 111, 110, 102, 116, 99, 100, 107, 103, 97] : List UInt8).toArray⟩ 11), .tb 5 q], _, _)]) trivial ⟨(wc (Ba bm) [1, 4]), trivial⟩) (Ev (by simp only [go_sem, Ae, Int.reduceLT, Int.reduceAdd, Int.reduceSub, Nat.reduceMul, Nat.reduceGT, Nat.reduceLeDiff, decide_true, decide_false, Bool.false_eq_true, Int.reduceBEq, Int.reduceGT, Int.reduceLE, Int.reduceGE, beq_self_eq_true]; exact Ad)) ?_
     have aT : InR 10 11 := by decide
     refine Bd fun b4 bn =>Fe [1, 4, 5, 6, 7, 45] (Ag (l := []) (m := [(66, 47, [i64 a.Amount, .tref 1 108], [.box [i64 a.Kind, i64 a.Ref.Railway, i64 a.Ref.No, i64 a.Wagon, i64 a.Place, i64 a.Other, i64 a.Number, i64 a.From, i64 a.To, i64 a.Code, i64 a.Dest, i64 a.Class, i64 a.Weight, i64 a.Amount, .str a.Text, .sl false (L Ac a.Parts)] false, .box [.nref 1, .bs false 4 (ap.buf.length) 0 (ap.buf.length)] false, .box [.ref 0 3, .ref 0 4, .ref 0 5, .ref 0 6, .ref 0 7, .ref 0 8, .ref 0 9, .ref 0 10, .ref 0 11, .ref 0 12, .ref 0 13] false, .obj (.stringIter ⟨([119, 112, 111, 110, 102, 116, 99, 100, 107, 103, 97] : List UInt8).toArray⟩ 11), .tb 5 ap.buf], _, _)]) trivial ⟨(wc (A6 bn) [1, 4]), trivial⟩) (Ev (by simp only [go_sem, Ae, Int.reduceLT, Int.reduceAdd, Int.reduceSub, Nat.reduceMul, Nat.reduceGT, Nat.reduceLeDiff, decide_true, decide_false, Bool.false_eq_true, Int.reduceBEq, Int.reduceGT, Int.reduceLE, Int.reduceGE, beq_self_eq_true, aT, aT.2]; exact Ad)) ?_
     exact Bn <|Jm (ws [0, 1, 2, 3, 4])
    ·exact Sk <|Bn <|Jm (ws [0, 1, 2, 3, 4])
   intro y
   refine Ug (m := 5) ?_
   refine Te [1, 4, 5, 6, 7, 45, 46, 47] Aa (Ev (by simp only [go_sem, Ae, Int.reduceLT, Int.reduceAdd, Int.reduceSub, Nat.reduceMul, Nat.reduceGT, Nat.reduceLeDiff, decide_true, decide_false, Bool.false_eq_true, Int.reduceBEq, Int.reduceGT, Int.reduceLE, Int.reduceGE, beq_self_eq_true]; exact Ad)) ?_
   exact Sq <|Cf <|Sx <|Tx <|Ux <|Bx <|Jm (ws [0, 1, 4])
  intro d
  refine Ja (fun z => ⟨Am 104 [(1, .ref 0 0), (4, .tref 1 108), (5, .fn 47 [.tref 1 108]), (6, .fn 49 [.tref 1 108])], [.box [i64 a.Kind, i64 a.Ref.Railway, i64 a.Ref.No, i64 a.Wagon, i64 a.Place, i64 a.Other, i64 a.Number, i64 a.From, i64 a.To, i64 a.Code, i64 a.Dest, i64 a.Class, i64 a.Weight, i64 a.Amount, .str a.Text, .sl false (L Ac a.Parts)] false, .box [.nref 1, .bs false 2 (z.length) 0 (z.length)] false, .tb 5 z]⟩) ?_ ?_
  ·intro b5
   refine T0 [1, 4, 5, 6, 69] ?_
   refine Cd ?_ ?_
   ·refine Bd fun aq bo =>Te [1, 4, 5, 6] (Ag (l := []) (m := [(71, 49, [u8 (120 : UInt8), .tref 1 108], [.box [i64 a.Kind, i64 a.Ref.Railway, i64 a.Ref.No, i64 a.Wagon, i64 a.Place, i64 a.Other, i64 a.Number, i64 a.From, i64 a.To, i64 a.Code, i64 a.Dest, i64 a.Class, i64 a.Weight, i64 a.Amount, .str a.Text, .sl false (L Ac a.Parts)] false, .box [.nref 1, .bs false 2 (d.length) 0 (d.length)] false, .tb 5 d], _, _)]) trivial ⟨(wc (Ba bo) [1, 2]), trivial⟩) Ev ?_
    refine Bd fun b6 bp =>Fe [1, 4, 5, 6] (Ag (l := []) (m := [(74, 52, [.tref 1 108, .str a.Text], [.box [i64 a.Kind, i64 a.Ref.Railway, i64 a.Ref.No, i64 a.Wagon, i64 a.Place, i64 a.Other, i64 a.Number, i64 a.From, i64 a.To, i64 a.Code, i64 a.Dest, i64 a.Class, i64 a.Weight, i64 a.Amount, .str a.Text, .sl false (L Ac a.Parts)] false, .box [.nref 1, .bs false 2 (aq.buf.length) 0 (aq.buf.length)] false, .tb 5 aq.buf], _, _)]) trivial ⟨(wc (Sl bp) [1, 2]), trivial⟩) Ev ?_
    exact Jm (ws [0, 1, 2])
   ·exact Sk <|Jm (ws [0, 1, 2])
  intro z
  refine Ja (fun s => ⟨Am 104 [(4, .tref 0 108)], [.box [.nref 0, .bs false 1 (s.length) 0 (s.length)] false, .tb 5 s]⟩) ?_ ?_
  ·intro b7
   refine T0 [4, 5, 6, 76, 77, 78] ?_
   refine Sb ?_
   refine Lo (fun (v : Int × List UInt8) => (⟨Am 104 [(4, .tref 0 108), (5, .fn 47 [.tref 0 108]), (6, .fn 49 [.tref 0 108]), (76, .sl false (L Ac a.Parts)), (77, i64 (a.Parts.length : Int)), (78, i64 v.1)], [.box [.nref 0, .bs false 1 (v.2.length) 0 (v.2.length)] false, .tb 5 v.2]⟩ : St)) (ws [1, 2]) ?_
   rintro ⟨bq, t⟩ b8 br bt bu
   show J1 a bq t = some br → _
   unfold J1
   refine T0 [4, 5, 6, 76, 77, 78, 79] ?_
   refine Sq <|Cd ?_ ?_
   ·refine Sk <|Tn <|Sq <|Sb <|Ck fun bv =>Lt fun u bw =>Lt fun w bx =>Lt fun x bz =>Te (σ' := [_, _, .box [i64 u, i64 w, .bool x] false]) [4, 5, 6, 11, 76, 77, 78] Aa (Ev (by simp only [go_sem, qR bv, bw, bx, bz]; exact Ad)) ?_
    refine Bd fun ar bA =>Te [4, 5, 6, 11, 76, 77, 78] (Ag (l := []) (m := [(83, 49, [u8 (113 : UInt8), .tref 0 108], [.box [.nref 0, .bs false 1 (t.length) 0 (t.length)] false, .tb 5 t, .box [i64 u, i64 w, .bool x] false], _, _)]) trivial ⟨(wc (Ba bA) [0, 1]), trivial⟩) Ev ?_
    refine Bd fun au bB =>Te [4, 5, 6, 11, 76, 77, 78] (Ag (l := []) (m := [(87, 47, [i64 u, .tref 0 108], [.box [.nref 0, .bs false 1 (ar.buf.length) 0 (ar.buf.length)] false, .tb 5 ar.buf, .box [i64 u, i64 w, .bool x] false], _, _)]) trivial ⟨(wc (A6 bB) [0, 1]), trivial⟩) Ev ?_
    refine Bd fun av bC =>Te [4, 5, 6, 11, 76, 77, 78] (Ag (l := []) (m := [(88, 50, [.tref 0 108, u8 (46 : UInt8)], [.box [.nref 0, .bs false 1 (au.buf.length) 0 (au.buf.length)] false, .tb 5 au.buf, .box [i64 u, i64 w, .bool x] false], _, _)]) trivial ⟨(wc (Ar bC) [0, 1]), trivial⟩) Ev ?_
    refine Bd fun aw bD =>Te [4, 5, 6, 11, 76, 77, 78] (Ag (l := []) (m := [(92, 47, [i64 w, .tref 0 108], [.box [.nref 0, .bs false 1 (av.2.buf.length) 0 (av.2.buf.length)] false, .tb 5 av.2.buf, .box [i64 u, i64 w, .bool x] false], _, _)]) trivial ⟨(wc (A6 bD) [0, 1]), trivial⟩) Ev ?_
    refine Bd fun b9 bE =>Fe [4, 5, 6, 76, 77, 78] (Ag (l := []) (m := [(98, 46, [.tref 0 108, .str (if x = true then ([46, 49] : List UInt8) else ([46, 48] : List UInt8))], [.box [.nref 0, .bs false 1 (aw.buf.length) 0 (aw.buf.length)] false, .tb 5 aw.buf, .box [i64 u, i64 w, .bool x] false, .obj (.map ((#[].push { key := avV (.bool false), val := avV (.str ([46, 48] : List UInt8)), born := 0 }).push { key := avV (.bool true), val := avV (.str ([46, 49] : List UInt8)), born := 1 }) 2)], _, _)]) trivial ⟨(wc (Cb bE) [0, 1]), trivial⟩) Ev ?_
    refine Bn <|Tn <|F0 [4, 5, 6, 76, 77, 78] ?_
    exact Ln (ws [0, 1])
   ·refine Sx <|Tx <|Ly bu bt <|Bx <|?_
    exact Jm ((ws (l' := [(4, .tref 0 108)]) (σ' := [.box [.nref 0, .bs false 1 (t.length) 0 (t.length)] false, .tb 5 t]) [0, 1]).trans (ws [0, 1]))
  intro s
  refine Bd fun c bF =>Te [4] (Ag (l := []) (m := [(100, 50, [.tref 0 108, u8 (39 : UInt8)], [.box [.nref 0, .bs false 1 (s.length) 0 (s.length)] false, .tb 5 s], _, _)]) trivial ⟨(wc (Ar bF) [0, 1]), trivial⟩) Ev ?_
  refine Sq <|Te [4, 102] (Ag (l := []) (m := [(101, 53, [.tref 0 108], [.box [.nref 0, .bs false 1 (c.2.buf.length) 0 (c.2.buf.length)] false, .tb 5 c.2.buf], i64 (c.2.buf.length : Int), [.box [.nref 0, .bs false 1 (c.2.buf.length) 0 (c.2.buf.length)] false, .tb 5 c.2.buf])]) trivial ⟨(Ag4 rfl rfl), trivial⟩) Ev ?_
  refine Cd ?_ ?_
  ·refine T0 [2, 3] ?_
   exact Sr <|Tr <|Rr
  ·refine Sk <|Tn <|Ck fun aU =>Ck fun aV =>Te [2, 3] (Ag (l := []) (m := [(103, 54, [.tref 0 108], [.box [.nref 0, .bs false 1 (c.2.buf.length) 0 (c.2.buf.length)] false, .tb 5 c.2.buf], .str c.2.buf, [.box [.nref 0, .junk] false, Acq c.2.buf.length])]) trivial ⟨(R3 rfl rfl aU aV rfl), trivial⟩) (Ev (by simp only [go_sem, aU, aV]; exact Ad)) ?_
   exact Sr <|Rr
open Go.RowKit in
theorem Oe {s sep : List UInt8} {r : Int} (h : Jk s sep = some r) : Con B 145 [.str s, .str sep] [] (fun r' σ' => r' = i64 r ∧ σ' = []) := by
  unfold Jk AhD at h
  split at h
  case h_2 => cases h
  rename_i c
  split at h
  case isFalse => cases h
  rename_i hl
  simp only [Option.some.injEq] at h
  subst h
  refine ⟨fun F w g vs hm ha => .inl ⟨⟨Tryz.f145, _, Tryz.func145, rfl, by decide +kernel⟩, ?_⟩⟩
  obtain ⟨vs⟩ := vs
  match vs, ha with
  | [u1, u2], ⟨h1, h2, _⟩ =>
    cases h1 with
    | str _ b _ hb =>
      cases h2 with
      | str _ b2 _ hb2 =>
        have e2 : b2 = ⟨#[c]⟩ := by
          obtain ⟨⟨l⟩⟩ := b2
          simp only at hb2
          subst hb2; rfl
        subst e2
        refine (Any.strings_Count_one Tryz.lays138 b c w).mono ?_
        rintro e w' ⟨rfl, rfl⟩
        rw [hb]
        have hg : g = [] := List.length_eq_zero_iff.1 hm.len
        subst hg
        exact ⟨_, _, [], [], rfl, ⟨rfl, rfl⟩, hm, Evo.refl _ _ _ _, .int _ _ _⟩
theorem Hn {l : List UInt8} {c : UInt8} {r : Int} (h : E8 l c = some r) : Con B 166 [.str l, u8 c] [] (fun r' σ' => r' = i64 r ∧ σ' = []) :=
 P9 Tryz.func166 (by decide +kernel) rfl (by kernel_rfl) (by kernel_rfl) h
theorem Ei {a b r} (h : Dd a b = some r) : Con B 147 [.str a, u8 b] [] (fun r' σ' => r' = i64 r ∧ σ' = []) := by
 refine Cw 8 [.tmp 4] Tryz.func147 (fun F hE => ?_) h
 unfold Dd
 refine T0 [0, 1] ?_
 refine Bd fun d c =>Te [4] (o1 7 (Hn c)) Ev ?_
 exact Sr <|Rr
theorem Ks {a b r} (h : F6 a b = some r) : Con B 107 [.str a, u8 b] [] (fun r' σ' => r' = i64 r ∧ σ' = []) := by
 refine Cw 8 [.tmp 4] Tryz.func107 (fun F hE => ?_) h
 unfold F6
 refine T0 [0, 1] ?_
 refine Bd fun d c =>Te [4] (o1 7 (Ei c)) Ev ?_
 exact Sr <|Rr
theorem Kk {b a r} (h : Ga b a = some r) : Con B 165 [.str b, .str a] [] (fun r' σ' => r' = i64 r ∧ σ' = []) := by
 refine Cw 143 [.tmp 4] Tryz.func165 (fun F hE => ?_) h
 unfold Ga
 refine T0 [0, 1] ?_
 refine T0 [0, 1, 5] ?_
 refine Sq <|Sb <|?_
 refine Tw [0, 1, 5, 16] (fun d => ⟨Am 143 [(0, .str b), (1, .str a), (5, i64 (a.length : Int)), (16, .bool d)], []⟩) ?_ ?_
 ·intro _
  refine Sp (fun c => ?_) fun c => ?_
  ·exact Lf Aa (Ev (by simp only [go_sem, c]; exact Ad)) (ws [])
  ·exact Lf Aa (Ev (by simp only [go_sem, c]; exact Ad)) (ws [])
 intro d
 refine Cd ?_ ?_
 ·refine T0 [4] ?_
  exact Sr <|Br <|Tr <|Rr
 ·refine T0 [0, 1, 5, 24] ?_
  refine Cd ?_ ?_
  ·refine Ck fun e =>Bd fun g f =>Te [4] (o1 30 (Ei f)) (Ev (by simp only [go_sem, qL e]; exact Ad)) ?_
   exact Sr <|Br <|Tr <|Rr
  ·refine T0 [0, 1, 5, 31] ?_
   refine Cd ?_ ?_
   ·refine T0 [4] ?_
    exact Sr <|Br <|Tr <|Rr
   ·exact Rn
theorem Of {a b r} (h : Jj a b = some r) : Con B 146 [.str a, .str b] [] (fun r' σ' => r' = i64 r ∧ σ' = []) := by
 refine Cw 8 [.tmp 4] Tryz.func146 (fun F hE => ?_) h
 unfold Jj
 refine T0 [0, 1] ?_
 refine Bd fun d c =>Te [4] (o1 7 (Kk c)) Ev ?_
 exact Sr <|Rr
theorem Lz {g b c m r} (h : G0 g b c m = some r) : Con B 106 [.str g, .str b, i64 c, i64 m] [] (fun r' σ' => r' = .sl false (L Tj r) ∧ σ' = []) := by
 refine Cw 66 [.tmp 8] Tryz.func106 (fun F hE => ?_) h
 unfold G0
 refine T0 [0, 1, 2, 3] ?_
 refine Sq <|T0 [0, 1, 2, 3, 13] ?_
 refine Cd ?_ ?_
 ·refine T0 [8] ?_
  exact Sr <|Tr <|Rr
 ·refine Sk <|Tn <|Sq <|T0 [0, 1, 2, 3, 15] ?_
  refine Cd ?_ ?_
  ·exact Rn
  ·refine Sk <|Tn <|?_
   refine Ja (fun n => ⟨Am 66 [(0, .str g), (1, .str b), (2, i64 c), (3, i64 n)], []⟩) ?_ ?_
   ·intro ai
    refine T0 [0, 1, 2, 3, 20] ?_
    refine Cd ?_ ?_
    ·refine Bd fun aj t =>Fe [0, 1, 2, 3] (o1 23 (Oe t)) Ev ?_
     exact Jm (ws [])
    ·exact Sk <|Jm (ws [])
   intro n
   refine Lt fun i u =>Te (fr' := [(0, _), (1, _), (2, _), (3, i64 i)]) [0, 1, 2, 3] Aa (Ev (by simp only [go_sem, u]; exact Ad)) ?_
   refine Ck fun v =>Lt fun j w =>Te (fr' := [(0, _), (1, _), (2, _), (3, _), (9, .bs true 0 (j.length) 0 (j.length))]) (σ' := [.buf 1 (L Tj j) false]) [0, 1, 2, 3, 9] Aa (Ev (by simp only [go_sem, v, w]; exact Ad)) ?_
   refine T0 [0, 1, 2, 3, 9] ?_
   refine T0 [0, 1, 2, 3, 9, 10] ?_
   refine Ja (fun ⟨o, p, f⟩ => ⟨Am 66 [(0, .str o), (9, .bs true 0 (f.length) 0 (f.length)), (10, i64 p)], [.buf 1 (L Tj f) false]⟩) ?_ ?_
   ·intro ak
    refine Sb ?_
    refine Lo (fun ⟨d, e, a⟩ => ⟨Am 66 [(0, .str d), (1, .str b), (2, i64 c), (3, i64 (w64 (i - 1))), (9, .bs true 0 (a.length) 0 (a.length)), (10, i64 e)], [.buf 1 (L Tj a) false]⟩) (ws [0]) ?_
    rintro ⟨d, e, a⟩ al x q s
    show Et b c i d e a = some x → _
    unfold Et
    refine Sq <|T0 [0, 1, 2, 3, 9, 10, 36] ?_
    refine Cd ?_ ?_
    ·refine Sk <|Tn <|Sb <|Bd fun am y =>Te [0, 1, 2, 3, 9, 10, 11] (o1 39 (Of y)) Ev ?_
     refine Sq <|T0 [0, 1, 2, 3, 9, 10, 11, 41] ?_
     refine Cd ?_ ?_
     ·refine Sx <|Tx <|Bo <|Ly s q <|Bx <|?_
      exact Jm ((ws (l' := [(0, .str d), (9, .bs true 0 (a.length) 0 (a.length)), (10, i64 e)]) (σ' := [.buf 1 (L Tj a) false]) [0]).trans (ws [0]))
     ·refine Sk <|Tn <|Ck fun z =>Ck fun aa =>Lt fun k ab =>Te (fr' := [(0, _), (1, _), (2, _), (3, _), (9, .bs true 0 (k.length) 0 (k.length)), (10, _), (11, _)]) (σ' := [.buf 1 (L Tj k) false]) [0, 1, 2, 3, 9, 10, 11] Aa (Ev (by simp only [go_sem, z, qR aa, ab]; exact Ad)) ?_
      refine Ck fun ac =>Lt fun ad ae =>Te (fr' := [(0, .str ad), (1, _), (2, _), (3, _), (9, _), (10, _)]) [0, 1, 2, 3, 9, 10] Aa (Ev (by simp only [go_sem, ac, ae]; exact Ad)) ?_
      refine F0 [0, 1, 2, 3, 9, 10] ?_
      exact Bn <|Ln (ws [0])
    ·refine Sx <|Tx <|Ly s q <|Bx <|?_
     exact Jm ((ws (l' := [(0, .str d), (9, .bs true 0 (a.length) 0 (a.length)), (10, i64 e)]) (σ' := [.buf 1 (L Tj a) false]) [0]).trans (ws [0]))
   rintro ⟨o, p, f⟩
   refine Ck fun af =>Lt fun l ag =>Te (fr' := [(9, .bs true 0 (l.length) 0 (l.length)), (10, _)]) (σ' := [.buf 1 (L Tj l) false]) [9, 10] Aa (Ev (by simp only [go_sem, qR af, ag]; exact Ad)) ?_
   refine Ck fun ah =>Te [8] Aa (Ev (by simp only [go_sem, ah]; exact Ad)) ?_
   exact Sr <|Rr
theorem Ov {a b r} (h : Jz a b = some r) : Con B 66 [.str a, .str b] [] (fun r' σ' => r' = .sl false (L Tj r) ∧ σ' = []) := by
 refine Cw 8 [.tmp 4] Tryz.func66 (fun F hE => ?_) h
 unfold Jz
 refine T0 [0, 1] ?_
 refine Bd fun d c =>Te [4] (o1 7 (Lz c)) Ev ?_
 exact Sr <|Rr
theorem Ij {b c r} (h : D7 b c = some r) : Con B 143 [.str b, .str c] [] (fun r' σ' => r' = .bool r ∧ σ' = []) := by
 refine Cw 21 [.tmp 4] Tryz.func143 (fun F hE => ?_) h
 unfold D7
 refine T0 [0, 1] ?_
 refine Tw [4] (fun d => ⟨Am 21 [(4, .bool d)], []⟩) ?_ ?_
 ·intro _
  refine Sp (fun a => ?_) fun a => ?_
  ·refine Ck fun e => ?_
   exact Lf Aa (Ev (by simp only [go_sem, a, e]; exact Ad)) (ws [])
  ·exact Lf Aa (Ev (by simp only [go_sem, a]; exact Ad)) (ws [])
 intro d
 exact Sr <|Rr
theorem Iu {a b r} (h : D5 a b = some r) : Con B 105 [.str a, .str b] [] (fun r' σ' => r' = .tup [.str r.1, .bool r.2] ∧ σ' = []) := by
 refine Cw 18 [.tmp 4, .tmp 5] Tryz.func105 (fun F hE => ?_) h
 unfold D5
 refine T0 [0, 1] ?_
 refine Sq <|Bd fun g c =>Te [0, 1, 9] (o1 8 (Ij c)) Ev ?_
 refine Cd ?_ ?_
 ·refine T0 [4, 5] ?_
  exact Sr <|Tr <|Rr
 ·refine Sk <|Tn <|Ck fun d =>Lt fun e f =>Te (fr' := [(4, .str e), (5, _)]) [4, 5] Aa (Ev (by simp only [go_sem, d, f]; exact Ad)) ?_
  exact Sr <|Rr
theorem Kt {a b r} (h : F8 a b = some r) : Con B 65 [.str a, .str b] [] (fun r' σ' => r' = .tup [.str r.1, .bool r.2] ∧ σ' = []) := by
 refine Cw 11 [.tmp 4, .tmp 5] Tryz.func65 (fun F hE => ?_) h
 unfold F8
 refine T0 [0, 1] ?_
 refine Bd fun d c =>Te [4, 5] (o1 8 (Iu c)) Ev ?_
 exact Sr <|Rr
theorem L8 {a b r} (h : Hr a b = some r) : Con B 67 [.sl false (L Tj a), .str b] [] (fun r' σ' => r' = i64 r ∧ σ' = []) := by
 refine Cw 19 [.tmp 4] Tryz.func67 (fun F hE => ?_) h
 unfold Hr
 refine T0 [0, 1] ?_
 refine Jo (fun _ => ⟨Am 19 [], []⟩) ?_ ?_
 ·intro j f
  refine T0 [0, 1, 7, 8] ?_
  refine Sb ?_
  refine Lo (fun c => ⟨Am 19 [(0, .sl false (L Tj a)), (1, .str b), (7, i64 (a.length : Int)), (8, i64 c)], []⟩) (ws []) ?_
  rintro c k g d e
  show E6 a b c = some g → _
  unfold E6
  refine T0 [0, 1, 7, 8, 9] ?_
  refine Sq <|Cd ?_ ?_
  ·refine Sk <|Tn <|Sq <|Sb <|T0 [0, 1, 5, 7, 8] ?_
   refine Ck fun i =>Te [0, 1, 5, 7, 8, 16] Aa (Ev (by simp only [go_sem, qR i]; exact Ad)) ?_
   refine Cd ?_ ?_
   ·refine T0 [4] ?_
    exact Sr <|Br <|Tr <|Lr e d <|Br <|Jr f <|Rr
   ·refine Sk <|Bn <|Tn <|F0 [0, 1, 7, 8] ?_
    exact Ln (ws [])
  ·refine Sx <|Tx <|Lx e d <|Bx <|?_
   exact Jn ((ws (l' := []) (σ' := []) []).trans (ws []))
 intro _
 refine T0 [4] ?_
 exact Sr <|Rr
open Go.RowKit in
theorem A9 {s : List UInt8} {n : Int} {r : List Int × Bool} (h : Bv s n = some r) : Con B 108 [.str s, i64 n] [] (fun r' σ' => r' = .tup [.sl false (L Nc r.1), .bool r.2] ∧ σ' = []) := by
  unfold Bv Xc at h
  split at h
  case isFalse => cases h
  rename_i hl
  simp only [Option.some.injEq] at h
  refine ⟨fun F w g vs hm ha => .inl ⟨⟨Tryz.f108, _, Tryz.func108, rfl, by decide +kernel⟩, ?_⟩⟩
  have hg : g = [] := List.length_eq_zero_iff.1 hm.len
  subst hg
  have he : Ali w := ⟨Ll hm (i := 7) rfl, Ll hm (i := 8) rfl⟩
  have h9 : 9 ≤ w.heap.size := (hm.glob 8 [.iface 248 .junk] rfl).1
  obtain ⟨vs⟩ := vs
  match vs, ha with
  | [u1, u2], ⟨h1, h2, _⟩ =>
    have e2 := Cl h2
    subst e2
    cases h1 with
    | str _ b _ hb =>
      have hsz : b.size = s.length := by rw [← hb]; rfl
      have htx : txt b = s := hb
      refine W4 _ b n (by omega) w he h9 ?_ ?_
      · intro l v W' hat hb2 hrow
        rw [htx] at hat
        rw [hat] at h
        subst h
        refine ⟨_, _, [], [], rfl, ⟨rfl, rfl⟩, I4 hm hb2, Hx hb2, Vq ?_ (.bool _ _)⟩
        have hll : (L Nc l).length = l.length := by simp [L]
        have hel : ∀ (i : Nat) (cs : List AV), (L Nc l)[i]? = some cs → ∃ y, l[i]? = some y ∧ cs = [i64 y] := by
          intro i cs hi
          simp only [L, List.getElem?_map, Option.map_eq_some_iff] at hi
          obtain ⟨y, h3, rfl⟩ := hi
          exact ⟨y, h3, rfl⟩
        rcases hrow.2 with ⟨rfl, h0⟩ | ⟨g, cap, cur, rfl, h3, h4, h5, h6, h7, h8⟩
        · have : l = [] := List.length_eq_zero_iff.1 h0
          subst this
          exact .sl _ none 0 0 false [] 1 (fun _ _ => undef) rfl (Nat.le_refl _) (fun _ => rfl) (fun _ => rfl) (fun i cs hi => by simp at hi) (fun i cs j x hi => by simp at hi) (fun i cs j x hi => by simp at hi)
        · refine .sl _ (some ⟨g, 0, none⟩) l.length cap false (L Nc l) 1 (fun i _ => .int .i64 (l.getD i 0)) hll h5 (fun e => by cases e) (fun e => by cases e) ?_ ?_ ?_
          · intro i cs hi
            obtain ⟨y, _, rfl⟩ := hel i cs hi
            rfl
          · intro i cs j x hi hj
            obtain ⟨y, h9, rfl⟩ := hel i cs hi
            have hj0 : j = 0 := by
              have := (List.getElem?_eq_some_iff.1 hj).1
              simp at this; exact this
            subst hj0
            have hy : l.getD i 0 = y := by simp [List.getD_eq_getElem?_getD, h9]
            refine ⟨_, rfl, ?_, ⟨fun hF => ?_, fun id b hb => by simp at hb⟩, rfl⟩
            · rw [hy]
              exact World.ownsRow.cells hrow rfl _ _ (by simp [h9])
            · have := (hm.foreign _ hF).1
              rw [Bp] at this
              simp only at this
              omega
          · intro i cs j x hi hj
            obtain ⟨y, h9, rfl⟩ := hel i cs hi
            have hj0 : j = 0 := by
              have := (List.getElem?_eq_some_iff.1 hj).1
              simp at this; exact this
            subst hj0
            have hy : l.getD i 0 = y := by simp [List.getD_eq_getElem?_getD, h9]
            cases hj
            rw [hy]
            exact .int _ _ _
      · intro W' hat hb2
        rw [htx] at hat
        rw [hat] at h
        subst h
        refine ⟨_, _, [], [], rfl, ⟨rfl, rfl⟩, I4 hm hb2, Hx hb2, Vq ?_ (.bool _ _)⟩
        exact .sl _ none 0 0 false [] 1 (fun _ _ => undef) rfl (Nat.le_refl _) (fun _ => rfl) (fun _ => rfl) (fun i cs hi => by simp at hi) (fun i cs j x hi => by simp at hi) (fun i cs j x hi => by simp at hi)
theorem Eg {a r} (h : Fu a = some r) : Con B 186 [u8 a] [] (fun r' σ' => r' = u8 r ∧ σ' = []) := by
 refine Cw 5 [.tmp 2] Tryz.func186 (fun F hE => ?_) h
 unfold Fu
 refine T0 [0] ?_
 refine T0 [2] ?_
 exact Sr <|Rr
end Go.Proofs.YtnfoiocigicdnaaGreatDoor
