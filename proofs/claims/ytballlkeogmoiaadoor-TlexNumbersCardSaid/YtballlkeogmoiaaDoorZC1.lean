/-
  The library and the walks, part 1.
-/
import Derived.Test.YtballlkeogmoiaaDoorProg
import Derived.Test.YtballlkeogmoiaaDoorR38
import Derived.KernelRfl
import Derived.Shelf.Strings.Builder1
import Derived.Shelf.Strings.Builder2
import Derived.Lib.Join
import Derived.BigCall
import Derived.BigGuard
/-
  Types, and rules for the operations at them.
-/
namespace Go.Proofs.YtballlkeogmoiaaDoor
open Go.Rv
set_option linter.unusedVariables false
set_option linter.unusedSimpArgs false
set_option maxRecDepth 20000
variable {rs : Nat → Nat}

def tab0 : List (List UInt8 × Bool) := [([97, 110, 100], true), ([98, 101, 103, 105, 110], true), ([99, 108, 97, 115, 115], true), ([99, 108, 97, 117, 115, 101], true), ([99, 108, 101, 97, 110, 105, 110, 103], true), ([99, 111, 100, 101], true), ([99, 111, 115, 116], true), ([100, 101, 109, 117, 114, 114, 97, 103, 101], true), ([100, 111, 119, 110], true), ([102, 111, 114], true), ([102, 114, 101, 105, 103, 104, 116], true), ([104, 97, 108, 102], true), ([104, 105, 114, 101], true), ([105, 102], true), ([105, 110], true), ([105, 115], true), ([107, 103], true), ([107, 109], true), ([108, 111, 115, 115], true), ([109, 97, 120], true), ([109, 105, 110], true), ([109, 105, 110, 117, 116, 101], true), ([109, 105, 110, 117, 116, 101, 115], true), ([109, 111, 110, 101, 121], true), ([109, 111, 110, 116, 104], true), ([111, 119, 110, 101, 114], true), ([112, 97, 114, 116], true), ([112, 97, 114, 116, 115], true), ([112, 97, 121], true), ([112, 101, 114], true), ([114, 97, 105, 108, 119, 97, 121], true), ([114, 101, 112, 97, 105, 114], true), ([115, 104, 105, 112, 112, 101, 114], true), ([116, 97, 114, 105, 102, 102], true), ([116, 121, 112, 101], true), ([117, 112], true), ([119, 101, 105, 103, 104, 116], true), ([119, 104, 101, 110], true), ([119, 111, 114, 107, 105, 110, 103], true), ([119, 111, 114, 116, 104], true)]
def tab1 : List (UInt8 × List UInt8) := [(40, [40]), (41, [41]), (42, [42]), (43, [43]), (44, [44]), (45, [45]), (46, [46, 46]), (59, [59]), (60, [60]), (123, [123]), (125, [125])]
noncomputable def B (rs : Nat → Nat) : Base := baseOwn Tryd.prog (fun i => if i = 0 then some [.val (.map (some (rs 0)))] else if i = 1 then some [.val (.map (some (rs 1)))] else none) (fun f => [].contains f) (fun t => if t = 47 then some ⟨rs 0, 9, 4, .string, .bool false, ansT (fun k => .str k) (fun x => .bool x) tab0⟩ else if t = 52 then some ⟨rs 1, 5, 9, .int .u8, .str ([] : List UInt8), ansT (fun k => u8 k) (fun x => .str x) tab1⟩ else none) (fun i => if i = 3 then some ((Lib.pow10Tab).map fun z => Value.int .u64 z).toArray else none)
theorem ok : (B rs).Ok := baseOwn_ok _ _ _ _ _
theorem own9 (F : Addr → Prop) : ((B rs).env F).own 9 = false := rfl
attribute [go_sem] own9
theorem own10 (F : Addr → Prop) : ((B rs).env F).own 10 = false := rfl
attribute [go_sem] own10
theorem own11 (F : Addr → Prop) : ((B rs).env F).own 11 = false := rfl
attribute [go_sem] own11
theorem own12 (F : Addr → Prop) : ((B rs).env F).own 12 = false := rfl
attribute [go_sem] own12
theorem own13 (F : Addr → Prop) : ((B rs).env F).own 13 = false := rfl
attribute [go_sem] own13
theorem own14 (F : Addr → Prop) : ((B rs).env F).own 14 = false := rfl
attribute [go_sem] own14
theorem own15 (F : Addr → Prop) : ((B rs).env F).own 15 = false := rfl
attribute [go_sem] own15
theorem own16 (F : Addr → Prop) : ((B rs).env F).own 16 = false := rfl
attribute [go_sem] own16
theorem own17 (F : Addr → Prop) : ((B rs).env F).own 17 = false := rfl
attribute [go_sem] own17
theorem own18 (F : Addr → Prop) : ((B rs).env F).own 18 = false := rfl
attribute [go_sem] own18
theorem own19 (F : Addr → Prop) : ((B rs).env F).own 19 = false := rfl
attribute [go_sem] own19
theorem own20 (F : Addr → Prop) : ((B rs).env F).own 20 = false := rfl
attribute [go_sem] own20
theorem own21 (F : Addr → Prop) : ((B rs).env F).own 21 = false := rfl
attribute [go_sem] own21
theorem own22 (F : Addr → Prop) : ((B rs).env F).own 22 = false := rfl
attribute [go_sem] own22
theorem own23 (F : Addr → Prop) : ((B rs).env F).own 23 = false := rfl
attribute [go_sem] own23
theorem own24 (F : Addr → Prop) : ((B rs).env F).own 24 = false := rfl
attribute [go_sem] own24
theorem own25 (F : Addr → Prop) : ((B rs).env F).own 25 = false := rfl
attribute [go_sem] own25
theorem own26 (F : Addr → Prop) : ((B rs).env F).own 26 = false := rfl
attribute [go_sem] own26
theorem own28 (F : Addr → Prop) : ((B rs).env F).own 28 = false := rfl
attribute [go_sem] own28
theorem own29 (F : Addr → Prop) : ((B rs).env F).own 29 = false := rfl
attribute [go_sem] own29
theorem own30 (F : Addr → Prop) : ((B rs).env F).own 30 = false := rfl
attribute [go_sem] own30
theorem own31 (F : Addr → Prop) : ((B rs).env F).own 31 = false := rfl
attribute [go_sem] own31
theorem own32 (F : Addr → Prop) : ((B rs).env F).own 32 = false := rfl
attribute [go_sem] own32
theorem own33 (F : Addr → Prop) : ((B rs).env F).own 33 = false := rfl
attribute [go_sem] own33
theorem own34 (F : Addr → Prop) : ((B rs).env F).own 34 = false := rfl
attribute [go_sem] own34
theorem own35 (F : Addr → Prop) : ((B rs).env F).own 35 = false := rfl
attribute [go_sem] own35
theorem own36 (F : Addr → Prop) : ((B rs).env F).own 36 = false := rfl
attribute [go_sem] own36
theorem own37 (F : Addr → Prop) : ((B rs).env F).own 37 = false := rfl
attribute [go_sem] own37
theorem own42 (F : Addr → Prop) : ((B rs).env F).own 42 = false := rfl
attribute [go_sem] own42
theorem own43 (F : Addr → Prop) : ((B rs).env F).own 43 = false := rfl
attribute [go_sem] own43
theorem mixed : Tryd.prog.follows .mixedOrders = true := by kernel_rfl

structure Api_Token where
  Kind : Int
  Text : List UInt8
  N : Int
  At : Int
  deriving DecidableEq, Inhabited
def cApi_Token (x : Api_Token) : List AV := [i64 x.Kind, .str x.Text, i64 x.N, i64 x.At]
attribute [go_sem] cApi_Token
theorem tt3 : tabOf Tryd.prog 3 = some ⟨.int .i64, 1, 8, [i64 0]⟩ := by kernel_rfl
theorem tb3 (F : Addr → Prop) : ((B rs).env F).tab 3 = some ⟨.int .i64, 1, 8, [i64 0]⟩ := tt3
attribute [go_sem] tb3
theorem tt4 : tabOf Tryd.prog 4 = some ⟨.bool, 1, 1, [.bool false]⟩ := by kernel_rfl
theorem tb4 (F : Addr → Prop) : ((B rs).env F).tab 4 = some ⟨.bool, 1, 1, [.bool false]⟩ := tt4
attribute [go_sem] tb4
theorem tt5 : tabOf Tryd.prog 5 = some ⟨.int .u8, 1, 1, [u8 ((0 : UInt8))]⟩ := by kernel_rfl
theorem tb5 (F : Addr → Prop) : ((B rs).env F).tab 5 = some ⟨.int .u8, 1, 1, [u8 ((0 : UInt8))]⟩ := tt5
attribute [go_sem] tb5
theorem tt9 : tabOf Tryd.prog 9 = some ⟨.string, 1, 16, [.str (([] : List UInt8))]⟩ := by kernel_rfl
theorem tb9 (F : Addr → Prop) : ((B rs).env F).tab 9 = some ⟨.string, 1, 16, [.str (([] : List UInt8))]⟩ := tt9
attribute [go_sem] tb9
theorem tt23 : tabOf Tryd.prog 23 = some ⟨.slice 32, 1, 24, [.sl true (L cApi_Token ([]))]⟩ := by kernel_rfl
theorem tb23 (F : Addr → Prop) : ((B rs).env F).tab 23 = some ⟨.slice 32, 1, 24, [.sl true (L cApi_Token ([]))]⟩ := tt23
attribute [go_sem] tb23
theorem tt24 : tabOf Tryd.prog 24 = some ⟨.int .i64, 1, 8, [i64 0]⟩ := by kernel_rfl
theorem tb24 (F : Addr → Prop) : ((B rs).env F).tab 24 = some ⟨.int .i64, 1, 8, [i64 0]⟩ := tt24
attribute [go_sem] tb24
theorem tt32 : tabOf Tryd.prog 32 = some ⟨.struct #[⟨"Kind", 3, 0, false, "", "", 0⟩, ⟨"Text", 9, 1, false, "", "", 8⟩, ⟨"N", 3, 2, false, "", "", 24⟩, ⟨"At", 3, 3, false, "", "", 32⟩], 4, 40, [i64 0, .str (([] : List UInt8)), i64 0, i64 0]⟩ := by kernel_rfl
theorem tb32 (F : Addr → Prop) : ((B rs).env F).tab 32 = some ⟨.struct #[⟨"Kind", 3, 0, false, "", "", 0⟩, ⟨"Text", 9, 1, false, "", "", 8⟩, ⟨"N", 3, 2, false, "", "", 24⟩, ⟨"At", 3, 3, false, "", "", 32⟩], 4, 40, [i64 0, .str (([] : List UInt8)), i64 0, i64 0]⟩ := tt32
attribute [go_sem] tb32
theorem tt36 : tabOf Tryd.prog 36 = some ⟨.slice 9, 1, 24, [.sl true (L cStr ([]))]⟩ := by kernel_rfl
theorem tb36 (F : Addr → Prop) : ((B rs).env F).tab 36 = some ⟨.slice 9, 1, 24, [.sl true (L cStr ([]))]⟩ := tt36
attribute [go_sem] tb36
theorem tt47 : tabOf Tryd.prog 47 = some ⟨.map 9 4, 1, 8, [.val (.map none)]⟩ := by kernel_rfl
theorem tb47 (F : Addr → Prop) : ((B rs).env F).tab 47 = some ⟨.map 9 4, 1, 8, [.val (.map none)]⟩ := tt47
attribute [go_sem] tb47
theorem tt52 : tabOf Tryd.prog 52 = some ⟨.map 5 9, 1, 8, [.val (.map none)]⟩ := by kernel_rfl
theorem tb52 (F : Addr → Prop) : ((B rs).env F).tab 52 = some ⟨.map 5 9, 1, 8, [.val (.map none)]⟩ := tt52
attribute [go_sem] tb52
theorem ku8x9 : AV.int .u8 9 = u8 9 := rfl
attribute [go_sem] ku8x9
theorem ku8x10 : AV.int .u8 10 = u8 10 := rfl
attribute [go_sem] ku8x10
theorem ku8x13 : AV.int .u8 13 = u8 13 := rfl
attribute [go_sem] ku8x13
theorem ku8x32 : AV.int .u8 32 = u8 32 := rfl
attribute [go_sem] ku8x32
theorem ku8x35 : AV.int .u8 35 = u8 35 := rfl
attribute [go_sem] ku8x35
theorem ku8x40 : AV.int .u8 40 = u8 40 := rfl
attribute [go_sem] ku8x40
theorem ku8x41 : AV.int .u8 41 = u8 41 := rfl
attribute [go_sem] ku8x41
theorem ku8x42 : AV.int .u8 42 = u8 42 := rfl
attribute [go_sem] ku8x42
theorem ku8x43 : AV.int .u8 43 = u8 43 := rfl
attribute [go_sem] ku8x43
theorem ku8x44 : AV.int .u8 44 = u8 44 := rfl
attribute [go_sem] ku8x44
theorem ku8x45 : AV.int .u8 45 = u8 45 := rfl
attribute [go_sem] ku8x45
theorem ku8x46 : AV.int .u8 46 = u8 46 := rfl
attribute [go_sem] ku8x46
theorem ku8x48 : AV.int .u8 48 = u8 48 := rfl
attribute [go_sem] ku8x48
theorem ku8x57 : AV.int .u8 57 = u8 57 := rfl
attribute [go_sem] ku8x57
theorem ku8x59 : AV.int .u8 59 = u8 59 := rfl
attribute [go_sem] ku8x59
theorem ku8x60 : AV.int .u8 60 = u8 60 := rfl
attribute [go_sem] ku8x60
theorem ku8x97 : AV.int .u8 97 = u8 97 := rfl
attribute [go_sem] ku8x97
theorem ku8x122 : AV.int .u8 122 = u8 122 := rfl
attribute [go_sem] ku8x122
theorem ku8x123 : AV.int .u8 123 = u8 123 := rfl
attribute [go_sem] ku8x123
theorem ku8x125 : AV.int .u8 125 = u8 125 := rfl
attribute [go_sem] ku8x125
theorem ixstr9 {F} (l : List UInt8) (x : AV) : indexA ((B rs).env F) 9 (.str l) x = match idx x l.length with
    | some i => some (u8 (nth l i))
    | none => none := indexA_str (tb9 F) l x
attribute [go_sem] ixstr9
theorem ldm1 {F} {σ : Store} : loadA ((B rs).env F) σ ⟨.map 5 9, 1, 8, [.val (.map none)]⟩ (.glob 1) = some (.val (.map (some (rs 1)))) := load_globmap rfl rfl rfl
attribute [go_sem] ldm1
theorem glb1 {F} : ((B rs).env F).G 1 = some [.val (.map (some (rs 1)))] := rfl
attribute [go_sem] glb1
theorem lkm1 {F} (k : UInt8) : lookupA ((B rs).env F) 52 (.val (.map (some (rs 1)))) (u8 k) false = some (.str (tabGet ([] : List UInt8) tab1 k)) := look_tab (cK := fun k => u8 k) (cV := fun x => .str x) (z := ([] : List UInt8)) (l := tab1) rfl (fun k => rfl) eqA_u8 k
attribute [go_sem] lkm1
theorem app23x23 {F} {σ : Store} (s x : AV) : builtinA ((B rs).env F) σ .append [23, 23] [s, x] = match view σ x with
      | some new => if strBad x 4 = true then none else if ∀ cs ∈ new, cs.length = 4 then (match s with
          | .sl full els =>
            if els = [] ∧ full = true then
              if Fits new.length 40 then some (.bs false σ.length new.length 0 new.length, σ ++ [.buf 4 new false]) else none
            else if new = [] then some (.sl full els, σ)
            else if full = true ∧ (∀ cs ∈ els, cs.length = 4) ∧ Fits (els.length + new.length) 40
            then some (.bs false σ.length (els.length + new.length) 0 (els.length + new.length), σ ++ [.buf 4 (els ++ new) false]) else none
          | .bs full id tot off len => match σ[id]? with
            | some (.buf k els ro) =>
              if els.length = tot ∧ k = 4 ∧ Fits (len + new.length) 40 then
                if off = 0 ∧ len = tot then some (.bs false id (tot + new.length) 0 (tot + new.length), σ.set id (.buf k (els ++ new) ro))
                else if new = [] then some (.bs full id tot off len, σ)
                else if full then some (.bs false σ.length (len + new.length) 0 (len + new.length), σ ++ [.buf k ((els.drop off).take len ++ new) false])
                else none
              else none
            | _ => none
          | _ => none)
        else none
      | none => none := append_eq (tb23 F) (tb32 F) (by decide) (tb23 F) (.inl ⟨_, rfl⟩) s x []
attribute [go_sem] app23x23
theorem ldm0 {F} {σ : Store} : loadA ((B rs).env F) σ ⟨.map 9 4, 1, 8, [.val (.map none)]⟩ (.glob 0) = some (.val (.map (some (rs 0)))) := load_globmap rfl rfl rfl
attribute [go_sem] ldm0
theorem glb0 {F} : ((B rs).env F).G 0 = some [.val (.map (some (rs 0)))] := rfl
attribute [go_sem] glb0
theorem lkm0 {F} (k : List UInt8) : lookupA ((B rs).env F) 47 (.val (.map (some (rs 0)))) (.str k) false = some (.bool (tabGet false tab0 k)) := look_tab (cK := fun k => .str k) (cV := fun x => .bool x) (z := false) (l := tab0) rfl (fun k => rfl) eqA_str k
attribute [go_sem] lkm0
theorem ixsl23 {F} {σ : Store} (f : Bool) (l : List Api_Token) (x : AV) : indexAddrA ((B rs).env F) σ 23 (.sl f (L cApi_Token l)) x = match idx x l.length with
    | some i => some (.rp (cApi_Token (nth l i)))
    | none => none := ixA_sl cApi_Token (tb23 F) (tb32 F) (fun _ => rfl) f l x
attribute [go_sem] ixsl23
theorem seq32neq {F} (a0 : Int) (a1 : List UInt8) (a2 : Int) (a3 : Int) (b0 : Int) (b1 : List UInt8) (b2 : Int) (b3 : Int) : binOpA ((B rs).env F) .neq 32 (.agg [i64 a0, .str a1, i64 a2, i64 a3]) (.agg [i64 b0, .str b1, i64 b2, i64 b3]) = some (.bool (!((a0 == b0) && ((a1 == b1) && ((a2 == b2) && (a3 == b3)))))) :=
  bin_struct_neq (tb32 F) (by kernel_rfl) (by kernel_rfl) (eqF_cons (by decide) (tb3 F) rfl rfl (eqC_i64 a0 b0) (eqF_cons (by decide) (tb9 F) rfl rfl (eqC_str a1 b1) (eqF_cons (by decide) (tb3 F) rfl rfl (eqC_i64 a2 b2) (eqF_last (by decide) (tb3 F) rfl rfl (eqC_i64 a3 b3)))))
attribute [go_sem] seq32neq
theorem ixsl36 {F} {σ : Store} (f : Bool) (l : List (List UInt8)) (x : AV) : indexAddrA ((B rs).env F) σ 36 (.sl f (L cStr l)) x = match idx x l.length with
    | some i => some (.rp (cStr (nth l i)))
    | none => none := ixA_sl cStr (tb36 F) (tb9 F) (fun _ => rfl) f l x
attribute [go_sem] ixsl36
theorem mks36 {F} {σ : Store} (l c : Int) : makeSliceA ((B rs).env F) σ 36 (i64 l) (i64 c) = if Mk l c 16 then some (.bs (l == c) σ.length l.toNat 0 l.toNat, σ ++ [.buf 1 (List.replicate l.toNat [.str (([] : List UInt8))]) false]) else none := make_eq (tb36 F) (tb9 F) (by decide) l c
attribute [go_sem] mks36
theorem ixbs36 {F} {σ : Store} (f : Bool) (id tot off len : Nat) (x : AV) : indexAddrA ((B rs).env F) σ 36 (.bs f id tot off len) x = match σ[id]?, idx x len with
    | some (.buf k els _), some i => if els.length = tot ∧ k = 1 then some (.eref id tot (off + i) 0) else none
    | _, _ => none := ixA_bs (tb36 F) (tb9 F) (by decide) f id tot off len x
attribute [go_sem] ixbs36
theorem seq32eql {F} (a0 : Int) (a1 : List UInt8) (a2 : Int) (a3 : Int) (b0 : Int) (b1 : List UInt8) (b2 : Int) (b3 : Int) : binOpA ((B rs).env F) .eql 32 (.agg [i64 a0, .str a1, i64 a2, i64 a3]) (.agg [i64 b0, .str b1, i64 b2, i64 b3]) = some (.bool (((a0 == b0) && ((a1 == b1) && ((a2 == b2) && (a3 == b3)))))) :=
  bin_struct_eql (tb32 F) (by kernel_rfl) (by kernel_rfl) (eqF_cons (by decide) (tb3 F) rfl rfl (eqC_i64 a0 b0) (eqF_cons (by decide) (tb9 F) rfl rfl (eqC_str a1 b1) (eqF_cons (by decide) (tb3 F) rfl rfl (eqC_i64 a2 b2) (eqF_last (by decide) (tb3 F) rfl rfl (eqC_i64 a3 b3)))))
attribute [go_sem] seq32eql
end Go.Proofs.YtballlkeogmoiaaDoor
/-
  What the functions compute, as plain programs.
-/
namespace Go.Proofs.YtballlkeogmoiaaDoor
open Go.Rv
set_option linter.unusedVariables false
set_option linter.unusedSimpArgs false
set_option maxRecDepth 20000

def tlex_letter (c_1 : UInt8) : Option (Bool) :=
  (if (decide ((97 : UInt8) ≤ c_1)) = true then
    some ((decide (c_1 ≤ (122 : UInt8))))
  else
    some false : Option (Bool)).bind fun t_2 =>
  some t_2

def tlex_digit (c_5 : UInt8) : Option (Bool) :=
  (if (decide ((48 : UInt8) ≤ c_5)) = true then
    some ((decide (c_5 ≤ (57 : UInt8))))
  else
    some false : Option (Bool)).bind fun t_6 =>
  some t_6

def tlex_span_b1 (s_9 : List UInt8) (f_10 : UInt8 → Option (Bool)) (t_40 : Int) : Option ((Int) ⊕ ((Unit) ⊕ ((Unit) ⊕ (Int)))) :=
  if (decide (t_40 < (s_9.length : Int))) = true then
    if InR t_40 s_9.length then
      (f_10 ((nth s_9 t_40.toNat))).bind fun y_51 =>
      if (!y_51) = true then
        ((some t_40).bind fun z_54 => some (.inr z_54)).bind fun z_55 => some (.inr (.inr z_55))
      else
        some (.inl ((w64 (t_40 + 1))))
    else none
  else
    some (.inr (.inl (())))
def tlex_span (s_9 : List UInt8) (f_10 : UInt8 → Option (Bool)) : Option (Int) :=
  ((loopO (fun (v : Int) => tlex_span_b1 s_9 f_10 v) 0).bind fun x => match x with
  | .inl () =>
    some (.inl (()))
  | .inr z => some z : Option ((Unit) ⊕ (Int))).bind fun x => match x with
  | .inl () =>
    some ((s_9.length : Int))
  | .inr z => some z

def tlex_token_1 (c_56 : UInt8) : Option (Bool) :=
  ((tlex_letter c_56).bind fun y_57 =>
  if y_57 = true then
    some true
  else
    (tlex_digit c_56).bind fun y_58 =>
    some y_58 : Option (Bool)).bind fun t_59 =>
  some t_59

def tlex_number_b1 (s_64 : List UInt8) (n_101 : Int) (t_102 : Int) : Option ((Int × Int) ⊕ ((Int) ⊕ ((Int) ⊕ (Int × Int)))) :=
  if (decide (t_102 < (s_64.length : Int))) = true then
    if InR t_102 s_64.length then
      lt1 ((w64 ((w64 (10 * n_101)) + ((((nth s_64 t_102.toNat) - (48 : UInt8))).toNat : Int)))) fun (n_115 : Int) =>
      if (decide (n_115 > 1099511627776)) = true then
        ((some ((0, 2))).bind fun z_117 => some (.inr z_117)).bind fun z_118 => some (.inr (.inr z_118))
      else
        some (.inl ((n_115, (w64 (t_102 + 1)))))
    else none
  else
    some (.inr (.inl n_101))
def tlex_number (s_64 : List UInt8) : Option (Int × Int) :=
  (if (decide ((s_64.length : Int) > 1)) = true then
    if InR 0 s_64.length then
      some (((nth s_64 0) == (48 : UInt8)))
    else none
  else
    some false : Option (Bool)).bind fun t_65 =>
  if t_65 = true then
    some ((0, 150))
  else
    ((loopO (fun (v : Int × Int) => tlex_number_b1 s_64 v.1 v.2) ((0, 0))).bind fun x => match x with
    | .inl n_108 =>
      some (.inl n_108)
    | .inr z => some z : Option ((Int) ⊕ (Int × Int))).bind fun x => match x with
    | .inl n_92 =>
      some ((n_92, 0))
    | .inr z => some z

def bytealg_IndexByteString (l : List UInt8) (c : UInt8) : Option (Int) := indexBO l c

def stringslite_IndexByte (s_119 : List UInt8) (c_120 : UInt8) : Option (Int) :=
  (bytealg_IndexByteString s_119 c_120).bind fun y_121 =>
  some y_121

def strings_IndexByte (s_123 : List UInt8) (c_124 : UInt8) : Option (Int) :=
  (stringslite_IndexByte s_123 c_124).bind fun y_125 =>
  some y_125

def stringslite_HasPrefix (s_127 : List UInt8) (prefix_128 : List UInt8) : Option (Bool) :=
  (if (decide ((s_127.length : Int) ≥ (prefix_128.length : Int))) = true then
    if InB ((prefix_128.length : Int)) s_127.length then
      some ((((s_127.take (((prefix_128.length : Int)).toNat))) == prefix_128))
    else none
  else
    some false : Option (Bool)).bind fun t_129 =>
  some t_129

def strings_HasPrefix (s_133 : List UInt8) (prefix_134 : List UInt8) : Option (Bool) :=
  (stringslite_HasPrefix s_133 prefix_134).bind fun y_135 =>
  some y_135

def tlex_token (s_137 : List UInt8) : Option (Api_Token × Int) :=
  if InR 0 s_137.length then
    (tlex_letter ((nth s_137 0))).bind fun y_139 =>
    if y_139 = true then
      (tlex_span s_137 tlex_token_1).bind fun y_141 =>
      if InB y_141 s_137.length then
        if (decide ((((s_137.take y_141.toNat)).length : Int) > 32)) = true then
          some ((({ Kind := 0, Text := ([] : List UInt8), N := 0, At := 0 } : Api_Token), 2))
        else
          some ((({ Kind := 1, Text := (s_137.take y_141.toNat), N := 0, At := 0 } : Api_Token), 0))
      else none
    else
      (tlex_digit ((nth s_137 0))).bind fun y_144 =>
      if y_144 = true then
        (tlex_span s_137 tlex_digit).bind fun y_146 =>
        if InB y_146 s_137.length then
          (tlex_number ((s_137.take y_146.toNat))).bind fun y_149 =>
          some ((({ Kind := 2, Text := (s_137.take y_146.toNat), N := y_149.1, At := 0 } : Api_Token), y_149.2))
        else none
      else
        if InR 0 s_137.length then
          (if (!(((tabGet ([] : List UInt8) tab1 ((nth s_137 0)))) == (([] : List UInt8)))) = true then
            (strings_HasPrefix s_137 ((tabGet ([] : List UInt8) tab1 ((nth s_137 0))))).bind fun y_152 =>
            some y_152
          else
            some false : Option (Bool)).bind fun t_153 =>
          if t_153 = true then
            lt1 ((tabGet ([] : List UInt8) tab1 ((nth s_137 0)))) fun (f_157 : List UInt8) =>
            some ((({ Kind := 3, Text := f_157, N := 0, At := 0 } : Api_Token), 0))
          else
            some ((({ Kind := 0, Text := ([] : List UInt8), N := 0, At := 0 } : Api_Token), 150))
        else none
  else none

def tlex_Tokens_b1 (src_159 : List UInt8) (at_252 : Int) (l_253 : List Api_Token) : Option ((Int × List Api_Token) ⊕ ((List Api_Token) ⊕ ((List Api_Token) ⊕ (List Api_Token × Int × Int)))) :=
  if (decide (at_252 < (src_159.length : Int))) = true then
    if InR at_252 src_159.length then
      (if ((nth src_159 at_252.toNat) == (32 : UInt8)) = true then
        some (((nth src_159 at_252.toNat) == (32 : UInt8)))
      else
        if ((nth src_159 at_252.toNat) == (9 : UInt8)) = true then
          some (((nth src_159 at_252.toNat) == (9 : UInt8)))
        else
          if ((nth src_159 at_252.toNat) == (13 : UInt8)) = true then
            some (((nth src_159 at_252.toNat) == (13 : UInt8)))
          else
            some (((nth src_159 at_252.toNat) == (10 : UInt8))) : Option (Bool)).bind fun t_281 =>
      if t_281 = true then
        some (.inl (((w64 (at_252 + 1)), l_253)))
      else
        if ((nth src_159 at_252.toNat) == (35 : UInt8)) = true then
          if InB at_252 src_159.length then
            (strings_IndexByte (((src_159.drop at_252.toNat).take (src_159.length - at_252.toNat))) ((10 : UInt8))).bind fun y_285 =>
            if (decide (y_285 < 0)) = true then
              some (.inr (.inl l_253))
            else
              lt1 ((w64 (at_252 + (w64 (y_285 + 1))))) fun (at_288 : Int) =>
              some (.inl ((at_288, l_253)))
          else none
        else
          if InB at_252 src_159.length then
            (tlex_token (((src_159.drop at_252.toNat).take (src_159.length - at_252.toNat)))).bind fun y_290 =>
            if (y_290.2 != 0) = true then
              ((some (([], at_252, y_290.2))).bind fun z_293 => some (.inr z_293)).bind fun z_294 => some (.inr (.inr z_294))
            else
              if Fits (l_253.length + 1) 40 then
                lt1 ((l_253 ++ (([({ Kind := y_290.1.Kind, Text := y_290.1.Text, N := y_290.1.N, At := at_252 } : Api_Token)] : List Api_Token)))) fun (l_296 : List Api_Token) =>
                lt1 ((w64 (at_252 + (y_290.1.Text.length : Int)))) fun (at_298 : Int) =>
                some (.inl ((at_298, l_296)))
              else none
          else none
    else none
  else
    some (.inr (.inl l_253))
def tlex_Tokens (src_159 : List UInt8) : Option (List Api_Token × Int × Int) :=
  if (decide ((src_159.length : Int) > 2000)) = true then
    some (([], 0, 2))
  else
    ((loopO (fun (v : Int × List Api_Token) => tlex_Tokens_b1 src_159 v.1 v.2) ((0, []))).bind fun x => match x with
    | .inl l_274 =>
      some (.inl l_274)
    | .inr z => some z : Option ((List Api_Token) ⊕ (List Api_Token × Int × Int))).bind fun x => match x with
    | .inl l_228 =>
      some ((l_228, 0, 0))
    | .inr z => some z

def tlex_Reserved (s_300 : List UInt8) : Option (Bool) :=
  some ((tabGet false tab0 s_300))

def r15_letter (c_301 : UInt8) : Option (Bool) :=
  (if (decide (c_301 ≥ (97 : UInt8))) = true then
    some ((decide (c_301 ≤ (122 : UInt8))))
  else
    some false : Option (Bool)).bind fun t_302 =>
  some t_302

def r15_digit (c_305 : UInt8) : Option (Bool) :=
  (if (decide (c_305 ≥ (48 : UInt8))) = true then
    some ((decide (c_305 ≤ (57 : UInt8))))
  else
    some false : Option (Bool)).bind fun t_306 =>
  some t_306

def r15_Blank (c_309 : UInt8) : Option (Bool) :=
  (if (c_309 == (32 : UInt8)) = true then
    some true
  else
    if (c_309 == (9 : UInt8)) = true then
      some true
    else
      if (c_309 == (13 : UInt8)) = true then
        some true
      else
        some ((c_309 == (10 : UInt8))) : Option (Bool)).bind fun t_310 =>
  some t_310

def r15_sign (src_315 : List UInt8) (at_316 : Int) : Option (Int) :=
  (if InR at_316 src_315.length then
    (if ((nth src_315 at_316.toNat) == (123 : UInt8)) = true then
      some (((nth src_315 at_316.toNat) == (123 : UInt8)))
    else
      if ((nth src_315 at_316.toNat) == (125 : UInt8)) = true then
        some (((nth src_315 at_316.toNat) == (125 : UInt8)))
      else
        if ((nth src_315 at_316.toNat) == (40 : UInt8)) = true then
          some (((nth src_315 at_316.toNat) == (40 : UInt8)))
        else
          if ((nth src_315 at_316.toNat) == (41 : UInt8)) = true then
            some (((nth src_315 at_316.toNat) == (41 : UInt8)))
          else
            if ((nth src_315 at_316.toNat) == (59 : UInt8)) = true then
              some (((nth src_315 at_316.toNat) == (59 : UInt8)))
            else
              if ((nth src_315 at_316.toNat) == (44 : UInt8)) = true then
                some (((nth src_315 at_316.toNat) == (44 : UInt8)))
              else
                if ((nth src_315 at_316.toNat) == (43 : UInt8)) = true then
                  some (((nth src_315 at_316.toNat) == (43 : UInt8)))
                else
                  if ((nth src_315 at_316.toNat) == (45 : UInt8)) = true then
                    some (((nth src_315 at_316.toNat) == (45 : UInt8)))
                  else
                    if ((nth src_315 at_316.toNat) == (42 : UInt8)) = true then
                      some (((nth src_315 at_316.toNat) == (42 : UInt8)))
                    else
                      some (((nth src_315 at_316.toNat) == (60 : UInt8))) : Option (Bool)).bind fun t_332 =>
    if t_332 = true then
      (some 1).bind fun z_336 => some (.inr z_336)
    else
      if ((nth src_315 at_316.toNat) == (46 : UInt8)) = true then
        (if (decide ((w64 (at_316 + 1)) < (src_315.length : Int))) = true then
          if InR ((w64 (at_316 + 1))) src_315.length then
            some (((nth src_315 (((w64 (at_316 + 1))).toNat)) == (46 : UInt8)))
          else none
        else
          some false : Option (Bool)).bind fun t_337 =>
        if t_337 = true then
          (some 2).bind fun z_341 => some (.inr z_341)
        else
          some (.inl (()))
      else
        some (.inl (()))
  else none : Option ((Unit) ⊕ (Int))).bind fun x => match x with
  | .inl () =>
    some 0
  | .inr z => some z

def r15_next_b1 (src_342 : List UInt8) (end_488 : Int) : Option ((Int) ⊕ (Int)) :=
  (if (decide (end_488 < (src_342.length : Int))) = true then
    if InR end_488 src_342.length then
      (r15_letter ((nth src_342 end_488.toNat))).bind fun y_505 =>
      if y_505 = true then
        some true
      else
        if InR end_488 src_342.length then
          (r15_digit ((nth src_342 end_488.toNat))).bind fun y_506 =>
          some y_506
        else none
    else none
  else
    some false : Option (Bool)).bind fun t_507 =>
  if t_507 = true then
    some (.inl ((w64 (end_488 + 1))))
  else
    some (.inr end_488)
def r15_next_b2 (src_342 : List UInt8) (end_608 : Int) (f_609 : Int) : Option ((Int × Int) ⊕ (Int × Int)) :=
  (if (decide (end_608 < (src_342.length : Int))) = true then
    if InR end_608 src_342.length then
      (r15_digit ((nth src_342 end_608.toNat))).bind fun y_633 =>
      some y_633
    else none
  else
    some false : Option (Bool)).bind fun t_634 =>
  if t_634 = true then
    (if (decide (f_609 ≤ 1099511627776)) = true then
      if InR end_608 src_342.length then
        lt1 ((w64 ((w64 (10 * f_609)) + ((((nth src_342 end_608.toNat) - (48 : UInt8))).toNat : Int)))) fun (f_647 : Int) =>
        some f_647
      else none
    else
      some f_609 : Option (Int)).bind fun f_642 =>
    some (.inl (((w64 (end_608 + 1)), f_642)))
  else
    some (.inr ((end_608, f_609)))
def r15_next (src_342 : List UInt8) (at_343 : Int) : Option (Api_Token × Int) :=
  (if InR at_343 src_342.length then
    (r15_letter ((nth src_342 at_343.toNat))).bind fun y_434 =>
    if y_434 = true then
      ((loopO (fun (v : Int) => r15_next_b1 src_342 v) at_343).bind fun end_499 =>
      some end_499 : Option (Int)).bind fun end_474 =>
      if InB end_474 src_342.length then
        if InB at_343 end_474.toNat then
          lt1 (((src_342.drop at_343.toNat).take (end_474.toNat - at_343.toNat))) fun (f_517 : List UInt8) =>
          if (decide ((w64 (end_474 - at_343)) > 32)) = true then
            (some ((({ Kind := 1, Text := f_517, N := 0, At := at_343 } : Api_Token), 2))).bind fun z_519 => some (.inr z_519)
          else
            (some ((({ Kind := 1, Text := f_517, N := 0, At := at_343 } : Api_Token), 0))).bind fun z_520 => some (.inr z_520)
        else none
      else none
    else
      some (.inl (()))
  else none : Option ((Unit) ⊕ (Api_Token × Int))).bind fun x => match x with
  | .inl () =>
    if InR at_343 src_342.length then
      (r15_digit ((nth src_342 at_343.toNat))).bind fun y_521 =>
      if (!y_521) = true then
        (r15_sign src_342 at_343).bind fun y_524 =>
        if (y_524 == 0) = true then
          some ((({ Kind := 1, Text := ([] : List UInt8), N := 0, At := at_343 } : Api_Token), 150))
        else
          if InB ((w64 (at_343 + y_524))) src_342.length then
            if InB at_343 (((w64 (at_343 + y_524))).toNat) then
              lt1 (((src_342.drop at_343.toNat).take (((w64 (at_343 + y_524))).toNat - at_343.toNat))) fun (f_528 : List UInt8) =>
              some ((({ Kind := 3, Text := f_528, N := 0, At := at_343 } : Api_Token), 0))
            else none
          else none
      else
        ((loopO (fun (v : Int × Int) => r15_next_b2 src_342 v.1 v.2) ((at_343, 0))).bind fun (end_626, f_627) =>
        some ((end_626, f_627)) : Option (Int × Int)).bind fun (end_587, f_588) =>
        if InB end_587 src_342.length then
          if InB at_343 end_587.toNat then
            lt1 (((src_342.drop at_343.toNat).take (end_587.toNat - at_343.toNat))) fun (f_651 : List UInt8) =>
            (if (decide ((w64 (end_587 - at_343)) > 1)) = true then
              if InR at_343 src_342.length then
                some (((nth src_342 at_343.toNat) == (48 : UInt8)))
              else none
            else
              some false : Option (Bool)).bind fun t_653 =>
            if t_653 = true then
              some ((({ Kind := 2, Text := f_651, N := f_588, At := at_343 } : Api_Token), 150))
            else
              if (decide (f_588 > 1099511627776)) = true then
                some ((({ Kind := 2, Text := f_651, N := f_588, At := at_343 } : Api_Token), 2))
              else
                some ((({ Kind := 2, Text := f_651, N := f_588, At := at_343 } : Api_Token), 0))
          else none
        else none
    else none
  | .inr z => some z

def r15_Tokens_b1 (src_657 : List UInt8) (comment_763 : Bool) (at_764 : Int) (l_765 : List Api_Token) : Option ((Bool × Int × List Api_Token) ⊕ ((List Api_Token) ⊕ ((List Api_Token) ⊕ (List Api_Token × Int × Int)))) :=
  if (decide (at_764 < (src_657.length : Int))) = true then
    if InR at_764 src_657.length then
      (if ((nth src_657 at_764.toNat) == (35 : UInt8)) = true then
        some true
      else
        some comment_763 : Option (Bool)).bind fun comment_796 =>
      (if ((nth src_657 at_764.toNat) == (10 : UInt8)) = true then
        some false
      else
        some comment_796 : Option (Bool)).bind fun comment_800 =>
      (if comment_800 = true then
        some true
      else
        (r15_Blank ((nth src_657 at_764.toNat))).bind fun y_804 =>
        some y_804 : Option (Bool)).bind fun t_805 =>
      if t_805 = true then
        some (.inl ((comment_800, (w64 (at_764 + 1)), l_765)))
      else
        (r15_next src_657 at_764).bind fun y_809 =>
        if (y_809.2 != 0) = true then
          ((some (([], at_764, y_809.2))).bind fun z_811 => some (.inr z_811)).bind fun z_812 => some (.inr (.inr z_812))
        else
          if Fits (l_765.length + 1) 40 then
            lt1 ((l_765 ++ (([y_809.1] : List Api_Token)))) fun (l_814 : List Api_Token) =>
            lt1 ((w64 (at_764 + (y_809.1.Text.length : Int)))) fun (at_816 : Int) =>
            some (.inl ((comment_800, at_816, l_814)))
          else none
    else none
  else
    some (.inr (.inl l_765))
def r15_Tokens (src_657 : List UInt8) : Option (List Api_Token × Int × Int) :=
  if (decide ((src_657.length : Int) > 2000)) = true then
    some (([], 0, 2))
  else
    ((loopO (fun (v : Bool × Int × List Api_Token) => r15_Tokens_b1 src_657 v.1 v.2.1 v.2.2) ((false, 0, []))).bind fun x => match x with
    | .inl l_789 =>
      some (.inl l_789)
    | .inr z => some z : Option ((List Api_Token) ⊕ (List Api_Token × Int × Int))).bind fun x => match x with
    | .inl l_736 =>
      some ((l_736, 0, 0))
    | .inr z => some z

def r15_Same_b1 (a_818 : List Api_Token) (b_819 : List Api_Token) (i_853 : Int) : Option ((Int) ⊕ ((Unit) ⊕ ((Unit) ⊕ (Bool)))) :=
  if (decide (i_853 < (a_818.length : Int))) = true then
    if InR i_853 a_818.length then
      if InR i_853 b_819.length then
        lt1 ((!(((nth a_818 i_853.toNat).Kind == (nth b_819 i_853.toNat).Kind) && (((nth a_818 i_853.toNat).Text == (nth b_819 i_853.toNat).Text) && (((nth a_818 i_853.toNat).N == (nth b_819 i_853.toNat).N) && ((nth a_818 i_853.toNat).At == (nth b_819 i_853.toNat).At)))))) fun (t_867 : Bool) =>
        if t_867 = true then
          ((some false).bind fun z_869 => some (.inr z_869)).bind fun z_870 => some (.inr (.inr z_870))
        else
          some (.inl ((w64 (i_853 + 1))))
      else none
    else none
  else
    some (.inr (.inl (())))
def r15_Same (a_818 : List Api_Token) (b_819 : List Api_Token) : Option (Bool) :=
  if ((a_818.length : Int) != (b_819.length : Int)) = true then
    some false
  else
    ((loopO (fun (v : Int) => r15_Same_b1 a_818 b_819 v) 0).bind fun x => match x with
    | .inl () =>
      some (.inl (()))
    | .inr z => some z : Option ((Unit) ⊕ (Bool))).bind fun x => match x with
    | .inl () =>
      some true
    | .inr z => some z

def r15_Text_b1 (l_871 : List Api_Token) (s_940 : List UInt8) (i_941 : Int) : Option ((List UInt8 × Int) ⊕ (List UInt8)) :=
  if (decide (i_941 < (l_871.length : Int))) = true then
    (if (decide (i_941 > 0)) = true then
      if FitS (s_940.length + 1) then
        lt1 ((s_940 ++ (([32] : List UInt8)))) fun (s_970 : List UInt8) =>
        some s_970
      else none
    else
      some s_940 : Option (List UInt8)).bind fun s_965 =>
    if InR i_941 l_871.length then
      if FitS (s_965.length + ((nth l_871 i_941.toNat).Text).length) then
        lt1 ((s_965 ++ ((nth l_871 i_941.toNat).Text))) fun (s_974 : List UInt8) =>
        some (.inl ((s_974, (w64 (i_941 + 1)))))
      else none
    else none
  else
    some (.inr s_940)
def r15_Text (l_871 : List Api_Token) : Option (List UInt8) :=
  ((loopO (fun (v : List UInt8 × Int) => r15_Text_b1 l_871 v.1 v.2) ((([] : List UInt8), 0))).bind fun s_956 =>
  some s_956 : Option (List UInt8)).bind fun s_922 =>
  some s_922

def r15_Words  : Option (List (List UInt8)) :=
  lt1 (([([116, 97, 114, 105, 102, 102] : List UInt8), ([102, 111, 114] : List UInt8), ([99, 108, 97, 117, 115, 101] : List UInt8), ([119, 104, 101, 110] : List UInt8), ([97, 110, 100] : List UInt8), ([105, 110] : List UInt8), ([105, 115] : List UInt8), ([112, 97, 121] : List UInt8), ([109, 105, 110] : List UInt8), ([109, 97, 120] : List UInt8), ([100, 111, 119, 110] : List UInt8), ([117, 112] : List UInt8), ([104, 97, 108, 102] : List UInt8), ([105, 102] : List UInt8), ([109, 111, 110, 101, 121] : List UInt8), ([109, 105, 110, 117, 116, 101] : List UInt8), ([112, 101, 114] : List UInt8), ([107, 103] : List UInt8), ([116, 121, 112, 101] : List UInt8), ([111, 119, 110, 101, 114] : List UInt8), ([114, 97, 105, 108, 119, 97, 121] : List UInt8), ([115, 104, 105, 112, 112, 101, 114] : List UInt8), ([99, 108, 97, 115, 115] : List UInt8), ([119, 101, 105, 103, 104, 116] : List UInt8), ([107, 109] : List UInt8), ([109, 105, 110, 117, 116, 101, 115] : List UInt8), ([119, 111, 114, 107, 105, 110, 103] : List UInt8), ([99, 111, 100, 101] : List UInt8), ([119, 111, 114, 116, 104] : List UInt8), ([99, 111, 115, 116] : List UInt8), ([109, 111, 110, 116, 104] : List UInt8), ([98, 101, 103, 105, 110] : List UInt8), ([112, 97, 114, 116, 115] : List UInt8), ([112, 97, 114, 116] : List UInt8), ([104, 105, 114, 101] : List UInt8), ([100, 101, 109, 117, 114, 114, 97, 103, 101] : List UInt8), ([102, 114, 101, 105, 103, 104, 116] : List UInt8), ([114, 101, 112, 97, 105, 114] : List UInt8), ([108, 111, 115, 115] : List UInt8), ([99, 108, 101, 97, 110, 105, 110, 103] : List UInt8)] : List (List UInt8))) fun (l_976 : List (List UInt8)) =>
  some l_976

def r15_Reserved_b1 (s_978 : List UInt8) (y_979 : List (List UInt8)) (i_1002 : Int) : Option ((Int) ⊕ ((Unit) ⊕ ((Unit) ⊕ (Bool)))) :=
  if (decide (i_1002 < (y_979.length : Int))) = true then
    if InR i_1002 y_979.length then
      if ((nth y_979 i_1002.toNat) == s_978) = true then
        ((some true).bind fun z_1012 => some (.inr z_1012)).bind fun z_1013 => some (.inr (.inr z_1013))
      else
        some (.inl ((w64 (i_1002 + 1))))
    else none
  else
    some (.inr (.inl (())))
def r15_Reserved (s_978 : List UInt8) : Option (Bool) :=
  r15_Words.bind fun y_979 =>
  ((loopO (fun (v : Int) => r15_Reserved_b1 s_978 y_979 v) 0).bind fun x => match x with
  | .inl () =>
    some (.inl (()))
  | .inr z => some z : Option ((Unit) ⊕ (Bool))).bind fun x => match x with
  | .inl () =>
    some false
  | .inr z => some z

def r15_Alike_b1 (a_1014 : List Api_Token) (b_1015 : List Api_Token) (i_1073 : Int) : Option ((Int) ⊕ ((Unit) ⊕ ((Unit) ⊕ (Bool)))) :=
  if (decide (i_1073 < (a_1014.length : Int))) = true then
    (if InR i_1073 a_1014.length then
      if InR i_1073 b_1015.length then
        if ((nth a_1014 i_1073.toNat).Kind != (nth b_1015 i_1073.toNat).Kind) = true then
          some true
        else
          if InR i_1073 a_1014.length then
            if InR i_1073 b_1015.length then
              if (!(((nth a_1014 i_1073.toNat).Text) == ((nth b_1015 i_1073.toNat).Text))) = true then
                some true
              else
                if InR i_1073 a_1014.length then
                  if InR i_1073 b_1015.length then
                    some (((nth a_1014 i_1073.toNat).N != (nth b_1015 i_1073.toNat).N))
                  else none
                else none
            else none
          else none
      else none
    else none : Option (Bool)).bind fun t_1091 =>
    if t_1091 = true then
      ((some false).bind fun z_1101 => some (.inr z_1101)).bind fun z_1102 => some (.inr (.inr z_1102))
    else
      some (.inl ((w64 (i_1073 + 1))))
  else
    some (.inr (.inl (())))
def r15_Alike (a_1014 : List Api_Token) (b_1015 : List Api_Token) : Option (Bool) :=
  if ((a_1014.length : Int) != (b_1015.length : Int)) = true then
    some false
  else
    ((loopO (fun (v : Int) => r15_Alike_b1 a_1014 b_1015 v) 0).bind fun x => match x with
    | .inl () =>
      some (.inl (()))
    | .inr z => some z : Option ((Unit) ⊕ (Bool))).bind fun x => match x with
    | .inl () =>
      some true
    | .inr z => some z

def law15_gap_b1 (s_1103 : List UInt8) (comment_1197 : Bool) (i_1198 : Int) : Option ((Bool × Int) ⊕ ((Bool) ⊕ ((Bool) ⊕ (Bool)))) :=
  if (decide (i_1198 < (s_1103.length : Int))) = true then
    (if InR i_1198 s_1103.length then
      if ((nth s_1103 i_1198.toNat) == (35 : UInt8)) = true then
        some true
      else
        some comment_1197
    else none : Option (Bool)).bind fun comment_1226 =>
    (if InR i_1198 s_1103.length then
      if ((nth s_1103 i_1198.toNat) == (10 : UInt8)) = true then
        some false
      else
        some comment_1226
    else none : Option (Bool)).bind fun comment_1232 =>
    (if (!comment_1232) = true then
      if InR i_1198 s_1103.length then
        (r15_Blank ((nth s_1103 i_1198.toNat))).bind fun y_1237 =>
        some ((!y_1237))
      else none
    else
      some false : Option (Bool)).bind fun t_1238 =>
    if t_1238 = true then
      ((some false).bind fun z_1243 => some (.inr z_1243)).bind fun z_1244 => some (.inr (.inr z_1244))
    else
      some (.inl ((comment_1232, (w64 (i_1198 + 1)))))
  else
    some (.inr (.inl comment_1197))
def law15_gap (s_1103 : List UInt8) (last_1104 : Bool) : Option (Bool) :=
  ((loopO (fun (v : Bool × Int) => law15_gap_b1 s_1103 v.1 v.2) ((false, 0))).bind fun x => match x with
  | .inl comment_1219 =>
    some (.inl comment_1219)
  | .inr z => some z : Option ((Bool) ⊕ (Bool))).bind fun x => match x with
  | .inl comment_1173 =>
    (if last_1104 = true then
      some true
    else
      some ((!comment_1173)) : Option (Bool)).bind fun t_1245 =>
    some t_1245
  | .inr z => some z

def strings_Join (xs : List (List UInt8)) (sep : List UInt8) : Option (List UInt8) := joinO xs sep

def tlex_Text_b1 (l_1248 : List Api_Token) (t_1296 : Int) (l_1297 : List (List UInt8)) : Option ((Int × List (List UInt8)) ⊕ (List (List UInt8))) :=
  if (decide (t_1296 < (l_1248.length : Int))) = true then
    if InR t_1296 l_1248.length then
      lt1 ((nth l_1248 t_1296.toNat).Kind) fun (f_1317 : Int) =>
      lt1 ((nth l_1248 t_1296.toNat).Text) fun (f_1318 : List UInt8) =>
      lt1 ((nth l_1248 t_1296.toNat).N) fun (f_1319 : Int) =>
      lt1 ((nth l_1248 t_1296.toNat).At) fun (f_1320 : Int) =>
      if InR t_1296 l_1297.length then
        lt1 ((l_1297.set t_1296.toNat f_1318)) fun (l_1326 : List (List UInt8)) =>
        some (.inl (((w64 (t_1296 + 1)), l_1326)))
      else none
    else none
  else
    some (.inr l_1297)
def tlex_Text (l_1248 : List Api_Token) : Option (List UInt8) :=
  if Mk ((l_1248.length : Int)) ((l_1248.length : Int)) 16 then
    lt1 ((List.replicate (((l_1248.length : Int)).toNat) (([] : List UInt8)))) fun (l_1250 : List (List UInt8)) =>
    ((loopO (fun (v : Int × List (List UInt8)) => tlex_Text_b1 l_1248 v.1 v.2) ((0, l_1250))).bind fun l_1310 =>
    some l_1310 : Option (List (List UInt8))).bind fun l_1288 =>
    (strings_Join l_1288 (([32] : List UInt8))).bind fun y_1328 =>
    some y_1328
  else none

def law15_sane  : Option (Bool) :=
  (tlex_Tokens (([112, 97, 121, 32, 49, 50, 32, 109, 111, 110, 101, 121, 59] : List UInt8))).bind fun y_1330 =>
  (tlex_Tokens (([49, 46, 46, 50, 48, 32, 35, 32, 100, 97, 121, 115] : List UInt8))).bind fun y_1332 =>
  (tlex_Tokens (([49, 50, 107, 109] : List UInt8))).bind fun y_1334 =>
  (tlex_Tokens (([97, 46, 98] : List UInt8))).bind fun y_1336 =>
  (tlex_Tokens (([120, 32, 48, 48, 55] : List UInt8))).bind fun y_1338 =>
  (tlex_Tokens (([49, 48, 57, 57, 53, 49, 49, 54, 50, 55, 55, 55, 55] : List UInt8))).bind fun y_1340 =>
  (if (y_1330.2.2 != 0) = true then
    some true
  else
    if (y_1330.2.1 != 0) = true then
      some true
    else
      if ((y_1330.1.length : Int) != 4) = true then
        some true
      else
        if InR 1 y_1330.1.length then
          if (!(((nth y_1330.1 1).Kind == 2) && (((nth y_1330.1 1).Text == ([49, 50] : List UInt8)) && (((nth y_1330.1 1).N == 12) && ((nth y_1330.1 1).At == 4))))) = true then
            some true
          else
            if InR 3 y_1330.1.length then
              some ((!(((nth y_1330.1 3).Kind == 3) && (((nth y_1330.1 3).Text == ([59] : List UInt8)) && (((nth y_1330.1 3).N == 0) && ((nth y_1330.1 3).At == 12))))))
            else none
        else none : Option (Bool)).bind fun t_1342 =>
  if t_1342 = true then
    some false
  else
    (if (y_1332.2.2 == 0) = true then
      if ((y_1332.1.length : Int) == 3) = true then
        if InR 1 y_1332.1.length then
          if (((nth y_1332.1 1).Text) == (([46, 46] : List UInt8))) = true then
            if InR 2 y_1332.1.length then
              if ((nth y_1332.1 2).N == 20) = true then
                if (y_1334.2.2 == 0) = true then
                  if ((y_1334.1.length : Int) == 2) = true then
                    if InR 1 y_1334.1.length then
                      if (((nth y_1334.1 1).Kind == 1) && (((nth y_1334.1 1).Text == ([107, 109] : List UInt8)) && (((nth y_1334.1 1).N == 0) && ((nth y_1334.1 1).At == 2)))) = true then
                        if (y_1336.2.2 == 150) = true then
                          if (y_1336.2.1 == 1) = true then
                            if (y_1338.2.2 == 150) = true then
                              if (y_1338.2.1 == 2) = true then
                                if (y_1340.2.2 == 2) = true then
                                  (tlex_Text y_1330.1).bind fun y_1350 =>
                                  if (y_1350 == (([112, 97, 121, 32, 49, 50, 32, 109, 111, 110, 101, 121, 32, 59] : List UInt8))) = true then
                                    (tlex_Reserved (([107, 109] : List UInt8))).bind fun y_1351 =>
                                    if y_1351 = true then
                                      (tlex_Reserved (([100, 97, 121, 115] : List UInt8))).bind fun y_1352 =>
                                      some ((!y_1352))
                                    else
                                      some false
                                  else
                                    some false
                                else
                                  some false
                              else
                                some false
                            else
                              some false
                          else
                            some false
                        else
                          some false
                      else
                        some false
                    else none
                  else
                    some false
                else
                  some false
              else
                some false
            else none
          else
            some false
        else none
      else
        some false
    else
      some false : Option (Bool)).bind fun t_1353 =>
    some t_1353

def strconv_Itoa (n : Int) : Option (List UInt8) := itoaO n

def law15_TlexNumbers (n_1375 : Int) : Option (Bool) :=
  law15_sane.bind fun y_1376 =>
  if (!y_1376) = true then
    some false
  else
    if (decide (n_1375 < 0)) = true then
      some true
    else
      (strconv_Itoa n_1375).bind fun y_1378 =>
      if FitS (3 + y_1378.length) then
        if FitS ((((([107, 109, 32] : List UInt8)) ++ y_1378)).length + 2) then
          (tlex_Tokens (((((([107, 109, 32] : List UInt8)) ++ y_1378)) ++ (([107, 109] : List UInt8))))).bind fun y_1380 =>
          if FitS (3 + y_1378.length) then
            (tlex_Tokens (((([32, 32, 48] : List UInt8)) ++ y_1378))).bind fun y_1385 =>
            (if (y_1385.2.2 != 150) = true then
              some true
            else
              some ((y_1385.2.1 != 2)) : Option (Bool)).bind fun t_1388 =>
            if t_1388 = true then
              some false
            else
              if (decide (n_1375 > 1099511627776)) = true then
                (if (y_1380.2.2 == 2) = true then
                  if (y_1380.2.1 == 3) = true then
                    some (((y_1380.1.length : Int) == 0))
                  else
                    some false
                else
                  some false : Option (Bool)).bind fun t_1391 =>
                some t_1391
              else
                (if (y_1380.2.2 == 0) = true then
                  if ((y_1380.1.length : Int) == 3) = true then
                    if InR 1 y_1380.1.length then
                      if (((nth y_1380.1 1).Kind == 2) && (((nth y_1380.1 1).Text == y_1378) && (((nth y_1380.1 1).N == n_1375) && ((nth y_1380.1 1).At == 3)))) = true then
                        if InR 2 y_1380.1.length then
                          if (((nth y_1380.1 2).Text) == (([107, 109] : List UInt8))) = true then
                            if InR 2 y_1380.1.length then
                              some (((nth y_1380.1 2).At == (w64 (3 + (y_1378.length : Int)))))
                            else none
                          else
                            some false
                        else none
                      else
                        some false
                    else none
                  else
                    some false
                else
                  some false : Option (Bool)).bind fun t_1395 =>
                some t_1395
          else none
        else none
      else none

end Go.Proofs.YtballlkeogmoiaaDoor
/-
  The functions compute just that.
-/
namespace Go.Proofs.YtballlkeogmoiaaDoor
open Go.Rv
set_option linter.unusedVariables false
set_option linter.unusedSimpArgs false
set_option maxRecDepth 20000
variable {rs : Nat → Nat}
set_option maxHeartbeats 4000000

theorem tlex_letter_con {c_1 : UInt8} {r : Bool} (h : tlex_letter c_1 = some r) : Con (B rs) 29 [u8 c_1] [] (fun r' σ' => r' = .bool r ∧ σ' = []) := by
  refine con_walk (N := 9) (rs := [.tmp 2]) ok Tryd.func29 rfl (by decide +kernel) rfl rfl (Nat.le_of_ble_eq_true rfl) (fun F => ?_)
  have hE := (ok (rs := rs)).env F
  unfold tlex_letter at h
  show Run ((B rs).env F) 0 _ ⟨asFr 9 [(0, u8 c_1)], []⟩ _
  refine run_textE hE [0] (fr' := [(0, u8 c_1)]) (σ' := []) ⟨_, orcs_nil, ?_⟩ ?_
  · simp only [go_sem, reduceIte, Nat.reduceLT, Nat.reduceEqDiff, Nat.reduceAdd]
  replace h := bind_some1 h; obtain ⟨t_2, hv_3, h⟩ := h
  refine run_textW hE [2] (fr' := [(2, .bool t_2)]) (σ' := []) ?_ ?_
  · rcases Bool.eq_false_or_eq_true ((decide ((97 : UInt8) ≤ c_1))) with hb_4 | hb_4
    · replace hv_3 := ite_t hv_3 hb_4
      have e_hv_3 := Option.some.inj hv_3; subst e_hv_3
      exact ⟨_, [(2, .bool ((decide (c_1 ≤ (122 : UInt8)))))], [], orcs_nil, by simp only [go_sem, reduceIte, Nat.reduceLT, Nat.reduceEqDiff, Nat.reduceAdd, hb_4], (weak_sel [] (by decide) rfl (by simp only [go_sem, reduceIte, Nat.reduceLT, Nat.reduceEqDiff, Nat.reduceAdd]) (by simp only [go_sem, reduceIte, Nat.reduceLT, Nat.reduceEqDiff, Nat.reduceAdd]))⟩
    · replace hv_3 := ite_f hv_3 hb_4
      have e_hv_3 := Option.some.inj hv_3; subst e_hv_3
      exact ⟨_, [(2, .bool false)], [], orcs_nil, by simp only [go_sem, reduceIte, Nat.reduceLT, Nat.reduceEqDiff, Nat.reduceAdd, hb_4], (weak_sel [] (by decide) rfl (by simp only [go_sem, reduceIte, Nat.reduceLT, Nat.reduceEqDiff, Nat.reduceAdd]) (by simp only [go_sem, reduceIte, Nat.reduceLT, Nat.reduceEqDiff, Nat.reduceAdd]))⟩
  refine run_ret ?_
  obtain rfl := Option.some.inj h
  refine ret_ok (.inr rfl) ?_
  simp only [go_sem, reduceIte, Nat.reduceLT, Nat.reduceEqDiff, Nat.reduceAdd]

theorem tlex_digit_con {c_5 : UInt8} {r : Bool} (h : tlex_digit c_5 = some r) : Con (B rs) 32 [u8 c_5] [] (fun r' σ' => r' = .bool r ∧ σ' = []) := by
  refine con_walk (N := 9) (rs := [.tmp 2]) ok Tryd.func32 rfl (by decide +kernel) rfl rfl (Nat.le_of_ble_eq_true rfl) (fun F => ?_)
  have hE := (ok (rs := rs)).env F
  unfold tlex_digit at h
  show Run ((B rs).env F) 0 _ ⟨asFr 9 [(0, u8 c_5)], []⟩ _
  refine run_textE hE [0] (fr' := [(0, u8 c_5)]) (σ' := []) ⟨_, orcs_nil, ?_⟩ ?_
  · simp only [go_sem, reduceIte, Nat.reduceLT, Nat.reduceEqDiff, Nat.reduceAdd]
  replace h := bind_some1 h; obtain ⟨t_6, hv_7, h⟩ := h
  refine run_textW hE [2] (fr' := [(2, .bool t_6)]) (σ' := []) ?_ ?_
  · rcases Bool.eq_false_or_eq_true ((decide ((48 : UInt8) ≤ c_5))) with hb_8 | hb_8
    · replace hv_7 := ite_t hv_7 hb_8
      have e_hv_7 := Option.some.inj hv_7; subst e_hv_7
      exact ⟨_, [(2, .bool ((decide (c_5 ≤ (57 : UInt8)))))], [], orcs_nil, by simp only [go_sem, reduceIte, Nat.reduceLT, Nat.reduceEqDiff, Nat.reduceAdd, hb_8], (weak_sel [] (by decide) rfl (by simp only [go_sem, reduceIte, Nat.reduceLT, Nat.reduceEqDiff, Nat.reduceAdd]) (by simp only [go_sem, reduceIte, Nat.reduceLT, Nat.reduceEqDiff, Nat.reduceAdd]))⟩
    · replace hv_7 := ite_f hv_7 hb_8
      have e_hv_7 := Option.some.inj hv_7; subst e_hv_7
      exact ⟨_, [(2, .bool false)], [], orcs_nil, by simp only [go_sem, reduceIte, Nat.reduceLT, Nat.reduceEqDiff, Nat.reduceAdd, hb_8], (weak_sel [] (by decide) rfl (by simp only [go_sem, reduceIte, Nat.reduceLT, Nat.reduceEqDiff, Nat.reduceAdd]) (by simp only [go_sem, reduceIte, Nat.reduceLT, Nat.reduceEqDiff, Nat.reduceAdd]))⟩
  refine run_ret ?_
  obtain rfl := Option.some.inj h
  refine ret_ok (.inr rfl) ?_
  simp only [go_sem, reduceIte, Nat.reduceLT, Nat.reduceEqDiff, Nat.reduceAdd]

theorem tlex_span_con {s_9 : List UInt8} {f_10 : UInt8 → Option (Bool)} {ff_10 : Nat} (hff_10 : ∀ {a0 : UInt8} {r : Bool}, f_10 a0 = some r → Con (B rs) ff_10 [u8 a0] [] (fun r' σ' => r' = .bool r ∧ σ' = [])) {r : Int} (h : tlex_span s_9 f_10 = some r) : Con (B rs) 30 [.str s_9, .fn ff_10 []] [] (fun r' σ' => r' = i64 r ∧ σ' = []) := by
  refine con_walk (N := 21) (rs := [.tmp 4]) ok Tryd.func30 rfl (by decide +kernel) rfl rfl (Nat.le_of_ble_eq_true rfl) (fun F => ?_)
  have hE := (ok (rs := rs)).env F
  unfold tlex_span at h
  show Run ((B rs).env F) 0 _ ⟨asFr 21 [(0, .str s_9), (1, .fn ff_10 [])], []⟩ _
  refine run_textE hE [0, 1] (fr' := [(0, .str s_9), (1, .fn ff_10 [])]) (σ' := []) ⟨_, orcs_nil, ?_⟩ ?_
  · simp only [go_sem, reduceIte, Nat.reduceLT, Nat.reduceEqDiff, Nat.reduceAdd]
  replace h := bind_some1 h; obtain ⟨j_32, hA_33, hj_34⟩ := h
  refine run_join (fun (v : Unit) => (⟨asFr 21 [(0, .str s_9)], []⟩ : St)) (fun v => .inl v = j_32) ?_ ?_
  · have h := hA_33; clear hA_33
    refine run_textE hE [0, 1, 7, 8] (fr' := [(0, .str s_9), (1, .fn ff_10 []), (7, i64 ((s_9.length : Int))), (8, i64 0)]) (σ' := []) ⟨_, orcs_nil, ?_⟩ ?_
    · simp only [go_sem, reduceIte, Nat.reduceLT, Nat.reduceEqDiff, Nat.reduceAdd]
    refine run_block ?_
    replace h := bind_some1 h; obtain ⟨x_46, hx_47, hj_48⟩ := h
    refine run_loopO hx_47 (fun (v : Int) => (⟨asFr 21 [(0, .str s_9), (1, .fn ff_10 []), (7, i64 ((s_9.length : Int))), (8, i64 v)], []⟩ : St)) (weak_sel [] (by decide) rfl (by simp only [go_sem, reduceIte, Nat.reduceLT, Nat.reduceEqDiff, Nat.reduceAdd]) (by simp only [go_sem, reduceIte, Nat.reduceLT, Nat.reduceEqDiff, Nat.reduceAdd])) ?_
    rintro t_40 o_49 h hxx_50
    replace h : tlex_span_b1 s_9 f_10 t_40 = some o_49 := h
    unfold tlex_span_b1 at h
    refine run_textE hE [0, 1, 7, 8, 9] (fr' := [(0, .str s_9), (1, .fn ff_10 []), (7, i64 ((s_9.length : Int))), (8, i64 t_40), (9, .bool ((decide (t_40 < (s_9.length : Int)))))]) (σ' := []) ⟨_, orcs_nil, ?_⟩ ?_
    · simp only [go_sem, reduceIte, Nat.reduceLT, Nat.reduceEqDiff, Nat.reduceAdd]
    refine run_seq ?_
    refine run_condL (b := (decide (t_40 < (s_9.length : Int)))) rfl (by decide) (fun hb => ?_) (fun hb => ?_)
    · replace h := ite_t h hb
      refine run_skip ?_
      refine thenK_n ?_
      refine run_seq ?_
      refine run_block ?_
      refine run_textE hE [0, 1, 5, 7, 8] (fr' := [(0, .str s_9), (1, .fn ff_10 []), (5, i64 t_40), (7, i64 ((s_9.length : Int))), (8, i64 t_40)]) (σ' := []) ⟨_, orcs_nil, ?_⟩ ?_
      · simp only [go_sem, reduceIte, Nat.reduceLT, Nat.reduceEqDiff, Nat.reduceAdd]
      replace h := chk_some h; obtain ⟨hc_52, h⟩ := h
      replace h := bind_some1 h; obtain ⟨y_51, hy_53, h⟩ := h
      refine run_textE hE [0, 1, 5, 7, 8, 16] (fr' := [(0, .str s_9), (1, .fn ff_10 []), (5, i64 t_40), (7, i64 ((s_9.length : Int))), (8, i64 t_40), (16, .bool ((!y_51)))]) (σ' := []) ⟨_, orcs_ok (l := [(15, ff_10, [u8 ((nth s_9 t_40.toNat))], .bool y_51)]) ⟨hff_10  hy_53, trivial⟩, ?_⟩ ?_
      · simp only [go_sem, reduceIte, Nat.reduceLT, Nat.reduceEqDiff, Nat.reduceAdd, Int.reduceToNat, hc_52, hc_52.2, lt_le hc_52.2]
      refine run_condL (b := (!y_51)) rfl (by decide) (fun hb => ?_) (fun hb => ?_)
      · replace h := ite_t h hb
        refine run_textE hE [4] (fr' := [(4, i64 t_40)]) (σ' := []) ⟨_, orcs_nil, ?_⟩ ?_
        · simp only [go_sem, reduceIte, Nat.reduceLT, Nat.reduceEqDiff, Nat.reduceAdd]
        refine run_ret ?_
        refine blockK_r ?_
        refine thenK_r ?_
        refine lpK_r ?_
        replace h := bind_some1 h; obtain ⟨z_55, h, e_z_55⟩ := h
        obtain rfl := Option.some.inj e_z_55
        have ex_z_55 := hxx_50 _ rfl
        subst ex_z_55
        obtain rfl := Option.some.inj hj_48
        refine blockK_r ?_
        refine joinK_r ?_
        replace h := bind_some1 h; obtain ⟨z_54, h, e_z_54⟩ := h
        obtain rfl := Option.some.inj e_z_54
        obtain rfl := Option.some.inj hj_34
        obtain rfl := Option.some.inj h
        refine ret_ok (.inr rfl) ?_
        simp only [go_sem, reduceIte, Nat.reduceLT, Nat.reduceEqDiff, Nat.reduceAdd]
      · replace h := ite_f h hb
        refine run_skip ?_
        refine blockK_n ?_
        refine thenK_n ?_
        refine run_textE0 hE wk_lp [0, 1, 7, 8] (fr' := [(0, .str s_9), (1, .fn ff_10 []), (7, i64 ((s_9.length : Int))), (8, i64 ((w64 (t_40 + 1))))]) (σ' := []) ⟨_, orcs_nil, ?_⟩ ?_
        · simp only [go_sem, reduceIte, Nat.reduceLT, Nat.reduceEqDiff, Nat.reduceAdd]
        obtain rfl := Option.some.inj h
        exact lpK_n ((w64 (t_40 + 1))) rfl (weak_sel [] (by decide) rfl (by simp only [go_sem, reduceIte, Nat.reduceLT, Nat.reduceEqDiff, Nat.reduceAdd]) (by simp only [go_sem, reduceIte, Nat.reduceLT, Nat.reduceEqDiff, Nat.reduceAdd]))
    · replace h := ite_f h hb
      refine run_exit ?_
      refine thenK_x ?_
      obtain rfl := Option.some.inj h
      have ex_x_46 := hxx_50 _ rfl
      subst ex_x_46
      have h := hj_48; clear hj_48
      refine lpK_x ?_
      refine blockK_x ?_
      obtain rfl := Option.some.inj h
      exact joinK_n (()) rfl ((weak_sel (l' := [(0, .str s_9)]) (σ' := []) [] (by decide) rfl (by simp only [go_sem, reduceIte, Nat.reduceLT, Nat.reduceEqDiff, Nat.reduceAdd]) (by simp only [go_sem, reduceIte, Nat.reduceLT, Nat.reduceEqDiff, Nat.reduceAdd])).trans (weak_sel [] (by decide) rfl (by simp only [go_sem, reduceIte, Nat.reduceLT, Nat.reduceEqDiff, Nat.reduceAdd]) (by simp only [go_sem, reduceIte, Nat.reduceLT, Nat.reduceEqDiff, Nat.reduceAdd])))
  rintro ⟨⟩ rfl
  have h := hj_34; clear hj_34
  refine run_textE hE [4] (fr' := [(4, i64 ((s_9.length : Int)))]) (σ' := []) ⟨_, orcs_nil, ?_⟩ ?_
  · simp only [go_sem, reduceIte, Nat.reduceLT, Nat.reduceEqDiff, Nat.reduceAdd]
  refine run_ret ?_
  obtain rfl := Option.some.inj h
  refine ret_ok (.inr rfl) ?_
  simp only [go_sem, reduceIte, Nat.reduceLT, Nat.reduceEqDiff, Nat.reduceAdd]

theorem tlex_token_1_con {c_56 : UInt8} {r : Bool} (h : tlex_token_1 c_56 = some r) : Con (B rs) 31 [u8 c_56] [] (fun r' σ' => r' = .bool r ∧ σ' = []) := by
  refine con_walk (N := 9) (rs := [.tmp 2]) ok Tryd.func31 rfl (by decide +kernel) rfl rfl (Nat.le_of_ble_eq_true rfl) (fun F => ?_)
  have hE := (ok (rs := rs)).env F
  unfold tlex_token_1 at h
  show Run ((B rs).env F) 0 _ ⟨asFr 9 [(0, u8 c_56)], []⟩ _
  refine run_textE hE [0] (fr' := [(0, u8 c_56)]) (σ' := []) ⟨_, orcs_nil, ?_⟩ ?_
  · simp only [go_sem, reduceIte, Nat.reduceLT, Nat.reduceEqDiff, Nat.reduceAdd]
  replace h := bind_some1 h; obtain ⟨t_59, hv_60, h⟩ := h
  refine run_textW hE [2] (fr' := [(2, .bool t_59)]) (σ' := []) ?_ ?_
  · replace hv_60 := bind_some1 hv_60; obtain ⟨y_57, hy_61, hv_60⟩ := hv_60
    rcases Bool.eq_false_or_eq_true y_57 with hb_62 | hb_62
    · replace hv_60 := ite_t hv_60 hb_62
      have e_hv_60 := Option.some.inj hv_60; subst e_hv_60
      exact ⟨_, [(2, .bool true)], [], orcs_ok (l := [(4, 29, [u8 c_56], .bool y_57)]) ⟨tlex_letter_con  hy_61, trivial⟩, by simp only [go_sem, reduceIte, Nat.reduceLT, Nat.reduceEqDiff, Nat.reduceAdd, hb_62], (weak_sel [] (by decide) rfl (by simp only [go_sem, reduceIte, Nat.reduceLT, Nat.reduceEqDiff, Nat.reduceAdd]) (by simp only [go_sem, reduceIte, Nat.reduceLT, Nat.reduceEqDiff, Nat.reduceAdd]))⟩
    · replace hv_60 := ite_f hv_60 hb_62
      replace hv_60 := bind_some1 hv_60; obtain ⟨y_58, hy_63, hv_60⟩ := hv_60
      have e_hv_60 := Option.some.inj hv_60; subst e_hv_60
      exact ⟨_, [(2, .bool y_58)], [], orcs_ok (l := [(4, 29, [u8 c_56], .bool y_57), (7, 32, [u8 c_56], .bool y_58)]) ⟨tlex_letter_con  hy_61, tlex_digit_con  hy_63, trivial⟩, by simp only [go_sem, reduceIte, Nat.reduceLT, Nat.reduceEqDiff, Nat.reduceAdd, hb_62], (weak_sel [] (by decide) rfl (by simp only [go_sem, reduceIte, Nat.reduceLT, Nat.reduceEqDiff, Nat.reduceAdd]) (by simp only [go_sem, reduceIte, Nat.reduceLT, Nat.reduceEqDiff, Nat.reduceAdd]))⟩
  refine run_ret ?_
  obtain rfl := Option.some.inj h
  refine ret_ok (.inr rfl) ?_
  simp only [go_sem, reduceIte, Nat.reduceLT, Nat.reduceEqDiff, Nat.reduceAdd]

theorem tlex_number_con {s_64 : List UInt8} {r : Int × Int} (h : tlex_number s_64 = some r) : Con (B rs) 33 [.str s_64] [] (fun r' σ' => r' = .tup [i64 r.1, i64 r.2] ∧ σ' = []) := by
  refine con_walk (N := 31) (rs := [.tmp 2, .tmp 3]) ok Tryd.func33 rfl (by decide +kernel) rfl rfl (Nat.le_of_ble_eq_true rfl) (fun F => ?_)
  have hE := (ok (rs := rs)).env F
  unfold tlex_number at h
  show Run ((B rs).env F) 0 _ ⟨asFr 31 [(0, .str s_64)], []⟩ _
  refine run_textE hE [0] (fr' := [(0, .str s_64)]) (σ' := []) ⟨_, orcs_nil, ?_⟩ ?_
  · simp only [go_sem, reduceIte, Nat.reduceLT, Nat.reduceEqDiff, Nat.reduceAdd]
  refine run_seq ?_
  replace h := bind_some1 h; obtain ⟨t_65, hv_66, h⟩ := h
  refine run_textW hE [0, 13] (fr' := [(0, .str s_64), (13, .bool t_65)]) (σ' := []) ?_ ?_
  · rcases Bool.eq_false_or_eq_true ((decide ((s_64.length : Int) > 1))) with hb_67 | hb_67
    · replace hv_66 := ite_t hv_66 hb_67
      replace hv_66 := chk_some hv_66; obtain ⟨hc_68, hv_66⟩ := hv_66
      have e_hv_66 := Option.some.inj hv_66; subst e_hv_66
      exact ⟨_, [(0, .str s_64), (13, .bool (((nth s_64 0) == (48 : UInt8))))], [], orcs_nil, by simp only [go_sem, reduceIte, Nat.reduceLT, Nat.reduceEqDiff, Nat.reduceAdd, Int.reduceToNat, hb_67, hc_68, (show 0 < s_64.length from hc_68.2)], (weak_sel [] (by decide) rfl (by simp only [go_sem, reduceIte, Nat.reduceLT, Nat.reduceEqDiff, Nat.reduceAdd]) (by simp only [go_sem, reduceIte, Nat.reduceLT, Nat.reduceEqDiff, Nat.reduceAdd]))⟩
    · replace hv_66 := ite_f hv_66 hb_67
      have e_hv_66 := Option.some.inj hv_66; subst e_hv_66
      exact ⟨_, [(0, .str s_64), (13, .bool false)], [], orcs_nil, by simp only [go_sem, reduceIte, Nat.reduceLT, Nat.reduceEqDiff, Nat.reduceAdd, Int.reduceToNat, hb_67], (weak_sel [] (by decide) rfl (by simp only [go_sem, reduceIte, Nat.reduceLT, Nat.reduceEqDiff, Nat.reduceAdd]) (by simp only [go_sem, reduceIte, Nat.reduceLT, Nat.reduceEqDiff, Nat.reduceAdd]))⟩
  refine run_condL (b := t_65) rfl (by decide) (fun hb => ?_) (fun hb => ?_)
  · replace h := ite_t h hb
    refine run_textE hE [2, 3] (fr' := [(2, i64 0), (3, i64 150)]) (σ' := []) ⟨_, orcs_nil, ?_⟩ ?_
    · simp only [go_sem, reduceIte, Nat.reduceLT, Nat.reduceEqDiff, Nat.reduceAdd]
    refine run_ret ?_
    refine thenK_r ?_
    obtain rfl := Option.some.inj h
    refine ret_ok (.inr rfl) ?_
    simp only [go_sem, reduceIte, Nat.reduceLT, Nat.reduceEqDiff, Nat.reduceAdd]
  · replace h := ite_f h hb
    refine run_skip ?_
    refine thenK_n ?_
    refine run_textE hE [0, 4] (fr' := [(0, .str s_64), (4, i64 0)]) (σ' := []) ⟨_, orcs_nil, ?_⟩ ?_
    · simp only [go_sem, reduceIte, Nat.reduceLT, Nat.reduceEqDiff, Nat.reduceAdd]
    replace h := bind_some1 h; obtain ⟨j_93, hA_94, hj_95⟩ := h
    refine run_join (fun (v : Int) => (⟨asFr 31 [(4, i64 v)], []⟩ : St)) (fun v => .inl v = j_93) ?_ ?_
    · have h := hA_94; clear hA_94
      refine run_textE hE [0, 4, 15, 16] (fr' := [(0, .str s_64), (4, i64 0), (15, i64 ((s_64.length : Int))), (16, i64 0)]) (σ' := []) ⟨_, orcs_nil, ?_⟩ ?_
      · simp only [go_sem, reduceIte, Nat.reduceLT, Nat.reduceEqDiff, Nat.reduceAdd]
      refine run_block ?_
      replace h := bind_some1 h; obtain ⟨x_109, hx_110, hj_111⟩ := h
      refine run_loopO hx_110 (fun (v : Int × Int) => (⟨asFr 31 [(0, .str s_64), (4, i64 v.1), (15, i64 ((s_64.length : Int))), (16, i64 v.2)], []⟩ : St)) (weak_sel [] (by decide) rfl (by simp only [go_sem, reduceIte, Nat.reduceLT, Nat.reduceEqDiff, Nat.reduceAdd]) (by simp only [go_sem, reduceIte, Nat.reduceLT, Nat.reduceEqDiff, Nat.reduceAdd])) ?_
      rintro ⟨n_101, t_102⟩ o_112 h hxx_113
      replace h : tlex_number_b1 s_64 n_101 t_102 = some o_112 := h
      unfold tlex_number_b1 at h
      refine run_textE hE [0, 4, 15, 16, 17] (fr' := [(0, .str s_64), (4, i64 n_101), (15, i64 ((s_64.length : Int))), (16, i64 t_102), (17, .bool ((decide (t_102 < (s_64.length : Int)))))]) (σ' := []) ⟨_, orcs_nil, ?_⟩ ?_
      · simp only [go_sem, reduceIte, Nat.reduceLT, Nat.reduceEqDiff, Nat.reduceAdd]
      refine run_seq ?_
      refine run_condL (b := (decide (t_102 < (s_64.length : Int)))) rfl (by decide) (fun hb => ?_) (fun hb => ?_)
      · replace h := ite_t h hb
        refine run_skip ?_
        refine thenK_n ?_
        refine run_seq ?_
        refine run_block ?_
        refine run_textE hE [0, 4, 5, 15, 16] (fr' := [(0, .str s_64), (4, i64 n_101), (5, i64 t_102), (15, i64 ((s_64.length : Int))), (16, i64 t_102)]) (σ' := []) ⟨_, orcs_nil, ?_⟩ ?_
        · simp only [go_sem, reduceIte, Nat.reduceLT, Nat.reduceEqDiff, Nat.reduceAdd]
        replace h := chk_some h; obtain ⟨hc_114, h⟩ := h
        replace h := lt1_some h; obtain ⟨n_115, hz_116, h⟩ := h
        refine run_textE hE [0, 4, 15, 16] (fr' := [(0, .str s_64), (4, i64 n_115), (15, i64 ((s_64.length : Int))), (16, i64 t_102)]) (σ' := []) ⟨_, orcs_nil, ?_⟩ ?_
        · subst hz_116; simp only [go_sem, reduceIte, Nat.reduceLT, Nat.reduceEqDiff, Nat.reduceAdd, Int.reduceToNat, hc_114, hc_114.2, lt_le hc_114.2]
        refine run_textE hE [0, 4, 15, 16, 28] (fr' := [(0, .str s_64), (4, i64 n_115), (15, i64 ((s_64.length : Int))), (16, i64 t_102), (28, .bool ((decide (n_115 > 1099511627776))))]) (σ' := []) ⟨_, orcs_nil, ?_⟩ ?_
        · simp only [go_sem, reduceIte, Nat.reduceLT, Nat.reduceEqDiff, Nat.reduceAdd]
        refine run_condL (b := (decide (n_115 > 1099511627776))) rfl (by decide) (fun hb => ?_) (fun hb => ?_)
        · replace h := ite_t h hb
          refine run_textE hE [2, 3] (fr' := [(2, i64 0), (3, i64 2)]) (σ' := []) ⟨_, orcs_nil, ?_⟩ ?_
          · simp only [go_sem, reduceIte, Nat.reduceLT, Nat.reduceEqDiff, Nat.reduceAdd]
          refine run_ret ?_
          refine blockK_r ?_
          refine thenK_r ?_
          refine lpK_r ?_
          replace h := bind_some1 h; obtain ⟨z_118, h, e_z_118⟩ := h
          obtain rfl := Option.some.inj e_z_118
          have ex_z_118 := hxx_113 _ rfl
          subst ex_z_118
          obtain rfl := Option.some.inj hj_111
          refine blockK_r ?_
          refine joinK_r ?_
          replace h := bind_some1 h; obtain ⟨z_117, h, e_z_117⟩ := h
          obtain rfl := Option.some.inj e_z_117
          obtain rfl := Option.some.inj hj_95
          obtain rfl := Option.some.inj h
          refine ret_ok (.inr rfl) ?_
          simp only [go_sem, reduceIte, Nat.reduceLT, Nat.reduceEqDiff, Nat.reduceAdd]
        · replace h := ite_f h hb
          refine run_skip ?_
          refine blockK_n ?_
          refine thenK_n ?_
          refine run_textE0 hE wk_lp [0, 4, 15, 16] (fr' := [(0, .str s_64), (4, i64 n_115), (15, i64 ((s_64.length : Int))), (16, i64 ((w64 (t_102 + 1))))]) (σ' := []) ⟨_, orcs_nil, ?_⟩ ?_
          · simp only [go_sem, reduceIte, Nat.reduceLT, Nat.reduceEqDiff, Nat.reduceAdd]
          obtain rfl := Option.some.inj h
          exact lpK_n ((n_115, (w64 (t_102 + 1)))) rfl (weak_sel [] (by decide) rfl (by simp only [go_sem, reduceIte, Nat.reduceLT, Nat.reduceEqDiff, Nat.reduceAdd]) (by simp only [go_sem, reduceIte, Nat.reduceLT, Nat.reduceEqDiff, Nat.reduceAdd]))
      · replace h := ite_f h hb
        refine run_exit ?_
        refine thenK_x ?_
        obtain rfl := Option.some.inj h
        have ex_x_109 := hxx_113 _ rfl
        subst ex_x_109
        have h := hj_111; clear hj_111
        refine lpK_x ?_
        refine blockK_x ?_
        obtain rfl := Option.some.inj h
        exact joinK_n n_101 rfl ((weak_sel (l' := [(4, i64 n_101)]) (σ' := []) [] (by decide) rfl (by simp only [go_sem, reduceIte, Nat.reduceLT, Nat.reduceEqDiff, Nat.reduceAdd]) (by simp only [go_sem, reduceIte, Nat.reduceLT, Nat.reduceEqDiff, Nat.reduceAdd])).trans (weak_sel [] (by decide) rfl (by simp only [go_sem, reduceIte, Nat.reduceLT, Nat.reduceEqDiff, Nat.reduceAdd]) (by simp only [go_sem, reduceIte, Nat.reduceLT, Nat.reduceEqDiff, Nat.reduceAdd])))
    rintro n_92 rfl
    have h := hj_95; clear hj_95
    refine run_textE hE [2, 3] (fr' := [(2, i64 n_92), (3, i64 0)]) (σ' := []) ⟨_, orcs_nil, ?_⟩ ?_
    · simp only [go_sem, reduceIte, Nat.reduceLT, Nat.reduceEqDiff, Nat.reduceAdd]
    refine run_ret ?_
    obtain rfl := Option.some.inj h
    refine ret_ok (.inr rfl) ?_
    simp only [go_sem, reduceIte, Nat.reduceLT, Nat.reduceEqDiff, Nat.reduceAdd]

theorem bytealg_IndexByteString_con {l : List UInt8} {c : UInt8} {r : Int} (h : bytealg_IndexByteString l c = some r) : Con (B rs) 42 [.str l, u8 c] [] (fun r' σ' => r' = i64 r ∧ σ' = []) :=
  con_indexString Tryd.func42 (by decide +kernel) rfl (by kernel_rfl) (by kernel_rfl) h

theorem stringslite_IndexByte_con {s_119 : List UInt8} {c_120 : UInt8} {r : Int} (h : stringslite_IndexByte s_119 c_120 = some r) : Con (B rs) 28 [.str s_119, u8 c_120] [] (fun r' σ' => r' = i64 r ∧ σ' = []) := by
  refine con_walk (N := 8) (rs := [.tmp 4]) ok Tryd.func28 rfl (by decide +kernel) rfl rfl (Nat.le_of_ble_eq_true rfl) (fun F => ?_)
  have hE := (ok (rs := rs)).env F
  unfold stringslite_IndexByte at h
  show Run ((B rs).env F) 0 _ ⟨asFr 8 [(0, .str s_119), (1, u8 c_120)], []⟩ _
  refine run_textE hE [0, 1] (fr' := [(0, .str s_119), (1, u8 c_120)]) (σ' := []) ⟨_, orcs_nil, ?_⟩ ?_
  · simp only [go_sem, reduceIte, Nat.reduceLT, Nat.reduceEqDiff, Nat.reduceAdd]
  replace h := bind_some1 h; obtain ⟨y_121, hy_122, h⟩ := h
  refine run_textE hE [4] (fr' := [(4, i64 y_121)]) (σ' := []) ⟨_, orcs_ok (l := [(7, 42, [.str s_119, u8 c_120], i64 y_121)]) ⟨bytealg_IndexByteString_con  hy_122, trivial⟩, ?_⟩ ?_
  · simp only [go_sem, reduceIte, Nat.reduceLT, Nat.reduceEqDiff, Nat.reduceAdd]
  refine run_ret ?_
  obtain rfl := Option.some.inj h
  refine ret_ok (.inr rfl) ?_
  simp only [go_sem, reduceIte, Nat.reduceLT, Nat.reduceEqDiff, Nat.reduceAdd]

theorem strings_IndexByte_con {s_123 : List UInt8} {c_124 : UInt8} {r : Int} (h : strings_IndexByte s_123 c_124 = some r) : Con (B rs) 21 [.str s_123, u8 c_124] [] (fun r' σ' => r' = i64 r ∧ σ' = []) := by
  refine con_walk (N := 8) (rs := [.tmp 4]) ok Tryd.func21 rfl (by decide +kernel) rfl rfl (Nat.le_of_ble_eq_true rfl) (fun F => ?_)
  have hE := (ok (rs := rs)).env F
  unfold strings_IndexByte at h
  show Run ((B rs).env F) 0 _ ⟨asFr 8 [(0, .str s_123), (1, u8 c_124)], []⟩ _
  refine run_textE hE [0, 1] (fr' := [(0, .str s_123), (1, u8 c_124)]) (σ' := []) ⟨_, orcs_nil, ?_⟩ ?_
  · simp only [go_sem, reduceIte, Nat.reduceLT, Nat.reduceEqDiff, Nat.reduceAdd]
  replace h := bind_some1 h; obtain ⟨y_125, hy_126, h⟩ := h
  refine run_textE hE [4] (fr' := [(4, i64 y_125)]) (σ' := []) ⟨_, orcs_ok (l := [(7, 28, [.str s_123, u8 c_124], i64 y_125)]) ⟨stringslite_IndexByte_con  hy_126, trivial⟩, ?_⟩ ?_
  · simp only [go_sem, reduceIte, Nat.reduceLT, Nat.reduceEqDiff, Nat.reduceAdd]
  refine run_ret ?_
  obtain rfl := Option.some.inj h
  refine ret_ok (.inr rfl) ?_
  simp only [go_sem, reduceIte, Nat.reduceLT, Nat.reduceEqDiff, Nat.reduceAdd]

end Go.Proofs.YtballlkeogmoiaaDoor
/-
  The functions compute just that.
-/
namespace Go.Proofs.YtballlkeogmoiaaDoor
open Go.Rv
set_option linter.unusedVariables false
set_option linter.unusedSimpArgs false
set_option maxRecDepth 20000
variable {rs : Nat → Nat}
set_option maxHeartbeats 4000000

theorem stringslite_HasPrefix_con {s_127 : List UInt8} {prefix_128 : List UInt8} {r : Bool} (h : stringslite_HasPrefix s_127 prefix_128 = some r) : Con (B rs) 43 [.str s_127, .str prefix_128] [] (fun r' σ' => r' = .bool r ∧ σ' = []) := by
  refine con_walk (N := 18) (rs := [.tmp 4]) ok Tryd.func43 rfl (by decide +kernel) rfl rfl (Nat.le_of_ble_eq_true rfl) (fun F => ?_)
  have hE := (ok (rs := rs)).env F
  unfold stringslite_HasPrefix at h
  show Run ((B rs).env F) 0 _ ⟨asFr 18 [(0, .str s_127), (1, .str prefix_128)], []⟩ _
  refine run_textE hE [0, 1] (fr' := [(0, .str s_127), (1, .str prefix_128)]) (σ' := []) ⟨_, orcs_nil, ?_⟩ ?_
  · simp only [go_sem, reduceIte, Nat.reduceLT, Nat.reduceEqDiff, Nat.reduceAdd]
  replace h := bind_some1 h; obtain ⟨t_129, hv_130, h⟩ := h
  refine run_textW hE [4] (fr' := [(4, .bool t_129)]) (σ' := []) ?_ ?_
  · rcases Bool.eq_false_or_eq_true ((decide ((s_127.length : Int) ≥ (prefix_128.length : Int)))) with hb_131 | hb_131
    · replace hv_130 := ite_t hv_130 hb_131
      replace hv_130 := chk_some hv_130; obtain ⟨hc_132, hv_130⟩ := hv_130
      have e_hv_130 := Option.some.inj hv_130; subst e_hv_130
      exact ⟨_, [(4, .bool ((((s_127.take (((prefix_128.length : Int)).toNat))) == prefix_128)))], [], orcs_nil, by simp only [go_sem, reduceIte, Nat.reduceLT, Nat.reduceEqDiff, Nat.reduceAdd, Int.reduceToNat, hb_131, hc_132], (weak_sel [] (by decide) rfl (by simp only [go_sem, reduceIte, Nat.reduceLT, Nat.reduceEqDiff, Nat.reduceAdd]) (by simp only [go_sem, reduceIte, Nat.reduceLT, Nat.reduceEqDiff, Nat.reduceAdd]))⟩
    · replace hv_130 := ite_f hv_130 hb_131
      have e_hv_130 := Option.some.inj hv_130; subst e_hv_130
      exact ⟨_, [(4, .bool false)], [], orcs_nil, by simp only [go_sem, reduceIte, Nat.reduceLT, Nat.reduceEqDiff, Nat.reduceAdd, Int.reduceToNat, hb_131], (weak_sel [] (by decide) rfl (by simp only [go_sem, reduceIte, Nat.reduceLT, Nat.reduceEqDiff, Nat.reduceAdd]) (by simp only [go_sem, reduceIte, Nat.reduceLT, Nat.reduceEqDiff, Nat.reduceAdd]))⟩
  refine run_ret ?_
  obtain rfl := Option.some.inj h
  refine ret_ok (.inr rfl) ?_
  simp only [go_sem, reduceIte, Nat.reduceLT, Nat.reduceEqDiff, Nat.reduceAdd]

theorem strings_HasPrefix_con {s_133 : List UInt8} {prefix_134 : List UInt8} {r : Bool} (h : strings_HasPrefix s_133 prefix_134 = some r) : Con (B rs) 34 [.str s_133, .str prefix_134] [] (fun r' σ' => r' = .bool r ∧ σ' = []) := by
  refine con_walk (N := 8) (rs := [.tmp 4]) ok Tryd.func34 rfl (by decide +kernel) rfl rfl (Nat.le_of_ble_eq_true rfl) (fun F => ?_)
  have hE := (ok (rs := rs)).env F
  unfold strings_HasPrefix at h
  show Run ((B rs).env F) 0 _ ⟨asFr 8 [(0, .str s_133), (1, .str prefix_134)], []⟩ _
  refine run_textE hE [0, 1] (fr' := [(0, .str s_133), (1, .str prefix_134)]) (σ' := []) ⟨_, orcs_nil, ?_⟩ ?_
  · simp only [go_sem, reduceIte, Nat.reduceLT, Nat.reduceEqDiff, Nat.reduceAdd]
  replace h := bind_some1 h; obtain ⟨y_135, hy_136, h⟩ := h
  refine run_textE hE [4] (fr' := [(4, .bool y_135)]) (σ' := []) ⟨_, orcs_ok (l := [(7, 43, [.str s_133, .str prefix_134], .bool y_135)]) ⟨stringslite_HasPrefix_con  hy_136, trivial⟩, ?_⟩ ?_
  · simp only [go_sem, reduceIte, Nat.reduceLT, Nat.reduceEqDiff, Nat.reduceAdd]
  refine run_ret ?_
  obtain rfl := Option.some.inj h
  refine ret_ok (.inr rfl) ?_
  simp only [go_sem, reduceIte, Nat.reduceLT, Nat.reduceEqDiff, Nat.reduceAdd]

theorem tlex_token_con {s_137 : List UInt8} {r : Api_Token × Int} (h : tlex_token s_137 = some r) : Con (B rs) 22 [.str s_137] [] (fun r' σ' => r' = .tup [.agg [i64 r.1.Kind, .str r.1.Text, i64 r.1.N, i64 r.1.At], i64 r.2] ∧ σ' = []) := by
  refine con_walk (N := 55) (rs := [.cell 2 32, .tmp 3]) ok Tryd.func22 rfl (by decide +kernel) rfl rfl (Nat.le_of_ble_eq_true rfl) (fun F => ?_)
  have hE := (ok (rs := rs)).env F
  unfold tlex_token at h
  show Run ((B rs).env F) 0 _ ⟨asFr 55 [(0, .str s_137)], []⟩ _
  refine run_textE hE [0, 2] (fr' := [(0, .str s_137), (2, .ref 0 0)]) (σ' := [.box [i64 0, .str (([] : List UInt8)), i64 0, i64 0] false]) ⟨_, orcs_nil, ?_⟩ ?_
  · simp only [go_sem, reduceIte, Nat.reduceLT, Nat.reduceEqDiff, Nat.reduceAdd]
  refine run_seq ?_
  replace h := chk_some h; obtain ⟨hc_138, h⟩ := h
  refine run_textE hE [0, 2, 4] (fr' := [(0, .str s_137), (2, .ref 0 0), (4, u8 ((nth s_137 0)))]) (σ' := [.box [i64 0, .str (([] : List UInt8)), i64 0, i64 0] false]) ⟨_, orcs_nil, ?_⟩ ?_
  · simp only [go_sem, reduceIte, Nat.reduceLT, Nat.reduceEqDiff, Nat.reduceAdd, Int.reduceToNat, hc_138, (show 0 < s_137.length from hc_138.2)]
  refine run_block ?_
  replace h := bind_some1 h; obtain ⟨y_139, hy_140, h⟩ := h
  refine run_textE hE [0, 2, 4, 12] (fr' := [(0, .str s_137), (2, .ref 0 0), (4, u8 ((nth s_137 0))), (12, .bool y_139)]) (σ' := [.box [i64 0, .str (([] : List UInt8)), i64 0, i64 0] false]) ⟨_, orcs_ok (l := [(14, 29, [u8 ((nth s_137 0))], .bool y_139)]) ⟨tlex_letter_con  hy_140, trivial⟩, ?_⟩ ?_
  · simp only [go_sem, reduceIte, Nat.reduceLT, Nat.reduceEqDiff, Nat.reduceAdd]
  refine run_condL (b := y_139) rfl (by decide) (fun hb => ?_) (fun hb => ?_)
  · replace h := ite_t h hb
    replace h := bind_some1 h; obtain ⟨y_141, hy_142, h⟩ := h
    replace h := chk_some h; obtain ⟨hc_143, h⟩ := h
    refine run_textE hE [2, 5] (fr' := [(2, .ref 0 0), (5, .str ((s_137.take y_141.toNat)))]) (σ' := [.box [i64 0, .str (([] : List UInt8)), i64 0, i64 0] false]) ⟨_, orcs_ok (l := [(17, 30, [.str s_137, .fn 31 []], i64 y_141)]) ⟨tlex_span_con (fun h => tlex_token_1_con h) hy_142, trivial⟩, ?_⟩ ?_
    · simp only [go_sem, reduceIte, Nat.reduceLT, Nat.reduceEqDiff, Nat.reduceAdd, Int.reduceToNat, hc_143]
    refine run_seq ?_
    refine run_textE hE [2, 5, 21] (fr' := [(2, .ref 0 0), (5, .str ((s_137.take y_141.toNat))), (21, .bool ((decide ((((s_137.take y_141.toNat)).length : Int) > 32))))]) (σ' := [.box [i64 0, .str (([] : List UInt8)), i64 0, i64 0] false]) ⟨_, orcs_nil, ?_⟩ ?_
    · simp only [go_sem, reduceIte, Nat.reduceLT, Nat.reduceEqDiff, Nat.reduceAdd]
    refine run_condL (b := (decide ((((s_137.take y_141.toNat)).length : Int) > 32))) rfl (by decide) (fun hb => ?_) (fun hb => ?_)
    · replace h := ite_t h hb
      refine run_textE hE [2, 3] (fr' := [(2, .ref 0 0), (3, i64 2)]) (σ' := [.box [i64 0, .str (([] : List UInt8)), i64 0, i64 0] false]) ⟨_, orcs_nil, ?_⟩ ?_
      · simp only [go_sem, reduceIte, Nat.reduceLT, Nat.reduceEqDiff, Nat.reduceAdd, Nat.reduceGT, Nat.reduceLeDiff]
      refine run_ret ?_
      refine thenK_r ?_
      refine blockK_r ?_
      refine thenK_r ?_
      obtain rfl := Option.some.inj h
      refine ret_ok (.inr rfl) ?_
      simp only [go_sem, reduceIte, Nat.reduceLT, Nat.reduceEqDiff, Nat.reduceAdd]
    · replace h := ite_f h hb
      refine run_skip ?_
      refine thenK_n ?_
      refine run_textE hE [2, 3] (fr' := [(2, .ref 0 0), (3, i64 0)]) (σ' := [.box [i64 1, .str ((s_137.take y_141.toNat)), i64 0, i64 0] false]) ⟨_, orcs_nil, ?_⟩ ?_
      · simp only [go_sem, reduceIte, Nat.reduceLT, Nat.reduceEqDiff, Nat.reduceAdd, Nat.reduceGT, Nat.reduceLeDiff]
      refine run_ret ?_
      refine blockK_r ?_
      refine thenK_r ?_
      obtain rfl := Option.some.inj h
      refine ret_ok (.inr rfl) ?_
      simp only [go_sem, reduceIte, Nat.reduceLT, Nat.reduceEqDiff, Nat.reduceAdd]
  · replace h := ite_f h hb
    replace h := bind_some1 h; obtain ⟨y_144, hy_145, h⟩ := h
    refine run_textE hE [0, 2, 25] (fr' := [(0, .str s_137), (2, .ref 0 0), (25, .bool y_144)]) (σ' := [.box [i64 0, .str (([] : List UInt8)), i64 0, i64 0] false]) ⟨_, orcs_ok (l := [(27, 32, [u8 ((nth s_137 0))], .bool y_144)]) ⟨tlex_digit_con  hy_145, trivial⟩, ?_⟩ ?_
    · simp only [go_sem, reduceIte, Nat.reduceLT, Nat.reduceEqDiff, Nat.reduceAdd]
    refine run_condL (b := y_144) rfl (by decide) (fun hb => ?_) (fun hb => ?_)
    · replace h := ite_t h hb
      replace h := bind_some1 h; obtain ⟨y_146, hy_147, h⟩ := h
      replace h := chk_some h; obtain ⟨hc_148, h⟩ := h
      refine run_textE hE [2, 6] (fr' := [(2, .ref 0 0), (6, .str ((s_137.take y_146.toNat)))]) (σ' := [.box [i64 0, .str (([] : List UInt8)), i64 0, i64 0] false]) ⟨_, orcs_ok (l := [(30, 30, [.str s_137, .fn 32 []], i64 y_146)]) ⟨tlex_span_con (fun h => tlex_digit_con h) hy_147, trivial⟩, ?_⟩ ?_
      · simp only [go_sem, reduceIte, Nat.reduceLT, Nat.reduceEqDiff, Nat.reduceAdd, Int.reduceToNat, hc_148]
      replace h := bind_some1 h; obtain ⟨y_149, hy_150, h⟩ := h
      refine run_textE hE [2, 6, 7, 8] (fr' := [(2, .ref 0 0), (6, .str ((s_137.take y_146.toNat))), (7, i64 y_149.1), (8, i64 y_149.2)]) (σ' := [.box [i64 0, .str (([] : List UInt8)), i64 0, i64 0] false]) ⟨_, orcs_ok (l := [(34, 33, [.str ((s_137.take y_146.toNat))], .tup [i64 y_149.1, i64 y_149.2])]) ⟨tlex_number_con  hy_150, trivial⟩, ?_⟩ ?_
      · simp only [go_sem, reduceIte, Nat.reduceLT, Nat.reduceEqDiff, Nat.reduceAdd]
      refine run_textE hE [2, 3] (fr' := [(2, .ref 0 0), (3, i64 y_149.2)]) (σ' := [.box [i64 2, .str ((s_137.take y_146.toNat)), i64 y_149.1, i64 0] false]) ⟨_, orcs_nil, ?_⟩ ?_
      · simp only [go_sem, reduceIte, Nat.reduceLT, Nat.reduceEqDiff, Nat.reduceAdd, Nat.reduceGT, Nat.reduceLeDiff]
      refine run_ret ?_
      refine blockK_r ?_
      refine thenK_r ?_
      obtain rfl := Option.some.inj h
      refine ret_ok (.inr rfl) ?_
      simp only [go_sem, reduceIte, Nat.reduceLT, Nat.reduceEqDiff, Nat.reduceAdd]
    · replace h := ite_f h hb
      refine run_skip ?_
      refine blockK_n ?_
      refine thenK_n ?_
      refine run_seq ?_
      replace h := chk_some h; obtain ⟨hc_151, h⟩ := h
      refine run_drawE hE mixed [[], [], [1], [0, 1, 2], [0, 1, 2, 3]] (by kernel_rfl) (by kernel_rfl) [0, 2, 9] (fr' := [(0, .str s_137), (2, .ref 0 0), (9, .str ((tabGet ([] : List UInt8) tab1 ((nth s_137 0)))))]) (σ' := [.box [i64 0, .str (([] : List UInt8)), i64 0, i64 0] false]) ⟨_, orcs_nil, ?_⟩ ?_
      · simp only [go_sem, reduceIte, Nat.reduceLT, Nat.reduceEqDiff, Nat.reduceAdd, Int.reduceToNat, hc_151, (show 0 < s_137.length from hc_151.2)]
      replace h := bind_some1 h; obtain ⟨t_153, hv_154, h⟩ := h
      refine run_textW hE [2, 9, 51] (fr' := [(2, .ref 0 0), (9, .str ((tabGet ([] : List UInt8) tab1 ((nth s_137 0))))), (51, .bool t_153)]) (σ' := [.box [i64 0, .str (([] : List UInt8)), i64 0, i64 0] false]) ?_ ?_
      · rcases Bool.eq_false_or_eq_true ((!(((tabGet ([] : List UInt8) tab1 ((nth s_137 0)))) == (([] : List UInt8))))) with hb_155 | hb_155
        · replace hv_154 := ite_t hv_154 hb_155
          replace hv_154 := bind_some1 hv_154; obtain ⟨y_152, hy_156, hv_154⟩ := hv_154
          have e_hv_154 := Option.some.inj hv_154; subst e_hv_154
          exact ⟨_, [(2, .ref 0 0), (9, .str ((tabGet ([] : List UInt8) tab1 ((nth s_137 0))))), (51, .bool y_152)], [.box [i64 0, .str (([] : List UInt8)), i64 0, i64 0] false], orcs_ok (l := [(50, 34, [.str s_137, .str ((tabGet ([] : List UInt8) tab1 ((nth s_137 0))))], .bool y_152)]) ⟨strings_HasPrefix_con  hy_156, trivial⟩, by simp only [go_sem, reduceIte, Nat.reduceLT, Nat.reduceEqDiff, Nat.reduceAdd, hb_155], (weak_sel [0] (by decide) rfl (by simp only [go_sem, reduceIte, Nat.reduceLT, Nat.reduceEqDiff, Nat.reduceAdd]) (by simp only [go_sem, reduceIte, Nat.reduceLT, Nat.reduceEqDiff, Nat.reduceAdd]))⟩
        · replace hv_154 := ite_f hv_154 hb_155
          have e_hv_154 := Option.some.inj hv_154; subst e_hv_154
          exact ⟨_, [(2, .ref 0 0), (9, .str ((tabGet ([] : List UInt8) tab1 ((nth s_137 0))))), (51, .bool false)], [.box [i64 0, .str (([] : List UInt8)), i64 0, i64 0] false], orcs_nil, by simp only [go_sem, reduceIte, Nat.reduceLT, Nat.reduceEqDiff, Nat.reduceAdd, hb_155], (weak_sel [0] (by decide) rfl (by simp only [go_sem, reduceIte, Nat.reduceLT, Nat.reduceEqDiff, Nat.reduceAdd]) (by simp only [go_sem, reduceIte, Nat.reduceLT, Nat.reduceEqDiff, Nat.reduceAdd]))⟩
      refine run_condL (b := t_153) rfl (by decide) (fun hb => ?_) (fun hb => ?_)
      · replace h := ite_t h hb
        replace h := lt1_some h; obtain ⟨f_157, hz_158, h⟩ := h
        refine run_textE hE [2, 3] (fr' := [(2, .ref 0 0), (3, i64 0)]) (σ' := [.box [i64 3, .str f_157, i64 0, i64 0] false]) ⟨_, orcs_nil, ?_⟩ ?_
        · subst hz_158; simp only [go_sem, reduceIte, Nat.reduceLT, Nat.reduceEqDiff, Nat.reduceAdd, Nat.reduceGT, Nat.reduceLeDiff]
        refine run_ret ?_
        refine thenK_r ?_
        obtain rfl := Option.some.inj h
        refine ret_ok (.inr rfl) ?_
        simp only [go_sem, reduceIte, Nat.reduceLT, Nat.reduceEqDiff, Nat.reduceAdd]
      · replace h := ite_f h hb
        refine run_skip ?_
        refine thenK_n ?_
        refine run_textE hE [2, 3] (fr' := [(2, .ref 0 0), (3, i64 150)]) (σ' := [.box [i64 0, .str (([] : List UInt8)), i64 0, i64 0] false]) ⟨_, orcs_nil, ?_⟩ ?_
        · simp only [go_sem, reduceIte, Nat.reduceLT, Nat.reduceEqDiff, Nat.reduceAdd, Nat.reduceGT, Nat.reduceLeDiff]
        refine run_ret ?_
        obtain rfl := Option.some.inj h
        refine ret_ok (.inr rfl) ?_
        simp only [go_sem, reduceIte, Nat.reduceLT, Nat.reduceEqDiff, Nat.reduceAdd]

end Go.Proofs.YtballlkeogmoiaaDoor
/-
  The functions compute just that.
-/
namespace Go.Proofs.YtballlkeogmoiaaDoor
open Go.Rv
set_option linter.unusedVariables false
set_option linter.unusedSimpArgs false
set_option maxRecDepth 20000
variable {rs : Nat → Nat}
set_option maxHeartbeats 4000000

theorem tlex_Tokens_con {src_159 : List UInt8} {r : List Api_Token × Int × Int} (h : tlex_Tokens src_159 = some r) : Con (B rs) 11 [.str src_159] [] (fun r' σ' => r' = .tup [.sl false (L cApi_Token r.1), i64 r.2.1, i64 r.2.2] ∧ σ' = []) := by
  refine con_walk (N := 62) (rs := [.tmp 2, .tmp 3, .tmp 4]) ok Tryd.func11 rfl (by decide +kernel) rfl rfl (Nat.le_of_ble_eq_true rfl) (fun F => ?_)
  have hE := (ok (rs := rs)).env F
  unfold tlex_Tokens at h
  show Run ((B rs).env F) 0 _ ⟨asFr 62 [(0, .str src_159)], []⟩ _
  refine run_textE hE [0] (fr' := [(0, .str src_159)]) (σ' := []) ⟨_, orcs_nil, ?_⟩ ?_
  · simp only [go_sem, reduceIte, Nat.reduceLT, Nat.reduceEqDiff, Nat.reduceAdd]
  refine run_scope ?_
  refine run_seq ?_
  refine run_textE hE [0, 12] (fr' := [(0, .str src_159), (12, .bool ((decide ((src_159.length : Int) > 2000))))]) (σ' := []) ⟨_, orcs_nil, ?_⟩ ?_
  · simp only [go_sem, reduceIte, Nat.reduceLT, Nat.reduceEqDiff, Nat.reduceAdd]
  refine run_condL (b := (decide ((src_159.length : Int) > 2000))) rfl (by decide) (fun hb => ?_) (fun hb => ?_)
  · replace h := ite_t h hb
    refine run_textE hE [2, 3, 4] (fr' := [(2, .sl true (L cApi_Token ([]))), (3, i64 0), (4, i64 2)]) (σ' := []) ⟨_, orcs_nil, ?_⟩ ?_
    · simp only [go_sem, reduceIte, Nat.reduceLT, Nat.reduceEqDiff, Nat.reduceAdd]
    refine run_ret ?_
    refine thenK_r ?_
    refine scopeK_r ?_
    obtain rfl := Option.some.inj h
    refine ret_ok (.inr rfl) ?_
    simp only [go_sem, reduceIte, Nat.reduceLT, Nat.reduceEqDiff, Nat.reduceAdd]
  · replace h := ite_f h hb
    refine run_skip ?_
    refine thenK_n ?_
    refine run_textE hE [0, 5] (fr' := [(0, .str src_159), (5, .sl true (L cApi_Token ([])))]) (σ' := []) ⟨_, orcs_nil, ?_⟩ ?_
    · simp only [go_sem, reduceIte, Nat.reduceLT, Nat.reduceEqDiff, Nat.reduceAdd]
    refine run_textE hE [0, 5, 6] (fr' := [(0, .str src_159), (5, .sl true (L cApi_Token ([]))), (6, i64 0)]) (σ' := []) ⟨_, orcs_nil, ?_⟩ ?_
    · simp only [go_sem, reduceIte, Nat.reduceLT, Nat.reduceEqDiff, Nat.reduceAdd]
    refine run_seq ?_
    refine run_label ?_
    refine thenK_n ?_
    replace h := bind_some1 h; obtain ⟨j_229, hA_230, hj_231⟩ := h
    refine run_join (fun (v : List Api_Token) => (⟨asFr 62 [(5, .bs false 0 (v.length) 0 (v.length))], [.buf 4 (L cApi_Token v) false]⟩ : St)) (fun v => .inl v = j_229) ?_ ?_
    · have h := hA_230; clear hA_230
      refine run_block ?_
      replace h := bind_some1 h; obtain ⟨x_275, hx_276, hj_277⟩ := h
      refine run_loopO hx_276 (fun (v : Int × List Api_Token) => (⟨asFr 62 [(0, .str src_159), (5, .bs false 0 (v.2.length) 0 (v.2.length)), (6, i64 v.1)], [.buf 4 (L cApi_Token v.2) false]⟩ : St)) ((weak_nil 5 4 rfl).trans (weak_sel [0] (by decide) rfl (by simp only [go_sem, reduceIte, Nat.reduceLT, Nat.reduceEqDiff, Nat.reduceAdd]) (by simp only [go_sem, reduceIte, Nat.reduceLT, Nat.reduceEqDiff, Nat.reduceAdd]))) ?_
      rintro ⟨at_252, l_253⟩ o_278 h hxx_279
      replace h : tlex_Tokens_b1 src_159 at_252 l_253 = some o_278 := h
      unfold tlex_Tokens_b1 at h
      refine run_seq ?_
      refine run_textE hE [0, 5, 6, 16] (fr' := [(0, .str src_159), (5, .bs false 0 (l_253.length) 0 (l_253.length)), (6, i64 at_252), (16, .bool ((decide (at_252 < (src_159.length : Int)))))]) (σ' := [.buf 4 (L cApi_Token l_253) false]) ⟨_, orcs_nil, ?_⟩ ?_
      · simp only [go_sem, reduceIte, Nat.reduceLT, Nat.reduceEqDiff, Nat.reduceAdd]
      refine run_condL (b := (decide (at_252 < (src_159.length : Int)))) rfl (by decide) (fun hb => ?_) (fun hb => ?_)
      · replace h := ite_t h hb
        refine run_skip ?_
        refine thenK_n ?_
        refine run_block ?_
        refine run_seq ?_
        replace h := chk_some h; obtain ⟨hc_280, h⟩ := h
        refine run_textE hE [0, 5, 6, 19] (fr' := [(0, .str src_159), (5, .bs false 0 (l_253.length) 0 (l_253.length)), (6, i64 at_252), (19, u8 ((nth src_159 at_252.toNat)))]) (σ' := [.buf 4 (L cApi_Token l_253) false]) ⟨_, orcs_nil, ?_⟩ ?_
        · simp only [go_sem, reduceIte, Nat.reduceLT, Nat.reduceEqDiff, Nat.reduceAdd, Int.reduceToNat, hc_280, hc_280.2, lt_le hc_280.2]
        refine run_block ?_
        replace h := bind_some1 h; obtain ⟨j_282, hA_283, hj_284⟩ := h
        refine run_join (fun (v : Bool) => (⟨asFr 62 [(0, .str src_159), (5, .bs false 0 (l_253.length) 0 (l_253.length)), (6, i64 at_252), (19, u8 ((nth src_159 at_252.toNat))), (20, .bool v)], [.buf 4 (L cApi_Token l_253) false]⟩ : St)) (fun v => v = j_282) ?_ ?_
        · have h := hA_283; clear hA_283
          refine run_textE hE [0, 5, 6, 19, 20] (fr' := [(0, .str src_159), (5, .bs false 0 (l_253.length) 0 (l_253.length)), (6, i64 at_252), (19, u8 ((nth src_159 at_252.toNat))), (20, .bool (((nth src_159 at_252.toNat) == (32 : UInt8))))]) (σ' := [.buf 4 (L cApi_Token l_253) false]) ⟨_, orcs_nil, ?_⟩ ?_
          · simp only [go_sem, reduceIte, Nat.reduceLT, Nat.reduceEqDiff, Nat.reduceAdd]
          refine run_condL (b := ((nth src_159 at_252.toNat) == (32 : UInt8))) rfl (by decide) (fun hb => ?_) (fun hb => ?_)
          · replace h := ite_t h hb
            refine run_skip ?_
            obtain rfl := Option.some.inj h
            exact joinK_n (((nth src_159 at_252.toNat) == (32 : UInt8))) rfl (weak_sel [0] (by decide) rfl (by simp only [go_sem, reduceIte, Nat.reduceLT, Nat.reduceEqDiff, Nat.reduceAdd]) (by simp only [go_sem, reduceIte, Nat.reduceLT, Nat.reduceEqDiff, Nat.reduceAdd]))
          · replace h := ite_f h hb
            refine run_textE hE [0, 5, 6, 19, 20] (fr' := [(0, .str src_159), (5, .bs false 0 (l_253.length) 0 (l_253.length)), (6, i64 at_252), (19, u8 ((nth src_159 at_252.toNat))), (20, .bool (((nth src_159 at_252.toNat) == (9 : UInt8))))]) (σ' := [.buf 4 (L cApi_Token l_253) false]) ⟨_, orcs_nil, ?_⟩ ?_
            · simp only [go_sem, reduceIte, Nat.reduceLT, Nat.reduceEqDiff, Nat.reduceAdd]
            refine run_condL (b := ((nth src_159 at_252.toNat) == (9 : UInt8))) rfl (by decide) (fun hb => ?_) (fun hb => ?_)
            · replace h := ite_t h hb
              refine run_skip ?_
              obtain rfl := Option.some.inj h
              exact joinK_n (((nth src_159 at_252.toNat) == (9 : UInt8))) rfl (weak_sel [0] (by decide) rfl (by simp only [go_sem, reduceIte, Nat.reduceLT, Nat.reduceEqDiff, Nat.reduceAdd]) (by simp only [go_sem, reduceIte, Nat.reduceLT, Nat.reduceEqDiff, Nat.reduceAdd]))
            · replace h := ite_f h hb
              refine run_textE hE [0, 5, 6, 19, 20] (fr' := [(0, .str src_159), (5, .bs false 0 (l_253.length) 0 (l_253.length)), (6, i64 at_252), (19, u8 ((nth src_159 at_252.toNat))), (20, .bool (((nth src_159 at_252.toNat) == (13 : UInt8))))]) (σ' := [.buf 4 (L cApi_Token l_253) false]) ⟨_, orcs_nil, ?_⟩ ?_
              · simp only [go_sem, reduceIte, Nat.reduceLT, Nat.reduceEqDiff, Nat.reduceAdd]
              refine run_condL (b := ((nth src_159 at_252.toNat) == (13 : UInt8))) rfl (by decide) (fun hb => ?_) (fun hb => ?_)
              · replace h := ite_t h hb
                refine run_skip ?_
                obtain rfl := Option.some.inj h
                exact joinK_n (((nth src_159 at_252.toNat) == (13 : UInt8))) rfl (weak_sel [0] (by decide) rfl (by simp only [go_sem, reduceIte, Nat.reduceLT, Nat.reduceEqDiff, Nat.reduceAdd]) (by simp only [go_sem, reduceIte, Nat.reduceLT, Nat.reduceEqDiff, Nat.reduceAdd]))
              · replace h := ite_f h hb
                refine run_textE0 hE wk_join [0, 5, 6, 19, 20] (fr' := [(0, .str src_159), (5, .bs false 0 (l_253.length) 0 (l_253.length)), (6, i64 at_252), (19, u8 ((nth src_159 at_252.toNat))), (20, .bool (((nth src_159 at_252.toNat) == (10 : UInt8))))]) (σ' := [.buf 4 (L cApi_Token l_253) false]) ⟨_, orcs_nil, ?_⟩ ?_
                · simp only [go_sem, reduceIte, Nat.reduceLT, Nat.reduceEqDiff, Nat.reduceAdd]
                obtain rfl := Option.some.inj h
                exact joinK_n (((nth src_159 at_252.toNat) == (10 : UInt8))) rfl (weak_sel [0] (by decide) rfl (by simp only [go_sem, reduceIte, Nat.reduceLT, Nat.reduceEqDiff, Nat.reduceAdd]) (by simp only [go_sem, reduceIte, Nat.reduceLT, Nat.reduceEqDiff, Nat.reduceAdd]))
        rintro t_281 rfl
        have h := hj_284; clear hj_284
        refine run_condL (b := t_281) rfl (by decide) (fun hb => ?_) (fun hb => ?_)
        · replace h := ite_t h hb
          refine run_textE hE [0, 5, 6] (fr' := [(0, .str src_159), (5, .bs false 0 (l_253.length) 0 (l_253.length)), (6, i64 ((w64 (at_252 + 1))))]) (σ' := [.buf 4 (L cApi_Token l_253) false]) ⟨_, orcs_nil, ?_⟩ ?_
          · simp only [go_sem, reduceIte, Nat.reduceLT, Nat.reduceEqDiff, Nat.reduceAdd]
          refine run_exit ?_
          refine blockK_o ?_ rfl
          refine thenK_x ?_
          refine blockK_x ?_
          obtain rfl := Option.some.inj h
          exact lpK_n (((w64 (at_252 + 1)), l_253)) rfl (weak_sel [0] (by decide) rfl (by simp only [go_sem, reduceIte, Nat.reduceLT, Nat.reduceEqDiff, Nat.reduceAdd]) (by simp only [go_sem, reduceIte, Nat.reduceLT, Nat.reduceEqDiff, Nat.reduceAdd]))
        · replace h := ite_f h hb
          refine run_textE hE [0, 5, 6, 27] (fr' := [(0, .str src_159), (5, .bs false 0 (l_253.length) 0 (l_253.length)), (6, i64 at_252), (27, .bool (((nth src_159 at_252.toNat) == (35 : UInt8))))]) (σ' := [.buf 4 (L cApi_Token l_253) false]) ⟨_, orcs_nil, ?_⟩ ?_
          · simp only [go_sem, reduceIte, Nat.reduceLT, Nat.reduceEqDiff, Nat.reduceAdd]
          refine run_condL (b := ((nth src_159 at_252.toNat) == (35 : UInt8))) rfl (by decide) (fun hb => ?_) (fun hb => ?_)
          · replace h := ite_t h hb
            replace h := chk_some h; obtain ⟨hc_286, h⟩ := h
            replace h := bind_some1 h; obtain ⟨y_285, hy_287, h⟩ := h
            refine run_textE hE [0, 5, 6, 7] (fr' := [(0, .str src_159), (5, .bs false 0 (l_253.length) 0 (l_253.length)), (6, i64 at_252), (7, i64 y_285)]) (σ' := [.buf 4 (L cApi_Token l_253) false]) ⟨_, orcs_ok (l := [(32, 21, [.str (((src_159.drop at_252.toNat).take (src_159.length - at_252.toNat))), u8 ((10 : UInt8))], i64 y_285)]) ⟨strings_IndexByte_con  hy_287, trivial⟩, ?_⟩ ?_
            · simp only [go_sem, reduceIte, Nat.reduceLT, Nat.reduceEqDiff, Nat.reduceAdd, Int.reduceToNat, hc_286]
            refine run_seq ?_
            refine run_textE hE [0, 5, 6, 7, 34] (fr' := [(0, .str src_159), (5, .bs false 0 (l_253.length) 0 (l_253.length)), (6, i64 at_252), (7, i64 y_285), (34, .bool ((decide (y_285 < 0))))]) (σ' := [.buf 4 (L cApi_Token l_253) false]) ⟨_, orcs_nil, ?_⟩ ?_
            · simp only [go_sem, reduceIte, Nat.reduceLT, Nat.reduceEqDiff, Nat.reduceAdd]
            refine run_condL (b := (decide (y_285 < 0))) rfl (by decide) (fun hb => ?_) (fun hb => ?_)
            · replace h := ite_t h hb
              refine run_exit ?_
              refine thenK_x ?_
              refine blockK_o ?_ rfl
              refine thenK_x ?_
              refine blockK_o ?_ rfl
              obtain rfl := Option.some.inj h
              have ex_x_275 := hxx_279 _ rfl
              subst ex_x_275
              have h := hj_277; clear hj_277
              refine lpK_x ?_
              refine blockK_x ?_
              obtain rfl := Option.some.inj h
              exact joinK_n l_253 rfl ((weak_sel (l' := [(5, .bs false 0 (l_253.length) 0 (l_253.length))]) (σ' := [.buf 4 (L cApi_Token l_253) false]) [0] (by decide) rfl (by simp only [go_sem, reduceIte, Nat.reduceLT, Nat.reduceEqDiff, Nat.reduceAdd]) (by simp only [go_sem, reduceIte, Nat.reduceLT, Nat.reduceEqDiff, Nat.reduceAdd])).trans (weak_sel [0] (by decide) rfl (by simp only [go_sem, reduceIte, Nat.reduceLT, Nat.reduceEqDiff, Nat.reduceAdd]) (by simp only [go_sem, reduceIte, Nat.reduceLT, Nat.reduceEqDiff, Nat.reduceAdd])))
            · replace h := ite_f h hb
              refine run_skip ?_
              refine thenK_n ?_
              replace h := lt1_some h; obtain ⟨at_288, hz_289, h⟩ := h
              refine run_textE hE [0, 5, 6] (fr' := [(0, .str src_159), (5, .bs false 0 (l_253.length) 0 (l_253.length)), (6, i64 at_288)]) (σ' := [.buf 4 (L cApi_Token l_253) false]) ⟨_, orcs_nil, ?_⟩ ?_
              · subst hz_289; simp only [go_sem, reduceIte, Nat.reduceLT, Nat.reduceEqDiff, Nat.reduceAdd]
              refine run_exit ?_
              refine blockK_o ?_ rfl
              refine thenK_x ?_
              refine blockK_x ?_
              obtain rfl := Option.some.inj h
              exact lpK_n ((at_288, l_253)) rfl (weak_sel [0] (by decide) rfl (by simp only [go_sem, reduceIte, Nat.reduceLT, Nat.reduceEqDiff, Nat.reduceAdd]) (by simp only [go_sem, reduceIte, Nat.reduceLT, Nat.reduceEqDiff, Nat.reduceAdd]))
          · replace h := ite_f h hb
            refine run_skip ?_
            refine blockK_n ?_
            refine thenK_n ?_
            replace h := chk_some h; obtain ⟨hc_291, h⟩ := h
            replace h := bind_some1 h; obtain ⟨y_290, hy_292, h⟩ := h
            refine run_textE hE [0, 5, 6, 8, 9] (fr' := [(0, .str src_159), (5, .bs false 0 (l_253.length) 0 (l_253.length)), (6, i64 at_252), (8, .ref 1 0), (9, i64 y_290.2)]) (σ' := [.buf 4 (L cApi_Token l_253) false, .box [i64 y_290.1.Kind, .str y_290.1.Text, i64 y_290.1.N, i64 y_290.1.At] false]) ⟨_, orcs_ok (l := [(43, 22, [.str (((src_159.drop at_252.toNat).take (src_159.length - at_252.toNat)))], .tup [.agg [i64 y_290.1.Kind, .str y_290.1.Text, i64 y_290.1.N, i64 y_290.1.At], i64 y_290.2])]) ⟨tlex_token_con  hy_292, trivial⟩, ?_⟩ ?_
            · simp only [go_sem, reduceIte, Nat.reduceLT, Nat.reduceEqDiff, Nat.reduceAdd, Int.reduceToNat, Nat.reduceLeDiff, hc_291]
            refine run_seq ?_
            refine run_textE hE [0, 5, 6, 8, 9, 47] (fr' := [(0, .str src_159), (5, .bs false 0 (l_253.length) 0 (l_253.length)), (6, i64 at_252), (8, .ref 1 0), (9, i64 y_290.2), (47, .bool ((y_290.2 != 0)))]) (σ' := [.buf 4 (L cApi_Token l_253) false, .box [i64 y_290.1.Kind, .str y_290.1.Text, i64 y_290.1.N, i64 y_290.1.At] false]) ⟨_, orcs_nil, ?_⟩ ?_
            · simp only [go_sem, reduceIte, Nat.reduceLT, Nat.reduceEqDiff, Nat.reduceAdd]
            refine run_condL (b := (y_290.2 != 0)) rfl (by decide) (fun hb => ?_) (fun hb => ?_)
            · replace h := ite_t h hb
              refine run_textE hE [2, 3, 4] (fr' := [(2, .sl true (L cApi_Token ([]))), (3, i64 at_252), (4, i64 y_290.2)]) (σ' := [.buf 4 (L cApi_Token l_253) false, .box [i64 y_290.1.Kind, .str y_290.1.Text, i64 y_290.1.N, i64 y_290.1.At] false]) ⟨_, orcs_nil, ?_⟩ ?_
              · simp only [go_sem, reduceIte, Nat.reduceLT, Nat.reduceEqDiff, Nat.reduceAdd]
              refine run_ret ?_
              refine thenK_r ?_
              refine blockK_r ?_
              refine lpK_r ?_
              replace h := bind_some1 h; obtain ⟨z_294, h, e_z_294⟩ := h
              obtain rfl := Option.some.inj e_z_294
              have ex_z_294 := hxx_279 _ rfl
              subst ex_z_294
              obtain rfl := Option.some.inj hj_277
              refine blockK_r ?_
              refine joinK_r ?_
              replace h := bind_some1 h; obtain ⟨z_293, h, e_z_293⟩ := h
              obtain rfl := Option.some.inj e_z_293
              obtain rfl := Option.some.inj hj_231
              refine scopeK_r ?_
              obtain rfl := Option.some.inj h
              refine ret_ok (.inr rfl) ?_
              simp only [go_sem, reduceIte, Nat.reduceLT, Nat.reduceEqDiff, Nat.reduceAdd]
            · replace h := ite_f h hb
              refine run_skip ?_
              refine thenK_n ?_
              refine run_textE hE [0, 5, 6, 8] (fr' := [(0, .str src_159), (5, .bs false 0 (l_253.length) 0 (l_253.length)), (6, i64 at_252), (8, .ref 1 0)]) (σ' := [.buf 4 (L cApi_Token l_253) false, .box [i64 y_290.1.Kind, .str y_290.1.Text, i64 y_290.1.N, i64 at_252] false]) ⟨_, orcs_nil, ?_⟩ ?_
              · simp only [go_sem, reduceIte, Nat.reduceLT, Nat.reduceEqDiff, Nat.reduceAdd, Nat.reduceLeDiff]
              replace h := chk_some h; obtain ⟨hc_295, h⟩ := h
              replace h := lt1_some h; obtain ⟨l_296, hz_297, h⟩ := h
              refine run_textE hE [0, 5, 6, 8] (fr' := [(0, .str src_159), (5, .bs false 0 (l_296.length) 0 (l_296.length)), (6, i64 at_252), (8, .ref 1 0)]) (σ' := [.buf 4 (L cApi_Token l_296) false, .box [i64 y_290.1.Kind, .str y_290.1.Text, i64 y_290.1.N, i64 at_252] false, .buf 4 (L cApi_Token (([({ Kind := y_290.1.Kind, Text := y_290.1.Text, N := y_290.1.N, At := at_252 } : Api_Token)] : List Api_Token))) false]) ⟨_, orcs_nil, ?_⟩ ?_
              · subst hz_297; simp only [go_sem, reduceIte, Nat.reduceLT, Nat.reduceEqDiff, Nat.reduceAdd, Nat.reduceBEq, Nat.reduceMul, Nat.reduceSub, Nat.reduceGT, Nat.reducePow, Nat.reduceLeDiff, Int.reduceToNat, hc_295]
              replace h := lt1_some h; obtain ⟨at_298, hz_299, h⟩ := h
              refine run_textE0 hE (wk_block wk_lp) [0, 5, 6] (fr' := [(0, .str src_159), (5, .bs false 0 (l_296.length) 0 (l_296.length)), (6, i64 at_298)]) (σ' := [.buf 4 (L cApi_Token l_296) false, .box [i64 y_290.1.Kind, .str y_290.1.Text, i64 y_290.1.N, i64 at_252] false, .buf 4 (L cApi_Token (([({ Kind := y_290.1.Kind, Text := y_290.1.Text, N := y_290.1.N, At := at_252 } : Api_Token)] : List Api_Token))) false]) ⟨_, orcs_nil, ?_⟩ ?_
              · subst hz_299; simp only [go_sem, reduceIte, Nat.reduceLT, Nat.reduceEqDiff, Nat.reduceAdd]
              refine blockK_n ?_
              obtain rfl := Option.some.inj h
              exact lpK_n ((at_298, l_296)) rfl (weak_sel [0] (by decide) rfl (by simp only [go_sem, reduceIte, Nat.reduceLT, Nat.reduceEqDiff, Nat.reduceAdd]) (by simp only [go_sem, reduceIte, Nat.reduceLT, Nat.reduceEqDiff, Nat.reduceAdd]))
      · replace h := ite_f h hb
        refine run_exit ?_
        refine thenK_x ?_
        obtain rfl := Option.some.inj h
        have ex_x_275 := hxx_279 _ rfl
        subst ex_x_275
        have h := hj_277; clear hj_277
        refine lpK_x ?_
        refine blockK_x ?_
        obtain rfl := Option.some.inj h
        exact joinK_n l_253 rfl ((weak_sel (l' := [(5, .bs false 0 (l_253.length) 0 (l_253.length))]) (σ' := [.buf 4 (L cApi_Token l_253) false]) [0] (by decide) rfl (by simp only [go_sem, reduceIte, Nat.reduceLT, Nat.reduceEqDiff, Nat.reduceAdd]) (by simp only [go_sem, reduceIte, Nat.reduceLT, Nat.reduceEqDiff, Nat.reduceAdd])).trans (weak_sel [0] (by decide) rfl (by simp only [go_sem, reduceIte, Nat.reduceLT, Nat.reduceEqDiff, Nat.reduceAdd]) (by simp only [go_sem, reduceIte, Nat.reduceLT, Nat.reduceEqDiff, Nat.reduceAdd])))
    rintro l_228 rfl
    have h := hj_231; clear hj_231
    refine run_textE hE [2, 3, 4] (fr' := [(2, .bs false 0 (l_228.length) 0 (l_228.length)), (3, i64 0), (4, i64 0)]) (σ' := [.buf 4 (L cApi_Token l_228) false]) ⟨_, orcs_nil, ?_⟩ ?_
    · simp only [go_sem, reduceIte, Nat.reduceLT, Nat.reduceEqDiff, Nat.reduceAdd]
    refine run_ret ?_
    refine scopeK_r ?_
    obtain rfl := Option.some.inj h
    refine ret_ok (.inr rfl) ?_
    simp only [go_sem, reduceIte, Nat.reduceLT, Nat.reduceEqDiff, Nat.reduceAdd]

theorem tlex_Reserved_con {s_300 : List UInt8} {r : Bool} (h : tlex_Reserved s_300 = some r) : Con (B rs) 16 [.str s_300] [] (fun r' σ' => r' = .bool r ∧ σ' = []) := by
  refine con_walk (N := 6) (rs := [.tmp 2]) ok Tryd.func16 rfl (by decide +kernel) rfl rfl (Nat.le_of_ble_eq_true rfl) (fun F => ?_)
  have hE := (ok (rs := rs)).env F
  unfold tlex_Reserved at h
  show Run ((B rs).env F) 0 _ ⟨asFr 6 [(0, .str s_300)], []⟩ _
  refine run_textE hE [0] (fr' := [(0, .str s_300)]) (σ' := []) ⟨_, orcs_nil, ?_⟩ ?_
  · simp only [go_sem, reduceIte, Nat.reduceLT, Nat.reduceEqDiff, Nat.reduceAdd]
  refine run_textE hE [2] (fr' := [(2, .bool ((tabGet false tab0 s_300)))]) (σ' := []) ⟨_, orcs_nil, ?_⟩ ?_
  · simp only [go_sem, reduceIte, Nat.reduceLT, Nat.reduceEqDiff, Nat.reduceAdd]
  refine run_ret ?_
  obtain rfl := Option.some.inj h
  refine ret_ok (.inr rfl) ?_
  simp only [go_sem, reduceIte, Nat.reduceLT, Nat.reduceEqDiff, Nat.reduceAdd]

theorem r15_letter_con {c_301 : UInt8} {r : Bool} (h : r15_letter c_301 = some r) : Con (B rs) 35 [u8 c_301] [] (fun r' σ' => r' = .bool r ∧ σ' = []) := by
  refine con_walk (N := 9) (rs := [.tmp 2]) ok Tryd.func35 rfl (by decide +kernel) rfl rfl (Nat.le_of_ble_eq_true rfl) (fun F => ?_)
  have hE := (ok (rs := rs)).env F
  unfold r15_letter at h
  show Run ((B rs).env F) 0 _ ⟨asFr 9 [(0, u8 c_301)], []⟩ _
  refine run_textE hE [0] (fr' := [(0, u8 c_301)]) (σ' := []) ⟨_, orcs_nil, ?_⟩ ?_
  · simp only [go_sem, reduceIte, Nat.reduceLT, Nat.reduceEqDiff, Nat.reduceAdd]
  replace h := bind_some1 h; obtain ⟨t_302, hv_303, h⟩ := h
  refine run_textW hE [2] (fr' := [(2, .bool t_302)]) (σ' := []) ?_ ?_
  · rcases Bool.eq_false_or_eq_true ((decide (c_301 ≥ (97 : UInt8)))) with hb_304 | hb_304
    · replace hv_303 := ite_t hv_303 hb_304
      have e_hv_303 := Option.some.inj hv_303; subst e_hv_303
      exact ⟨_, [(2, .bool ((decide (c_301 ≤ (122 : UInt8)))))], [], orcs_nil, by simp only [go_sem, reduceIte, Nat.reduceLT, Nat.reduceEqDiff, Nat.reduceAdd, hb_304], (weak_sel [] (by decide) rfl (by simp only [go_sem, reduceIte, Nat.reduceLT, Nat.reduceEqDiff, Nat.reduceAdd]) (by simp only [go_sem, reduceIte, Nat.reduceLT, Nat.reduceEqDiff, Nat.reduceAdd]))⟩
    · replace hv_303 := ite_f hv_303 hb_304
      have e_hv_303 := Option.some.inj hv_303; subst e_hv_303
      exact ⟨_, [(2, .bool false)], [], orcs_nil, by simp only [go_sem, reduceIte, Nat.reduceLT, Nat.reduceEqDiff, Nat.reduceAdd, hb_304], (weak_sel [] (by decide) rfl (by simp only [go_sem, reduceIte, Nat.reduceLT, Nat.reduceEqDiff, Nat.reduceAdd]) (by simp only [go_sem, reduceIte, Nat.reduceLT, Nat.reduceEqDiff, Nat.reduceAdd]))⟩
  refine run_ret ?_
  obtain rfl := Option.some.inj h
  refine ret_ok (.inr rfl) ?_
  simp only [go_sem, reduceIte, Nat.reduceLT, Nat.reduceEqDiff, Nat.reduceAdd]

theorem r15_digit_con {c_305 : UInt8} {r : Bool} (h : r15_digit c_305 = some r) : Con (B rs) 36 [u8 c_305] [] (fun r' σ' => r' = .bool r ∧ σ' = []) := by
  refine con_walk (N := 9) (rs := [.tmp 2]) ok Tryd.func36 rfl (by decide +kernel) rfl rfl (Nat.le_of_ble_eq_true rfl) (fun F => ?_)
  have hE := (ok (rs := rs)).env F
  unfold r15_digit at h
  show Run ((B rs).env F) 0 _ ⟨asFr 9 [(0, u8 c_305)], []⟩ _
  refine run_textE hE [0] (fr' := [(0, u8 c_305)]) (σ' := []) ⟨_, orcs_nil, ?_⟩ ?_
  · simp only [go_sem, reduceIte, Nat.reduceLT, Nat.reduceEqDiff, Nat.reduceAdd]
  replace h := bind_some1 h; obtain ⟨t_306, hv_307, h⟩ := h
  refine run_textW hE [2] (fr' := [(2, .bool t_306)]) (σ' := []) ?_ ?_
  · rcases Bool.eq_false_or_eq_true ((decide (c_305 ≥ (48 : UInt8)))) with hb_308 | hb_308
    · replace hv_307 := ite_t hv_307 hb_308
      have e_hv_307 := Option.some.inj hv_307; subst e_hv_307
      exact ⟨_, [(2, .bool ((decide (c_305 ≤ (57 : UInt8)))))], [], orcs_nil, by simp only [go_sem, reduceIte, Nat.reduceLT, Nat.reduceEqDiff, Nat.reduceAdd, hb_308], (weak_sel [] (by decide) rfl (by simp only [go_sem, reduceIte, Nat.reduceLT, Nat.reduceEqDiff, Nat.reduceAdd]) (by simp only [go_sem, reduceIte, Nat.reduceLT, Nat.reduceEqDiff, Nat.reduceAdd]))⟩
    · replace hv_307 := ite_f hv_307 hb_308
      have e_hv_307 := Option.some.inj hv_307; subst e_hv_307
      exact ⟨_, [(2, .bool false)], [], orcs_nil, by simp only [go_sem, reduceIte, Nat.reduceLT, Nat.reduceEqDiff, Nat.reduceAdd, hb_308], (weak_sel [] (by decide) rfl (by simp only [go_sem, reduceIte, Nat.reduceLT, Nat.reduceEqDiff, Nat.reduceAdd]) (by simp only [go_sem, reduceIte, Nat.reduceLT, Nat.reduceEqDiff, Nat.reduceAdd]))⟩
  refine run_ret ?_
  obtain rfl := Option.some.inj h
  refine ret_ok (.inr rfl) ?_
  simp only [go_sem, reduceIte, Nat.reduceLT, Nat.reduceEqDiff, Nat.reduceAdd]

end Go.Proofs.YtballlkeogmoiaaDoor
/-
  The functions compute just that.
-/
namespace Go.Proofs.YtballlkeogmoiaaDoor
open Go.Rv
set_option linter.unusedVariables false
set_option linter.unusedSimpArgs false
set_option maxRecDepth 20000
variable {rs : Nat → Nat}
set_option maxHeartbeats 4000000

theorem r15_Blank_con {c_309 : UInt8} {r : Bool} (h : r15_Blank c_309 = some r) : Con (B rs) 23 [u8 c_309] [] (fun r' σ' => r' = .bool r ∧ σ' = []) := by
  refine con_walk (N := 17) (rs := [.tmp 2]) ok Tryd.func23 rfl (by decide +kernel) rfl rfl (Nat.le_of_ble_eq_true rfl) (fun F => ?_)
  have hE := (ok (rs := rs)).env F
  unfold r15_Blank at h
  show Run ((B rs).env F) 0 _ ⟨asFr 17 [(0, u8 c_309)], []⟩ _
  refine run_textE hE [0] (fr' := [(0, u8 c_309)]) (σ' := []) ⟨_, orcs_nil, ?_⟩ ?_
  · simp only [go_sem, reduceIte, Nat.reduceLT, Nat.reduceEqDiff, Nat.reduceAdd]
  replace h := bind_some1 h; obtain ⟨t_310, hv_311, h⟩ := h
  refine run_textW hE [2] (fr' := [(2, .bool t_310)]) (σ' := []) ?_ ?_
  · rcases Bool.eq_false_or_eq_true ((c_309 == (32 : UInt8))) with hb_312 | hb_312
    · replace hv_311 := ite_t hv_311 hb_312
      have e_hv_311 := Option.some.inj hv_311; subst e_hv_311
      exact ⟨_, [(2, .bool true)], [], orcs_nil, by simp only [go_sem, reduceIte, Nat.reduceLT, Nat.reduceEqDiff, Nat.reduceAdd, hb_312], (weak_sel [] (by decide) rfl (by simp only [go_sem, reduceIte, Nat.reduceLT, Nat.reduceEqDiff, Nat.reduceAdd]) (by simp only [go_sem, reduceIte, Nat.reduceLT, Nat.reduceEqDiff, Nat.reduceAdd]))⟩
    · replace hv_311 := ite_f hv_311 hb_312
      rcases Bool.eq_false_or_eq_true ((c_309 == (9 : UInt8))) with hb_313 | hb_313
      · replace hv_311 := ite_t hv_311 hb_313
        have e_hv_311 := Option.some.inj hv_311; subst e_hv_311
        exact ⟨_, [(2, .bool true)], [], orcs_nil, by simp only [go_sem, reduceIte, Nat.reduceLT, Nat.reduceEqDiff, Nat.reduceAdd, hb_312, hb_313], (weak_sel [] (by decide) rfl (by simp only [go_sem, reduceIte, Nat.reduceLT, Nat.reduceEqDiff, Nat.reduceAdd]) (by simp only [go_sem, reduceIte, Nat.reduceLT, Nat.reduceEqDiff, Nat.reduceAdd]))⟩
      · replace hv_311 := ite_f hv_311 hb_313
        rcases Bool.eq_false_or_eq_true ((c_309 == (13 : UInt8))) with hb_314 | hb_314
        · replace hv_311 := ite_t hv_311 hb_314
          have e_hv_311 := Option.some.inj hv_311; subst e_hv_311
          exact ⟨_, [(2, .bool true)], [], orcs_nil, by simp only [go_sem, reduceIte, Nat.reduceLT, Nat.reduceEqDiff, Nat.reduceAdd, hb_312, hb_313, hb_314], (weak_sel [] (by decide) rfl (by simp only [go_sem, reduceIte, Nat.reduceLT, Nat.reduceEqDiff, Nat.reduceAdd]) (by simp only [go_sem, reduceIte, Nat.reduceLT, Nat.reduceEqDiff, Nat.reduceAdd]))⟩
        · replace hv_311 := ite_f hv_311 hb_314
          have e_hv_311 := Option.some.inj hv_311; subst e_hv_311
          exact ⟨_, [(2, .bool ((c_309 == (10 : UInt8))))], [], orcs_nil, by simp only [go_sem, reduceIte, Nat.reduceLT, Nat.reduceEqDiff, Nat.reduceAdd, hb_312, hb_313, hb_314], (weak_sel [] (by decide) rfl (by simp only [go_sem, reduceIte, Nat.reduceLT, Nat.reduceEqDiff, Nat.reduceAdd]) (by simp only [go_sem, reduceIte, Nat.reduceLT, Nat.reduceEqDiff, Nat.reduceAdd]))⟩
  refine run_ret ?_
  obtain rfl := Option.some.inj h
  refine ret_ok (.inr rfl) ?_
  simp only [go_sem, reduceIte, Nat.reduceLT, Nat.reduceEqDiff, Nat.reduceAdd]

theorem r15_sign_con {src_315 : List UInt8} {at_316 : Int} {r : Int} (h : r15_sign src_315 at_316 = some r) : Con (B rs) 37 [.str src_315, i64 at_316] [] (fun r' σ' => r' = i64 r ∧ σ' = []) := by
  refine con_walk (N := 33) (rs := [.tmp 4]) ok Tryd.func37 rfl (by decide +kernel) rfl rfl (Nat.le_of_ble_eq_true rfl) (fun F => ?_)
  have hE := (ok (rs := rs)).env F
  unfold r15_sign at h
  show Run ((B rs).env F) 0 _ ⟨asFr 33 [(0, .str src_315), (1, i64 at_316)], []⟩ _
  refine run_textE hE [0, 1] (fr' := [(0, .str src_315), (1, i64 at_316)]) (σ' := []) ⟨_, orcs_nil, ?_⟩ ?_
  · simp only [go_sem, reduceIte, Nat.reduceLT, Nat.reduceEqDiff, Nat.reduceAdd]
  replace h := bind_some1 h; obtain ⟨j_328, hA_329, hj_330⟩ := h
  refine run_join (fun (v : Unit) => (⟨asFr 33 [], []⟩ : St)) (fun v => .inl v = j_328) ?_ ?_
  · have h := hA_329; clear hA_329
    replace h := chk_some h; obtain ⟨hc_331, h⟩ := h
    refine run_textE hE [0, 1, 7] (fr' := [(0, .str src_315), (1, i64 at_316), (7, u8 ((nth src_315 at_316.toNat)))]) (σ' := []) ⟨_, orcs_nil, ?_⟩ ?_
    · simp only [go_sem, reduceIte, Nat.reduceLT, Nat.reduceEqDiff, Nat.reduceAdd, Int.reduceToNat, hc_331, hc_331.2, lt_le hc_331.2]
    refine run_block ?_
    replace h := bind_some1 h; obtain ⟨j_333, hA_334, hj_335⟩ := h
    refine run_join (fun (v : Bool) => (⟨asFr 33 [(0, .str src_315), (1, i64 at_316), (7, u8 ((nth src_315 at_316.toNat))), (8, .bool v)], []⟩ : St)) (fun v => v = j_333) ?_ ?_
    · have h := hA_334; clear hA_334
      refine run_textE hE [0, 1, 7, 8] (fr' := [(0, .str src_315), (1, i64 at_316), (7, u8 ((nth src_315 at_316.toNat))), (8, .bool (((nth src_315 at_316.toNat) == (123 : UInt8))))]) (σ' := []) ⟨_, orcs_nil, ?_⟩ ?_
      · simp only [go_sem, reduceIte, Nat.reduceLT, Nat.reduceEqDiff, Nat.reduceAdd]
      refine run_condL (b := ((nth src_315 at_316.toNat) == (123 : UInt8))) rfl (by decide) (fun hb => ?_) (fun hb => ?_)
      · replace h := ite_t h hb
        refine run_skip ?_
        obtain rfl := Option.some.inj h
        exact joinK_n (((nth src_315 at_316.toNat) == (123 : UInt8))) rfl (weak_sel [] (by decide) rfl (by simp only [go_sem, reduceIte, Nat.reduceLT, Nat.reduceEqDiff, Nat.reduceAdd]) (by simp only [go_sem, reduceIte, Nat.reduceLT, Nat.reduceEqDiff, Nat.reduceAdd]))
      · replace h := ite_f h hb
        refine run_textE hE [0, 1, 7, 8] (fr' := [(0, .str src_315), (1, i64 at_316), (7, u8 ((nth src_315 at_316.toNat))), (8, .bool (((nth src_315 at_316.toNat) == (125 : UInt8))))]) (σ' := []) ⟨_, orcs_nil, ?_⟩ ?_
        · simp only [go_sem, reduceIte, Nat.reduceLT, Nat.reduceEqDiff, Nat.reduceAdd]
        refine run_condL (b := ((nth src_315 at_316.toNat) == (125 : UInt8))) rfl (by decide) (fun hb => ?_) (fun hb => ?_)
        · replace h := ite_t h hb
          refine run_skip ?_
          obtain rfl := Option.some.inj h
          exact joinK_n (((nth src_315 at_316.toNat) == (125 : UInt8))) rfl (weak_sel [] (by decide) rfl (by simp only [go_sem, reduceIte, Nat.reduceLT, Nat.reduceEqDiff, Nat.reduceAdd]) (by simp only [go_sem, reduceIte, Nat.reduceLT, Nat.reduceEqDiff, Nat.reduceAdd]))
        · replace h := ite_f h hb
          refine run_textE hE [0, 1, 7, 8] (fr' := [(0, .str src_315), (1, i64 at_316), (7, u8 ((nth src_315 at_316.toNat))), (8, .bool (((nth src_315 at_316.toNat) == (40 : UInt8))))]) (σ' := []) ⟨_, orcs_nil, ?_⟩ ?_
          · simp only [go_sem, reduceIte, Nat.reduceLT, Nat.reduceEqDiff, Nat.reduceAdd]
          refine run_condL (b := ((nth src_315 at_316.toNat) == (40 : UInt8))) rfl (by decide) (fun hb => ?_) (fun hb => ?_)
          · replace h := ite_t h hb
            refine run_skip ?_
            obtain rfl := Option.some.inj h
            exact joinK_n (((nth src_315 at_316.toNat) == (40 : UInt8))) rfl (weak_sel [] (by decide) rfl (by simp only [go_sem, reduceIte, Nat.reduceLT, Nat.reduceEqDiff, Nat.reduceAdd]) (by simp only [go_sem, reduceIte, Nat.reduceLT, Nat.reduceEqDiff, Nat.reduceAdd]))
          · replace h := ite_f h hb
            refine run_textE hE [0, 1, 7, 8] (fr' := [(0, .str src_315), (1, i64 at_316), (7, u8 ((nth src_315 at_316.toNat))), (8, .bool (((nth src_315 at_316.toNat) == (41 : UInt8))))]) (σ' := []) ⟨_, orcs_nil, ?_⟩ ?_
            · simp only [go_sem, reduceIte, Nat.reduceLT, Nat.reduceEqDiff, Nat.reduceAdd]
            refine run_condL (b := ((nth src_315 at_316.toNat) == (41 : UInt8))) rfl (by decide) (fun hb => ?_) (fun hb => ?_)
            · replace h := ite_t h hb
              refine run_skip ?_
              obtain rfl := Option.some.inj h
              exact joinK_n (((nth src_315 at_316.toNat) == (41 : UInt8))) rfl (weak_sel [] (by decide) rfl (by simp only [go_sem, reduceIte, Nat.reduceLT, Nat.reduceEqDiff, Nat.reduceAdd]) (by simp only [go_sem, reduceIte, Nat.reduceLT, Nat.reduceEqDiff, Nat.reduceAdd]))
            · replace h := ite_f h hb
              refine run_textE hE [0, 1, 7, 8] (fr' := [(0, .str src_315), (1, i64 at_316), (7, u8 ((nth src_315 at_316.toNat))), (8, .bool (((nth src_315 at_316.toNat) == (59 : UInt8))))]) (σ' := []) ⟨_, orcs_nil, ?_⟩ ?_
              · simp only [go_sem, reduceIte, Nat.reduceLT, Nat.reduceEqDiff, Nat.reduceAdd]
              refine run_condL (b := ((nth src_315 at_316.toNat) == (59 : UInt8))) rfl (by decide) (fun hb => ?_) (fun hb => ?_)
              · replace h := ite_t h hb
                refine run_skip ?_
                obtain rfl := Option.some.inj h
                exact joinK_n (((nth src_315 at_316.toNat) == (59 : UInt8))) rfl (weak_sel [] (by decide) rfl (by simp only [go_sem, reduceIte, Nat.reduceLT, Nat.reduceEqDiff, Nat.reduceAdd]) (by simp only [go_sem, reduceIte, Nat.reduceLT, Nat.reduceEqDiff, Nat.reduceAdd]))
              · replace h := ite_f h hb
                refine run_textE hE [0, 1, 7, 8] (fr' := [(0, .str src_315), (1, i64 at_316), (7, u8 ((nth src_315 at_316.toNat))), (8, .bool (((nth src_315 at_316.toNat) == (44 : UInt8))))]) (σ' := []) ⟨_, orcs_nil, ?_⟩ ?_
                · simp only [go_sem, reduceIte, Nat.reduceLT, Nat.reduceEqDiff, Nat.reduceAdd]
                refine run_condL (b := ((nth src_315 at_316.toNat) == (44 : UInt8))) rfl (by decide) (fun hb => ?_) (fun hb => ?_)
                · replace h := ite_t h hb
                  refine run_skip ?_
                  obtain rfl := Option.some.inj h
                  exact joinK_n (((nth src_315 at_316.toNat) == (44 : UInt8))) rfl (weak_sel [] (by decide) rfl (by simp only [go_sem, reduceIte, Nat.reduceLT, Nat.reduceEqDiff, Nat.reduceAdd]) (by simp only [go_sem, reduceIte, Nat.reduceLT, Nat.reduceEqDiff, Nat.reduceAdd]))
                · replace h := ite_f h hb
                  refine run_textE hE [0, 1, 7, 8] (fr' := [(0, .str src_315), (1, i64 at_316), (7, u8 ((nth src_315 at_316.toNat))), (8, .bool (((nth src_315 at_316.toNat) == (43 : UInt8))))]) (σ' := []) ⟨_, orcs_nil, ?_⟩ ?_
                  · simp only [go_sem, reduceIte, Nat.reduceLT, Nat.reduceEqDiff, Nat.reduceAdd]
                  refine run_condL (b := ((nth src_315 at_316.toNat) == (43 : UInt8))) rfl (by decide) (fun hb => ?_) (fun hb => ?_)
                  · replace h := ite_t h hb
                    refine run_skip ?_
                    obtain rfl := Option.some.inj h
                    exact joinK_n (((nth src_315 at_316.toNat) == (43 : UInt8))) rfl (weak_sel [] (by decide) rfl (by simp only [go_sem, reduceIte, Nat.reduceLT, Nat.reduceEqDiff, Nat.reduceAdd]) (by simp only [go_sem, reduceIte, Nat.reduceLT, Nat.reduceEqDiff, Nat.reduceAdd]))
                  · replace h := ite_f h hb
                    refine run_textE hE [0, 1, 7, 8] (fr' := [(0, .str src_315), (1, i64 at_316), (7, u8 ((nth src_315 at_316.toNat))), (8, .bool (((nth src_315 at_316.toNat) == (45 : UInt8))))]) (σ' := []) ⟨_, orcs_nil, ?_⟩ ?_
                    · simp only [go_sem, reduceIte, Nat.reduceLT, Nat.reduceEqDiff, Nat.reduceAdd]
                    refine run_condL (b := ((nth src_315 at_316.toNat) == (45 : UInt8))) rfl (by decide) (fun hb => ?_) (fun hb => ?_)
                    · replace h := ite_t h hb
                      refine run_skip ?_
                      obtain rfl := Option.some.inj h
                      exact joinK_n (((nth src_315 at_316.toNat) == (45 : UInt8))) rfl (weak_sel [] (by decide) rfl (by simp only [go_sem, reduceIte, Nat.reduceLT, Nat.reduceEqDiff, Nat.reduceAdd]) (by simp only [go_sem, reduceIte, Nat.reduceLT, Nat.reduceEqDiff, Nat.reduceAdd]))
                    · replace h := ite_f h hb
                      refine run_textE hE [0, 1, 7, 8] (fr' := [(0, .str src_315), (1, i64 at_316), (7, u8 ((nth src_315 at_316.toNat))), (8, .bool (((nth src_315 at_316.toNat) == (42 : UInt8))))]) (σ' := []) ⟨_, orcs_nil, ?_⟩ ?_
                      · simp only [go_sem, reduceIte, Nat.reduceLT, Nat.reduceEqDiff, Nat.reduceAdd]
                      refine run_condL (b := ((nth src_315 at_316.toNat) == (42 : UInt8))) rfl (by decide) (fun hb => ?_) (fun hb => ?_)
                      · replace h := ite_t h hb
                        refine run_skip ?_
                        obtain rfl := Option.some.inj h
                        exact joinK_n (((nth src_315 at_316.toNat) == (42 : UInt8))) rfl (weak_sel [] (by decide) rfl (by simp only [go_sem, reduceIte, Nat.reduceLT, Nat.reduceEqDiff, Nat.reduceAdd]) (by simp only [go_sem, reduceIte, Nat.reduceLT, Nat.reduceEqDiff, Nat.reduceAdd]))
                      · replace h := ite_f h hb
                        refine run_textE0 hE wk_join [0, 1, 7, 8] (fr' := [(0, .str src_315), (1, i64 at_316), (7, u8 ((nth src_315 at_316.toNat))), (8, .bool (((nth src_315 at_316.toNat) == (60 : UInt8))))]) (σ' := []) ⟨_, orcs_nil, ?_⟩ ?_
                        · simp only [go_sem, reduceIte, Nat.reduceLT, Nat.reduceEqDiff, Nat.reduceAdd]
                        obtain rfl := Option.some.inj h
                        exact joinK_n (((nth src_315 at_316.toNat) == (60 : UInt8))) rfl (weak_sel [] (by decide) rfl (by simp only [go_sem, reduceIte, Nat.reduceLT, Nat.reduceEqDiff, Nat.reduceAdd]) (by simp only [go_sem, reduceIte, Nat.reduceLT, Nat.reduceEqDiff, Nat.reduceAdd]))
    rintro t_332 rfl
    have h := hj_335; clear hj_335
    refine run_condL (b := t_332) rfl (by decide) (fun hb => ?_) (fun hb => ?_)
    · replace h := ite_t h hb
      refine run_textE hE [4] (fr' := [(4, i64 1)]) (σ' := []) ⟨_, orcs_nil, ?_⟩ ?_
      · simp only [go_sem, reduceIte, Nat.reduceLT, Nat.reduceEqDiff, Nat.reduceAdd]
      refine run_ret ?_
      refine blockK_r ?_
      refine joinK_r ?_
      replace h := bind_some1 h; obtain ⟨z_336, h, e_z_336⟩ := h
      obtain rfl := Option.some.inj e_z_336
      obtain rfl := Option.some.inj hj_330
      obtain rfl := Option.some.inj h
      refine ret_ok (.inr rfl) ?_
      simp only [go_sem, reduceIte, Nat.reduceLT, Nat.reduceEqDiff, Nat.reduceAdd]
    · replace h := ite_f h hb
      refine run_textE hE [0, 1, 19] (fr' := [(0, .str src_315), (1, i64 at_316), (19, .bool (((nth src_315 at_316.toNat) == (46 : UInt8))))]) (σ' := []) ⟨_, orcs_nil, ?_⟩ ?_
      · simp only [go_sem, reduceIte, Nat.reduceLT, Nat.reduceEqDiff, Nat.reduceAdd]
      refine run_condL (b := ((nth src_315 at_316.toNat) == (46 : UInt8))) rfl (by decide) (fun hb => ?_) (fun hb => ?_)
      · replace h := ite_t h hb
        replace h := bind_some1 h; obtain ⟨t_337, hv_338, h⟩ := h
        refine run_textW hE [32] (fr' := [(32, .bool t_337)]) (σ' := []) ?_ ?_
        · rcases Bool.eq_false_or_eq_true ((decide ((w64 (at_316 + 1)) < (src_315.length : Int)))) with hb_339 | hb_339
          · replace hv_338 := ite_t hv_338 hb_339
            replace hv_338 := chk_some hv_338; obtain ⟨hc_340, hv_338⟩ := hv_338
            have e_hv_338 := Option.some.inj hv_338; subst e_hv_338
            exact ⟨_, [(32, .bool (((nth src_315 (((w64 (at_316 + 1))).toNat)) == (46 : UInt8))))], [], orcs_nil, by simp only [go_sem, reduceIte, Nat.reduceLT, Nat.reduceEqDiff, Nat.reduceAdd, Int.reduceToNat, hb_339, hc_340, hc_340.2, lt_le hc_340.2], (weak_sel [] (by decide) rfl (by simp only [go_sem, reduceIte, Nat.reduceLT, Nat.reduceEqDiff, Nat.reduceAdd]) (by simp only [go_sem, reduceIte, Nat.reduceLT, Nat.reduceEqDiff, Nat.reduceAdd]))⟩
          · replace hv_338 := ite_f hv_338 hb_339
            have e_hv_338 := Option.some.inj hv_338; subst e_hv_338
            exact ⟨_, [(32, .bool false)], [], orcs_nil, by simp only [go_sem, reduceIte, Nat.reduceLT, Nat.reduceEqDiff, Nat.reduceAdd, Int.reduceToNat, hb_339], (weak_sel [] (by decide) rfl (by simp only [go_sem, reduceIte, Nat.reduceLT, Nat.reduceEqDiff, Nat.reduceAdd]) (by simp only [go_sem, reduceIte, Nat.reduceLT, Nat.reduceEqDiff, Nat.reduceAdd]))⟩
        refine run_condL (b := t_337) rfl (by decide) (fun hb => ?_) (fun hb => ?_)
        · replace h := ite_t h hb
          refine run_textE hE [4] (fr' := [(4, i64 2)]) (σ' := []) ⟨_, orcs_nil, ?_⟩ ?_
          · simp only [go_sem, reduceIte, Nat.reduceLT, Nat.reduceEqDiff, Nat.reduceAdd]
          refine run_ret ?_
          refine blockK_r ?_
          refine joinK_r ?_
          replace h := bind_some1 h; obtain ⟨z_341, h, e_z_341⟩ := h
          obtain rfl := Option.some.inj e_z_341
          obtain rfl := Option.some.inj hj_330
          obtain rfl := Option.some.inj h
          refine ret_ok (.inr rfl) ?_
          simp only [go_sem, reduceIte, Nat.reduceLT, Nat.reduceEqDiff, Nat.reduceAdd]
        · replace h := ite_f h hb
          refine run_skip ?_
          refine blockK_n ?_
          obtain rfl := Option.some.inj h
          exact joinK_n (()) rfl (weak_sel [] (by decide) rfl (by simp only [go_sem, reduceIte, Nat.reduceLT, Nat.reduceEqDiff, Nat.reduceAdd]) (by simp only [go_sem, reduceIte, Nat.reduceLT, Nat.reduceEqDiff, Nat.reduceAdd]))
      · replace h := ite_f h hb
        refine run_skip ?_
        refine blockK_n ?_
        obtain rfl := Option.some.inj h
        exact joinK_n (()) rfl (weak_sel [] (by decide) rfl (by simp only [go_sem, reduceIte, Nat.reduceLT, Nat.reduceEqDiff, Nat.reduceAdd]) (by simp only [go_sem, reduceIte, Nat.reduceLT, Nat.reduceEqDiff, Nat.reduceAdd]))
  rintro ⟨⟩ rfl
  have h := hj_330; clear hj_330
  refine run_textE hE [4] (fr' := [(4, i64 0)]) (σ' := []) ⟨_, orcs_nil, ?_⟩ ?_
  · simp only [go_sem, reduceIte, Nat.reduceLT, Nat.reduceEqDiff, Nat.reduceAdd]
  refine run_ret ?_
  obtain rfl := Option.some.inj h
  refine ret_ok (.inr rfl) ?_
  simp only [go_sem, reduceIte, Nat.reduceLT, Nat.reduceEqDiff, Nat.reduceAdd]

end Go.Proofs.YtballlkeogmoiaaDoor
/-
  The functions compute just that.
-/
namespace Go.Proofs.YtballlkeogmoiaaDoor
open Go.Rv
set_option linter.unusedVariables false
set_option linter.unusedSimpArgs false
set_option maxRecDepth 20000
variable {rs : Nat → Nat}
set_option maxHeartbeats 4000000

theorem r15_next_con {src_342 : List UInt8} {at_343 : Int} {r : Api_Token × Int} (h : r15_next src_342 at_343 = some r) : Con (B rs) 24 [.str src_342, i64 at_343] [] (fun r' σ' => r' = .tup [.agg [i64 r.1.Kind, .str r.1.Text, i64 r.1.N, i64 r.1.At], i64 r.2] ∧ σ' = []) := by
  refine con_walk (N := 111) (rs := [.cell 4 32, .tmp 5]) ok Tryd.func24 rfl (by decide +kernel) rfl rfl (Nat.le_of_ble_eq_true rfl) (fun F => ?_)
  have hE := (ok (rs := rs)).env F
  unfold r15_next at h
  show Run ((B rs).env F) 0 _ ⟨asFr 111 [(0, .str src_342), (1, i64 at_343)], []⟩ _
  refine run_textE hE [0, 1, 4] (fr' := [(0, .str src_342), (1, i64 at_343), (4, .ref 0 0)]) (σ' := [.box [i64 0, .str (([] : List UInt8)), i64 0, i64 0] false]) ⟨_, orcs_nil, ?_⟩ ?_
  · simp only [go_sem, reduceIte, Nat.reduceLT, Nat.reduceEqDiff, Nat.reduceAdd]
  refine run_textE hE [0, 1, 4, 6] (fr' := [(0, .str src_342), (1, i64 at_343), (4, .ref 0 0), (6, i64 at_343)]) (σ' := [.box [i64 0, .str (([] : List UInt8)), i64 0, i64 0] false]) ⟨_, orcs_nil, ?_⟩ ?_
  · simp only [go_sem, reduceIte, Nat.reduceLT, Nat.reduceEqDiff, Nat.reduceAdd]
  refine run_textE hE [0, 1, 4, 6, 7] (fr' := [(0, .str src_342), (1, i64 at_343), (4, .ref 0 0), (6, i64 at_343), (7, .ref 1 0)]) (σ' := [.box [i64 0, .str (([] : List UInt8)), i64 0, i64 0] false, .box [i64 1, .str (([] : List UInt8)), i64 0, i64 at_343] false]) ⟨_, orcs_nil, ?_⟩ ?_
  · simp only [go_sem, reduceIte, Nat.reduceLT, Nat.reduceEqDiff, Nat.reduceAdd, Nat.reduceGT, Nat.reduceLeDiff]
  replace h := bind_some1 h; obtain ⟨j_431, hA_432, hj_433⟩ := h
  refine run_join (fun (v : Unit) => (⟨asFr 111 [(0, .str src_342), (1, i64 at_343), (4, .ref 0 0), (6, i64 at_343), (7, .ref 1 0)], [.box [i64 0, .str (([] : List UInt8)), i64 0, i64 0] false, .box [i64 1, .str (([] : List UInt8)), i64 0, i64 at_343] false]⟩ : St)) (fun v => .inl v = j_431) ?_ ?_
  · have h := hA_432; clear hA_432
    replace h := chk_some h; obtain ⟨hc_435, h⟩ := h
    replace h := bind_some1 h; obtain ⟨y_434, hy_436, h⟩ := h
    refine run_textE hE [0, 1, 4, 6, 7, 15] (fr' := [(0, .str src_342), (1, i64 at_343), (4, .ref 0 0), (6, i64 at_343), (7, .ref 1 0), (15, .bool y_434)]) (σ' := [.box [i64 0, .str (([] : List UInt8)), i64 0, i64 0] false, .box [i64 1, .str (([] : List UInt8)), i64 0, i64 at_343] false]) ⟨_, orcs_ok (l := [(15, 35, [u8 ((nth src_342 at_343.toNat))], .bool y_434)]) ⟨r15_letter_con  hy_436, trivial⟩, ?_⟩ ?_
    · simp only [go_sem, reduceIte, Nat.reduceLT, Nat.reduceEqDiff, Nat.reduceAdd, Int.reduceToNat, hc_435, hc_435.2, lt_le hc_435.2]
    refine run_condL (b := y_434) rfl (by decide) (fun hb => ?_) (fun hb => ?_)
    · replace h := ite_t h hb
      replace h := bind_some1 h; obtain ⟨j_475, hA_476, hj_477⟩ := h
      refine run_join (fun (v : Int) => (⟨asFr 111 [(0, .str src_342), (1, i64 at_343), (4, .ref 0 0), (6, i64 v), (7, .ref 1 0)], [.box [i64 0, .str (([] : List UInt8)), i64 0, i64 0] false, .box [i64 1, .str (([] : List UInt8)), i64 0, i64 at_343] false]⟩ : St)) (fun v => v = j_475) ?_ ?_
      · have h := hA_476; clear hA_476
        refine run_block ?_
        replace h := bind_some1 h; obtain ⟨x_500, hx_501, hj_502⟩ := h
        refine run_loopO hx_501 (fun (v : Int) => (⟨asFr 111 [(0, .str src_342), (1, i64 at_343), (4, .ref 0 0), (6, i64 v), (7, .ref 1 0)], [.box [i64 0, .str (([] : List UInt8)), i64 0, i64 0] false, .box [i64 1, .str (([] : List UInt8)), i64 0, i64 at_343] false]⟩ : St)) (weak_sel [0, 1] (by decide) rfl (by simp only [go_sem, reduceIte, Nat.reduceLT, Nat.reduceEqDiff, Nat.reduceAdd]) (by simp only [go_sem, reduceIte, Nat.reduceLT, Nat.reduceEqDiff, Nat.reduceAdd])) ?_
        rintro end_488 o_503 h hxx_504
        replace h : r15_next_b1 src_342 end_488 = some o_503 := h
        unfold r15_next_b1 at h
        refine run_seq ?_
        replace h := bind_some1 h; obtain ⟨t_507, hv_508, h⟩ := h
        refine run_textW hE [0, 1, 4, 6, 7, 31] (fr' := [(0, .str src_342), (1, i64 at_343), (4, .ref 0 0), (6, i64 end_488), (7, .ref 1 0), (31, .bool t_507)]) (σ' := [.box [i64 0, .str (([] : List UInt8)), i64 0, i64 0] false, .box [i64 1, .str (([] : List UInt8)), i64 0, i64 at_343] false]) ?_ ?_
        · rcases Bool.eq_false_or_eq_true ((decide (end_488 < (src_342.length : Int)))) with hb_509 | hb_509
          · replace hv_508 := ite_t hv_508 hb_509
            replace hv_508 := chk_some hv_508; obtain ⟨hc_510, hv_508⟩ := hv_508
            replace hv_508 := bind_some1 hv_508; obtain ⟨y_505, hy_511, hv_508⟩ := hv_508
            rcases Bool.eq_false_or_eq_true y_505 with hb_512 | hb_512
            · replace hv_508 := ite_t hv_508 hb_512
              have e_hv_508 := Option.some.inj hv_508; subst e_hv_508
              exact ⟨_, [(0, .str src_342), (1, i64 at_343), (4, .ref 0 0), (6, i64 end_488), (7, .ref 1 0), (31, .bool true)], [.box [i64 0, .str (([] : List UInt8)), i64 0, i64 0] false, .box [i64 1, .str (([] : List UInt8)), i64 0, i64 at_343] false], orcs_ok (l := [(24, 35, [u8 ((nth src_342 end_488.toNat))], .bool y_505)]) ⟨r15_letter_con  hy_511, trivial⟩, by simp only [go_sem, reduceIte, Nat.reduceLT, Nat.reduceEqDiff, Nat.reduceAdd, Int.reduceToNat, hb_509, hc_510, hc_510.2, lt_le hc_510.2, hb_512], (weak_sel [0, 1] (by decide) rfl (by simp only [go_sem, reduceIte, Nat.reduceLT, Nat.reduceEqDiff, Nat.reduceAdd]) (by simp only [go_sem, reduceIte, Nat.reduceLT, Nat.reduceEqDiff, Nat.reduceAdd]))⟩
            · replace hv_508 := ite_f hv_508 hb_512
              replace hv_508 := chk_some hv_508; obtain ⟨hc_513, hv_508⟩ := hv_508
              replace hv_508 := bind_some1 hv_508; obtain ⟨y_506, hy_514, hv_508⟩ := hv_508
              have e_hv_508 := Option.some.inj hv_508; subst e_hv_508
              exact ⟨_, [(0, .str src_342), (1, i64 at_343), (4, .ref 0 0), (6, i64 end_488), (7, .ref 1 0), (31, .bool y_506)], [.box [i64 0, .str (([] : List UInt8)), i64 0, i64 0] false, .box [i64 1, .str (([] : List UInt8)), i64 0, i64 at_343] false], orcs_ok (l := [(24, 35, [u8 ((nth src_342 end_488.toNat))], .bool y_505), (29, 36, [u8 ((nth src_342 end_488.toNat))], .bool y_506)]) ⟨r15_letter_con  hy_511, r15_digit_con  hy_514, trivial⟩, by simp only [go_sem, reduceIte, Nat.reduceLT, Nat.reduceEqDiff, Nat.reduceAdd, Int.reduceToNat, hb_509, hc_510, hc_510.2, lt_le hc_510.2, hb_512, hc_513, hc_513.2, lt_le hc_513.2], (weak_sel [0, 1] (by decide) rfl (by simp only [go_sem, reduceIte, Nat.reduceLT, Nat.reduceEqDiff, Nat.reduceAdd]) (by simp only [go_sem, reduceIte, Nat.reduceLT, Nat.reduceEqDiff, Nat.reduceAdd]))⟩
          · replace hv_508 := ite_f hv_508 hb_509
            have e_hv_508 := Option.some.inj hv_508; subst e_hv_508
            exact ⟨_, [(0, .str src_342), (1, i64 at_343), (4, .ref 0 0), (6, i64 end_488), (7, .ref 1 0), (31, .bool false)], [.box [i64 0, .str (([] : List UInt8)), i64 0, i64 0] false, .box [i64 1, .str (([] : List UInt8)), i64 0, i64 at_343] false], orcs_nil, by simp only [go_sem, reduceIte, Nat.reduceLT, Nat.reduceEqDiff, Nat.reduceAdd, Int.reduceToNat, hb_509], (weak_sel [0, 1] (by decide) rfl (by simp only [go_sem, reduceIte, Nat.reduceLT, Nat.reduceEqDiff, Nat.reduceAdd]) (by simp only [go_sem, reduceIte, Nat.reduceLT, Nat.reduceEqDiff, Nat.reduceAdd]))⟩
        refine run_condL (b := t_507) rfl (by decide) (fun hb => ?_) (fun hb => ?_)
        · replace h := ite_t h hb
          refine run_skip ?_
          refine thenK_n ?_
          refine run_block ?_
          refine run_textE0 hE (wk_block wk_lp) [0, 1, 4, 6, 7] (fr' := [(0, .str src_342), (1, i64 at_343), (4, .ref 0 0), (6, i64 ((w64 (end_488 + 1)))), (7, .ref 1 0)]) (σ' := [.box [i64 0, .str (([] : List UInt8)), i64 0, i64 0] false, .box [i64 1, .str (([] : List UInt8)), i64 0, i64 at_343] false]) ⟨_, orcs_nil, ?_⟩ ?_
          · simp only [go_sem, reduceIte, Nat.reduceLT, Nat.reduceEqDiff, Nat.reduceAdd]
          refine blockK_n ?_
          obtain rfl := Option.some.inj h
          exact lpK_n ((w64 (end_488 + 1))) rfl (weak_sel [0, 1] (by decide) rfl (by simp only [go_sem, reduceIte, Nat.reduceLT, Nat.reduceEqDiff, Nat.reduceAdd]) (by simp only [go_sem, reduceIte, Nat.reduceLT, Nat.reduceEqDiff, Nat.reduceAdd]))
        · replace h := ite_f h hb
          refine run_exit ?_
          refine thenK_x ?_
          obtain rfl := Option.some.inj h
          have ex_x_500 := hxx_504 _ rfl
          subst ex_x_500
          have h := hj_502; clear hj_502
          refine lpK_x ?_
          refine blockK_x ?_
          obtain rfl := Option.some.inj h
          exact joinK_n end_488 rfl ((weak_sel (l' := [(0, .str src_342), (1, i64 at_343), (4, .ref 0 0), (6, i64 end_488), (7, .ref 1 0)]) (σ' := [.box [i64 0, .str (([] : List UInt8)), i64 0, i64 0] false, .box [i64 1, .str (([] : List UInt8)), i64 0, i64 at_343] false]) [0, 1] (by decide) rfl (by simp only [go_sem, reduceIte, Nat.reduceLT, Nat.reduceEqDiff, Nat.reduceAdd]) (by simp only [go_sem, reduceIte, Nat.reduceLT, Nat.reduceEqDiff, Nat.reduceAdd])).trans (weak_sel [0, 1] (by decide) rfl (by simp only [go_sem, reduceIte, Nat.reduceLT, Nat.reduceEqDiff, Nat.reduceAdd]) (by simp only [go_sem, reduceIte, Nat.reduceLT, Nat.reduceEqDiff, Nat.reduceAdd])))
      rintro end_474 rfl
      have h := hj_477; clear hj_477
      replace h := chk_some h; obtain ⟨hc_515, h⟩ := h
      replace h := chk_some h; obtain ⟨hc_516, h⟩ := h
      replace h := lt1_some h; obtain ⟨f_517, hz_518, h⟩ := h
      refine run_textE hE [1, 4, 6, 7] (fr' := [(1, i64 at_343), (4, .ref 0 0), (6, i64 end_474), (7, .ref 1 0)]) (σ' := [.box [i64 0, .str (([] : List UInt8)), i64 0, i64 0] false, .box [i64 1, .str f_517, i64 0, i64 at_343] false]) ⟨_, orcs_nil, ?_⟩ ?_
      · subst hz_518; simp only [go_sem, reduceIte, Nat.reduceLT, Nat.reduceEqDiff, Nat.reduceAdd, Int.reduceToNat, Nat.reduceLeDiff, hc_515, hc_516]
      refine run_seq ?_
      refine run_textE hE [4, 7, 42] (fr' := [(4, .ref 0 0), (7, .ref 1 0), (42, .bool ((decide ((w64 (end_474 - at_343)) > 32))))]) (σ' := [.box [i64 0, .str (([] : List UInt8)), i64 0, i64 0] false, .box [i64 1, .str f_517, i64 0, i64 at_343] false]) ⟨_, orcs_nil, ?_⟩ ?_
      · simp only [go_sem, reduceIte, Nat.reduceLT, Nat.reduceEqDiff, Nat.reduceAdd]
      refine run_condL (b := (decide ((w64 (end_474 - at_343)) > 32))) rfl (by decide) (fun hb => ?_) (fun hb => ?_)
      · replace h := ite_t h hb
        refine run_textE hE [4, 5] (fr' := [(4, .ref 0 0), (5, i64 2)]) (σ' := [.box [i64 1, .str f_517, i64 0, i64 at_343] false, .box [i64 1, .str f_517, i64 0, i64 at_343] false]) ⟨_, orcs_nil, ?_⟩ ?_
        · simp only [go_sem, reduceIte, Nat.reduceLT, Nat.reduceEqDiff, Nat.reduceAdd, Nat.reduceLeDiff]
        refine run_ret ?_
        refine thenK_r ?_
        refine joinK_r ?_
        replace h := bind_some1 h; obtain ⟨z_519, h, e_z_519⟩ := h
        obtain rfl := Option.some.inj e_z_519
        obtain rfl := Option.some.inj hj_433
        obtain rfl := Option.some.inj h
        refine ret_ok (.inr rfl) ?_
        simp only [go_sem, reduceIte, Nat.reduceLT, Nat.reduceEqDiff, Nat.reduceAdd]
      · replace h := ite_f h hb
        refine run_skip ?_
        refine thenK_n ?_
        refine run_textE hE [4, 5] (fr' := [(4, .ref 0 0), (5, i64 0)]) (σ' := [.box [i64 1, .str f_517, i64 0, i64 at_343] false, .box [i64 1, .str f_517, i64 0, i64 at_343] false]) ⟨_, orcs_nil, ?_⟩ ?_
        · simp only [go_sem, reduceIte, Nat.reduceLT, Nat.reduceEqDiff, Nat.reduceAdd, Nat.reduceLeDiff]
        refine run_ret ?_
        refine joinK_r ?_
        replace h := bind_some1 h; obtain ⟨z_520, h, e_z_520⟩ := h
        obtain rfl := Option.some.inj e_z_520
        obtain rfl := Option.some.inj hj_433
        obtain rfl := Option.some.inj h
        refine ret_ok (.inr rfl) ?_
        simp only [go_sem, reduceIte, Nat.reduceLT, Nat.reduceEqDiff, Nat.reduceAdd]
    · replace h := ite_f h hb
      refine run_skip ?_
      obtain rfl := Option.some.inj h
      exact joinK_n (()) rfl (weak_sel [0, 1] (by decide) rfl (by simp only [go_sem, reduceIte, Nat.reduceLT, Nat.reduceEqDiff, Nat.reduceAdd]) (by simp only [go_sem, reduceIte, Nat.reduceLT, Nat.reduceEqDiff, Nat.reduceAdd]))
  rintro ⟨⟩ rfl
  have h := hj_433; clear hj_433
  refine run_seq ?_
  replace h := chk_some h; obtain ⟨hc_522, h⟩ := h
  replace h := bind_some1 h; obtain ⟨y_521, hy_523, h⟩ := h
  refine run_textE hE [0, 1, 4, 6, 7, 49] (fr' := [(0, .str src_342), (1, i64 at_343), (4, .ref 0 0), (6, i64 at_343), (7, .ref 1 0), (49, .bool ((!y_521)))]) (σ' := [.box [i64 0, .str (([] : List UInt8)), i64 0, i64 0] false, .box [i64 1, .str (([] : List UInt8)), i64 0, i64 at_343] false]) ⟨_, orcs_ok (l := [(48, 36, [u8 ((nth src_342 at_343.toNat))], .bool y_521)]) ⟨r15_digit_con  hy_523, trivial⟩, ?_⟩ ?_
  · simp only [go_sem, reduceIte, Nat.reduceLT, Nat.reduceEqDiff, Nat.reduceAdd, Int.reduceToNat, hc_522, hc_522.2, lt_le hc_522.2]
  refine run_condL (b := (!y_521)) rfl (by decide) (fun hb => ?_) (fun hb => ?_)
  · replace h := ite_t h hb
    replace h := bind_some1 h; obtain ⟨y_524, hy_525, h⟩ := h
    refine run_textE hE [0, 1, 4, 7, 8] (fr' := [(0, .str src_342), (1, i64 at_343), (4, .ref 0 0), (7, .ref 1 0), (8, i64 y_524)]) (σ' := [.box [i64 0, .str (([] : List UInt8)), i64 0, i64 0] false, .box [i64 1, .str (([] : List UInt8)), i64 0, i64 at_343] false]) ⟨_, orcs_ok (l := [(52, 37, [.str src_342, i64 at_343], i64 y_524)]) ⟨r15_sign_con  hy_525, trivial⟩, ?_⟩ ?_
    · simp only [go_sem, reduceIte, Nat.reduceLT, Nat.reduceEqDiff, Nat.reduceAdd]
    refine run_seq ?_
    refine run_textE hE [0, 1, 4, 7, 8, 54] (fr' := [(0, .str src_342), (1, i64 at_343), (4, .ref 0 0), (7, .ref 1 0), (8, i64 y_524), (54, .bool ((y_524 == 0)))]) (σ' := [.box [i64 0, .str (([] : List UInt8)), i64 0, i64 0] false, .box [i64 1, .str (([] : List UInt8)), i64 0, i64 at_343] false]) ⟨_, orcs_nil, ?_⟩ ?_
    · simp only [go_sem, reduceIte, Nat.reduceLT, Nat.reduceEqDiff, Nat.reduceAdd]
    refine run_condL (b := (y_524 == 0)) rfl (by decide) (fun hb => ?_) (fun hb => ?_)
    · replace h := ite_t h hb
      refine run_textE hE [4, 5] (fr' := [(4, .ref 0 0), (5, i64 150)]) (σ' := [.box [i64 1, .str (([] : List UInt8)), i64 0, i64 at_343] false, .box [i64 1, .str (([] : List UInt8)), i64 0, i64 at_343] false]) ⟨_, orcs_nil, ?_⟩ ?_
      · simp only [go_sem, reduceIte, Nat.reduceLT, Nat.reduceEqDiff, Nat.reduceAdd, Nat.reduceLeDiff]
      refine run_ret ?_
      refine thenK_r ?_
      refine thenK_r ?_
      obtain rfl := Option.some.inj h
      refine ret_ok (.inr rfl) ?_
      simp only [go_sem, reduceIte, Nat.reduceLT, Nat.reduceEqDiff, Nat.reduceAdd]
    · replace h := ite_f h hb
      refine run_skip ?_
      refine thenK_n ?_
      replace h := chk_some h; obtain ⟨hc_526, h⟩ := h
      replace h := chk_some h; obtain ⟨hc_527, h⟩ := h
      replace h := lt1_some h; obtain ⟨f_528, hz_529, h⟩ := h
      refine run_textE hE [4, 5] (fr' := [(4, .ref 0 0), (5, i64 0)]) (σ' := [.box [i64 3, .str f_528, i64 0, i64 at_343] false, .box [i64 1, .str (([] : List UInt8)), i64 0, i64 at_343] false]) ⟨_, orcs_nil, ?_⟩ ?_
      · subst hz_529; simp only [go_sem, reduceIte, Nat.reduceLT, Nat.reduceEqDiff, Nat.reduceAdd, Nat.reduceGT, Int.reduceToNat, Nat.reduceLeDiff, hc_526, hc_527]
      refine run_ret ?_
      refine thenK_r ?_
      obtain rfl := Option.some.inj h
      refine ret_ok (.inr rfl) ?_
      simp only [go_sem, reduceIte, Nat.reduceLT, Nat.reduceEqDiff, Nat.reduceAdd]
  · replace h := ite_f h hb
    refine run_skip ?_
    refine thenK_n ?_
    refine run_textE hE [0, 1, 4, 6, 7] (fr' := [(0, .str src_342), (1, i64 at_343), (4, .ref 0 0), (6, i64 at_343), (7, .ref 1 0)]) (σ' := [.box [i64 0, .str (([] : List UInt8)), i64 0, i64 0] false, .box [i64 2, .str (([] : List UInt8)), i64 0, i64 at_343] false]) ⟨_, orcs_nil, ?_⟩ ?_
    · simp only [go_sem, reduceIte, Nat.reduceLT, Nat.reduceEqDiff, Nat.reduceAdd, Nat.reduceLeDiff]
    replace h := bind_some1 h; obtain ⟨j_589, hA_590, hj_591⟩ := h
    refine run_join (fun (v : Int × Int) => (⟨asFr 111 [(0, .str src_342), (1, i64 at_343), (4, .ref 0 0), (6, i64 v.1), (7, .ref 1 0)], [.box [i64 0, .str (([] : List UInt8)), i64 0, i64 0] false, .box [i64 2, .str (([] : List UInt8)), i64 v.2, i64 at_343] false]⟩ : St)) (fun v => v = j_589) ?_ ?_
    · have h := hA_590; clear hA_590
      refine run_block ?_
      replace h := bind_some1 h; obtain ⟨x_628, hx_629, hj_630⟩ := h
      refine run_loopO hx_629 (fun (v : Int × Int) => (⟨asFr 111 [(0, .str src_342), (1, i64 at_343), (4, .ref 0 0), (6, i64 v.1), (7, .ref 1 0)], [.box [i64 0, .str (([] : List UInt8)), i64 0, i64 0] false, .box [i64 2, .str (([] : List UInt8)), i64 v.2, i64 at_343] false]⟩ : St)) (weak_sel [0, 1] (by decide) rfl (by simp only [go_sem, reduceIte, Nat.reduceLT, Nat.reduceEqDiff, Nat.reduceAdd]) (by simp only [go_sem, reduceIte, Nat.reduceLT, Nat.reduceEqDiff, Nat.reduceAdd])) ?_
      rintro ⟨end_608, f_609⟩ o_631 h hxx_632
      replace h : r15_next_b2 src_342 end_608 f_609 = some o_631 := h
      unfold r15_next_b2 at h
      refine run_seq ?_
      replace h := bind_some1 h; obtain ⟨t_634, hv_635, h⟩ := h
      refine run_textW hE [0, 1, 4, 6, 7, 74] (fr' := [(0, .str src_342), (1, i64 at_343), (4, .ref 0 0), (6, i64 end_608), (7, .ref 1 0), (74, .bool t_634)]) (σ' := [.box [i64 0, .str (([] : List UInt8)), i64 0, i64 0] false, .box [i64 2, .str (([] : List UInt8)), i64 f_609, i64 at_343] false]) ?_ ?_
      · rcases Bool.eq_false_or_eq_true ((decide (end_608 < (src_342.length : Int)))) with hb_636 | hb_636
        · replace hv_635 := ite_t hv_635 hb_636
          replace hv_635 := chk_some hv_635; obtain ⟨hc_637, hv_635⟩ := hv_635
          replace hv_635 := bind_some1 hv_635; obtain ⟨y_633, hy_638, hv_635⟩ := hv_635
          have e_hv_635 := Option.some.inj hv_635; subst e_hv_635
          exact ⟨_, [(0, .str src_342), (1, i64 at_343), (4, .ref 0 0), (6, i64 end_608), (7, .ref 1 0), (74, .bool y_633)], [.box [i64 0, .str (([] : List UInt8)), i64 0, i64 0] false, .box [i64 2, .str (([] : List UInt8)), i64 f_609, i64 at_343] false], orcs_ok (l := [(73, 36, [u8 ((nth src_342 end_608.toNat))], .bool y_633)]) ⟨r15_digit_con  hy_638, trivial⟩, by simp only [go_sem, reduceIte, Nat.reduceLT, Nat.reduceEqDiff, Nat.reduceAdd, Int.reduceToNat, hb_636, hc_637, hc_637.2, lt_le hc_637.2], (weak_sel [0, 1] (by decide) rfl (by simp only [go_sem, reduceIte, Nat.reduceLT, Nat.reduceEqDiff, Nat.reduceAdd]) (by simp only [go_sem, reduceIte, Nat.reduceLT, Nat.reduceEqDiff, Nat.reduceAdd]))⟩
        · replace hv_635 := ite_f hv_635 hb_636
          have e_hv_635 := Option.some.inj hv_635; subst e_hv_635
          exact ⟨_, [(0, .str src_342), (1, i64 at_343), (4, .ref 0 0), (6, i64 end_608), (7, .ref 1 0), (74, .bool false)], [.box [i64 0, .str (([] : List UInt8)), i64 0, i64 0] false, .box [i64 2, .str (([] : List UInt8)), i64 f_609, i64 at_343] false], orcs_nil, by simp only [go_sem, reduceIte, Nat.reduceLT, Nat.reduceEqDiff, Nat.reduceAdd, Int.reduceToNat, hb_636], (weak_sel [0, 1] (by decide) rfl (by simp only [go_sem, reduceIte, Nat.reduceLT, Nat.reduceEqDiff, Nat.reduceAdd]) (by simp only [go_sem, reduceIte, Nat.reduceLT, Nat.reduceEqDiff, Nat.reduceAdd]))⟩
      refine run_condL (b := t_634) rfl (by decide) (fun hb => ?_) (fun hb => ?_)
      · replace h := ite_t h hb
        refine run_skip ?_
        refine thenK_n ?_
        refine run_block ?_
        replace h := bind_some1 h; obtain ⟨j_643, hA_644, hj_645⟩ := h
        refine run_join (fun (v : Int) => (⟨asFr 111 [(0, .str src_342), (1, i64 at_343), (4, .ref 0 0), (6, i64 end_608), (7, .ref 1 0)], [.box [i64 0, .str (([] : List UInt8)), i64 0, i64 0] false, .box [i64 2, .str (([] : List UInt8)), i64 v, i64 at_343] false]⟩ : St)) (fun v => v = j_643) ?_ ?_
        · have h := hA_644; clear hA_644
          refine run_textE hE [0, 1, 4, 6, 7, 77] (fr' := [(0, .str src_342), (1, i64 at_343), (4, .ref 0 0), (6, i64 end_608), (7, .ref 1 0), (77, .bool ((decide (f_609 ≤ 1099511627776))))]) (σ' := [.box [i64 0, .str (([] : List UInt8)), i64 0, i64 0] false, .box [i64 2, .str (([] : List UInt8)), i64 f_609, i64 at_343] false]) ⟨_, orcs_nil, ?_⟩ ?_
          · simp only [go_sem, reduceIte, Nat.reduceLT, Nat.reduceEqDiff, Nat.reduceAdd]
          refine run_condL (b := (decide (f_609 ≤ 1099511627776))) rfl (by decide) (fun hb => ?_) (fun hb => ?_)
          · replace h := ite_t h hb
            replace h := chk_some h; obtain ⟨hc_646, h⟩ := h
            replace h := lt1_some h; obtain ⟨f_647, hz_648, h⟩ := h
            refine run_drawE0 hE mixed [[], [0], [0, 1], [], [], [3, 4], [3, 4, 5], [3, 4, 5, 6], [0, 1, 2, 3, 4, 5, 6, 7], [0, 1, 2, 3, 4, 5, 6, 7, 8], [0, 1, 2, 3, 4, 5, 6, 7, 8, 9]] (by kernel_rfl) (by kernel_rfl) wk_join [0, 1, 4, 6, 7] (fr' := [(0, .str src_342), (1, i64 at_343), (4, .ref 0 0), (6, i64 end_608), (7, .ref 1 0)]) (σ' := [.box [i64 0, .str (([] : List UInt8)), i64 0, i64 0] false, .box [i64 2, .str (([] : List UInt8)), i64 f_647, i64 at_343] false]) ⟨_, orcs_nil, ?_⟩ ?_
            · subst hz_648; simp only [go_sem, reduceIte, Nat.reduceLT, Nat.reduceEqDiff, Nat.reduceAdd, Int.reduceToNat, Nat.reduceLeDiff, hc_646, hc_646.2, lt_le hc_646.2]
            obtain rfl := Option.some.inj h
            exact joinK_n f_647 rfl (weak_sel [0, 1] (by decide) rfl (by simp only [go_sem, reduceIte, Nat.reduceLT, Nat.reduceEqDiff, Nat.reduceAdd]) (by simp only [go_sem, reduceIte, Nat.reduceLT, Nat.reduceEqDiff, Nat.reduceAdd]))
          · replace h := ite_f h hb
            refine run_skip ?_
            obtain rfl := Option.some.inj h
            exact joinK_n f_609 rfl (weak_sel [0, 1] (by decide) rfl (by simp only [go_sem, reduceIte, Nat.reduceLT, Nat.reduceEqDiff, Nat.reduceAdd]) (by simp only [go_sem, reduceIte, Nat.reduceLT, Nat.reduceEqDiff, Nat.reduceAdd]))
        rintro f_642 rfl
        have h := hj_645; clear hj_645
        refine run_textE0 hE (wk_block wk_lp) [0, 1, 4, 6, 7] (fr' := [(0, .str src_342), (1, i64 at_343), (4, .ref 0 0), (6, i64 ((w64 (end_608 + 1)))), (7, .ref 1 0)]) (σ' := [.box [i64 0, .str (([] : List UInt8)), i64 0, i64 0] false, .box [i64 2, .str (([] : List UInt8)), i64 f_642, i64 at_343] false]) ⟨_, orcs_nil, ?_⟩ ?_
        · simp only [go_sem, reduceIte, Nat.reduceLT, Nat.reduceEqDiff, Nat.reduceAdd]
        refine blockK_n ?_
        obtain rfl := Option.some.inj h
        exact lpK_n (((w64 (end_608 + 1)), f_642)) rfl (weak_sel [0, 1] (by decide) rfl (by simp only [go_sem, reduceIte, Nat.reduceLT, Nat.reduceEqDiff, Nat.reduceAdd]) (by simp only [go_sem, reduceIte, Nat.reduceLT, Nat.reduceEqDiff, Nat.reduceAdd]))
      · replace h := ite_f h hb
        refine run_exit ?_
        refine thenK_x ?_
        obtain rfl := Option.some.inj h
        have ex_x_628 := hxx_632 _ rfl
        subst ex_x_628
        have h := hj_630; clear hj_630
        refine lpK_x ?_
        refine blockK_x ?_
        obtain rfl := Option.some.inj h
        exact joinK_n ((end_608, f_609)) rfl ((weak_sel (l' := [(0, .str src_342), (1, i64 at_343), (4, .ref 0 0), (6, i64 end_608), (7, .ref 1 0)]) (σ' := [.box [i64 0, .str (([] : List UInt8)), i64 0, i64 0] false, .box [i64 2, .str (([] : List UInt8)), i64 f_609, i64 at_343] false]) [0, 1] (by decide) rfl (by simp only [go_sem, reduceIte, Nat.reduceLT, Nat.reduceEqDiff, Nat.reduceAdd]) (by simp only [go_sem, reduceIte, Nat.reduceLT, Nat.reduceEqDiff, Nat.reduceAdd])).trans (weak_sel [0, 1] (by decide) rfl (by simp only [go_sem, reduceIte, Nat.reduceLT, Nat.reduceEqDiff, Nat.reduceAdd]) (by simp only [go_sem, reduceIte, Nat.reduceLT, Nat.reduceEqDiff, Nat.reduceAdd])))
    rintro ⟨end_587, f_588⟩ rfl
    have h := hj_591; clear hj_591
    replace h := chk_some h; obtain ⟨hc_649, h⟩ := h
    replace h := chk_some h; obtain ⟨hc_650, h⟩ := h
    replace h := lt1_some h; obtain ⟨f_651, hz_652, h⟩ := h
    refine run_textE hE [0, 1, 4, 6, 7] (fr' := [(0, .str src_342), (1, i64 at_343), (4, .ref 0 0), (6, i64 end_587), (7, .ref 1 0)]) (σ' := [.box [i64 0, .str (([] : List UInt8)), i64 0, i64 0] false, .box [i64 2, .str f_651, i64 f_588, i64 at_343] false]) ⟨_, orcs_nil, ?_⟩ ?_
    · subst hz_652; simp only [go_sem, reduceIte, Nat.reduceLT, Nat.reduceEqDiff, Nat.reduceAdd, Int.reduceToNat, Nat.reduceLeDiff, hc_649, hc_650]
    refine run_seq ?_
    replace h := bind_some1 h; obtain ⟨t_653, hv_654, h⟩ := h
    refine run_textW hE [4, 7, 104] (fr' := [(4, .ref 0 0), (7, .ref 1 0), (104, .bool t_653)]) (σ' := [.box [i64 0, .str (([] : List UInt8)), i64 0, i64 0] false, .box [i64 2, .str f_651, i64 f_588, i64 at_343] false]) ?_ ?_
    · rcases Bool.eq_false_or_eq_true ((decide ((w64 (end_587 - at_343)) > 1))) with hb_655 | hb_655
      · replace hv_654 := ite_t hv_654 hb_655
        replace hv_654 := chk_some hv_654; obtain ⟨hc_656, hv_654⟩ := hv_654
        have e_hv_654 := Option.some.inj hv_654; subst e_hv_654
        exact ⟨_, [(4, .ref 0 0), (7, .ref 1 0), (104, .bool (((nth src_342 at_343.toNat) == (48 : UInt8))))], [.box [i64 0, .str (([] : List UInt8)), i64 0, i64 0] false, .box [i64 2, .str f_651, i64 f_588, i64 at_343] false], orcs_nil, by simp only [go_sem, reduceIte, Nat.reduceLT, Nat.reduceEqDiff, Nat.reduceAdd, Int.reduceToNat, hb_655, hc_656, hc_656.2, lt_le hc_656.2], (weak_sel [0, 1] (by decide) rfl (by simp only [go_sem, reduceIte, Nat.reduceLT, Nat.reduceEqDiff, Nat.reduceAdd]) (by simp only [go_sem, reduceIte, Nat.reduceLT, Nat.reduceEqDiff, Nat.reduceAdd]))⟩
      · replace hv_654 := ite_f hv_654 hb_655
        have e_hv_654 := Option.some.inj hv_654; subst e_hv_654
        exact ⟨_, [(4, .ref 0 0), (7, .ref 1 0), (104, .bool false)], [.box [i64 0, .str (([] : List UInt8)), i64 0, i64 0] false, .box [i64 2, .str f_651, i64 f_588, i64 at_343] false], orcs_nil, by simp only [go_sem, reduceIte, Nat.reduceLT, Nat.reduceEqDiff, Nat.reduceAdd, Int.reduceToNat, hb_655], (weak_sel [0, 1] (by decide) rfl (by simp only [go_sem, reduceIte, Nat.reduceLT, Nat.reduceEqDiff, Nat.reduceAdd]) (by simp only [go_sem, reduceIte, Nat.reduceLT, Nat.reduceEqDiff, Nat.reduceAdd]))⟩
    refine run_condL (b := t_653) rfl (by decide) (fun hb => ?_) (fun hb => ?_)
    · replace h := ite_t h hb
      refine run_textE hE [4, 5] (fr' := [(4, .ref 0 0), (5, i64 150)]) (σ' := [.box [i64 2, .str f_651, i64 f_588, i64 at_343] false, .box [i64 2, .str f_651, i64 f_588, i64 at_343] false]) ⟨_, orcs_nil, ?_⟩ ?_
      · simp only [go_sem, reduceIte, Nat.reduceLT, Nat.reduceEqDiff, Nat.reduceAdd, Nat.reduceLeDiff]
      refine run_ret ?_
      refine thenK_r ?_
      obtain rfl := Option.some.inj h
      refine ret_ok (.inr rfl) ?_
      simp only [go_sem, reduceIte, Nat.reduceLT, Nat.reduceEqDiff, Nat.reduceAdd]
    · replace h := ite_f h hb
      refine run_skip ?_
      refine thenK_n ?_
      refine run_seq ?_
      refine run_textE hE [4, 7, 108] (fr' := [(4, .ref 0 0), (7, .ref 1 0), (108, .bool ((decide (f_588 > 1099511627776))))]) (σ' := [.box [i64 0, .str (([] : List UInt8)), i64 0, i64 0] false, .box [i64 2, .str f_651, i64 f_588, i64 at_343] false]) ⟨_, orcs_nil, ?_⟩ ?_
      · simp only [go_sem, reduceIte, Nat.reduceLT, Nat.reduceEqDiff, Nat.reduceAdd]
      refine run_condL (b := (decide (f_588 > 1099511627776))) rfl (by decide) (fun hb => ?_) (fun hb => ?_)
      · replace h := ite_t h hb
        refine run_textE hE [4, 5] (fr' := [(4, .ref 0 0), (5, i64 2)]) (σ' := [.box [i64 2, .str f_651, i64 f_588, i64 at_343] false, .box [i64 2, .str f_651, i64 f_588, i64 at_343] false]) ⟨_, orcs_nil, ?_⟩ ?_
        · simp only [go_sem, reduceIte, Nat.reduceLT, Nat.reduceEqDiff, Nat.reduceAdd, Nat.reduceLeDiff]
        refine run_ret ?_
        refine thenK_r ?_
        obtain rfl := Option.some.inj h
        refine ret_ok (.inr rfl) ?_
        simp only [go_sem, reduceIte, Nat.reduceLT, Nat.reduceEqDiff, Nat.reduceAdd]
      · replace h := ite_f h hb
        refine run_skip ?_
        refine thenK_n ?_
        refine run_textE hE [4, 5] (fr' := [(4, .ref 0 0), (5, i64 0)]) (σ' := [.box [i64 2, .str f_651, i64 f_588, i64 at_343] false, .box [i64 2, .str f_651, i64 f_588, i64 at_343] false]) ⟨_, orcs_nil, ?_⟩ ?_
        · simp only [go_sem, reduceIte, Nat.reduceLT, Nat.reduceEqDiff, Nat.reduceAdd, Nat.reduceLeDiff]
        refine run_ret ?_
        obtain rfl := Option.some.inj h
        refine ret_ok (.inr rfl) ?_
        simp only [go_sem, reduceIte, Nat.reduceLT, Nat.reduceEqDiff, Nat.reduceAdd]

end Go.Proofs.YtballlkeogmoiaaDoor
/-
  The functions compute just that.
-/
namespace Go.Proofs.YtballlkeogmoiaaDoor
open Go.Rv
set_option linter.unusedVariables false
set_option linter.unusedSimpArgs false
set_option maxRecDepth 20000
variable {rs : Nat → Nat}
set_option maxHeartbeats 4000000

theorem r15_Tokens_con {src_657 : List UInt8} {r : List Api_Token × Int × Int} (h : r15_Tokens src_657 = some r) : Con (B rs) 12 [.str src_657] [] (fun r' σ' => r' = .tup [.sl false (L cApi_Token r.1), i64 r.2.1, i64 r.2.2] ∧ σ' = []) := by
  refine con_walk (N := 52) (rs := [.tmp 2, .tmp 3, .tmp 4]) ok Tryd.func12 rfl (by decide +kernel) rfl rfl (Nat.le_of_ble_eq_true rfl) (fun F => ?_)
  have hE := (ok (rs := rs)).env F
  unfold r15_Tokens at h
  show Run ((B rs).env F) 0 _ ⟨asFr 52 [(0, .str src_657)], []⟩ _
  refine run_textE hE [0] (fr' := [(0, .str src_657)]) (σ' := []) ⟨_, orcs_nil, ?_⟩ ?_
  · simp only [go_sem, reduceIte, Nat.reduceLT, Nat.reduceEqDiff, Nat.reduceAdd]
  refine run_seq ?_
  refine run_textE hE [0, 13] (fr' := [(0, .str src_657), (13, .bool ((decide ((src_657.length : Int) > 2000))))]) (σ' := []) ⟨_, orcs_nil, ?_⟩ ?_
  · simp only [go_sem, reduceIte, Nat.reduceLT, Nat.reduceEqDiff, Nat.reduceAdd]
  refine run_condL (b := (decide ((src_657.length : Int) > 2000))) rfl (by decide) (fun hb => ?_) (fun hb => ?_)
  · replace h := ite_t h hb
    refine run_textE hE [2, 3, 4] (fr' := [(2, .sl true (L cApi_Token ([]))), (3, i64 0), (4, i64 2)]) (σ' := []) ⟨_, orcs_nil, ?_⟩ ?_
    · simp only [go_sem, reduceIte, Nat.reduceLT, Nat.reduceEqDiff, Nat.reduceAdd]
    refine run_ret ?_
    refine thenK_r ?_
    obtain rfl := Option.some.inj h
    refine ret_ok (.inr rfl) ?_
    simp only [go_sem, reduceIte, Nat.reduceLT, Nat.reduceEqDiff, Nat.reduceAdd]
  · replace h := ite_f h hb
    refine run_skip ?_
    refine thenK_n ?_
    refine run_textE hE [0, 5] (fr' := [(0, .str src_657), (5, .sl true (L cApi_Token ([])))]) (σ' := []) ⟨_, orcs_nil, ?_⟩ ?_
    · simp only [go_sem, reduceIte, Nat.reduceLT, Nat.reduceEqDiff, Nat.reduceAdd]
    refine run_textE hE [0, 5, 6] (fr' := [(0, .str src_657), (5, .sl true (L cApi_Token ([]))), (6, .bool false)]) (σ' := []) ⟨_, orcs_nil, ?_⟩ ?_
    · simp only [go_sem, reduceIte, Nat.reduceLT, Nat.reduceEqDiff, Nat.reduceAdd]
    replace h := bind_some1 h; obtain ⟨j_737, hA_738, hj_739⟩ := h
    refine run_join (fun (v : List Api_Token) => (⟨asFr 52 [(5, .bs false 0 (v.length) 0 (v.length))], [.buf 4 (L cApi_Token v) false]⟩ : St)) (fun v => .inl v = j_737) ?_ ?_
    · have h := hA_738; clear hA_738
      refine run_textE hE [0, 5, 6, 7] (fr' := [(0, .str src_657), (5, .sl true (L cApi_Token ([]))), (6, .bool false), (7, i64 0)]) (σ' := []) ⟨_, orcs_nil, ?_⟩ ?_
      · simp only [go_sem, reduceIte, Nat.reduceLT, Nat.reduceEqDiff, Nat.reduceAdd]
      refine run_block ?_
      replace h := bind_some1 h; obtain ⟨x_790, hx_791, hj_792⟩ := h
      refine run_loopO hx_791 (fun (v : Bool × Int × List Api_Token) => (⟨asFr 52 [(0, .str src_657), (5, .bs false 0 (v.2.2.length) 0 (v.2.2.length)), (6, .bool v.1), (7, i64 v.2.1)], [.buf 4 (L cApi_Token v.2.2) false]⟩ : St)) ((weak_nil 5 4 rfl).trans (weak_sel [0] (by decide) rfl (by simp only [go_sem, reduceIte, Nat.reduceLT, Nat.reduceEqDiff, Nat.reduceAdd]) (by simp only [go_sem, reduceIte, Nat.reduceLT, Nat.reduceEqDiff, Nat.reduceAdd]))) ?_
      rintro ⟨comment_763, at_764, l_765⟩ o_793 h hxx_794
      replace h : r15_Tokens_b1 src_657 comment_763 at_764 l_765 = some o_793 := h
      unfold r15_Tokens_b1 at h
      refine run_seq ?_
      refine run_textE hE [0, 5, 6, 7, 17] (fr' := [(0, .str src_657), (5, .bs false 0 (l_765.length) 0 (l_765.length)), (6, .bool comment_763), (7, i64 at_764), (17, .bool ((decide (at_764 < (src_657.length : Int)))))]) (σ' := [.buf 4 (L cApi_Token l_765) false]) ⟨_, orcs_nil, ?_⟩ ?_
      · simp only [go_sem, reduceIte, Nat.reduceLT, Nat.reduceEqDiff, Nat.reduceAdd]
      refine run_condL (b := (decide (at_764 < (src_657.length : Int)))) rfl (by decide) (fun hb => ?_) (fun hb => ?_)
      · replace h := ite_t h hb
        refine run_skip ?_
        refine thenK_n ?_
        refine run_block ?_
        replace h := chk_some h; obtain ⟨hc_795, h⟩ := h
        refine run_textE hE [0, 5, 6, 7, 8] (fr' := [(0, .str src_657), (5, .bs false 0 (l_765.length) 0 (l_765.length)), (6, .bool comment_763), (7, i64 at_764), (8, u8 ((nth src_657 at_764.toNat)))]) (σ' := [.buf 4 (L cApi_Token l_765) false]) ⟨_, orcs_nil, ?_⟩ ?_
        · simp only [go_sem, reduceIte, Nat.reduceLT, Nat.reduceEqDiff, Nat.reduceAdd, Int.reduceToNat, hc_795, hc_795.2, lt_le hc_795.2]
        replace h := bind_some1 h; obtain ⟨j_797, hA_798, hj_799⟩ := h
        refine run_join (fun (v : Bool) => (⟨asFr 52 [(0, .str src_657), (5, .bs false 0 (l_765.length) 0 (l_765.length)), (6, .bool v), (7, i64 at_764), (8, u8 ((nth src_657 at_764.toNat)))], [.buf 4 (L cApi_Token l_765) false]⟩ : St)) (fun v => v = j_797) ?_ ?_
        · have h := hA_798; clear hA_798
          refine run_textE hE [0, 5, 6, 7, 8, 22] (fr' := [(0, .str src_657), (5, .bs false 0 (l_765.length) 0 (l_765.length)), (6, .bool comment_763), (7, i64 at_764), (8, u8 ((nth src_657 at_764.toNat))), (22, .bool (((nth src_657 at_764.toNat) == (35 : UInt8))))]) (σ' := [.buf 4 (L cApi_Token l_765) false]) ⟨_, orcs_nil, ?_⟩ ?_
          · simp only [go_sem, reduceIte, Nat.reduceLT, Nat.reduceEqDiff, Nat.reduceAdd]
          refine run_condL (b := ((nth src_657 at_764.toNat) == (35 : UInt8))) rfl (by decide) (fun hb => ?_) (fun hb => ?_)
          · replace h := ite_t h hb
            refine run_textE0 hE wk_join [0, 5, 6, 7, 8] (fr' := [(0, .str src_657), (5, .bs false 0 (l_765.length) 0 (l_765.length)), (6, .bool true), (7, i64 at_764), (8, u8 ((nth src_657 at_764.toNat)))]) (σ' := [.buf 4 (L cApi_Token l_765) false]) ⟨_, orcs_nil, ?_⟩ ?_
            · simp only [go_sem, reduceIte, Nat.reduceLT, Nat.reduceEqDiff, Nat.reduceAdd]
            obtain rfl := Option.some.inj h
            exact joinK_n true rfl (weak_sel [0] (by decide) rfl (by simp only [go_sem, reduceIte, Nat.reduceLT, Nat.reduceEqDiff, Nat.reduceAdd]) (by simp only [go_sem, reduceIte, Nat.reduceLT, Nat.reduceEqDiff, Nat.reduceAdd]))
          · replace h := ite_f h hb
            refine run_skip ?_
            obtain rfl := Option.some.inj h
            exact joinK_n comment_763 rfl (weak_sel [0] (by decide) rfl (by simp only [go_sem, reduceIte, Nat.reduceLT, Nat.reduceEqDiff, Nat.reduceAdd]) (by simp only [go_sem, reduceIte, Nat.reduceLT, Nat.reduceEqDiff, Nat.reduceAdd]))
        rintro comment_796 rfl
        have h := hj_799; clear hj_799
        replace h := bind_some1 h; obtain ⟨j_801, hA_802, hj_803⟩ := h
        refine run_join (fun (v : Bool) => (⟨asFr 52 [(0, .str src_657), (5, .bs false 0 (l_765.length) 0 (l_765.length)), (6, .bool v), (7, i64 at_764), (8, u8 ((nth src_657 at_764.toNat)))], [.buf 4 (L cApi_Token l_765) false]⟩ : St)) (fun v => v = j_801) ?_ ?_
        · have h := hA_802; clear hA_802
          refine run_textE hE [0, 5, 6, 7, 8, 24] (fr' := [(0, .str src_657), (5, .bs false 0 (l_765.length) 0 (l_765.length)), (6, .bool comment_796), (7, i64 at_764), (8, u8 ((nth src_657 at_764.toNat))), (24, .bool (((nth src_657 at_764.toNat) == (10 : UInt8))))]) (σ' := [.buf 4 (L cApi_Token l_765) false]) ⟨_, orcs_nil, ?_⟩ ?_
          · simp only [go_sem, reduceIte, Nat.reduceLT, Nat.reduceEqDiff, Nat.reduceAdd]
          refine run_condL (b := ((nth src_657 at_764.toNat) == (10 : UInt8))) rfl (by decide) (fun hb => ?_) (fun hb => ?_)
          · replace h := ite_t h hb
            refine run_textE0 hE wk_join [0, 5, 6, 7, 8] (fr' := [(0, .str src_657), (5, .bs false 0 (l_765.length) 0 (l_765.length)), (6, .bool false), (7, i64 at_764), (8, u8 ((nth src_657 at_764.toNat)))]) (σ' := [.buf 4 (L cApi_Token l_765) false]) ⟨_, orcs_nil, ?_⟩ ?_
            · simp only [go_sem, reduceIte, Nat.reduceLT, Nat.reduceEqDiff, Nat.reduceAdd]
            obtain rfl := Option.some.inj h
            exact joinK_n false rfl (weak_sel [0] (by decide) rfl (by simp only [go_sem, reduceIte, Nat.reduceLT, Nat.reduceEqDiff, Nat.reduceAdd]) (by simp only [go_sem, reduceIte, Nat.reduceLT, Nat.reduceEqDiff, Nat.reduceAdd]))
          · replace h := ite_f h hb
            refine run_skip ?_
            obtain rfl := Option.some.inj h
            exact joinK_n comment_796 rfl (weak_sel [0] (by decide) rfl (by simp only [go_sem, reduceIte, Nat.reduceLT, Nat.reduceEqDiff, Nat.reduceAdd]) (by simp only [go_sem, reduceIte, Nat.reduceLT, Nat.reduceEqDiff, Nat.reduceAdd]))
        rintro comment_800 rfl
        have h := hj_803; clear hj_803
        refine run_seq ?_
        replace h := bind_some1 h; obtain ⟨t_805, hv_806, h⟩ := h
        refine run_textW hE [0, 5, 6, 7, 29] (fr' := [(0, .str src_657), (5, .bs false 0 (l_765.length) 0 (l_765.length)), (6, .bool comment_800), (7, i64 at_764), (29, .bool t_805)]) (σ' := [.buf 4 (L cApi_Token l_765) false]) ?_ ?_
        · rcases Bool.eq_false_or_eq_true comment_800 with hb_807 | hb_807
          · replace hv_806 := ite_t hv_806 hb_807
            have e_hv_806 := Option.some.inj hv_806; subst e_hv_806
            exact ⟨_, [(0, .str src_657), (5, .bs false 0 (l_765.length) 0 (l_765.length)), (6, .bool comment_800), (7, i64 at_764), (29, .bool true)], [.buf 4 (L cApi_Token l_765) false], orcs_nil, by simp only [go_sem, reduceIte, Nat.reduceLT, Nat.reduceEqDiff, Nat.reduceAdd, hb_807], (weak_sel [0] (by decide) rfl (by simp only [go_sem, reduceIte, Nat.reduceLT, Nat.reduceEqDiff, Nat.reduceAdd]) (by simp only [go_sem, reduceIte, Nat.reduceLT, Nat.reduceEqDiff, Nat.reduceAdd]))⟩
          · replace hv_806 := ite_f hv_806 hb_807
            replace hv_806 := bind_some1 hv_806; obtain ⟨y_804, hy_808, hv_806⟩ := hv_806
            have e_hv_806 := Option.some.inj hv_806; subst e_hv_806
            exact ⟨_, [(0, .str src_657), (5, .bs false 0 (l_765.length) 0 (l_765.length)), (6, .bool comment_800), (7, i64 at_764), (29, .bool y_804)], [.buf 4 (L cApi_Token l_765) false], orcs_ok (l := [(28, 23, [u8 ((nth src_657 at_764.toNat))], .bool y_804)]) ⟨r15_Blank_con  hy_808, trivial⟩, by simp only [go_sem, reduceIte, Nat.reduceLT, Nat.reduceEqDiff, Nat.reduceAdd, hb_807], (weak_sel [0] (by decide) rfl (by simp only [go_sem, reduceIte, Nat.reduceLT, Nat.reduceEqDiff, Nat.reduceAdd]) (by simp only [go_sem, reduceIte, Nat.reduceLT, Nat.reduceEqDiff, Nat.reduceAdd]))⟩
        refine run_condL (b := t_805) rfl (by decide) (fun hb => ?_) (fun hb => ?_)
        · replace h := ite_t h hb
          refine run_textE hE [0, 5, 6, 7] (fr' := [(0, .str src_657), (5, .bs false 0 (l_765.length) 0 (l_765.length)), (6, .bool comment_800), (7, i64 ((w64 (at_764 + 1))))]) (σ' := [.buf 4 (L cApi_Token l_765) false]) ⟨_, orcs_nil, ?_⟩ ?_
          · simp only [go_sem, reduceIte, Nat.reduceLT, Nat.reduceEqDiff, Nat.reduceAdd]
          refine run_exit ?_
          refine thenK_x ?_
          refine blockK_x ?_
          obtain rfl := Option.some.inj h
          exact lpK_n ((comment_800, (w64 (at_764 + 1)), l_765)) rfl (weak_sel [0] (by decide) rfl (by simp only [go_sem, reduceIte, Nat.reduceLT, Nat.reduceEqDiff, Nat.reduceAdd]) (by simp only [go_sem, reduceIte, Nat.reduceLT, Nat.reduceEqDiff, Nat.reduceAdd]))
        · replace h := ite_f h hb
          refine run_skip ?_
          refine thenK_n ?_
          replace h := bind_some1 h; obtain ⟨y_809, hy_810, h⟩ := h
          refine run_textE hE [0, 5, 6, 7, 9, 10] (fr' := [(0, .str src_657), (5, .bs false 0 (l_765.length) 0 (l_765.length)), (6, .bool comment_800), (7, i64 at_764), (9, .ref 1 0), (10, i64 y_809.2)]) (σ' := [.buf 4 (L cApi_Token l_765) false, .box [i64 y_809.1.Kind, .str y_809.1.Text, i64 y_809.1.N, i64 y_809.1.At] false]) ⟨_, orcs_ok (l := [(35, 24, [.str src_657, i64 at_764], .tup [.agg [i64 y_809.1.Kind, .str y_809.1.Text, i64 y_809.1.N, i64 y_809.1.At], i64 y_809.2])]) ⟨r15_next_con  hy_810, trivial⟩, ?_⟩ ?_
          · simp only [go_sem, reduceIte, Nat.reduceLT, Nat.reduceEqDiff, Nat.reduceAdd, Nat.reduceLeDiff]
          refine run_seq ?_
          refine run_textE hE [0, 5, 6, 7, 9, 10, 39] (fr' := [(0, .str src_657), (5, .bs false 0 (l_765.length) 0 (l_765.length)), (6, .bool comment_800), (7, i64 at_764), (9, .ref 1 0), (10, i64 y_809.2), (39, .bool ((y_809.2 != 0)))]) (σ' := [.buf 4 (L cApi_Token l_765) false, .box [i64 y_809.1.Kind, .str y_809.1.Text, i64 y_809.1.N, i64 y_809.1.At] false]) ⟨_, orcs_nil, ?_⟩ ?_
          · simp only [go_sem, reduceIte, Nat.reduceLT, Nat.reduceEqDiff, Nat.reduceAdd]
          refine run_condL (b := (y_809.2 != 0)) rfl (by decide) (fun hb => ?_) (fun hb => ?_)
          · replace h := ite_t h hb
            refine run_textE hE [2, 3, 4] (fr' := [(2, .sl true (L cApi_Token ([]))), (3, i64 at_764), (4, i64 y_809.2)]) (σ' := [.buf 4 (L cApi_Token l_765) false, .box [i64 y_809.1.Kind, .str y_809.1.Text, i64 y_809.1.N, i64 y_809.1.At] false]) ⟨_, orcs_nil, ?_⟩ ?_
            · simp only [go_sem, reduceIte, Nat.reduceLT, Nat.reduceEqDiff, Nat.reduceAdd]
            refine run_ret ?_
            refine thenK_r ?_
            refine blockK_r ?_
            refine lpK_r ?_
            replace h := bind_some1 h; obtain ⟨z_812, h, e_z_812⟩ := h
            obtain rfl := Option.some.inj e_z_812
            have ex_z_812 := hxx_794 _ rfl
            subst ex_z_812
            obtain rfl := Option.some.inj hj_792
            refine blockK_r ?_
            refine joinK_r ?_
            replace h := bind_some1 h; obtain ⟨z_811, h, e_z_811⟩ := h
            obtain rfl := Option.some.inj e_z_811
            obtain rfl := Option.some.inj hj_739
            obtain rfl := Option.some.inj h
            refine ret_ok (.inr rfl) ?_
            simp only [go_sem, reduceIte, Nat.reduceLT, Nat.reduceEqDiff, Nat.reduceAdd]
          · replace h := ite_f h hb
            refine run_skip ?_
            refine thenK_n ?_
            replace h := chk_some h; obtain ⟨hc_813, h⟩ := h
            replace h := lt1_some h; obtain ⟨l_814, hz_815, h⟩ := h
            refine run_textE hE [0, 5, 6, 7, 9] (fr' := [(0, .str src_657), (5, .bs false 0 (l_814.length) 0 (l_814.length)), (6, .bool comment_800), (7, i64 at_764), (9, .ref 1 0)]) (σ' := [.buf 4 (L cApi_Token l_814) false, .box [i64 y_809.1.Kind, .str y_809.1.Text, i64 y_809.1.N, i64 y_809.1.At] false, .buf 4 (L cApi_Token (([y_809.1] : List Api_Token))) false]) ⟨_, orcs_nil, ?_⟩ ?_
            · subst hz_815; simp only [go_sem, reduceIte, Nat.reduceLT, Nat.reduceEqDiff, Nat.reduceAdd, Nat.reduceBEq, Nat.reduceMul, Nat.reduceSub, Nat.reduceGT, Nat.reducePow, Nat.reduceLeDiff, Int.reduceToNat, hc_813]
            replace h := lt1_some h; obtain ⟨at_816, hz_817, h⟩ := h
            refine run_textE0 hE (wk_block wk_lp) [0, 5, 6, 7] (fr' := [(0, .str src_657), (5, .bs false 0 (l_814.length) 0 (l_814.length)), (6, .bool comment_800), (7, i64 at_816)]) (σ' := [.buf 4 (L cApi_Token l_814) false, .box [i64 y_809.1.Kind, .str y_809.1.Text, i64 y_809.1.N, i64 y_809.1.At] false, .buf 4 (L cApi_Token (([y_809.1] : List Api_Token))) false]) ⟨_, orcs_nil, ?_⟩ ?_
            · subst hz_817; simp only [go_sem, reduceIte, Nat.reduceLT, Nat.reduceEqDiff, Nat.reduceAdd]
            refine blockK_n ?_
            obtain rfl := Option.some.inj h
            exact lpK_n ((comment_800, at_816, l_814)) rfl (weak_sel [0] (by decide) rfl (by simp only [go_sem, reduceIte, Nat.reduceLT, Nat.reduceEqDiff, Nat.reduceAdd]) (by simp only [go_sem, reduceIte, Nat.reduceLT, Nat.reduceEqDiff, Nat.reduceAdd]))
      · replace h := ite_f h hb
        refine run_exit ?_
        refine thenK_x ?_
        obtain rfl := Option.some.inj h
        have ex_x_790 := hxx_794 _ rfl
        subst ex_x_790
        have h := hj_792; clear hj_792
        refine lpK_x ?_
        refine blockK_x ?_
        obtain rfl := Option.some.inj h
        exact joinK_n l_765 rfl ((weak_sel (l' := [(5, .bs false 0 (l_765.length) 0 (l_765.length))]) (σ' := [.buf 4 (L cApi_Token l_765) false]) [0] (by decide) rfl (by simp only [go_sem, reduceIte, Nat.reduceLT, Nat.reduceEqDiff, Nat.reduceAdd]) (by simp only [go_sem, reduceIte, Nat.reduceLT, Nat.reduceEqDiff, Nat.reduceAdd])).trans (weak_sel [0] (by decide) rfl (by simp only [go_sem, reduceIte, Nat.reduceLT, Nat.reduceEqDiff, Nat.reduceAdd]) (by simp only [go_sem, reduceIte, Nat.reduceLT, Nat.reduceEqDiff, Nat.reduceAdd])))
    rintro l_736 rfl
    have h := hj_739; clear hj_739
    refine run_textE hE [2, 3, 4] (fr' := [(2, .bs false 0 (l_736.length) 0 (l_736.length)), (3, i64 0), (4, i64 0)]) (σ' := [.buf 4 (L cApi_Token l_736) false]) ⟨_, orcs_nil, ?_⟩ ?_
    · simp only [go_sem, reduceIte, Nat.reduceLT, Nat.reduceEqDiff, Nat.reduceAdd]
    refine run_ret ?_
    obtain rfl := Option.some.inj h
    refine ret_ok (.inr rfl) ?_
    simp only [go_sem, reduceIte, Nat.reduceLT, Nat.reduceEqDiff, Nat.reduceAdd]

theorem r15_Same_con {a_818 : List Api_Token} {b_819 : List Api_Token} {r : Bool} (h : r15_Same a_818 b_819 = some r) : Con (B rs) 13 [.sl false (L cApi_Token a_818), .sl false (L cApi_Token b_819)] [] (fun r' σ' => r' = .bool r ∧ σ' = []) := by
  refine con_walk (N := 26) (rs := [.tmp 4]) ok Tryd.func13 rfl (by decide +kernel) rfl rfl (Nat.le_of_ble_eq_true rfl) (fun F => ?_)
  have hE := (ok (rs := rs)).env F
  unfold r15_Same at h
  show Run ((B rs).env F) 0 _ ⟨asFr 26 [(0, .sl false (L cApi_Token a_818)), (1, .sl false (L cApi_Token b_819))], []⟩ _
  refine run_textE hE [0, 1] (fr' := [(0, .sl false (L cApi_Token a_818)), (1, .sl false (L cApi_Token b_819))]) (σ' := []) ⟨_, orcs_nil, ?_⟩ ?_
  · simp only [go_sem, reduceIte, Nat.reduceLT, Nat.reduceEqDiff, Nat.reduceAdd]
  refine run_seq ?_
  refine run_textE hE [0, 1, 10] (fr' := [(0, .sl false (L cApi_Token a_818)), (1, .sl false (L cApi_Token b_819)), (10, .bool (((a_818.length : Int) != (b_819.length : Int))))]) (σ' := []) ⟨_, orcs_nil, ?_⟩ ?_
  · simp only [go_sem, reduceIte, Nat.reduceLT, Nat.reduceEqDiff, Nat.reduceAdd]
  refine run_condL (b := ((a_818.length : Int) != (b_819.length : Int))) rfl (by decide) (fun hb => ?_) (fun hb => ?_)
  · replace h := ite_t h hb
    refine run_textE hE [4] (fr' := [(4, .bool false)]) (σ' := []) ⟨_, orcs_nil, ?_⟩ ?_
    · simp only [go_sem, reduceIte, Nat.reduceLT, Nat.reduceEqDiff, Nat.reduceAdd]
    refine run_ret ?_
    refine thenK_r ?_
    obtain rfl := Option.some.inj h
    refine ret_ok (.inr rfl) ?_
    simp only [go_sem, reduceIte, Nat.reduceLT, Nat.reduceEqDiff, Nat.reduceAdd]
  · replace h := ite_f h hb
    refine run_skip ?_
    refine thenK_n ?_
    replace h := bind_some1 h; obtain ⟨j_844, hA_845, hj_846⟩ := h
    refine run_join (fun (v : Unit) => (⟨asFr 26 [], []⟩ : St)) (fun v => .inl v = j_844) ?_ ?_
    · have h := hA_845; clear hA_845
      refine run_textE hE [0, 1, 5] (fr' := [(0, .sl false (L cApi_Token a_818)), (1, .sl false (L cApi_Token b_819)), (5, i64 0)]) (σ' := []) ⟨_, orcs_nil, ?_⟩ ?_
      · simp only [go_sem, reduceIte, Nat.reduceLT, Nat.reduceEqDiff, Nat.reduceAdd]
      refine run_block ?_
      replace h := bind_some1 h; obtain ⟨x_860, hx_861, hj_862⟩ := h
      refine run_loopO hx_861 (fun (v : Int) => (⟨asFr 26 [(0, .sl false (L cApi_Token a_818)), (1, .sl false (L cApi_Token b_819)), (5, i64 v)], []⟩ : St)) (weak_sel [] (by decide) rfl (by simp only [go_sem, reduceIte, Nat.reduceLT, Nat.reduceEqDiff, Nat.reduceAdd]) (by simp only [go_sem, reduceIte, Nat.reduceLT, Nat.reduceEqDiff, Nat.reduceAdd])) ?_
      rintro i_853 o_863 h hxx_864
      replace h : r15_Same_b1 a_818 b_819 i_853 = some o_863 := h
      unfold r15_Same_b1 at h
      refine run_seq ?_
      refine run_textE hE [0, 1, 5, 14] (fr' := [(0, .sl false (L cApi_Token a_818)), (1, .sl false (L cApi_Token b_819)), (5, i64 i_853), (14, .bool ((decide (i_853 < (a_818.length : Int)))))]) (σ' := []) ⟨_, orcs_nil, ?_⟩ ?_
      · simp only [go_sem, reduceIte, Nat.reduceLT, Nat.reduceEqDiff, Nat.reduceAdd]
      refine run_condL (b := (decide (i_853 < (a_818.length : Int)))) rfl (by decide) (fun hb => ?_) (fun hb => ?_)
      · replace h := ite_t h hb
        refine run_skip ?_
        refine thenK_n ?_
        refine run_seq ?_
        refine run_block ?_
        replace h := chk_some h; obtain ⟨hc_865, h⟩ := h
        replace h := chk_some h; obtain ⟨hc_866, h⟩ := h
        replace h := lt1_some h; obtain ⟨t_867, hz_868, h⟩ := h
        refine run_drawE hE mixed [[], [], [0, 1], [0, 1, 2], [], [], [4, 5], [4, 5, 6], [0, 1, 2, 3, 4, 5, 6, 7]] (by kernel_rfl) (by kernel_rfl) [0, 1, 5, 25] (fr' := [(0, .sl false (L cApi_Token a_818)), (1, .sl false (L cApi_Token b_819)), (5, i64 i_853), (25, .bool t_867)]) (σ' := []) ⟨_, orcs_nil, ?_⟩ ?_
        · subst hz_868; simp only [go_sem, reduceIte, Nat.reduceLT, Nat.reduceEqDiff, Nat.reduceAdd, Int.reduceToNat, hc_865, hc_865.2, lt_le hc_865.2, hc_866, hc_866.2, lt_le hc_866.2]
        refine run_condL (b := t_867) rfl (by decide) (fun hb => ?_) (fun hb => ?_)
        · replace h := ite_t h hb
          refine run_textE hE [4] (fr' := [(4, .bool false)]) (σ' := []) ⟨_, orcs_nil, ?_⟩ ?_
          · simp only [go_sem, reduceIte, Nat.reduceLT, Nat.reduceEqDiff, Nat.reduceAdd]
          refine run_ret ?_
          refine blockK_r ?_
          refine thenK_r ?_
          refine lpK_r ?_
          replace h := bind_some1 h; obtain ⟨z_870, h, e_z_870⟩ := h
          obtain rfl := Option.some.inj e_z_870
          have ex_z_870 := hxx_864 _ rfl
          subst ex_z_870
          obtain rfl := Option.some.inj hj_862
          refine blockK_r ?_
          refine joinK_r ?_
          replace h := bind_some1 h; obtain ⟨z_869, h, e_z_869⟩ := h
          obtain rfl := Option.some.inj e_z_869
          obtain rfl := Option.some.inj hj_846
          obtain rfl := Option.some.inj h
          refine ret_ok (.inr rfl) ?_
          simp only [go_sem, reduceIte, Nat.reduceLT, Nat.reduceEqDiff, Nat.reduceAdd]
        · replace h := ite_f h hb
          refine run_skip ?_
          refine blockK_n ?_
          refine thenK_n ?_
          refine run_textE0 hE wk_lp [0, 1, 5] (fr' := [(0, .sl false (L cApi_Token a_818)), (1, .sl false (L cApi_Token b_819)), (5, i64 ((w64 (i_853 + 1))))]) (σ' := []) ⟨_, orcs_nil, ?_⟩ ?_
          · simp only [go_sem, reduceIte, Nat.reduceLT, Nat.reduceEqDiff, Nat.reduceAdd]
          obtain rfl := Option.some.inj h
          exact lpK_n ((w64 (i_853 + 1))) rfl (weak_sel [] (by decide) rfl (by simp only [go_sem, reduceIte, Nat.reduceLT, Nat.reduceEqDiff, Nat.reduceAdd]) (by simp only [go_sem, reduceIte, Nat.reduceLT, Nat.reduceEqDiff, Nat.reduceAdd]))
      · replace h := ite_f h hb
        refine run_exit ?_
        refine thenK_x ?_
        obtain rfl := Option.some.inj h
        have ex_x_860 := hxx_864 _ rfl
        subst ex_x_860
        have h := hj_862; clear hj_862
        refine lpK_x ?_
        refine blockK_x ?_
        obtain rfl := Option.some.inj h
        exact joinK_n (()) rfl ((weak_sel (l' := []) (σ' := []) [] (by decide) rfl (by simp only [go_sem, reduceIte, Nat.reduceLT, Nat.reduceEqDiff, Nat.reduceAdd]) (by simp only [go_sem, reduceIte, Nat.reduceLT, Nat.reduceEqDiff, Nat.reduceAdd])).trans (weak_sel [] (by decide) rfl (by simp only [go_sem, reduceIte, Nat.reduceLT, Nat.reduceEqDiff, Nat.reduceAdd]) (by simp only [go_sem, reduceIte, Nat.reduceLT, Nat.reduceEqDiff, Nat.reduceAdd])))
    rintro ⟨⟩ rfl
    have h := hj_846; clear hj_846
    refine run_textE hE [4] (fr' := [(4, .bool true)]) (σ' := []) ⟨_, orcs_nil, ?_⟩ ?_
    · simp only [go_sem, reduceIte, Nat.reduceLT, Nat.reduceEqDiff, Nat.reduceAdd]
    refine run_ret ?_
    obtain rfl := Option.some.inj h
    refine ret_ok (.inr rfl) ?_
    simp only [go_sem, reduceIte, Nat.reduceLT, Nat.reduceEqDiff, Nat.reduceAdd]

end Go.Proofs.YtballlkeogmoiaaDoor
/-
  The functions compute just that.
-/
namespace Go.Proofs.YtballlkeogmoiaaDoor
open Go.Rv
set_option linter.unusedVariables false
set_option linter.unusedSimpArgs false
set_option maxRecDepth 20000
variable {rs : Nat → Nat}
set_option maxHeartbeats 4000000

theorem r15_Text_con {l_871 : List Api_Token} {r : List UInt8} (h : r15_Text l_871 = some r) : Con (B rs) 15 [.sl false (L cApi_Token l_871)] [] (fun r' σ' => r' = .str r ∧ σ' = []) := by
  refine con_walk (N := 23) (rs := [.tmp 2]) ok Tryd.func15 rfl (by decide +kernel) rfl rfl (Nat.le_of_ble_eq_true rfl) (fun F => ?_)
  have hE := (ok (rs := rs)).env F
  unfold r15_Text at h
  show Run ((B rs).env F) 0 _ ⟨asFr 23 [(0, .sl false (L cApi_Token l_871))], []⟩ _
  refine run_textE hE [0] (fr' := [(0, .sl false (L cApi_Token l_871))]) (σ' := []) ⟨_, orcs_nil, ?_⟩ ?_
  · simp only [go_sem, reduceIte, Nat.reduceLT, Nat.reduceEqDiff, Nat.reduceAdd]
  refine run_textE hE [0, 3] (fr' := [(0, .sl false (L cApi_Token l_871)), (3, .str (([] : List UInt8)))]) (σ' := []) ⟨_, orcs_nil, ?_⟩ ?_
  · simp only [go_sem, reduceIte, Nat.reduceLT, Nat.reduceEqDiff, Nat.reduceAdd]
  replace h := bind_some1 h; obtain ⟨j_923, hA_924, hj_925⟩ := h
  refine run_join (fun (v : List UInt8) => (⟨asFr 23 [(3, .str v)], []⟩ : St)) (fun v => v = j_923) ?_ ?_
  · have h := hA_924; clear hA_924
    refine run_textE hE [0, 3, 4] (fr' := [(0, .sl false (L cApi_Token l_871)), (3, .str (([] : List UInt8))), (4, i64 0)]) (σ' := []) ⟨_, orcs_nil, ?_⟩ ?_
    · simp only [go_sem, reduceIte, Nat.reduceLT, Nat.reduceEqDiff, Nat.reduceAdd]
    refine run_block ?_
    replace h := bind_some1 h; obtain ⟨x_957, hx_958, hj_959⟩ := h
    refine run_loopO hx_958 (fun (v : List UInt8 × Int) => (⟨asFr 23 [(0, .sl false (L cApi_Token l_871)), (3, .str v.1), (4, i64 v.2)], []⟩ : St)) (weak_sel [] (by decide) rfl (by simp only [go_sem, reduceIte, Nat.reduceLT, Nat.reduceEqDiff, Nat.reduceAdd]) (by simp only [go_sem, reduceIte, Nat.reduceLT, Nat.reduceEqDiff, Nat.reduceAdd])) ?_
    rintro ⟨s_940, i_941⟩ o_960 h hxx_961
    replace h : r15_Text_b1 l_871 s_940 i_941 = some o_960 := h
    unfold r15_Text_b1 at h
    refine run_seq ?_
    refine run_textE hE [0, 3, 4, 8] (fr' := [(0, .sl false (L cApi_Token l_871)), (3, .str s_940), (4, i64 i_941), (8, .bool ((decide (i_941 < (l_871.length : Int)))))]) (σ' := []) ⟨_, orcs_nil, ?_⟩ ?_
    · simp only [go_sem, reduceIte, Nat.reduceLT, Nat.reduceEqDiff, Nat.reduceAdd]
    refine run_condL (b := (decide (i_941 < (l_871.length : Int)))) rfl (by decide) (fun hb => ?_) (fun hb => ?_)
    · replace h := ite_t h hb
      refine run_skip ?_
      refine thenK_n ?_
      refine run_seq ?_
      refine run_block ?_
      replace h := bind_some1 h; obtain ⟨j_966, hA_967, hj_968⟩ := h
      refine run_join (fun (v : List UInt8) => (⟨asFr 23 [(0, .sl false (L cApi_Token l_871)), (3, .str v), (4, i64 i_941)], []⟩ : St)) (fun v => v = j_966) ?_ ?_
      · have h := hA_967; clear hA_967
        refine run_textE hE [0, 3, 4, 12] (fr' := [(0, .sl false (L cApi_Token l_871)), (3, .str s_940), (4, i64 i_941), (12, .bool ((decide (i_941 > 0))))]) (σ' := []) ⟨_, orcs_nil, ?_⟩ ?_
        · simp only [go_sem, reduceIte, Nat.reduceLT, Nat.reduceEqDiff, Nat.reduceAdd]
        refine run_condL (b := (decide (i_941 > 0))) rfl (by decide) (fun hb => ?_) (fun hb => ?_)
        · replace h := ite_t h hb
          replace h := chk_some h; obtain ⟨hc_969, h⟩ := h
          replace h := lt1_some h; obtain ⟨s_970, hz_971, h⟩ := h
          refine run_textE0 hE wk_join [0, 3, 4] (fr' := [(0, .sl false (L cApi_Token l_871)), (3, .str s_970), (4, i64 i_941)]) (σ' := []) ⟨_, orcs_nil, ?_⟩ ?_
          · subst hz_971; simp only [go_sem, reduceIte, Nat.reduceLT, Nat.reduceEqDiff, Nat.reduceAdd, hc_969]
          obtain rfl := Option.some.inj h
          exact joinK_n s_970 rfl (weak_sel [] (by decide) rfl (by simp only [go_sem, reduceIte, Nat.reduceLT, Nat.reduceEqDiff, Nat.reduceAdd]) (by simp only [go_sem, reduceIte, Nat.reduceLT, Nat.reduceEqDiff, Nat.reduceAdd]))
        · replace h := ite_f h hb
          refine run_skip ?_
          obtain rfl := Option.some.inj h
          exact joinK_n s_940 rfl (weak_sel [] (by decide) rfl (by simp only [go_sem, reduceIte, Nat.reduceLT, Nat.reduceEqDiff, Nat.reduceAdd]) (by simp only [go_sem, reduceIte, Nat.reduceLT, Nat.reduceEqDiff, Nat.reduceAdd]))
      rintro s_965 rfl
      have h := hj_968; clear hj_968
      replace h := chk_some h; obtain ⟨hc_972, h⟩ := h
      replace h := chk_some h; obtain ⟨hc_973, h⟩ := h
      replace h := lt1_some h; obtain ⟨s_974, hz_975, h⟩ := h
      refine run_textE0 hE (wk_block wk_then) [0, 3, 4] (fr' := [(0, .sl false (L cApi_Token l_871)), (3, .str s_974), (4, i64 i_941)]) (σ' := []) ⟨_, orcs_nil, ?_⟩ ?_
      · subst hz_975; simp only [go_sem, reduceIte, Nat.reduceLT, Nat.reduceEqDiff, Nat.reduceAdd, Int.reduceToNat, hc_972, hc_972.2, lt_le hc_972.2, hc_973]
      refine blockK_n ?_
      refine thenK_n ?_
      refine run_textE0 hE wk_lp [0, 3, 4] (fr' := [(0, .sl false (L cApi_Token l_871)), (3, .str s_974), (4, i64 ((w64 (i_941 + 1))))]) (σ' := []) ⟨_, orcs_nil, ?_⟩ ?_
      · simp only [go_sem, reduceIte, Nat.reduceLT, Nat.reduceEqDiff, Nat.reduceAdd]
      obtain rfl := Option.some.inj h
      exact lpK_n ((s_974, (w64 (i_941 + 1)))) rfl (weak_sel [] (by decide) rfl (by simp only [go_sem, reduceIte, Nat.reduceLT, Nat.reduceEqDiff, Nat.reduceAdd]) (by simp only [go_sem, reduceIte, Nat.reduceLT, Nat.reduceEqDiff, Nat.reduceAdd]))
    · replace h := ite_f h hb
      refine run_exit ?_
      refine thenK_x ?_
      obtain rfl := Option.some.inj h
      have ex_x_957 := hxx_961 _ rfl
      subst ex_x_957
      have h := hj_959; clear hj_959
      refine lpK_x ?_
      refine blockK_x ?_
      obtain rfl := Option.some.inj h
      exact joinK_n s_940 rfl ((weak_sel (l' := [(3, .str s_940)]) (σ' := []) [] (by decide) rfl (by simp only [go_sem, reduceIte, Nat.reduceLT, Nat.reduceEqDiff, Nat.reduceAdd]) (by simp only [go_sem, reduceIte, Nat.reduceLT, Nat.reduceEqDiff, Nat.reduceAdd])).trans (weak_sel [] (by decide) rfl (by simp only [go_sem, reduceIte, Nat.reduceLT, Nat.reduceEqDiff, Nat.reduceAdd]) (by simp only [go_sem, reduceIte, Nat.reduceLT, Nat.reduceEqDiff, Nat.reduceAdd])))
  rintro s_922 rfl
  have h := hj_925; clear hj_925
  refine run_textE hE [2] (fr' := [(2, .str s_922)]) (σ' := []) ⟨_, orcs_nil, ?_⟩ ?_
  · simp only [go_sem, reduceIte, Nat.reduceLT, Nat.reduceEqDiff, Nat.reduceAdd]
  refine run_ret ?_
  obtain rfl := Option.some.inj h
  refine ret_ok (.inr rfl) ?_
  simp only [go_sem, reduceIte, Nat.reduceLT, Nat.reduceEqDiff, Nat.reduceAdd]

theorem r15_Words_con  {r : List (List UInt8)} (h : r15_Words  = some r) : Con (B rs) 26 [] [] (fun r' σ' => r' = .sl false (L cStr r) ∧ σ' = []) := by
  refine con_walk (N := 2) (rs := [.tmp 0]) ok Tryd.func26 rfl (by decide +kernel) rfl rfl (Nat.le_of_ble_eq_true rfl) (fun F => ?_)
  have hE := (ok (rs := rs)).env F
  unfold r15_Words at h
  show Run ((B rs).env F) 0 _ ⟨asFr 2 [], []⟩ _
  refine run_textE hE [] (fr' := []) (σ' := []) ⟨_, orcs_nil, ?_⟩ ?_
  · simp only [go_sem, reduceIte, Nat.reduceLT, Nat.reduceEqDiff, Nat.reduceAdd]
  replace h := lt1_some h; obtain ⟨l_976, hz_977, h⟩ := h
  refine run_textE hE [0] (fr' := [(0, .bs true 0 (l_976.length) 0 (l_976.length))]) (σ' := [.buf 1 (L cStr l_976) false]) ⟨_, orcs_nil, ?_⟩ ?_
  · subst hz_977; simp only [go_sem, reduceIte, Nat.reduceLT, Nat.reduceEqDiff, Nat.reduceAdd, Nat.reduceBEq, Nat.reduceMul, Nat.reduceSub, Nat.reduceGT, Nat.reducePow, Nat.reduceLeDiff, Int.reduceToNat]
  refine run_ret ?_
  obtain rfl := Option.some.inj h
  refine ret_ok (.inr rfl) ?_
  simp only [go_sem, reduceIte, Nat.reduceLT, Nat.reduceEqDiff, Nat.reduceAdd]

theorem r15_Reserved_con {s_978 : List UInt8} {r : Bool} (h : r15_Reserved s_978 = some r) : Con (B rs) 17 [.str s_978] [] (fun r' σ' => r' = .bool r ∧ σ' = []) := by
  refine con_walk (N := 18) (rs := [.tmp 2]) ok Tryd.func17 rfl (by decide +kernel) rfl rfl (Nat.le_of_ble_eq_true rfl) (fun F => ?_)
  have hE := (ok (rs := rs)).env F
  unfold r15_Reserved at h
  show Run ((B rs).env F) 0 _ ⟨asFr 18 [(0, .str s_978)], []⟩ _
  refine run_textE hE [0] (fr' := [(0, .str s_978)]) (σ' := []) ⟨_, orcs_nil, ?_⟩ ?_
  · simp only [go_sem, reduceIte, Nat.reduceLT, Nat.reduceEqDiff, Nat.reduceAdd]
  replace h := bind_some1 h; obtain ⟨y_979, hy_980, h⟩ := h
  refine run_textE hE [0, 3] (fr' := [(0, .str s_978), (3, .sl false (L cStr y_979))]) (σ' := []) ⟨_, orcs_ok (l := [(5, 26, [], .sl false (L cStr y_979))]) ⟨r15_Words_con  hy_980, trivial⟩, ?_⟩ ?_
  · simp only [go_sem, reduceIte, Nat.reduceLT, Nat.reduceEqDiff, Nat.reduceAdd]
  replace h := bind_some1 h; obtain ⟨j_996, hA_997, hj_998⟩ := h
  refine run_join (fun (v : Unit) => (⟨asFr 18 [], []⟩ : St)) (fun v => .inl v = j_996) ?_ ?_
  · have h := hA_997; clear hA_997
    refine run_textE hE [0, 3, 4] (fr' := [(0, .str s_978), (3, .sl false (L cStr y_979)), (4, i64 0)]) (σ' := []) ⟨_, orcs_nil, ?_⟩ ?_
    · simp only [go_sem, reduceIte, Nat.reduceLT, Nat.reduceEqDiff, Nat.reduceAdd]
    refine run_block ?_
    replace h := bind_some1 h; obtain ⟨x_1006, hx_1007, hj_1008⟩ := h
    refine run_loopO hx_1007 (fun (v : Int) => (⟨asFr 18 [(0, .str s_978), (3, .sl false (L cStr y_979)), (4, i64 v)], []⟩ : St)) (weak_sel [] (by decide) rfl (by simp only [go_sem, reduceIte, Nat.reduceLT, Nat.reduceEqDiff, Nat.reduceAdd]) (by simp only [go_sem, reduceIte, Nat.reduceLT, Nat.reduceEqDiff, Nat.reduceAdd])) ?_
    rintro i_1002 o_1009 h hxx_1010
    replace h : r15_Reserved_b1 s_978 y_979 i_1002 = some o_1009 := h
    unfold r15_Reserved_b1 at h
    refine run_seq ?_
    refine run_textE hE [0, 3, 4, 9] (fr' := [(0, .str s_978), (3, .sl false (L cStr y_979)), (4, i64 i_1002), (9, .bool ((decide (i_1002 < (y_979.length : Int)))))]) (σ' := []) ⟨_, orcs_nil, ?_⟩ ?_
    · simp only [go_sem, reduceIte, Nat.reduceLT, Nat.reduceEqDiff, Nat.reduceAdd]
    refine run_condL (b := (decide (i_1002 < (y_979.length : Int)))) rfl (by decide) (fun hb => ?_) (fun hb => ?_)
    · replace h := ite_t h hb
      refine run_skip ?_
      refine thenK_n ?_
      refine run_seq ?_
      refine run_block ?_
      replace h := chk_some h; obtain ⟨hc_1011, h⟩ := h
      refine run_textE hE [0, 3, 4, 17] (fr' := [(0, .str s_978), (3, .sl false (L cStr y_979)), (4, i64 i_1002), (17, .bool (((nth y_979 i_1002.toNat) == s_978)))]) (σ' := []) ⟨_, orcs_nil, ?_⟩ ?_
      · simp only [go_sem, reduceIte, Nat.reduceLT, Nat.reduceEqDiff, Nat.reduceAdd, Int.reduceToNat, hc_1011, hc_1011.2, lt_le hc_1011.2]
      refine run_condL (b := ((nth y_979 i_1002.toNat) == s_978)) rfl (by decide) (fun hb => ?_) (fun hb => ?_)
      · replace h := ite_t h hb
        refine run_textE hE [2] (fr' := [(2, .bool true)]) (σ' := []) ⟨_, orcs_nil, ?_⟩ ?_
        · simp only [go_sem, reduceIte, Nat.reduceLT, Nat.reduceEqDiff, Nat.reduceAdd]
        refine run_ret ?_
        refine blockK_r ?_
        refine thenK_r ?_
        refine lpK_r ?_
        replace h := bind_some1 h; obtain ⟨z_1013, h, e_z_1013⟩ := h
        obtain rfl := Option.some.inj e_z_1013
        have ex_z_1013 := hxx_1010 _ rfl
        subst ex_z_1013
        obtain rfl := Option.some.inj hj_1008
        refine blockK_r ?_
        refine joinK_r ?_
        replace h := bind_some1 h; obtain ⟨z_1012, h, e_z_1012⟩ := h
        obtain rfl := Option.some.inj e_z_1012
        obtain rfl := Option.some.inj hj_998
        obtain rfl := Option.some.inj h
        refine ret_ok (.inr rfl) ?_
        simp only [go_sem, reduceIte, Nat.reduceLT, Nat.reduceEqDiff, Nat.reduceAdd]
      · replace h := ite_f h hb
        refine run_skip ?_
        refine blockK_n ?_
        refine thenK_n ?_
        refine run_textE0 hE wk_lp [0, 3, 4] (fr' := [(0, .str s_978), (3, .sl false (L cStr y_979)), (4, i64 ((w64 (i_1002 + 1))))]) (σ' := []) ⟨_, orcs_nil, ?_⟩ ?_
        · simp only [go_sem, reduceIte, Nat.reduceLT, Nat.reduceEqDiff, Nat.reduceAdd]
        obtain rfl := Option.some.inj h
        exact lpK_n ((w64 (i_1002 + 1))) rfl (weak_sel [] (by decide) rfl (by simp only [go_sem, reduceIte, Nat.reduceLT, Nat.reduceEqDiff, Nat.reduceAdd]) (by simp only [go_sem, reduceIte, Nat.reduceLT, Nat.reduceEqDiff, Nat.reduceAdd]))
    · replace h := ite_f h hb
      refine run_exit ?_
      refine thenK_x ?_
      obtain rfl := Option.some.inj h
      have ex_x_1006 := hxx_1010 _ rfl
      subst ex_x_1006
      have h := hj_1008; clear hj_1008
      refine lpK_x ?_
      refine blockK_x ?_
      obtain rfl := Option.some.inj h
      exact joinK_n (()) rfl ((weak_sel (l' := []) (σ' := []) [] (by decide) rfl (by simp only [go_sem, reduceIte, Nat.reduceLT, Nat.reduceEqDiff, Nat.reduceAdd]) (by simp only [go_sem, reduceIte, Nat.reduceLT, Nat.reduceEqDiff, Nat.reduceAdd])).trans (weak_sel [] (by decide) rfl (by simp only [go_sem, reduceIte, Nat.reduceLT, Nat.reduceEqDiff, Nat.reduceAdd]) (by simp only [go_sem, reduceIte, Nat.reduceLT, Nat.reduceEqDiff, Nat.reduceAdd])))
  rintro ⟨⟩ rfl
  have h := hj_998; clear hj_998
  refine run_textE hE [2] (fr' := [(2, .bool false)]) (σ' := []) ⟨_, orcs_nil, ?_⟩ ?_
  · simp only [go_sem, reduceIte, Nat.reduceLT, Nat.reduceEqDiff, Nat.reduceAdd]
  refine run_ret ?_
  obtain rfl := Option.some.inj h
  refine ret_ok (.inr rfl) ?_
  simp only [go_sem, reduceIte, Nat.reduceLT, Nat.reduceEqDiff, Nat.reduceAdd]

end Go.Proofs.YtballlkeogmoiaaDoor
/-
  DERIVED: THE SHELF's CONTRACTS AT THIS DUMP, IN PLAIN WORDS (tools/lay-plain.mjs out of 'TrydJn.lean', which tools/lay-shelf.mjs wrote): THE SAME DECLARATIONS UNDER THE SAME NAMES: 'import', 'namespace', 'open', 'def', 'theorem' AND NOTHING ELSE: no command of the shelf's: FOR A HAND-IN. Each laying: the table of numbers ('.._ren') and one theorem, a field a fact of the dump's own or the kernel's comparison; each contract: ONE APPLICATION.
-/
namespace Go.Proofs.YtballlkeogmoiaaDoor
open Go.Shelf
def Tryd.lays156_ren : Go.Shelf.Ren := ⟨fun | 156 => 25 | 165 => 38 | 166 => 39 | 169 => 40 | 240 => 44 | 241 => 45 | 276 => 50 | 277 => 51 | n => n, fun | 31 => 36 | 9 => 9 | 3 => 3 | 4 => 4 | 0 => 0 | 20 => 20 | 72 => 57 | 76 => 61 | 70 => 54 | 37 => 55 | 75 => 60 | 127 => 65 | 164 => 71 | 5 => 5 | 80 => 63 | n => n, fun | n => n⟩
theorem Tryd.lays156 : Go.Proofs.Lays.n156 Tryd.prog Tryd.lays156_ren := {
  mixed := by kernel_rfl
  f156 := Tryd.func25.trans (congrArg some (by kernel_rfl))
  f165 := Tryd.func38.trans (congrArg some (by kernel_rfl))
  f166 := Tryd.func39.trans (congrArg some (by kernel_rfl))
  f169 := Tryd.func40.trans (congrArg some (by kernel_rfl))
  f240 := Tryd.func44.trans (congrArg some (by kernel_rfl))
  f241 := Tryd.func45.trans (congrArg some (by kernel_rfl))
  f276 := Tryd.func50.trans (congrArg some (by kernel_rfl))
  f277 := Tryd.func51.trans (congrArg some (by kernel_rfl))
  t0 := Tryd.underlying0
  a0 := Tryd.isAgg0
  z0 := Tryd.sizeOf0
  v0 := Tryd.zeroValue0
  t3 := Tryd.underlying3
  a3 := Tryd.isAgg3
  z3 := Tryd.sizeOf3
  v3 := Tryd.zeroValue3
  t4 := Tryd.underlying4
  a4 := Tryd.isAgg4
  z4 := Tryd.sizeOf4
  v4 := Tryd.zeroValue4
  t9 := Tryd.underlying9
  a9 := Tryd.isAgg9
  z9 := Tryd.sizeOf9
  v9 := Tryd.zeroValue9
  t20 := Tryd.underlying20
  a20 := Tryd.isAgg20
  z20 := Tryd.sizeOf20
  v20 := Tryd.zeroValue20
  t31 := Tryd.underlying36
  a31 := Tryd.isAgg36
  z31 := Tryd.sizeOf36
  v31 := Tryd.zeroValue36
  t37 := Tryd.underlying55
  a37 := Tryd.isAgg55
  z37 := Tryd.sizeOf55
  v37 := Tryd.zeroValue55
  t70 := Tryd.underlying54
  a70 := Tryd.isAgg54
  z70 := Tryd.sizeOf54
  v70 := Tryd.zeroValue54
  t72 := Tryd.underlying57
  a72 := Tryd.isAgg57
  z72 := Tryd.sizeOf57
  v72 := Tryd.zeroValue57
  t75 := Tryd.underlying60
  a75 := Tryd.isAgg60
  z75 := Tryd.sizeOf60
  v75 := Tryd.zeroValue60
  t76 := Tryd.underlying61
  a76 := Tryd.isAgg61
  z76 := Tryd.sizeOf61
  v76 := Tryd.zeroValue61
  t127 := Tryd.underlying65
  a127 := Tryd.isAgg65
  z127 := Tryd.sizeOf65
  v127 := Tryd.zeroValue65
  t164 := Tryd.underlying71
  a164 := Tryd.isAgg71
  z164 := Tryd.sizeOf71
  v164 := Tryd.zeroValue71 }
theorem Tryd.Builder_Extra_156 : Builder.Extra Tryd.prog Tryd.lays156_ren := {
  sizeBuilder := by kernel_rfl
  liesBuilder := by kernel_rfl
  t5 := Tryd.underlying5
  a5 := Tryd.isAgg5
  z5 := Tryd.sizeOf5
  v5 := Tryd.zeroValue5
  infoByte := by kernel_rfl
  cellsByte := by kernel_rfl
  sizeByte := by kernel_rfl
  neB5 := by decide }
end Go.Proofs.YtballlkeogmoiaaDoor
/-
  strings.Join: the walk through its text, on the kit's contracts for the builder's methods.
-/
namespace Go.Proofs.YtballlkeogmoiaaDoor
open Go.Shelf Go.RowKit
set_option linter.unusedVariables false
set_option linter.unusedSimpArgs false

theorem join_snoc (s y : List UInt8) : ∀ l : List (List UInt8), l ≠ [] → Lib.join (l ++ [y]) s = Lib.join l s ++ s ++ y
  | [], h => (h rfl).elim
  | x :: r, _ => by
    rw [List.cons_append, Lib.join_cons, Lib.join_cons]
    simp [Lib.joinTail, List.append_assoc]
theorem join_step (s y : List UInt8) (l : List (List UInt8)) (k : Nat) (h0 : 0 < k) (hy : l[k]? = some y) : Lib.join (l.take (k + 1)) s = Lib.join (l.take k) s ++ s ++ y := by
  rw [List.take_add_one, hy]
  refine join_snoc s y _ fun e => ?_
  have hk : k < l.length := (List.getElem?_eq_some_iff.1 hy).1
  have h : (l.take k).length = 0 := by rw [e]; rfl
  rw [List.length_take] at h
  omega
theorem join_le (s : List UInt8) (l : List (List UInt8)) (k : Nat) (hk : k ≤ l.length) : (Lib.join (l.take k) s).length ≤ (Lib.join l s).length := by
  have key : ∀ m j, j + m = l.length → (Lib.join (l.take j) s).length ≤ (Lib.join l s).length := by
    intro m
    induction m with
    | zero => intro j hj; rw [List.take_of_length_le (by omega)]; exact Nat.le_refl _
    | succ m ih =>
      intro j hj
      refine Nat.le_trans ?_ (ih (j + 1) (by omega))
      cases j with
      | zero => simp [Lib.join_nil]
      | succ j => rw [join_step s l[j + 1] l (j + 1) (by omega) (List.getElem?_eq_getElem (by omega))]; simp only [List.length_append]; omega
  exact key (l.length - k) k (by omega)
theorem join_one' (s : List UInt8) (l : List (List UInt8)) {y : List UInt8} (hy : l[0]? = some y) : Lib.join (l.take 1) s = y := by
  cases l with
  | nil => cases hy
  | cons x r => cases hy; exact Lib.join_one _ _

theorem jn_grow (b n : Nat) (w : World) (hb : b ≤ w.heap.size) (hbk : w.heap[b]? = some (.cells #[.pointer none, .slice none 0 0] 57 (0, 0))) (hn : n ≤ 281474976710656) :
    Calls Tryd.prog 38 #[.pointer (some ⟨b, 0, none⟩), .int .i64 n] w fun e w' => e = .returned (.tuple #[]) ∧ (Lib.BuilderAt 57 5 b b (.pointer (some ⟨b, 0, none⟩)) [] w' ∧ Below b w w') :=
  Any.Builder_Grow_fresh { Tryd.lays156 with } Tryd.Builder_Extra_156 b b n w (Nat.le_refl _) hbk hb hn
theorem jn_write (b : Nat) (bs : List Value) (s : ByteArray) (w : World) (h : Lib.BuilderAt 57 5 b b (.pointer (some ⟨b, 0, none⟩)) bs w) (hl : bs.length + s.size ≤ 140737488355328) (hb : b ≤ w.heap.size) :
    Calls Tryd.prog 39 #[.pointer (some ⟨b, 0, none⟩), .string s] w fun e w' => e = .returned (.tuple #[.int .i64 s.size, .nilIface]) ∧ (Lib.BuilderAt 57 5 b b (.pointer (some ⟨b, 0, none⟩)) (bs ++ Lib.strCells s) w' ∧ Below b w w') :=
  Any.Builder_WriteString { Tryd.lays156 with } Tryd.Builder_Extra_156 b b bs s w (.inr h) hl hb
theorem jn_string (b : Nat) (l : List UInt8) (w : World) (h : Lib.BuilderAt 57 5 b b (.pointer (some ⟨b, 0, none⟩)) (Lib.byteCells l) w) (hb : b ≤ w.heap.size) :
    Calls Tryd.prog 40 #[.pointer (some ⟨b, 0, none⟩)] w fun e w' => e = .returned (.string ⟨l.toArray⟩) ∧ Below b w w' :=
  Any.Builder_String_any { Tryd.lays156 with } Tryd.Builder_Extra_156 b b l w (.inr h) hb

theorem jn_zero (a : Option Addr) (c : Nat) (sep : ByteArray) (w : World) : Calls Tryd.prog 25 #[.slice a 0 c, .string sep] w fun e w' => e = .returned (.string ⟨#[]⟩) ∧ w' = w := by
  go_enter Tryd.func25, Tryd.ntmps25
  go_wp2
  go_ret
  exact ⟨rfl, rfl⟩
theorem jn_single (bk o c : Nat) (x sep : ByteArray) (w : World) (hc : w.cell? ⟨bk, o, none⟩ = some (.string x)) : Calls Tryd.prog 25 #[.slice (some ⟨bk, o, none⟩) 1 c, .string sep] w fun e w' => e = .returned (.string x) ∧ w' = w := by
  go_enter Tryd.func25, Tryd.ntmps25
  go_wp2
  go_ret
  exact ⟨rfl, rfl⟩
end Go.Proofs.YtballlkeogmoiaaDoor
/-
  strings.Join of two strings and more.
-/
namespace Go.Proofs.YtballlkeogmoiaaDoor
open Go.Shelf Go.RowKit
set_option linter.unusedVariables false
set_option linter.unusedSimpArgs false

theorem hide {p : Prop} (h : p) : Hid p := h

/-- What the lengths say, for the arithmetic that Go does. -/
theorem jn_arith {N S T M : Nat} (hN : 2 ≤ N) (hN2 : N ≤ 140737488355328) (hM : S * (N - 1) = M) (h : M + T ≤ 140737488355328) :
    ¬ (9223372036854775807 / ((N : Int) - 1) ≤ (S : Int)) ∧ wrap64 ((S : Int) * ((N : Int) - 1)) = (M : Int) := by
  have e1 : ((N : Int) - 1) = ((N - 1 : Nat) : Int) := by omega
  have e2 : (S : Int) * ((N - 1 : Nat) : Int) = ((S * (N - 1) : Nat) : Int) := (Int.natCast_mul _ _).symm
  rw [e1, e2, hM]
  refine ⟨fun hle => ?_, IntWalk.wrap64_in _ ⟨by omega, by omega⟩⟩
  have e3 : (9223372036854775807 : Int) / ((N - 1 : Nat) : Int) = ((9223372036854775807 / (N - 1) : Nat) : Int) := (Int.natCast_ediv _ _).symm
  rw [e3] at hle
  have h1 : 9223372036854775807 / (N - 1) ≤ S := by omega
  have h2 : 9223372036854775807 / (N - 1) < S + 1 := by omega
  have h3 := (Nat.div_lt_iff_lt_mul (by omega : 0 < N - 1)).1 h2
  rw [Nat.add_mul, hM] at h3
  omega

set_option maxHeartbeats 4000000 in
set_option maxRecDepth 100000 in
theorem jn_many (bk o c : Nat) (xs : List ByteArray) (sep : ByteArray) (w : World) (hcells : ∀ (j : Nat) x, xs[j]? = some x → w.cell? ⟨bk, o + j, none⟩ = some (.string x)) (hbk : bk < w.heap.size)
    (h2 : 2 ≤ xs.length) (hN : xs.length ≤ 140737488355328) (hcap : xs.length ≤ c) (hlen : (Lib.join (xs.map (·.data.toList)) sep.data.toList).length ≤ 140737488355328) :
    Calls Tryd.prog 25 #[.slice (some ⟨bk, o, none⟩) xs.length c, .string sep] w fun e w' => e = .returned (.string ⟨(Lib.join (xs.map (·.data.toList)) sep.data.toList).toArray⟩) ∧ Below w.heap.size w w' := by
  have CE := hide hcells
  have LE := hide hlen
  obtain ⟨M, hM⟩ : ∃ M, sep.size * (xs.length - 1) = M := ⟨_, rfl⟩
  have hsum : M + Lib.lens (xs.map (·.data.toList)) ≤ 140737488355328 := by
    cases hx : xs with
    | nil => rw [hx] at h2; simp at h2
    | cons a t =>
      rw [hx] at hlen hM
      rw [List.map_cons] at hlen ⊢
      rw [Lib.join_length, List.length_map, ← Lib.size_eq] at hlen
      rw [List.length_cons, Nat.add_sub_cancel] at hM
      omega
  obtain ⟨hdv, hprod⟩ := jn_arith h2 hN hM hsum
  have hM0 : sep.size = 0 → M = 0 := fun e => by rw [← hM, e, Nat.zero_mul]
  clear hcells hlen hM
  have hne0 : ((xs.length : Int) == 0) = false := beq_eq_false_iff_ne.2 (by omega)
  have hne1 : ((xs.length : Int) == 1) = false := beq_eq_false_iff_ne.2 (by omega)
  go_enter Tryd.func25, Tryd.ntmps25
  go_wp2_with fail
  all_goals (
    go_loop [5, 41] (fun n i => ∃ k : Nat, k ≤ xs.length ∧ i = .int .i64 k ∧ n = .int .i64 ((M + Lib.lens ((xs.map (·.data.toList)).take k) : Nat) : Int)) (fun _ i => xs.length - (intOf i).toNat)
    case atStart => exact ⟨0, Nat.zero_le _, rfl, by first | (simp [Lib.lens]; done) | (rw [hM0 (by omega)]; simp [Lib.lens])⟩
    case round =>
      obtain ⟨k, hk, rfl, rfl⟩ := hrel
      rcases Nat.lt_or_ge k xs.length with hlt | hge
      · have hx : xs[k]? = some xs[k] := List.getElem?_eq_getElem hlt
        generalize xs[k] = x at hx
        have hc := CE.out k x hx
        have hs1 := Lib.lens_take_succ (xs.map (·.data.toList)) k x.data.toList (by simp [hx])
        have hs2 := Lib.lens_take_le (xs.map (·.data.toList)) (k + 1)
        rw [← Lib.size_eq] at hs1
        obtain ⟨A1, hA⟩ : ∃ A1, Lib.lens ((xs.map (·.data.toList)).take (k + 1)) = A1 := ⟨_, rfl⟩
        rw [hA] at hs1 hs2
        have HA := hide hA
        clear hA
        generalize Lib.lens ((xs.map (·.data.toList)).take k) = A0 at hs1
        go_wp2
        exact ⟨⟨k + 1, hlt, by go_num, by rw [HA.out]; refine congrArg _ ?_; omega⟩, by simp [intOf]; omega⟩
      · obtain rfl : k = xs.length := by omega
        have hT : Lib.lens ((xs.map (·.data.toList)).take xs.length) = Lib.lens (xs.map (·.data.toList)) := by rw [List.take_of_length_le (by simp)]
        rw [hT]
        clear hT
        generalize Lib.lens (xs.map (·.data.toList)) = T at hsum
        go_wp2_with fail
        have hMT : ((M : Int) + (T : Int)) = ((M + T : Nat) : Int) := by omega
        rw [hMT]
        refine (jn_grow w.heap.size (M + T) _ (by simp) (heap_alloc_new w _) (by omega)).mono ?_
        rintro e w1 ⟨rfl, b1, l1⟩
        have l1' : Below w.heap.size w w1 := ((Below.refl w.heap.size w).alloc (Nat.le_refl _) _).trans l1
        obtain ⟨x0, hx0⟩ : ∃ x0, xs[0]? = some x0 := ⟨xs[0], List.getElem?_eq_getElem (by omega)⟩
        have hc0 : w1.cell? ⟨bk, o, none⟩ = some (.string x0) := by
          rw [l1'.cell (p := ⟨bk, o, none⟩) hbk]
          exact CE.out 0 x0 hx0
        have B1 := hide b1
        have L1 := hide l1'
        have z1 : w.heap.size ≤ w1.heap.size := l1'.size
        have JL : Hid (∀ k, k ≤ xs.length → (Lib.join ((xs.map (·.data.toList)).take k) sep.data.toList).length ≤ 140737488355328) := hide fun k hk => Nat.le_trans (join_le _ _ _ (by simpa using hk)) LE.out
        have J1 : Lib.join ((xs.map (·.data.toList)).take 1) sep.data.toList = x0.data.toList := join_one' _ _ (by simp [hx0])
        have HJ1 := hide J1
        clear b1 l1 l1' hMT hx0 J1
        go_wp2_with fail
        refine (jn_write w.heap.size [] x0 w1 B1.out (by have h := JL.out 1 (by omega); rw [HJ1.out, ← Lib.size_eq] at h; simpa using h) z1).mono ?_
        rintro e w2 ⟨rfl, b2, l2⟩
        rw [show ([] : List Value) ++ Lib.strCells x0 = Lib.byteCells (Lib.join ((xs.map (·.data.toList)).take 1) sep.data.toList) by rw [HJ1.out]; simp [Lib.strCells_eq]] at b2
        have B2 := hide b2
        have L2 := hide (L1.out.trans l2)
        clear b2 l2
        go_wp2_with fail
        go_loopw [65] (fun i wr => ∃ k : Nat, k + 1 ≤ xs.length ∧ i = .int .i64 k ∧ Hid (Lib.BuilderAt 57 5 w.heap.size w.heap.size (.pointer (some ⟨w.heap.size, 0, none⟩)) (Lib.byteCells (Lib.join ((xs.map (·.data.toList)).take (k + 1)) sep.data.toList)) wr) ∧ Hid (Below w.heap.size w wr)) (fun i _ => xs.length - (intOf i).toNat)
        case atStart => exact ⟨0, by omega, rfl, B2, L2⟩
        case round =>
          obtain ⟨k, hk', rfl, BK, LK⟩ := hrel
          have zr : w.heap.size ≤ wr.heap.size := LK.out.size
          rcases Nat.lt_or_ge (k + 1) xs.length with hlt | hge
          · have hy : xs[k + 1]? = some xs[k + 1] := List.getElem?_eq_getElem hlt
            generalize xs[k + 1] = y at hy
            have hcy : wr.cell? ⟨bk, o + 1 + k, none⟩ = some (.string y) := by
              rw [LK.out.cell (p := ⟨bk, o + 1 + k, none⟩) hbk, show o + 1 + k = o + (k + 1) by omega]
              exact CE.out (k + 1) y hy
            have st := join_step sep.data.toList y.data.toList (xs.map (·.data.toList)) (k + 1) (by omega) (by simp [hy])
            have nx : Lib.byteCells (Lib.join ((xs.map (·.data.toList)).take (k + 1)) sep.data.toList) ++ Lib.strCells sep ++ Lib.strCells y = Lib.byteCells (Lib.join ((xs.map (·.data.toList)).take (k + 1 + 1)) sep.data.toList) := by
              rw [st, Lib.strCells_eq, Lib.strCells_eq, ← Lib.byteCells_append, ← Lib.byteCells_append]
            have jl := JL.out (k + 1 + 1) (by omega)
            rw [st] at jl
            simp only [List.length_append, ← Lib.size_eq] at jl
            have bl : (Lib.byteCells (Lib.join ((xs.map (·.data.toList)).take (k + 1)) sep.data.toList)).length = (Lib.join ((xs.map (·.data.toList)).take (k + 1)) sep.data.toList).length := Lib.byteCells_length _
            generalize (Lib.join ((xs.map (·.data.toList)).take (k + 1)) sep.data.toList).length = J at jl bl
            have NX := hide nx
            have BL := hide bl
            clear nx st hy bl
            go_wp2_with fail
            refine (jn_write w.heap.size _ sep wr BK.out (by rw [BL.out]; omega) zr).mono ?_
            rintro e w3 ⟨rfl, b3, l3⟩
            have z3 : w.heap.size ≤ w3.heap.size := Nat.le_trans zr l3.size
            have B3 := hide b3
            have L3 := hide l3
            clear b3 l3
            go_wp2_with fail
            refine (jn_write w.heap.size _ y w3 B3.out (by rw [List.length_append, BL.out, Lib.strCells_length]; omega) z3).mono ?_
            rintro e w4 ⟨rfl, b4, l4⟩
            rw [NX.out] at b4
            have B4 := hide b4
            have L4 := hide ((LK.out.trans L3.out).trans l4)
            clear b4 l4
            go_wp2
            exact ⟨⟨k + 1, by omega, by go_num, B4, L4⟩, by simp [intOf]; omega⟩
          · have hke : k + 1 = xs.length := by omega
            have hb := BK.out
            rw [hke, List.take_of_length_le (by simp)] at hb
            go_wp2_with fail
            refine (jn_string w.heap.size _ wr hb zr).mono ?_
            rintro e w5 ⟨rfl, l5⟩
            have L5 := hide (LK.out.trans l5)
            clear l5 hb
            go_wp2
            go_ret
            exact ⟨rfl, L5.out⟩)
end Go.Proofs.YtballlkeogmoiaaDoor
/-
  strings.Join as a contract of the library R.
-/
namespace Go.Proofs.YtballlkeogmoiaaDoor
open Go.Rv Go.RowKit
set_option linter.unusedVariables false
set_option linter.unusedSimpArgs false

theorem spot_of_cell {w : World} {a : Addr} {u : Value} (h : w.cell? a = some u) : a.spot = none := by
  unfold World.cell? at h
  split at h
  · cases hs : a.spot with
    | none => rfl
    | some q => simp [hs] at h
  · cases h

theorem con_join {rs : Nat → Nat} {xs : List (List UInt8)} {sep r : List UInt8} {b : Bool} (h : joinO xs sep = some r) : Con (B rs) 25 [.sl b (L (fun s => [.str s]) xs), .str sep] [] (fun r' σ' => r' = .str r ∧ σ' = []) := by
  unfold joinO at h
  split at h
  case isFalse => cases h
  rename_i hl
  obtain ⟨hl1, hl2⟩ := hl
  simp only [Option.some.injEq] at h
  subst h
  refine ⟨fun F w g vs hm ha => .inl ⟨⟨Tryd.f25, _, Tryd.func25, rfl, by decide +kernel⟩, ?_⟩⟩
  have hg : g = [] := List.length_eq_zero_iff.1 hm.len
  subst hg
  obtain ⟨vs⟩ := vs
  have key : Calls Tryd.prog 25 ⟨vs⟩ w fun e w' => e = .returned (.string ⟨(Lib.join xs sep).toArray⟩) ∧ Below w.heap.size w w' := by
    match vs, ha with
    | [u, v], ⟨h1, h2, _⟩ =>
      obtain ⟨s, rfl, hs⟩ := rep_str h2
      have es : s = ⟨sep.toArray⟩ := by subst hs; rfl
      subst es
      cases h1 with
      | sl _ a len cap _ _ k c hlen hcap hfull hnone hk hc hr =>
        have hln : xs.length = len := by rw [← hlen]; simp [L]
        subst hln
        have hraw : ∀ (i : Nat) (l : List UInt8), xs[i]? = some l → ∃ a', a = some a' ∧ w.cell? (a'.add i) = some (.string ⟨l.toArray⟩) := by
          intro i l hi
          have e1 : (L (fun s => [AV.str s]) xs)[i]? = some [.str l] := by simp [L, hi]
          have hk1 : k = 1 := by simpa using (hk i _ e1).symm
          subst hk1
          obtain ⟨a', ea, c1, _, _⟩ := hc i _ 0 _ e1 rfl
          have c2 := hr i _ 0 _ e1 rfl
          obtain ⟨q, eq, hq⟩ := rep_str c2
          rw [eq, Nat.mul_one, Nat.add_zero] at c1
          have e2 : q = ⟨l.toArray⟩ := by subst hq; rfl
          exact ⟨a', ea, by rw [c1, e2]⟩
        have h0 : ∀ x, xs[0]? = some x → ∃ bk o, a = some ⟨bk, o, none⟩ := by
          intro x hx
          obtain ⟨a', ea, c1⟩ := hraw 0 x hx
          rw [Go.Rv.add_zero] at c1
          have sp := spot_of_cell c1
          obtain ⟨bk, o, spt⟩ := a'
          have sp' : spt = none := sp
          subst sp'
          exact ⟨bk, o, ea⟩
        have hcell : ∀ bk o, a = some ⟨bk, o, none⟩ → ∀ (i : Nat) (l : List UInt8), xs[i]? = some l → w.cell? ⟨bk, o + i, none⟩ = some (.string ⟨l.toArray⟩) := by
          intro bk o ea i l hi
          obtain ⟨a', ea', c1⟩ := hraw i l hi
          rw [ea] at ea'
          cases ea'
          rw [← c1]
          unfold Addr.add
          by_cases hz : i = 0
          · subst hz; rfl
          · rw [if_neg hz]
        clear hraw hc hr hk hlen
        match xs, h0, hcell, hl1, hl2, hcap with
        | [], _, _, _, _, _ => exact (jn_zero a cap _ w).mono fun e w' ⟨e1, e2⟩ => ⟨e1, e2 ▸ Below.refl _ _⟩
        | [x], h0, hcell, _, _, _ =>
          obtain ⟨bk, o, rfl⟩ := h0 x rfl
          have hx := hcell bk o rfl 0 x rfl
          exact (jn_single bk o cap _ _ w hx).mono fun e w' ⟨e1, e2⟩ => ⟨by rw [e1, Lib.join_one], e2 ▸ Below.refl _ _⟩
        | x :: y :: l, h0, hcell, hl1, hl2, hcap =>
          obtain ⟨bk, o, rfl⟩ := h0 x rfl
          have hx := hcell bk o rfl 0 x rfl
          have em : ((x :: y :: l).map fun l => (⟨l.toArray⟩ : ByteArray)).map (·.data.toList) = x :: y :: l := by simp [List.map_map, Function.comp_def]
          have := jn_many bk o cap ((x :: y :: l).map fun l => (⟨l.toArray⟩ : ByteArray)) ⟨sep.toArray⟩ w (fun j z hz => by
            rw [List.getElem?_map, Option.map_eq_some_iff] at hz
            obtain ⟨l', hl', rfl⟩ := hz
            exact hcell bk o rfl j l' hl') (cell?_lt hx) (by simp) (by simpa using hl2) (by simpa using hcap) (by rw [em]; exact hl1)
          rw [em, List.length_map] at this
          exact this
  refine key.mono fun e w' ⟨he, hb⟩ => ?_
  have evo : Evo ((B rs).env F) 0 w [] w' [] := ⟨hb.os, hb.tape, hb.output, hb.size, fun a u hc hp => ⟨by
    rw [← hc]
    simp only [World.cell?, hb.block _ (cell?_lt hc)], hp⟩, fun β hβ hn => ⟨hb.block β hβ, hn⟩, fun _ hh => absurd hh (Nat.not_lt_zero _)⟩
  exact ⟨_, _, [], [], he, ⟨rfl, rfl⟩, (mem_back hm evo).1, evo, .str _ _ _ (by simp)⟩
end Go.Proofs.YtballlkeogmoiaaDoor
/-
  The functions compute just that.
-/
namespace Go.Proofs.YtballlkeogmoiaaDoor
open Go.Rv
set_option linter.unusedVariables false
set_option linter.unusedSimpArgs false
set_option maxRecDepth 20000
variable {rs : Nat → Nat}
set_option maxHeartbeats 4000000

theorem r15_Alike_con {a_1014 : List Api_Token} {b_1015 : List Api_Token} {r : Bool} (h : r15_Alike a_1014 b_1015 = some r) : Con (B rs) 18 [.sl false (L cApi_Token a_1014), .sl false (L cApi_Token b_1015)] [] (fun r' σ' => r' = .bool r ∧ σ' = []) := by
  refine con_walk (N := 54) (rs := [.tmp 4]) ok Tryd.func18 rfl (by decide +kernel) rfl rfl (Nat.le_of_ble_eq_true rfl) (fun F => ?_)
  have hE := (ok (rs := rs)).env F
  unfold r15_Alike at h
  show Run ((B rs).env F) 0 _ ⟨asFr 54 [(0, .sl false (L cApi_Token a_1014)), (1, .sl false (L cApi_Token b_1015))], []⟩ _
  refine run_textE hE [0, 1] (fr' := [(0, .sl false (L cApi_Token a_1014)), (1, .sl false (L cApi_Token b_1015))]) (σ' := []) ⟨_, orcs_nil, ?_⟩ ?_
  · simp only [go_sem, reduceIte, Nat.reduceLT, Nat.reduceEqDiff, Nat.reduceAdd]
  refine run_seq ?_
  refine run_textE hE [0, 1, 10] (fr' := [(0, .sl false (L cApi_Token a_1014)), (1, .sl false (L cApi_Token b_1015)), (10, .bool (((a_1014.length : Int) != (b_1015.length : Int))))]) (σ' := []) ⟨_, orcs_nil, ?_⟩ ?_
  · simp only [go_sem, reduceIte, Nat.reduceLT, Nat.reduceEqDiff, Nat.reduceAdd]
  refine run_condL (b := ((a_1014.length : Int) != (b_1015.length : Int))) rfl (by decide) (fun hb => ?_) (fun hb => ?_)
  · replace h := ite_t h hb
    refine run_textE hE [4] (fr' := [(4, .bool false)]) (σ' := []) ⟨_, orcs_nil, ?_⟩ ?_
    · simp only [go_sem, reduceIte, Nat.reduceLT, Nat.reduceEqDiff, Nat.reduceAdd]
    refine run_ret ?_
    refine thenK_r ?_
    obtain rfl := Option.some.inj h
    refine ret_ok (.inr rfl) ?_
    simp only [go_sem, reduceIte, Nat.reduceLT, Nat.reduceEqDiff, Nat.reduceAdd]
  · replace h := ite_f h hb
    refine run_skip ?_
    refine thenK_n ?_
    replace h := bind_some1 h; obtain ⟨j_1058, hA_1059, hj_1060⟩ := h
    refine run_join (fun (v : Unit) => (⟨asFr 54 [], []⟩ : St)) (fun v => .inl v = j_1058) ?_ ?_
    · have h := hA_1059; clear hA_1059
      refine run_textE hE [0, 1, 5] (fr' := [(0, .sl false (L cApi_Token a_1014)), (1, .sl false (L cApi_Token b_1015)), (5, i64 0)]) (σ' := []) ⟨_, orcs_nil, ?_⟩ ?_
      · simp only [go_sem, reduceIte, Nat.reduceLT, Nat.reduceEqDiff, Nat.reduceAdd]
      refine run_block ?_
      replace h := bind_some1 h; obtain ⟨x_1086, hx_1087, hj_1088⟩ := h
      refine run_loopO hx_1087 (fun (v : Int) => (⟨asFr 54 [(0, .sl false (L cApi_Token a_1014)), (1, .sl false (L cApi_Token b_1015)), (5, i64 v)], []⟩ : St)) (weak_sel [] (by decide) rfl (by simp only [go_sem, reduceIte, Nat.reduceLT, Nat.reduceEqDiff, Nat.reduceAdd]) (by simp only [go_sem, reduceIte, Nat.reduceLT, Nat.reduceEqDiff, Nat.reduceAdd])) ?_
      rintro i_1073 o_1089 h hxx_1090
      replace h : r15_Alike_b1 a_1014 b_1015 i_1073 = some o_1089 := h
      unfold r15_Alike_b1 at h
      refine run_seq ?_
      refine run_textE hE [0, 1, 5, 14] (fr' := [(0, .sl false (L cApi_Token a_1014)), (1, .sl false (L cApi_Token b_1015)), (5, i64 i_1073), (14, .bool ((decide (i_1073 < (a_1014.length : Int)))))]) (σ' := []) ⟨_, orcs_nil, ?_⟩ ?_
      · simp only [go_sem, reduceIte, Nat.reduceLT, Nat.reduceEqDiff, Nat.reduceAdd]
      refine run_condL (b := (decide (i_1073 < (a_1014.length : Int)))) rfl (by decide) (fun hb => ?_) (fun hb => ?_)
      · replace h := ite_t h hb
        refine run_skip ?_
        refine thenK_n ?_
        refine run_seq ?_
        refine run_block ?_
        replace h := bind_some1 h; obtain ⟨t_1091, hv_1092, h⟩ := h
        refine run_drawW hE mixed [[], [], [0, 1], [0, 1, 2], [0, 1, 2, 3], [], [], [5, 6], [5, 6, 7], [5, 6, 7, 8], [0, 1, 2, 3, 4, 5, 6, 7, 8, 9], [0, 1, 2, 3, 4, 5, 6, 7, 8, 9, 10], [0, 1, 2, 3, 4, 5, 6, 7, 8, 9, 10, 11], [0, 1, 2, 3, 4, 5, 6, 7, 8, 9, 10, 11], [0, 1, 2, 3, 4, 5, 6, 7, 8, 9, 10, 11, 12, 13], [0, 1, 2, 3, 4, 5, 6, 7, 8, 9, 10, 11, 12, 13, 14], [0, 1, 2, 3, 4, 5, 6, 7, 8, 9, 10, 11, 12, 13, 14, 15], [0, 1, 2, 3, 4, 5, 6, 7, 8, 9, 10, 11], [0, 1, 2, 3, 4, 5, 6, 7, 8, 9, 10, 11], [0, 1, 2, 3, 4, 5, 6, 7, 8, 9, 10, 11, 17, 18], [0, 1, 2, 3, 4, 5, 6, 7, 8, 9, 10, 11, 17, 18, 19], [0, 1, 2, 3, 4, 5, 6, 7, 8, 9, 10, 11, 17, 18, 19, 20], [0, 1, 2, 3, 4, 5, 6, 7, 8, 9, 10, 11, 12, 13, 14, 15, 16, 17, 18, 19, 20, 21], [0, 1, 2, 3, 4, 5, 6, 7, 8, 9, 10, 11, 12, 13, 14, 15, 16, 17, 18, 19, 20, 21, 22], [0, 1, 2, 3, 4, 5, 6, 7, 8, 9, 10, 11, 12, 13, 14, 15, 16, 17, 18, 19, 20, 21, 22, 23], [0, 1, 2, 3, 4, 5, 6, 7, 8, 9, 10, 11, 12, 13, 14, 15, 16, 17, 18, 19, 20, 21, 22, 23, 24], [0, 1, 2, 3, 4, 5, 6, 7, 8, 9, 10, 11, 12, 13, 14, 15, 16, 17, 18, 19, 20, 21, 22, 23, 24], [0, 1, 2, 3, 4, 5, 6, 7, 8, 9, 10, 11, 12, 13, 14, 15, 16, 17, 18, 19, 20, 21, 22, 23, 24, 25, 26], [0, 1, 2, 3, 4, 5, 6, 7, 8, 9, 10, 11, 12, 13, 14, 15, 16, 17, 18, 19, 20, 21, 22, 23, 24, 25, 26, 27], [0, 1, 2, 3, 4, 5, 6, 7, 8, 9, 10, 11, 12, 13, 14, 15, 16, 17, 18, 19, 20, 21, 22, 23, 24, 25, 26, 27, 28], [0, 1, 2, 3, 4, 5, 6, 7, 8, 9, 10, 11, 12, 13, 14, 15, 16, 17, 18, 19, 20, 21, 22, 23, 24], [0, 1, 2, 3, 4, 5, 6, 7, 8, 9, 10, 11, 12, 13, 14, 15, 16, 17, 18, 19, 20, 21, 22, 23, 24], [0, 1, 2, 3, 4, 5, 6, 7, 8, 9, 10, 11, 12, 13, 14, 15, 16, 17, 18, 19, 20, 21, 22, 23, 24, 30, 31], [0, 1, 2, 3, 4, 5, 6, 7, 8, 9, 10, 11, 12, 13, 14, 15, 16, 17, 18, 19, 20, 21, 22, 23, 24, 30, 31, 32], [0, 1, 2, 3, 4, 5, 6, 7, 8, 9, 10, 11, 12, 13, 14, 15, 16, 17, 18, 19, 20, 21, 22, 23, 24, 30, 31, 32, 33], [0, 1, 2, 3, 4, 5, 6, 7, 8, 9, 10, 11, 12, 13, 14, 15, 16, 17, 18, 19, 20, 21, 22, 23, 24, 25, 26, 27, 28, 29, 30, 31, 32, 33, 34], [0, 1, 2, 3, 4, 5, 6, 7, 8, 9, 10, 11, 12, 13, 14, 15, 16, 17, 18, 19, 20, 21, 22, 23, 24, 25, 26, 27, 28, 29, 30, 31, 32, 33, 34, 35]] (by kernel_rfl) (by kernel_rfl) [0, 1, 5, 53] (fr' := [(0, .sl false (L cApi_Token a_1014)), (1, .sl false (L cApi_Token b_1015)), (5, i64 i_1073), (53, .bool t_1091)]) (σ' := []) ?_ ?_
        · replace hv_1092 := chk_some hv_1092; obtain ⟨hc_1093, hv_1092⟩ := hv_1092
          replace hv_1092 := chk_some hv_1092; obtain ⟨hc_1094, hv_1092⟩ := hv_1092
          rcases Bool.eq_false_or_eq_true (((nth a_1014 i_1073.toNat).Kind != (nth b_1015 i_1073.toNat).Kind)) with hb_1095 | hb_1095
          · replace hv_1092 := ite_t hv_1092 hb_1095
            have e_hv_1092 := Option.some.inj hv_1092; subst e_hv_1092
            exact ⟨_, [(0, .sl false (L cApi_Token a_1014)), (1, .sl false (L cApi_Token b_1015)), (5, i64 i_1073), (53, .bool true)], [], orcs_nil, by simp only [go_sem, reduceIte, Nat.reduceLT, Nat.reduceEqDiff, Nat.reduceAdd, Int.reduceToNat, hc_1093, hc_1093.2, lt_le hc_1093.2, hc_1094, hc_1094.2, lt_le hc_1094.2, hb_1095], (weak_sel [] (by decide) rfl (by simp only [go_sem, reduceIte, Nat.reduceLT, Nat.reduceEqDiff, Nat.reduceAdd]) (by simp only [go_sem, reduceIte, Nat.reduceLT, Nat.reduceEqDiff, Nat.reduceAdd]))⟩
          · replace hv_1092 := ite_f hv_1092 hb_1095
            replace hv_1092 := chk_some hv_1092; obtain ⟨hc_1096, hv_1092⟩ := hv_1092
            replace hv_1092 := chk_some hv_1092; obtain ⟨hc_1097, hv_1092⟩ := hv_1092
            rcases Bool.eq_false_or_eq_true ((!(((nth a_1014 i_1073.toNat).Text) == ((nth b_1015 i_1073.toNat).Text)))) with hb_1098 | hb_1098
            · replace hv_1092 := ite_t hv_1092 hb_1098
              have e_hv_1092 := Option.some.inj hv_1092; subst e_hv_1092
              exact ⟨_, [(0, .sl false (L cApi_Token a_1014)), (1, .sl false (L cApi_Token b_1015)), (5, i64 i_1073), (53, .bool true)], [], orcs_nil, by simp only [go_sem, reduceIte, Nat.reduceLT, Nat.reduceEqDiff, Nat.reduceAdd, Int.reduceToNat, hc_1093, hc_1093.2, lt_le hc_1093.2, hc_1094, hc_1094.2, lt_le hc_1094.2, hb_1095, hc_1096, hc_1096.2, lt_le hc_1096.2, hc_1097, hc_1097.2, lt_le hc_1097.2, hb_1098], (weak_sel [] (by decide) rfl (by simp only [go_sem, reduceIte, Nat.reduceLT, Nat.reduceEqDiff, Nat.reduceAdd]) (by simp only [go_sem, reduceIte, Nat.reduceLT, Nat.reduceEqDiff, Nat.reduceAdd]))⟩
            · replace hv_1092 := ite_f hv_1092 hb_1098
              replace hv_1092 := chk_some hv_1092; obtain ⟨hc_1099, hv_1092⟩ := hv_1092
              replace hv_1092 := chk_some hv_1092; obtain ⟨hc_1100, hv_1092⟩ := hv_1092
              have e_hv_1092 := Option.some.inj hv_1092; subst e_hv_1092
              exact ⟨_, [(0, .sl false (L cApi_Token a_1014)), (1, .sl false (L cApi_Token b_1015)), (5, i64 i_1073), (53, .bool (((nth a_1014 i_1073.toNat).N != (nth b_1015 i_1073.toNat).N)))], [], orcs_nil, by simp only [go_sem, reduceIte, Nat.reduceLT, Nat.reduceEqDiff, Nat.reduceAdd, Int.reduceToNat, hc_1093, hc_1093.2, lt_le hc_1093.2, hc_1094, hc_1094.2, lt_le hc_1094.2, hb_1095, hc_1096, hc_1096.2, lt_le hc_1096.2, hc_1097, hc_1097.2, lt_le hc_1097.2, hb_1098, hc_1099, hc_1099.2, lt_le hc_1099.2, hc_1100, hc_1100.2, lt_le hc_1100.2], (weak_sel [] (by decide) rfl (by simp only [go_sem, reduceIte, Nat.reduceLT, Nat.reduceEqDiff, Nat.reduceAdd]) (by simp only [go_sem, reduceIte, Nat.reduceLT, Nat.reduceEqDiff, Nat.reduceAdd]))⟩
        refine run_condL (b := t_1091) rfl (by decide) (fun hb => ?_) (fun hb => ?_)
        · replace h := ite_t h hb
          refine run_textE hE [4] (fr' := [(4, .bool false)]) (σ' := []) ⟨_, orcs_nil, ?_⟩ ?_
          · simp only [go_sem, reduceIte, Nat.reduceLT, Nat.reduceEqDiff, Nat.reduceAdd]
          refine run_ret ?_
          refine blockK_r ?_
          refine thenK_r ?_
          refine lpK_r ?_
          replace h := bind_some1 h; obtain ⟨z_1102, h, e_z_1102⟩ := h
          obtain rfl := Option.some.inj e_z_1102
          have ex_z_1102 := hxx_1090 _ rfl
          subst ex_z_1102
          obtain rfl := Option.some.inj hj_1088
          refine blockK_r ?_
          refine joinK_r ?_
          replace h := bind_some1 h; obtain ⟨z_1101, h, e_z_1101⟩ := h
          obtain rfl := Option.some.inj e_z_1101
          obtain rfl := Option.some.inj hj_1060
          obtain rfl := Option.some.inj h
          refine ret_ok (.inr rfl) ?_
          simp only [go_sem, reduceIte, Nat.reduceLT, Nat.reduceEqDiff, Nat.reduceAdd]
        · replace h := ite_f h hb
          refine run_skip ?_
          refine blockK_n ?_
          refine thenK_n ?_
          refine run_textE0 hE wk_lp [0, 1, 5] (fr' := [(0, .sl false (L cApi_Token a_1014)), (1, .sl false (L cApi_Token b_1015)), (5, i64 ((w64 (i_1073 + 1))))]) (σ' := []) ⟨_, orcs_nil, ?_⟩ ?_
          · simp only [go_sem, reduceIte, Nat.reduceLT, Nat.reduceEqDiff, Nat.reduceAdd]
          obtain rfl := Option.some.inj h
          exact lpK_n ((w64 (i_1073 + 1))) rfl (weak_sel [] (by decide) rfl (by simp only [go_sem, reduceIte, Nat.reduceLT, Nat.reduceEqDiff, Nat.reduceAdd]) (by simp only [go_sem, reduceIte, Nat.reduceLT, Nat.reduceEqDiff, Nat.reduceAdd]))
      · replace h := ite_f h hb
        refine run_exit ?_
        refine thenK_x ?_
        obtain rfl := Option.some.inj h
        have ex_x_1086 := hxx_1090 _ rfl
        subst ex_x_1086
        have h := hj_1088; clear hj_1088
        refine lpK_x ?_
        refine blockK_x ?_
        obtain rfl := Option.some.inj h
        exact joinK_n (()) rfl ((weak_sel (l' := []) (σ' := []) [] (by decide) rfl (by simp only [go_sem, reduceIte, Nat.reduceLT, Nat.reduceEqDiff, Nat.reduceAdd]) (by simp only [go_sem, reduceIte, Nat.reduceLT, Nat.reduceEqDiff, Nat.reduceAdd])).trans (weak_sel [] (by decide) rfl (by simp only [go_sem, reduceIte, Nat.reduceLT, Nat.reduceEqDiff, Nat.reduceAdd]) (by simp only [go_sem, reduceIte, Nat.reduceLT, Nat.reduceEqDiff, Nat.reduceAdd])))
    rintro ⟨⟩ rfl
    have h := hj_1060; clear hj_1060
    refine run_textE hE [4] (fr' := [(4, .bool true)]) (σ' := []) ⟨_, orcs_nil, ?_⟩ ?_
    · simp only [go_sem, reduceIte, Nat.reduceLT, Nat.reduceEqDiff, Nat.reduceAdd]
    refine run_ret ?_
    obtain rfl := Option.some.inj h
    refine ret_ok (.inr rfl) ?_
    simp only [go_sem, reduceIte, Nat.reduceLT, Nat.reduceEqDiff, Nat.reduceAdd]

theorem law15_gap_con {s_1103 : List UInt8} {last_1104 : Bool} {r : Bool} (h : law15_gap s_1103 last_1104 = some r) : Con (B rs) 19 [.str s_1103, .bool last_1104] [] (fun r' σ' => r' = .bool r ∧ σ' = []) := by
  refine con_walk (N := 35) (rs := [.tmp 4]) ok Tryd.func19 rfl (by decide +kernel) rfl rfl (Nat.le_of_ble_eq_true rfl) (fun F => ?_)
  have hE := (ok (rs := rs)).env F
  unfold law15_gap at h
  show Run ((B rs).env F) 0 _ ⟨asFr 35 [(0, .str s_1103), (1, .bool last_1104)], []⟩ _
  refine run_textE hE [0, 1] (fr' := [(0, .str s_1103), (1, .bool last_1104)]) (σ' := []) ⟨_, orcs_nil, ?_⟩ ?_
  · simp only [go_sem, reduceIte, Nat.reduceLT, Nat.reduceEqDiff, Nat.reduceAdd]
  refine run_textE hE [0, 1, 5] (fr' := [(0, .str s_1103), (1, .bool last_1104), (5, .bool false)]) (σ' := []) ⟨_, orcs_nil, ?_⟩ ?_
  · simp only [go_sem, reduceIte, Nat.reduceLT, Nat.reduceEqDiff, Nat.reduceAdd]
  replace h := bind_some1 h; obtain ⟨j_1174, hA_1175, hj_1176⟩ := h
  refine run_join (fun (v : Bool) => (⟨asFr 35 [(1, .bool last_1104), (5, .bool v)], []⟩ : St)) (fun v => .inl v = j_1174) ?_ ?_
  · have h := hA_1175; clear hA_1175
    refine run_textE hE [0, 1, 5, 6] (fr' := [(0, .str s_1103), (1, .bool last_1104), (5, .bool false), (6, i64 0)]) (σ' := []) ⟨_, orcs_nil, ?_⟩ ?_
    · simp only [go_sem, reduceIte, Nat.reduceLT, Nat.reduceEqDiff, Nat.reduceAdd]
    refine run_block ?_
    replace h := bind_some1 h; obtain ⟨x_1220, hx_1221, hj_1222⟩ := h
    refine run_loopO hx_1221 (fun (v : Bool × Int) => (⟨asFr 35 [(0, .str s_1103), (1, .bool last_1104), (5, .bool v.1), (6, i64 v.2)], []⟩ : St)) (weak_sel [] (by decide) rfl (by simp only [go_sem, reduceIte, Nat.reduceLT, Nat.reduceEqDiff, Nat.reduceAdd]) (by simp only [go_sem, reduceIte, Nat.reduceLT, Nat.reduceEqDiff, Nat.reduceAdd])) ?_
    rintro ⟨comment_1197, i_1198⟩ o_1223 h hxx_1224
    replace h : law15_gap_b1 s_1103 comment_1197 i_1198 = some o_1223 := h
    unfold law15_gap_b1 at h
    refine run_seq ?_
    refine run_textE hE [0, 1, 5, 6, 10] (fr' := [(0, .str s_1103), (1, .bool last_1104), (5, .bool comment_1197), (6, i64 i_1198), (10, .bool ((decide (i_1198 < (s_1103.length : Int)))))]) (σ' := []) ⟨_, orcs_nil, ?_⟩ ?_
    · simp only [go_sem, reduceIte, Nat.reduceLT, Nat.reduceEqDiff, Nat.reduceAdd]
    refine run_condL (b := (decide (i_1198 < (s_1103.length : Int)))) rfl (by decide) (fun hb => ?_) (fun hb => ?_)
    · replace h := ite_t h hb
      refine run_skip ?_
      refine thenK_n ?_
      refine run_seq ?_
      refine run_block ?_
      replace h := bind_some1 h; obtain ⟨j_1227, hA_1228, hj_1229⟩ := h
      refine run_join (fun (v : Bool) => (⟨asFr 35 [(0, .str s_1103), (1, .bool last_1104), (5, .bool v), (6, i64 i_1198)], []⟩ : St)) (fun v => v = j_1227) ?_ ?_
      · have h := hA_1228; clear hA_1228
        replace h := chk_some h; obtain ⟨hc_1230, h⟩ := h
        refine run_textE hE [0, 1, 5, 6, 16] (fr' := [(0, .str s_1103), (1, .bool last_1104), (5, .bool comment_1197), (6, i64 i_1198), (16, .bool (((nth s_1103 i_1198.toNat) == (35 : UInt8))))]) (σ' := []) ⟨_, orcs_nil, ?_⟩ ?_
        · simp only [go_sem, reduceIte, Nat.reduceLT, Nat.reduceEqDiff, Nat.reduceAdd, Int.reduceToNat, hc_1230, hc_1230.2, lt_le hc_1230.2]
        refine run_condL (b := ((nth s_1103 i_1198.toNat) == (35 : UInt8))) rfl (by decide) (fun hb => ?_) (fun hb => ?_)
        · replace h := ite_t h hb
          refine run_textE0 hE wk_join [0, 1, 5, 6] (fr' := [(0, .str s_1103), (1, .bool last_1104), (5, .bool true), (6, i64 i_1198)]) (σ' := []) ⟨_, orcs_nil, ?_⟩ ?_
          · simp only [go_sem, reduceIte, Nat.reduceLT, Nat.reduceEqDiff, Nat.reduceAdd]
          obtain rfl := Option.some.inj h
          exact joinK_n true rfl (weak_sel [] (by decide) rfl (by simp only [go_sem, reduceIte, Nat.reduceLT, Nat.reduceEqDiff, Nat.reduceAdd]) (by simp only [go_sem, reduceIte, Nat.reduceLT, Nat.reduceEqDiff, Nat.reduceAdd]))
        · replace h := ite_f h hb
          refine run_skip ?_
          obtain rfl := Option.some.inj h
          exact joinK_n comment_1197 rfl (weak_sel [] (by decide) rfl (by simp only [go_sem, reduceIte, Nat.reduceLT, Nat.reduceEqDiff, Nat.reduceAdd]) (by simp only [go_sem, reduceIte, Nat.reduceLT, Nat.reduceEqDiff, Nat.reduceAdd]))
      rintro comment_1226 rfl
      have h := hj_1229; clear hj_1229
      replace h := bind_some1 h; obtain ⟨j_1233, hA_1234, hj_1235⟩ := h
      refine run_join (fun (v : Bool) => (⟨asFr 35 [(0, .str s_1103), (1, .bool last_1104), (5, .bool v), (6, i64 i_1198)], []⟩ : St)) (fun v => v = j_1233) ?_ ?_
      · have h := hA_1234; clear hA_1234
        replace h := chk_some h; obtain ⟨hc_1236, h⟩ := h
        refine run_textE hE [0, 1, 5, 6, 20] (fr' := [(0, .str s_1103), (1, .bool last_1104), (5, .bool comment_1226), (6, i64 i_1198), (20, .bool (((nth s_1103 i_1198.toNat) == (10 : UInt8))))]) (σ' := []) ⟨_, orcs_nil, ?_⟩ ?_
        · simp only [go_sem, reduceIte, Nat.reduceLT, Nat.reduceEqDiff, Nat.reduceAdd, Int.reduceToNat, hc_1236, hc_1236.2, lt_le hc_1236.2]
        refine run_condL (b := ((nth s_1103 i_1198.toNat) == (10 : UInt8))) rfl (by decide) (fun hb => ?_) (fun hb => ?_)
        · replace h := ite_t h hb
          refine run_textE0 hE wk_join [0, 1, 5, 6] (fr' := [(0, .str s_1103), (1, .bool last_1104), (5, .bool false), (6, i64 i_1198)]) (σ' := []) ⟨_, orcs_nil, ?_⟩ ?_
          · simp only [go_sem, reduceIte, Nat.reduceLT, Nat.reduceEqDiff, Nat.reduceAdd]
          obtain rfl := Option.some.inj h
          exact joinK_n false rfl (weak_sel [] (by decide) rfl (by simp only [go_sem, reduceIte, Nat.reduceLT, Nat.reduceEqDiff, Nat.reduceAdd]) (by simp only [go_sem, reduceIte, Nat.reduceLT, Nat.reduceEqDiff, Nat.reduceAdd]))
        · replace h := ite_f h hb
          refine run_skip ?_
          obtain rfl := Option.some.inj h
          exact joinK_n comment_1226 rfl (weak_sel [] (by decide) rfl (by simp only [go_sem, reduceIte, Nat.reduceLT, Nat.reduceEqDiff, Nat.reduceAdd]) (by simp only [go_sem, reduceIte, Nat.reduceLT, Nat.reduceEqDiff, Nat.reduceAdd]))
      rintro comment_1232 rfl
      have h := hj_1235; clear hj_1235
      replace h := bind_some1 h; obtain ⟨t_1238, hv_1239, h⟩ := h
      refine run_textW hE [0, 1, 5, 6, 29] (fr' := [(0, .str s_1103), (1, .bool last_1104), (5, .bool comment_1232), (6, i64 i_1198), (29, .bool t_1238)]) (σ' := []) ?_ ?_
      · rcases Bool.eq_false_or_eq_true ((!comment_1232)) with hb_1240 | hb_1240
        · replace hv_1239 := ite_t hv_1239 hb_1240
          replace hv_1239 := chk_some hv_1239; obtain ⟨hc_1241, hv_1239⟩ := hv_1239
          replace hv_1239 := bind_some1 hv_1239; obtain ⟨y_1237, hy_1242, hv_1239⟩ := hv_1239
          have e_hv_1239 := Option.some.inj hv_1239; subst e_hv_1239
          exact ⟨_, [(0, .str s_1103), (1, .bool last_1104), (5, .bool comment_1232), (6, i64 i_1198), (29, .bool ((!y_1237)))], [], orcs_ok (l := [(27, 23, [u8 ((nth s_1103 i_1198.toNat))], .bool y_1237)]) ⟨r15_Blank_con  hy_1242, trivial⟩, by simp only [go_sem, reduceIte, Nat.reduceLT, Nat.reduceEqDiff, Nat.reduceAdd, Int.reduceToNat, hb_1240, hc_1241, hc_1241.2, lt_le hc_1241.2], (weak_sel [] (by decide) rfl (by simp only [go_sem, reduceIte, Nat.reduceLT, Nat.reduceEqDiff, Nat.reduceAdd]) (by simp only [go_sem, reduceIte, Nat.reduceLT, Nat.reduceEqDiff, Nat.reduceAdd]))⟩
        · replace hv_1239 := ite_f hv_1239 hb_1240
          have e_hv_1239 := Option.some.inj hv_1239; subst e_hv_1239
          exact ⟨_, [(0, .str s_1103), (1, .bool last_1104), (5, .bool comment_1232), (6, i64 i_1198), (29, .bool false)], [], orcs_nil, by simp only [go_sem, reduceIte, Nat.reduceLT, Nat.reduceEqDiff, Nat.reduceAdd, Int.reduceToNat, hb_1240], (weak_sel [] (by decide) rfl (by simp only [go_sem, reduceIte, Nat.reduceLT, Nat.reduceEqDiff, Nat.reduceAdd]) (by simp only [go_sem, reduceIte, Nat.reduceLT, Nat.reduceEqDiff, Nat.reduceAdd]))⟩
      refine run_condL (b := t_1238) rfl (by decide) (fun hb => ?_) (fun hb => ?_)
      · replace h := ite_t h hb
        refine run_textE hE [4] (fr' := [(4, .bool false)]) (σ' := []) ⟨_, orcs_nil, ?_⟩ ?_
        · simp only [go_sem, reduceIte, Nat.reduceLT, Nat.reduceEqDiff, Nat.reduceAdd]
        refine run_ret ?_
        refine blockK_r ?_
        refine thenK_r ?_
        refine lpK_r ?_
        replace h := bind_some1 h; obtain ⟨z_1244, h, e_z_1244⟩ := h
        obtain rfl := Option.some.inj e_z_1244
        have ex_z_1244 := hxx_1224 _ rfl
        subst ex_z_1244
        obtain rfl := Option.some.inj hj_1222
        refine blockK_r ?_
        refine joinK_r ?_
        replace h := bind_some1 h; obtain ⟨z_1243, h, e_z_1243⟩ := h
        obtain rfl := Option.some.inj e_z_1243
        obtain rfl := Option.some.inj hj_1176
        obtain rfl := Option.some.inj h
        refine ret_ok (.inr rfl) ?_
        simp only [go_sem, reduceIte, Nat.reduceLT, Nat.reduceEqDiff, Nat.reduceAdd]
      · replace h := ite_f h hb
        refine run_skip ?_
        refine blockK_n ?_
        refine thenK_n ?_
        refine run_textE0 hE wk_lp [0, 1, 5, 6] (fr' := [(0, .str s_1103), (1, .bool last_1104), (5, .bool comment_1232), (6, i64 ((w64 (i_1198 + 1))))]) (σ' := []) ⟨_, orcs_nil, ?_⟩ ?_
        · simp only [go_sem, reduceIte, Nat.reduceLT, Nat.reduceEqDiff, Nat.reduceAdd]
        obtain rfl := Option.some.inj h
        exact lpK_n ((comment_1232, (w64 (i_1198 + 1)))) rfl (weak_sel [] (by decide) rfl (by simp only [go_sem, reduceIte, Nat.reduceLT, Nat.reduceEqDiff, Nat.reduceAdd]) (by simp only [go_sem, reduceIte, Nat.reduceLT, Nat.reduceEqDiff, Nat.reduceAdd]))
    · replace h := ite_f h hb
      refine run_exit ?_
      refine thenK_x ?_
      obtain rfl := Option.some.inj h
      have ex_x_1220 := hxx_1224 _ rfl
      subst ex_x_1220
      have h := hj_1222; clear hj_1222
      refine lpK_x ?_
      refine blockK_x ?_
      obtain rfl := Option.some.inj h
      exact joinK_n comment_1197 rfl ((weak_sel (l' := [(1, .bool last_1104), (5, .bool comment_1197)]) (σ' := []) [] (by decide) rfl (by simp only [go_sem, reduceIte, Nat.reduceLT, Nat.reduceEqDiff, Nat.reduceAdd]) (by simp only [go_sem, reduceIte, Nat.reduceLT, Nat.reduceEqDiff, Nat.reduceAdd])).trans (weak_sel [] (by decide) rfl (by simp only [go_sem, reduceIte, Nat.reduceLT, Nat.reduceEqDiff, Nat.reduceAdd]) (by simp only [go_sem, reduceIte, Nat.reduceLT, Nat.reduceEqDiff, Nat.reduceAdd])))
  rintro comment_1173 rfl
  have h := hj_1176; clear hj_1176
  replace h := bind_some1 h; obtain ⟨t_1245, hv_1246, h⟩ := h
  refine run_textW hE [4] (fr' := [(4, .bool t_1245)]) (σ' := []) ?_ ?_
  · rcases Bool.eq_false_or_eq_true last_1104 with hb_1247 | hb_1247
    · replace hv_1246 := ite_t hv_1246 hb_1247
      have e_hv_1246 := Option.some.inj hv_1246; subst e_hv_1246
      exact ⟨_, [(4, .bool true)], [], orcs_nil, by simp only [go_sem, reduceIte, Nat.reduceLT, Nat.reduceEqDiff, Nat.reduceAdd, hb_1247], (weak_sel [] (by decide) rfl (by simp only [go_sem, reduceIte, Nat.reduceLT, Nat.reduceEqDiff, Nat.reduceAdd]) (by simp only [go_sem, reduceIte, Nat.reduceLT, Nat.reduceEqDiff, Nat.reduceAdd]))⟩
    · replace hv_1246 := ite_f hv_1246 hb_1247
      have e_hv_1246 := Option.some.inj hv_1246; subst e_hv_1246
      exact ⟨_, [(4, .bool ((!comment_1173)))], [], orcs_nil, by simp only [go_sem, reduceIte, Nat.reduceLT, Nat.reduceEqDiff, Nat.reduceAdd, hb_1247], (weak_sel [] (by decide) rfl (by simp only [go_sem, reduceIte, Nat.reduceLT, Nat.reduceEqDiff, Nat.reduceAdd]) (by simp only [go_sem, reduceIte, Nat.reduceLT, Nat.reduceEqDiff, Nat.reduceAdd]))⟩
  refine run_ret ?_
  obtain rfl := Option.some.inj h
  refine ret_ok (.inr rfl) ?_
  simp only [go_sem, reduceIte, Nat.reduceLT, Nat.reduceEqDiff, Nat.reduceAdd]

theorem strings_Join_con {xs : List (List UInt8)} {sep : List UInt8} {r : List UInt8} (h : strings_Join xs sep = some r) : Con (B rs) 25 [.sl false (L cStr xs), .str sep] [] (fun r' σ' => r' = .str r ∧ σ' = []) :=
  con_join h

end Go.Proofs.YtballlkeogmoiaaDoor
/-
  The functions compute just that.
-/
namespace Go.Proofs.YtballlkeogmoiaaDoor
open Go.Rv
set_option linter.unusedVariables false
set_option linter.unusedSimpArgs false
set_option maxRecDepth 20000
variable {rs : Nat → Nat}
set_option maxHeartbeats 4000000

theorem tlex_Text_con {l_1248 : List Api_Token} {r : List UInt8} (h : tlex_Text l_1248 = some r) : Con (B rs) 14 [.sl false (L cApi_Token l_1248)] [] (fun r' σ' => r' = .str r ∧ σ' = []) := by
  refine con_walk (N := 24) (rs := [.tmp 2]) ok Tryd.func14 rfl (by decide +kernel) rfl rfl (Nat.le_of_ble_eq_true rfl) (fun F => ?_)
  have hE := (ok (rs := rs)).env F
  unfold tlex_Text at h
  show Run ((B rs).env F) 0 _ ⟨asFr 24 [(0, .sl false (L cApi_Token l_1248))], []⟩ _
  refine run_textE hE [0] (fr' := [(0, .sl false (L cApi_Token l_1248))]) (σ' := []) ⟨_, orcs_nil, ?_⟩ ?_
  · simp only [go_sem, reduceIte, Nat.reduceLT, Nat.reduceEqDiff, Nat.reduceAdd]
  replace h := chk_some h; obtain ⟨hc_1249, h⟩ := h
  replace h := lt1_some h; obtain ⟨l_1250, hz_1251, h⟩ := h
  refine run_textE hE [0, 3] (fr' := [(0, .sl false (L cApi_Token l_1248)), (3, .bs true 0 (l_1250.length) 0 (l_1250.length))]) (σ' := [.buf 1 (L cStr l_1250) false]) ⟨_, orcs_nil, ?_⟩ ?_
  · subst hz_1251; simp only [go_sem, reduceIte, Nat.reduceLT, Nat.reduceEqDiff, Nat.reduceAdd, Nat.reduceBEq, Nat.reduceMul, Nat.reduceSub, Nat.reduceGT, Nat.reducePow, Nat.reduceLeDiff, Int.reduceToNat, hc_1249]
  replace h := bind_some1 h; obtain ⟨j_1289, hA_1290, hj_1291⟩ := h
  refine run_join (fun (v : List (List UInt8)) => (⟨asFr 24 [(3, .bs true 0 (v.length) 0 (v.length))], [.buf 1 (L cStr v) false]⟩ : St)) (fun v => v = j_1289) ?_ ?_
  · have h := hA_1290; clear hA_1290
    refine run_textE hE [3, 9, 10, 11] (fr' := [(3, .bs true 0 (l_1250.length) 0 (l_1250.length)), (9, .sl false (L cApi_Token l_1248)), (10, i64 ((l_1248.length : Int))), (11, i64 0)]) (σ' := [.buf 1 (L cStr l_1250) false]) ⟨_, orcs_nil, ?_⟩ ?_
    · simp only [go_sem, reduceIte, Nat.reduceLT, Nat.reduceEqDiff, Nat.reduceAdd]
    refine run_block ?_
    replace h := bind_some1 h; obtain ⟨x_1311, hx_1312, hj_1313⟩ := h
    refine run_loopO hx_1312 (fun (v : Int × List (List UInt8)) => (⟨asFr 24 [(3, .bs true 0 (v.2.length) 0 (v.2.length)), (9, .sl false (L cApi_Token l_1248)), (10, i64 ((l_1248.length : Int))), (11, i64 v.1)], [.buf 1 (L cStr v.2) false]⟩ : St)) (weak_sel [0] (by decide) rfl (by simp only [go_sem, reduceIte, Nat.reduceLT, Nat.reduceEqDiff, Nat.reduceAdd]) (by simp only [go_sem, reduceIte, Nat.reduceLT, Nat.reduceEqDiff, Nat.reduceAdd])) ?_
    rintro ⟨t_1296, l_1297⟩ o_1314 h hxx_1315
    replace h : tlex_Text_b1 l_1248 t_1296 l_1297 = some o_1314 := h
    unfold tlex_Text_b1 at h
    refine run_textE hE [3, 9, 10, 11, 12] (fr' := [(3, .bs true 0 (l_1297.length) 0 (l_1297.length)), (9, .sl false (L cApi_Token l_1248)), (10, i64 ((l_1248.length : Int))), (11, i64 t_1296), (12, .bool ((decide (t_1296 < (l_1248.length : Int)))))]) (σ' := [.buf 1 (L cStr l_1297) false]) ⟨_, orcs_nil, ?_⟩ ?_
    · simp only [go_sem, reduceIte, Nat.reduceLT, Nat.reduceEqDiff, Nat.reduceAdd]
    refine run_seq ?_
    refine run_condL (b := (decide (t_1296 < (l_1248.length : Int)))) rfl (by decide) (fun hb => ?_) (fun hb => ?_)
    · replace h := ite_t h hb
      refine run_skip ?_
      refine thenK_n ?_
      refine run_seq ?_
      refine run_block ?_
      replace h := chk_some h; obtain ⟨hc_1316, h⟩ := h
      replace h := lt1_some h; obtain ⟨f_1317, hz_1321, h⟩ := h
      replace h := lt1_some h; obtain ⟨f_1318, hz_1322, h⟩ := h
      replace h := lt1_some h; obtain ⟨f_1319, hz_1323, h⟩ := h
      replace h := lt1_some h; obtain ⟨f_1320, hz_1324, h⟩ := h
      refine run_textE hE [3, 4, 5, 9, 10, 11] (fr' := [(3, .bs true 0 (l_1297.length) 0 (l_1297.length)), (4, i64 t_1296), (5, .ref 1 0), (9, .sl false (L cApi_Token l_1248)), (10, i64 ((l_1248.length : Int))), (11, i64 t_1296)]) (σ' := [.buf 1 (L cStr l_1297) false, .box [i64 f_1317, .str f_1318, i64 f_1319, i64 f_1320] false]) ⟨_, orcs_nil, ?_⟩ ?_
      · subst hz_1324; subst hz_1323; subst hz_1322; subst hz_1321; simp only [go_sem, reduceIte, Nat.reduceLT, Nat.reduceEqDiff, Nat.reduceAdd, Int.reduceToNat, Nat.reduceLeDiff, hc_1316, hc_1316.2, lt_le hc_1316.2]
      replace h := chk_some h; obtain ⟨hc_1325, h⟩ := h
      replace h := lt1_some h; obtain ⟨l_1326, hz_1327, h⟩ := h
      refine run_textE0 hE (wk_block wk_then) [3, 9, 10, 11] (fr' := [(3, .bs true 0 (l_1326.length) 0 (l_1326.length)), (9, .sl false (L cApi_Token l_1248)), (10, i64 ((l_1248.length : Int))), (11, i64 t_1296)]) (σ' := [.buf 1 (L cStr l_1326) false, .box [i64 f_1317, .str f_1318, i64 f_1319, i64 f_1320] false]) ⟨_, orcs_nil, ?_⟩ ?_
      · subst hz_1327; simp only [go_sem, reduceIte, Nat.reduceLT, Nat.reduceEqDiff, Nat.reduceAdd, Int.reduceToNat, Nat.reduceLeDiff, hc_1325, hc_1325.2, lt_le hc_1325.2]
      refine blockK_n ?_
      refine thenK_n ?_
      refine run_textE0 hE wk_lp [3, 9, 10, 11] (fr' := [(3, .bs true 0 (l_1326.length) 0 (l_1326.length)), (9, .sl false (L cApi_Token l_1248)), (10, i64 ((l_1248.length : Int))), (11, i64 ((w64 (t_1296 + 1))))]) (σ' := [.buf 1 (L cStr l_1326) false, .box [i64 f_1317, .str f_1318, i64 f_1319, i64 f_1320] false]) ⟨_, orcs_nil, ?_⟩ ?_
      · simp only [go_sem, reduceIte, Nat.reduceLT, Nat.reduceEqDiff, Nat.reduceAdd]
      obtain rfl := Option.some.inj h
      exact lpK_n (((w64 (t_1296 + 1)), l_1326)) rfl (weak_sel [0] (by decide) rfl (by simp only [go_sem, reduceIte, Nat.reduceLT, Nat.reduceEqDiff, Nat.reduceAdd]) (by simp only [go_sem, reduceIte, Nat.reduceLT, Nat.reduceEqDiff, Nat.reduceAdd]))
    · replace h := ite_f h hb
      refine run_exit ?_
      refine thenK_x ?_
      obtain rfl := Option.some.inj h
      have ex_x_1311 := hxx_1315 _ rfl
      subst ex_x_1311
      have h := hj_1313; clear hj_1313
      refine lpK_x ?_
      refine blockK_x ?_
      obtain rfl := Option.some.inj h
      exact joinK_n l_1297 rfl ((weak_sel (l' := [(3, .bs true 0 (l_1297.length) 0 (l_1297.length))]) (σ' := [.buf 1 (L cStr l_1297) false]) [0] (by decide) rfl (by simp only [go_sem, reduceIte, Nat.reduceLT, Nat.reduceEqDiff, Nat.reduceAdd]) (by simp only [go_sem, reduceIte, Nat.reduceLT, Nat.reduceEqDiff, Nat.reduceAdd])).trans (weak_sel [0] (by decide) rfl (by simp only [go_sem, reduceIte, Nat.reduceLT, Nat.reduceEqDiff, Nat.reduceAdd]) (by simp only [go_sem, reduceIte, Nat.reduceLT, Nat.reduceEqDiff, Nat.reduceAdd])))
  rintro l_1288 rfl
  have h := hj_1291; clear hj_1291
  replace h := bind_some1 h; obtain ⟨y_1328, hy_1329, h⟩ := h
  refine run_textE hE [2] (fr' := [(2, .str y_1328)]) (σ' := [.buf 1 (L cStr l_1288) false]) ⟨_, orcs_ok (l := [(23, 25, [.sl false (L cStr l_1288), .str (([32] : List UInt8))], .str y_1328)]) ⟨strings_Join_con  hy_1329, trivial⟩, ?_⟩ ?_
  · simp only [go_sem, reduceIte, Nat.reduceLT, Nat.reduceEqDiff, Nat.reduceAdd]
  refine run_ret ?_
  obtain rfl := Option.some.inj h
  refine ret_ok (.inr rfl) ?_
  simp only [go_sem, reduceIte, Nat.reduceLT, Nat.reduceEqDiff, Nat.reduceAdd]

end Go.Proofs.YtballlkeogmoiaaDoor
