/-
  Types, and rules for the operations at them.
-/
import Derived.Test.YtneejmndnihaoaaProg
import Derived.Test.YtneejmndnihaoaaR26
namespace Go.Proofs.Ytneejmndnihaoaa
open Go.Rv
set_option linter.unusedVariables false
set_option linter.unusedSimpArgs false

noncomputable def B : Base := baseOwn Try.prog (fun _ => none) (fun f => [20, 25].contains f)
theorem ok : B.Ok := baseOwn_ok _ _ _
theorem own3 (F : Addr → Prop) : (B.env F).own 3 = false := rfl
attribute [go_sem] own3
theorem own4 (F : Addr → Prop) : (B.env F).own 4 = false := rfl
attribute [go_sem] own4
theorem own9 (F : Addr → Prop) : (B.env F).own 9 = false := rfl
attribute [go_sem] own9
theorem own10 (F : Addr → Prop) : (B.env F).own 10 = false := rfl
attribute [go_sem] own10
theorem own11 (F : Addr → Prop) : (B.env F).own 11 = false := rfl
attribute [go_sem] own11
theorem own12 (F : Addr → Prop) : (B.env F).own 12 = false := rfl
attribute [go_sem] own12
theorem own13 (F : Addr → Prop) : (B.env F).own 13 = false := rfl
attribute [go_sem] own13
theorem own14 (F : Addr → Prop) : (B.env F).own 14 = false := rfl
attribute [go_sem] own14
theorem own15 (F : Addr → Prop) : (B.env F).own 15 = false := rfl
attribute [go_sem] own15
theorem own16 (F : Addr → Prop) : (B.env F).own 16 = false := rfl
attribute [go_sem] own16
theorem own17 (F : Addr → Prop) : (B.env F).own 17 = false := rfl
attribute [go_sem] own17
theorem own18 (F : Addr → Prop) : (B.env F).own 18 = false := rfl
attribute [go_sem] own18
theorem own19 (F : Addr → Prop) : (B.env F).own 19 = false := rfl
attribute [go_sem] own19
theorem own20 (F : Addr → Prop) : (B.env F).own 20 = true := rfl
attribute [go_sem] own20
theorem own21 (F : Addr → Prop) : (B.env F).own 21 = false := rfl
attribute [go_sem] own21
theorem own22 (F : Addr → Prop) : (B.env F).own 22 = false := rfl
attribute [go_sem] own22
theorem own23 (F : Addr → Prop) : (B.env F).own 23 = false := rfl
attribute [go_sem] own23
theorem own24 (F : Addr → Prop) : (B.env F).own 24 = false := rfl
attribute [go_sem] own24
theorem own25 (F : Addr → Prop) : (B.env F).own 25 = true := rfl
attribute [go_sem] own25
theorem own26 (F : Addr → Prop) : (B.env F).own 26 = false := rfl
attribute [go_sem] own26
theorem own27 (F : Addr → Prop) : (B.env F).own 27 = false := rfl
attribute [go_sem] own27
theorem mixed : Try.prog.follows .mixedOrders = true := by kernel_rfl

theorem tt3 : tabOf Try.prog 3 = some ⟨.int .i64, 1, 8, [i64 0]⟩ := by kernel_rfl
theorem tb3 (F : Addr → Prop) : (B.env F).tab 3 = some ⟨.int .i64, 1, 8, [i64 0]⟩ := tt3
attribute [go_sem] tb3
theorem tt4 : tabOf Try.prog 4 = some ⟨.bool, 1, 1, [.bool false]⟩ := by kernel_rfl
theorem tb4 (F : Addr → Prop) : (B.env F).tab 4 = some ⟨.bool, 1, 1, [.bool false]⟩ := tt4
attribute [go_sem] tb4
theorem tt5 : tabOf Try.prog 5 = some ⟨.int .u8, 1, 1, [u8 ((0 : UInt8))]⟩ := by kernel_rfl
theorem tb5 (F : Addr → Prop) : (B.env F).tab 5 = some ⟨.int .u8, 1, 1, [u8 ((0 : UInt8))]⟩ := tt5
attribute [go_sem] tb5
theorem tt9 : tabOf Try.prog 9 = some ⟨.string, 1, 16, [.str (([] : List UInt8))]⟩ := by kernel_rfl
theorem tb9 (F : Addr → Prop) : (B.env F).tab 9 = some ⟨.string, 1, 16, [.str (([] : List UInt8))]⟩ := tt9
attribute [go_sem] tb9
theorem tt22 : tabOf Try.prog 22 = some ⟨.slice 5, 1, 24, [.sl true (L cU8 ([]))]⟩ := by kernel_rfl
theorem tb22 (F : Addr → Prop) : (B.env F).tab 22 = some ⟨.slice 5, 1, 24, [.sl true (L cU8 ([]))]⟩ := tt22
attribute [go_sem] tb22
theorem tt24 : tabOf Try.prog 24 = some ⟨.int .i64, 1, 8, [i64 0]⟩ := by kernel_rfl
theorem tb24 (F : Addr → Prop) : (B.env F).tab 24 = some ⟨.int .i64, 1, 8, [i64 0]⟩ := tt24
attribute [go_sem] tb24
theorem tt27 : tabOf Try.prog 27 = some ⟨.int .u32, 1, 4, [u32 ((0 : UInt32))]⟩ := by kernel_rfl
theorem tb27 (F : Addr → Prop) : (B.env F).tab 27 = some ⟨.int .u32, 1, 4, [u32 ((0 : UInt32))]⟩ := tt27
attribute [go_sem] tb27
theorem tt31 : tabOf Try.prog 31 = some ⟨.struct #[⟨"Rest", 22, 0, false, "", "", 0⟩, ⟨"In", 4, 1, false, "", "", 24⟩, ⟨"Escape", 4, 2, false, "", "", 25⟩, ⟨"Bad", 4, 3, false, "", "", 26⟩], 4, 32, [.sl true (L cU8 ([])), .bool false, .bool false, .bool false]⟩ := by kernel_rfl
theorem tb31 (F : Addr → Prop) : (B.env F).tab 31 = some ⟨.struct #[⟨"Rest", 22, 0, false, "", "", 0⟩, ⟨"In", 4, 1, false, "", "", 24⟩, ⟨"Escape", 4, 2, false, "", "", 25⟩, ⟨"Bad", 4, 3, false, "", "", 26⟩], 4, 32, [.sl true (L cU8 ([])), .bool false, .bool false, .bool false]⟩ := tt31
attribute [go_sem] tb31
theorem tt32 : tabOf Try.prog 32 = some ⟨.slice 22, 1, 24, [.sl true (L (cSl cU8) ([]))]⟩ := by kernel_rfl
theorem tb32 (F : Addr → Prop) : (B.env F).tab 32 = some ⟨.slice 22, 1, 24, [.sl true (L (cSl cU8) ([]))]⟩ := tt32
attribute [go_sem] tb32
theorem tt42 : tabOf Try.prog 42 = some ⟨.array 4 5, 4, 4, (C1 u8 ((Arr.rep 4 (0 : UInt8))).l)⟩ := by kernel_rfl
theorem tb42 (F : Addr → Prop) : (B.env F).tab 42 = some ⟨.array 4 5, 4, 4, (C1 u8 ((Arr.rep 4 (0 : UInt8))).l)⟩ := tt42
attribute [go_sem] tb42
theorem tt46 : tabOf Try.prog 46 = some ⟨.array 16 27, 16, 64, (C1 u32 ((Arr.rep 16 (0 : UInt32))).l)⟩ := by kernel_rfl
theorem tb46 (F : Addr → Prop) : (B.env F).tab 46 = some ⟨.array 16 27, 16, 64, (C1 u32 ((Arr.rep 16 (0 : UInt32))).l)⟩ := tt46
attribute [go_sem] tb46
structure Api_Deframer where
  Rest : List UInt8
  In : Bool
  Escape : Bool
  Bad : Bool
  deriving DecidableEq, Inhabited
def cApi_Deframer (x : Api_Deframer) : List AV := [.sl false (L cU8 x.Rest), .bool x.In, .bool x.Escape, .bool x.Bad]
attribute [go_sem] cApi_Deframer
theorem ku32x0 : AV.int .u32 0 = u32 0 := rfl
attribute [go_sem] ku32x0
theorem ku32x1 : AV.int .u32 1 = u32 1 := rfl
attribute [go_sem] ku32x1
theorem ku32x2 : AV.int .u32 2 = u32 2 := rfl
attribute [go_sem] ku32x2
theorem ku32x15 : AV.int .u32 15 = u32 15 := rfl
attribute [go_sem] ku32x15
theorem ku32x3421780262 : AV.int .u32 3421780262 = u32 3421780262 := rfl
attribute [go_sem] ku32x3421780262
theorem ku32x3988292384 : AV.int .u32 3988292384 = u32 3988292384 := rfl
attribute [go_sem] ku32x3988292384
theorem ku32x4294967295 : AV.int .u32 4294967295 = u32 4294967295 := rfl
attribute [go_sem] ku32x4294967295
theorem ku64x1 : AV.int .u64 1 = u64 1 := rfl
attribute [go_sem] ku64x1
theorem ku64x4 : AV.int .u64 4 = u64 4 := rfl
attribute [go_sem] ku64x4
theorem ku64x8 : AV.int .u64 8 = u64 8 := rfl
attribute [go_sem] ku64x8
theorem ku64x16 : AV.int .u64 16 = u64 16 := rfl
attribute [go_sem] ku64x16
theorem ku64x24 : AV.int .u64 24 = u64 24 := rfl
attribute [go_sem] ku64x24
theorem ku8x0 : AV.int .u8 0 = u8 0 := rfl
attribute [go_sem] ku8x0
theorem ku8x1 : AV.int .u8 1 = u8 1 := rfl
attribute [go_sem] ku8x1
theorem ku8x2 : AV.int .u8 2 = u8 2 := rfl
attribute [go_sem] ku8x2
theorem ku8x32 : AV.int .u8 32 = u8 32 := rfl
attribute [go_sem] ku8x32
theorem ku8x49 : AV.int .u8 49 = u8 49 := rfl
attribute [go_sem] ku8x49
theorem ku8x50 : AV.int .u8 50 = u8 50 := rfl
attribute [go_sem] ku8x50
theorem ku8x51 : AV.int .u8 51 = u8 51 := rfl
attribute [go_sem] ku8x51
theorem ku8x52 : AV.int .u8 52 = u8 52 := rfl
attribute [go_sem] ku8x52
theorem ku8x53 : AV.int .u8 53 = u8 53 := rfl
attribute [go_sem] ku8x53
theorem ku8x54 : AV.int .u8 54 = u8 54 := rfl
attribute [go_sem] ku8x54
theorem ku8x55 : AV.int .u8 55 = u8 55 := rfl
attribute [go_sem] ku8x55
theorem ku8x56 : AV.int .u8 56 = u8 56 := rfl
attribute [go_sem] ku8x56
theorem ku8x57 : AV.int .u8 57 = u8 57 := rfl
attribute [go_sem] ku8x57
theorem ku8x125 : AV.int .u8 125 = u8 125 := rfl
attribute [go_sem] ku8x125
theorem ku8x126 : AV.int .u8 126 = u8 126 := rfl
attribute [go_sem] ku8x126
theorem ixar46 {F} {σ : Store} (id off : Nat) (x : AV) : indexAddrA (B.env F) σ 46 (.ref id off) x = match idx x 16 with
    | some i => some (.ref id (off + i * 1))
    | none => none := ixA_arr (tb46 F) (tb27 F) id off x
attribute [go_sem] ixar46
theorem ixsl22 {F} {σ : Store} (f : Bool) (l : List UInt8) (x : AV) : indexAddrA (B.env F) σ 22 (.sl f (L cU8 l)) x = match idx x l.length with
    | some i => some (.rp (cU8 (nth l i)))
    | none => none := ixA_sl cU8 (tb22 F) (tb5 F) (fun _ => rfl) f l x
attribute [go_sem] ixsl22
theorem app22x22 {F} {σ : Store} (s x : AV) : builtinA (B.env F) σ .append [22, 22] [s, x] = match view σ x with
      | some new => if strBad x 1 = true then none else if ∀ cs ∈ new, cs.length = 1 then (match s with
          | .sl full els =>
            if els = [] ∧ full = true then
              if Fits new.length 1 then some (.bs false σ.length new.length 0 new.length, σ ++ [.buf 1 new false]) else none
            else if new = [] then some (.sl full els, σ)
            else if full = true ∧ (∀ cs ∈ els, cs.length = 1) ∧ Fits (els.length + new.length) 1
            then some (.bs false σ.length (els.length + new.length) 0 (els.length + new.length), σ ++ [.buf 1 (els ++ new) false]) else none
          | .bs full id tot off len => match σ[id]? with
            | some (.buf k els ro) =>
              if els.length = tot ∧ k = 1 ∧ Fits (len + new.length) 1 then
                if off = 0 ∧ len = tot then some (.bs false id (tot + new.length) 0 (tot + new.length), σ.set id (.buf k (els ++ new) ro))
                else if new = [] then some (.bs full id tot off len, σ)
                else if full then some (.bs false σ.length (len + new.length) 0 (len + new.length), σ ++ [.buf k ((els.drop off).take len ++ new) false])
                else none
              else none
            | _ => none
          | _ => none)
        else none
      | none => none := append_eq (tb22 F) (tb5 F) (by decide) (tb22 F) (.inl ⟨_, rfl⟩) s x []
attribute [go_sem] app22x22
theorem mks22 {F} {σ : Store} (l c : Int) : makeSliceA (B.env F) σ 22 (i64 l) (i64 c) = if Mk l c 1 then some (.bs (l == c) σ.length l.toNat 0 l.toNat, σ ++ [.buf 1 (List.replicate l.toNat [u8 ((0 : UInt8))]) false]) else none := make_eq (tb22 F) (tb5 F) (by decide) l c
attribute [go_sem] mks22
theorem ixbs22 {F} {σ : Store} (f : Bool) (id tot off len : Nat) (x : AV) : indexAddrA (B.env F) σ 22 (.bs f id tot off len) x = match σ[id]?, idx x len with
    | some (.buf k els _), some i => if els.length = tot ∧ k = 1 then some (.eref id tot (off + i) 0) else none
    | _, _ => none := ixA_bs (tb22 F) (tb5 F) (by decide) f id tot off len x
attribute [go_sem] ixbs22
theorem ixbs32 {F} {σ : Store} (f : Bool) (id tot off len : Nat) (x : AV) : indexAddrA (B.env F) σ 32 (.bs f id tot off len) x = match σ[id]?, idx x len with
    | some (.buf k els _), some i => if els.length = tot ∧ k = 1 then some (.eref id tot (off + i) 0) else none
    | _, _ => none := ixA_bs (tb32 F) (tb22 F) (by decide) f id tot off len x
attribute [go_sem] ixbs32
theorem bbeql4 {F} (x y : Bool) : binOpA (B.env F) .eql 4 (.bool x) (.bool y) = some (.bool (x == y)) := bin_bool_eql (tb4 F) x y
attribute [go_sem] bbeql4
theorem ixsl32 {F} {σ : Store} (f : Bool) (l : List (List UInt8)) (x : AV) : indexAddrA (B.env F) σ 32 (.sl f (L (cSl cU8) l)) x = match idx x l.length with
    | some i => some (.rp ((cSl cU8) (nth l i)))
    | none => none := ixA_sl (cSl cU8) (tb32 F) (tb22 F) (fun _ => rfl) f l x
attribute [go_sem] ixsl32
theorem app32x32 {F} {σ : Store} (s x : AV) : builtinA (B.env F) σ .append [32, 32] [s, x] = match view σ x with
      | some new => if strBad x 1 = true then none else if ∀ cs ∈ new, cs.length = 1 then (match s with
          | .sl full els =>
            if els = [] ∧ full = true then
              if Fits new.length 24 then some (.bs false σ.length new.length 0 new.length, σ ++ [.buf 1 new false]) else none
            else if new = [] then some (.sl full els, σ)
            else if full = true ∧ (∀ cs ∈ els, cs.length = 1) ∧ Fits (els.length + new.length) 24
            then some (.bs false σ.length (els.length + new.length) 0 (els.length + new.length), σ ++ [.buf 1 (els ++ new) false]) else none
          | .bs full id tot off len => match σ[id]? with
            | some (.buf k els ro) =>
              if els.length = tot ∧ k = 1 ∧ Fits (len + new.length) 24 then
                if off = 0 ∧ len = tot then some (.bs false id (tot + new.length) 0 (tot + new.length), σ.set id (.buf k (els ++ new) ro))
                else if new = [] then some (.bs full id tot off len, σ)
                else if full then some (.bs false σ.length (len + new.length) 0 (len + new.length), σ ++ [.buf k ((els.drop off).take len ++ new) false])
                else none
              else none
            | _ => none
          | _ => none)
        else none
      | none => none := append_eq (tb32 F) (tb22 F) (by decide) (tb32 F) (.inl ⟨_, rfl⟩) s x []
attribute [go_sem] app32x32
theorem ixar42 {F} {σ : Store} (id off : Nat) (x : AV) : indexAddrA (B.env F) σ 42 (.ref id off) x = match idx x 4 with
    | some i => some (.ref id (off + i * 1))
    | none => none := ixA_arr (tb42 F) (tb5 F) id off x
attribute [go_sem] ixar42
end Go.Proofs.Ytneejmndnihaoaa
