/-
  The library and the walks, part 1.
-/
import Derived.Test.YtihncddenjbecaaProg
import Derived.Test.YtihncddenjbecaaR35
import Derived.KernelRfl
/-
  Types, and rules for the operations at them.
-/
namespace Go.Proofs.Ytihncddenjbecaa
open Go.Rv
set_option linter.unusedVariables false
set_option linter.unusedSimpArgs false
set_option maxRecDepth 20000

noncomputable def B : Base := baseOwn Try.prog (fun _ => none) (fun f => [26, 35, 42, 43, 45, 49, 50].contains f)
theorem ok : B.Ok := baseOwn_ok _ _ _
theorem own3 (F : Addr → Prop) : (B.env F).own 3 = false := rfl
attribute [go_sem] own3
theorem own4 (F : Addr → Prop) : (B.env F).own 4 = false := rfl
attribute [go_sem] own4
theorem own5 (F : Addr → Prop) : (B.env F).own 5 = false := rfl
attribute [go_sem] own5
theorem own6 (F : Addr → Prop) : (B.env F).own 6 = false := rfl
attribute [go_sem] own6
theorem own7 (F : Addr → Prop) : (B.env F).own 7 = false := rfl
attribute [go_sem] own7
theorem own8 (F : Addr → Prop) : (B.env F).own 8 = false := rfl
attribute [go_sem] own8
theorem own9 (F : Addr → Prop) : (B.env F).own 9 = false := rfl
attribute [go_sem] own9
theorem own10 (F : Addr → Prop) : (B.env F).own 10 = false := rfl
attribute [go_sem] own10
theorem own11 (F : Addr → Prop) : (B.env F).own 11 = false := rfl
attribute [go_sem] own11
theorem own12 (F : Addr → Prop) : (B.env F).own 12 = false := rfl
attribute [go_sem] own12
theorem own13 (F : Addr → Prop) : (B.env F).own 13 = false := rfl
attribute [go_sem] own13
theorem own14 (F : Addr → Prop) : (B.env F).own 14 = false := rfl
attribute [go_sem] own14
theorem own15 (F : Addr → Prop) : (B.env F).own 15 = false := rfl
attribute [go_sem] own15
theorem own16 (F : Addr → Prop) : (B.env F).own 16 = false := rfl
attribute [go_sem] own16
theorem own17 (F : Addr → Prop) : (B.env F).own 17 = false := rfl
attribute [go_sem] own17
theorem own18 (F : Addr → Prop) : (B.env F).own 18 = false := rfl
attribute [go_sem] own18
theorem own19 (F : Addr → Prop) : (B.env F).own 19 = false := rfl
attribute [go_sem] own19
theorem own20 (F : Addr → Prop) : (B.env F).own 20 = false := rfl
attribute [go_sem] own20
theorem own21 (F : Addr → Prop) : (B.env F).own 21 = false := rfl
attribute [go_sem] own21
theorem own22 (F : Addr → Prop) : (B.env F).own 22 = false := rfl
attribute [go_sem] own22
theorem own23 (F : Addr → Prop) : (B.env F).own 23 = false := rfl
attribute [go_sem] own23
theorem own24 (F : Addr → Prop) : (B.env F).own 24 = false := rfl
attribute [go_sem] own24
theorem own25 (F : Addr → Prop) : (B.env F).own 25 = false := rfl
attribute [go_sem] own25
theorem own26 (F : Addr → Prop) : (B.env F).own 26 = true := rfl
attribute [go_sem] own26
theorem own27 (F : Addr → Prop) : (B.env F).own 27 = false := rfl
attribute [go_sem] own27
theorem own28 (F : Addr → Prop) : (B.env F).own 28 = false := rfl
attribute [go_sem] own28
theorem own29 (F : Addr → Prop) : (B.env F).own 29 = false := rfl
attribute [go_sem] own29
theorem own30 (F : Addr → Prop) : (B.env F).own 30 = false := rfl
attribute [go_sem] own30
theorem own31 (F : Addr → Prop) : (B.env F).own 31 = false := rfl
attribute [go_sem] own31
theorem own32 (F : Addr → Prop) : (B.env F).own 32 = false := rfl
attribute [go_sem] own32
theorem own33 (F : Addr → Prop) : (B.env F).own 33 = false := rfl
attribute [go_sem] own33
theorem own34 (F : Addr → Prop) : (B.env F).own 34 = false := rfl
attribute [go_sem] own34
theorem own35 (F : Addr → Prop) : (B.env F).own 35 = true := rfl
attribute [go_sem] own35
theorem own36 (F : Addr → Prop) : (B.env F).own 36 = false := rfl
attribute [go_sem] own36
theorem own37 (F : Addr → Prop) : (B.env F).own 37 = false := rfl
attribute [go_sem] own37
theorem own38 (F : Addr → Prop) : (B.env F).own 38 = false := rfl
attribute [go_sem] own38
theorem own39 (F : Addr → Prop) : (B.env F).own 39 = false := rfl
attribute [go_sem] own39
theorem own40 (F : Addr → Prop) : (B.env F).own 40 = false := rfl
attribute [go_sem] own40
theorem own42 (F : Addr → Prop) : (B.env F).own 42 = true := rfl
attribute [go_sem] own42
theorem own43 (F : Addr → Prop) : (B.env F).own 43 = true := rfl
attribute [go_sem] own43
theorem own44 (F : Addr → Prop) : (B.env F).own 44 = false := rfl
attribute [go_sem] own44
theorem own45 (F : Addr → Prop) : (B.env F).own 45 = true := rfl
attribute [go_sem] own45
theorem own46 (F : Addr → Prop) : (B.env F).own 46 = false := rfl
attribute [go_sem] own46
theorem own47 (F : Addr → Prop) : (B.env F).own 47 = false := rfl
attribute [go_sem] own47
theorem own48 (F : Addr → Prop) : (B.env F).own 48 = false := rfl
attribute [go_sem] own48
theorem own49 (F : Addr → Prop) : (B.env F).own 49 = true := rfl
attribute [go_sem] own49
theorem own50 (F : Addr → Prop) : (B.env F).own 50 = true := rfl
attribute [go_sem] own50
theorem own51 (F : Addr → Prop) : (B.env F).own 51 = false := rfl
attribute [go_sem] own51
theorem own52 (F : Addr → Prop) : (B.env F).own 52 = false := rfl
attribute [go_sem] own52
theorem own53 (F : Addr → Prop) : (B.env F).own 53 = false := rfl
attribute [go_sem] own53
theorem own54 (F : Addr → Prop) : (B.env F).own 54 = false := rfl
attribute [go_sem] own54
theorem own55 (F : Addr → Prop) : (B.env F).own 55 = false := rfl
attribute [go_sem] own55
theorem mixed : Try.prog.follows .mixedOrders = true := by kernel_rfl

inductive Api_Value where
  | mk (Kind : Int) (N : Int) (B : List UInt8) (L : List Api_Value)
instance : Inhabited Api_Value := ⟨.mk default default default default⟩
def Api_Value.Kind (x : Api_Value) : Int := match x with
  | .mk a _ _ _ => a
theorem Api_Value_Kind {x0 : Int} {x1 : Int} {x2 : List UInt8} {x3 : List Api_Value} : (Api_Value.mk x0 x1 x2 x3).Kind = x0 := rfl
attribute [go_sem] Api_Value_Kind
def Api_Value.N (x : Api_Value) : Int := match x with
  | .mk _ a _ _ => a
theorem Api_Value_N {x0 : Int} {x1 : Int} {x2 : List UInt8} {x3 : List Api_Value} : (Api_Value.mk x0 x1 x2 x3).N = x1 := rfl
attribute [go_sem] Api_Value_N
def Api_Value.B (x : Api_Value) : List UInt8 := match x with
  | .mk _ _ a _ => a
theorem Api_Value_B {x0 : Int} {x1 : Int} {x2 : List UInt8} {x3 : List Api_Value} : (Api_Value.mk x0 x1 x2 x3).B = x2 := rfl
attribute [go_sem] Api_Value_B
def Api_Value.L (x : Api_Value) : List Api_Value := match x with
  | .mk _ _ _ a => a
theorem Api_Value_L {x0 : Int} {x1 : Int} {x2 : List UInt8} {x3 : List Api_Value} : (Api_Value.mk x0 x1 x2 x3).L = x3 := rfl
attribute [go_sem] Api_Value_L
noncomputable def cApi_Value (v : Api_Value) : List AV := Api_Value.rec (motive_1 := fun _ => List AV) (motive_2 := fun _ => List (List AV)) (fun Kind_ N_ B_ L_ ih3 => [i64 Kind_, i64 N_, .sl false (L cU8 B_), .sl false ih3]) [] (fun _ _ x l => x :: l) v
theorem cApi_Value_l (l : List Api_Value) : Api_Value.rec_1 (motive_1 := fun _ => List AV) (motive_2 := fun _ => List (List AV)) (fun Kind_ N_ B_ L_ ih3 => [i64 Kind_, i64 N_, .sl false (L cU8 B_), .sl false ih3]) [] (fun _ _ x l => x :: l) l = L cApi_Value l := by
  induction l with
  | nil => rfl
  | cons x l ih => exact congrArg (cApi_Value x :: ·) ih
theorem cApi_Value_eq (x : Api_Value) : cApi_Value x = [i64 x.Kind, i64 x.N, .sl false (L cU8 x.B), .sl false (L cApi_Value x.L)] := by
  cases x with
  | mk a0 a1 a2 a3 =>
    show [i64 a0, i64 a1, .sl false (L cU8 a2), .sl false (Api_Value.rec_1 (motive_1 := fun _ => List AV) (motive_2 := fun _ => List (List AV)) (fun Kind_ N_ B_ L_ ih3 => [i64 Kind_, i64 N_, .sl false (L cU8 B_), .sl false ih3]) [] (fun _ _ x l => x :: l) a3)] = _
    rw [cApi_Value_l]; rfl
attribute [go_sem] cApi_Value_eq
structure Codec_decoder where
  b : List UInt8
  deriving DecidableEq, Inhabited
def cCodec_decoder (x : Codec_decoder) : List AV := [.sl false (L cU8 x.b)]
attribute [go_sem] cCodec_decoder
theorem tt3 : tabOf Try.prog 3 = some ⟨.int .i64, 1, 8, [i64 0]⟩ := by kernel_rfl
theorem tb3 (F : Addr → Prop) : (B.env F).tab 3 = some ⟨.int .i64, 1, 8, [i64 0]⟩ := tt3
attribute [go_sem] tb3
theorem tt4 : tabOf Try.prog 4 = some ⟨.bool, 1, 1, [.bool false]⟩ := by kernel_rfl
theorem tb4 (F : Addr → Prop) : (B.env F).tab 4 = some ⟨.bool, 1, 1, [.bool false]⟩ := tt4
attribute [go_sem] tb4
theorem tt5 : tabOf Try.prog 5 = some ⟨.int .u8, 1, 1, [u8 ((0 : UInt8))]⟩ := by kernel_rfl
theorem tb5 (F : Addr → Prop) : (B.env F).tab 5 = some ⟨.int .u8, 1, 1, [u8 ((0 : UInt8))]⟩ := tt5
attribute [go_sem] tb5
theorem tt9 : tabOf Try.prog 9 = some ⟨.string, 1, 16, [.str (([] : List UInt8))]⟩ := by kernel_rfl
theorem tb9 (F : Addr → Prop) : (B.env F).tab 9 = some ⟨.string, 1, 16, [.str (([] : List UInt8))]⟩ := tt9
attribute [go_sem] tb9
theorem tt22 : tabOf Try.prog 22 = some ⟨.slice 5, 1, 24, [.sl true (L cU8 ([]))]⟩ := by kernel_rfl
theorem tb22 (F : Addr → Prop) : (B.env F).tab 22 = some ⟨.slice 5, 1, 24, [.sl true (L cU8 ([]))]⟩ := tt22
attribute [go_sem] tb22
theorem tt23 : tabOf Try.prog 23 = some ⟨.slice 25, 1, 24, [.sl true (L cApi_Value ([]))]⟩ := by kernel_rfl
theorem tb23 (F : Addr → Prop) : (B.env F).tab 23 = some ⟨.slice 25, 1, 24, [.sl true (L cApi_Value ([]))]⟩ := tt23
attribute [go_sem] tb23
theorem tt25 : tabOf Try.prog 25 = some ⟨.struct #[⟨"Kind", 3, 0, false, "", "", 0⟩, ⟨"N", 3, 1, false, "", "", 8⟩, ⟨"B", 22, 2, false, "", "", 16⟩, ⟨"L", 23, 3, false, "", "", 40⟩], 4, 64, [i64 0, i64 0, .sl true (L cU8 ([])), .sl true (L cApi_Value ([]))]⟩ := by kernel_rfl
theorem tb25 (F : Addr → Prop) : (B.env F).tab 25 = some ⟨.struct #[⟨"Kind", 3, 0, false, "", "", 0⟩, ⟨"N", 3, 1, false, "", "", 8⟩, ⟨"B", 22, 2, false, "", "", 16⟩, ⟨"L", 23, 3, false, "", "", 40⟩], 4, 64, [i64 0, i64 0, .sl true (L cU8 ([])), .sl true (L cApi_Value ([]))]⟩ := tt25
attribute [go_sem] tb25
theorem tt27 : tabOf Try.prog 27 = some ⟨.int .i64, 1, 8, [i64 0]⟩ := by kernel_rfl
theorem tb27 (F : Addr → Prop) : (B.env F).tab 27 = some ⟨.int .i64, 1, 8, [i64 0]⟩ := tt27
attribute [go_sem] tb27
theorem tt57 : tabOf Try.prog 57 = some ⟨.int .i64, 1, 8, [i64 0]⟩ := by kernel_rfl
theorem tb57 (F : Addr → Prop) : (B.env F).tab 57 = some ⟨.int .i64, 1, 8, [i64 0]⟩ := tt57
attribute [go_sem] tb57
theorem tt61 : tabOf Try.prog 61 = some ⟨.struct #[⟨"b", 22, 0, false, "", "wagonpool/codec", 0⟩], 1, 24, [.sl true (L cU8 ([]))]⟩ := by kernel_rfl
theorem tb61 (F : Addr → Prop) : (B.env F).tab 61 = some ⟨.struct #[⟨"b", 22, 0, false, "", "wagonpool/codec", 0⟩], 1, 24, [.sl true (L cU8 ([]))]⟩ := tt61
attribute [go_sem] tb61
theorem tt72 : tabOf Try.prog 72 = some ⟨.int .u64, 1, 8, [u64 ((0 : UInt64))]⟩ := by kernel_rfl
theorem tb72 (F : Addr → Prop) : (B.env F).tab 72 = some ⟨.int .u64, 1, 8, [u64 ((0 : UInt64))]⟩ := tt72
attribute [go_sem] tb72
theorem ku64x0 : AV.int .u64 0 = u64 0 := rfl
attribute [go_sem] ku64x0
theorem ku64x8 : AV.int .u64 8 = u64 8 := rfl
attribute [go_sem] ku64x8
theorem ku8x0 : AV.int .u8 0 = u8 0 := rfl
attribute [go_sem] ku8x0
theorem ku8x23 : AV.int .u8 23 = u8 23 := rfl
attribute [go_sem] ku8x23
theorem ku8x31 : AV.int .u8 31 = u8 31 := rfl
attribute [go_sem] ku8x31
theorem ku8x32 : AV.int .u8 32 = u8 32 := rfl
attribute [go_sem] ku8x32
theorem ku8x40 : AV.int .u8 40 = u8 40 := rfl
attribute [go_sem] ku8x40
theorem ku8x48 : AV.int .u8 48 = u8 48 := rfl
attribute [go_sem] ku8x48
theorem ku8x64 : AV.int .u8 64 = u8 64 := rfl
attribute [go_sem] ku8x64
theorem ku8x120 : AV.int .u8 120 = u8 120 := rfl
attribute [go_sem] ku8x120
theorem ku8x127 : AV.int .u8 127 = u8 127 := rfl
attribute [go_sem] ku8x127
theorem ku8x255 : AV.int .u8 255 = u8 255 := rfl
attribute [go_sem] ku8x255
theorem ixsl23 {F} {σ : Store} (f : Bool) (l : List Api_Value) (x : AV) : indexAddrA (B.env F) σ 23 (.sl f (L cApi_Value l)) x = match idx x l.length with
    | some i => some (.rp (cApi_Value (nth l i)))
    | none => none := ixA_sl cApi_Value (tb23 F) (tb25 F) (fun y => by rw [cApi_Value_eq]; rfl) f l x
attribute [go_sem] ixsl23
theorem app22x22 {F} {σ : Store} (s x : AV) : builtinA (B.env F) σ .append [22, 22] [s, x] = match view σ x with
      | some new => if strBad x 1 = true then none else if ∀ cs ∈ new, cs.length = 1 then (match s with
          | .sl full els =>
            if els = [] ∧ full = true then
              if Fits new.length 1 then some (.bs false σ.length new.length 0 new.length, σ ++ [.buf 1 new false]) else none
            else if new = [] then some (.sl full els, σ)
            else if full = true ∧ (∀ cs ∈ els, cs.length = 1) ∧ Fits (els.length + new.length) 1
            then some (.bs false σ.length (els.length + new.length) 0 (els.length + new.length), σ ++ [.buf 1 (els ++ new) false]) else none
          | .bs full id tot off len => match σ[id]? with
            | some (.buf k els ro) =>
              if els.length = tot ∧ k = 1 ∧ Fits (len + new.length) 1 then
                if off = 0 ∧ len = tot then some (.bs false id (tot + new.length) 0 (tot + new.length), σ.set id (.buf k (els ++ new) ro))
                else if new = [] then some (.bs full id tot off len, σ)
                else if full then some (.bs false σ.length (len + new.length) 0 (len + new.length), σ ++ [.buf k ((els.drop off).take len ++ new) false])
                else none
              else none
            | _ => none
          | _ => none)
        else none
      | none => none := append_eq (tb22 F) (tb5 F) (by decide) (tb22 F) (.inl ⟨_, rfl⟩) s x []
attribute [go_sem] app22x22
theorem ixsl22 {F} {σ : Store} (f : Bool) (l : List UInt8) (x : AV) : indexAddrA (B.env F) σ 22 (.sl f (L cU8 l)) x = match idx x l.length with
    | some i => some (.rp (cU8 (nth l i)))
    | none => none := ixA_sl cU8 (tb22 F) (tb5 F) (fun _ => rfl) f l x
attribute [go_sem] ixsl22
theorem app23x23 {F} {σ : Store} (s x : AV) : builtinA (B.env F) σ .append [23, 23] [s, x] = match view σ x with
      | some new => if strBad x 4 = true then none else if ∀ cs ∈ new, cs.length = 4 then (match s with
          | .sl full els =>
            if els = [] ∧ full = true then
              if Fits new.length 64 then some (.bs false σ.length new.length 0 new.length, σ ++ [.buf 4 new false]) else none
            else if new = [] then some (.sl full els, σ)
            else if full = true ∧ (∀ cs ∈ els, cs.length = 4) ∧ Fits (els.length + new.length) 64
            then some (.bs false σ.length (els.length + new.length) 0 (els.length + new.length), σ ++ [.buf 4 (els ++ new) false]) else none
          | .bs full id tot off len => match σ[id]? with
            | some (.buf k els ro) =>
              if els.length = tot ∧ k = 4 ∧ Fits (len + new.length) 64 then
                if off = 0 ∧ len = tot then some (.bs false id (tot + new.length) 0 (tot + new.length), σ.set id (.buf k (els ++ new) ro))
                else if new = [] then some (.bs full id tot off len, σ)
                else if full then some (.bs false σ.length (len + new.length) 0 (len + new.length), σ ++ [.buf k ((els.drop off).take len ++ new) false])
                else none
              else none
            | _ => none
          | _ => none)
        else none
      | none => none := append_eq (tb23 F) (tb25 F) (by decide) (tb23 F) (.inl ⟨_, rfl⟩) s x []
attribute [go_sem] app23x23
theorem bbeql4 {F} (x y : Bool) : binOpA (B.env F) .eql 4 (.bool x) (.bool y) = some (.bool (x == y)) := bin_bool_eql (tb4 F) x y
attribute [go_sem] bbeql4
theorem ixbs22 {F} {σ : Store} (f : Bool) (id tot off len : Nat) (x : AV) : indexAddrA (B.env F) σ 22 (.bs f id tot off len) x = match σ[id]?, idx x len with
    | some (.buf k els _), some i => if els.length = tot ∧ k = 1 then some (.eref id tot (off + i) 0) else none
    | _, _ => none := ixA_bs (tb22 F) (tb5 F) (by decide) f id tot off len x
attribute [go_sem] ixbs22
end Go.Proofs.Ytihncddenjbecaa
/-
  What the functions compute, as plain programs.
-/
namespace Go.Proofs.Ytihncddenjbecaa
open Go.Rv
set_option linter.unusedVariables false
set_option linter.unusedSimpArgs false
set_option maxRecDepth 20000

def codec_shape_b1 (v_1 : Api_Value) (rec_ : Api_Value → Option (Int × Bool)) (depth_134 : Int) (t_135 : Int) : Option ((Int × Int) ⊕ ((Int) ⊕ ((Int) ⊕ ((Unit) ⊕ (Int × Bool))))) :=
  if (decide (t_135 < (v_1.L.length : Int))) = true then
    if InR t_135 v_1.L.length then
      lt1 ((nth v_1.L t_135.toNat).Kind) fun (f_151 : Int) =>
      (rec_ ((Api_Value.mk f_151 ((nth v_1.L t_135.toNat).N) ((nth v_1.L t_135.toNat).B) ((nth v_1.L t_135.toNat).L)))).bind fun y_153 =>
      if (!y_153.2) = true then
        (((some ((0, false))).bind fun z_155 => some (.inr z_155)).bind fun z_156 => some (.inr z_156)).bind fun z_157 => some (.inr (.inr z_157))
      else
        some (.inl (((mx64 depth_134 y_153.1), (w64 (t_135 + 1)))))
    else none
  else
    some (.inr (.inl depth_134))
def codec_shape_F (rec_ : Api_Value → Option (Int × Bool)) (v_1 : Api_Value) : Option (Int × Bool) :=
  (if (v_1.Kind == 1) = true then
    (if ((v_1.B.length : Int) == 0) = true then
      some (((v_1.L.length : Int) == 0))
    else
      some false : Option (Bool)).bind fun ok_82 =>
    (some ((0, ok_82))).bind fun z_85 => some (.inr z_85)
  else
    if (v_1.Kind == 2) = true then
      (if (v_1.N == 0) = true then
        some (((v_1.L.length : Int) == 0))
      else
        some false : Option (Bool)).bind fun ok_86 =>
      (some ((0, ok_86))).bind fun z_89 => some (.inr z_89)
    else
      if (v_1.Kind == 3) = true then
        (if (v_1.N != 0) = true then
          some true
        else
          some (((v_1.B.length : Int) != 0)) : Option (Bool)).bind fun t_90 =>
        if t_90 = true then
          (some ((0, false))).bind fun z_93 => some (.inr z_93)
        else
          ((loopO (fun (v : Int × Int) => codec_shape_b1 v_1 rec_ v.1 v.2) ((0, 0))).bind fun x => match x with
          | .inl depth_144 =>
            some (.inl depth_144)
          | .inr z => some z : Option ((Int) ⊕ ((Unit) ⊕ (Int × Bool)))).bind fun x => match x with
          | .inl depth_124 =>
            (some (((w64 (depth_124 + 1)), true))).bind fun z_158 => some (.inr z_158)
          | .inr z => some z
      else
        some (.inl (())) : Option ((Unit) ⊕ (Int × Bool))).bind fun x => match x with
  | .inl () =>
    some ((0, false))
  | .inr z => some z
def codec_shape_n (n : Nat) : Api_Value → Option (Int × Bool) := match n with
  | 0 => fun _ => none
  | n + 1 => codec_shape_F (codec_shape_n n)
def codec_shape (v_1 : Api_Value) : Option (Int × Bool) := codec_shape_n 18446744073709551616 v_1

def codec_appendInt_1_b1 (u_180 : UInt64) (k_181 : Int) : Option ((UInt64 × Int) ⊕ (Int)) :=
  if (decide (u_180 > (0 : UInt64))) = true then
    lt1 ((shr64 u_180 ((8 : UInt64)).toNat)) fun (u_190 : UInt64) =>
    some (.inl ((u_190, (w64 (k_181 + 1)))))
  else
    some (.inr k_181)
def codec_appendInt_1 (u_159 : UInt64) : Option (Int) :=
  ((loopO (fun (v : UInt64 × Int) => codec_appendInt_1_b1 v.1 v.2) ((u_159, 0))).bind fun k_184 =>
  some k_184 : Option (Int)).bind fun k_174 =>
  some k_174

def codec_appendInt_b1 (n_193 : Int) (k_266 : Int) (t_306 : Int) (l_307 : List UInt8) : Option ((Int × List UInt8) ⊕ (List UInt8)) :=
  if (decide (t_306 < k_266)) = true then
    if NotNeg ((w64 (8 * (w64 ((w64 (k_266 - 1)) - t_306))))) then
      if Fits (l_307.length + 1) 1 then
        lt1 ((l_307 ++ (([((shr64 ((UInt64.ofInt n_193)) (((w64 (8 * (w64 ((w64 (k_266 - 1)) - t_306))))).toNat))).toUInt8] : List UInt8)))) fun (l_320 : List UInt8) =>
        some (.inl (((w64 (t_306 + 1)), l_320)))
      else none
    else none
  else
    some (.inr l_307)
def codec_appendInt (b_192 : List UInt8) (n_193 : Int) : Option (List UInt8) :=
  (codec_appendInt_1 ((UInt64.ofInt n_193))).bind fun y_258 =>
  lt1 ((UInt8.ofInt ((w64 (32 + y_258))))) fun (tag_260 : UInt8) =>
  (if (decide (n_193 < 0)) = true then
    (codec_appendInt_1 ((~~~(UInt64.ofInt n_193)))).bind fun y_271 =>
    lt1 ((UInt8.ofInt ((w64 (31 - y_271))))) fun (tag_273 : UInt8) =>
    some ((y_271, tag_273))
  else
    some ((y_258, tag_260)) : Option (Int × UInt8)).bind fun (k_266, tag_267) =>
  if Fits (b_192.length + 1) 1 then
    lt1 ((b_192 ++ (([tag_267] : List UInt8)))) fun (l_276 : List UInt8) =>
    ((loopO (fun (v : Int × List UInt8) => codec_appendInt_b1 n_193 k_266 v.1 v.2) ((0, l_276))).bind fun l_312 =>
    some l_312 : Option (List UInt8)).bind fun l_298 =>
    some l_298
  else none

def codec_appendValue_b1 (v_323 : Api_Value) (t_857 : Int) (l_858 : List UInt8) : Option ((Int × List UInt8) ⊕ (List UInt8)) :=
  if (decide (t_857 < (v_323.B.length : Int))) = true then
    (if InR t_857 v_323.B.length then
      if Fits (l_858.length + 1) 1 then
        lt1 ((l_858 ++ (([nth v_323.B t_857.toNat] : List UInt8)))) fun (l_896 : List UInt8) =>
        if (nth v_323.B t_857.toNat == (0 : UInt8)) = true then
          if Fits (l_896.length + 1) 1 then
            lt1 ((l_896 ++ (([(255 : UInt8)] : List UInt8)))) fun (l_899 : List UInt8) =>
            some l_899
          else none
        else
          some l_896
      else none
    else none : Option (List UInt8)).bind fun l_890 =>
    some (.inl (((w64 (t_857 + 1)), l_890)))
  else
    some (.inr l_858)
def codec_appendValue_b2 (v_323 : Api_Value) (rec_ : (List UInt8) → Api_Value → Option (List UInt8)) (t_948 : Int) (l_949 : List UInt8) : Option ((Int × List UInt8) ⊕ (List UInt8)) :=
  if (decide (t_948 < (v_323.L.length : Int))) = true then
    if InR t_948 v_323.L.length then
      lt1 ((nth v_323.L t_948.toNat).Kind) fun (f_968 : Int) =>
      lt1 ((nth v_323.L t_948.toNat).N) fun (f_969 : Int) =>
      lt1 ((nth v_323.L t_948.toNat).B) fun (f_970 : List UInt8) =>
      lt1 ((nth v_323.L t_948.toNat).L) fun (f_971 : List Api_Value) =>
      (rec_ l_949 ((Api_Value.mk f_968 f_969 f_970 f_971))).bind fun y_976 =>
      some (.inl (((w64 (t_948 + 1)), y_976)))
    else none
  else
    some (.inr l_949)
def codec_appendValue_F (rec_ : (List UInt8) → Api_Value → Option (List UInt8)) (b_322 : List UInt8) (v_323 : Api_Value) : Option (List UInt8) :=
  (if (v_323.Kind == 1) = true then
    (codec_appendInt b_322 v_323.N).bind fun y_767 =>
    (some y_767).bind fun z_769 => some (.inr z_769)
  else
    if (v_323.Kind == 2) = true then
      if Fits (b_322.length + 1) 1 then
        lt1 ((b_322 ++ (([(48 : UInt8)] : List UInt8)))) fun (l_771 : List UInt8) =>
        ((loopO (fun (v : Int × List UInt8) => codec_appendValue_b1 v_323 v.1 v.2) ((0, l_771))).bind fun l_877 =>
        some l_877 : Option (List UInt8)).bind fun l_835 =>
        if Fits (l_835.length + 2) 1 then
          lt1 ((l_835 ++ (([(0 : UInt8), (0 : UInt8)] : List UInt8)))) fun (l_902 : List UInt8) =>
          (some l_902).bind fun z_904 => some (.inr z_904)
        else none
      else none
    else
      some (.inl (())) : Option ((Unit) ⊕ (List UInt8))).bind fun x => match x with
  | .inl () =>
    if Fits (b_322.length + 1) 1 then
      lt1 ((b_322 ++ (([(64 : UInt8)] : List UInt8)))) fun (l_906 : List UInt8) =>
      ((loopO (fun (v : Int × List UInt8) => codec_appendValue_b2 v_323 rec_ v.1 v.2) ((0, l_906))).bind fun l_961 =>
      some l_961 : Option (List UInt8)).bind fun l_941 =>
      if Fits (l_941.length + 1) 1 then
        lt1 ((l_941 ++ (([(0 : UInt8)] : List UInt8)))) fun (l_979 : List UInt8) =>
        some l_979
      else none
    else none
  | .inr z => some z
def codec_appendValue_n (n : Nat) : (List UInt8) → Api_Value → Option (List UInt8) := match n with
  | 0 => fun _ _ => none
  | n + 1 => codec_appendValue_F (codec_appendValue_n n)
def codec_appendValue (b_322 : List UInt8) (v_323 : Api_Value) : Option (List UInt8) := codec_appendValue_n 18446744073709551616 b_322 v_323

def codec_Encode (v_981 : Api_Value) : Option (List UInt8 × Int) :=
  (codec_shape v_981).bind fun y_982 =>
  if (!y_982.2) = true then
    some (([], 10))
  else
    if (decide (y_982.1 > 16)) = true then
      some (([], 2))
    else
      (codec_appendValue ([]) v_981).bind fun y_984 =>
      if (decide ((y_984.length : Int) > 65536)) = true then
        some (([], 2))
      else
        some ((y_984, 0))

def codec_Check (v_986 : Api_Value) : Option (Int) :=
  (codec_Encode v_986).bind fun y_987 =>
  some y_987.2

def bytealg_Compare (a : List UInt8) (b : List UInt8) : Option (Int) := bytesCmpO a b

def bytes_Compare (a_989 : List UInt8) (b_990 : List UInt8) : Option (Int) :=
  (bytealg_Compare a_989 b_990).bind fun y_991 =>
  some y_991

def cmp_isNaN (x_993 : Int) : Option (Bool) :=
  some ((x_993 != x_993))

def cmp_Compare (x_994 : Int) (y_995 : Int) : Option (Int) :=
  (cmp_isNaN x_994).bind fun y_996 =>
  (cmp_isNaN y_995).bind fun y_998 =>
  if y_996 = true then
    if y_998 = true then
      some 0
    else
      some ((-1))
  else
    if y_998 = true then
      some 1
    else
      if (decide (x_994 < y_995)) = true then
        some ((-1))
      else
        if (decide (x_994 > y_995)) = true then
          some 1
        else
          some 0

def slices_CompareFunc_b1 (s1_1000 : List Api_Value) (s2_1001 : List Api_Value) (cmp_1002 : Api_Value → Api_Value → Option (Int)) (t_1076 : Int) : Option ((Int) ⊕ ((Unit) ⊕ ((Unit) ⊕ (Int)))) :=
  if (decide (t_1076 < (s1_1000.length : Int))) = true then
    if InR t_1076 s1_1000.length then
      lt1 ((nth s1_1000 t_1076.toNat).Kind) fun (f_1107 : Int) =>
      lt1 ((nth s1_1000 t_1076.toNat).N) fun (f_1108 : Int) =>
      lt1 ((nth s1_1000 t_1076.toNat).B) fun (f_1109 : List UInt8) =>
      lt1 ((nth s1_1000 t_1076.toNat).L) fun (f_1110 : List Api_Value) =>
      if (decide (t_1076 ≥ (s2_1001.length : Int))) = true then
        ((some 1).bind fun z_1115 => some (.inr z_1115)).bind fun z_1116 => some (.inr (.inr z_1116))
      else
        if InR t_1076 s2_1001.length then
          lt1 ((nth s2_1001 t_1076.toNat).Kind) fun (f_1118 : Int) =>
          lt1 ((nth s2_1001 t_1076.toNat).N) fun (f_1119 : Int) =>
          lt1 ((nth s2_1001 t_1076.toNat).B) fun (f_1120 : List UInt8) =>
          lt1 ((nth s2_1001 t_1076.toNat).L) fun (f_1121 : List Api_Value) =>
          (cmp_1002 ((Api_Value.mk f_1107 f_1108 f_1109 f_1110)) ((Api_Value.mk f_1118 f_1119 f_1120 f_1121))).bind fun y_1126 =>
          if (y_1126 != 0) = true then
            ((some y_1126).bind fun z_1128 => some (.inr z_1128)).bind fun z_1129 => some (.inr (.inr z_1129))
          else
            some (.inl ((w64 (t_1076 + 1))))
        else none
    else none
  else
    some (.inr (.inl (())))
def slices_CompareFunc (s1_1000 : List Api_Value) (s2_1001 : List Api_Value) (cmp_1002 : Api_Value → Api_Value → Option (Int)) : Option (Int) :=
  ((loopO (fun (v : Int) => slices_CompareFunc_b1 s1_1000 s2_1001 cmp_1002 v) 0).bind fun x => match x with
  | .inl () =>
    some (.inl (()))
  | .inr z => some z : Option ((Unit) ⊕ (Int))).bind fun x => match x with
  | .inl () =>
    if (decide ((s1_1000.length : Int) < (s2_1001.length : Int))) = true then
      some ((-1))
    else
      some 0
  | .inr z => some z

def codec_Compare_F (rec_ : Api_Value → Api_Value → Option (Int)) (a_1130 : Api_Value) (b_1131 : Api_Value) : Option (Int) :=
  (cmp_Compare a_1130.Kind b_1131.Kind).bind fun y_1132 =>
  if (y_1132 != 0) = true then
    some y_1132
  else
    if (a_1130.Kind == 1) = true then
      (cmp_Compare a_1130.N b_1131.N).bind fun y_1134 =>
      some y_1134
    else
      if (a_1130.Kind == 2) = true then
        (bytes_Compare a_1130.B b_1131.B).bind fun y_1136 =>
        some y_1136
      else
        if (a_1130.Kind == 3) = true then
          (slices_CompareFunc a_1130.L b_1131.L rec_).bind fun y_1138 =>
          some y_1138
        else
          some 0
def codec_Compare_n (n : Nat) : Api_Value → Api_Value → Option (Int) := match n with
  | 0 => fun _ _ => none
  | n + 1 => codec_Compare_F (codec_Compare_n n)
def codec_Compare (a_1130 : Api_Value) (b_1131 : Api_Value) : Option (Int) := codec_Compare_n 18446744073709551616 a_1130 b_1131

def r01_Shape_b1 (v_1140 : Api_Value) (rec_ : Api_Value → Option (Bool)) (i_1182 : Int) : Option ((Int) ⊕ ((Unit) ⊕ ((Unit) ⊕ (Bool)))) :=
  if (decide (i_1182 < (v_1140.L.length : Int))) = true then
    if InR i_1182 v_1140.L.length then
      (rec_ (nth v_1140.L i_1182.toNat)).bind fun y_1193 =>
      if (!y_1193) = true then
        ((some false).bind fun z_1196 => some (.inr z_1196)).bind fun z_1197 => some (.inr (.inr z_1197))
      else
        some (.inl ((w64 (i_1182 + 1))))
    else none
  else
    some (.inr (.inl (())))
def r01_Shape_F (rec_ : Api_Value → Option (Bool)) (v_1140 : Api_Value) : Option (Bool) :=
  (if (v_1140.Kind != 1) = true then
    if (v_1140.N != 0) = true then
      some true
    else
      if (v_1140.Kind != 2) = true then
        if (decide ((v_1140.B.length : Int) > 0)) = true then
          some true
        else
          if (v_1140.Kind != 3) = true then
            some ((decide ((v_1140.L.length : Int) > 0)))
          else
            some false
      else
        if (v_1140.Kind != 3) = true then
          some ((decide ((v_1140.L.length : Int) > 0)))
        else
          some false
  else
    if (v_1140.Kind != 2) = true then
      if (decide ((v_1140.B.length : Int) > 0)) = true then
        some true
      else
        if (v_1140.Kind != 3) = true then
          some ((decide ((v_1140.L.length : Int) > 0)))
        else
          some false
    else
      if (v_1140.Kind != 3) = true then
        some ((decide ((v_1140.L.length : Int) > 0)))
      else
        some false : Option (Bool)).bind fun t_1141 =>
  if t_1141 = true then
    some false
  else
    ((loopO (fun (v : Int) => r01_Shape_b1 v_1140 rec_ v) 0).bind fun x => match x with
    | .inl () =>
      some (.inl (()))
    | .inr z => some z : Option ((Unit) ⊕ (Bool))).bind fun x => match x with
    | .inl () =>
      (if (v_1140.Kind == 1) = true then
        some true
      else
        if (v_1140.Kind == 2) = true then
          some true
        else
          some ((v_1140.Kind == 3)) : Option (Bool)).bind fun t_1198 =>
      some t_1198
    | .inr z => some z
def r01_Shape_n (n : Nat) : Api_Value → Option (Bool) := match n with
  | 0 => fun _ => none
  | n + 1 => r01_Shape_F (r01_Shape_n n)
def r01_Shape (v_1140 : Api_Value) : Option (Bool) := r01_Shape_n 18446744073709551616 v_1140

def r01_Nesting_b1 (v_1202 : Api_Value) (rec_ : Api_Value → Option (Int)) (n_1227 : Int) (i_1228 : Int) : Option ((Int × Int) ⊕ (Int)) :=
  if (decide (i_1228 < (v_1202.L.length : Int))) = true then
    if InR i_1228 v_1202.L.length then
      (rec_ (nth v_1202.L i_1228.toNat)).bind fun y_1238 =>
      some (.inl (((mx64 n_1227 y_1238), (w64 (i_1228 + 1)))))
    else none
  else
    some (.inr n_1227)
def r01_Nesting_F (rec_ : Api_Value → Option (Int)) (v_1202 : Api_Value) : Option (Int) :=
  ((loopO (fun (v : Int × Int) => r01_Nesting_b1 v_1202 rec_ v.1 v.2) ((0, 0))).bind fun n_1232 =>
  some n_1232 : Option (Int)).bind fun n_1220 =>
  if (v_1202.Kind == 3) = true then
    some ((w64 (n_1220 + 1)))
  else
    some n_1220
def r01_Nesting_n (n : Nat) : Api_Value → Option (Int) := match n with
  | 0 => fun _ => none
  | n + 1 => r01_Nesting_F (r01_Nesting_n n)
def r01_Nesting (v_1202 : Api_Value) : Option (Int) := r01_Nesting_n 18446744073709551616 v_1202

def r01_digits_b1 (n_1241 : Int) (s_1344 : Int) (l_1345 : List UInt8) : Option ((Int × List UInt8) ⊕ (List UInt8)) :=
  if (decide (s_1344 ≥ 0)) = true then
    (if NotNeg s_1344 then
      lt1 ((UInt8.ofInt ((shrI n_1241 s_1344)))) fun (b_1388 : UInt8) =>
      (if (b_1388 != (0 : UInt8)) = true then
        some true
      else
        some ((decide ((l_1345.length : Int) > 0))) : Option (Bool)).bind fun t_1390 =>
      if t_1390 = true then
        if Fits (l_1345.length + 1) 1 then
          lt1 ((l_1345 ++ (([b_1388] : List UInt8)))) fun (l_1394 : List UInt8) =>
          some l_1394
        else none
      else
        some l_1345
    else none : Option (List UInt8)).bind fun l_1383 =>
    some (.inl (((w64 (s_1344 - 8)), l_1383)))
  else
    some (.inr l_1345)
def r01_digits (n_1241 : Int) : Option (List UInt8) :=
  lt1 (([] : List UInt8)) fun (l_1242 : List UInt8) =>
  ((loopO (fun (v : Int × List UInt8) => r01_digits_b1 n_1241 v.1 v.2) ((56, l_1242))).bind fun l_1368 =>
  some l_1368 : Option (List UInt8)).bind fun l_1318 =>
  some l_1318

def r01_integer_b1 (y_1404 : List UInt8) (i_1436 : Int) (l_1437 : List UInt8) : Option ((Int × List UInt8) ⊕ (List UInt8)) :=
  if (decide (i_1436 < (y_1404.length : Int))) = true then
    if InR i_1436 y_1404.length then
      if Fits (l_1437.length + 1) 1 then
        lt1 ((l_1437 ++ (([((255 : UInt8) - nth y_1404 i_1436.toNat)] : List UInt8)))) fun (l_1450 : List UInt8) =>
        some (.inl (((w64 (i_1436 + 1)), l_1450)))
      else none
    else none
  else
    some (.inr l_1437)
def r01_integer (n_1396 : Int) : Option (List UInt8) :=
  if (decide (n_1396 ≥ 0)) = true then
    (r01_digits n_1396).bind fun y_1397 =>
    lt1 (([(UInt8.ofInt ((w64 (32 + (y_1397.length : Int)))))] : List UInt8)) fun (l_1399 : List UInt8) =>
    if Fits (l_1399.length + y_1397.length) 1 then
      lt1 ((l_1399 ++ y_1397)) fun (l_1402 : List UInt8) =>
      some l_1402
    else none
  else
    (r01_digits ((w64 (0 - (w64 (n_1396 + 1)))))).bind fun y_1404 =>
    lt1 (([(UInt8.ofInt ((w64 (31 - (y_1404.length : Int)))))] : List UInt8)) fun (l_1406 : List UInt8) =>
    ((loopO (fun (v : Int × List UInt8) => r01_integer_b1 y_1404 v.1 v.2) ((0, l_1406))).bind fun l_1442 =>
    some l_1442 : Option (List UInt8)).bind fun l_1428 =>
    some l_1428

def r01_Bytes_b1 (v_1452 : Api_Value) (i_1702 : Int) (l_1703 : List UInt8) : Option ((Int × List UInt8) ⊕ (List UInt8)) :=
  if (decide (i_1702 < (v_1452.B.length : Int))) = true then
    (if InR i_1702 v_1452.B.length then
      if Fits (l_1703.length + 1) 1 then
        lt1 ((l_1703 ++ (([nth v_1452.B i_1702.toNat] : List UInt8)))) fun (l_1744 : List UInt8) =>
        if InR i_1702 v_1452.B.length then
          if (nth v_1452.B i_1702.toNat == (0 : UInt8)) = true then
            if Fits (l_1744.length + 1) 1 then
              lt1 ((l_1744 ++ (([(255 : UInt8)] : List UInt8)))) fun (l_1748 : List UInt8) =>
              some l_1748
            else none
          else
            some l_1744
        else none
      else none
    else none : Option (List UInt8)).bind fun l_1738 =>
    some (.inl (((w64 (i_1702 + 1)), l_1738)))
  else
    some (.inr l_1703)
def r01_Bytes_b2 (v_1452 : Api_Value) (rec_ : Api_Value → Option (List UInt8)) (i_1793 : Int) (l_1794 : List UInt8) : Option ((Int × List UInt8) ⊕ (List UInt8)) :=
  if (decide (i_1793 < (v_1452.L.length : Int))) = true then
    if InR i_1793 v_1452.L.length then
      (rec_ (nth v_1452.L i_1793.toNat)).bind fun y_1807 =>
      if Fits (l_1794.length + y_1807.length) 1 then
        lt1 ((l_1794 ++ y_1807)) fun (l_1811 : List UInt8) =>
        some (.inl (((w64 (i_1793 + 1)), l_1811)))
      else none
    else none
  else
    some (.inr l_1794)
def r01_Bytes_F (rec_ : Api_Value → Option (List UInt8)) (v_1452 : Api_Value) : Option (List UInt8) :=
  if (v_1452.Kind == 1) = true then
    (r01_integer v_1452.N).bind fun y_1453 =>
    some y_1453
  else
    lt1 (([] : List UInt8)) fun (l_1455 : List UInt8) =>
    (if (v_1452.Kind == 2) = true then
      if Fits (l_1455.length + 1) 1 then
        lt1 ((l_1455 ++ (([(48 : UInt8)] : List UInt8)))) fun (l_1608 : List UInt8) =>
        ((loopO (fun (v : Int × List UInt8) => r01_Bytes_b1 v_1452 v.1 v.2) ((0, l_1608))).bind fun l_1724 =>
        some l_1724 : Option (List UInt8)).bind fun l_1678 =>
        if Fits (l_1678.length + 2) 1 then
          lt1 ((l_1678 ++ (([(0 : UInt8), (0 : UInt8)] : List UInt8)))) fun (l_1751 : List UInt8) =>
          (some l_1751).bind fun z_1753 => some (.inr z_1753)
        else none
      else none
    else
      some (.inl (())) : Option ((Unit) ⊕ (List UInt8))).bind fun x => match x with
    | .inl () =>
      if Fits (l_1455.length + 1) 1 then
        lt1 ((l_1455 ++ (([(64 : UInt8)] : List UInt8)))) fun (l_1755 : List UInt8) =>
        ((loopO (fun (v : Int × List UInt8) => r01_Bytes_b2 v_1452 rec_ v.1 v.2) ((0, l_1755))).bind fun l_1801 =>
        some l_1801 : Option (List UInt8)).bind fun l_1783 =>
        if Fits (l_1783.length + 1) 1 then
          lt1 ((l_1783 ++ (([(0 : UInt8)] : List UInt8)))) fun (l_1814 : List UInt8) =>
          some l_1814
        else none
      else none
    | .inr z => some z
def r01_Bytes_n (n : Nat) : Api_Value → Option (List UInt8) := match n with
  | 0 => fun _ => none
  | n + 1 => r01_Bytes_F (r01_Bytes_n n)
def r01_Bytes (v_1452 : Api_Value) : Option (List UInt8) := r01_Bytes_n 18446744073709551616 v_1452

def r01_Check (v_1816 : Api_Value) : Option (Int) :=
  (r01_Shape v_1816).bind fun y_1817 =>
  if (!y_1817) = true then
    some 10
  else
    ((r01_Nesting v_1816).bind fun y_1819 =>
    if (decide (y_1819 > 16)) = true then
      some true
    else
      (r01_Bytes v_1816).bind fun y_1820 =>
      some ((decide ((y_1820.length : Int) > 65536))) : Option (Bool)).bind fun t_1821 =>
    if t_1821 = true then
      some 2
    else
      some 0

def r01_Encode (v_1826 : Api_Value) : Option (List UInt8 × Int) :=
  (r01_Check v_1826).bind fun y_1827 =>
  if (y_1827 != 0) = true then
    some (([], y_1827))
  else
    (r01_Bytes v_1826).bind fun y_1829 =>
    some ((y_1829, 0))

def r01_Order (a_1831 : Int) (b_1832 : Int) : Option (Int) :=
  if (decide (a_1831 < b_1832)) = true then
    some ((-1))
  else
    if (decide (a_1831 > b_1832)) = true then
      some 1
    else
      some 0

def r01_OrderBytes_b1 (a_1833 : List UInt8) (b_1834 : List UInt8) (i_1888 : Int) : Option ((Int) ⊕ ((Unit) ⊕ ((Unit) ⊕ (Int)))) :=
  (if (decide (i_1888 < (a_1833.length : Int))) = true then
    some ((decide (i_1888 < (b_1834.length : Int))))
  else
    some false : Option (Bool)).bind fun t_1905 =>
  if t_1905 = true then
    if InR i_1888 a_1833.length then
      if InR i_1888 b_1834.length then
        if (nth a_1833 i_1888.toNat != nth b_1834 i_1888.toNat) = true then
          if InR i_1888 a_1833.length then
            if InR i_1888 b_1834.length then
              (r01_Order (((nth a_1833 i_1888.toNat).toNat : Int)) (((nth b_1834 i_1888.toNat).toNat : Int))).bind fun y_1910 =>
              ((some y_1910).bind fun z_1914 => some (.inr z_1914)).bind fun z_1915 => some (.inr (.inr z_1915))
            else none
          else none
        else
          some (.inl ((w64 (i_1888 + 1))))
      else none
    else none
  else
    some (.inr (.inl (())))
def r01_OrderBytes (a_1833 : List UInt8) (b_1834 : List UInt8) : Option (Int) :=
  ((loopO (fun (v : Int) => r01_OrderBytes_b1 a_1833 b_1834 v) 0).bind fun x => match x with
  | .inl () =>
    some (.inl (()))
  | .inr z => some z : Option ((Unit) ⊕ (Int))).bind fun x => match x with
  | .inl () =>
    (r01_Order ((a_1833.length : Int)) ((b_1834.length : Int))).bind fun y_1916 =>
    some y_1916
  | .inr z => some z

def r01_SameBytes (a_1918 : List UInt8) (b_1919 : List UInt8) : Option (Bool) :=
  (r01_OrderBytes a_1918 b_1919).bind fun y_1920 =>
  some ((y_1920 == 0))

def r01_Compare_b1 (a_1922 : Api_Value) (b_1923 : Api_Value) (rec_ : Api_Value → Api_Value → Option (Int)) (i_2068 : Int) : Option ((Int) ⊕ ((Unit) ⊕ ((Unit) ⊕ ((Unit) ⊕ (Int))))) :=
  (if (decide (i_2068 < (a_1922.L.length : Int))) = true then
    some ((decide (i_2068 < (b_1923.L.length : Int))))
  else
    some false : Option (Bool)).bind fun t_2084 =>
  if t_2084 = true then
    if InR i_2068 a_1922.L.length then
      if InR i_2068 b_1923.L.length then
        (rec_ (nth a_1922.L i_2068.toNat) (nth b_1923.L i_2068.toNat)).bind fun y_2087 =>
        if (y_2087 != 0) = true then
          (((some y_2087).bind fun z_2091 => some (.inr z_2091)).bind fun z_2092 => some (.inr z_2092)).bind fun z_2093 => some (.inr (.inr z_2093))
        else
          some (.inl ((w64 (i_2068 + 1))))
      else none
    else none
  else
    some (.inr (.inl (())))
def r01_Compare_F (rec_ : Api_Value → Api_Value → Option (Int)) (a_1922 : Api_Value) (b_1923 : Api_Value) : Option (Int) :=
  if (a_1922.Kind != b_1923.Kind) = true then
    (r01_Order a_1922.Kind b_1923.Kind).bind fun y_1924 =>
    some y_1924
  else
    (if (a_1922.Kind == 1) = true then
      (r01_Order a_1922.N b_1923.N).bind fun y_2013 =>
      (some y_2013).bind fun z_2015 => some (.inr z_2015)
    else
      if (a_1922.Kind == 2) = true then
        (r01_OrderBytes a_1922.B b_1923.B).bind fun y_2016 =>
        (some y_2016).bind fun z_2018 => some (.inr z_2018)
      else
        if (a_1922.Kind == 3) = true then
          ((loopO (fun (v : Int) => r01_Compare_b1 a_1922 b_1923 rec_ v) 0).bind fun x => match x with
          | .inl () =>
            some (.inl (()))
          | .inr z => some z : Option ((Unit) ⊕ ((Unit) ⊕ (Int)))).bind fun x => match x with
          | .inl () =>
            (r01_Order ((a_1922.L.length : Int)) ((b_1923.L.length : Int))).bind fun y_2094 =>
            (some y_2094).bind fun z_2096 => some (.inr z_2096)
          | .inr z => some z
        else
          some (.inl (())) : Option ((Unit) ⊕ (Int))).bind fun x => match x with
    | .inl () =>
      some 0
    | .inr z => some z
def r01_Compare_n (n : Nat) : Api_Value → Api_Value → Option (Int) := match n with
  | 0 => fun _ _ => none
  | n + 1 => r01_Compare_F (r01_Compare_n n)
def r01_Compare (a_1922 : Api_Value) (b_1923 : Api_Value) : Option (Int) := r01_Compare_n 18446744073709551616 a_1922 b_1923

def r01_Same_b1 (a_2097 : Api_Value) (b_2098 : Api_Value) (rec_ : Api_Value → Api_Value → Option (Bool)) (i_2139 : Int) : Option ((Int) ⊕ ((Unit) ⊕ ((Unit) ⊕ (Bool)))) :=
  if (decide (i_2139 < (a_2097.L.length : Int))) = true then
    if InR i_2139 a_2097.L.length then
      if InR i_2139 b_2098.L.length then
        (rec_ (nth a_2097.L i_2139.toNat) (nth b_2098.L i_2139.toNat)).bind fun y_2151 =>
        if (!y_2151) = true then
          ((some false).bind fun z_2155 => some (.inr z_2155)).bind fun z_2156 => some (.inr (.inr z_2156))
        else
          some (.inl ((w64 (i_2139 + 1))))
      else none
    else none
  else
    some (.inr (.inl (())))
def r01_Same_F (rec_ : Api_Value → Api_Value → Option (Bool)) (a_2097 : Api_Value) (b_2098 : Api_Value) : Option (Bool) :=
  (if (a_2097.Kind != b_2098.Kind) = true then
    some true
  else
    if (a_2097.N != b_2098.N) = true then
      some true
    else
      (r01_OrderBytes a_2097.B b_2098.B).bind fun y_2099 =>
      if (y_2099 != 0) = true then
        some true
      else
        some (((a_2097.L.length : Int) != (b_2098.L.length : Int))) : Option (Bool)).bind fun t_2100 =>
  if t_2100 = true then
    some false
  else
    ((loopO (fun (v : Int) => r01_Same_b1 a_2097 b_2098 rec_ v) 0).bind fun x => match x with
    | .inl () =>
      some (.inl (()))
    | .inr z => some z : Option ((Unit) ⊕ (Bool))).bind fun x => match x with
    | .inl () =>
      some true
    | .inr z => some z
def r01_Same_n (n : Nat) : Api_Value → Api_Value → Option (Bool) := match n with
  | 0 => fun _ _ => none
  | n + 1 => r01_Same_F (r01_Same_n n)
def r01_Same (a_2097 : Api_Value) (b_2098 : Api_Value) : Option (Bool) := r01_Same_n 18446744073709551616 a_2097 b_2098

def r01_Around (x_2157 : Int) (n_2158 : Int) : Option (Int) :=
  if ¬(n_2158 : Int) = 0 then
    lt1 (((x_2157 : Int).tmod n_2158)) fun (x_2160 : Int) =>
    (if (decide (x_2160 < 0)) = true then
      some ((w64 (x_2160 + n_2158)))
    else
      some x_2160 : Option (Int)).bind fun x_2162 =>
    some x_2162
  else none

def r01_Joined (a_2166 : List UInt8) (b_2167 : List UInt8) : Option (List UInt8) :=
  lt1 (([] : List UInt8)) fun (l_2176 : List UInt8) =>
  if Fits (l_2176.length + a_2166.length) 1 then
    lt1 ((l_2176 ++ a_2166)) fun (l_2179 : List UInt8) =>
    if Fits (l_2179.length + b_2167.length) 1 then
      lt1 ((l_2179 ++ b_2167)) fun (l_2182 : List UInt8) =>
      some l_2182
    else none
  else none

def r01_Int (n_2184 : Int) : Option (Api_Value) :=
  some ((Api_Value.mk 1 n_2184 ([]) ([])))

def r01_Text (s_2185 : List UInt8) : Option (Api_Value) :=
  some ((Api_Value.mk 2 0 s_2185 ([])))

def r01_List (l_2186 : List Api_Value) : Option (Api_Value) :=
  some ((Api_Value.mk 3 0 ([]) l_2186))

def r01_readInt_b1 (b_2187 : List UInt8) (t_2189 : Int) (k_2190 : Int) (at_2281 : Int) (n_2282 : Int) (i_2283 : Int) : Option ((Int × Int × Int) ⊕ ((Int × Int) ⊕ ((Int × Int) ⊕ (Api_Value × Int × Int)))) :=
  if (decide (i_2283 < k_2190)) = true then
    if (decide (at_2281 ≥ (b_2187.length : Int))) = true then
      ((some (((Api_Value.mk 0 0 ([]) ([])), at_2281, 5))).bind fun z_2309 => some (.inr z_2309)).bind fun z_2310 => some (.inr (.inr z_2310))
    else
      if InR at_2281 b_2187.length then
        lt1 (((nth b_2187 at_2281.toNat).toNat : Int)) fun (x_2312 : Int) =>
        (if (decide (t_2189 < 32)) = true then
          some ((w64 (255 - x_2312)))
        else
          some x_2312 : Option (Int)).bind fun x_2314 =>
        (if (i_2283 == 0) = true then
          if (x_2314 == 0) = true then
            some true
          else
            if (k_2190 == 8) = true then
              some ((decide (x_2314 > 127)))
            else
              some false
        else
          some false : Option (Bool)).bind fun t_2318 =>
        if t_2318 = true then
          ((some (((Api_Value.mk 0 0 ([]) ([])), at_2281, 4))).bind fun z_2323 => some (.inr z_2323)).bind fun z_2324 => some (.inr (.inr z_2324))
        else
          lt1 ((w64 ((w64 (n_2282 * 256)) + x_2314))) fun (n_2325 : Int) =>
          some (.inl (((w64 (at_2281 + 1)), n_2325, (w64 (i_2283 + 1)))))
      else none
  else
    some (.inr (.inl ((at_2281, n_2282))))
def r01_readInt (b_2187 : List UInt8) (at_2188 : Int) (t_2189 : Int) : Option (Api_Value × Int × Int) :=
  (if (decide (t_2189 < 32)) = true then
    some ((w64 (31 - t_2189)))
  else
    some ((w64 (t_2189 - 32))) : Option (Int)).bind fun k_2190 =>
  ((loopO (fun (v : Int × Int × Int) => r01_readInt_b1 b_2187 t_2189 k_2190 v.1 v.2.1 v.2.2) ((at_2188, 0, 0))).bind fun x => match x with
  | .inl (at_2302, n_2303) =>
    some (.inl ((at_2302, n_2303)))
  | .inr z => some z : Option ((Int × Int) ⊕ (Api_Value × Int × Int))).bind fun x => match x with
  | .inl (at_2258, n_2259) =>
    (if (decide (t_2189 < 32)) = true then
      lt1 ((w64 ((w64 (0 - n_2259)) - 1))) fun (n_2333 : Int) =>
      some n_2333
    else
      some n_2259 : Option (Int)).bind fun n_2329 =>
    some (((Api_Value.mk 1 n_2329 ([]) ([])), at_2258, 0))
  | .inr z => some z

def r01_readBytes_b1 (b_2335 : List UInt8) (at_2415 : Int) (l_2416 : List UInt8) : Option ((Int × List UInt8) ⊕ ((Int) ⊕ ((Int) ⊕ (Api_Value × Int × Int)))) :=
  if (decide (at_2415 < (b_2335.length : Int))) = true then
    if InR at_2415 b_2335.length then
      if (nth b_2335 at_2415.toNat != (0 : UInt8)) = true then
        if InR at_2415 b_2335.length then
          if Fits (l_2416.length + 1) 1 then
            lt1 ((l_2416 ++ (([nth b_2335 at_2415.toNat] : List UInt8)))) fun (l_2442 : List UInt8) =>
            some (.inl (((w64 (at_2415 + 1)), l_2442)))
          else none
        else none
      else
        if (decide ((w64 (at_2415 + 1)) ≥ (b_2335.length : Int))) = true then
          ((some (((Api_Value.mk 0 0 ([]) ([])), at_2415, 5))).bind fun z_2444 => some (.inr z_2444)).bind fun z_2445 => some (.inr (.inr z_2445))
        else
          if InR ((w64 (at_2415 + 1))) b_2335.length then
            if (nth b_2335 (((w64 (at_2415 + 1))).toNat) == (0 : UInt8)) = true then
              ((some (((Api_Value.mk 2 0 l_2416 ([])), (w64 (at_2415 + 2)), 0))).bind fun z_2447 => some (.inr z_2447)).bind fun z_2448 => some (.inr (.inr z_2448))
            else
              if InR ((w64 (at_2415 + 1))) b_2335.length then
                if (nth b_2335 (((w64 (at_2415 + 1))).toNat) != (255 : UInt8)) = true then
                  ((some (((Api_Value.mk 0 0 ([]) ([])), at_2415, 4))).bind fun z_2450 => some (.inr z_2450)).bind fun z_2451 => some (.inr (.inr z_2451))
                else
                  if Fits (l_2416.length + 1) 1 then
                    lt1 ((l_2416 ++ (([(0 : UInt8)] : List UInt8)))) fun (l_2453 : List UInt8) =>
                    some (.inl (((w64 (at_2415 + 2)), l_2453)))
                  else none
              else none
          else none
    else none
  else
    some (.inr (.inl at_2415))
def r01_readBytes (b_2335 : List UInt8) (at_2336 : Int) : Option (Api_Value × Int × Int) :=
  lt1 (([] : List UInt8)) fun (l_2337 : List UInt8) =>
  ((loopO (fun (v : Int × List UInt8) => r01_readBytes_b1 b_2335 v.1 v.2) ((at_2336, l_2337))).bind fun x => match x with
  | .inl at_2433 =>
    some (.inl at_2433)
  | .inr z => some z : Option ((Int) ⊕ (Api_Value × Int × Int))).bind fun x => match x with
  | .inl at_2395 =>
    some (((Api_Value.mk 0 0 ([]) ([])), at_2395, 5))
  | .inr z => some z

def r01_readList_b1 (rec_2455 : (List UInt8) → Int → Option (Api_Value × Int × Int)) (b_2456 : List UInt8) (at_2512 : Int) (l_2513 : List Api_Value) : Option ((Int × List Api_Value) ⊕ ((Int) ⊕ ((Int) ⊕ (Api_Value × Int × Int)))) :=
  if (decide (at_2512 < (b_2456.length : Int))) = true then
    if InR at_2512 b_2456.length then
      if (nth b_2456 at_2512.toNat == (0 : UInt8)) = true then
        ((some (((Api_Value.mk 3 0 ([]) l_2513), (w64 (at_2512 + 1)), 0))).bind fun z_2531 => some (.inr z_2531)).bind fun z_2532 => some (.inr (.inr z_2532))
      else
        (rec_2455 b_2456 at_2512).bind fun y_2533 =>
        if (y_2533.2.2 != 0) = true then
          ((some (((Api_Value.mk 0 0 ([]) ([])), at_2512, y_2533.2.2))).bind fun z_2535 => some (.inr z_2535)).bind fun z_2536 => some (.inr (.inr z_2536))
        else
          if Fits (l_2513.length + 1) 64 then
            lt1 ((l_2513 ++ (([y_2533.1] : List Api_Value)))) fun (l_2538 : List Api_Value) =>
            some (.inl ((y_2533.2.1, l_2538)))
          else none
    else none
  else
    some (.inr (.inl at_2512))
def r01_readList (rec_2455 : (List UInt8) → Int → Option (Api_Value × Int × Int)) (b_2456 : List UInt8) (at_2457 : Int) : Option (Api_Value × Int × Int) :=
  lt1 (([] : List Api_Value)) fun (l_2458 : List Api_Value) =>
  ((loopO (fun (v : Int × List Api_Value) => r01_readList_b1 rec_2455 b_2456 v.1 v.2) ((at_2457, l_2458))).bind fun x => match x with
  | .inl at_2524 =>
    some (.inl at_2524)
  | .inr z => some z : Option ((Int) ⊕ (Api_Value × Int × Int))).bind fun x => match x with
  | .inl at_2498 =>
    some (((Api_Value.mk 0 0 ([]) ([])), at_2498, 5))
  | .inr z => some z

def r01_read_F (rec_ : (List UInt8) → Int → Option (Api_Value × Int × Int)) (b_2540 : List UInt8) (at_2541 : Int) : Option (Api_Value × Int × Int) :=
  if (decide (at_2541 ≥ (b_2540.length : Int))) = true then
    some (((Api_Value.mk 0 0 ([]) ([])), at_2541, 5))
  else
    if InR at_2541 b_2540.length then
      (if (decide (((nth b_2540 at_2541.toNat).toNat : Int) ≥ 23)) = true then
        some ((decide (((nth b_2540 at_2541.toNat).toNat : Int) ≤ 40)))
      else
        some false : Option (Bool)).bind fun t_2543 =>
      if t_2543 = true then
        (r01_readInt b_2540 ((w64 (at_2541 + 1))) (((nth b_2540 at_2541.toNat).toNat : Int))).bind fun y_2546 =>
        some ((y_2546.1, y_2546.2.1, y_2546.2.2))
      else
        if (((nth b_2540 at_2541.toNat).toNat : Int) == 48) = true then
          (r01_readBytes b_2540 ((w64 (at_2541 + 1)))).bind fun y_2548 =>
          some ((y_2548.1, y_2548.2.1, y_2548.2.2))
        else
          if (((nth b_2540 at_2541.toNat).toNat : Int) == 64) = true then
            (r01_readList rec_ b_2540 ((w64 (at_2541 + 1)))).bind fun y_2550 =>
            some ((y_2550.1, y_2550.2.1, y_2550.2.2))
          else
            some (((Api_Value.mk 0 0 ([]) ([])), at_2541, 4))
    else none
def r01_read_n (n : Nat) : (List UInt8) → Int → Option (Api_Value × Int × Int) := match n with
  | 0 => fun _ _ => none
  | n + 1 => r01_read_F (r01_read_n n)
def r01_read (b_2540 : List UInt8) (at_2541 : Int) : Option (Api_Value × Int × Int) := r01_read_n 18446744073709551616 b_2540 at_2541

def r01_Decode (b_2552 : List UInt8) : Option (Api_Value × Int) :=
  if (decide ((b_2552.length : Int) > 65536)) = true then
    some (((Api_Value.mk 0 0 ([]) ([])), 2))
  else
    (r01_read b_2552 0).bind fun y_2553 =>
    if (y_2553.2.2 != 0) = true then
      some (((Api_Value.mk 0 0 ([]) ([])), y_2553.2.2))
    else
      if (decide (y_2553.2.1 < (b_2552.length : Int))) = true then
        some (((Api_Value.mk 0 0 ([]) ([])), 4))
      else
        (r01_Nesting y_2553.1).bind fun y_2555 =>
        if (decide (y_2555 > 16)) = true then
          some (((Api_Value.mk 0 0 ([]) ([])), 2))
        else
          some ((y_2553.1, 0))

noncomputable def codec_decoder_next_out (r : (UInt8 × Codec_decoder) ⊕ (Int × Codec_decoder)) : Out := match r with
  | .inl r => .ret (u8 r.1) [.box [.sl false (L cU8 r.2.b)] false]
  | .inr r => .pan (.iface 57 (.int .i64 r.1)) [.box [.sl false (L cU8 r.2.b)] false]
def codec_decoder_next (d_2557 : Codec_decoder) : Option ((UInt8 × Codec_decoder) ⊕ (Int × Codec_decoder)) :=
  if ((d_2557.b.length : Int) == 0) = true then
    some (.inr ((5, d_2557)))
  else
    if InR 0 d_2557.b.length then
      if InB 1 d_2557.b.length then
        lt1 (((d_2557.b.drop 1).take (d_2557.b.length - 1))) fun (f_2560 : List UInt8) =>
        some (.inl ((nth d_2557.b 0, ({ b := f_2560 } : Codec_decoder))))
      else none
    else none

noncomputable def codec_decoder_integer_out (r : (Api_Value × Codec_decoder) ⊕ (Int × Codec_decoder)) : Out := match r with
  | .inl r => .ret (.agg [i64 r.1.Kind, i64 r.1.N, .sl false (L cU8 r.1.B), .sl false (L cApi_Value r.1.L)]) [.box [.sl false (L cU8 r.2.b)] false]
  | .inr r => .pan (.iface 57 (.int .i64 r.1)) [.box [.sl false (L cU8 r.2.b)] false]
def codec_decoder_integer_b1 (k_2563 : Int) (flip_2564 : UInt8) (u_2640 : UInt64) (t_2641 : Int) (f_2642 : List UInt8) : Option ((UInt64 × Int × List UInt8) ⊕ ((UInt64 × List UInt8) ⊕ ((UInt64 × List UInt8) ⊕ ((Api_Value × Codec_decoder) ⊕ (Int × Codec_decoder))))) :=
  if (decide (t_2641 < k_2563)) = true then
    (codec_decoder_next (({ b := f_2642 } : Codec_decoder))).bind fun y_2665 =>
    match y_2665 with
    | .inl v_2666 =>
      (if (t_2641 == 0) = true then
        if ((v_2666.1 ^^^ flip_2564) == (0 : UInt8)) = true then
          some true
        else
          if (k_2563 == 8) = true then
            some ((decide ((v_2666.1 ^^^ flip_2564) > (127 : UInt8))))
          else
            some false
      else
        some false : Option (Bool)).bind fun t_2671 =>
      if t_2671 = true then
        ((some (.inr ((4, v_2666.2)))).bind fun z_2676 => some (.inr z_2676)).bind fun z_2677 => some (.inr (.inr z_2677))
      else
        lt1 (((shl64 u_2640 ((8 : UInt64)).toNat) ||| ((v_2666.1 ^^^ flip_2564)).toUInt64)) fun (u_2678 : UInt64) =>
        some (.inl ((u_2678, (w64 (t_2641 + 1)), v_2666.2.b)))
    | .inr v_2667 =>
      ((some (.inr ((v_2667.1, v_2667.2)))).bind fun z_2669 => some (.inr z_2669)).bind fun z_2670 => some (.inr (.inr z_2670))
  else
    some (.inr (.inl ((u_2640, f_2642))))
def codec_decoder_integer (d_2562 : Codec_decoder) (k_2563 : Int) (flip_2564 : UInt8) : Option ((Api_Value × Codec_decoder) ⊕ (Int × Codec_decoder)) :=
  ((loopO (fun (v : UInt64 × Int × List UInt8) => codec_decoder_integer_b1 k_2563 flip_2564 v.1 v.2.1 v.2.2) (((0 : UInt64), 0, d_2562.b))).bind fun x => match x with
  | .inl (u_2658, f_2659) =>
    some (.inl ((u_2658, f_2659)))
  | .inr z => some z : Option ((UInt64 × List UInt8) ⊕ ((Api_Value × Codec_decoder) ⊕ (Int × Codec_decoder)))).bind fun x => match x with
  | .inl (u_2620, f_2621) =>
    (if (flip_2564 != (0 : UInt8)) = true then
      some ((~~~u_2620))
    else
      some u_2620 : Option (UInt64)).bind fun u_2680 =>
    some (.inl (((Api_Value.mk 1 ((w64 (u_2680.toNat : Int))) ([]) ([])), ({ b := f_2621 } : Codec_decoder))))
  | .inr z => some z

noncomputable def codec_decoder_text_out (r : (Api_Value × Codec_decoder) ⊕ (Int × Codec_decoder)) : Out := match r with
  | .inl r => .ret (.agg [i64 r.1.Kind, i64 r.1.N, .sl false (L cU8 r.1.B), .sl false (L cApi_Value r.1.L)]) [.box [.sl false (L cU8 r.2.b)] false]
  | .inr r => .pan (.iface 57 (.int .i64 r.1)) [.box [.sl false (L cU8 r.2.b)] false]
def codec_decoder_text_b1 (f_2703 : List UInt8) (l_2704 : List UInt8) : Option ((List UInt8 × List UInt8) ⊕ ((Api_Value × Codec_decoder) ⊕ (Int × Codec_decoder))) :=
  (codec_decoder_next (({ b := f_2703 } : Codec_decoder))).bind fun y_2728 =>
  match y_2728 with
  | .inl v_2729 =>
    if (v_2729.1 != (0 : UInt8)) = true then
      if Fits (l_2704.length + 1) 1 then
        lt1 ((l_2704 ++ (([v_2729.1] : List UInt8)))) fun (l_2734 : List UInt8) =>
        some (.inl ((v_2729.2.b, l_2734)))
      else none
    else
      (codec_decoder_next v_2729.2).bind fun y_2736 =>
      match y_2736 with
      | .inl v_2737 =>
        if (v_2737.1 == (0 : UInt8)) = true then
          (some (.inl (((Api_Value.mk 2 0 l_2704 ([])), v_2737.2)))).bind fun z_2741 => some (.inr z_2741)
        else
          if (v_2737.1 == (255 : UInt8)) = true then
            if Fits (l_2704.length + 1) 1 then
              lt1 ((l_2704 ++ (([(0 : UInt8)] : List UInt8)))) fun (l_2743 : List UInt8) =>
              some (.inl ((v_2737.2.b, l_2743)))
            else none
          else
            (some (.inr ((4, v_2737.2)))).bind fun z_2745 => some (.inr z_2745)
      | .inr v_2738 =>
        (some (.inr ((v_2738.1, v_2738.2)))).bind fun z_2740 => some (.inr z_2740)
  | .inr v_2730 =>
    (some (.inr ((v_2730.1, v_2730.2)))).bind fun z_2732 => some (.inr z_2732)
def codec_decoder_text (d_2684 : Codec_decoder) : Option ((Api_Value × Codec_decoder) ⊕ (Int × Codec_decoder)) :=
  (loopO (fun (v : List UInt8 × List UInt8) => codec_decoder_text_b1 v.1 v.2) ((d_2684.b, []))).bind fun z => some z

noncomputable def codec_decoder_value_out (r : (Api_Value × Codec_decoder) ⊕ (Int × Codec_decoder)) : Out := match r with
  | .inl r => .ret (.agg [i64 r.1.Kind, i64 r.1.N, .sl false (L cU8 r.1.B), .sl false (L cApi_Value r.1.L)]) [.box [.sl false (L cU8 r.2.b)] false]
  | .inr r => .pan (.iface 57 (.int .i64 r.1)) [.box [.sl false (L cU8 r.2.b)] false]
def codec_decoder_value_b1 (rec_ : Codec_decoder → UInt8 → Option ((Api_Value × Codec_decoder) ⊕ (Int × Codec_decoder))) (c_3034 : UInt8) (f_3035 : List UInt8) (l_3036 : List Api_Value) : Option ((UInt8 × List UInt8 × List Api_Value) ⊕ ((List UInt8 × List Api_Value) ⊕ ((List UInt8 × List Api_Value) ⊕ ((Unit) ⊕ ((Api_Value × Codec_decoder) ⊕ (Int × Codec_decoder)))))) :=
  if (c_3034 != (0 : UInt8)) = true then
    (rec_ (({ b := f_3035 } : Codec_decoder)) c_3034).bind fun y_3061 =>
    match y_3061 with
    | .inl v_3062 =>
      if Fits (l_3036.length + 1) 64 then
        lt1 ((l_3036 ++ (([v_3062.1] : List Api_Value)))) fun (l_3069 : List Api_Value) =>
        (codec_decoder_next v_3062.2).bind fun y_3071 =>
        match y_3071 with
        | .inl v_3072 =>
          some (.inl ((v_3072.1, v_3072.2.b, l_3069)))
        | .inr v_3073 =>
          (((some (.inr ((v_3073.1, v_3073.2)))).bind fun z_3075 => some (.inr z_3075)).bind fun z_3076 => some (.inr z_3076)).bind fun z_3077 => some (.inr (.inr z_3077))
      else none
    | .inr v_3063 =>
      (((some (.inr ((v_3063.1, v_3063.2)))).bind fun z_3065 => some (.inr z_3065)).bind fun z_3066 => some (.inr z_3066)).bind fun z_3067 => some (.inr (.inr z_3067))
  else
    some (.inr (.inl ((f_3035, l_3036))))
def codec_decoder_value_F (rec_ : Codec_decoder → UInt8 → Option ((Api_Value × Codec_decoder) ⊕ (Int × Codec_decoder))) (d_2746 : Codec_decoder) (t_2747 : UInt8) : Option ((Api_Value × Codec_decoder) ⊕ (Int × Codec_decoder)) :=
  ((if (decide (t_2747 ≥ (32 : UInt8))) = true then
    some ((decide (t_2747 ≤ (40 : UInt8))))
  else
    some false : Option (Bool)).bind fun t_2915 =>
  if t_2915 = true then
    (codec_decoder_integer d_2746 ((((t_2747 - (32 : UInt8))).toNat : Int)) ((0 : UInt8))).bind fun y_2918 =>
    match y_2918 with
    | .inl v_2919 =>
      (some (.inl ((v_2919.1, v_2919.2)))).bind fun z_2923 => some (.inr z_2923)
    | .inr v_2920 =>
      (some (.inr ((v_2920.1, v_2920.2)))).bind fun z_2922 => some (.inr z_2922)
  else
    (if (decide (t_2747 < (32 : UInt8))) = true then
      some ((decide (t_2747 ≥ (23 : UInt8))))
    else
      some false : Option (Bool)).bind fun t_2924 =>
    if t_2924 = true then
      (codec_decoder_integer d_2746 (((((31 : UInt8) - t_2747)).toNat : Int)) ((255 : UInt8))).bind fun y_2927 =>
      match y_2927 with
      | .inl v_2928 =>
        (some (.inl ((v_2928.1, v_2928.2)))).bind fun z_2932 => some (.inr z_2932)
      | .inr v_2929 =>
        (some (.inr ((v_2929.1, v_2929.2)))).bind fun z_2931 => some (.inr z_2931)
    else
      if (t_2747 == (48 : UInt8)) = true then
        (codec_decoder_text d_2746).bind fun y_2933 =>
        match y_2933 with
        | .inl v_2934 =>
          (some (.inl ((v_2934.1, v_2934.2)))).bind fun z_2938 => some (.inr z_2938)
        | .inr v_2935 =>
          (some (.inr ((v_2935.1, v_2935.2)))).bind fun z_2937 => some (.inr z_2937)
      else
        if (t_2747 == (64 : UInt8)) = true then
          ((codec_decoder_next d_2746).bind fun y_3011 =>
          match y_3011 with
          | .inl v_3012 =>
            (loopO (fun (v : UInt8 × List UInt8 × List Api_Value) => codec_decoder_value_b1 rec_ v.1 v.2.1 v.2.2) ((v_3012.1, v_3012.2.b, []))).bind fun x => match x with
            | .inl (f_3054, l_3055) =>
              some (.inl ((f_3054, l_3055)))
            | .inr z => some z
          | .inr v_3013 =>
            ((some (.inr ((v_3013.1, v_3013.2)))).bind fun z_3015 => some (.inr z_3015)).bind fun z_3016 => some (.inr z_3016) : Option ((List UInt8 × List Api_Value) ⊕ ((Unit) ⊕ ((Api_Value × Codec_decoder) ⊕ (Int × Codec_decoder))))).bind fun x => match x with
          | .inl (f_3006, l_3007) =>
            (some (.inl (((Api_Value.mk 3 0 ([]) l_3007), ({ b := f_3006 } : Codec_decoder))))).bind fun z_3078 => some (.inr z_3078)
          | .inr z => some z
        else
          some (.inl (())) : Option ((Unit) ⊕ ((Api_Value × Codec_decoder) ⊕ (Int × Codec_decoder)))).bind fun x => match x with
  | .inl () =>
    some (.inr ((4, d_2746)))
  | .inr z => some z
def codec_decoder_value_n (n : Nat) : Codec_decoder → UInt8 → Option ((Api_Value × Codec_decoder) ⊕ (Int × Codec_decoder)) := match n with
  | 0 => fun _ _ => none
  | n + 1 => codec_decoder_value_F (codec_decoder_value_n n)
def codec_decoder_value (d_2746 : Codec_decoder) (t_2747 : UInt8) : Option ((Api_Value × Codec_decoder) ⊕ (Int × Codec_decoder)) := codec_decoder_value_n 18446744073709551616 d_2746 t_2747

def codec_Decode (b_3079 : List UInt8) : Option (Api_Value × Int) :=
  if (decide ((b_3079.length : Int) > 65536)) = true then
    some (((Api_Value.mk 0 0 ([]) ([])), 2))
  else
    (codec_decoder_next (({ b := b_3079 } : Codec_decoder))).bind fun y_3080 =>
    match y_3080 with
    | .inl v_3081 =>
      (codec_decoder_value v_3081.2 v_3081.1).bind fun y_3082 =>
      match y_3082 with
      | .inl v_3083 =>
        if (decide ((v_3083.2.b.length : Int) > 0)) = true then
          some (((Api_Value.mk 0 0 ([]) ([])), 4))
        else
          (codec_shape v_3083.1).bind fun y_3088 =>
          if (decide (y_3088.1 > 16)) = true then
            some (((Api_Value.mk 0 0 ([]) ([])), 2))
          else
            some ((v_3083.1, 0))
      | .inr v_3084 =>
        some (((Api_Value.mk 0 0 ([]) ([])), v_3084.1))
    | .inr v_3085 =>
      some (((Api_Value.mk 0 0 ([]) ([])), v_3085.1))

def law01_encodes (v_3090 : Api_Value) (want_3091 : List UInt8) : Option (Bool) :=
  (codec_Encode v_3090).bind fun y_3092 =>
  (codec_Decode want_3091).bind fun y_3094 =>
  (if (y_3092.2 == 0) = true then
    if (y_3092.1 == want_3091) = true then
      if (y_3094.2 == 0) = true then
        (r01_Same v_3090 y_3094.1).bind fun y_3096 =>
        some y_3096
      else
        some false
    else
      some false
  else
    some false : Option (Bool)).bind fun t_3097 =>
  some t_3097

def law01_fails (s_3103 : List UInt8) (want_3104 : Int) : Option (Bool) :=
  (codec_Decode s_3103).bind fun y_3105 =>
  (if (y_3105.2 == want_3104) = true then
    (r01_Same y_3105.1 ((Api_Value.mk 0 0 ([]) ([])))).bind fun y_3107 =>
    some y_3107
  else
    some false : Option (Bool)).bind fun t_3108 =>
  some t_3108

def law01_sane  : Option (Bool) :=
  (r01_Text (([97] : List UInt8))).bind fun y_3112 =>
  (r01_Text (([97, 0] : List UInt8))).bind fun y_3114 =>
  (r01_Int 1).bind fun y_3116 =>
  (r01_List ([])).bind fun y_3117 =>
  (r01_List (([y_3116, y_3112, y_3117] : List Api_Value))).bind fun y_3118 =>
  lt1 (([(120 : UInt8)] : List UInt8)) fun (l_3122 : List UInt8) =>
  ((r01_Int 0).bind fun y_3124 =>
  (law01_encodes y_3124 (([32] : List UInt8))).bind fun y_3125 =>
  if (!y_3125) = true then
    some true
  else
    (r01_Int 1).bind fun y_3126 =>
    (law01_encodes y_3126 (([33, 1] : List UInt8))).bind fun y_3127 =>
    if (!y_3127) = true then
      some true
    else
      (r01_Int 255).bind fun y_3128 =>
      (law01_encodes y_3128 (([33, 255] : List UInt8))).bind fun y_3129 =>
      if (!y_3129) = true then
        some true
      else
        (r01_Int 256).bind fun y_3130 =>
        (law01_encodes y_3130 (([34, 1, 0] : List UInt8))).bind fun y_3131 =>
        some ((!y_3131)) : Option (Bool)).bind fun t_3132 =>
  if t_3132 = true then
    some false
  else
    ((r01_Int ((-1))).bind fun y_3145 =>
    (law01_encodes y_3145 (([31] : List UInt8))).bind fun y_3146 =>
    if (!y_3146) = true then
      some true
    else
      (r01_Int ((-2))).bind fun y_3147 =>
      (law01_encodes y_3147 (([30, 254] : List UInt8))).bind fun y_3148 =>
      if (!y_3148) = true then
        some true
      else
        (r01_Int ((-256))).bind fun y_3149 =>
        (law01_encodes y_3149 (([30, 0] : List UInt8))).bind fun y_3150 =>
        if (!y_3150) = true then
          some true
        else
          (r01_Int ((-257))).bind fun y_3151 =>
          (law01_encodes y_3151 (([29, 254, 255] : List UInt8))).bind fun y_3152 =>
          some ((!y_3152)) : Option (Bool)).bind fun t_3153 =>
    if t_3153 = true then
      some false
    else
      ((r01_Text (([] : List UInt8))).bind fun y_3166 =>
      (law01_encodes y_3166 (([48, 0, 0] : List UInt8))).bind fun y_3167 =>
      if (!y_3167) = true then
        some true
      else
        (law01_encodes y_3114 (([48, 97, 0, 255, 0, 0] : List UInt8))).bind fun y_3168 =>
        if (!y_3168) = true then
          some true
        else
          (r01_List ([])).bind fun y_3169 =>
          (law01_encodes y_3169 (([64, 0] : List UInt8))).bind fun y_3170 =>
          if (!y_3170) = true then
            some true
          else
            (law01_encodes y_3118 (([64, 33, 1, 48, 97, 0, 0, 64, 0, 0] : List UInt8))).bind fun y_3171 =>
            some ((!y_3171)) : Option (Bool)).bind fun t_3172 =>
      if t_3172 = true then
        some false
      else
        ((law01_fails (([] : List UInt8)) 5).bind fun y_3183 =>
        if (!y_3183) = true then
          some true
        else
          (law01_fails (([34, 1] : List UInt8)) 5).bind fun y_3184 =>
          if (!y_3184) = true then
            some true
          else
            (law01_fails (([48, 97, 0] : List UInt8)) 5).bind fun y_3185 =>
            if (!y_3185) = true then
              some true
            else
              (law01_fails (([64, 32] : List UInt8)) 5).bind fun y_3186 =>
              some ((!y_3186)) : Option (Bool)).bind fun t_3187 =>
        if t_3187 = true then
          some false
        else
          ((law01_fails (([33, 0] : List UInt8)) 4).bind fun y_3196 =>
          if (!y_3196) = true then
            some true
          else
            (law01_fails (([32, 32] : List UInt8)) 4).bind fun y_3197 =>
            if (!y_3197) = true then
              some true
            else
              (law01_fails (([48, 0, 1] : List UInt8)) 4).bind fun y_3198 =>
              if (!y_3198) = true then
                some true
              else
                (law01_fails (([65] : List UInt8)) 4).bind fun y_3199 =>
                if (!y_3199) = true then
                  some true
                else
                  (law01_fails (([40, 128] : List UInt8)) 4).bind fun y_3200 =>
                  some ((!y_3200)) : Option (Bool)).bind fun t_3201 =>
          if t_3201 = true then
            some false
          else
            ((codec_Check ((Api_Value.mk 1 0 l_3122 ([])))).bind fun y_3212 =>
            if (y_3212 == 10) = true then
              (codec_Check y_3118).bind fun y_3213 =>
              if (y_3213 == 0) = true then
                (r01_Int 1).bind fun y_3214 =>
                (r01_Int 256).bind fun y_3215 =>
                (codec_Compare y_3214 y_3215).bind fun y_3216 =>
                if (y_3216 == (-1)) = true then
                  (r01_Text (([] : List UInt8))).bind fun y_3217 =>
                  (r01_Int 256).bind fun y_3218 =>
                  (codec_Compare y_3217 y_3218).bind fun y_3219 =>
                  if (y_3219 == 1) = true then
                    (codec_Compare y_3112 y_3114).bind fun y_3220 =>
                    if (y_3220 == (-1)) = true then
                      (codec_Compare y_3112 y_3112).bind fun y_3221 =>
                      some ((y_3221 == 0))
                    else
                      some false
                  else
                    some false
                else
                  some false
              else
                some false
            else
              some false : Option (Bool)).bind fun t_3222 =>
            some t_3222

def law01_CodecMatchesReference (v_3239 : Api_Value) (w_3240 : Api_Value) : Option (Bool) :=
  law01_sane.bind fun y_3241 =>
  if (!y_3241) = true then
    some false
  else
    (codec_Encode v_3239).bind fun y_3243 =>
    (r01_Encode v_3239).bind fun y_3245 =>
    ((codec_Check v_3239).bind fun y_3247 =>
    (r01_Check v_3239).bind fun y_3248 =>
    if (y_3247 == y_3248) = true then
      if (y_3243.2 == y_3245.2) = true then
        (r01_SameBytes y_3243.1 y_3245.1).bind fun y_3249 =>
        if y_3249 = true then
          (codec_Compare v_3239 w_3240).bind fun y_3250 =>
          (r01_Compare v_3239 w_3240).bind fun y_3251 =>
          some ((y_3250 == y_3251))
        else
          some false
      else
        some false
    else
      some false : Option (Bool)).bind fun t_3252 =>
    some t_3252

def law01_CodecDecodeMatchesReference (b_3262 : List UInt8) : Option (Bool) :=
  law01_sane.bind fun y_3263 =>
  if (!y_3263) = true then
    some false
  else
    (codec_Decode b_3262).bind fun y_3265 =>
    (r01_Decode b_3262).bind fun y_3267 =>
    (if (y_3265.2 == y_3267.2) = true then
      (r01_Same y_3265.1 y_3267.1).bind fun y_3269 =>
      some y_3269
    else
      some false : Option (Bool)).bind fun t_3270 =>
    some t_3270

def law01_CodecRoundTrip (v_3274 : Api_Value) : Option (Bool) :=
  law01_sane.bind fun y_3275 =>
  if (!y_3275) = true then
    some false
  else
    (codec_Check v_3274).bind fun y_3277 =>
    (codec_Encode v_3274).bind fun y_3279 =>
    if (y_3277 != 0) = true then
      (if (y_3279.2 == y_3277) = true then
        if ((y_3279.1.length : Int) == 0) = true then
          if (y_3277 == 10) = true then
            some true
          else
            some ((y_3277 == 2))
        else
          some false
      else
        some false : Option (Bool)).bind fun t_3281 =>
      some t_3281
    else
      (codec_Decode y_3279.1).bind fun y_3286 =>
      (if (y_3279.2 == 0) = true then
        if (y_3286.2 == 0) = true then
          (r01_Same v_3274 y_3286.1).bind fun y_3288 =>
          if y_3288 = true then
            some ((decide ((y_3279.1.length : Int) ≤ 65536)))
          else
            some false
        else
          some false
      else
        some false : Option (Bool)).bind fun t_3289 =>
      some t_3289

def law01_CodecCanonical (b_3295 : List UInt8) : Option (Bool) :=
  law01_sane.bind fun y_3296 =>
  if (!y_3296) = true then
    some false
  else
    (codec_Decode b_3295).bind fun y_3298 =>
    if (y_3298.2 != 0) = true then
      ((r01_Same y_3298.1 ((Api_Value.mk 0 0 ([]) ([])))).bind fun y_3300 =>
      if y_3300 = true then
        if (y_3298.2 == 2) = true then
          some true
        else
          if (y_3298.2 == 5) = true then
            some true
          else
            some ((y_3298.2 == 4))
      else
        some false : Option (Bool)).bind fun t_3301 =>
      some t_3301
    else
      (codec_Encode y_3298.1).bind fun y_3307 =>
      (if (y_3307.2 == 0) = true then
        (r01_SameBytes b_3295 y_3307.1).bind fun y_3309 =>
        if y_3309 = true then
          (codec_Check y_3298.1).bind fun y_3310 =>
          some ((y_3310 == 0))
        else
          some false
      else
        some false : Option (Bool)).bind fun t_3311 =>
      some t_3311

def law01_CodecOrder (v_3317 : Api_Value) (w_3318 : Api_Value) : Option (Bool) :=
  law01_sane.bind fun y_3319 =>
  if (!y_3319) = true then
    some false
  else
    (codec_Encode v_3317).bind fun y_3321 =>
    (codec_Encode w_3318).bind fun y_3323 =>
    (if (y_3321.2 != 0) = true then
      some true
    else
      some ((y_3323.2 != 0)) : Option (Bool)).bind fun t_3325 =>
    if t_3325 = true then
      ((codec_Check v_3317).bind fun y_3328 =>
      if (y_3328 != 0) = true then
        some true
      else
        (codec_Check w_3318).bind fun y_3329 =>
        some ((y_3329 != 0)) : Option (Bool)).bind fun t_3330 =>
      some t_3330
    else
      (codec_Compare v_3317 w_3318).bind fun y_3335 =>
      ((r01_OrderBytes y_3321.1 y_3323.1).bind fun y_3337 =>
      if (y_3335 == y_3337) = true then
        (r01_Same v_3317 w_3318).bind fun y_3338 =>
        some (((y_3335 == 0) == y_3338))
      else
        some false : Option (Bool)).bind fun t_3339 =>
      some t_3339

def law01_CodecPrefixFree (v_3344 : Api_Value) (at_3345 : Int) (more_3346 : List UInt8) : Option (Bool) :=
  law01_sane.bind fun y_3347 =>
  if (!y_3347) = true then
    some false
  else
    (codec_Encode v_3344).bind fun y_3349 =>
    if (y_3349.2 != 0) = true then
      (codec_Check v_3344).bind fun y_3351 =>
      some ((y_3351 != 0))
    else
      if ((y_3349.1.length : Int) == 0) = true then
        some false
      else
        (r01_Around at_3345 ((y_3349.1.length : Int))).bind fun y_3353 =>
        if InB y_3353 y_3349.1.length then
          (codec_Decode ((y_3349.1.take y_3353.toNat))).bind fun y_3354 =>
          (r01_Joined y_3349.1 more_3346).bind fun y_3358 =>
          (codec_Decode y_3358).bind fun y_3359 =>
          if (y_3354.2 != 5) = true then
            some false
          else
            if ((more_3346.length : Int) == 0) = true then
              some ((y_3359.2 == 0))
            else
              lt1 ((decide ((more_3346.length : Int) > (w64 (65536 - (y_3349.1.length : Int)))))) fun (t_3362 : Bool) =>
              if t_3362 = true then
                some ((y_3359.2 == 2))
              else
                some ((y_3359.2 == 4))
        else none

def law01_CodecTotalOrder (u_3364 : Api_Value) (v_3365 : Api_Value) (w_3366 : Api_Value) : Option (Bool) :=
  law01_sane.bind fun y_3367 =>
  if (!y_3367) = true then
    some false
  else
    (codec_Compare u_3364 v_3365).bind fun y_3369 =>
    (codec_Compare v_3365 w_3366).bind fun y_3371 =>
    (codec_Compare u_3364 w_3366).bind fun y_3373 =>
    (if (decide (y_3369 < (-1))) = true then
      some true
    else
      if (decide (y_3369 > 1)) = true then
        some true
      else
        (codec_Compare v_3365 u_3364).bind fun y_3375 =>
        if (y_3375 != (w64 (0 - y_3369))) = true then
          some true
        else
          (codec_Compare u_3364 u_3364).bind fun y_3376 =>
          some ((y_3376 != 0)) : Option (Bool)).bind fun t_3377 =>
    if t_3377 = true then
      some false
    else
      (if (decide (y_3369 ≤ 0)) = true then
        some ((decide (y_3371 ≤ 0)))
      else
        some false : Option (Bool)).bind fun t_3384 =>
      if t_3384 = true then
        (if (decide (y_3373 ≤ 0)) = true then
          if (y_3369 == 0) = true then
            some (((y_3373 == 0) == (y_3371 == 0)))
          else
            some (((y_3373 == 0) == false))
        else
          some false : Option (Bool)).bind fun t_3387 =>
        some t_3387
      else
        (if (decide (y_3369 < 0)) = true then
          some true
        else
          if (decide (y_3371 < 0)) = true then
            some true
          else
            some ((decide (y_3373 ≥ 0))) : Option (Bool)).bind fun t_3391 =>
        some t_3391

def law01_CodecLists_b1 (l_3395 : List Api_Value) (i_3456 : Int) (l_3457 : List UInt8) : Option ((Int × List UInt8) ⊕ ((List UInt8) ⊕ ((List UInt8) ⊕ (Bool)))) :=
  if (decide (i_3456 < (l_3395.length : Int))) = true then
    if InR i_3456 l_3395.length then
      (codec_Encode (nth l_3395 i_3456.toNat)).bind fun y_3475 =>
      if (y_3475.2 != 0) = true then
        if InR i_3456 l_3395.length then
          (codec_Check (nth l_3395 i_3456.toNat)).bind fun y_3478 =>
          ((some ((y_3478 == y_3475.2))).bind fun z_3481 => some (.inr z_3481)).bind fun z_3482 => some (.inr (.inr z_3482))
        else none
      else
        if Fits (l_3457.length + y_3475.1.length) 1 then
          lt1 ((l_3457 ++ y_3475.1)) fun (l_3484 : List UInt8) =>
          some (.inl (((w64 (i_3456 + 1)), l_3484)))
        else none
    else none
  else
    some (.inr (.inl l_3457))
def law01_CodecLists (l_3395 : List Api_Value) : Option (Bool) :=
  law01_sane.bind fun y_3396 =>
  if (!y_3396) = true then
    some false
  else
    lt1 (([(64 : UInt8)] : List UInt8)) fun (l_3398 : List UInt8) =>
    ((loopO (fun (v : Int × List UInt8) => law01_CodecLists_b1 l_3395 v.1 v.2) ((0, l_3398))).bind fun x => match x with
    | .inl l_3469 =>
      some (.inl l_3469)
    | .inr z => some z : Option ((List UInt8) ⊕ (Bool))).bind fun x => match x with
    | .inl l_3441 =>
      if Fits (l_3441.length + 1) 1 then
        lt1 ((l_3441 ++ (([(0 : UInt8)] : List UInt8)))) fun (l_3487 : List UInt8) =>
        (r01_List l_3395).bind fun y_3489 =>
        (codec_Encode y_3489).bind fun y_3490 =>
        if (y_3490.2 != 0) = true then
          (if (y_3490.2 == 2) = true then
            if (decide ((l_3487.length : Int) > 65536)) = true then
              some true
            else
              (r01_List l_3395).bind fun y_3493 =>
              (r01_Nesting y_3493).bind fun y_3494 =>
              some ((decide (y_3494 > 16)))
          else
            some false : Option (Bool)).bind fun t_3495 =>
          some t_3495
        else
          (r01_SameBytes y_3490.1 l_3487).bind fun y_3501 =>
          some y_3501
      else none
    | .inr z => some z

def law01_CodecSpoiled (v_3503 : Api_Value) (at_3504 : Int) (by_3505 : UInt8) : Option (Bool) :=
  law01_sane.bind fun y_3506 =>
  if (!y_3506) = true then
    some false
  else
    (codec_Encode v_3503).bind fun y_3508 =>
    if (y_3508.2 != 0) = true then
      (codec_Check v_3503).bind fun y_3510 =>
      some ((y_3510 != 0))
    else
      if ((y_3508.1.length : Int) == 0) = true then
        some false
      else
        (r01_Joined y_3508.1 ([])).bind fun y_3512 =>
        (r01_Around at_3504 ((y_3508.1.length : Int))).bind fun y_3514 =>
        if InR y_3514 y_3512.length then
          lt1 ((y_3512.set y_3514.toNat by_3505)) fun (l_3517 : List UInt8) =>
          (codec_Decode l_3517).bind fun y_3519 =>
          (r01_SameBytes l_3517 y_3508.1).bind fun y_3521 =>
          if y_3521 = true then
            (if (y_3519.2 == 0) = true then
              (r01_Same v_3503 y_3519.1).bind fun y_3523 =>
              some y_3523
            else
              some false : Option (Bool)).bind fun t_3524 =>
            some t_3524
          else
            (if (y_3519.2 != 0) = true then
              some true
            else
              (r01_Same v_3503 y_3519.1).bind fun y_3528 =>
              some ((!y_3528)) : Option (Bool)).bind fun t_3529 =>
            some t_3529
        else none

def law01_CodecIntegers_b1 (size_3577 : Int) (rest_3578 : Int) : Option ((Int × Int) ⊕ (Int)) :=
  if (decide (rest_3578 > 0)) = true then
    lt1 ((w64 ((rest_3578 : Int).tdiv 256))) fun (rest_3589 : Int) =>
    some (.inl (((w64 (size_3577 + 1)), rest_3589)))
  else
    some (.inr size_3577)
def law01_CodecIntegers (m_3533 : Int) (n_3534 : Int) : Option (Bool) :=
  law01_sane.bind fun y_3535 =>
  if (!y_3535) = true then
    some false
  else
    (r01_Int m_3533).bind fun y_3537 =>
    (codec_Encode y_3537).bind fun y_3538 =>
    (r01_Int n_3534).bind fun y_3541 =>
    (codec_Encode y_3541).bind fun y_3542 =>
    (if (decide (n_3534 < 0)) = true then
      lt1 ((w64 (0 - (w64 (n_3534 + 1))))) fun (rest_3551 : Int) =>
      some rest_3551
    else
      some n_3534 : Option (Int)).bind fun rest_3547 =>
    ((loopO (fun (v : Int × Int) => law01_CodecIntegers_b1 v.1 v.2) ((1, rest_3547))).bind fun size_3582 =>
    some size_3582 : Option (Int)).bind fun size_3570 =>
    (if (y_3538.2 == 0) = true then
      if (y_3542.2 == 0) = true then
        (r01_OrderBytes y_3538.1 y_3542.1).bind fun y_3591 =>
        (r01_Order m_3533 n_3534).bind fun y_3592 =>
        if (y_3591 == y_3592) = true then
          some (((y_3542.1.length : Int) == size_3570))
        else
          some false
      else
        some false
    else
      some false : Option (Bool)).bind fun t_3593 =>
    some t_3593

end Go.Proofs.Ytihncddenjbecaa
/-
  The functions compute just that.
-/
namespace Go.Proofs.Ytihncddenjbecaa
open Go.Rv
set_option linter.unusedVariables false
set_option linter.unusedSimpArgs false
set_option maxRecDepth 20000

theorem codec_shape_F_con {rec_ : Api_Value → Option (Int × Bool)} (hrec : ∀ {v_1 : Api_Value} {r : Int × Bool}, rec_ v_1 = some r → Con B 34 [.agg [i64 v_1.Kind, i64 v_1.N, .sl false (L cU8 v_1.B), .sl false (L cApi_Value v_1.L)]] [] (fun r' σ' => r' = .tup [i64 r.1, .bool r.2] ∧ σ' = [])) {v_1 : Api_Value} {r : Int × Bool} (h : codec_shape_F rec_ v_1 = some r) : Con B 34 [.agg [i64 v_1.Kind, i64 v_1.N, .sl false (L cU8 v_1.B), .sl false (L cApi_Value v_1.L)]] [] (fun r' σ' => r' = .tup [i64 r.1, .bool r.2] ∧ σ' = []) := by
  refine con_walk (N := 64) (rs := [.tmp 2, .tmp 3]) ok Try.func34 rfl (by decide +kernel) rfl rfl (Nat.le_of_ble_eq_true rfl) (fun F => ?_)
  have hE := ok.env F
  unfold codec_shape_F at h
  show Run (B.env F) 0 _ ⟨asFr 64 [(0, .agg [i64 v_1.Kind, i64 v_1.N, .sl false (L cU8 v_1.B), .sl false (L cApi_Value v_1.L)])], []⟩ _
  refine run_textE hE [1, 2] (fr' := [(1, .ref 0 0), (2, i64 0)]) (σ' := [.box [i64 v_1.Kind, i64 v_1.N, .sl false (L cU8 v_1.B), .sl false (L cApi_Value v_1.L)] false]) ⟨_, orcs_nil, ?_⟩ ?_
  · simp only [go_sem, reduceIte, Nat.reduceLT, Nat.reduceEqDiff, Nat.reduceAdd]
  replace h := bind_some1 h; obtain ⟨j_79, hA_80, hj_81⟩ := h
  refine run_join (fun (v : Unit) => (⟨asFr 64 [], []⟩ : St)) (fun v => .inl v = j_79) ?_ ?_
  · have h := hA_80; clear hA_80
    refine run_textE hE [1, 2, 9] (fr' := [(1, .ref 0 0), (2, i64 0), (9, i64 v_1.Kind)]) (σ' := [.box [i64 v_1.Kind, i64 v_1.N, .sl false (L cU8 v_1.B), .sl false (L cApi_Value v_1.L)] false]) ⟨_, orcs_nil, ?_⟩ ?_
    · simp only [go_sem, reduceIte, Nat.reduceLT, Nat.reduceEqDiff, Nat.reduceAdd]
    refine run_block ?_
    refine run_textE hE [1, 2, 9, 10] (fr' := [(1, .ref 0 0), (2, i64 0), (9, i64 v_1.Kind), (10, .bool ((v_1.Kind == 1)))]) (σ' := [.box [i64 v_1.Kind, i64 v_1.N, .sl false (L cU8 v_1.B), .sl false (L cApi_Value v_1.L)] false]) ⟨_, orcs_nil, ?_⟩ ?_
    · simp only [go_sem, reduceIte, Nat.reduceLT, Nat.reduceEqDiff, Nat.reduceAdd]
    refine run_condL (b := (v_1.Kind == 1)) rfl (by decide) (fun hb => ?_) (fun hb => ?_)
    · replace h := ite_t h hb
      replace h := bind_some1 h; obtain ⟨ok_82, hv_83, h⟩ := h
      refine run_drawW hE mixed [[], [0], [0, 1], [0, 1, 2], [0, 1, 2, 3], [0, 1, 2, 3, 4], [0, 1, 2, 3, 4, 5], [0, 1, 2, 3, 4, 5, 6], [0, 1, 2, 3, 4, 5, 6, 7], [0, 1, 2, 3, 4, 5, 6, 7, 8], [0, 1, 2, 3, 4], [0, 1, 2, 3, 4, 5, 6, 7, 8, 9, 10]] (by kernel_rfl) (by kernel_rfl) [2, 3] (fr' := [(2, i64 0), (3, .bool ok_82)]) (σ' := []) ?_ ?_
      · rcases Bool.eq_false_or_eq_true (((v_1.B.length : Int) == 0)) with hb_84 | hb_84
        · replace hv_83 := ite_t hv_83 hb_84
          have e_hv_83 := Option.some.inj hv_83; subst e_hv_83
          exact ⟨_, [(2, i64 0), (3, .bool (((v_1.L.length : Int) == 0)))], [.box [i64 v_1.Kind, i64 v_1.N, .sl false (L cU8 v_1.B), .sl false (L cApi_Value v_1.L)] false], orcs_nil, by simp only [go_sem, reduceIte, Nat.reduceLT, Nat.reduceEqDiff, Nat.reduceAdd, hb_84], (weak_sel [] (by decide) rfl (by simp only [go_sem, reduceIte, Nat.reduceLT, Nat.reduceEqDiff, Nat.reduceAdd]) (by simp only [go_sem, reduceIte, Nat.reduceLT, Nat.reduceEqDiff, Nat.reduceAdd]))⟩
        · replace hv_83 := ite_f hv_83 hb_84
          have e_hv_83 := Option.some.inj hv_83; subst e_hv_83
          exact ⟨_, [(2, i64 0), (3, .bool false)], [.box [i64 v_1.Kind, i64 v_1.N, .sl false (L cU8 v_1.B), .sl false (L cApi_Value v_1.L)] false], orcs_nil, by simp only [go_sem, reduceIte, Nat.reduceLT, Nat.reduceEqDiff, Nat.reduceAdd, hb_84], (weak_sel [] (by decide) rfl (by simp only [go_sem, reduceIte, Nat.reduceLT, Nat.reduceEqDiff, Nat.reduceAdd]) (by simp only [go_sem, reduceIte, Nat.reduceLT, Nat.reduceEqDiff, Nat.reduceAdd]))⟩
      refine run_ret ?_
      refine blockK_r ?_
      refine joinK_r ?_
      replace h := bind_some1 h; obtain ⟨z_85, h, e_z_85⟩ := h
      obtain rfl := Option.some.inj e_z_85
      obtain rfl := Option.some.inj hj_81
      obtain rfl := Option.some.inj h
      refine ret_ok (.inr rfl) ?_
      simp only [go_sem, reduceIte, Nat.reduceLT, Nat.reduceEqDiff, Nat.reduceAdd]
    · replace h := ite_f h hb
      refine run_textE hE [1, 2, 9, 22] (fr' := [(1, .ref 0 0), (2, i64 0), (9, i64 v_1.Kind), (22, .bool ((v_1.Kind == 2)))]) (σ' := [.box [i64 v_1.Kind, i64 v_1.N, .sl false (L cU8 v_1.B), .sl false (L cApi_Value v_1.L)] false]) ⟨_, orcs_nil, ?_⟩ ?_
      · simp only [go_sem, reduceIte, Nat.reduceLT, Nat.reduceEqDiff, Nat.reduceAdd]
      refine run_condL (b := (v_1.Kind == 2)) rfl (by decide) (fun hb => ?_) (fun hb => ?_)
      · replace h := ite_t h hb
        replace h := bind_some1 h; obtain ⟨ok_86, hv_87, h⟩ := h
        refine run_drawW hE mixed [[], [0], [0, 1], [0, 1, 2], [0, 1, 2, 3], [0, 1, 2, 3, 4], [0, 1, 2, 3, 4, 5], [0, 1, 2, 3, 4, 5, 6], [0, 1, 2, 3, 4, 5, 6, 7], [0, 1, 2, 3], [0, 1, 2, 3, 4, 5, 6, 7, 8, 9]] (by kernel_rfl) (by kernel_rfl) [2, 3] (fr' := [(2, i64 0), (3, .bool ok_86)]) (σ' := []) ?_ ?_
        · rcases Bool.eq_false_or_eq_true ((v_1.N == 0)) with hb_88 | hb_88
          · replace hv_87 := ite_t hv_87 hb_88
            have e_hv_87 := Option.some.inj hv_87; subst e_hv_87
            exact ⟨_, [(2, i64 0), (3, .bool (((v_1.L.length : Int) == 0)))], [.box [i64 v_1.Kind, i64 v_1.N, .sl false (L cU8 v_1.B), .sl false (L cApi_Value v_1.L)] false], orcs_nil, by simp only [go_sem, reduceIte, Nat.reduceLT, Nat.reduceEqDiff, Nat.reduceAdd, hb_88], (weak_sel [] (by decide) rfl (by simp only [go_sem, reduceIte, Nat.reduceLT, Nat.reduceEqDiff, Nat.reduceAdd]) (by simp only [go_sem, reduceIte, Nat.reduceLT, Nat.reduceEqDiff, Nat.reduceAdd]))⟩
          · replace hv_87 := ite_f hv_87 hb_88
            have e_hv_87 := Option.some.inj hv_87; subst e_hv_87
            exact ⟨_, [(2, i64 0), (3, .bool false)], [.box [i64 v_1.Kind, i64 v_1.N, .sl false (L cU8 v_1.B), .sl false (L cApi_Value v_1.L)] false], orcs_nil, by simp only [go_sem, reduceIte, Nat.reduceLT, Nat.reduceEqDiff, Nat.reduceAdd, hb_88], (weak_sel [] (by decide) rfl (by simp only [go_sem, reduceIte, Nat.reduceLT, Nat.reduceEqDiff, Nat.reduceAdd]) (by simp only [go_sem, reduceIte, Nat.reduceLT, Nat.reduceEqDiff, Nat.reduceAdd]))⟩
        refine run_ret ?_
        refine blockK_r ?_
        refine joinK_r ?_
        replace h := bind_some1 h; obtain ⟨z_89, h, e_z_89⟩ := h
        obtain rfl := Option.some.inj e_z_89
        obtain rfl := Option.some.inj hj_81
        obtain rfl := Option.some.inj h
        refine ret_ok (.inr rfl) ?_
        simp only [go_sem, reduceIte, Nat.reduceLT, Nat.reduceEqDiff, Nat.reduceAdd]
      · replace h := ite_f h hb
        refine run_textE hE [1, 2, 33] (fr' := [(1, .ref 0 0), (2, i64 0), (33, .bool ((v_1.Kind == 3)))]) (σ' := [.box [i64 v_1.Kind, i64 v_1.N, .sl false (L cU8 v_1.B), .sl false (L cApi_Value v_1.L)] false]) ⟨_, orcs_nil, ?_⟩ ?_
        · simp only [go_sem, reduceIte, Nat.reduceLT, Nat.reduceEqDiff, Nat.reduceAdd]
        refine run_condL (b := (v_1.Kind == 3)) rfl (by decide) (fun hb => ?_) (fun hb => ?_)
        · replace h := ite_t h hb
          refine run_seq ?_
          replace h := bind_some1 h; obtain ⟨t_90, hv_91, h⟩ := h
          refine run_textW hE [1, 2, 43] (fr' := [(1, .ref 0 0), (2, i64 0), (43, .bool t_90)]) (σ' := [.box [i64 v_1.Kind, i64 v_1.N, .sl false (L cU8 v_1.B), .sl false (L cApi_Value v_1.L)] false]) ?_ ?_
          · rcases Bool.eq_false_or_eq_true ((v_1.N != 0)) with hb_92 | hb_92
            · replace hv_91 := ite_t hv_91 hb_92
              have e_hv_91 := Option.some.inj hv_91; subst e_hv_91
              exact ⟨_, [(1, .ref 0 0), (2, i64 0), (43, .bool true)], [.box [i64 v_1.Kind, i64 v_1.N, .sl false (L cU8 v_1.B), .sl false (L cApi_Value v_1.L)] false], orcs_nil, by simp only [go_sem, reduceIte, Nat.reduceLT, Nat.reduceEqDiff, Nat.reduceAdd, hb_92], (weak_sel [0] (by decide) rfl (by simp only [go_sem, reduceIte, Nat.reduceLT, Nat.reduceEqDiff, Nat.reduceAdd]) (by simp only [go_sem, reduceIte, Nat.reduceLT, Nat.reduceEqDiff, Nat.reduceAdd]))⟩
            · replace hv_91 := ite_f hv_91 hb_92
              have e_hv_91 := Option.some.inj hv_91; subst e_hv_91
              exact ⟨_, [(1, .ref 0 0), (2, i64 0), (43, .bool (((v_1.B.length : Int) != 0)))], [.box [i64 v_1.Kind, i64 v_1.N, .sl false (L cU8 v_1.B), .sl false (L cApi_Value v_1.L)] false], orcs_nil, by simp only [go_sem, reduceIte, Nat.reduceLT, Nat.reduceEqDiff, Nat.reduceAdd, hb_92], (weak_sel [0] (by decide) rfl (by simp only [go_sem, reduceIte, Nat.reduceLT, Nat.reduceEqDiff, Nat.reduceAdd]) (by simp only [go_sem, reduceIte, Nat.reduceLT, Nat.reduceEqDiff, Nat.reduceAdd]))⟩
          refine run_condL (b := t_90) rfl (by decide) (fun hb => ?_) (fun hb => ?_)
          · replace h := ite_t h hb
            refine run_textE hE [2, 3] (fr' := [(2, i64 0), (3, .bool false)]) (σ' := [.box [i64 v_1.Kind, i64 v_1.N, .sl false (L cU8 v_1.B), .sl false (L cApi_Value v_1.L)] false]) ⟨_, orcs_nil, ?_⟩ ?_
            · simp only [go_sem, reduceIte, Nat.reduceLT, Nat.reduceEqDiff, Nat.reduceAdd]
            refine run_ret ?_
            refine thenK_r ?_
            refine blockK_r ?_
            refine joinK_r ?_
            replace h := bind_some1 h; obtain ⟨z_93, h, e_z_93⟩ := h
            obtain rfl := Option.some.inj e_z_93
            obtain rfl := Option.some.inj hj_81
            obtain rfl := Option.some.inj h
            refine ret_ok (.inr rfl) ?_
            simp only [go_sem, reduceIte, Nat.reduceLT, Nat.reduceEqDiff, Nat.reduceAdd]
          · replace h := ite_f h hb
            refine run_skip ?_
            refine thenK_n ?_
            replace h := bind_some1 h; obtain ⟨j_125, hA_126, hj_127⟩ := h
            refine run_join (fun (v : Int) => (⟨asFr 64 [(2, i64 v)], []⟩ : St)) (fun v => .inl v = j_125) ?_ ?_
            · have h := hA_126; clear hA_126
              refine run_textE hE [2, 45, 46, 47] (fr' := [(2, i64 0), (45, .sl false (L cApi_Value v_1.L)), (46, i64 ((v_1.L.length : Int))), (47, i64 0)]) (σ' := [.box [i64 v_1.Kind, i64 v_1.N, .sl false (L cU8 v_1.B), .sl false (L cApi_Value v_1.L)] false]) ⟨_, orcs_nil, ?_⟩ ?_
              · simp only [go_sem, reduceIte, Nat.reduceLT, Nat.reduceEqDiff, Nat.reduceAdd]
              refine run_block ?_
              replace h := bind_some1 h; obtain ⟨x_145, hx_146, hj_147⟩ := h
              refine run_loopO hx_146 (fun (v : Int × Int) => (⟨asFr 64 [(2, i64 v.1), (45, .sl false (L cApi_Value v_1.L)), (46, i64 ((v_1.L.length : Int))), (47, i64 v.2)], []⟩ : St)) (weak_sel [] (by decide) rfl (by simp only [go_sem, reduceIte, Nat.reduceLT, Nat.reduceEqDiff, Nat.reduceAdd]) (by simp only [go_sem, reduceIte, Nat.reduceLT, Nat.reduceEqDiff, Nat.reduceAdd])) ?_
              rintro ⟨depth_134, t_135⟩ o_148 h hxx_149
              replace h : codec_shape_b1 v_1 rec_ depth_134 t_135 = some o_148 := h
              unfold codec_shape_b1 at h
              refine run_textE hE [2, 45, 46, 47, 48] (fr' := [(2, i64 depth_134), (45, .sl false (L cApi_Value v_1.L)), (46, i64 ((v_1.L.length : Int))), (47, i64 t_135), (48, .bool ((decide (t_135 < (v_1.L.length : Int)))))]) (σ' := []) ⟨_, orcs_nil, ?_⟩ ?_
              · simp only [go_sem, reduceIte, Nat.reduceLT, Nat.reduceEqDiff, Nat.reduceAdd]
              refine run_seq ?_
              refine run_condL (b := (decide (t_135 < (v_1.L.length : Int)))) rfl (by decide) (fun hb => ?_) (fun hb => ?_)
              · replace h := ite_t h hb
                refine run_skip ?_
                refine thenK_n ?_
                refine run_seq ?_
                refine run_block ?_
                replace h := chk_some h; obtain ⟨hc_150, h⟩ := h
                replace h := lt1_some h; obtain ⟨f_151, hz_152, h⟩ := h
                refine run_textE hE [2, 5, 45, 46, 47] (fr' := [(2, i64 depth_134), (5, .ref 0 0), (45, .sl false (L cApi_Value v_1.L)), (46, i64 ((v_1.L.length : Int))), (47, i64 t_135)]) (σ' := [.box [i64 f_151, i64 ((nth v_1.L t_135.toNat).N), .sl false (L cU8 ((nth v_1.L t_135.toNat).B)), .sl false (L cApi_Value ((nth v_1.L t_135.toNat).L))] false]) ⟨_, orcs_nil, ?_⟩ ?_
                · subst hz_152; simp only [go_sem, reduceIte, Nat.reduceLT, Nat.reduceEqDiff, Nat.reduceAdd, Int.reduceToNat, hc_150, hc_150.2, lt_le hc_150.2]
                replace h := bind_some1 h; obtain ⟨y_153, hy_154, h⟩ := h
                refine run_textE hE [2, 6, 7, 45, 46, 47] (fr' := [(2, i64 depth_134), (6, i64 y_153.1), (7, .bool y_153.2), (45, .sl false (L cApi_Value v_1.L)), (46, i64 ((v_1.L.length : Int))), (47, i64 t_135)]) (σ' := [.box [i64 f_151, i64 ((nth v_1.L t_135.toNat).N), .sl false (L cU8 ((nth v_1.L t_135.toNat).B)), .sl false (L cApi_Value ((nth v_1.L t_135.toNat).L))] false]) ⟨_, orcs_ok (l := [(53, 34, [.agg [i64 f_151, i64 ((nth v_1.L t_135.toNat).N), .sl false (L cU8 ((nth v_1.L t_135.toNat).B)), .sl false (L cApi_Value ((nth v_1.L t_135.toNat).L))]], .tup [i64 y_153.1, .bool y_153.2])]) ⟨hrec  hy_154, trivial⟩, ?_⟩ ?_
                · simp only [go_sem, reduceIte, Nat.reduceLT, Nat.reduceEqDiff, Nat.reduceAdd]
                refine run_seq ?_
                refine run_textE hE [2, 6, 45, 46, 47, 57] (fr' := [(2, i64 depth_134), (6, i64 y_153.1), (45, .sl false (L cApi_Value v_1.L)), (46, i64 ((v_1.L.length : Int))), (47, i64 t_135), (57, .bool ((!y_153.2)))]) (σ' := [.box [i64 f_151, i64 ((nth v_1.L t_135.toNat).N), .sl false (L cU8 ((nth v_1.L t_135.toNat).B)), .sl false (L cApi_Value ((nth v_1.L t_135.toNat).L))] false]) ⟨_, orcs_nil, ?_⟩ ?_
                · simp only [go_sem, reduceIte, Nat.reduceLT, Nat.reduceEqDiff, Nat.reduceAdd]
                refine run_condL (b := (!y_153.2)) rfl (by decide) (fun hb => ?_) (fun hb => ?_)
                · replace h := ite_t h hb
                  refine run_textE hE [2, 3] (fr' := [(2, i64 0), (3, .bool false)]) (σ' := [.box [i64 f_151, i64 ((nth v_1.L t_135.toNat).N), .sl false (L cU8 ((nth v_1.L t_135.toNat).B)), .sl false (L cApi_Value ((nth v_1.L t_135.toNat).L))] false]) ⟨_, orcs_nil, ?_⟩ ?_
                  · simp only [go_sem, reduceIte, Nat.reduceLT, Nat.reduceEqDiff, Nat.reduceAdd]
                  refine run_ret ?_
                  refine thenK_r ?_
                  refine blockK_r ?_
                  refine thenK_r ?_
                  refine lpK_r ?_
                  replace h := bind_some1 h; obtain ⟨z_157, h, e_z_157⟩ := h
                  obtain rfl := Option.some.inj e_z_157
                  have ex_z_157 := hxx_149 _ rfl
                  subst ex_z_157
                  obtain rfl := Option.some.inj hj_147
                  refine blockK_r ?_
                  refine joinK_r ?_
                  replace h := bind_some1 h; obtain ⟨z_156, h, e_z_156⟩ := h
                  obtain rfl := Option.some.inj e_z_156
                  obtain rfl := Option.some.inj hj_127
                  refine blockK_r ?_
                  refine joinK_r ?_
                  replace h := bind_some1 h; obtain ⟨z_155, h, e_z_155⟩ := h
                  obtain rfl := Option.some.inj e_z_155
                  obtain rfl := Option.some.inj hj_81
                  obtain rfl := Option.some.inj h
                  refine ret_ok (.inr rfl) ?_
                  simp only [go_sem, reduceIte, Nat.reduceLT, Nat.reduceEqDiff, Nat.reduceAdd]
                · replace h := ite_f h hb
                  refine run_skip ?_
                  refine thenK_n ?_
                  refine run_textE0 hE (wk_block wk_then) [2, 45, 46, 47] (fr' := [(2, i64 ((mx64 depth_134 y_153.1))), (45, .sl false (L cApi_Value v_1.L)), (46, i64 ((v_1.L.length : Int))), (47, i64 t_135)]) (σ' := [.box [i64 f_151, i64 ((nth v_1.L t_135.toNat).N), .sl false (L cU8 ((nth v_1.L t_135.toNat).B)), .sl false (L cApi_Value ((nth v_1.L t_135.toNat).L))] false]) ⟨_, orcs_nil, ?_⟩ ?_
                  · simp only [go_sem, reduceIte, Nat.reduceLT, Nat.reduceEqDiff, Nat.reduceAdd]
                  refine blockK_n ?_
                  refine thenK_n ?_
                  refine run_textE0 hE wk_lp [2, 45, 46, 47] (fr' := [(2, i64 ((mx64 depth_134 y_153.1))), (45, .sl false (L cApi_Value v_1.L)), (46, i64 ((v_1.L.length : Int))), (47, i64 ((w64 (t_135 + 1))))]) (σ' := [.box [i64 f_151, i64 ((nth v_1.L t_135.toNat).N), .sl false (L cU8 ((nth v_1.L t_135.toNat).B)), .sl false (L cApi_Value ((nth v_1.L t_135.toNat).L))] false]) ⟨_, orcs_nil, ?_⟩ ?_
                  · simp only [go_sem, reduceIte, Nat.reduceLT, Nat.reduceEqDiff, Nat.reduceAdd]
                  obtain rfl := Option.some.inj h
                  exact lpK_n (((mx64 depth_134 y_153.1), (w64 (t_135 + 1)))) rfl (weak_sel [] (by decide) rfl (by simp only [go_sem, reduceIte, Nat.reduceLT, Nat.reduceEqDiff, Nat.reduceAdd]) (by simp only [go_sem, reduceIte, Nat.reduceLT, Nat.reduceEqDiff, Nat.reduceAdd]))
              · replace h := ite_f h hb
                refine run_exit ?_
                refine thenK_x ?_
                obtain rfl := Option.some.inj h
                have ex_x_145 := hxx_149 _ rfl
                subst ex_x_145
                have h := hj_147; clear hj_147
                refine lpK_x ?_
                refine blockK_x ?_
                obtain rfl := Option.some.inj h
                exact joinK_n depth_134 rfl ((weak_sel (l' := [(2, i64 depth_134)]) (σ' := []) [] (by decide) rfl (by simp only [go_sem, reduceIte, Nat.reduceLT, Nat.reduceEqDiff, Nat.reduceAdd]) (by simp only [go_sem, reduceIte, Nat.reduceLT, Nat.reduceEqDiff, Nat.reduceAdd])).trans (weak_sel [] (by decide) rfl (by simp only [go_sem, reduceIte, Nat.reduceLT, Nat.reduceEqDiff, Nat.reduceAdd]) (by simp only [go_sem, reduceIte, Nat.reduceLT, Nat.reduceEqDiff, Nat.reduceAdd])))
            rintro depth_124 rfl
            have h := hj_127; clear hj_127
            refine run_textE hE [2, 3] (fr' := [(2, i64 ((w64 (depth_124 + 1)))), (3, .bool true)]) (σ' := []) ⟨_, orcs_nil, ?_⟩ ?_
            · simp only [go_sem, reduceIte, Nat.reduceLT, Nat.reduceEqDiff, Nat.reduceAdd]
            refine run_ret ?_
            refine blockK_r ?_
            refine joinK_r ?_
            replace h := bind_some1 h; obtain ⟨z_158, h, e_z_158⟩ := h
            obtain rfl := Option.some.inj e_z_158
            obtain rfl := Option.some.inj hj_81
            obtain rfl := Option.some.inj h
            refine ret_ok (.inr rfl) ?_
            simp only [go_sem, reduceIte, Nat.reduceLT, Nat.reduceEqDiff, Nat.reduceAdd]
        · replace h := ite_f h hb
          refine run_skip ?_
          refine blockK_n ?_
          obtain rfl := Option.some.inj h
          exact joinK_n (()) rfl (weak_sel [] (by decide) rfl (by simp only [go_sem, reduceIte, Nat.reduceLT, Nat.reduceEqDiff, Nat.reduceAdd]) (by simp only [go_sem, reduceIte, Nat.reduceLT, Nat.reduceEqDiff, Nat.reduceAdd]))
  rintro ⟨⟩ rfl
  have h := hj_81; clear hj_81
  refine run_textE hE [2, 3] (fr' := [(2, i64 0), (3, .bool false)]) (σ' := []) ⟨_, orcs_nil, ?_⟩ ?_
  · simp only [go_sem, reduceIte, Nat.reduceLT, Nat.reduceEqDiff, Nat.reduceAdd]
  refine run_ret ?_
  obtain rfl := Option.some.inj h
  refine ret_ok (.inr rfl) ?_
  simp only [go_sem, reduceIte, Nat.reduceLT, Nat.reduceEqDiff, Nat.reduceAdd]
theorem codec_shape_n_con (n : Nat) : ∀ {v_1 : Api_Value} {r : Int × Bool}, codec_shape_n n v_1 = some r → Con B 34 [.agg [i64 v_1.Kind, i64 v_1.N, .sl false (L cU8 v_1.B), .sl false (L cApi_Value v_1.L)]] [] (fun r' σ' => r' = .tup [i64 r.1, .bool r.2] ∧ σ' = []) := by
  induction n with
  | zero => intro v_1 r h; cases h
  | succ n ih => intro v_1 r h; exact codec_shape_F_con ih h
theorem codec_shape_con {v_1 : Api_Value} {r : Int × Bool} (h : codec_shape v_1 = some r) : Con B 34 [.agg [i64 v_1.Kind, i64 v_1.N, .sl false (L cU8 v_1.B), .sl false (L cApi_Value v_1.L)]] [] (fun r' σ' => r' = .tup [i64 r.1, .bool r.2] ∧ σ' = []) := codec_shape_n_con _ h

theorem codec_appendInt_1_con {u_159 : UInt64} {r : Int} (h : codec_appendInt_1 u_159 = some r) : Con B 54 [u64 u_159] [] (fun r' σ' => r' = i64 r ∧ σ' = []) := by
  refine con_walk (N := 10) (rs := [.tmp 2]) ok Try.func54 rfl (by decide +kernel) rfl rfl (Nat.le_of_ble_eq_true rfl) (fun F => ?_)
  have hE := ok.env F
  unfold codec_appendInt_1 at h
  show Run (B.env F) 0 _ ⟨asFr 10 [(0, u64 u_159)], []⟩ _
  refine run_textE hE [0, 2] (fr' := [(0, u64 u_159), (2, i64 0)]) (σ' := []) ⟨_, orcs_nil, ?_⟩ ?_
  · simp only [go_sem, reduceIte, Nat.reduceLT, Nat.reduceEqDiff, Nat.reduceAdd]
  replace h := bind_some1 h; obtain ⟨j_175, hA_176, hj_177⟩ := h
  refine run_join (fun (v : Int) => (⟨asFr 10 [(2, i64 v)], []⟩ : St)) (fun v => v = j_175) ?_ ?_
  · have h := hA_176; clear hA_176
    refine run_block ?_
    replace h := bind_some1 h; obtain ⟨x_185, hx_186, hj_187⟩ := h
    refine run_loopO hx_186 (fun (v : UInt64 × Int) => (⟨asFr 10 [(0, u64 v.1), (2, i64 v.2)], []⟩ : St)) (weak_sel [] (by decide) rfl (by simp only [go_sem, reduceIte, Nat.reduceLT, Nat.reduceEqDiff, Nat.reduceAdd]) (by simp only [go_sem, reduceIte, Nat.reduceLT, Nat.reduceEqDiff, Nat.reduceAdd])) ?_
    rintro ⟨u_180, k_181⟩ o_188 h hxx_189
    replace h : codec_appendInt_1_b1 u_180 k_181 = some o_188 := h
    unfold codec_appendInt_1_b1 at h
    refine run_seq ?_
    refine run_textE hE [0, 2, 4] (fr' := [(0, u64 u_180), (2, i64 k_181), (4, .bool ((decide (u_180 > (0 : UInt64)))))]) (σ' := []) ⟨_, orcs_nil, ?_⟩ ?_
    · simp only [go_sem, reduceIte, Nat.reduceLT, Nat.reduceEqDiff, Nat.reduceAdd]
    refine run_condL (b := (decide (u_180 > (0 : UInt64)))) rfl (by decide) (fun hb => ?_) (fun hb => ?_)
    · replace h := ite_t h hb
      refine run_skip ?_
      refine thenK_n ?_
      refine run_seq ?_
      refine run_block ?_
      refine run_textE0 hE (wk_block wk_then) [0, 2] (fr' := [(0, u64 u_180), (2, i64 ((w64 (k_181 + 1))))]) (σ' := []) ⟨_, orcs_nil, ?_⟩ ?_
      · simp only [go_sem, reduceIte, Nat.reduceLT, Nat.reduceEqDiff, Nat.reduceAdd]
      refine blockK_n ?_
      refine thenK_n ?_
      replace h := lt1_some h; obtain ⟨u_190, hz_191, h⟩ := h
      refine run_textE0 hE wk_lp [0, 2] (fr' := [(0, u64 u_190), (2, i64 ((w64 (k_181 + 1))))]) (σ' := []) ⟨_, orcs_nil, ?_⟩ ?_
      · subst hz_191; simp only [go_sem, reduceIte, Nat.reduceLT, Nat.reduceEqDiff, Nat.reduceAdd]
      obtain rfl := Option.some.inj h
      exact lpK_n ((u_190, (w64 (k_181 + 1)))) rfl (weak_sel [] (by decide) rfl (by simp only [go_sem, reduceIte, Nat.reduceLT, Nat.reduceEqDiff, Nat.reduceAdd]) (by simp only [go_sem, reduceIte, Nat.reduceLT, Nat.reduceEqDiff, Nat.reduceAdd]))
    · replace h := ite_f h hb
      refine run_exit ?_
      refine thenK_x ?_
      obtain rfl := Option.some.inj h
      have ex_x_185 := hxx_189 _ rfl
      subst ex_x_185
      have h := hj_187; clear hj_187
      refine lpK_x ?_
      refine blockK_x ?_
      obtain rfl := Option.some.inj h
      exact joinK_n k_181 rfl ((weak_sel (l' := [(2, i64 k_181)]) (σ' := []) [] (by decide) rfl (by simp only [go_sem, reduceIte, Nat.reduceLT, Nat.reduceEqDiff, Nat.reduceAdd]) (by simp only [go_sem, reduceIte, Nat.reduceLT, Nat.reduceEqDiff, Nat.reduceAdd])).trans (weak_sel [] (by decide) rfl (by simp only [go_sem, reduceIte, Nat.reduceLT, Nat.reduceEqDiff, Nat.reduceAdd]) (by simp only [go_sem, reduceIte, Nat.reduceLT, Nat.reduceEqDiff, Nat.reduceAdd])))
  rintro k_174 rfl
  have h := hj_177; clear hj_177
  refine run_textE hE [2] (fr' := [(2, i64 k_174)]) (σ' := []) ⟨_, orcs_nil, ?_⟩ ?_
  · simp only [go_sem, reduceIte, Nat.reduceLT, Nat.reduceEqDiff, Nat.reduceAdd]
  refine run_ret ?_
  obtain rfl := Option.some.inj h
  refine ret_ok (.inr rfl) ?_
  simp only [go_sem, reduceIte, Nat.reduceLT, Nat.reduceEqDiff, Nat.reduceAdd]

end Go.Proofs.Ytihncddenjbecaa
/-
  The functions compute just that.
-/
namespace Go.Proofs.Ytihncddenjbecaa
open Go.Rv
set_option linter.unusedVariables false
set_option linter.unusedSimpArgs false
set_option maxRecDepth 20000

theorem codec_appendInt_con {b_192 : List UInt8} {n_193 : Int} {r : List UInt8} (h : codec_appendInt b_192 n_193 = some r) : Con B 45 [.bs false 0 (b_192.length) 0 (b_192.length), i64 n_193] [.buf 1 (L cU8 b_192) false] (fun r' σ' => r' = .bs false 0 (r.length) 0 (r.length) ∧ σ' = [.buf 1 (L cU8 r) false]) := by
  refine con_walk_own (N := 48) (rs := [.tmp 4]) 1 rfl ok Try.func45 rfl (by decide +kernel) rfl rfl (Nat.le_of_ble_eq_true rfl) (fun F => ?_)
  have hE := ok.env F
  unfold codec_appendInt at h
  show Run (B.env F) 1 _ ⟨asFr 48 [(0, .bs false 0 (b_192.length) 0 (b_192.length)), (1, i64 n_193)], [.buf 1 (L cU8 b_192) false]⟩ _
  refine run_textE hE [0, 1] (fr' := [(0, .bs false 0 (b_192.length) 0 (b_192.length)), (1, i64 n_193)]) (σ' := [.buf 1 (L cU8 b_192) false]) ⟨_, orcs_nil, ?_⟩ ?_
  · simp only [go_sem, reduceIte, Nat.reduceLT, Nat.reduceEqDiff, Nat.reduceAdd]
  refine run_textE hE [0, 1, 5] (fr' := [(0, .bs false 0 (b_192.length) 0 (b_192.length)), (1, i64 n_193), (5, .fn 54 [])]) (σ' := [.buf 1 (L cU8 b_192) false]) ⟨_, orcs_nil, ?_⟩ ?_
  · simp only [go_sem, reduceIte, Nat.reduceLT, Nat.reduceEqDiff, Nat.reduceAdd]
  replace h := bind_some1 h; obtain ⟨y_258, hy_259, h⟩ := h
  refine run_textE hE [0, 1, 5, 6] (fr' := [(0, .bs false 0 (b_192.length) 0 (b_192.length)), (1, i64 n_193), (5, .fn 54 []), (6, i64 y_258)]) (σ' := [.buf 1 (L cU8 b_192) false]) ⟨_, orcs_ok (l := [(12, 54, [u64 ((UInt64.ofInt n_193))], i64 y_258)]) ⟨codec_appendInt_1_con  hy_259, trivial⟩, ?_⟩ ?_
  · simp only [go_sem, reduceIte, Nat.reduceLT, Nat.reduceEqDiff, Nat.reduceAdd]
  replace h := lt1_some h; obtain ⟨tag_260, hz_261, h⟩ := h
  refine run_textE hE [0, 1, 5, 6, 7] (fr' := [(0, .bs false 0 (b_192.length) 0 (b_192.length)), (1, i64 n_193), (5, .fn 54 []), (6, i64 y_258), (7, u8 tag_260)]) (σ' := [.buf 1 (L cU8 b_192) false]) ⟨_, orcs_nil, ?_⟩ ?_
  · subst hz_261; simp only [go_sem, reduceIte, Nat.reduceLT, Nat.reduceEqDiff, Nat.reduceAdd]
  replace h := bind_some1 h; obtain ⟨j_268, hA_269, hj_270⟩ := h
  refine run_join (fun (v : Int × UInt8) => (⟨asFr 48 [(0, .bs false 0 (b_192.length) 0 (b_192.length)), (1, i64 n_193), (6, i64 v.1), (7, u8 v.2)], [.buf 1 (L cU8 b_192) false]⟩ : St)) (fun v => v = j_268) ?_ ?_
  · have h := hA_269; clear hA_269
    refine run_textE hE [0, 1, 5, 6, 7, 17] (fr' := [(0, .bs false 0 (b_192.length) 0 (b_192.length)), (1, i64 n_193), (5, .fn 54 []), (6, i64 y_258), (7, u8 tag_260), (17, .bool ((decide (n_193 < 0))))]) (σ' := [.buf 1 (L cU8 b_192) false]) ⟨_, orcs_nil, ?_⟩ ?_
    · simp only [go_sem, reduceIte, Nat.reduceLT, Nat.reduceEqDiff, Nat.reduceAdd]
    refine run_condL (b := (decide (n_193 < 0))) rfl (by decide) (fun hb => ?_) (fun hb => ?_)
    · replace h := ite_t h hb
      replace h := bind_some1 h; obtain ⟨y_271, hy_272, h⟩ := h
      refine run_textE hE [0, 1, 6] (fr' := [(0, .bs false 0 (b_192.length) 0 (b_192.length)), (1, i64 n_193), (6, i64 y_271)]) (σ' := [.buf 1 (L cU8 b_192) false]) ⟨_, orcs_ok (l := [(22, 54, [u64 ((~~~(UInt64.ofInt n_193)))], i64 y_271)]) ⟨codec_appendInt_1_con  hy_272, trivial⟩, ?_⟩ ?_
      · simp only [go_sem, reduceIte, Nat.reduceLT, Nat.reduceEqDiff, Nat.reduceAdd]
      replace h := lt1_some h; obtain ⟨tag_273, hz_274, h⟩ := h
      refine run_textE0 hE wk_join [0, 1, 6, 7] (fr' := [(0, .bs false 0 (b_192.length) 0 (b_192.length)), (1, i64 n_193), (6, i64 y_271), (7, u8 tag_273)]) (σ' := [.buf 1 (L cU8 b_192) false]) ⟨_, orcs_nil, ?_⟩ ?_
      · subst hz_274; simp only [go_sem, reduceIte, Nat.reduceLT, Nat.reduceEqDiff, Nat.reduceAdd]
      obtain rfl := Option.some.inj h
      exact joinK_n ((y_271, tag_273)) rfl (weak_sel [0] (by decide) rfl (by simp only [go_sem, reduceIte, Nat.reduceLT, Nat.reduceEqDiff, Nat.reduceAdd]) (by simp only [go_sem, reduceIte, Nat.reduceLT, Nat.reduceEqDiff, Nat.reduceAdd]))
    · replace h := ite_f h hb
      refine run_skip ?_
      obtain rfl := Option.some.inj h
      exact joinK_n ((y_258, tag_260)) rfl (weak_sel [0] (by decide) rfl (by simp only [go_sem, reduceIte, Nat.reduceLT, Nat.reduceEqDiff, Nat.reduceAdd]) (by simp only [go_sem, reduceIte, Nat.reduceLT, Nat.reduceEqDiff, Nat.reduceAdd]))
  rintro ⟨k_266, tag_267⟩ rfl
  have h := hj_270; clear hj_270
  replace h := chk_some h; obtain ⟨hc_275, h⟩ := h
  replace h := lt1_some h; obtain ⟨l_276, hz_277, h⟩ := h
  refine run_textE hE [0, 1, 6] (fr' := [(0, .bs false 0 (l_276.length) 0 (l_276.length)), (1, i64 n_193), (6, i64 k_266)]) (σ' := [.buf 1 (L cU8 l_276) false, .buf 1 (L cU8 (([tag_267] : List UInt8))) false]) ⟨_, orcs_nil, ?_⟩ ?_
  · subst hz_277; simp only [go_sem, reduceIte, Nat.reduceLT, Nat.reduceEqDiff, Nat.reduceAdd, Nat.reduceBEq, Nat.reduceMul, Nat.reduceSub, Nat.reduceGT, Nat.reducePow, Nat.reduceLeDiff, Int.reduceToNat, hc_275]
  replace h := bind_some1 h; obtain ⟨j_299, hA_300, hj_301⟩ := h
  refine run_join (fun (v : List UInt8) => (⟨asFr 48 [(0, .bs false 0 (v.length) 0 (v.length))], [.buf 1 (L cU8 v) false]⟩ : St)) (fun v => v = j_299) ?_ ?_
  · have h := hA_300; clear hA_300
    refine run_textE hE [0, 1, 6, 30, 31] (fr' := [(0, .bs false 0 (l_276.length) 0 (l_276.length)), (1, i64 n_193), (6, i64 k_266), (30, i64 k_266), (31, i64 0)]) (σ' := [.buf 1 (L cU8 l_276) false, .buf 1 (L cU8 (([tag_267] : List UInt8))) false]) ⟨_, orcs_nil, ?_⟩ ?_
    · simp only [go_sem, reduceIte, Nat.reduceLT, Nat.reduceEqDiff, Nat.reduceAdd]
    refine run_block ?_
    replace h := bind_some1 h; obtain ⟨x_313, hx_314, hj_315⟩ := h
    refine run_loopO hx_314 (fun (v : Int × List UInt8) => (⟨asFr 48 [(0, .bs false 0 (v.2.length) 0 (v.2.length)), (1, i64 n_193), (6, i64 k_266), (30, i64 k_266), (31, i64 v.1)], [.buf 1 (L cU8 v.2) false]⟩ : St)) (weak_sel [0] (by decide) rfl (by simp only [go_sem, reduceIte, Nat.reduceLT, Nat.reduceEqDiff, Nat.reduceAdd]) (by simp only [go_sem, reduceIte, Nat.reduceLT, Nat.reduceEqDiff, Nat.reduceAdd])) ?_
    rintro ⟨t_306, l_307⟩ o_316 h hxx_317
    replace h : codec_appendInt_b1 n_193 k_266 t_306 l_307 = some o_316 := h
    unfold codec_appendInt_b1 at h
    refine run_textE hE [0, 1, 6, 30, 31, 32] (fr' := [(0, .bs false 0 (l_307.length) 0 (l_307.length)), (1, i64 n_193), (6, i64 k_266), (30, i64 k_266), (31, i64 t_306), (32, .bool ((decide (t_306 < k_266))))]) (σ' := [.buf 1 (L cU8 l_307) false]) ⟨_, orcs_nil, ?_⟩ ?_
    · simp only [go_sem, reduceIte, Nat.reduceLT, Nat.reduceEqDiff, Nat.reduceAdd]
    refine run_seq ?_
    refine run_condL (b := (decide (t_306 < k_266))) rfl (by decide) (fun hb => ?_) (fun hb => ?_)
    · replace h := ite_t h hb
      refine run_skip ?_
      refine thenK_n ?_
      refine run_seq ?_
      refine run_block ?_
      refine run_textE hE [0, 1, 6, 8, 30, 31] (fr' := [(0, .bs false 0 (l_307.length) 0 (l_307.length)), (1, i64 n_193), (6, i64 k_266), (8, i64 t_306), (30, i64 k_266), (31, i64 t_306)]) (σ' := [.buf 1 (L cU8 l_307) false]) ⟨_, orcs_nil, ?_⟩ ?_
      · simp only [go_sem, reduceIte, Nat.reduceLT, Nat.reduceEqDiff, Nat.reduceAdd]
      replace h := chk_some h; obtain ⟨hc_318, h⟩ := h
      replace h := chk_some h; obtain ⟨hc_319, h⟩ := h
      replace h := lt1_some h; obtain ⟨l_320, hz_321, h⟩ := h
      refine run_textE0 hE (wk_block wk_then) [0, 1, 6, 30, 31] (fr' := [(0, .bs false 0 (l_320.length) 0 (l_320.length)), (1, i64 n_193), (6, i64 k_266), (30, i64 k_266), (31, i64 t_306)]) (σ' := [.buf 1 (L cU8 l_320) false, .buf 1 (L cU8 (([((shr64 ((UInt64.ofInt n_193)) (((w64 (8 * (w64 ((w64 (k_266 - 1)) - t_306))))).toNat))).toUInt8] : List UInt8))) false]) ⟨_, orcs_nil, ?_⟩ ?_
      · subst hz_321; simp only [go_sem, reduceIte, Nat.reduceLT, Nat.reduceEqDiff, Nat.reduceAdd, Nat.reduceBEq, Nat.reduceMul, Nat.reduceSub, Nat.reduceGT, Nat.reducePow, Nat.reduceLeDiff, Int.reduceToNat, hc_318, hc_319]
      refine blockK_n ?_
      refine thenK_n ?_
      refine run_textE0 hE wk_lp [0, 1, 6, 30, 31] (fr' := [(0, .bs false 0 (l_320.length) 0 (l_320.length)), (1, i64 n_193), (6, i64 k_266), (30, i64 k_266), (31, i64 ((w64 (t_306 + 1))))]) (σ' := [.buf 1 (L cU8 l_320) false, .buf 1 (L cU8 (([((shr64 ((UInt64.ofInt n_193)) (((w64 (8 * (w64 ((w64 (k_266 - 1)) - t_306))))).toNat))).toUInt8] : List UInt8))) false]) ⟨_, orcs_nil, ?_⟩ ?_
      · simp only [go_sem, reduceIte, Nat.reduceLT, Nat.reduceEqDiff, Nat.reduceAdd]
      obtain rfl := Option.some.inj h
      exact lpK_n (((w64 (t_306 + 1)), l_320)) rfl (weak_sel [0] (by decide) rfl (by simp only [go_sem, reduceIte, Nat.reduceLT, Nat.reduceEqDiff, Nat.reduceAdd]) (by simp only [go_sem, reduceIte, Nat.reduceLT, Nat.reduceEqDiff, Nat.reduceAdd]))
    · replace h := ite_f h hb
      refine run_exit ?_
      refine thenK_x ?_
      obtain rfl := Option.some.inj h
      have ex_x_313 := hxx_317 _ rfl
      subst ex_x_313
      have h := hj_315; clear hj_315
      refine lpK_x ?_
      refine blockK_x ?_
      obtain rfl := Option.some.inj h
      exact joinK_n l_307 rfl ((weak_sel (l' := [(0, .bs false 0 (l_307.length) 0 (l_307.length))]) (σ' := [.buf 1 (L cU8 l_307) false]) [0] (by decide) rfl (by simp only [go_sem, reduceIte, Nat.reduceLT, Nat.reduceEqDiff, Nat.reduceAdd]) (by simp only [go_sem, reduceIte, Nat.reduceLT, Nat.reduceEqDiff, Nat.reduceAdd])).trans (weak_sel [0] (by decide) rfl (by simp only [go_sem, reduceIte, Nat.reduceLT, Nat.reduceEqDiff, Nat.reduceAdd]) (by simp only [go_sem, reduceIte, Nat.reduceLT, Nat.reduceEqDiff, Nat.reduceAdd])))
  rintro l_298 rfl
  have h := hj_301; clear hj_301
  refine run_textE hE [4] (fr' := [(4, .bs false 0 (l_298.length) 0 (l_298.length))]) (σ' := [.buf 1 (L cU8 l_298) false]) ⟨_, orcs_nil, ?_⟩ ?_
  · simp only [go_sem, reduceIte, Nat.reduceLT, Nat.reduceEqDiff, Nat.reduceAdd]
  refine run_ret ?_
  obtain rfl := Option.some.inj h
  refine ret_own (.inr rfl) [0] (by decide) rfl ?_ ?_
  · simp only [go_sem, reduceIte, Nat.reduceLT, Nat.reduceEqDiff, Nat.reduceAdd]
  · simp only [go_sem, reduceIte, Nat.reduceLT, Nat.reduceEqDiff, Nat.reduceAdd]

end Go.Proofs.Ytihncddenjbecaa
/-
  The functions compute just that.
-/
namespace Go.Proofs.Ytihncddenjbecaa
open Go.Rv
set_option linter.unusedVariables false
set_option linter.unusedSimpArgs false
set_option maxRecDepth 20000

theorem codec_appendValue_F_con {rec_ : (List UInt8) → Api_Value → Option (List UInt8)} (hrec : ∀ {b_322 : List UInt8} {v_323 : Api_Value} {r : List UInt8}, rec_ b_322 v_323 = some r → Con B 35 [.bs false 0 (b_322.length) 0 (b_322.length), .agg [i64 v_323.Kind, i64 v_323.N, .sl false (L cU8 v_323.B), .sl false (L cApi_Value v_323.L)]] [.buf 1 (L cU8 b_322) false] (fun r' σ' => r' = .bs false 0 (r.length) 0 (r.length) ∧ σ' = [.buf 1 (L cU8 r) false])) {b_322 : List UInt8} {v_323 : Api_Value} {r : List UInt8} (h : codec_appendValue_F rec_ b_322 v_323 = some r) : Con B 35 [.bs false 0 (b_322.length) 0 (b_322.length), .agg [i64 v_323.Kind, i64 v_323.N, .sl false (L cU8 v_323.B), .sl false (L cApi_Value v_323.L)]] [.buf 1 (L cU8 b_322) false] (fun r' σ' => r' = .bs false 0 (r.length) 0 (r.length) ∧ σ' = [.buf 1 (L cU8 r) false]) := by
  refine con_walk_own (N := 59) (rs := [.tmp 4]) 1 rfl ok Try.func35 rfl (by decide +kernel) rfl rfl (Nat.le_of_ble_eq_true rfl) (fun F => ?_)
  have hE := ok.env F
  unfold codec_appendValue_F at h
  show Run (B.env F) 1 _ ⟨asFr 59 [(0, .bs false 0 (b_322.length) 0 (b_322.length)), (1, .agg [i64 v_323.Kind, i64 v_323.N, .sl false (L cU8 v_323.B), .sl false (L cApi_Value v_323.L)])], [.buf 1 (L cU8 b_322) false]⟩ _
  refine run_textE hE [0, 3] (fr' := [(0, .bs false 0 (b_322.length) 0 (b_322.length)), (3, .ref 1 0)]) (σ' := [.buf 1 (L cU8 b_322) false, .box [i64 v_323.Kind, i64 v_323.N, .sl false (L cU8 v_323.B), .sl false (L cApi_Value v_323.L)] false]) ⟨_, orcs_nil, ?_⟩ ?_
  · simp only [go_sem, reduceIte, Nat.reduceLT, Nat.reduceEqDiff, Nat.reduceAdd]
  replace h := bind_some1 h; obtain ⟨j_764, hA_765, hj_766⟩ := h
  refine run_join (fun (v : Unit) => (⟨asFr 59 [(0, .bs false 0 (b_322.length) 0 (b_322.length)), (3, .ref 1 0)], [.buf 1 (L cU8 b_322) false, .box [i64 v_323.Kind, i64 v_323.N, .sl false (L cU8 v_323.B), .sl false (L cApi_Value v_323.L)] false]⟩ : St)) (fun v => .inl v = j_764) ?_ ?_
  · have h := hA_765; clear hA_765
    refine run_textE hE [0, 3, 10] (fr' := [(0, .bs false 0 (b_322.length) 0 (b_322.length)), (3, .ref 1 0), (10, i64 v_323.Kind)]) (σ' := [.buf 1 (L cU8 b_322) false, .box [i64 v_323.Kind, i64 v_323.N, .sl false (L cU8 v_323.B), .sl false (L cApi_Value v_323.L)] false]) ⟨_, orcs_nil, ?_⟩ ?_
    · simp only [go_sem, reduceIte, Nat.reduceLT, Nat.reduceEqDiff, Nat.reduceAdd]
    refine run_block ?_
    refine run_textE hE [0, 3, 10, 11] (fr' := [(0, .bs false 0 (b_322.length) 0 (b_322.length)), (3, .ref 1 0), (10, i64 v_323.Kind), (11, .bool ((v_323.Kind == 1)))]) (σ' := [.buf 1 (L cU8 b_322) false, .box [i64 v_323.Kind, i64 v_323.N, .sl false (L cU8 v_323.B), .sl false (L cApi_Value v_323.L)] false]) ⟨_, orcs_nil, ?_⟩ ?_
    · simp only [go_sem, reduceIte, Nat.reduceLT, Nat.reduceEqDiff, Nat.reduceAdd]
    refine run_condL (b := (v_323.Kind == 1)) rfl (by decide) (fun hb => ?_) (fun hb => ?_)
    · replace h := ite_t h hb
      replace h := bind_some1 h; obtain ⟨y_767, hy_768, h⟩ := h
      refine run_textE hE [4] (fr' := [(4, .bs false 0 (y_767.length) 0 (y_767.length))]) (σ' := [.buf 1 (L cU8 y_767) false, .box [i64 v_323.Kind, i64 v_323.N, .sl false (L cU8 v_323.B), .sl false (L cApi_Value v_323.L)] false]) ⟨_, orcs_ok2 (l := []) (m := [(16, 45, [.bs false 0 (b_322.length) 0 (b_322.length), i64 v_323.N], [.buf 1 (L cU8 b_322) false, .box [i64 v_323.Kind, i64 v_323.N, .sl false (L cU8 v_323.B), .sl false (L cApi_Value v_323.L)] false], .bs false 0 (y_767.length) 0 (y_767.length), [.buf 1 (L cU8 y_767) false, .box [i64 v_323.Kind, i64 v_323.N, .sl false (L cU8 v_323.B), .sl false (L cApi_Value v_323.L)] false])]) trivial ⟨(wcon_call (codec_appendInt_con hy_768) [0] (by decide) (by simp only [go_sem, reduceIte, Nat.reduceLT, Nat.reduceEqDiff, Nat.reduceAdd]) (by simp only [go_sem, reduceIte, Nat.reduceLT, Nat.reduceEqDiff, Nat.reduceAdd]) (by simp only [go_sem, reduceIte, Nat.reduceLT, Nat.reduceEqDiff, Nat.reduceAdd]) (by simp only [go_sem, reduceIte, Nat.reduceLT, Nat.reduceEqDiff, Nat.reduceAdd]) (by simp only [go_sem, reduceIte, Nat.reduceLT, Nat.reduceEqDiff, Nat.reduceAdd])), trivial⟩, ?_⟩ ?_
      · simp only [go_sem, reduceIte, Nat.reduceLT, Nat.reduceEqDiff, Nat.reduceAdd]
      refine run_ret ?_
      refine blockK_r ?_
      refine joinK_r ?_
      replace h := bind_some1 h; obtain ⟨z_769, h, e_z_769⟩ := h
      obtain rfl := Option.some.inj e_z_769
      obtain rfl := Option.some.inj hj_766
      obtain rfl := Option.some.inj h
      refine ret_own (.inr rfl) [0] (by decide) rfl ?_ ?_
      · simp only [go_sem, reduceIte, Nat.reduceLT, Nat.reduceEqDiff, Nat.reduceAdd]
      · simp only [go_sem, reduceIte, Nat.reduceLT, Nat.reduceEqDiff, Nat.reduceAdd]
    · replace h := ite_f h hb
      refine run_textE hE [0, 3, 17] (fr' := [(0, .bs false 0 (b_322.length) 0 (b_322.length)), (3, .ref 1 0), (17, .bool ((v_323.Kind == 2)))]) (σ' := [.buf 1 (L cU8 b_322) false, .box [i64 v_323.Kind, i64 v_323.N, .sl false (L cU8 v_323.B), .sl false (L cApi_Value v_323.L)] false]) ⟨_, orcs_nil, ?_⟩ ?_
      · simp only [go_sem, reduceIte, Nat.reduceLT, Nat.reduceEqDiff, Nat.reduceAdd]
      refine run_condL (b := (v_323.Kind == 2)) rfl (by decide) (fun hb => ?_) (fun hb => ?_)
      · replace h := ite_t h hb
        replace h := chk_some h; obtain ⟨hc_770, h⟩ := h
        replace h := lt1_some h; obtain ⟨l_771, hz_772, h⟩ := h
        refine run_textE hE [0, 3] (fr' := [(0, .bs false 0 (l_771.length) 0 (l_771.length)), (3, .ref 1 0)]) (σ' := [.buf 1 (L cU8 l_771) false, .box [i64 v_323.Kind, i64 v_323.N, .sl false (L cU8 v_323.B), .sl false (L cApi_Value v_323.L)] false, .buf 1 (L cU8 (([(48 : UInt8)] : List UInt8))) false]) ⟨_, orcs_nil, ?_⟩ ?_
        · subst hz_772; simp only [go_sem, reduceIte, Nat.reduceLT, Nat.reduceEqDiff, Nat.reduceAdd, Nat.reduceBEq, Nat.reduceMul, Nat.reduceSub, Nat.reduceGT, Nat.reducePow, Nat.reduceLeDiff, Int.reduceToNat, hc_770]
        replace h := bind_some1 h; obtain ⟨j_836, hA_837, hj_838⟩ := h
        refine run_join (fun (v : List UInt8) => (⟨asFr 59 [(0, .bs false 0 (v.length) 0 (v.length))], [.buf 1 (L cU8 v) false]⟩ : St)) (fun v => v = j_836) ?_ ?_
        · have h := hA_837; clear hA_837
          refine run_textE hE [0, 23, 24, 25] (fr' := [(0, .bs false 0 (l_771.length) 0 (l_771.length)), (23, .sl false (L cU8 v_323.B)), (24, i64 ((v_323.B.length : Int))), (25, i64 0)]) (σ' := [.buf 1 (L cU8 l_771) false, .box [i64 v_323.Kind, i64 v_323.N, .sl false (L cU8 v_323.B), .sl false (L cApi_Value v_323.L)] false, .buf 1 (L cU8 (([(48 : UInt8)] : List UInt8))) false]) ⟨_, orcs_nil, ?_⟩ ?_
          · simp only [go_sem, reduceIte, Nat.reduceLT, Nat.reduceEqDiff, Nat.reduceAdd]
          refine run_block ?_
          replace h := bind_some1 h; obtain ⟨x_878, hx_879, hj_880⟩ := h
          refine run_loopO hx_879 (fun (v : Int × List UInt8) => (⟨asFr 59 [(0, .bs false 0 (v.2.length) 0 (v.2.length)), (23, .sl false (L cU8 v_323.B)), (24, i64 ((v_323.B.length : Int))), (25, i64 v.1)], [.buf 1 (L cU8 v.2) false]⟩ : St)) (weak_sel [0] (by decide) rfl (by simp only [go_sem, reduceIte, Nat.reduceLT, Nat.reduceEqDiff, Nat.reduceAdd]) (by simp only [go_sem, reduceIte, Nat.reduceLT, Nat.reduceEqDiff, Nat.reduceAdd])) ?_
          rintro ⟨t_857, l_858⟩ o_881 h hxx_882
          replace h : codec_appendValue_b1 v_323 t_857 l_858 = some o_881 := h
          unfold codec_appendValue_b1 at h
          refine run_textE hE [0, 23, 24, 25, 26] (fr' := [(0, .bs false 0 (l_858.length) 0 (l_858.length)), (23, .sl false (L cU8 v_323.B)), (24, i64 ((v_323.B.length : Int))), (25, i64 t_857), (26, .bool ((decide (t_857 < (v_323.B.length : Int)))))]) (σ' := [.buf 1 (L cU8 l_858) false]) ⟨_, orcs_nil, ?_⟩ ?_
          · simp only [go_sem, reduceIte, Nat.reduceLT, Nat.reduceEqDiff, Nat.reduceAdd]
          refine run_seq ?_
          refine run_condL (b := (decide (t_857 < (v_323.B.length : Int)))) rfl (by decide) (fun hb => ?_) (fun hb => ?_)
          · replace h := ite_t h hb
            refine run_skip ?_
            refine thenK_n ?_
            replace h := bind_some1 h; obtain ⟨j_891, hA_892, hj_893⟩ := h
            refine run_join (fun (v : List UInt8) => (⟨asFr 59 [(0, .bs false 0 (v.length) 0 (v.length)), (23, .sl false (L cU8 v_323.B)), (24, i64 ((v_323.B.length : Int))), (25, i64 t_857)], [.buf 1 (L cU8 v) false]⟩ : St)) (fun v => v = j_891) ?_ ?_
            · have h := hA_892; clear hA_892
              refine run_block ?_
              replace h := chk_some h; obtain ⟨hc_894, h⟩ := h
              refine run_textE hE [0, 6, 23, 24, 25] (fr' := [(0, .bs false 0 (l_858.length) 0 (l_858.length)), (6, u8 (nth v_323.B t_857.toNat)), (23, .sl false (L cU8 v_323.B)), (24, i64 ((v_323.B.length : Int))), (25, i64 t_857)]) (σ' := [.buf 1 (L cU8 l_858) false]) ⟨_, orcs_nil, ?_⟩ ?_
              · simp only [go_sem, reduceIte, Nat.reduceLT, Nat.reduceEqDiff, Nat.reduceAdd, Int.reduceToNat, hc_894, hc_894.2, lt_le hc_894.2]
              replace h := chk_some h; obtain ⟨hc_895, h⟩ := h
              replace h := lt1_some h; obtain ⟨l_896, hz_897, h⟩ := h
              refine run_textE hE [0, 6, 23, 24, 25] (fr' := [(0, .bs false 0 (l_896.length) 0 (l_896.length)), (6, u8 (nth v_323.B t_857.toNat)), (23, .sl false (L cU8 v_323.B)), (24, i64 ((v_323.B.length : Int))), (25, i64 t_857)]) (σ' := [.buf 1 (L cU8 l_896) false, .buf 1 (L cU8 (([nth v_323.B t_857.toNat] : List UInt8))) false]) ⟨_, orcs_nil, ?_⟩ ?_
              · subst hz_897; simp only [go_sem, reduceIte, Nat.reduceLT, Nat.reduceEqDiff, Nat.reduceAdd, Nat.reduceBEq, Nat.reduceMul, Nat.reduceSub, Nat.reduceGT, Nat.reducePow, Nat.reduceLeDiff, Int.reduceToNat, hc_895]
              refine run_textE hE [0, 23, 24, 25, 34] (fr' := [(0, .bs false 0 (l_896.length) 0 (l_896.length)), (23, .sl false (L cU8 v_323.B)), (24, i64 ((v_323.B.length : Int))), (25, i64 t_857), (34, .bool ((nth v_323.B t_857.toNat == (0 : UInt8))))]) (σ' := [.buf 1 (L cU8 l_896) false, .buf 1 (L cU8 (([nth v_323.B t_857.toNat] : List UInt8))) false]) ⟨_, orcs_nil, ?_⟩ ?_
              · simp only [go_sem, reduceIte, Nat.reduceLT, Nat.reduceEqDiff, Nat.reduceAdd]
              refine run_condL (b := (nth v_323.B t_857.toNat == (0 : UInt8))) rfl (by decide) (fun hb => ?_) (fun hb => ?_)
              · replace h := ite_t h hb
                replace h := chk_some h; obtain ⟨hc_898, h⟩ := h
                replace h := lt1_some h; obtain ⟨l_899, hz_900, h⟩ := h
                refine run_textE0 hE (wk_block wk_join) [0, 23, 24, 25] (fr' := [(0, .bs false 0 (l_899.length) 0 (l_899.length)), (23, .sl false (L cU8 v_323.B)), (24, i64 ((v_323.B.length : Int))), (25, i64 t_857)]) (σ' := [.buf 1 (L cU8 l_899) false, .buf 1 (L cU8 (([nth v_323.B t_857.toNat] : List UInt8))) false, .buf 1 (L cU8 (([(255 : UInt8)] : List UInt8))) false]) ⟨_, orcs_nil, ?_⟩ ?_
                · subst hz_900; simp only [go_sem, reduceIte, Nat.reduceLT, Nat.reduceEqDiff, Nat.reduceAdd, Nat.reduceBEq, Nat.reduceMul, Nat.reduceSub, Nat.reduceGT, Nat.reducePow, Nat.reduceLeDiff, Int.reduceToNat, hc_898]
                refine blockK_n ?_
                obtain rfl := Option.some.inj h
                exact joinK_n l_899 rfl (weak_sel [0] (by decide) rfl (by simp only [go_sem, reduceIte, Nat.reduceLT, Nat.reduceEqDiff, Nat.reduceAdd]) (by simp only [go_sem, reduceIte, Nat.reduceLT, Nat.reduceEqDiff, Nat.reduceAdd]))
              · replace h := ite_f h hb
                refine run_skip ?_
                refine blockK_n ?_
                obtain rfl := Option.some.inj h
                exact joinK_n l_896 rfl (weak_sel [0] (by decide) rfl (by simp only [go_sem, reduceIte, Nat.reduceLT, Nat.reduceEqDiff, Nat.reduceAdd]) (by simp only [go_sem, reduceIte, Nat.reduceLT, Nat.reduceEqDiff, Nat.reduceAdd]))
            rintro l_890 rfl
            have h := hj_893; clear hj_893
            refine run_textE0 hE wk_lp [0, 23, 24, 25] (fr' := [(0, .bs false 0 (l_890.length) 0 (l_890.length)), (23, .sl false (L cU8 v_323.B)), (24, i64 ((v_323.B.length : Int))), (25, i64 ((w64 (t_857 + 1))))]) (σ' := [.buf 1 (L cU8 l_890) false]) ⟨_, orcs_nil, ?_⟩ ?_
            · simp only [go_sem, reduceIte, Nat.reduceLT, Nat.reduceEqDiff, Nat.reduceAdd]
            obtain rfl := Option.some.inj h
            exact lpK_n (((w64 (t_857 + 1)), l_890)) rfl (weak_sel [0] (by decide) rfl (by simp only [go_sem, reduceIte, Nat.reduceLT, Nat.reduceEqDiff, Nat.reduceAdd]) (by simp only [go_sem, reduceIte, Nat.reduceLT, Nat.reduceEqDiff, Nat.reduceAdd]))
          · replace h := ite_f h hb
            refine run_exit ?_
            refine thenK_x ?_
            obtain rfl := Option.some.inj h
            have ex_x_878 := hxx_882 _ rfl
            subst ex_x_878
            have h := hj_880; clear hj_880
            refine lpK_x ?_
            refine blockK_x ?_
            obtain rfl := Option.some.inj h
            exact joinK_n l_858 rfl ((weak_sel (l' := [(0, .bs false 0 (l_858.length) 0 (l_858.length))]) (σ' := [.buf 1 (L cU8 l_858) false]) [0] (by decide) rfl (by simp only [go_sem, reduceIte, Nat.reduceLT, Nat.reduceEqDiff, Nat.reduceAdd]) (by simp only [go_sem, reduceIte, Nat.reduceLT, Nat.reduceEqDiff, Nat.reduceAdd])).trans (weak_sel [0] (by decide) rfl (by simp only [go_sem, reduceIte, Nat.reduceLT, Nat.reduceEqDiff, Nat.reduceAdd]) (by simp only [go_sem, reduceIte, Nat.reduceLT, Nat.reduceEqDiff, Nat.reduceAdd])))
        rintro l_835 rfl
        have h := hj_838; clear hj_838
        replace h := chk_some h; obtain ⟨hc_901, h⟩ := h
        replace h := lt1_some h; obtain ⟨l_902, hz_903, h⟩ := h
        refine run_textE hE [4] (fr' := [(4, .bs false 0 (l_902.length) 0 (l_902.length))]) (σ' := [.buf 1 (L cU8 l_902) false, .buf 1 (L cU8 (([(0 : UInt8), (0 : UInt8)] : List UInt8))) false]) ⟨_, orcs_nil, ?_⟩ ?_
        · subst hz_903; simp only [go_sem, reduceIte, Nat.reduceLT, Nat.reduceEqDiff, Nat.reduceAdd, Nat.reduceBEq, Nat.reduceMul, Nat.reduceSub, Nat.reduceGT, Nat.reducePow, Nat.reduceLeDiff, Int.reduceToNat, hc_901]
        refine run_ret ?_
        refine blockK_r ?_
        refine joinK_r ?_
        replace h := bind_some1 h; obtain ⟨z_904, h, e_z_904⟩ := h
        obtain rfl := Option.some.inj e_z_904
        obtain rfl := Option.some.inj hj_766
        obtain rfl := Option.some.inj h
        refine ret_own (.inr rfl) [0] (by decide) rfl ?_ ?_
        · simp only [go_sem, reduceIte, Nat.reduceLT, Nat.reduceEqDiff, Nat.reduceAdd]
        · simp only [go_sem, reduceIte, Nat.reduceLT, Nat.reduceEqDiff, Nat.reduceAdd]
      · replace h := ite_f h hb
        refine run_skip ?_
        refine blockK_n ?_
        obtain rfl := Option.some.inj h
        exact joinK_n (()) rfl (weak_sel [0, 1] (by decide) rfl (by simp only [go_sem, reduceIte, Nat.reduceLT, Nat.reduceEqDiff, Nat.reduceAdd]) (by simp only [go_sem, reduceIte, Nat.reduceLT, Nat.reduceEqDiff, Nat.reduceAdd]))
  rintro ⟨⟩ rfl
  have h := hj_766; clear hj_766
  replace h := chk_some h; obtain ⟨hc_905, h⟩ := h
  replace h := lt1_some h; obtain ⟨l_906, hz_907, h⟩ := h
  refine run_textE hE [0, 3] (fr' := [(0, .bs false 0 (l_906.length) 0 (l_906.length)), (3, .ref 1 0)]) (σ' := [.buf 1 (L cU8 l_906) false, .box [i64 v_323.Kind, i64 v_323.N, .sl false (L cU8 v_323.B), .sl false (L cApi_Value v_323.L)] false, .buf 1 (L cU8 (([(64 : UInt8)] : List UInt8))) false]) ⟨_, orcs_nil, ?_⟩ ?_
  · subst hz_907; simp only [go_sem, reduceIte, Nat.reduceLT, Nat.reduceEqDiff, Nat.reduceAdd, Nat.reduceBEq, Nat.reduceMul, Nat.reduceSub, Nat.reduceGT, Nat.reducePow, Nat.reduceLeDiff, Int.reduceToNat, hc_905]
  replace h := bind_some1 h; obtain ⟨j_942, hA_943, hj_944⟩ := h
  refine run_join (fun (v : List UInt8) => (⟨asFr 59 [(0, .bs false 0 (v.length) 0 (v.length))], [.buf 1 (L cU8 v) false]⟩ : St)) (fun v => v = j_942) ?_ ?_
  · have h := hA_943; clear hA_943
    refine run_textE hE [0, 46, 47, 48] (fr' := [(0, .bs false 0 (l_906.length) 0 (l_906.length)), (46, .sl false (L cApi_Value v_323.L)), (47, i64 ((v_323.L.length : Int))), (48, i64 0)]) (σ' := [.buf 1 (L cU8 l_906) false, .box [i64 v_323.Kind, i64 v_323.N, .sl false (L cU8 v_323.B), .sl false (L cApi_Value v_323.L)] false, .buf 1 (L cU8 (([(64 : UInt8)] : List UInt8))) false]) ⟨_, orcs_nil, ?_⟩ ?_
    · simp only [go_sem, reduceIte, Nat.reduceLT, Nat.reduceEqDiff, Nat.reduceAdd]
    refine run_block ?_
    replace h := bind_some1 h; obtain ⟨x_962, hx_963, hj_964⟩ := h
    refine run_loopO hx_963 (fun (v : Int × List UInt8) => (⟨asFr 59 [(0, .bs false 0 (v.2.length) 0 (v.2.length)), (46, .sl false (L cApi_Value v_323.L)), (47, i64 ((v_323.L.length : Int))), (48, i64 v.1)], [.buf 1 (L cU8 v.2) false]⟩ : St)) (weak_sel [0] (by decide) rfl (by simp only [go_sem, reduceIte, Nat.reduceLT, Nat.reduceEqDiff, Nat.reduceAdd]) (by simp only [go_sem, reduceIte, Nat.reduceLT, Nat.reduceEqDiff, Nat.reduceAdd])) ?_
    rintro ⟨t_948, l_949⟩ o_965 h hxx_966
    replace h : codec_appendValue_b2 v_323 rec_ t_948 l_949 = some o_965 := h
    unfold codec_appendValue_b2 at h
    refine run_textE hE [0, 46, 47, 48, 49] (fr' := [(0, .bs false 0 (l_949.length) 0 (l_949.length)), (46, .sl false (L cApi_Value v_323.L)), (47, i64 ((v_323.L.length : Int))), (48, i64 t_948), (49, .bool ((decide (t_948 < (v_323.L.length : Int)))))]) (σ' := [.buf 1 (L cU8 l_949) false]) ⟨_, orcs_nil, ?_⟩ ?_
    · simp only [go_sem, reduceIte, Nat.reduceLT, Nat.reduceEqDiff, Nat.reduceAdd]
    refine run_seq ?_
    refine run_condL (b := (decide (t_948 < (v_323.L.length : Int)))) rfl (by decide) (fun hb => ?_) (fun hb => ?_)
    · replace h := ite_t h hb
      refine run_skip ?_
      refine thenK_n ?_
      refine run_seq ?_
      refine run_block ?_
      replace h := chk_some h; obtain ⟨hc_967, h⟩ := h
      replace h := lt1_some h; obtain ⟨f_968, hz_972, h⟩ := h
      replace h := lt1_some h; obtain ⟨f_969, hz_973, h⟩ := h
      replace h := lt1_some h; obtain ⟨f_970, hz_974, h⟩ := h
      replace h := lt1_some h; obtain ⟨f_971, hz_975, h⟩ := h
      refine run_textE hE [0, 8, 46, 47, 48] (fr' := [(0, .bs false 0 (l_949.length) 0 (l_949.length)), (8, .ref 1 0), (46, .sl false (L cApi_Value v_323.L)), (47, i64 ((v_323.L.length : Int))), (48, i64 t_948)]) (σ' := [.buf 1 (L cU8 l_949) false, .box [i64 f_968, i64 f_969, .sl false (L cU8 f_970), .sl false (L cApi_Value f_971)] false]) ⟨_, orcs_nil, ?_⟩ ?_
      · subst hz_975; subst hz_974; subst hz_973; subst hz_972; simp only [go_sem, reduceIte, Nat.reduceLT, Nat.reduceEqDiff, Nat.reduceAdd, Int.reduceToNat, hc_967, hc_967.2, lt_le hc_967.2]
      replace h := bind_some1 h; obtain ⟨y_976, hy_977, h⟩ := h
      refine run_textE0 hE (wk_block wk_then) [0, 46, 47, 48] (fr' := [(0, .bs false 0 (y_976.length) 0 (y_976.length)), (46, .sl false (L cApi_Value v_323.L)), (47, i64 ((v_323.L.length : Int))), (48, i64 t_948)]) (σ' := [.buf 1 (L cU8 y_976) false, .box [i64 f_968, i64 f_969, .sl false (L cU8 f_970), .sl false (L cApi_Value f_971)] false]) ⟨_, orcs_ok2 (l := []) (m := [(54, 35, [.bs false 0 (l_949.length) 0 (l_949.length), .agg [i64 f_968, i64 f_969, .sl false (L cU8 f_970), .sl false (L cApi_Value f_971)]], [.buf 1 (L cU8 l_949) false, .box [i64 f_968, i64 f_969, .sl false (L cU8 f_970), .sl false (L cApi_Value f_971)] false], .bs false 0 (y_976.length) 0 (y_976.length), [.buf 1 (L cU8 y_976) false, .box [i64 f_968, i64 f_969, .sl false (L cU8 f_970), .sl false (L cApi_Value f_971)] false])]) trivial ⟨(wcon_call (hrec hy_977) [0] (by decide) (by simp only [go_sem, reduceIte, Nat.reduceLT, Nat.reduceEqDiff, Nat.reduceAdd]) (by simp only [go_sem, reduceIte, Nat.reduceLT, Nat.reduceEqDiff, Nat.reduceAdd]) (by simp only [go_sem, reduceIte, Nat.reduceLT, Nat.reduceEqDiff, Nat.reduceAdd]) (by simp only [go_sem, reduceIte, Nat.reduceLT, Nat.reduceEqDiff, Nat.reduceAdd]) (by simp only [go_sem, reduceIte, Nat.reduceLT, Nat.reduceEqDiff, Nat.reduceAdd])), trivial⟩, ?_⟩ ?_
      · simp only [go_sem, reduceIte, Nat.reduceLT, Nat.reduceEqDiff, Nat.reduceAdd]
      refine blockK_n ?_
      refine thenK_n ?_
      refine run_textE0 hE wk_lp [0, 46, 47, 48] (fr' := [(0, .bs false 0 (y_976.length) 0 (y_976.length)), (46, .sl false (L cApi_Value v_323.L)), (47, i64 ((v_323.L.length : Int))), (48, i64 ((w64 (t_948 + 1))))]) (σ' := [.buf 1 (L cU8 y_976) false, .box [i64 f_968, i64 f_969, .sl false (L cU8 f_970), .sl false (L cApi_Value f_971)] false]) ⟨_, orcs_nil, ?_⟩ ?_
      · simp only [go_sem, reduceIte, Nat.reduceLT, Nat.reduceEqDiff, Nat.reduceAdd]
      obtain rfl := Option.some.inj h
      exact lpK_n (((w64 (t_948 + 1)), y_976)) rfl (weak_sel [0] (by decide) rfl (by simp only [go_sem, reduceIte, Nat.reduceLT, Nat.reduceEqDiff, Nat.reduceAdd]) (by simp only [go_sem, reduceIte, Nat.reduceLT, Nat.reduceEqDiff, Nat.reduceAdd]))
    · replace h := ite_f h hb
      refine run_exit ?_
      refine thenK_x ?_
      obtain rfl := Option.some.inj h
      have ex_x_962 := hxx_966 _ rfl
      subst ex_x_962
      have h := hj_964; clear hj_964
      refine lpK_x ?_
      refine blockK_x ?_
      obtain rfl := Option.some.inj h
      exact joinK_n l_949 rfl ((weak_sel (l' := [(0, .bs false 0 (l_949.length) 0 (l_949.length))]) (σ' := [.buf 1 (L cU8 l_949) false]) [0] (by decide) rfl (by simp only [go_sem, reduceIte, Nat.reduceLT, Nat.reduceEqDiff, Nat.reduceAdd]) (by simp only [go_sem, reduceIte, Nat.reduceLT, Nat.reduceEqDiff, Nat.reduceAdd])).trans (weak_sel [0] (by decide) rfl (by simp only [go_sem, reduceIte, Nat.reduceLT, Nat.reduceEqDiff, Nat.reduceAdd]) (by simp only [go_sem, reduceIte, Nat.reduceLT, Nat.reduceEqDiff, Nat.reduceAdd])))
  rintro l_941 rfl
  have h := hj_944; clear hj_944
  replace h := chk_some h; obtain ⟨hc_978, h⟩ := h
  replace h := lt1_some h; obtain ⟨l_979, hz_980, h⟩ := h
  refine run_textE hE [4] (fr' := [(4, .bs false 0 (l_979.length) 0 (l_979.length))]) (σ' := [.buf 1 (L cU8 l_979) false, .buf 1 (L cU8 (([(0 : UInt8)] : List UInt8))) false]) ⟨_, orcs_nil, ?_⟩ ?_
  · subst hz_980; simp only [go_sem, reduceIte, Nat.reduceLT, Nat.reduceEqDiff, Nat.reduceAdd, Nat.reduceBEq, Nat.reduceMul, Nat.reduceSub, Nat.reduceGT, Nat.reducePow, Nat.reduceLeDiff, Int.reduceToNat, hc_978]
  refine run_ret ?_
  obtain rfl := Option.some.inj h
  refine ret_own (.inr rfl) [0] (by decide) rfl ?_ ?_
  · simp only [go_sem, reduceIte, Nat.reduceLT, Nat.reduceEqDiff, Nat.reduceAdd]
  · simp only [go_sem, reduceIte, Nat.reduceLT, Nat.reduceEqDiff, Nat.reduceAdd]
theorem codec_appendValue_n_con (n : Nat) : ∀ {b_322 : List UInt8} {v_323 : Api_Value} {r : List UInt8}, codec_appendValue_n n b_322 v_323 = some r → Con B 35 [.bs false 0 (b_322.length) 0 (b_322.length), .agg [i64 v_323.Kind, i64 v_323.N, .sl false (L cU8 v_323.B), .sl false (L cApi_Value v_323.L)]] [.buf 1 (L cU8 b_322) false] (fun r' σ' => r' = .bs false 0 (r.length) 0 (r.length) ∧ σ' = [.buf 1 (L cU8 r) false]) := by
  induction n with
  | zero => intro b_322 v_323 r h; cases h
  | succ n ih => intro b_322 v_323 r h; exact codec_appendValue_F_con ih h
theorem codec_appendValue_con {b_322 : List UInt8} {v_323 : Api_Value} {r : List UInt8} (h : codec_appendValue b_322 v_323 = some r) : Con B 35 [.bs false 0 (b_322.length) 0 (b_322.length), .agg [i64 v_323.Kind, i64 v_323.N, .sl false (L cU8 v_323.B), .sl false (L cApi_Value v_323.L)]] [.buf 1 (L cU8 b_322) false] (fun r' σ' => r' = .bs false 0 (r.length) 0 (r.length) ∧ σ' = [.buf 1 (L cU8 r) false]) := codec_appendValue_n_con _ h

end Go.Proofs.Ytihncddenjbecaa
/-
  The functions compute just that.
-/
namespace Go.Proofs.Ytihncddenjbecaa
open Go.Rv
set_option linter.unusedVariables false
set_option linter.unusedSimpArgs false
set_option maxRecDepth 20000

theorem codec_Encode_con {v_981 : Api_Value} {r : List UInt8 × Int} (h : codec_Encode v_981 = some r) : Con B 14 [.agg [i64 v_981.Kind, i64 v_981.N, .sl false (L cU8 v_981.B), .sl false (L cApi_Value v_981.L)]] [] (fun r' σ' => r' = .tup [.sl false (L cU8 r.1), i64 r.2] ∧ σ' = []) := by
  refine con_walk (N := 22) (rs := [.tmp 2, .tmp 3]) ok Try.func14 rfl (by decide +kernel) rfl rfl (Nat.le_of_ble_eq_true rfl) (fun F => ?_)
  have hE := ok.env F
  unfold codec_Encode at h
  show Run (B.env F) 0 _ ⟨asFr 22 [(0, .agg [i64 v_981.Kind, i64 v_981.N, .sl false (L cU8 v_981.B), .sl false (L cApi_Value v_981.L)])], []⟩ _
  refine run_textE hE [1] (fr' := [(1, .ref 0 0)]) (σ' := [.box [i64 v_981.Kind, i64 v_981.N, .sl false (L cU8 v_981.B), .sl false (L cApi_Value v_981.L)] false]) ⟨_, orcs_nil, ?_⟩ ?_
  · simp only [go_sem, reduceIte, Nat.reduceLT, Nat.reduceEqDiff, Nat.reduceAdd]
  replace h := bind_some1 h; obtain ⟨y_982, hy_983, h⟩ := h
  refine run_textE hE [1, 4, 5] (fr' := [(1, .ref 0 0), (4, i64 y_982.1), (5, .bool y_982.2)]) (σ' := [.box [i64 v_981.Kind, i64 v_981.N, .sl false (L cU8 v_981.B), .sl false (L cApi_Value v_981.L)] false]) ⟨_, orcs_ok (l := [(9, 34, [.agg [i64 v_981.Kind, i64 v_981.N, .sl false (L cU8 v_981.B), .sl false (L cApi_Value v_981.L)]], .tup [i64 y_982.1, .bool y_982.2])]) ⟨codec_shape_con  hy_983, trivial⟩, ?_⟩ ?_
  · simp only [go_sem, reduceIte, Nat.reduceLT, Nat.reduceEqDiff, Nat.reduceAdd]
  refine run_seq ?_
  refine run_textE hE [1, 4, 13] (fr' := [(1, .ref 0 0), (4, i64 y_982.1), (13, .bool ((!y_982.2)))]) (σ' := [.box [i64 v_981.Kind, i64 v_981.N, .sl false (L cU8 v_981.B), .sl false (L cApi_Value v_981.L)] false]) ⟨_, orcs_nil, ?_⟩ ?_
  · simp only [go_sem, reduceIte, Nat.reduceLT, Nat.reduceEqDiff, Nat.reduceAdd]
  refine run_condL (b := (!y_982.2)) rfl (by decide) (fun hb => ?_) (fun hb => ?_)
  · replace h := ite_t h hb
    refine run_textE hE [2, 3] (fr' := [(2, .sl true (L cU8 ([]))), (3, i64 10)]) (σ' := [.box [i64 v_981.Kind, i64 v_981.N, .sl false (L cU8 v_981.B), .sl false (L cApi_Value v_981.L)] false]) ⟨_, orcs_nil, ?_⟩ ?_
    · simp only [go_sem, reduceIte, Nat.reduceLT, Nat.reduceEqDiff, Nat.reduceAdd]
    refine run_ret ?_
    refine thenK_r ?_
    obtain rfl := Option.some.inj h
    refine ret_ok (.inr rfl) ?_
    simp only [go_sem, reduceIte, Nat.reduceLT, Nat.reduceEqDiff, Nat.reduceAdd]
  · replace h := ite_f h hb
    refine run_skip ?_
    refine thenK_n ?_
    refine run_seq ?_
    refine run_textE hE [1, 15] (fr' := [(1, .ref 0 0), (15, .bool ((decide (y_982.1 > 16))))]) (σ' := [.box [i64 v_981.Kind, i64 v_981.N, .sl false (L cU8 v_981.B), .sl false (L cApi_Value v_981.L)] false]) ⟨_, orcs_nil, ?_⟩ ?_
    · simp only [go_sem, reduceIte, Nat.reduceLT, Nat.reduceEqDiff, Nat.reduceAdd]
    refine run_condL (b := (decide (y_982.1 > 16))) rfl (by decide) (fun hb => ?_) (fun hb => ?_)
    · replace h := ite_t h hb
      refine run_textE hE [2, 3] (fr' := [(2, .sl true (L cU8 ([]))), (3, i64 2)]) (σ' := [.box [i64 v_981.Kind, i64 v_981.N, .sl false (L cU8 v_981.B), .sl false (L cApi_Value v_981.L)] false]) ⟨_, orcs_nil, ?_⟩ ?_
      · simp only [go_sem, reduceIte, Nat.reduceLT, Nat.reduceEqDiff, Nat.reduceAdd]
      refine run_ret ?_
      refine thenK_r ?_
      obtain rfl := Option.some.inj h
      refine ret_ok (.inr rfl) ?_
      simp only [go_sem, reduceIte, Nat.reduceLT, Nat.reduceEqDiff, Nat.reduceAdd]
    · replace h := ite_f h hb
      refine run_skip ?_
      refine thenK_n ?_
      replace h := bind_some1 h; obtain ⟨y_984, hy_985, h⟩ := h
      refine run_textE hE [6] (fr' := [(6, .bs false 1 (y_984.length) 0 (y_984.length))]) (σ' := [.box [i64 v_981.Kind, i64 v_981.N, .sl false (L cU8 v_981.B), .sl false (L cApi_Value v_981.L)] false, .buf 1 (L cU8 y_984) false]) ⟨_, orcs_ok2 (l := []) (m := [(17, 35, [.sl true (L cU8 ([])), .agg [i64 v_981.Kind, i64 v_981.N, .sl false (L cU8 v_981.B), .sl false (L cApi_Value v_981.L)]], [.box [i64 v_981.Kind, i64 v_981.N, .sl false (L cU8 v_981.B), .sl false (L cApi_Value v_981.L)] false], .bs false 1 (y_984.length) 0 (y_984.length), [.box [i64 v_981.Kind, i64 v_981.N, .sl false (L cU8 v_981.B), .sl false (L cApi_Value v_981.L)] false, .buf 1 (L cU8 y_984) false])]) trivial ⟨(wcon_nil 1 (args' := [.bs true 1 0 0 0, .agg [i64 v_981.Kind, i64 v_981.N, .sl false (L cU8 v_981.B), .sl false (L cApi_Value v_981.L)]]) (by simp only [go_sem, reduceIte, Nat.reduceLT, Nat.reduceEqDiff, Nat.reduceAdd]) (wcon_call (codec_appendValue_con hy_985) [1] (by decide) (by simp only [go_sem, reduceIte, Nat.reduceLT, Nat.reduceEqDiff, Nat.reduceAdd]) (by simp only [go_sem, reduceIte, Nat.reduceLT, Nat.reduceEqDiff, Nat.reduceAdd]) (by simp only [go_sem, reduceIte, Nat.reduceLT, Nat.reduceEqDiff, Nat.reduceAdd]) (by simp only [go_sem, reduceIte, Nat.reduceLT, Nat.reduceEqDiff, Nat.reduceAdd]) (by simp only [go_sem, reduceIte, Nat.reduceLT, Nat.reduceEqDiff, Nat.reduceAdd]))), trivial⟩, ?_⟩ ?_
      · simp only [go_sem, reduceIte, Nat.reduceLT, Nat.reduceEqDiff, Nat.reduceAdd]
      refine run_seq ?_
      refine run_textE hE [6, 20] (fr' := [(6, .bs false 1 (y_984.length) 0 (y_984.length)), (20, .bool ((decide ((y_984.length : Int) > 65536))))]) (σ' := [.box [i64 v_981.Kind, i64 v_981.N, .sl false (L cU8 v_981.B), .sl false (L cApi_Value v_981.L)] false, .buf 1 (L cU8 y_984) false]) ⟨_, orcs_nil, ?_⟩ ?_
      · simp only [go_sem, reduceIte, Nat.reduceLT, Nat.reduceEqDiff, Nat.reduceAdd]
      refine run_condL (b := (decide ((y_984.length : Int) > 65536))) rfl (by decide) (fun hb => ?_) (fun hb => ?_)
      · replace h := ite_t h hb
        refine run_textE hE [2, 3] (fr' := [(2, .sl true (L cU8 ([]))), (3, i64 2)]) (σ' := [.box [i64 v_981.Kind, i64 v_981.N, .sl false (L cU8 v_981.B), .sl false (L cApi_Value v_981.L)] false, .buf 1 (L cU8 y_984) false]) ⟨_, orcs_nil, ?_⟩ ?_
        · simp only [go_sem, reduceIte, Nat.reduceLT, Nat.reduceEqDiff, Nat.reduceAdd]
        refine run_ret ?_
        refine thenK_r ?_
        obtain rfl := Option.some.inj h
        refine ret_ok (.inr rfl) ?_
        simp only [go_sem, reduceIte, Nat.reduceLT, Nat.reduceEqDiff, Nat.reduceAdd]
      · replace h := ite_f h hb
        refine run_skip ?_
        refine thenK_n ?_
        refine run_textE hE [2, 3] (fr' := [(2, .bs false 1 (y_984.length) 0 (y_984.length)), (3, i64 0)]) (σ' := [.box [i64 v_981.Kind, i64 v_981.N, .sl false (L cU8 v_981.B), .sl false (L cApi_Value v_981.L)] false, .buf 1 (L cU8 y_984) false]) ⟨_, orcs_nil, ?_⟩ ?_
        · simp only [go_sem, reduceIte, Nat.reduceLT, Nat.reduceEqDiff, Nat.reduceAdd]
        refine run_ret ?_
        obtain rfl := Option.some.inj h
        refine ret_ok (.inr rfl) ?_
        simp only [go_sem, reduceIte, Nat.reduceLT, Nat.reduceEqDiff, Nat.reduceAdd]

theorem codec_Check_con {v_986 : Api_Value} {r : Int} (h : codec_Check v_986 = some r) : Con B 16 [.agg [i64 v_986.Kind, i64 v_986.N, .sl false (L cU8 v_986.B), .sl false (L cApi_Value v_986.L)]] [] (fun r' σ' => r' = i64 r ∧ σ' = []) := by
  refine con_walk (N := 11) (rs := [.tmp 2]) ok Try.func16 rfl (by decide +kernel) rfl rfl (Nat.le_of_ble_eq_true rfl) (fun F => ?_)
  have hE := ok.env F
  unfold codec_Check at h
  show Run (B.env F) 0 _ ⟨asFr 11 [(0, .agg [i64 v_986.Kind, i64 v_986.N, .sl false (L cU8 v_986.B), .sl false (L cApi_Value v_986.L)])], []⟩ _
  refine run_textE hE [1] (fr' := [(1, .ref 0 0)]) (σ' := [.box [i64 v_986.Kind, i64 v_986.N, .sl false (L cU8 v_986.B), .sl false (L cApi_Value v_986.L)] false]) ⟨_, orcs_nil, ?_⟩ ?_
  · simp only [go_sem, reduceIte, Nat.reduceLT, Nat.reduceEqDiff, Nat.reduceAdd]
  replace h := bind_some1 h; obtain ⟨y_987, hy_988, h⟩ := h
  refine run_textE hE [4] (fr' := [(4, i64 y_987.2)]) (σ' := [.box [i64 v_986.Kind, i64 v_986.N, .sl false (L cU8 v_986.B), .sl false (L cApi_Value v_986.L)] false]) ⟨_, orcs_ok (l := [(7, 14, [.agg [i64 v_986.Kind, i64 v_986.N, .sl false (L cU8 v_986.B), .sl false (L cApi_Value v_986.L)]], .tup [.sl false (L cU8 y_987.1), i64 y_987.2])]) ⟨codec_Encode_con  hy_988, trivial⟩, ?_⟩ ?_
  · simp only [go_sem, reduceIte, Nat.reduceLT, Nat.reduceEqDiff, Nat.reduceAdd]
  refine run_textE hE [2] (fr' := [(2, i64 y_987.2)]) (σ' := [.box [i64 v_986.Kind, i64 v_986.N, .sl false (L cU8 v_986.B), .sl false (L cApi_Value v_986.L)] false]) ⟨_, orcs_nil, ?_⟩ ?_
  · simp only [go_sem, reduceIte, Nat.reduceLT, Nat.reduceEqDiff, Nat.reduceAdd]
  refine run_ret ?_
  obtain rfl := Option.some.inj h
  refine ret_ok (.inr rfl) ?_
  simp only [go_sem, reduceIte, Nat.reduceLT, Nat.reduceEqDiff, Nat.reduceAdd]

theorem bytealg_Compare_con {a : List UInt8} {b : List UInt8} {r : Int} (h : bytealg_Compare a b = some r) : Con B 48 [.sl false (L cU8 a), .sl false (L cU8 b)] [] (fun r' σ' => r' = i64 r ∧ σ' = []) :=
  con_compare Try.func48 (by decide +kernel) rfl (by kernel_rfl) (by kernel_rfl) h

theorem bytes_Compare_con {a_989 : List UInt8} {b_990 : List UInt8} {r : Int} (h : bytes_Compare a_989 b_990 = some r) : Con B 39 [.sl false (L cU8 a_989), .sl false (L cU8 b_990)] [] (fun r' σ' => r' = i64 r ∧ σ' = []) := by
  refine con_walk (N := 8) (rs := [.tmp 4]) ok Try.func39 rfl (by decide +kernel) rfl rfl (Nat.le_of_ble_eq_true rfl) (fun F => ?_)
  have hE := ok.env F
  unfold bytes_Compare at h
  show Run (B.env F) 0 _ ⟨asFr 8 [(0, .sl false (L cU8 a_989)), (1, .sl false (L cU8 b_990))], []⟩ _
  refine run_textE hE [0, 1] (fr' := [(0, .sl false (L cU8 a_989)), (1, .sl false (L cU8 b_990))]) (σ' := []) ⟨_, orcs_nil, ?_⟩ ?_
  · simp only [go_sem, reduceIte, Nat.reduceLT, Nat.reduceEqDiff, Nat.reduceAdd]
  replace h := bind_some1 h; obtain ⟨y_991, hy_992, h⟩ := h
  refine run_textE hE [4] (fr' := [(4, i64 y_991)]) (σ' := []) ⟨_, orcs_ok (l := [(7, 48, [.sl false (L cU8 a_989), .sl false (L cU8 b_990)], i64 y_991)]) ⟨bytealg_Compare_con  hy_992, trivial⟩, ?_⟩ ?_
  · simp only [go_sem, reduceIte, Nat.reduceLT, Nat.reduceEqDiff, Nat.reduceAdd]
  refine run_ret ?_
  obtain rfl := Option.some.inj h
  refine ret_ok (.inr rfl) ?_
  simp only [go_sem, reduceIte, Nat.reduceLT, Nat.reduceEqDiff, Nat.reduceAdd]

theorem cmp_isNaN_con {x_993 : Int} {r : Bool} (h : cmp_isNaN x_993 = some r) : Con B 47 [i64 x_993] [] (fun r' σ' => r' = .bool r ∧ σ' = []) := by
  refine con_walk (N := 6) (rs := [.tmp 2]) ok Try.func47 rfl (by decide +kernel) rfl rfl (Nat.le_of_ble_eq_true rfl) (fun F => ?_)
  have hE := ok.env F
  unfold cmp_isNaN at h
  show Run (B.env F) 0 _ ⟨asFr 6 [(0, i64 x_993)], []⟩ _
  refine run_textE hE [0] (fr' := [(0, i64 x_993)]) (σ' := []) ⟨_, orcs_nil, ?_⟩ ?_
  · simp only [go_sem, reduceIte, Nat.reduceLT, Nat.reduceEqDiff, Nat.reduceAdd]
  refine run_textE hE [2] (fr' := [(2, .bool ((x_993 != x_993)))]) (σ' := []) ⟨_, orcs_nil, ?_⟩ ?_
  · simp only [go_sem, reduceIte, Nat.reduceLT, Nat.reduceEqDiff, Nat.reduceAdd]
  refine run_ret ?_
  obtain rfl := Option.some.inj h
  refine ret_ok (.inr rfl) ?_
  simp only [go_sem, reduceIte, Nat.reduceLT, Nat.reduceEqDiff, Nat.reduceAdd]

theorem cmp_Compare_con {x_994 : Int} {y_995 : Int} {r : Int} (h : cmp_Compare x_994 y_995 = some r) : Con B 38 [i64 x_994, i64 y_995] [] (fun r' σ' => r' = i64 r ∧ σ' = []) := by
  refine con_walk (N := 20) (rs := [.tmp 4]) ok Try.func38 rfl (by decide +kernel) rfl rfl (Nat.le_of_ble_eq_true rfl) (fun F => ?_)
  have hE := ok.env F
  unfold cmp_Compare at h
  show Run (B.env F) 0 _ ⟨asFr 20 [(0, i64 x_994), (1, i64 y_995)], []⟩ _
  refine run_textE hE [0, 1] (fr' := [(0, i64 x_994), (1, i64 y_995)]) (σ' := []) ⟨_, orcs_nil, ?_⟩ ?_
  · simp only [go_sem, reduceIte, Nat.reduceLT, Nat.reduceEqDiff, Nat.reduceAdd]
  replace h := bind_some1 h; obtain ⟨y_996, hy_997, h⟩ := h
  refine run_textE hE [0, 1, 5] (fr' := [(0, i64 x_994), (1, i64 y_995), (5, .bool y_996)]) (σ' := []) ⟨_, orcs_ok (l := [(8, 47, [i64 x_994], .bool y_996)]) ⟨cmp_isNaN_con  hy_997, trivial⟩, ?_⟩ ?_
  · simp only [go_sem, reduceIte, Nat.reduceLT, Nat.reduceEqDiff, Nat.reduceAdd]
  replace h := bind_some1 h; obtain ⟨y_998, hy_999, h⟩ := h
  refine run_textE hE [0, 1, 5, 6] (fr' := [(0, i64 x_994), (1, i64 y_995), (5, .bool y_996), (6, .bool y_998)]) (σ' := []) ⟨_, orcs_ok (l := [(10, 47, [i64 y_995], .bool y_998)]) ⟨cmp_isNaN_con  hy_999, trivial⟩, ?_⟩ ?_
  · simp only [go_sem, reduceIte, Nat.reduceLT, Nat.reduceEqDiff, Nat.reduceAdd]
  refine run_seq ?_
  refine run_textE hE [0, 1, 6, 11] (fr' := [(0, i64 x_994), (1, i64 y_995), (6, .bool y_998), (11, .bool y_996)]) (σ' := []) ⟨_, orcs_nil, ?_⟩ ?_
  · simp only [go_sem, reduceIte, Nat.reduceLT, Nat.reduceEqDiff, Nat.reduceAdd]
  refine run_condL (b := y_996) rfl (by decide) (fun hb => ?_) (fun hb => ?_)
  · replace h := ite_t h hb
    refine run_seq ?_
    refine run_textE hE [12] (fr' := [(12, .bool y_998)]) (σ' := []) ⟨_, orcs_nil, ?_⟩ ?_
    · simp only [go_sem, reduceIte, Nat.reduceLT, Nat.reduceEqDiff, Nat.reduceAdd]
    refine run_condL (b := y_998) rfl (by decide) (fun hb => ?_) (fun hb => ?_)
    · replace h := ite_t h hb
      refine run_textE hE [4] (fr' := [(4, i64 0)]) (σ' := []) ⟨_, orcs_nil, ?_⟩ ?_
      · simp only [go_sem, reduceIte, Nat.reduceLT, Nat.reduceEqDiff, Nat.reduceAdd]
      refine run_ret ?_
      refine thenK_r ?_
      refine thenK_r ?_
      obtain rfl := Option.some.inj h
      refine ret_ok (.inr rfl) ?_
      simp only [go_sem, reduceIte, Nat.reduceLT, Nat.reduceEqDiff, Nat.reduceAdd]
    · replace h := ite_f h hb
      refine run_skip ?_
      refine thenK_n ?_
      refine run_textE hE [4] (fr' := [(4, i64 ((-1)))]) (σ' := []) ⟨_, orcs_nil, ?_⟩ ?_
      · simp only [go_sem, reduceIte, Nat.reduceLT, Nat.reduceEqDiff, Nat.reduceAdd]
      refine run_ret ?_
      refine thenK_r ?_
      obtain rfl := Option.some.inj h
      refine ret_ok (.inr rfl) ?_
      simp only [go_sem, reduceIte, Nat.reduceLT, Nat.reduceEqDiff, Nat.reduceAdd]
  · replace h := ite_f h hb
    refine run_skip ?_
    refine thenK_n ?_
    refine run_seq ?_
    refine run_textE hE [0, 1, 13] (fr' := [(0, i64 x_994), (1, i64 y_995), (13, .bool y_998)]) (σ' := []) ⟨_, orcs_nil, ?_⟩ ?_
    · simp only [go_sem, reduceIte, Nat.reduceLT, Nat.reduceEqDiff, Nat.reduceAdd]
    refine run_condL (b := y_998) rfl (by decide) (fun hb => ?_) (fun hb => ?_)
    · replace h := ite_t h hb
      refine run_textE hE [4] (fr' := [(4, i64 1)]) (σ' := []) ⟨_, orcs_nil, ?_⟩ ?_
      · simp only [go_sem, reduceIte, Nat.reduceLT, Nat.reduceEqDiff, Nat.reduceAdd]
      refine run_ret ?_
      refine thenK_r ?_
      obtain rfl := Option.some.inj h
      refine ret_ok (.inr rfl) ?_
      simp only [go_sem, reduceIte, Nat.reduceLT, Nat.reduceEqDiff, Nat.reduceAdd]
    · replace h := ite_f h hb
      refine run_skip ?_
      refine thenK_n ?_
      refine run_seq ?_
      refine run_textE hE [0, 1, 16] (fr' := [(0, i64 x_994), (1, i64 y_995), (16, .bool ((decide (x_994 < y_995))))]) (σ' := []) ⟨_, orcs_nil, ?_⟩ ?_
      · simp only [go_sem, reduceIte, Nat.reduceLT, Nat.reduceEqDiff, Nat.reduceAdd]
      refine run_condL (b := (decide (x_994 < y_995))) rfl (by decide) (fun hb => ?_) (fun hb => ?_)
      · replace h := ite_t h hb
        refine run_textE hE [4] (fr' := [(4, i64 ((-1)))]) (σ' := []) ⟨_, orcs_nil, ?_⟩ ?_
        · simp only [go_sem, reduceIte, Nat.reduceLT, Nat.reduceEqDiff, Nat.reduceAdd]
        refine run_ret ?_
        refine thenK_r ?_
        obtain rfl := Option.some.inj h
        refine ret_ok (.inr rfl) ?_
        simp only [go_sem, reduceIte, Nat.reduceLT, Nat.reduceEqDiff, Nat.reduceAdd]
      · replace h := ite_f h hb
        refine run_skip ?_
        refine thenK_n ?_
        refine run_seq ?_
        refine run_textE hE [19] (fr' := [(19, .bool ((decide (x_994 > y_995))))]) (σ' := []) ⟨_, orcs_nil, ?_⟩ ?_
        · simp only [go_sem, reduceIte, Nat.reduceLT, Nat.reduceEqDiff, Nat.reduceAdd]
        refine run_condL (b := (decide (x_994 > y_995))) rfl (by decide) (fun hb => ?_) (fun hb => ?_)
        · replace h := ite_t h hb
          refine run_textE hE [4] (fr' := [(4, i64 1)]) (σ' := []) ⟨_, orcs_nil, ?_⟩ ?_
          · simp only [go_sem, reduceIte, Nat.reduceLT, Nat.reduceEqDiff, Nat.reduceAdd]
          refine run_ret ?_
          refine thenK_r ?_
          obtain rfl := Option.some.inj h
          refine ret_ok (.inr rfl) ?_
          simp only [go_sem, reduceIte, Nat.reduceLT, Nat.reduceEqDiff, Nat.reduceAdd]
        · replace h := ite_f h hb
          refine run_skip ?_
          refine thenK_n ?_
          refine run_textE hE [4] (fr' := [(4, i64 0)]) (σ' := []) ⟨_, orcs_nil, ?_⟩ ?_
          · simp only [go_sem, reduceIte, Nat.reduceLT, Nat.reduceEqDiff, Nat.reduceAdd]
          refine run_ret ?_
          obtain rfl := Option.some.inj h
          refine ret_ok (.inr rfl) ?_
          simp only [go_sem, reduceIte, Nat.reduceLT, Nat.reduceEqDiff, Nat.reduceAdd]

end Go.Proofs.Ytihncddenjbecaa
/-
  The functions compute just that.
-/
namespace Go.Proofs.Ytihncddenjbecaa
open Go.Rv
set_option linter.unusedVariables false
set_option linter.unusedSimpArgs false
set_option maxRecDepth 20000

theorem slices_CompareFunc_con {s1_1000 : List Api_Value} {s2_1001 : List Api_Value} {cmp_1002 : Api_Value → Api_Value → Option (Int)} {fcmp_1002 : Nat} (hfcmp_1002 : ∀ {a0 : Api_Value} {a1 : Api_Value} {r : Int}, cmp_1002 a0 a1 = some r → Con B fcmp_1002 [.agg [i64 a0.Kind, i64 a0.N, .sl false (L cU8 a0.B), .sl false (L cApi_Value a0.L)], .agg [i64 a1.Kind, i64 a1.N, .sl false (L cU8 a1.B), .sl false (L cApi_Value a1.L)]] [] (fun r' σ' => r' = i64 r ∧ σ' = [])) {r : Int} (h : slices_CompareFunc s1_1000 s2_1001 cmp_1002 = some r) : Con B 40 [.sl false (L cApi_Value s1_1000), .sl false (L cApi_Value s2_1001), .fn fcmp_1002 []] [] (fun r' σ' => r' = i64 r ∧ σ' = []) := by
  refine con_walk (N := 39) (rs := [.tmp 6]) ok Try.func40 rfl (by decide +kernel) rfl rfl (Nat.le_of_ble_eq_true rfl) (fun F => ?_)
  have hE := ok.env F
  unfold slices_CompareFunc at h
  show Run (B.env F) 0 _ ⟨asFr 39 [(0, .sl false (L cApi_Value s1_1000)), (1, .sl false (L cApi_Value s2_1001)), (2, .fn fcmp_1002 [])], []⟩ _
  refine run_textE hE [0, 1, 2] (fr' := [(0, .sl false (L cApi_Value s1_1000)), (1, .sl false (L cApi_Value s2_1001)), (2, .fn fcmp_1002 [])]) (σ' := []) ⟨_, orcs_nil, ?_⟩ ?_
  · simp only [go_sem, reduceIte, Nat.reduceLT, Nat.reduceEqDiff, Nat.reduceAdd]
  replace h := bind_some1 h; obtain ⟨j_1065, hA_1066, hj_1067⟩ := h
  refine run_join (fun (v : Unit) => (⟨asFr 39 [(0, .sl false (L cApi_Value s1_1000)), (1, .sl false (L cApi_Value s2_1001))], []⟩ : St)) (fun v => .inl v = j_1065) ?_ ?_
  · have h := hA_1066; clear hA_1066
    refine run_textE hE [0, 1, 2, 11, 12, 13] (fr' := [(0, .sl false (L cApi_Value s1_1000)), (1, .sl false (L cApi_Value s2_1001)), (2, .fn fcmp_1002 []), (11, .sl false (L cApi_Value s1_1000)), (12, i64 ((s1_1000.length : Int))), (13, i64 0)]) (σ' := []) ⟨_, orcs_nil, ?_⟩ ?_
    · simp only [go_sem, reduceIte, Nat.reduceLT, Nat.reduceEqDiff, Nat.reduceAdd]
    refine run_block ?_
    replace h := bind_some1 h; obtain ⟨x_1101, hx_1102, hj_1103⟩ := h
    refine run_loopO hx_1102 (fun (v : Int) => (⟨asFr 39 [(0, .sl false (L cApi_Value s1_1000)), (1, .sl false (L cApi_Value s2_1001)), (2, .fn fcmp_1002 []), (11, .sl false (L cApi_Value s1_1000)), (12, i64 ((s1_1000.length : Int))), (13, i64 v)], []⟩ : St)) (weak_sel [] (by decide) rfl (by simp only [go_sem, reduceIte, Nat.reduceLT, Nat.reduceEqDiff, Nat.reduceAdd]) (by simp only [go_sem, reduceIte, Nat.reduceLT, Nat.reduceEqDiff, Nat.reduceAdd])) ?_
    rintro t_1076 o_1104 h hxx_1105
    replace h : slices_CompareFunc_b1 s1_1000 s2_1001 cmp_1002 t_1076 = some o_1104 := h
    unfold slices_CompareFunc_b1 at h
    refine run_textE hE [0, 1, 2, 11, 12, 13, 14] (fr' := [(0, .sl false (L cApi_Value s1_1000)), (1, .sl false (L cApi_Value s2_1001)), (2, .fn fcmp_1002 []), (11, .sl false (L cApi_Value s1_1000)), (12, i64 ((s1_1000.length : Int))), (13, i64 t_1076), (14, .bool ((decide (t_1076 < (s1_1000.length : Int)))))]) (σ' := []) ⟨_, orcs_nil, ?_⟩ ?_
    · simp only [go_sem, reduceIte, Nat.reduceLT, Nat.reduceEqDiff, Nat.reduceAdd]
    refine run_seq ?_
    refine run_condL (b := (decide (t_1076 < (s1_1000.length : Int)))) rfl (by decide) (fun hb => ?_) (fun hb => ?_)
    · replace h := ite_t h hb
      refine run_skip ?_
      refine thenK_n ?_
      refine run_seq ?_
      refine run_block ?_
      replace h := chk_some h; obtain ⟨hc_1106, h⟩ := h
      replace h := lt1_some h; obtain ⟨f_1107, hz_1111, h⟩ := h
      replace h := lt1_some h; obtain ⟨f_1108, hz_1112, h⟩ := h
      replace h := lt1_some h; obtain ⟨f_1109, hz_1113, h⟩ := h
      replace h := lt1_some h; obtain ⟨f_1110, hz_1114, h⟩ := h
      refine run_textE hE [0, 1, 2, 7, 8, 11, 12, 13] (fr' := [(0, .sl false (L cApi_Value s1_1000)), (1, .sl false (L cApi_Value s2_1001)), (2, .fn fcmp_1002 []), (7, i64 t_1076), (8, .ref 0 0), (11, .sl false (L cApi_Value s1_1000)), (12, i64 ((s1_1000.length : Int))), (13, i64 t_1076)]) (σ' := [.box [i64 f_1107, i64 f_1108, .sl false (L cU8 f_1109), .sl false (L cApi_Value f_1110)] false]) ⟨_, orcs_nil, ?_⟩ ?_
      · subst hz_1114; subst hz_1113; subst hz_1112; subst hz_1111; simp only [go_sem, reduceIte, Nat.reduceLT, Nat.reduceEqDiff, Nat.reduceAdd, Int.reduceToNat, hc_1106, hc_1106.2, lt_le hc_1106.2]
      refine run_seq ?_
      refine run_textE hE [0, 1, 2, 7, 8, 11, 12, 13, 21] (fr' := [(0, .sl false (L cApi_Value s1_1000)), (1, .sl false (L cApi_Value s2_1001)), (2, .fn fcmp_1002 []), (7, i64 t_1076), (8, .ref 0 0), (11, .sl false (L cApi_Value s1_1000)), (12, i64 ((s1_1000.length : Int))), (13, i64 t_1076), (21, .bool ((decide (t_1076 ≥ (s2_1001.length : Int)))))]) (σ' := [.box [i64 f_1107, i64 f_1108, .sl false (L cU8 f_1109), .sl false (L cApi_Value f_1110)] false]) ⟨_, orcs_nil, ?_⟩ ?_
      · simp only [go_sem, reduceIte, Nat.reduceLT, Nat.reduceEqDiff, Nat.reduceAdd]
      refine run_condL (b := (decide (t_1076 ≥ (s2_1001.length : Int)))) rfl (by decide) (fun hb => ?_) (fun hb => ?_)
      · replace h := ite_t h hb
        refine run_textE hE [6] (fr' := [(6, i64 1)]) (σ' := [.box [i64 f_1107, i64 f_1108, .sl false (L cU8 f_1109), .sl false (L cApi_Value f_1110)] false]) ⟨_, orcs_nil, ?_⟩ ?_
        · simp only [go_sem, reduceIte, Nat.reduceLT, Nat.reduceEqDiff, Nat.reduceAdd]
        refine run_ret ?_
        refine thenK_r ?_
        refine blockK_r ?_
        refine thenK_r ?_
        refine lpK_r ?_
        replace h := bind_some1 h; obtain ⟨z_1116, h, e_z_1116⟩ := h
        obtain rfl := Option.some.inj e_z_1116
        have ex_z_1116 := hxx_1105 _ rfl
        subst ex_z_1116
        obtain rfl := Option.some.inj hj_1103
        refine blockK_r ?_
        refine joinK_r ?_
        replace h := bind_some1 h; obtain ⟨z_1115, h, e_z_1115⟩ := h
        obtain rfl := Option.some.inj e_z_1115
        obtain rfl := Option.some.inj hj_1067
        obtain rfl := Option.some.inj h
        refine ret_ok (.inr rfl) ?_
        simp only [go_sem, reduceIte, Nat.reduceLT, Nat.reduceEqDiff, Nat.reduceAdd]
      · replace h := ite_f h hb
        refine run_skip ?_
        refine thenK_n ?_
        replace h := chk_some h; obtain ⟨hc_1117, h⟩ := h
        replace h := lt1_some h; obtain ⟨f_1118, hz_1122, h⟩ := h
        replace h := lt1_some h; obtain ⟨f_1119, hz_1123, h⟩ := h
        replace h := lt1_some h; obtain ⟨f_1120, hz_1124, h⟩ := h
        replace h := lt1_some h; obtain ⟨f_1121, hz_1125, h⟩ := h
        refine run_textE hE [0, 1, 2, 8, 9, 11, 12, 13] (fr' := [(0, .sl false (L cApi_Value s1_1000)), (1, .sl false (L cApi_Value s2_1001)), (2, .fn fcmp_1002 []), (8, .ref 0 0), (9, .ref 1 0), (11, .sl false (L cApi_Value s1_1000)), (12, i64 ((s1_1000.length : Int))), (13, i64 t_1076)]) (σ' := [.box [i64 f_1107, i64 f_1108, .sl false (L cU8 f_1109), .sl false (L cApi_Value f_1110)] false, .box [i64 f_1118, i64 f_1119, .sl false (L cU8 f_1120), .sl false (L cApi_Value f_1121)] false]) ⟨_, orcs_nil, ?_⟩ ?_
        · subst hz_1125; subst hz_1124; subst hz_1123; subst hz_1122; simp only [go_sem, reduceIte, Nat.reduceLT, Nat.reduceEqDiff, Nat.reduceAdd, Int.reduceToNat, hc_1117, hc_1117.2, lt_le hc_1117.2]
        replace h := bind_some1 h; obtain ⟨y_1126, hy_1127, h⟩ := h
        refine run_textE hE [0, 1, 2, 10, 11, 12, 13] (fr' := [(0, .sl false (L cApi_Value s1_1000)), (1, .sl false (L cApi_Value s2_1001)), (2, .fn fcmp_1002 []), (10, i64 y_1126), (11, .sl false (L cApi_Value s1_1000)), (12, i64 ((s1_1000.length : Int))), (13, i64 t_1076)]) (σ' := [.box [i64 f_1107, i64 f_1108, .sl false (L cU8 f_1109), .sl false (L cApi_Value f_1110)] false, .box [i64 f_1118, i64 f_1119, .sl false (L cU8 f_1120), .sl false (L cApi_Value f_1121)] false]) ⟨_, orcs_ok (l := [(29, fcmp_1002, [.agg [i64 f_1107, i64 f_1108, .sl false (L cU8 f_1109), .sl false (L cApi_Value f_1110)], .agg [i64 f_1118, i64 f_1119, .sl false (L cU8 f_1120), .sl false (L cApi_Value f_1121)]], i64 y_1126)]) ⟨hfcmp_1002  hy_1127, trivial⟩, ?_⟩ ?_
        · simp only [go_sem, reduceIte, Nat.reduceLT, Nat.reduceEqDiff, Nat.reduceAdd]
        refine run_textE hE [0, 1, 2, 10, 11, 12, 13, 31] (fr' := [(0, .sl false (L cApi_Value s1_1000)), (1, .sl false (L cApi_Value s2_1001)), (2, .fn fcmp_1002 []), (10, i64 y_1126), (11, .sl false (L cApi_Value s1_1000)), (12, i64 ((s1_1000.length : Int))), (13, i64 t_1076), (31, .bool ((y_1126 != 0)))]) (σ' := [.box [i64 f_1107, i64 f_1108, .sl false (L cU8 f_1109), .sl false (L cApi_Value f_1110)] false, .box [i64 f_1118, i64 f_1119, .sl false (L cU8 f_1120), .sl false (L cApi_Value f_1121)] false]) ⟨_, orcs_nil, ?_⟩ ?_
        · simp only [go_sem, reduceIte, Nat.reduceLT, Nat.reduceEqDiff, Nat.reduceAdd]
        refine run_condL (b := (y_1126 != 0)) rfl (by decide) (fun hb => ?_) (fun hb => ?_)
        · replace h := ite_t h hb
          refine run_textE hE [6] (fr' := [(6, i64 y_1126)]) (σ' := [.box [i64 f_1107, i64 f_1108, .sl false (L cU8 f_1109), .sl false (L cApi_Value f_1110)] false, .box [i64 f_1118, i64 f_1119, .sl false (L cU8 f_1120), .sl false (L cApi_Value f_1121)] false]) ⟨_, orcs_nil, ?_⟩ ?_
          · simp only [go_sem, reduceIte, Nat.reduceLT, Nat.reduceEqDiff, Nat.reduceAdd]
          refine run_ret ?_
          refine blockK_r ?_
          refine thenK_r ?_
          refine lpK_r ?_
          replace h := bind_some1 h; obtain ⟨z_1129, h, e_z_1129⟩ := h
          obtain rfl := Option.some.inj e_z_1129
          have ex_z_1129 := hxx_1105 _ rfl
          subst ex_z_1129
          obtain rfl := Option.some.inj hj_1103
          refine blockK_r ?_
          refine joinK_r ?_
          replace h := bind_some1 h; obtain ⟨z_1128, h, e_z_1128⟩ := h
          obtain rfl := Option.some.inj e_z_1128
          obtain rfl := Option.some.inj hj_1067
          obtain rfl := Option.some.inj h
          refine ret_ok (.inr rfl) ?_
          simp only [go_sem, reduceIte, Nat.reduceLT, Nat.reduceEqDiff, Nat.reduceAdd]
        · replace h := ite_f h hb
          refine run_skip ?_
          refine blockK_n ?_
          refine thenK_n ?_
          refine run_textE0 hE wk_lp [0, 1, 2, 11, 12, 13] (fr' := [(0, .sl false (L cApi_Value s1_1000)), (1, .sl false (L cApi_Value s2_1001)), (2, .fn fcmp_1002 []), (11, .sl false (L cApi_Value s1_1000)), (12, i64 ((s1_1000.length : Int))), (13, i64 ((w64 (t_1076 + 1))))]) (σ' := [.box [i64 f_1107, i64 f_1108, .sl false (L cU8 f_1109), .sl false (L cApi_Value f_1110)] false, .box [i64 f_1118, i64 f_1119, .sl false (L cU8 f_1120), .sl false (L cApi_Value f_1121)] false]) ⟨_, orcs_nil, ?_⟩ ?_
          · simp only [go_sem, reduceIte, Nat.reduceLT, Nat.reduceEqDiff, Nat.reduceAdd]
          obtain rfl := Option.some.inj h
          exact lpK_n ((w64 (t_1076 + 1))) rfl (weak_sel [] (by decide) rfl (by simp only [go_sem, reduceIte, Nat.reduceLT, Nat.reduceEqDiff, Nat.reduceAdd]) (by simp only [go_sem, reduceIte, Nat.reduceLT, Nat.reduceEqDiff, Nat.reduceAdd]))
    · replace h := ite_f h hb
      refine run_exit ?_
      refine thenK_x ?_
      obtain rfl := Option.some.inj h
      have ex_x_1101 := hxx_1105 _ rfl
      subst ex_x_1101
      have h := hj_1103; clear hj_1103
      refine lpK_x ?_
      refine blockK_x ?_
      obtain rfl := Option.some.inj h
      exact joinK_n (()) rfl ((weak_sel (l' := [(0, .sl false (L cApi_Value s1_1000)), (1, .sl false (L cApi_Value s2_1001))]) (σ' := []) [] (by decide) rfl (by simp only [go_sem, reduceIte, Nat.reduceLT, Nat.reduceEqDiff, Nat.reduceAdd]) (by simp only [go_sem, reduceIte, Nat.reduceLT, Nat.reduceEqDiff, Nat.reduceAdd])).trans (weak_sel [] (by decide) rfl (by simp only [go_sem, reduceIte, Nat.reduceLT, Nat.reduceEqDiff, Nat.reduceAdd]) (by simp only [go_sem, reduceIte, Nat.reduceLT, Nat.reduceEqDiff, Nat.reduceAdd])))
  rintro ⟨⟩ rfl
  have h := hj_1067; clear hj_1067
  refine run_seq ?_
  refine run_textE hE [38] (fr' := [(38, .bool ((decide ((s1_1000.length : Int) < (s2_1001.length : Int)))))]) (σ' := []) ⟨_, orcs_nil, ?_⟩ ?_
  · simp only [go_sem, reduceIte, Nat.reduceLT, Nat.reduceEqDiff, Nat.reduceAdd]
  refine run_condL (b := (decide ((s1_1000.length : Int) < (s2_1001.length : Int)))) rfl (by decide) (fun hb => ?_) (fun hb => ?_)
  · replace h := ite_t h hb
    refine run_textE hE [6] (fr' := [(6, i64 ((-1)))]) (σ' := []) ⟨_, orcs_nil, ?_⟩ ?_
    · simp only [go_sem, reduceIte, Nat.reduceLT, Nat.reduceEqDiff, Nat.reduceAdd]
    refine run_ret ?_
    refine thenK_r ?_
    obtain rfl := Option.some.inj h
    refine ret_ok (.inr rfl) ?_
    simp only [go_sem, reduceIte, Nat.reduceLT, Nat.reduceEqDiff, Nat.reduceAdd]
  · replace h := ite_f h hb
    refine run_skip ?_
    refine thenK_n ?_
    refine run_textE hE [6] (fr' := [(6, i64 0)]) (σ' := []) ⟨_, orcs_nil, ?_⟩ ?_
    · simp only [go_sem, reduceIte, Nat.reduceLT, Nat.reduceEqDiff, Nat.reduceAdd]
    refine run_ret ?_
    obtain rfl := Option.some.inj h
    refine ret_ok (.inr rfl) ?_
    simp only [go_sem, reduceIte, Nat.reduceLT, Nat.reduceEqDiff, Nat.reduceAdd]

theorem codec_Compare_F_con {rec_ : Api_Value → Api_Value → Option (Int)} (hrec : ∀ {a_1130 : Api_Value} {b_1131 : Api_Value} {r : Int}, rec_ a_1130 b_1131 = some r → Con B 19 [.agg [i64 a_1130.Kind, i64 a_1130.N, .sl false (L cU8 a_1130.B), .sl false (L cApi_Value a_1130.L)], .agg [i64 b_1131.Kind, i64 b_1131.N, .sl false (L cU8 b_1131.B), .sl false (L cApi_Value b_1131.L)]] [] (fun r' σ' => r' = i64 r ∧ σ' = [])) {a_1130 : Api_Value} {b_1131 : Api_Value} {r : Int} (h : codec_Compare_F rec_ a_1130 b_1131 = some r) : Con B 19 [.agg [i64 a_1130.Kind, i64 a_1130.N, .sl false (L cU8 a_1130.B), .sl false (L cApi_Value a_1130.L)], .agg [i64 b_1131.Kind, i64 b_1131.N, .sl false (L cU8 b_1131.B), .sl false (L cApi_Value b_1131.L)]] [] (fun r' σ' => r' = i64 r ∧ σ' = []) := by
  refine con_walk (N := 37) (rs := [.tmp 4]) ok Try.func19 rfl (by decide +kernel) rfl rfl (Nat.le_of_ble_eq_true rfl) (fun F => ?_)
  have hE := ok.env F
  unfold codec_Compare_F at h
  show Run (B.env F) 0 _ ⟨asFr 37 [(0, .agg [i64 a_1130.Kind, i64 a_1130.N, .sl false (L cU8 a_1130.B), .sl false (L cApi_Value a_1130.L)]), (1, .agg [i64 b_1131.Kind, i64 b_1131.N, .sl false (L cU8 b_1131.B), .sl false (L cApi_Value b_1131.L)])], []⟩ _
  refine run_textE hE [2, 3] (fr' := [(2, .ref 0 0), (3, .ref 1 0)]) (σ' := [.box [i64 a_1130.Kind, i64 a_1130.N, .sl false (L cU8 a_1130.B), .sl false (L cApi_Value a_1130.L)] false, .box [i64 b_1131.Kind, i64 b_1131.N, .sl false (L cU8 b_1131.B), .sl false (L cApi_Value b_1131.L)] false]) ⟨_, orcs_nil, ?_⟩ ?_
  · simp only [go_sem, reduceIte, Nat.reduceLT, Nat.reduceEqDiff, Nat.reduceAdd]
  refine run_seq ?_
  replace h := bind_some1 h; obtain ⟨y_1132, hy_1133, h⟩ := h
  refine run_textE hE [2, 3, 5] (fr' := [(2, .ref 0 0), (3, .ref 1 0), (5, i64 y_1132)]) (σ' := [.box [i64 a_1130.Kind, i64 a_1130.N, .sl false (L cU8 a_1130.B), .sl false (L cApi_Value a_1130.L)] false, .box [i64 b_1131.Kind, i64 b_1131.N, .sl false (L cU8 b_1131.B), .sl false (L cApi_Value b_1131.L)] false]) ⟨_, orcs_ok (l := [(10, 38, [i64 a_1130.Kind, i64 b_1131.Kind], i64 y_1132)]) ⟨cmp_Compare_con  hy_1133, trivial⟩, ?_⟩ ?_
  · simp only [go_sem, reduceIte, Nat.reduceLT, Nat.reduceEqDiff, Nat.reduceAdd]
  refine run_textE hE [2, 3, 5, 12] (fr' := [(2, .ref 0 0), (3, .ref 1 0), (5, i64 y_1132), (12, .bool ((y_1132 != 0)))]) (σ' := [.box [i64 a_1130.Kind, i64 a_1130.N, .sl false (L cU8 a_1130.B), .sl false (L cApi_Value a_1130.L)] false, .box [i64 b_1131.Kind, i64 b_1131.N, .sl false (L cU8 b_1131.B), .sl false (L cApi_Value b_1131.L)] false]) ⟨_, orcs_nil, ?_⟩ ?_
  · simp only [go_sem, reduceIte, Nat.reduceLT, Nat.reduceEqDiff, Nat.reduceAdd]
  refine run_condL (b := (y_1132 != 0)) rfl (by decide) (fun hb => ?_) (fun hb => ?_)
  · replace h := ite_t h hb
    refine run_textE hE [4] (fr' := [(4, i64 y_1132)]) (σ' := [.box [i64 a_1130.Kind, i64 a_1130.N, .sl false (L cU8 a_1130.B), .sl false (L cApi_Value a_1130.L)] false, .box [i64 b_1131.Kind, i64 b_1131.N, .sl false (L cU8 b_1131.B), .sl false (L cApi_Value b_1131.L)] false]) ⟨_, orcs_nil, ?_⟩ ?_
    · simp only [go_sem, reduceIte, Nat.reduceLT, Nat.reduceEqDiff, Nat.reduceAdd]
    refine run_ret ?_
    refine thenK_r ?_
    obtain rfl := Option.some.inj h
    refine ret_ok (.inr rfl) ?_
    simp only [go_sem, reduceIte, Nat.reduceLT, Nat.reduceEqDiff, Nat.reduceAdd]
  · replace h := ite_f h hb
    refine run_skip ?_
    refine thenK_n ?_
    refine run_seq ?_
    refine run_textE hE [2, 3, 15] (fr' := [(2, .ref 0 0), (3, .ref 1 0), (15, i64 a_1130.Kind)]) (σ' := [.box [i64 a_1130.Kind, i64 a_1130.N, .sl false (L cU8 a_1130.B), .sl false (L cApi_Value a_1130.L)] false, .box [i64 b_1131.Kind, i64 b_1131.N, .sl false (L cU8 b_1131.B), .sl false (L cApi_Value b_1131.L)] false]) ⟨_, orcs_nil, ?_⟩ ?_
    · simp only [go_sem, reduceIte, Nat.reduceLT, Nat.reduceEqDiff, Nat.reduceAdd]
    refine run_block ?_
    refine run_textE hE [2, 3, 15, 16] (fr' := [(2, .ref 0 0), (3, .ref 1 0), (15, i64 a_1130.Kind), (16, .bool ((a_1130.Kind == 1)))]) (σ' := [.box [i64 a_1130.Kind, i64 a_1130.N, .sl false (L cU8 a_1130.B), .sl false (L cApi_Value a_1130.L)] false, .box [i64 b_1131.Kind, i64 b_1131.N, .sl false (L cU8 b_1131.B), .sl false (L cApi_Value b_1131.L)] false]) ⟨_, orcs_nil, ?_⟩ ?_
    · simp only [go_sem, reduceIte, Nat.reduceLT, Nat.reduceEqDiff, Nat.reduceAdd]
    refine run_condL (b := (a_1130.Kind == 1)) rfl (by decide) (fun hb => ?_) (fun hb => ?_)
    · replace h := ite_t h hb
      replace h := bind_some1 h; obtain ⟨y_1134, hy_1135, h⟩ := h
      refine run_textE hE [4] (fr' := [(4, i64 y_1134)]) (σ' := [.box [i64 a_1130.Kind, i64 a_1130.N, .sl false (L cU8 a_1130.B), .sl false (L cApi_Value a_1130.L)] false, .box [i64 b_1131.Kind, i64 b_1131.N, .sl false (L cU8 b_1131.B), .sl false (L cApi_Value b_1131.L)] false]) ⟨_, orcs_ok (l := [(22, 38, [i64 a_1130.N, i64 b_1131.N], i64 y_1134)]) ⟨cmp_Compare_con  hy_1135, trivial⟩, ?_⟩ ?_
      · simp only [go_sem, reduceIte, Nat.reduceLT, Nat.reduceEqDiff, Nat.reduceAdd]
      refine run_ret ?_
      refine blockK_r ?_
      refine thenK_r ?_
      obtain rfl := Option.some.inj h
      refine ret_ok (.inr rfl) ?_
      simp only [go_sem, reduceIte, Nat.reduceLT, Nat.reduceEqDiff, Nat.reduceAdd]
    · replace h := ite_f h hb
      refine run_textE hE [2, 3, 15, 23] (fr' := [(2, .ref 0 0), (3, .ref 1 0), (15, i64 a_1130.Kind), (23, .bool ((a_1130.Kind == 2)))]) (σ' := [.box [i64 a_1130.Kind, i64 a_1130.N, .sl false (L cU8 a_1130.B), .sl false (L cApi_Value a_1130.L)] false, .box [i64 b_1131.Kind, i64 b_1131.N, .sl false (L cU8 b_1131.B), .sl false (L cApi_Value b_1131.L)] false]) ⟨_, orcs_nil, ?_⟩ ?_
      · simp only [go_sem, reduceIte, Nat.reduceLT, Nat.reduceEqDiff, Nat.reduceAdd]
      refine run_condL (b := (a_1130.Kind == 2)) rfl (by decide) (fun hb => ?_) (fun hb => ?_)
      · replace h := ite_t h hb
        replace h := bind_some1 h; obtain ⟨y_1136, hy_1137, h⟩ := h
        refine run_textE hE [4] (fr' := [(4, i64 y_1136)]) (σ' := [.box [i64 a_1130.Kind, i64 a_1130.N, .sl false (L cU8 a_1130.B), .sl false (L cApi_Value a_1130.L)] false, .box [i64 b_1131.Kind, i64 b_1131.N, .sl false (L cU8 b_1131.B), .sl false (L cApi_Value b_1131.L)] false]) ⟨_, orcs_ok (l := [(29, 39, [.sl false (L cU8 a_1130.B), .sl false (L cU8 b_1131.B)], i64 y_1136)]) ⟨bytes_Compare_con  hy_1137, trivial⟩, ?_⟩ ?_
        · simp only [go_sem, reduceIte, Nat.reduceLT, Nat.reduceEqDiff, Nat.reduceAdd]
        refine run_ret ?_
        refine blockK_r ?_
        refine thenK_r ?_
        obtain rfl := Option.some.inj h
        refine ret_ok (.inr rfl) ?_
        simp only [go_sem, reduceIte, Nat.reduceLT, Nat.reduceEqDiff, Nat.reduceAdd]
      · replace h := ite_f h hb
        refine run_textE hE [2, 3, 30] (fr' := [(2, .ref 0 0), (3, .ref 1 0), (30, .bool ((a_1130.Kind == 3)))]) (σ' := [.box [i64 a_1130.Kind, i64 a_1130.N, .sl false (L cU8 a_1130.B), .sl false (L cApi_Value a_1130.L)] false, .box [i64 b_1131.Kind, i64 b_1131.N, .sl false (L cU8 b_1131.B), .sl false (L cApi_Value b_1131.L)] false]) ⟨_, orcs_nil, ?_⟩ ?_
        · simp only [go_sem, reduceIte, Nat.reduceLT, Nat.reduceEqDiff, Nat.reduceAdd]
        refine run_condL (b := (a_1130.Kind == 3)) rfl (by decide) (fun hb => ?_) (fun hb => ?_)
        · replace h := ite_t h hb
          replace h := bind_some1 h; obtain ⟨y_1138, hy_1139, h⟩ := h
          refine run_textE hE [4] (fr' := [(4, i64 y_1138)]) (σ' := [.box [i64 a_1130.Kind, i64 a_1130.N, .sl false (L cU8 a_1130.B), .sl false (L cApi_Value a_1130.L)] false, .box [i64 b_1131.Kind, i64 b_1131.N, .sl false (L cU8 b_1131.B), .sl false (L cApi_Value b_1131.L)] false]) ⟨_, orcs_ok (l := [(36, 40, [.sl false (L cApi_Value a_1130.L), .sl false (L cApi_Value b_1131.L), .fn 19 []], i64 y_1138)]) ⟨slices_CompareFunc_con (fun h => hrec h) hy_1139, trivial⟩, ?_⟩ ?_
          · simp only [go_sem, reduceIte, Nat.reduceLT, Nat.reduceEqDiff, Nat.reduceAdd]
          refine run_ret ?_
          refine blockK_r ?_
          refine thenK_r ?_
          obtain rfl := Option.some.inj h
          refine ret_ok (.inr rfl) ?_
          simp only [go_sem, reduceIte, Nat.reduceLT, Nat.reduceEqDiff, Nat.reduceAdd]
        · replace h := ite_f h hb
          refine run_skip ?_
          refine blockK_n ?_
          refine thenK_n ?_
          refine run_textE hE [4] (fr' := [(4, i64 0)]) (σ' := [.box [i64 a_1130.Kind, i64 a_1130.N, .sl false (L cU8 a_1130.B), .sl false (L cApi_Value a_1130.L)] false, .box [i64 b_1131.Kind, i64 b_1131.N, .sl false (L cU8 b_1131.B), .sl false (L cApi_Value b_1131.L)] false]) ⟨_, orcs_nil, ?_⟩ ?_
          · simp only [go_sem, reduceIte, Nat.reduceLT, Nat.reduceEqDiff, Nat.reduceAdd]
          refine run_ret ?_
          obtain rfl := Option.some.inj h
          refine ret_ok (.inr rfl) ?_
          simp only [go_sem, reduceIte, Nat.reduceLT, Nat.reduceEqDiff, Nat.reduceAdd]
theorem codec_Compare_n_con (n : Nat) : ∀ {a_1130 : Api_Value} {b_1131 : Api_Value} {r : Int}, codec_Compare_n n a_1130 b_1131 = some r → Con B 19 [.agg [i64 a_1130.Kind, i64 a_1130.N, .sl false (L cU8 a_1130.B), .sl false (L cApi_Value a_1130.L)], .agg [i64 b_1131.Kind, i64 b_1131.N, .sl false (L cU8 b_1131.B), .sl false (L cApi_Value b_1131.L)]] [] (fun r' σ' => r' = i64 r ∧ σ' = []) := by
  induction n with
  | zero => intro a_1130 b_1131 r h; cases h
  | succ n ih => intro a_1130 b_1131 r h; exact codec_Compare_F_con ih h
theorem codec_Compare_con {a_1130 : Api_Value} {b_1131 : Api_Value} {r : Int} (h : codec_Compare a_1130 b_1131 = some r) : Con B 19 [.agg [i64 a_1130.Kind, i64 a_1130.N, .sl false (L cU8 a_1130.B), .sl false (L cApi_Value a_1130.L)], .agg [i64 b_1131.Kind, i64 b_1131.N, .sl false (L cU8 b_1131.B), .sl false (L cApi_Value b_1131.L)]] [] (fun r' σ' => r' = i64 r ∧ σ' = []) := codec_Compare_n_con _ h

end Go.Proofs.Ytihncddenjbecaa
/-
  The functions compute just that.
-/
namespace Go.Proofs.Ytihncddenjbecaa
open Go.Rv
set_option linter.unusedVariables false
set_option linter.unusedSimpArgs false
set_option maxRecDepth 20000

theorem r01_Shape_F_con {rec_ : Api_Value → Option (Bool)} (hrec : ∀ {v_1140 : Api_Value} {r : Bool}, rec_ v_1140 = some r → Con B 37 [.agg [i64 v_1140.Kind, i64 v_1140.N, .sl false (L cU8 v_1140.B), .sl false (L cApi_Value v_1140.L)]] [] (fun r' σ' => r' = .bool r ∧ σ' = [])) {v_1140 : Api_Value} {r : Bool} (h : r01_Shape_F rec_ v_1140 = some r) : Con B 37 [.agg [i64 v_1140.Kind, i64 v_1140.N, .sl false (L cU8 v_1140.B), .sl false (L cApi_Value v_1140.L)]] [] (fun r' σ' => r' = .bool r ∧ σ' = []) := by
  refine con_walk (N := 61) (rs := [.tmp 2]) ok Try.func37 rfl (by decide +kernel) rfl rfl (Nat.le_of_ble_eq_true rfl) (fun F => ?_)
  have hE := ok.env F
  unfold r01_Shape_F at h
  show Run (B.env F) 0 _ ⟨asFr 61 [(0, .agg [i64 v_1140.Kind, i64 v_1140.N, .sl false (L cU8 v_1140.B), .sl false (L cApi_Value v_1140.L)])], []⟩ _
  refine run_textE hE [1] (fr' := [(1, .ref 0 0)]) (σ' := [.box [i64 v_1140.Kind, i64 v_1140.N, .sl false (L cU8 v_1140.B), .sl false (L cApi_Value v_1140.L)] false]) ⟨_, orcs_nil, ?_⟩ ?_
  · simp only [go_sem, reduceIte, Nat.reduceLT, Nat.reduceEqDiff, Nat.reduceAdd]
  refine run_seq ?_
  replace h := bind_some1 h; obtain ⟨t_1141, hv_1142, h⟩ := h
  refine run_textW hE [1, 33] (fr' := [(1, .ref 0 0), (33, .bool t_1141)]) (σ' := [.box [i64 v_1140.Kind, i64 v_1140.N, .sl false (L cU8 v_1140.B), .sl false (L cApi_Value v_1140.L)] false]) ?_ ?_
  · rcases Bool.eq_false_or_eq_true ((v_1140.Kind != 1)) with hb_1143 | hb_1143
    · replace hv_1142 := ite_t hv_1142 hb_1143
      rcases Bool.eq_false_or_eq_true ((v_1140.N != 0)) with hb_1144 | hb_1144
      · replace hv_1142 := ite_t hv_1142 hb_1144
        have e_hv_1142 := Option.some.inj hv_1142; subst e_hv_1142
        exact ⟨_, [(1, .ref 0 0), (33, .bool true)], [.box [i64 v_1140.Kind, i64 v_1140.N, .sl false (L cU8 v_1140.B), .sl false (L cApi_Value v_1140.L)] false], orcs_nil, by simp only [go_sem, reduceIte, Nat.reduceLT, Nat.reduceEqDiff, Nat.reduceAdd, hb_1143, hb_1144], (weak_sel [0] (by decide) rfl (by simp only [go_sem, reduceIte, Nat.reduceLT, Nat.reduceEqDiff, Nat.reduceAdd]) (by simp only [go_sem, reduceIte, Nat.reduceLT, Nat.reduceEqDiff, Nat.reduceAdd]))⟩
      · replace hv_1142 := ite_f hv_1142 hb_1144
        rcases Bool.eq_false_or_eq_true ((v_1140.Kind != 2)) with hb_1145 | hb_1145
        · replace hv_1142 := ite_t hv_1142 hb_1145
          rcases Bool.eq_false_or_eq_true ((decide ((v_1140.B.length : Int) > 0))) with hb_1146 | hb_1146
          · replace hv_1142 := ite_t hv_1142 hb_1146
            have e_hv_1142 := Option.some.inj hv_1142; subst e_hv_1142
            exact ⟨_, [(1, .ref 0 0), (33, .bool true)], [.box [i64 v_1140.Kind, i64 v_1140.N, .sl false (L cU8 v_1140.B), .sl false (L cApi_Value v_1140.L)] false], orcs_nil, by simp only [go_sem, reduceIte, Nat.reduceLT, Nat.reduceEqDiff, Nat.reduceAdd, hb_1143, hb_1144, hb_1145, hb_1146], (weak_sel [0] (by decide) rfl (by simp only [go_sem, reduceIte, Nat.reduceLT, Nat.reduceEqDiff, Nat.reduceAdd]) (by simp only [go_sem, reduceIte, Nat.reduceLT, Nat.reduceEqDiff, Nat.reduceAdd]))⟩
          · replace hv_1142 := ite_f hv_1142 hb_1146
            rcases Bool.eq_false_or_eq_true ((v_1140.Kind != 3)) with hb_1147 | hb_1147
            · replace hv_1142 := ite_t hv_1142 hb_1147
              have e_hv_1142 := Option.some.inj hv_1142; subst e_hv_1142
              exact ⟨_, [(1, .ref 0 0), (33, .bool ((decide ((v_1140.L.length : Int) > 0))))], [.box [i64 v_1140.Kind, i64 v_1140.N, .sl false (L cU8 v_1140.B), .sl false (L cApi_Value v_1140.L)] false], orcs_nil, by simp only [go_sem, reduceIte, Nat.reduceLT, Nat.reduceEqDiff, Nat.reduceAdd, hb_1143, hb_1144, hb_1145, hb_1146, hb_1147], (weak_sel [0] (by decide) rfl (by simp only [go_sem, reduceIte, Nat.reduceLT, Nat.reduceEqDiff, Nat.reduceAdd]) (by simp only [go_sem, reduceIte, Nat.reduceLT, Nat.reduceEqDiff, Nat.reduceAdd]))⟩
            · replace hv_1142 := ite_f hv_1142 hb_1147
              have e_hv_1142 := Option.some.inj hv_1142; subst e_hv_1142
              exact ⟨_, [(1, .ref 0 0), (33, .bool false)], [.box [i64 v_1140.Kind, i64 v_1140.N, .sl false (L cU8 v_1140.B), .sl false (L cApi_Value v_1140.L)] false], orcs_nil, by simp only [go_sem, reduceIte, Nat.reduceLT, Nat.reduceEqDiff, Nat.reduceAdd, hb_1143, hb_1144, hb_1145, hb_1146, hb_1147], (weak_sel [0] (by decide) rfl (by simp only [go_sem, reduceIte, Nat.reduceLT, Nat.reduceEqDiff, Nat.reduceAdd]) (by simp only [go_sem, reduceIte, Nat.reduceLT, Nat.reduceEqDiff, Nat.reduceAdd]))⟩
        · replace hv_1142 := ite_f hv_1142 hb_1145
          rcases Bool.eq_false_or_eq_true ((v_1140.Kind != 3)) with hb_1148 | hb_1148
          · replace hv_1142 := ite_t hv_1142 hb_1148
            have e_hv_1142 := Option.some.inj hv_1142; subst e_hv_1142
            exact ⟨_, [(1, .ref 0 0), (33, .bool ((decide ((v_1140.L.length : Int) > 0))))], [.box [i64 v_1140.Kind, i64 v_1140.N, .sl false (L cU8 v_1140.B), .sl false (L cApi_Value v_1140.L)] false], orcs_nil, by simp only [go_sem, reduceIte, Nat.reduceLT, Nat.reduceEqDiff, Nat.reduceAdd, hb_1143, hb_1144, hb_1145, hb_1148], (weak_sel [0] (by decide) rfl (by simp only [go_sem, reduceIte, Nat.reduceLT, Nat.reduceEqDiff, Nat.reduceAdd]) (by simp only [go_sem, reduceIte, Nat.reduceLT, Nat.reduceEqDiff, Nat.reduceAdd]))⟩
          · replace hv_1142 := ite_f hv_1142 hb_1148
            have e_hv_1142 := Option.some.inj hv_1142; subst e_hv_1142
            exact ⟨_, [(1, .ref 0 0), (33, .bool false)], [.box [i64 v_1140.Kind, i64 v_1140.N, .sl false (L cU8 v_1140.B), .sl false (L cApi_Value v_1140.L)] false], orcs_nil, by simp only [go_sem, reduceIte, Nat.reduceLT, Nat.reduceEqDiff, Nat.reduceAdd, hb_1143, hb_1144, hb_1145, hb_1148], (weak_sel [0] (by decide) rfl (by simp only [go_sem, reduceIte, Nat.reduceLT, Nat.reduceEqDiff, Nat.reduceAdd]) (by simp only [go_sem, reduceIte, Nat.reduceLT, Nat.reduceEqDiff, Nat.reduceAdd]))⟩
    · replace hv_1142 := ite_f hv_1142 hb_1143
      rcases Bool.eq_false_or_eq_true ((v_1140.Kind != 2)) with hb_1149 | hb_1149
      · replace hv_1142 := ite_t hv_1142 hb_1149
        rcases Bool.eq_false_or_eq_true ((decide ((v_1140.B.length : Int) > 0))) with hb_1150 | hb_1150
        · replace hv_1142 := ite_t hv_1142 hb_1150
          have e_hv_1142 := Option.some.inj hv_1142; subst e_hv_1142
          exact ⟨_, [(1, .ref 0 0), (33, .bool true)], [.box [i64 v_1140.Kind, i64 v_1140.N, .sl false (L cU8 v_1140.B), .sl false (L cApi_Value v_1140.L)] false], orcs_nil, by simp only [go_sem, reduceIte, Nat.reduceLT, Nat.reduceEqDiff, Nat.reduceAdd, hb_1143, hb_1149, hb_1150], (weak_sel [0] (by decide) rfl (by simp only [go_sem, reduceIte, Nat.reduceLT, Nat.reduceEqDiff, Nat.reduceAdd]) (by simp only [go_sem, reduceIte, Nat.reduceLT, Nat.reduceEqDiff, Nat.reduceAdd]))⟩
        · replace hv_1142 := ite_f hv_1142 hb_1150
          rcases Bool.eq_false_or_eq_true ((v_1140.Kind != 3)) with hb_1151 | hb_1151
          · replace hv_1142 := ite_t hv_1142 hb_1151
            have e_hv_1142 := Option.some.inj hv_1142; subst e_hv_1142
            exact ⟨_, [(1, .ref 0 0), (33, .bool ((decide ((v_1140.L.length : Int) > 0))))], [.box [i64 v_1140.Kind, i64 v_1140.N, .sl false (L cU8 v_1140.B), .sl false (L cApi_Value v_1140.L)] false], orcs_nil, by simp only [go_sem, reduceIte, Nat.reduceLT, Nat.reduceEqDiff, Nat.reduceAdd, hb_1143, hb_1149, hb_1150, hb_1151], (weak_sel [0] (by decide) rfl (by simp only [go_sem, reduceIte, Nat.reduceLT, Nat.reduceEqDiff, Nat.reduceAdd]) (by simp only [go_sem, reduceIte, Nat.reduceLT, Nat.reduceEqDiff, Nat.reduceAdd]))⟩
          · replace hv_1142 := ite_f hv_1142 hb_1151
            have e_hv_1142 := Option.some.inj hv_1142; subst e_hv_1142
            exact ⟨_, [(1, .ref 0 0), (33, .bool false)], [.box [i64 v_1140.Kind, i64 v_1140.N, .sl false (L cU8 v_1140.B), .sl false (L cApi_Value v_1140.L)] false], orcs_nil, by simp only [go_sem, reduceIte, Nat.reduceLT, Nat.reduceEqDiff, Nat.reduceAdd, hb_1143, hb_1149, hb_1150, hb_1151], (weak_sel [0] (by decide) rfl (by simp only [go_sem, reduceIte, Nat.reduceLT, Nat.reduceEqDiff, Nat.reduceAdd]) (by simp only [go_sem, reduceIte, Nat.reduceLT, Nat.reduceEqDiff, Nat.reduceAdd]))⟩
      · replace hv_1142 := ite_f hv_1142 hb_1149
        rcases Bool.eq_false_or_eq_true ((v_1140.Kind != 3)) with hb_1152 | hb_1152
        · replace hv_1142 := ite_t hv_1142 hb_1152
          have e_hv_1142 := Option.some.inj hv_1142; subst e_hv_1142
          exact ⟨_, [(1, .ref 0 0), (33, .bool ((decide ((v_1140.L.length : Int) > 0))))], [.box [i64 v_1140.Kind, i64 v_1140.N, .sl false (L cU8 v_1140.B), .sl false (L cApi_Value v_1140.L)] false], orcs_nil, by simp only [go_sem, reduceIte, Nat.reduceLT, Nat.reduceEqDiff, Nat.reduceAdd, hb_1143, hb_1149, hb_1152], (weak_sel [0] (by decide) rfl (by simp only [go_sem, reduceIte, Nat.reduceLT, Nat.reduceEqDiff, Nat.reduceAdd]) (by simp only [go_sem, reduceIte, Nat.reduceLT, Nat.reduceEqDiff, Nat.reduceAdd]))⟩
        · replace hv_1142 := ite_f hv_1142 hb_1152
          have e_hv_1142 := Option.some.inj hv_1142; subst e_hv_1142
          exact ⟨_, [(1, .ref 0 0), (33, .bool false)], [.box [i64 v_1140.Kind, i64 v_1140.N, .sl false (L cU8 v_1140.B), .sl false (L cApi_Value v_1140.L)] false], orcs_nil, by simp only [go_sem, reduceIte, Nat.reduceLT, Nat.reduceEqDiff, Nat.reduceAdd, hb_1143, hb_1149, hb_1152], (weak_sel [0] (by decide) rfl (by simp only [go_sem, reduceIte, Nat.reduceLT, Nat.reduceEqDiff, Nat.reduceAdd]) (by simp only [go_sem, reduceIte, Nat.reduceLT, Nat.reduceEqDiff, Nat.reduceAdd]))⟩
  refine run_condL (b := t_1141) rfl (by decide) (fun hb => ?_) (fun hb => ?_)
  · replace h := ite_t h hb
    refine run_textE hE [2] (fr' := [(2, .bool false)]) (σ' := [.box [i64 v_1140.Kind, i64 v_1140.N, .sl false (L cU8 v_1140.B), .sl false (L cApi_Value v_1140.L)] false]) ⟨_, orcs_nil, ?_⟩ ?_
    · simp only [go_sem, reduceIte, Nat.reduceLT, Nat.reduceEqDiff, Nat.reduceAdd]
    refine run_ret ?_
    refine thenK_r ?_
    obtain rfl := Option.some.inj h
    refine ret_ok (.inr rfl) ?_
    simp only [go_sem, reduceIte, Nat.reduceLT, Nat.reduceEqDiff, Nat.reduceAdd]
  · replace h := ite_f h hb
    refine run_skip ?_
    refine thenK_n ?_
    replace h := bind_some1 h; obtain ⟨j_1174, hA_1175, hj_1176⟩ := h
    refine run_join (fun (v : Unit) => (⟨asFr 61 [(1, .ref 0 0)], [.box [i64 v_1140.Kind, i64 v_1140.N, .sl false (L cU8 v_1140.B), .sl false (L cApi_Value v_1140.L)] false]⟩ : St)) (fun v => .inl v = j_1174) ?_ ?_
    · have h := hA_1175; clear hA_1175
      refine run_textE hE [1, 3] (fr' := [(1, .ref 0 0), (3, i64 0)]) (σ' := [.box [i64 v_1140.Kind, i64 v_1140.N, .sl false (L cU8 v_1140.B), .sl false (L cApi_Value v_1140.L)] false]) ⟨_, orcs_nil, ?_⟩ ?_
      · simp only [go_sem, reduceIte, Nat.reduceLT, Nat.reduceEqDiff, Nat.reduceAdd]
      refine run_block ?_
      replace h := bind_some1 h; obtain ⟨x_1188, hx_1189, hj_1190⟩ := h
      refine run_loopO hx_1189 (fun (v : Int) => (⟨asFr 61 [(1, .ref 0 0), (3, i64 v)], [.box [i64 v_1140.Kind, i64 v_1140.N, .sl false (L cU8 v_1140.B), .sl false (L cApi_Value v_1140.L)] false]⟩ : St)) (weak_sel [0] (by decide) rfl (by simp only [go_sem, reduceIte, Nat.reduceLT, Nat.reduceEqDiff, Nat.reduceAdd]) (by simp only [go_sem, reduceIte, Nat.reduceLT, Nat.reduceEqDiff, Nat.reduceAdd])) ?_
      rintro i_1182 o_1191 h hxx_1192
      replace h : r01_Shape_b1 v_1140 rec_ i_1182 = some o_1191 := h
      unfold r01_Shape_b1 at h
      refine run_seq ?_
      refine run_textE hE [1, 3, 38] (fr' := [(1, .ref 0 0), (3, i64 i_1182), (38, .bool ((decide (i_1182 < (v_1140.L.length : Int)))))]) (σ' := [.box [i64 v_1140.Kind, i64 v_1140.N, .sl false (L cU8 v_1140.B), .sl false (L cApi_Value v_1140.L)] false]) ⟨_, orcs_nil, ?_⟩ ?_
      · simp only [go_sem, reduceIte, Nat.reduceLT, Nat.reduceEqDiff, Nat.reduceAdd]
      refine run_condL (b := (decide (i_1182 < (v_1140.L.length : Int)))) rfl (by decide) (fun hb => ?_) (fun hb => ?_)
      · replace h := ite_t h hb
        refine run_skip ?_
        refine thenK_n ?_
        refine run_seq ?_
        refine run_block ?_
        replace h := chk_some h; obtain ⟨hc_1194, h⟩ := h
        replace h := bind_some1 h; obtain ⟨y_1193, hy_1195, h⟩ := h
        refine run_textE hE [1, 3, 47] (fr' := [(1, .ref 0 0), (3, i64 i_1182), (47, .bool ((!y_1193)))]) (σ' := [.box [i64 v_1140.Kind, i64 v_1140.N, .sl false (L cU8 v_1140.B), .sl false (L cApi_Value v_1140.L)] false]) ⟨_, orcs_ok (l := [(46, 37, [.agg [i64 ((nth v_1140.L i_1182.toNat).Kind), i64 ((nth v_1140.L i_1182.toNat).N), .sl false (L cU8 ((nth v_1140.L i_1182.toNat).B)), .sl false (L cApi_Value ((nth v_1140.L i_1182.toNat).L))]], .bool y_1193)]) ⟨hrec  hy_1195, trivial⟩, ?_⟩ ?_
        · simp only [go_sem, reduceIte, Nat.reduceLT, Nat.reduceEqDiff, Nat.reduceAdd, Int.reduceToNat, hc_1194, hc_1194.2, lt_le hc_1194.2]
        refine run_condL (b := (!y_1193)) rfl (by decide) (fun hb => ?_) (fun hb => ?_)
        · replace h := ite_t h hb
          refine run_textE hE [2] (fr' := [(2, .bool false)]) (σ' := [.box [i64 v_1140.Kind, i64 v_1140.N, .sl false (L cU8 v_1140.B), .sl false (L cApi_Value v_1140.L)] false]) ⟨_, orcs_nil, ?_⟩ ?_
          · simp only [go_sem, reduceIte, Nat.reduceLT, Nat.reduceEqDiff, Nat.reduceAdd]
          refine run_ret ?_
          refine blockK_r ?_
          refine thenK_r ?_
          refine lpK_r ?_
          replace h := bind_some1 h; obtain ⟨z_1197, h, e_z_1197⟩ := h
          obtain rfl := Option.some.inj e_z_1197
          have ex_z_1197 := hxx_1192 _ rfl
          subst ex_z_1197
          obtain rfl := Option.some.inj hj_1190
          refine blockK_r ?_
          refine joinK_r ?_
          replace h := bind_some1 h; obtain ⟨z_1196, h, e_z_1196⟩ := h
          obtain rfl := Option.some.inj e_z_1196
          obtain rfl := Option.some.inj hj_1176
          obtain rfl := Option.some.inj h
          refine ret_ok (.inr rfl) ?_
          simp only [go_sem, reduceIte, Nat.reduceLT, Nat.reduceEqDiff, Nat.reduceAdd]
        · replace h := ite_f h hb
          refine run_skip ?_
          refine blockK_n ?_
          refine thenK_n ?_
          refine run_textE0 hE wk_lp [1, 3] (fr' := [(1, .ref 0 0), (3, i64 ((w64 (i_1182 + 1))))]) (σ' := [.box [i64 v_1140.Kind, i64 v_1140.N, .sl false (L cU8 v_1140.B), .sl false (L cApi_Value v_1140.L)] false]) ⟨_, orcs_nil, ?_⟩ ?_
          · simp only [go_sem, reduceIte, Nat.reduceLT, Nat.reduceEqDiff, Nat.reduceAdd]
          obtain rfl := Option.some.inj h
          exact lpK_n ((w64 (i_1182 + 1))) rfl (weak_sel [0] (by decide) rfl (by simp only [go_sem, reduceIte, Nat.reduceLT, Nat.reduceEqDiff, Nat.reduceAdd]) (by simp only [go_sem, reduceIte, Nat.reduceLT, Nat.reduceEqDiff, Nat.reduceAdd]))
      · replace h := ite_f h hb
        refine run_exit ?_
        refine thenK_x ?_
        obtain rfl := Option.some.inj h
        have ex_x_1188 := hxx_1192 _ rfl
        subst ex_x_1188
        have h := hj_1190; clear hj_1190
        refine lpK_x ?_
        refine blockK_x ?_
        obtain rfl := Option.some.inj h
        exact joinK_n (()) rfl ((weak_sel (l' := [(1, .ref 0 0)]) (σ' := [.box [i64 v_1140.Kind, i64 v_1140.N, .sl false (L cU8 v_1140.B), .sl false (L cApi_Value v_1140.L)] false]) [0] (by decide) rfl (by simp only [go_sem, reduceIte, Nat.reduceLT, Nat.reduceEqDiff, Nat.reduceAdd]) (by simp only [go_sem, reduceIte, Nat.reduceLT, Nat.reduceEqDiff, Nat.reduceAdd])).trans (weak_sel [0] (by decide) rfl (by simp only [go_sem, reduceIte, Nat.reduceLT, Nat.reduceEqDiff, Nat.reduceAdd]) (by simp only [go_sem, reduceIte, Nat.reduceLT, Nat.reduceEqDiff, Nat.reduceAdd])))
    rintro ⟨⟩ rfl
    have h := hj_1176; clear hj_1176
    replace h := bind_some1 h; obtain ⟨t_1198, hv_1199, h⟩ := h
    refine run_textW hE [2] (fr' := [(2, .bool t_1198)]) (σ' := []) ?_ ?_
    · rcases Bool.eq_false_or_eq_true ((v_1140.Kind == 1)) with hb_1200 | hb_1200
      · replace hv_1199 := ite_t hv_1199 hb_1200
        have e_hv_1199 := Option.some.inj hv_1199; subst e_hv_1199
        exact ⟨_, [(2, .bool true)], [.box [i64 v_1140.Kind, i64 v_1140.N, .sl false (L cU8 v_1140.B), .sl false (L cApi_Value v_1140.L)] false], orcs_nil, by simp only [go_sem, reduceIte, Nat.reduceLT, Nat.reduceEqDiff, Nat.reduceAdd, hb_1200], (weak_sel [] (by decide) rfl (by simp only [go_sem, reduceIte, Nat.reduceLT, Nat.reduceEqDiff, Nat.reduceAdd]) (by simp only [go_sem, reduceIte, Nat.reduceLT, Nat.reduceEqDiff, Nat.reduceAdd]))⟩
      · replace hv_1199 := ite_f hv_1199 hb_1200
        rcases Bool.eq_false_or_eq_true ((v_1140.Kind == 2)) with hb_1201 | hb_1201
        · replace hv_1199 := ite_t hv_1199 hb_1201
          have e_hv_1199 := Option.some.inj hv_1199; subst e_hv_1199
          exact ⟨_, [(2, .bool true)], [.box [i64 v_1140.Kind, i64 v_1140.N, .sl false (L cU8 v_1140.B), .sl false (L cApi_Value v_1140.L)] false], orcs_nil, by simp only [go_sem, reduceIte, Nat.reduceLT, Nat.reduceEqDiff, Nat.reduceAdd, hb_1200, hb_1201], (weak_sel [] (by decide) rfl (by simp only [go_sem, reduceIte, Nat.reduceLT, Nat.reduceEqDiff, Nat.reduceAdd]) (by simp only [go_sem, reduceIte, Nat.reduceLT, Nat.reduceEqDiff, Nat.reduceAdd]))⟩
        · replace hv_1199 := ite_f hv_1199 hb_1201
          have e_hv_1199 := Option.some.inj hv_1199; subst e_hv_1199
          exact ⟨_, [(2, .bool ((v_1140.Kind == 3)))], [.box [i64 v_1140.Kind, i64 v_1140.N, .sl false (L cU8 v_1140.B), .sl false (L cApi_Value v_1140.L)] false], orcs_nil, by simp only [go_sem, reduceIte, Nat.reduceLT, Nat.reduceEqDiff, Nat.reduceAdd, hb_1200, hb_1201], (weak_sel [] (by decide) rfl (by simp only [go_sem, reduceIte, Nat.reduceLT, Nat.reduceEqDiff, Nat.reduceAdd]) (by simp only [go_sem, reduceIte, Nat.reduceLT, Nat.reduceEqDiff, Nat.reduceAdd]))⟩
    refine run_ret ?_
    obtain rfl := Option.some.inj h
    refine ret_ok (.inr rfl) ?_
    simp only [go_sem, reduceIte, Nat.reduceLT, Nat.reduceEqDiff, Nat.reduceAdd]
theorem r01_Shape_n_con (n : Nat) : ∀ {v_1140 : Api_Value} {r : Bool}, r01_Shape_n n v_1140 = some r → Con B 37 [.agg [i64 v_1140.Kind, i64 v_1140.N, .sl false (L cU8 v_1140.B), .sl false (L cApi_Value v_1140.L)]] [] (fun r' σ' => r' = .bool r ∧ σ' = []) := by
  induction n with
  | zero => intro v_1140 r h; cases h
  | succ n ih => intro v_1140 r h; exact r01_Shape_F_con ih h
theorem r01_Shape_con {v_1140 : Api_Value} {r : Bool} (h : r01_Shape v_1140 = some r) : Con B 37 [.agg [i64 v_1140.Kind, i64 v_1140.N, .sl false (L cU8 v_1140.B), .sl false (L cApi_Value v_1140.L)]] [] (fun r' σ' => r' = .bool r ∧ σ' = []) := r01_Shape_n_con _ h

end Go.Proofs.Ytihncddenjbecaa
/-
  The functions compute just that.
-/
namespace Go.Proofs.Ytihncddenjbecaa
open Go.Rv
set_option linter.unusedVariables false
set_option linter.unusedSimpArgs false
set_option maxRecDepth 20000

theorem r01_Nesting_F_con {rec_ : Api_Value → Option (Int)} (hrec : ∀ {v_1202 : Api_Value} {r : Int}, rec_ v_1202 = some r → Con B 28 [.agg [i64 v_1202.Kind, i64 v_1202.N, .sl false (L cU8 v_1202.B), .sl false (L cApi_Value v_1202.L)]] [] (fun r' σ' => r' = i64 r ∧ σ' = [])) {v_1202 : Api_Value} {r : Int} (h : r01_Nesting_F rec_ v_1202 = some r) : Con B 28 [.agg [i64 v_1202.Kind, i64 v_1202.N, .sl false (L cU8 v_1202.B), .sl false (L cApi_Value v_1202.L)]] [] (fun r' σ' => r' = i64 r ∧ σ' = []) := by
  refine con_walk (N := 26) (rs := [.tmp 2]) ok Try.func28 rfl (by decide +kernel) rfl rfl (Nat.le_of_ble_eq_true rfl) (fun F => ?_)
  have hE := ok.env F
  unfold r01_Nesting_F at h
  show Run (B.env F) 0 _ ⟨asFr 26 [(0, .agg [i64 v_1202.Kind, i64 v_1202.N, .sl false (L cU8 v_1202.B), .sl false (L cApi_Value v_1202.L)])], []⟩ _
  refine run_textE hE [1] (fr' := [(1, .ref 0 0)]) (σ' := [.box [i64 v_1202.Kind, i64 v_1202.N, .sl false (L cU8 v_1202.B), .sl false (L cApi_Value v_1202.L)] false]) ⟨_, orcs_nil, ?_⟩ ?_
  · simp only [go_sem, reduceIte, Nat.reduceLT, Nat.reduceEqDiff, Nat.reduceAdd]
  refine run_textE hE [1, 3] (fr' := [(1, .ref 0 0), (3, i64 0)]) (σ' := [.box [i64 v_1202.Kind, i64 v_1202.N, .sl false (L cU8 v_1202.B), .sl false (L cApi_Value v_1202.L)] false]) ⟨_, orcs_nil, ?_⟩ ?_
  · simp only [go_sem, reduceIte, Nat.reduceLT, Nat.reduceEqDiff, Nat.reduceAdd]
  replace h := bind_some1 h; obtain ⟨j_1221, hA_1222, hj_1223⟩ := h
  refine run_join (fun (v : Int) => (⟨asFr 26 [(1, .ref 0 0), (3, i64 v)], [.box [i64 v_1202.Kind, i64 v_1202.N, .sl false (L cU8 v_1202.B), .sl false (L cApi_Value v_1202.L)] false]⟩ : St)) (fun v => v = j_1221) ?_ ?_
  · have h := hA_1222; clear hA_1222
    refine run_textE hE [1, 3, 4] (fr' := [(1, .ref 0 0), (3, i64 0), (4, i64 0)]) (σ' := [.box [i64 v_1202.Kind, i64 v_1202.N, .sl false (L cU8 v_1202.B), .sl false (L cApi_Value v_1202.L)] false]) ⟨_, orcs_nil, ?_⟩ ?_
    · simp only [go_sem, reduceIte, Nat.reduceLT, Nat.reduceEqDiff, Nat.reduceAdd]
    refine run_block ?_
    replace h := bind_some1 h; obtain ⟨x_1233, hx_1234, hj_1235⟩ := h
    refine run_loopO hx_1234 (fun (v : Int × Int) => (⟨asFr 26 [(1, .ref 0 0), (3, i64 v.1), (4, i64 v.2)], [.box [i64 v_1202.Kind, i64 v_1202.N, .sl false (L cU8 v_1202.B), .sl false (L cApi_Value v_1202.L)] false]⟩ : St)) (weak_sel [0] (by decide) rfl (by simp only [go_sem, reduceIte, Nat.reduceLT, Nat.reduceEqDiff, Nat.reduceAdd]) (by simp only [go_sem, reduceIte, Nat.reduceLT, Nat.reduceEqDiff, Nat.reduceAdd])) ?_
    rintro ⟨n_1227, i_1228⟩ o_1236 h hxx_1237
    replace h : r01_Nesting_b1 v_1202 rec_ n_1227 i_1228 = some o_1236 := h
    unfold r01_Nesting_b1 at h
    refine run_seq ?_
    refine run_textE hE [1, 3, 4, 9] (fr' := [(1, .ref 0 0), (3, i64 n_1227), (4, i64 i_1228), (9, .bool ((decide (i_1228 < (v_1202.L.length : Int)))))]) (σ' := [.box [i64 v_1202.Kind, i64 v_1202.N, .sl false (L cU8 v_1202.B), .sl false (L cApi_Value v_1202.L)] false]) ⟨_, orcs_nil, ?_⟩ ?_
    · simp only [go_sem, reduceIte, Nat.reduceLT, Nat.reduceEqDiff, Nat.reduceAdd]
    refine run_condL (b := (decide (i_1228 < (v_1202.L.length : Int)))) rfl (by decide) (fun hb => ?_) (fun hb => ?_)
    · replace h := ite_t h hb
      refine run_skip ?_
      refine thenK_n ?_
      refine run_seq ?_
      refine run_block ?_
      replace h := chk_some h; obtain ⟨hc_1239, h⟩ := h
      replace h := bind_some1 h; obtain ⟨y_1238, hy_1240, h⟩ := h
      refine run_textE0 hE (wk_block wk_then) [1, 3, 4] (fr' := [(1, .ref 0 0), (3, i64 ((mx64 n_1227 y_1238))), (4, i64 i_1228)]) (σ' := [.box [i64 v_1202.Kind, i64 v_1202.N, .sl false (L cU8 v_1202.B), .sl false (L cApi_Value v_1202.L)] false]) ⟨_, orcs_ok (l := [(18, 28, [.agg [i64 ((nth v_1202.L i_1228.toNat).Kind), i64 ((nth v_1202.L i_1228.toNat).N), .sl false (L cU8 ((nth v_1202.L i_1228.toNat).B)), .sl false (L cApi_Value ((nth v_1202.L i_1228.toNat).L))]], i64 y_1238)]) ⟨hrec  hy_1240, trivial⟩, ?_⟩ ?_
      · simp only [go_sem, reduceIte, Nat.reduceLT, Nat.reduceEqDiff, Nat.reduceAdd, Int.reduceToNat, hc_1239, hc_1239.2, lt_le hc_1239.2]
      refine blockK_n ?_
      refine thenK_n ?_
      refine run_textE0 hE wk_lp [1, 3, 4] (fr' := [(1, .ref 0 0), (3, i64 ((mx64 n_1227 y_1238))), (4, i64 ((w64 (i_1228 + 1))))]) (σ' := [.box [i64 v_1202.Kind, i64 v_1202.N, .sl false (L cU8 v_1202.B), .sl false (L cApi_Value v_1202.L)] false]) ⟨_, orcs_nil, ?_⟩ ?_
      · simp only [go_sem, reduceIte, Nat.reduceLT, Nat.reduceEqDiff, Nat.reduceAdd]
      obtain rfl := Option.some.inj h
      exact lpK_n (((mx64 n_1227 y_1238), (w64 (i_1228 + 1)))) rfl (weak_sel [0] (by decide) rfl (by simp only [go_sem, reduceIte, Nat.reduceLT, Nat.reduceEqDiff, Nat.reduceAdd]) (by simp only [go_sem, reduceIte, Nat.reduceLT, Nat.reduceEqDiff, Nat.reduceAdd]))
    · replace h := ite_f h hb
      refine run_exit ?_
      refine thenK_x ?_
      obtain rfl := Option.some.inj h
      have ex_x_1233 := hxx_1237 _ rfl
      subst ex_x_1233
      have h := hj_1235; clear hj_1235
      refine lpK_x ?_
      refine blockK_x ?_
      obtain rfl := Option.some.inj h
      exact joinK_n n_1227 rfl ((weak_sel (l' := [(1, .ref 0 0), (3, i64 n_1227)]) (σ' := [.box [i64 v_1202.Kind, i64 v_1202.N, .sl false (L cU8 v_1202.B), .sl false (L cApi_Value v_1202.L)] false]) [0] (by decide) rfl (by simp only [go_sem, reduceIte, Nat.reduceLT, Nat.reduceEqDiff, Nat.reduceAdd]) (by simp only [go_sem, reduceIte, Nat.reduceLT, Nat.reduceEqDiff, Nat.reduceAdd])).trans (weak_sel [0] (by decide) rfl (by simp only [go_sem, reduceIte, Nat.reduceLT, Nat.reduceEqDiff, Nat.reduceAdd]) (by simp only [go_sem, reduceIte, Nat.reduceLT, Nat.reduceEqDiff, Nat.reduceAdd])))
  rintro n_1220 rfl
  have h := hj_1223; clear hj_1223
  refine run_seq ?_
  refine run_textE hE [3, 22] (fr' := [(3, i64 n_1220), (22, .bool ((v_1202.Kind == 3)))]) (σ' := [.box [i64 v_1202.Kind, i64 v_1202.N, .sl false (L cU8 v_1202.B), .sl false (L cApi_Value v_1202.L)] false]) ⟨_, orcs_nil, ?_⟩ ?_
  · simp only [go_sem, reduceIte, Nat.reduceLT, Nat.reduceEqDiff, Nat.reduceAdd]
  refine run_condL (b := (v_1202.Kind == 3)) rfl (by decide) (fun hb => ?_) (fun hb => ?_)
  · replace h := ite_t h hb
    refine run_textE hE [2] (fr' := [(2, i64 ((w64 (n_1220 + 1))))]) (σ' := [.box [i64 v_1202.Kind, i64 v_1202.N, .sl false (L cU8 v_1202.B), .sl false (L cApi_Value v_1202.L)] false]) ⟨_, orcs_nil, ?_⟩ ?_
    · simp only [go_sem, reduceIte, Nat.reduceLT, Nat.reduceEqDiff, Nat.reduceAdd]
    refine run_ret ?_
    refine thenK_r ?_
    obtain rfl := Option.some.inj h
    refine ret_ok (.inr rfl) ?_
    simp only [go_sem, reduceIte, Nat.reduceLT, Nat.reduceEqDiff, Nat.reduceAdd]
  · replace h := ite_f h hb
    refine run_skip ?_
    refine thenK_n ?_
    refine run_textE hE [2] (fr' := [(2, i64 n_1220)]) (σ' := [.box [i64 v_1202.Kind, i64 v_1202.N, .sl false (L cU8 v_1202.B), .sl false (L cApi_Value v_1202.L)] false]) ⟨_, orcs_nil, ?_⟩ ?_
    · simp only [go_sem, reduceIte, Nat.reduceLT, Nat.reduceEqDiff, Nat.reduceAdd]
    refine run_ret ?_
    obtain rfl := Option.some.inj h
    refine ret_ok (.inr rfl) ?_
    simp only [go_sem, reduceIte, Nat.reduceLT, Nat.reduceEqDiff, Nat.reduceAdd]
theorem r01_Nesting_n_con (n : Nat) : ∀ {v_1202 : Api_Value} {r : Int}, r01_Nesting_n n v_1202 = some r → Con B 28 [.agg [i64 v_1202.Kind, i64 v_1202.N, .sl false (L cU8 v_1202.B), .sl false (L cApi_Value v_1202.L)]] [] (fun r' σ' => r' = i64 r ∧ σ' = []) := by
  induction n with
  | zero => intro v_1202 r h; cases h
  | succ n ih => intro v_1202 r h; exact r01_Nesting_F_con ih h
theorem r01_Nesting_con {v_1202 : Api_Value} {r : Int} (h : r01_Nesting v_1202 = some r) : Con B 28 [.agg [i64 v_1202.Kind, i64 v_1202.N, .sl false (L cU8 v_1202.B), .sl false (L cApi_Value v_1202.L)]] [] (fun r' σ' => r' = i64 r ∧ σ' = []) := r01_Nesting_n_con _ h

theorem r01_digits_con {n_1241 : Int} {r : List UInt8} (h : r01_digits n_1241 = some r) : Con B 55 [i64 n_1241] [] (fun r' σ' => r' = .sl false (L cU8 r) ∧ σ' = []) := by
  refine con_walk (N := 27) (rs := [.tmp 2]) ok Try.func55 rfl (by decide +kernel) rfl rfl (Nat.le_of_ble_eq_true rfl) (fun F => ?_)
  have hE := ok.env F
  unfold r01_digits at h
  show Run (B.env F) 0 _ ⟨asFr 27 [(0, i64 n_1241)], []⟩ _
  refine run_textE hE [0] (fr' := [(0, i64 n_1241)]) (σ' := []) ⟨_, orcs_nil, ?_⟩ ?_
  · simp only [go_sem, reduceIte, Nat.reduceLT, Nat.reduceEqDiff, Nat.reduceAdd]
  replace h := lt1_some h; obtain ⟨l_1242, hz_1243, h⟩ := h
  refine run_textE hE [0, 3] (fr' := [(0, i64 n_1241), (3, .bs true 0 (l_1242.length) 0 (l_1242.length))]) (σ' := [.buf 1 (L cU8 l_1242) false]) ⟨_, orcs_nil, ?_⟩ ?_
  · subst hz_1243; simp only [go_sem, reduceIte, Nat.reduceLT, Nat.reduceEqDiff, Nat.reduceAdd, Nat.reduceBEq, Nat.reduceMul, Nat.reduceSub, Nat.reduceGT, Nat.reducePow, Nat.reduceLeDiff, Int.reduceToNat]
  replace h := bind_some1 h; obtain ⟨j_1319, hA_1320, hj_1321⟩ := h
  refine run_join (fun (v : List UInt8) => (⟨asFr 27 [(3, .bs false 0 (v.length) 0 (v.length))], [.buf 1 (L cU8 v) false]⟩ : St)) (fun v => v = j_1319) ?_ ?_
  · have h := hA_1320; clear hA_1320
    refine run_textE hE [0, 3, 4] (fr' := [(0, i64 n_1241), (3, .bs true 0 (l_1242.length) 0 (l_1242.length)), (4, i64 56)]) (σ' := [.buf 1 (L cU8 l_1242) false]) ⟨_, orcs_nil, ?_⟩ ?_
    · simp only [go_sem, reduceIte, Nat.reduceLT, Nat.reduceEqDiff, Nat.reduceAdd]
    refine run_block ?_
    replace h := bind_some1 h; obtain ⟨x_1369, hx_1370, hj_1371⟩ := h
    refine run_loopO hx_1370 (fun (v : Int × List UInt8) => (⟨asFr 27 [(0, i64 n_1241), (3, .bs false 0 (v.2.length) 0 (v.2.length)), (4, i64 v.1)], [.buf 1 (L cU8 v.2) false]⟩ : St)) (weak_sel [0] (by decide) rfl (by simp only [go_sem, reduceIte, Nat.reduceLT, Nat.reduceEqDiff, Nat.reduceAdd]) (by simp only [go_sem, reduceIte, Nat.reduceLT, Nat.reduceEqDiff, Nat.reduceAdd])) ?_
    rintro ⟨s_1344, l_1345⟩ o_1372 h hxx_1373
    replace h : r01_digits_b1 n_1241 s_1344 l_1345 = some o_1372 := h
    unfold r01_digits_b1 at h
    refine run_seq ?_
    refine run_textE hE [0, 3, 4, 8] (fr' := [(0, i64 n_1241), (3, .bs false 0 (l_1345.length) 0 (l_1345.length)), (4, i64 s_1344), (8, .bool ((decide (s_1344 ≥ 0))))]) (σ' := [.buf 1 (L cU8 l_1345) false]) ⟨_, orcs_nil, ?_⟩ ?_
    · simp only [go_sem, reduceIte, Nat.reduceLT, Nat.reduceEqDiff, Nat.reduceAdd]
    refine run_condL (b := (decide (s_1344 ≥ 0))) rfl (by decide) (fun hb => ?_) (fun hb => ?_)
    · replace h := ite_t h hb
      refine run_skip ?_
      refine thenK_n ?_
      replace h := bind_some1 h; obtain ⟨j_1384, hA_1385, hj_1386⟩ := h
      refine run_join (fun (v : List UInt8) => (⟨asFr 27 [(0, i64 n_1241), (3, .bs false 0 (v.length) 0 (v.length)), (4, i64 s_1344)], [.buf 1 (L cU8 v) false]⟩ : St)) (fun v => v = j_1384) ?_ ?_
      · have h := hA_1385; clear hA_1385
        refine run_block ?_
        replace h := chk_some h; obtain ⟨hc_1387, h⟩ := h
        replace h := lt1_some h; obtain ⟨b_1388, hz_1389, h⟩ := h
        refine run_textE hE [0, 3, 4, 5] (fr' := [(0, i64 n_1241), (3, .bs false 0 (l_1345.length) 0 (l_1345.length)), (4, i64 s_1344), (5, u8 b_1388)]) (σ' := [.buf 1 (L cU8 l_1345) false]) ⟨_, orcs_nil, ?_⟩ ?_
        · subst hz_1389; simp only [go_sem, reduceIte, Nat.reduceLT, Nat.reduceEqDiff, Nat.reduceAdd, hc_1387]
        replace h := bind_some1 h; obtain ⟨t_1390, hv_1391, h⟩ := h
        refine run_textW hE [0, 3, 4, 5, 21] (fr' := [(0, i64 n_1241), (3, .bs false 0 (l_1345.length) 0 (l_1345.length)), (4, i64 s_1344), (5, u8 b_1388), (21, .bool t_1390)]) (σ' := [.buf 1 (L cU8 l_1345) false]) ?_ ?_
        · rcases Bool.eq_false_or_eq_true ((b_1388 != (0 : UInt8))) with hb_1392 | hb_1392
          · replace hv_1391 := ite_t hv_1391 hb_1392
            have e_hv_1391 := Option.some.inj hv_1391; subst e_hv_1391
            exact ⟨_, [(0, i64 n_1241), (3, .bs false 0 (l_1345.length) 0 (l_1345.length)), (4, i64 s_1344), (5, u8 b_1388), (21, .bool true)], [.buf 1 (L cU8 l_1345) false], orcs_nil, by simp only [go_sem, reduceIte, Nat.reduceLT, Nat.reduceEqDiff, Nat.reduceAdd, hb_1392], (weak_sel [0] (by decide) rfl (by simp only [go_sem, reduceIte, Nat.reduceLT, Nat.reduceEqDiff, Nat.reduceAdd]) (by simp only [go_sem, reduceIte, Nat.reduceLT, Nat.reduceEqDiff, Nat.reduceAdd]))⟩
          · replace hv_1391 := ite_f hv_1391 hb_1392
            have e_hv_1391 := Option.some.inj hv_1391; subst e_hv_1391
            exact ⟨_, [(0, i64 n_1241), (3, .bs false 0 (l_1345.length) 0 (l_1345.length)), (4, i64 s_1344), (5, u8 b_1388), (21, .bool ((decide ((l_1345.length : Int) > 0))))], [.buf 1 (L cU8 l_1345) false], orcs_nil, by simp only [go_sem, reduceIte, Nat.reduceLT, Nat.reduceEqDiff, Nat.reduceAdd, hb_1392], (weak_sel [0] (by decide) rfl (by simp only [go_sem, reduceIte, Nat.reduceLT, Nat.reduceEqDiff, Nat.reduceAdd]) (by simp only [go_sem, reduceIte, Nat.reduceLT, Nat.reduceEqDiff, Nat.reduceAdd]))⟩
        refine run_condL (b := t_1390) rfl (by decide) (fun hb => ?_) (fun hb => ?_)
        · replace h := ite_t h hb
          replace h := chk_some h; obtain ⟨hc_1393, h⟩ := h
          replace h := lt1_some h; obtain ⟨l_1394, hz_1395, h⟩ := h
          refine run_textE0 hE (wk_block wk_join) [0, 3, 4] (fr' := [(0, i64 n_1241), (3, .bs false 0 (l_1394.length) 0 (l_1394.length)), (4, i64 s_1344)]) (σ' := [.buf 1 (L cU8 l_1394) false, .buf 1 (L cU8 (([b_1388] : List UInt8))) false]) ⟨_, orcs_nil, ?_⟩ ?_
          · subst hz_1395; simp only [go_sem, reduceIte, Nat.reduceLT, Nat.reduceEqDiff, Nat.reduceAdd, Nat.reduceBEq, Nat.reduceMul, Nat.reduceSub, Nat.reduceGT, Nat.reducePow, Nat.reduceLeDiff, Int.reduceToNat, hc_1393]
          refine blockK_n ?_
          obtain rfl := Option.some.inj h
          exact joinK_n l_1394 rfl (weak_sel [0] (by decide) rfl (by simp only [go_sem, reduceIte, Nat.reduceLT, Nat.reduceEqDiff, Nat.reduceAdd]) (by simp only [go_sem, reduceIte, Nat.reduceLT, Nat.reduceEqDiff, Nat.reduceAdd]))
        · replace h := ite_f h hb
          refine run_skip ?_
          refine blockK_n ?_
          obtain rfl := Option.some.inj h
          exact joinK_n l_1345 rfl (weak_sel [0] (by decide) rfl (by simp only [go_sem, reduceIte, Nat.reduceLT, Nat.reduceEqDiff, Nat.reduceAdd]) (by simp only [go_sem, reduceIte, Nat.reduceLT, Nat.reduceEqDiff, Nat.reduceAdd]))
      rintro l_1383 rfl
      have h := hj_1386; clear hj_1386
      refine run_textE0 hE wk_lp [0, 3, 4] (fr' := [(0, i64 n_1241), (3, .bs false 0 (l_1383.length) 0 (l_1383.length)), (4, i64 ((w64 (s_1344 - 8))))]) (σ' := [.buf 1 (L cU8 l_1383) false]) ⟨_, orcs_nil, ?_⟩ ?_
      · simp only [go_sem, reduceIte, Nat.reduceLT, Nat.reduceEqDiff, Nat.reduceAdd]
      obtain rfl := Option.some.inj h
      exact lpK_n (((w64 (s_1344 - 8)), l_1383)) rfl (weak_sel [0] (by decide) rfl (by simp only [go_sem, reduceIte, Nat.reduceLT, Nat.reduceEqDiff, Nat.reduceAdd]) (by simp only [go_sem, reduceIte, Nat.reduceLT, Nat.reduceEqDiff, Nat.reduceAdd]))
    · replace h := ite_f h hb
      refine run_exit ?_
      refine thenK_x ?_
      obtain rfl := Option.some.inj h
      have ex_x_1369 := hxx_1373 _ rfl
      subst ex_x_1369
      have h := hj_1371; clear hj_1371
      refine lpK_x ?_
      refine blockK_x ?_
      obtain rfl := Option.some.inj h
      exact joinK_n l_1345 rfl ((weak_sel (l' := [(3, .bs false 0 (l_1345.length) 0 (l_1345.length))]) (σ' := [.buf 1 (L cU8 l_1345) false]) [0] (by decide) rfl (by simp only [go_sem, reduceIte, Nat.reduceLT, Nat.reduceEqDiff, Nat.reduceAdd]) (by simp only [go_sem, reduceIte, Nat.reduceLT, Nat.reduceEqDiff, Nat.reduceAdd])).trans (weak_sel [0] (by decide) rfl (by simp only [go_sem, reduceIte, Nat.reduceLT, Nat.reduceEqDiff, Nat.reduceAdd]) (by simp only [go_sem, reduceIte, Nat.reduceLT, Nat.reduceEqDiff, Nat.reduceAdd])))
  rintro l_1318 rfl
  have h := hj_1321; clear hj_1321
  refine run_textE hE [2] (fr' := [(2, .bs false 0 (l_1318.length) 0 (l_1318.length))]) (σ' := [.buf 1 (L cU8 l_1318) false]) ⟨_, orcs_nil, ?_⟩ ?_
  · simp only [go_sem, reduceIte, Nat.reduceLT, Nat.reduceEqDiff, Nat.reduceAdd]
  refine run_ret ?_
  obtain rfl := Option.some.inj h
  refine ret_ok (.inr rfl) ?_
  simp only [go_sem, reduceIte, Nat.reduceLT, Nat.reduceEqDiff, Nat.reduceAdd]

end Go.Proofs.Ytihncddenjbecaa
/-
  The functions compute just that.
-/
namespace Go.Proofs.Ytihncddenjbecaa
open Go.Rv
set_option linter.unusedVariables false
set_option linter.unusedSimpArgs false
set_option maxRecDepth 20000

theorem r01_integer_con {n_1396 : Int} {r : List UInt8} (h : r01_integer n_1396 = some r) : Con B 46 [i64 n_1396] [] (fun r' σ' => r' = .sl false (L cU8 r) ∧ σ' = []) := by
  refine con_walk (N := 44) (rs := [.tmp 2]) ok Try.func46 rfl (by decide +kernel) rfl rfl (Nat.le_of_ble_eq_true rfl) (fun F => ?_)
  have hE := ok.env F
  unfold r01_integer at h
  show Run (B.env F) 0 _ ⟨asFr 44 [(0, i64 n_1396)], []⟩ _
  refine run_textE hE [0] (fr' := [(0, i64 n_1396)]) (σ' := []) ⟨_, orcs_nil, ?_⟩ ?_
  · simp only [go_sem, reduceIte, Nat.reduceLT, Nat.reduceEqDiff, Nat.reduceAdd]
  refine run_seq ?_
  refine run_textE hE [0, 9] (fr' := [(0, i64 n_1396), (9, .bool ((decide (n_1396 ≥ 0))))]) (σ' := []) ⟨_, orcs_nil, ?_⟩ ?_
  · simp only [go_sem, reduceIte, Nat.reduceLT, Nat.reduceEqDiff, Nat.reduceAdd]
  refine run_condL (b := (decide (n_1396 ≥ 0))) rfl (by decide) (fun hb => ?_) (fun hb => ?_)
  · replace h := ite_t h hb
    replace h := bind_some1 h; obtain ⟨y_1397, hy_1398, h⟩ := h
    refine run_textE hE [3] (fr' := [(3, .sl false (L cU8 y_1397))]) (σ' := []) ⟨_, orcs_ok (l := [(11, 55, [i64 n_1396], .sl false (L cU8 y_1397))]) ⟨r01_digits_con  hy_1398, trivial⟩, ?_⟩ ?_
    · simp only [go_sem, reduceIte, Nat.reduceLT, Nat.reduceEqDiff, Nat.reduceAdd]
    replace h := lt1_some h; obtain ⟨l_1399, hz_1400, h⟩ := h
    refine run_textE hE [3, 4] (fr' := [(3, .sl false (L cU8 y_1397)), (4, .bs true 0 (l_1399.length) 0 (l_1399.length))]) (σ' := [.buf 1 (L cU8 l_1399) false]) ⟨_, orcs_nil, ?_⟩ ?_
    · subst hz_1400; simp only [go_sem, reduceIte, Nat.reduceLT, Nat.reduceEqDiff, Nat.reduceAdd, Nat.reduceBEq, Nat.reduceMul, Nat.reduceSub, Nat.reduceGT, Nat.reducePow, Nat.reduceLeDiff, Int.reduceToNat]
    replace h := chk_some h; obtain ⟨hc_1401, h⟩ := h
    replace h := lt1_some h; obtain ⟨l_1402, hz_1403, h⟩ := h
    refine run_textE hE [2] (fr' := [(2, .bs false 0 (l_1402.length) 0 (l_1402.length))]) (σ' := [.buf 1 (L cU8 l_1402) false]) ⟨_, orcs_nil, ?_⟩ ?_
    · subst hz_1403; simp only [go_sem, reduceIte, Nat.reduceLT, Nat.reduceEqDiff, Nat.reduceAdd, hc_1401]
    refine run_ret ?_
    refine thenK_r ?_
    obtain rfl := Option.some.inj h
    refine ret_ok (.inr rfl) ?_
    simp only [go_sem, reduceIte, Nat.reduceLT, Nat.reduceEqDiff, Nat.reduceAdd]
  · replace h := ite_f h hb
    refine run_skip ?_
    refine thenK_n ?_
    replace h := bind_some1 h; obtain ⟨y_1404, hy_1405, h⟩ := h
    refine run_textE hE [5] (fr' := [(5, .sl false (L cU8 y_1404))]) (σ' := []) ⟨_, orcs_ok (l := [(23, 55, [i64 ((w64 (0 - (w64 (n_1396 + 1)))))], .sl false (L cU8 y_1404))]) ⟨r01_digits_con  hy_1405, trivial⟩, ?_⟩ ?_
    · simp only [go_sem, reduceIte, Nat.reduceLT, Nat.reduceEqDiff, Nat.reduceAdd]
    replace h := lt1_some h; obtain ⟨l_1406, hz_1407, h⟩ := h
    refine run_textE hE [5, 6] (fr' := [(5, .sl false (L cU8 y_1404)), (6, .bs true 0 (l_1406.length) 0 (l_1406.length))]) (σ' := [.buf 1 (L cU8 l_1406) false]) ⟨_, orcs_nil, ?_⟩ ?_
    · subst hz_1407; simp only [go_sem, reduceIte, Nat.reduceLT, Nat.reduceEqDiff, Nat.reduceAdd, Nat.reduceBEq, Nat.reduceMul, Nat.reduceSub, Nat.reduceGT, Nat.reducePow, Nat.reduceLeDiff, Int.reduceToNat]
    replace h := bind_some1 h; obtain ⟨j_1429, hA_1430, hj_1431⟩ := h
    refine run_join (fun (v : List UInt8) => (⟨asFr 44 [(6, .bs false 0 (v.length) 0 (v.length))], [.buf 1 (L cU8 v) false]⟩ : St)) (fun v => v = j_1429) ?_ ?_
    · have h := hA_1430; clear hA_1430
      refine run_textE hE [5, 6, 7] (fr' := [(5, .sl false (L cU8 y_1404)), (6, .bs true 0 (l_1406.length) 0 (l_1406.length)), (7, i64 0)]) (σ' := [.buf 1 (L cU8 l_1406) false]) ⟨_, orcs_nil, ?_⟩ ?_
      · simp only [go_sem, reduceIte, Nat.reduceLT, Nat.reduceEqDiff, Nat.reduceAdd]
      refine run_block ?_
      replace h := bind_some1 h; obtain ⟨x_1443, hx_1444, hj_1445⟩ := h
      refine run_loopO hx_1444 (fun (v : Int × List UInt8) => (⟨asFr 44 [(5, .sl false (L cU8 y_1404)), (6, .bs false 0 (v.2.length) 0 (v.2.length)), (7, i64 v.1)], [.buf 1 (L cU8 v.2) false]⟩ : St)) (weak_sel [0] (by decide) rfl (by simp only [go_sem, reduceIte, Nat.reduceLT, Nat.reduceEqDiff, Nat.reduceAdd]) (by simp only [go_sem, reduceIte, Nat.reduceLT, Nat.reduceEqDiff, Nat.reduceAdd])) ?_
      rintro ⟨i_1436, l_1437⟩ o_1446 h hxx_1447
      replace h : r01_integer_b1 y_1404 i_1436 l_1437 = some o_1446 := h
      unfold r01_integer_b1 at h
      refine run_seq ?_
      refine run_textE hE [5, 6, 7, 32] (fr' := [(5, .sl false (L cU8 y_1404)), (6, .bs false 0 (l_1437.length) 0 (l_1437.length)), (7, i64 i_1436), (32, .bool ((decide (i_1436 < (y_1404.length : Int)))))]) (σ' := [.buf 1 (L cU8 l_1437) false]) ⟨_, orcs_nil, ?_⟩ ?_
      · simp only [go_sem, reduceIte, Nat.reduceLT, Nat.reduceEqDiff, Nat.reduceAdd]
      refine run_condL (b := (decide (i_1436 < (y_1404.length : Int)))) rfl (by decide) (fun hb => ?_) (fun hb => ?_)
      · replace h := ite_t h hb
        refine run_skip ?_
        refine thenK_n ?_
        refine run_seq ?_
        refine run_block ?_
        replace h := chk_some h; obtain ⟨hc_1448, h⟩ := h
        replace h := chk_some h; obtain ⟨hc_1449, h⟩ := h
        replace h := lt1_some h; obtain ⟨l_1450, hz_1451, h⟩ := h
        refine run_textE0 hE (wk_block wk_then) [5, 6, 7] (fr' := [(5, .sl false (L cU8 y_1404)), (6, .bs false 0 (l_1450.length) 0 (l_1450.length)), (7, i64 i_1436)]) (σ' := [.buf 1 (L cU8 l_1450) false, .buf 1 (L cU8 (([((255 : UInt8) - nth y_1404 i_1436.toNat)] : List UInt8))) false]) ⟨_, orcs_nil, ?_⟩ ?_
        · subst hz_1451; simp only [go_sem, reduceIte, Nat.reduceLT, Nat.reduceEqDiff, Nat.reduceAdd, Nat.reduceBEq, Nat.reduceMul, Nat.reduceSub, Nat.reduceGT, Nat.reducePow, Nat.reduceLeDiff, Int.reduceToNat, hc_1448, hc_1448.2, lt_le hc_1448.2, hc_1449]
        refine blockK_n ?_
        refine thenK_n ?_
        refine run_textE0 hE wk_lp [5, 6, 7] (fr' := [(5, .sl false (L cU8 y_1404)), (6, .bs false 0 (l_1450.length) 0 (l_1450.length)), (7, i64 ((w64 (i_1436 + 1))))]) (σ' := [.buf 1 (L cU8 l_1450) false, .buf 1 (L cU8 (([((255 : UInt8) - nth y_1404 i_1436.toNat)] : List UInt8))) false]) ⟨_, orcs_nil, ?_⟩ ?_
        · simp only [go_sem, reduceIte, Nat.reduceLT, Nat.reduceEqDiff, Nat.reduceAdd]
        obtain rfl := Option.some.inj h
        exact lpK_n (((w64 (i_1436 + 1)), l_1450)) rfl (weak_sel [0] (by decide) rfl (by simp only [go_sem, reduceIte, Nat.reduceLT, Nat.reduceEqDiff, Nat.reduceAdd]) (by simp only [go_sem, reduceIte, Nat.reduceLT, Nat.reduceEqDiff, Nat.reduceAdd]))
      · replace h := ite_f h hb
        refine run_exit ?_
        refine thenK_x ?_
        obtain rfl := Option.some.inj h
        have ex_x_1443 := hxx_1447 _ rfl
        subst ex_x_1443
        have h := hj_1445; clear hj_1445
        refine lpK_x ?_
        refine blockK_x ?_
        obtain rfl := Option.some.inj h
        exact joinK_n l_1437 rfl ((weak_sel (l' := [(6, .bs false 0 (l_1437.length) 0 (l_1437.length))]) (σ' := [.buf 1 (L cU8 l_1437) false]) [0] (by decide) rfl (by simp only [go_sem, reduceIte, Nat.reduceLT, Nat.reduceEqDiff, Nat.reduceAdd]) (by simp only [go_sem, reduceIte, Nat.reduceLT, Nat.reduceEqDiff, Nat.reduceAdd])).trans (weak_sel [0] (by decide) rfl (by simp only [go_sem, reduceIte, Nat.reduceLT, Nat.reduceEqDiff, Nat.reduceAdd]) (by simp only [go_sem, reduceIte, Nat.reduceLT, Nat.reduceEqDiff, Nat.reduceAdd])))
    rintro l_1428 rfl
    have h := hj_1431; clear hj_1431
    refine run_textE hE [2] (fr' := [(2, .bs false 0 (l_1428.length) 0 (l_1428.length))]) (σ' := [.buf 1 (L cU8 l_1428) false]) ⟨_, orcs_nil, ?_⟩ ?_
    · simp only [go_sem, reduceIte, Nat.reduceLT, Nat.reduceEqDiff, Nat.reduceAdd]
    refine run_ret ?_
    obtain rfl := Option.some.inj h
    refine ret_ok (.inr rfl) ?_
    simp only [go_sem, reduceIte, Nat.reduceLT, Nat.reduceEqDiff, Nat.reduceAdd]

end Go.Proofs.Ytihncddenjbecaa
/-
  The functions compute just that.
-/
namespace Go.Proofs.Ytihncddenjbecaa
open Go.Rv
set_option linter.unusedVariables false
set_option linter.unusedSimpArgs false
set_option maxRecDepth 20000

theorem r01_Bytes_F_con {rec_ : Api_Value → Option (List UInt8)} (hrec : ∀ {v_1452 : Api_Value} {r : List UInt8}, rec_ v_1452 = some r → Con B 36 [.agg [i64 v_1452.Kind, i64 v_1452.N, .sl false (L cU8 v_1452.B), .sl false (L cApi_Value v_1452.L)]] [] (fun r' σ' => r' = .sl false (L cU8 r) ∧ σ' = [])) {v_1452 : Api_Value} {r : List UInt8} (h : r01_Bytes_F rec_ v_1452 = some r) : Con B 36 [.agg [i64 v_1452.Kind, i64 v_1452.N, .sl false (L cU8 v_1452.B), .sl false (L cApi_Value v_1452.L)]] [] (fun r' σ' => r' = .sl false (L cU8 r) ∧ σ' = []) := by
  refine con_walk (N := 67) (rs := [.tmp 2]) ok Try.func36 rfl (by decide +kernel) rfl rfl (Nat.le_of_ble_eq_true rfl) (fun F => ?_)
  have hE := ok.env F
  unfold r01_Bytes_F at h
  show Run (B.env F) 0 _ ⟨asFr 67 [(0, .agg [i64 v_1452.Kind, i64 v_1452.N, .sl false (L cU8 v_1452.B), .sl false (L cApi_Value v_1452.L)])], []⟩ _
  refine run_textE hE [1] (fr' := [(1, .ref 0 0)]) (σ' := [.box [i64 v_1452.Kind, i64 v_1452.N, .sl false (L cU8 v_1452.B), .sl false (L cApi_Value v_1452.L)] false]) ⟨_, orcs_nil, ?_⟩ ?_
  · simp only [go_sem, reduceIte, Nat.reduceLT, Nat.reduceEqDiff, Nat.reduceAdd]
  refine run_seq ?_
  refine run_textE hE [1, 8] (fr' := [(1, .ref 0 0), (8, .bool ((v_1452.Kind == 1)))]) (σ' := [.box [i64 v_1452.Kind, i64 v_1452.N, .sl false (L cU8 v_1452.B), .sl false (L cApi_Value v_1452.L)] false]) ⟨_, orcs_nil, ?_⟩ ?_
  · simp only [go_sem, reduceIte, Nat.reduceLT, Nat.reduceEqDiff, Nat.reduceAdd]
  refine run_condL (b := (v_1452.Kind == 1)) rfl (by decide) (fun hb => ?_) (fun hb => ?_)
  · replace h := ite_t h hb
    replace h := bind_some1 h; obtain ⟨y_1453, hy_1454, h⟩ := h
    refine run_textE hE [2] (fr' := [(2, .sl false (L cU8 y_1453))]) (σ' := [.box [i64 v_1452.Kind, i64 v_1452.N, .sl false (L cU8 v_1452.B), .sl false (L cApi_Value v_1452.L)] false]) ⟨_, orcs_ok (l := [(11, 46, [i64 v_1452.N], .sl false (L cU8 y_1453))]) ⟨r01_integer_con  hy_1454, trivial⟩, ?_⟩ ?_
    · simp only [go_sem, reduceIte, Nat.reduceLT, Nat.reduceEqDiff, Nat.reduceAdd]
    refine run_ret ?_
    refine thenK_r ?_
    obtain rfl := Option.some.inj h
    refine ret_ok (.inr rfl) ?_
    simp only [go_sem, reduceIte, Nat.reduceLT, Nat.reduceEqDiff, Nat.reduceAdd]
  · replace h := ite_f h hb
    refine run_skip ?_
    refine thenK_n ?_
    replace h := lt1_some h; obtain ⟨l_1455, hz_1456, h⟩ := h
    refine run_textE hE [1, 3] (fr' := [(1, .ref 0 0), (3, .bs true 1 (l_1455.length) 0 (l_1455.length))]) (σ' := [.box [i64 v_1452.Kind, i64 v_1452.N, .sl false (L cU8 v_1452.B), .sl false (L cApi_Value v_1452.L)] false, .buf 1 (L cU8 l_1455) false]) ⟨_, orcs_nil, ?_⟩ ?_
    · subst hz_1456; simp only [go_sem, reduceIte, Nat.reduceLT, Nat.reduceEqDiff, Nat.reduceAdd, Nat.reduceBEq, Nat.reduceMul, Nat.reduceSub, Nat.reduceGT, Nat.reducePow, Nat.reduceLeDiff, Int.reduceToNat]
    replace h := bind_some1 h; obtain ⟨j_1604, hA_1605, hj_1606⟩ := h
    refine run_join (fun (v : Unit) => (⟨asFr 67 [(1, .ref 0 0), (3, .bs true 1 (l_1455.length) 0 (l_1455.length))], [.box [i64 v_1452.Kind, i64 v_1452.N, .sl false (L cU8 v_1452.B), .sl false (L cApi_Value v_1452.L)] false, .buf 1 (L cU8 l_1455) false]⟩ : St)) (fun v => .inl v = j_1604) ?_ ?_
    · have h := hA_1605; clear hA_1605
      refine run_textE hE [1, 3, 15] (fr' := [(1, .ref 0 0), (3, .bs true 1 (l_1455.length) 0 (l_1455.length)), (15, .bool ((v_1452.Kind == 2)))]) (σ' := [.box [i64 v_1452.Kind, i64 v_1452.N, .sl false (L cU8 v_1452.B), .sl false (L cApi_Value v_1452.L)] false, .buf 1 (L cU8 l_1455) false]) ⟨_, orcs_nil, ?_⟩ ?_
      · simp only [go_sem, reduceIte, Nat.reduceLT, Nat.reduceEqDiff, Nat.reduceAdd]
      refine run_condL (b := (v_1452.Kind == 2)) rfl (by decide) (fun hb => ?_) (fun hb => ?_)
      · replace h := ite_t h hb
        replace h := chk_some h; obtain ⟨hc_1607, h⟩ := h
        replace h := lt1_some h; obtain ⟨l_1608, hz_1609, h⟩ := h
        refine run_textE hE [1, 3] (fr' := [(1, .ref 0 0), (3, .bs false 1 (l_1608.length) 0 (l_1608.length))]) (σ' := [.box [i64 v_1452.Kind, i64 v_1452.N, .sl false (L cU8 v_1452.B), .sl false (L cApi_Value v_1452.L)] false, .buf 1 (L cU8 l_1608) false, .buf 1 (L cU8 (([(48 : UInt8)] : List UInt8))) false]) ⟨_, orcs_nil, ?_⟩ ?_
        · subst hz_1609; simp only [go_sem, reduceIte, Nat.reduceLT, Nat.reduceEqDiff, Nat.reduceAdd, Nat.reduceBEq, Nat.reduceMul, Nat.reduceSub, Nat.reduceGT, Nat.reducePow, Nat.reduceLeDiff, Int.reduceToNat, hc_1607]
        replace h := bind_some1 h; obtain ⟨j_1679, hA_1680, hj_1681⟩ := h
        refine run_join (fun (v : List UInt8) => (⟨asFr 67 [(3, .bs false 0 (v.length) 0 (v.length))], [.buf 1 (L cU8 v) false]⟩ : St)) (fun v => v = j_1679) ?_ ?_
        · have h := hA_1680; clear hA_1680
          refine run_textE hE [1, 3, 4] (fr' := [(1, .ref 0 0), (3, .bs false 1 (l_1608.length) 0 (l_1608.length)), (4, i64 0)]) (σ' := [.box [i64 v_1452.Kind, i64 v_1452.N, .sl false (L cU8 v_1452.B), .sl false (L cApi_Value v_1452.L)] false, .buf 1 (L cU8 l_1608) false, .buf 1 (L cU8 (([(48 : UInt8)] : List UInt8))) false]) ⟨_, orcs_nil, ?_⟩ ?_
          · simp only [go_sem, reduceIte, Nat.reduceLT, Nat.reduceEqDiff, Nat.reduceAdd]
          refine run_block ?_
          replace h := bind_some1 h; obtain ⟨x_1725, hx_1726, hj_1727⟩ := h
          refine run_loopO hx_1726 (fun (v : Int × List UInt8) => (⟨asFr 67 [(1, .ref 0 0), (3, .bs false 1 (v.2.length) 0 (v.2.length)), (4, i64 v.1)], [.box [i64 v_1452.Kind, i64 v_1452.N, .sl false (L cU8 v_1452.B), .sl false (L cApi_Value v_1452.L)] false, .buf 1 (L cU8 v.2) false]⟩ : St)) (weak_sel [0, 1] (by decide) rfl (by simp only [go_sem, reduceIte, Nat.reduceLT, Nat.reduceEqDiff, Nat.reduceAdd]) (by simp only [go_sem, reduceIte, Nat.reduceLT, Nat.reduceEqDiff, Nat.reduceAdd])) ?_
          rintro ⟨i_1702, l_1703⟩ o_1728 h hxx_1729
          replace h : r01_Bytes_b1 v_1452 i_1702 l_1703 = some o_1728 := h
          unfold r01_Bytes_b1 at h
          refine run_seq ?_
          refine run_textE hE [1, 3, 4, 23] (fr' := [(1, .ref 0 0), (3, .bs false 1 (l_1703.length) 0 (l_1703.length)), (4, i64 i_1702), (23, .bool ((decide (i_1702 < (v_1452.B.length : Int)))))]) (σ' := [.box [i64 v_1452.Kind, i64 v_1452.N, .sl false (L cU8 v_1452.B), .sl false (L cApi_Value v_1452.L)] false, .buf 1 (L cU8 l_1703) false]) ⟨_, orcs_nil, ?_⟩ ?_
          · simp only [go_sem, reduceIte, Nat.reduceLT, Nat.reduceEqDiff, Nat.reduceAdd]
          refine run_condL (b := (decide (i_1702 < (v_1452.B.length : Int)))) rfl (by decide) (fun hb => ?_) (fun hb => ?_)
          · replace h := ite_t h hb
            refine run_skip ?_
            refine thenK_n ?_
            replace h := bind_some1 h; obtain ⟨j_1739, hA_1740, hj_1741⟩ := h
            refine run_join (fun (v : List UInt8) => (⟨asFr 67 [(1, .ref 0 0), (3, .bs false 1 (v.length) 0 (v.length)), (4, i64 i_1702)], [.box [i64 v_1452.Kind, i64 v_1452.N, .sl false (L cU8 v_1452.B), .sl false (L cApi_Value v_1452.L)] false, .buf 1 (L cU8 v) false]⟩ : St)) (fun v => v = j_1739) ?_ ?_
            · have h := hA_1740; clear hA_1740
              refine run_block ?_
              replace h := chk_some h; obtain ⟨hc_1742, h⟩ := h
              replace h := chk_some h; obtain ⟨hc_1743, h⟩ := h
              replace h := lt1_some h; obtain ⟨l_1744, hz_1745, h⟩ := h
              refine run_textE hE [1, 3, 4] (fr' := [(1, .ref 0 0), (3, .bs false 1 (l_1744.length) 0 (l_1744.length)), (4, i64 i_1702)]) (σ' := [.box [i64 v_1452.Kind, i64 v_1452.N, .sl false (L cU8 v_1452.B), .sl false (L cApi_Value v_1452.L)] false, .buf 1 (L cU8 l_1744) false, .buf 1 (L cU8 (([nth v_1452.B i_1702.toNat] : List UInt8))) false]) ⟨_, orcs_nil, ?_⟩ ?_
              · subst hz_1745; simp only [go_sem, reduceIte, Nat.reduceLT, Nat.reduceEqDiff, Nat.reduceAdd, Nat.reduceBEq, Nat.reduceMul, Nat.reduceSub, Nat.reduceGT, Nat.reducePow, Nat.reduceLeDiff, Int.reduceToNat, hc_1742, hc_1742.2, lt_le hc_1742.2, hc_1743]
              replace h := chk_some h; obtain ⟨hc_1746, h⟩ := h
              refine run_textE hE [1, 3, 4, 39] (fr' := [(1, .ref 0 0), (3, .bs false 1 (l_1744.length) 0 (l_1744.length)), (4, i64 i_1702), (39, .bool ((nth v_1452.B i_1702.toNat == (0 : UInt8))))]) (σ' := [.box [i64 v_1452.Kind, i64 v_1452.N, .sl false (L cU8 v_1452.B), .sl false (L cApi_Value v_1452.L)] false, .buf 1 (L cU8 l_1744) false, .buf 1 (L cU8 (([nth v_1452.B i_1702.toNat] : List UInt8))) false]) ⟨_, orcs_nil, ?_⟩ ?_
              · simp only [go_sem, reduceIte, Nat.reduceLT, Nat.reduceEqDiff, Nat.reduceAdd, Int.reduceToNat, hc_1746, hc_1746.2, lt_le hc_1746.2]
              refine run_condL (b := (nth v_1452.B i_1702.toNat == (0 : UInt8))) rfl (by decide) (fun hb => ?_) (fun hb => ?_)
              · replace h := ite_t h hb
                replace h := chk_some h; obtain ⟨hc_1747, h⟩ := h
                replace h := lt1_some h; obtain ⟨l_1748, hz_1749, h⟩ := h
                refine run_textE0 hE (wk_block wk_join) [1, 3, 4] (fr' := [(1, .ref 0 0), (3, .bs false 1 (l_1748.length) 0 (l_1748.length)), (4, i64 i_1702)]) (σ' := [.box [i64 v_1452.Kind, i64 v_1452.N, .sl false (L cU8 v_1452.B), .sl false (L cApi_Value v_1452.L)] false, .buf 1 (L cU8 l_1748) false, .buf 1 (L cU8 (([nth v_1452.B i_1702.toNat] : List UInt8))) false, .buf 1 (L cU8 (([(255 : UInt8)] : List UInt8))) false]) ⟨_, orcs_nil, ?_⟩ ?_
                · subst hz_1749; simp only [go_sem, reduceIte, Nat.reduceLT, Nat.reduceEqDiff, Nat.reduceAdd, Nat.reduceBEq, Nat.reduceMul, Nat.reduceSub, Nat.reduceGT, Nat.reducePow, Nat.reduceLeDiff, Int.reduceToNat, hc_1747]
                refine blockK_n ?_
                obtain rfl := Option.some.inj h
                exact joinK_n l_1748 rfl (weak_sel [0, 1] (by decide) rfl (by simp only [go_sem, reduceIte, Nat.reduceLT, Nat.reduceEqDiff, Nat.reduceAdd]) (by simp only [go_sem, reduceIte, Nat.reduceLT, Nat.reduceEqDiff, Nat.reduceAdd]))
              · replace h := ite_f h hb
                refine run_skip ?_
                refine blockK_n ?_
                obtain rfl := Option.some.inj h
                exact joinK_n l_1744 rfl (weak_sel [0, 1] (by decide) rfl (by simp only [go_sem, reduceIte, Nat.reduceLT, Nat.reduceEqDiff, Nat.reduceAdd]) (by simp only [go_sem, reduceIte, Nat.reduceLT, Nat.reduceEqDiff, Nat.reduceAdd]))
            rintro l_1738 rfl
            have h := hj_1741; clear hj_1741
            refine run_textE0 hE wk_lp [1, 3, 4] (fr' := [(1, .ref 0 0), (3, .bs false 1 (l_1738.length) 0 (l_1738.length)), (4, i64 ((w64 (i_1702 + 1))))]) (σ' := [.box [i64 v_1452.Kind, i64 v_1452.N, .sl false (L cU8 v_1452.B), .sl false (L cApi_Value v_1452.L)] false, .buf 1 (L cU8 l_1738) false]) ⟨_, orcs_nil, ?_⟩ ?_
            · simp only [go_sem, reduceIte, Nat.reduceLT, Nat.reduceEqDiff, Nat.reduceAdd]
            obtain rfl := Option.some.inj h
            exact lpK_n (((w64 (i_1702 + 1)), l_1738)) rfl (weak_sel [0, 1] (by decide) rfl (by simp only [go_sem, reduceIte, Nat.reduceLT, Nat.reduceEqDiff, Nat.reduceAdd]) (by simp only [go_sem, reduceIte, Nat.reduceLT, Nat.reduceEqDiff, Nat.reduceAdd]))
          · replace h := ite_f h hb
            refine run_exit ?_
            refine thenK_x ?_
            obtain rfl := Option.some.inj h
            have ex_x_1725 := hxx_1729 _ rfl
            subst ex_x_1725
            have h := hj_1727; clear hj_1727
            refine lpK_x ?_
            refine blockK_x ?_
            obtain rfl := Option.some.inj h
            exact joinK_n l_1703 rfl ((weak_sel (l' := [(3, .bs false 0 (l_1703.length) 0 (l_1703.length))]) (σ' := [.buf 1 (L cU8 l_1703) false]) [1] (by decide) rfl (by simp only [go_sem, reduceIte, Nat.reduceLT, Nat.reduceEqDiff, Nat.reduceAdd]) (by simp only [go_sem, reduceIte, Nat.reduceLT, Nat.reduceEqDiff, Nat.reduceAdd])).trans (weak_sel [0] (by decide) rfl (by simp only [go_sem, reduceIte, Nat.reduceLT, Nat.reduceEqDiff, Nat.reduceAdd]) (by simp only [go_sem, reduceIte, Nat.reduceLT, Nat.reduceEqDiff, Nat.reduceAdd])))
        rintro l_1678 rfl
        have h := hj_1681; clear hj_1681
        replace h := chk_some h; obtain ⟨hc_1750, h⟩ := h
        replace h := lt1_some h; obtain ⟨l_1751, hz_1752, h⟩ := h
        refine run_textE hE [2] (fr' := [(2, .bs false 0 (l_1751.length) 0 (l_1751.length))]) (σ' := [.buf 1 (L cU8 l_1751) false, .buf 1 (L cU8 (([(0 : UInt8), (0 : UInt8)] : List UInt8))) false]) ⟨_, orcs_nil, ?_⟩ ?_
        · subst hz_1752; simp only [go_sem, reduceIte, Nat.reduceLT, Nat.reduceEqDiff, Nat.reduceAdd, Nat.reduceBEq, Nat.reduceMul, Nat.reduceSub, Nat.reduceGT, Nat.reducePow, Nat.reduceLeDiff, Int.reduceToNat, hc_1750]
        refine run_ret ?_
        refine joinK_r ?_
        replace h := bind_some1 h; obtain ⟨z_1753, h, e_z_1753⟩ := h
        obtain rfl := Option.some.inj e_z_1753
        obtain rfl := Option.some.inj hj_1606
        obtain rfl := Option.some.inj h
        refine ret_ok (.inr rfl) ?_
        simp only [go_sem, reduceIte, Nat.reduceLT, Nat.reduceEqDiff, Nat.reduceAdd]
      · replace h := ite_f h hb
        refine run_skip ?_
        obtain rfl := Option.some.inj h
        exact joinK_n (()) rfl (weak_sel [0, 1] (by decide) rfl (by simp only [go_sem, reduceIte, Nat.reduceLT, Nat.reduceEqDiff, Nat.reduceAdd]) (by simp only [go_sem, reduceIte, Nat.reduceLT, Nat.reduceEqDiff, Nat.reduceAdd]))
    rintro ⟨⟩ rfl
    have h := hj_1606; clear hj_1606
    replace h := chk_some h; obtain ⟨hc_1754, h⟩ := h
    replace h := lt1_some h; obtain ⟨l_1755, hz_1756, h⟩ := h
    refine run_textE hE [1, 3] (fr' := [(1, .ref 0 0), (3, .bs false 1 (l_1755.length) 0 (l_1755.length))]) (σ' := [.box [i64 v_1452.Kind, i64 v_1452.N, .sl false (L cU8 v_1452.B), .sl false (L cApi_Value v_1452.L)] false, .buf 1 (L cU8 l_1755) false, .buf 1 (L cU8 (([(64 : UInt8)] : List UInt8))) false]) ⟨_, orcs_nil, ?_⟩ ?_
    · subst hz_1756; simp only [go_sem, reduceIte, Nat.reduceLT, Nat.reduceEqDiff, Nat.reduceAdd, Nat.reduceBEq, Nat.reduceMul, Nat.reduceSub, Nat.reduceGT, Nat.reducePow, Nat.reduceLeDiff, Int.reduceToNat, hc_1754]
    replace h := bind_some1 h; obtain ⟨j_1784, hA_1785, hj_1786⟩ := h
    refine run_join (fun (v : List UInt8) => (⟨asFr 67 [(3, .bs false 0 (v.length) 0 (v.length))], [.buf 1 (L cU8 v) false]⟩ : St)) (fun v => v = j_1784) ?_ ?_
    · have h := hA_1785; clear hA_1785
      refine run_textE hE [1, 3, 5] (fr' := [(1, .ref 0 0), (3, .bs false 1 (l_1755.length) 0 (l_1755.length)), (5, i64 0)]) (σ' := [.box [i64 v_1452.Kind, i64 v_1452.N, .sl false (L cU8 v_1452.B), .sl false (L cApi_Value v_1452.L)] false, .buf 1 (L cU8 l_1755) false, .buf 1 (L cU8 (([(64 : UInt8)] : List UInt8))) false]) ⟨_, orcs_nil, ?_⟩ ?_
      · simp only [go_sem, reduceIte, Nat.reduceLT, Nat.reduceEqDiff, Nat.reduceAdd]
      refine run_block ?_
      replace h := bind_some1 h; obtain ⟨x_1802, hx_1803, hj_1804⟩ := h
      refine run_loopO hx_1803 (fun (v : Int × List UInt8) => (⟨asFr 67 [(1, .ref 0 0), (3, .bs false 1 (v.2.length) 0 (v.2.length)), (5, i64 v.1)], [.box [i64 v_1452.Kind, i64 v_1452.N, .sl false (L cU8 v_1452.B), .sl false (L cApi_Value v_1452.L)] false, .buf 1 (L cU8 v.2) false]⟩ : St)) (weak_sel [0, 1] (by decide) rfl (by simp only [go_sem, reduceIte, Nat.reduceLT, Nat.reduceEqDiff, Nat.reduceAdd]) (by simp only [go_sem, reduceIte, Nat.reduceLT, Nat.reduceEqDiff, Nat.reduceAdd])) ?_
      rintro ⟨i_1793, l_1794⟩ o_1805 h hxx_1806
      replace h : r01_Bytes_b2 v_1452 rec_ i_1793 l_1794 = some o_1805 := h
      unfold r01_Bytes_b2 at h
      refine run_seq ?_
      refine run_textE hE [1, 3, 5, 53] (fr' := [(1, .ref 0 0), (3, .bs false 1 (l_1794.length) 0 (l_1794.length)), (5, i64 i_1793), (53, .bool ((decide (i_1793 < (v_1452.L.length : Int)))))]) (σ' := [.box [i64 v_1452.Kind, i64 v_1452.N, .sl false (L cU8 v_1452.B), .sl false (L cApi_Value v_1452.L)] false, .buf 1 (L cU8 l_1794) false]) ⟨_, orcs_nil, ?_⟩ ?_
      · simp only [go_sem, reduceIte, Nat.reduceLT, Nat.reduceEqDiff, Nat.reduceAdd]
      refine run_condL (b := (decide (i_1793 < (v_1452.L.length : Int)))) rfl (by decide) (fun hb => ?_) (fun hb => ?_)
      · replace h := ite_t h hb
        refine run_skip ?_
        refine thenK_n ?_
        refine run_seq ?_
        refine run_block ?_
        replace h := chk_some h; obtain ⟨hc_1808, h⟩ := h
        replace h := bind_some1 h; obtain ⟨y_1807, hy_1809, h⟩ := h
        replace h := chk_some h; obtain ⟨hc_1810, h⟩ := h
        replace h := lt1_some h; obtain ⟨l_1811, hz_1812, h⟩ := h
        refine run_textE0 hE (wk_block wk_then) [1, 3, 5] (fr' := [(1, .ref 0 0), (3, .bs false 1 (l_1811.length) 0 (l_1811.length)), (5, i64 i_1793)]) (σ' := [.box [i64 v_1452.Kind, i64 v_1452.N, .sl false (L cU8 v_1452.B), .sl false (L cApi_Value v_1452.L)] false, .buf 1 (L cU8 l_1811) false]) ⟨_, orcs_ok (l := [(62, 36, [.agg [i64 ((nth v_1452.L i_1793.toNat).Kind), i64 ((nth v_1452.L i_1793.toNat).N), .sl false (L cU8 ((nth v_1452.L i_1793.toNat).B)), .sl false (L cApi_Value ((nth v_1452.L i_1793.toNat).L))]], .sl false (L cU8 y_1807))]) ⟨hrec  hy_1809, trivial⟩, ?_⟩ ?_
        · subst hz_1812; simp only [go_sem, reduceIte, Nat.reduceLT, Nat.reduceEqDiff, Nat.reduceAdd, Int.reduceToNat, hc_1808, hc_1808.2, lt_le hc_1808.2, hc_1810]
        refine blockK_n ?_
        refine thenK_n ?_
        refine run_textE0 hE wk_lp [1, 3, 5] (fr' := [(1, .ref 0 0), (3, .bs false 1 (l_1811.length) 0 (l_1811.length)), (5, i64 ((w64 (i_1793 + 1))))]) (σ' := [.box [i64 v_1452.Kind, i64 v_1452.N, .sl false (L cU8 v_1452.B), .sl false (L cApi_Value v_1452.L)] false, .buf 1 (L cU8 l_1811) false]) ⟨_, orcs_nil, ?_⟩ ?_
        · simp only [go_sem, reduceIte, Nat.reduceLT, Nat.reduceEqDiff, Nat.reduceAdd]
        obtain rfl := Option.some.inj h
        exact lpK_n (((w64 (i_1793 + 1)), l_1811)) rfl (weak_sel [0, 1] (by decide) rfl (by simp only [go_sem, reduceIte, Nat.reduceLT, Nat.reduceEqDiff, Nat.reduceAdd]) (by simp only [go_sem, reduceIte, Nat.reduceLT, Nat.reduceEqDiff, Nat.reduceAdd]))
      · replace h := ite_f h hb
        refine run_exit ?_
        refine thenK_x ?_
        obtain rfl := Option.some.inj h
        have ex_x_1802 := hxx_1806 _ rfl
        subst ex_x_1802
        have h := hj_1804; clear hj_1804
        refine lpK_x ?_
        refine blockK_x ?_
        obtain rfl := Option.some.inj h
        exact joinK_n l_1794 rfl ((weak_sel (l' := [(3, .bs false 0 (l_1794.length) 0 (l_1794.length))]) (σ' := [.buf 1 (L cU8 l_1794) false]) [1] (by decide) rfl (by simp only [go_sem, reduceIte, Nat.reduceLT, Nat.reduceEqDiff, Nat.reduceAdd]) (by simp only [go_sem, reduceIte, Nat.reduceLT, Nat.reduceEqDiff, Nat.reduceAdd])).trans (weak_sel [0] (by decide) rfl (by simp only [go_sem, reduceIte, Nat.reduceLT, Nat.reduceEqDiff, Nat.reduceAdd]) (by simp only [go_sem, reduceIte, Nat.reduceLT, Nat.reduceEqDiff, Nat.reduceAdd])))
    rintro l_1783 rfl
    have h := hj_1786; clear hj_1786
    replace h := chk_some h; obtain ⟨hc_1813, h⟩ := h
    replace h := lt1_some h; obtain ⟨l_1814, hz_1815, h⟩ := h
    refine run_textE hE [2] (fr' := [(2, .bs false 0 (l_1814.length) 0 (l_1814.length))]) (σ' := [.buf 1 (L cU8 l_1814) false, .buf 1 (L cU8 (([(0 : UInt8)] : List UInt8))) false]) ⟨_, orcs_nil, ?_⟩ ?_
    · subst hz_1815; simp only [go_sem, reduceIte, Nat.reduceLT, Nat.reduceEqDiff, Nat.reduceAdd, Nat.reduceBEq, Nat.reduceMul, Nat.reduceSub, Nat.reduceGT, Nat.reducePow, Nat.reduceLeDiff, Int.reduceToNat, hc_1813]
    refine run_ret ?_
    obtain rfl := Option.some.inj h
    refine ret_ok (.inr rfl) ?_
    simp only [go_sem, reduceIte, Nat.reduceLT, Nat.reduceEqDiff, Nat.reduceAdd]
theorem r01_Bytes_n_con (n : Nat) : ∀ {v_1452 : Api_Value} {r : List UInt8}, r01_Bytes_n n v_1452 = some r → Con B 36 [.agg [i64 v_1452.Kind, i64 v_1452.N, .sl false (L cU8 v_1452.B), .sl false (L cApi_Value v_1452.L)]] [] (fun r' σ' => r' = .sl false (L cU8 r) ∧ σ' = []) := by
  induction n with
  | zero => intro v_1452 r h; cases h
  | succ n ih => intro v_1452 r h; exact r01_Bytes_F_con ih h
theorem r01_Bytes_con {v_1452 : Api_Value} {r : List UInt8} (h : r01_Bytes v_1452 = some r) : Con B 36 [.agg [i64 v_1452.Kind, i64 v_1452.N, .sl false (L cU8 v_1452.B), .sl false (L cApi_Value v_1452.L)]] [] (fun r' σ' => r' = .sl false (L cU8 r) ∧ σ' = []) := r01_Bytes_n_con _ h

end Go.Proofs.Ytihncddenjbecaa
/-
  The functions compute just that.
-/
namespace Go.Proofs.Ytihncddenjbecaa
open Go.Rv
set_option linter.unusedVariables false
set_option linter.unusedSimpArgs false
set_option maxRecDepth 20000

theorem r01_Check_con {v_1816 : Api_Value} {r : Int} (h : r01_Check v_1816 = some r) : Con B 17 [.agg [i64 v_1816.Kind, i64 v_1816.N, .sl false (L cU8 v_1816.B), .sl false (L cApi_Value v_1816.L)]] [] (fun r' σ' => r' = i64 r ∧ σ' = []) := by
  refine con_walk (N := 15) (rs := [.tmp 2]) ok Try.func17 rfl (by decide +kernel) rfl rfl (Nat.le_of_ble_eq_true rfl) (fun F => ?_)
  have hE := ok.env F
  unfold r01_Check at h
  show Run (B.env F) 0 _ ⟨asFr 15 [(0, .agg [i64 v_1816.Kind, i64 v_1816.N, .sl false (L cU8 v_1816.B), .sl false (L cApi_Value v_1816.L)])], []⟩ _
  refine run_textE hE [1] (fr' := [(1, .ref 0 0)]) (σ' := [.box [i64 v_1816.Kind, i64 v_1816.N, .sl false (L cU8 v_1816.B), .sl false (L cApi_Value v_1816.L)] false]) ⟨_, orcs_nil, ?_⟩ ?_
  · simp only [go_sem, reduceIte, Nat.reduceLT, Nat.reduceEqDiff, Nat.reduceAdd]
  refine run_seq ?_
  replace h := bind_some1 h; obtain ⟨y_1817, hy_1818, h⟩ := h
  refine run_textE hE [1, 5] (fr' := [(1, .ref 0 0), (5, .bool ((!y_1817)))]) (σ' := [.box [i64 v_1816.Kind, i64 v_1816.N, .sl false (L cU8 v_1816.B), .sl false (L cApi_Value v_1816.L)] false]) ⟨_, orcs_ok (l := [(4, 37, [.agg [i64 v_1816.Kind, i64 v_1816.N, .sl false (L cU8 v_1816.B), .sl false (L cApi_Value v_1816.L)]], .bool y_1817)]) ⟨r01_Shape_con  hy_1818, trivial⟩, ?_⟩ ?_
  · simp only [go_sem, reduceIte, Nat.reduceLT, Nat.reduceEqDiff, Nat.reduceAdd]
  refine run_condL (b := (!y_1817)) rfl (by decide) (fun hb => ?_) (fun hb => ?_)
  · replace h := ite_t h hb
    refine run_textE hE [2] (fr' := [(2, i64 10)]) (σ' := [.box [i64 v_1816.Kind, i64 v_1816.N, .sl false (L cU8 v_1816.B), .sl false (L cApi_Value v_1816.L)] false]) ⟨_, orcs_nil, ?_⟩ ?_
    · simp only [go_sem, reduceIte, Nat.reduceLT, Nat.reduceEqDiff, Nat.reduceAdd]
    refine run_ret ?_
    refine thenK_r ?_
    obtain rfl := Option.some.inj h
    refine ret_ok (.inr rfl) ?_
    simp only [go_sem, reduceIte, Nat.reduceLT, Nat.reduceEqDiff, Nat.reduceAdd]
  · replace h := ite_f h hb
    refine run_skip ?_
    refine thenK_n ?_
    refine run_seq ?_
    replace h := bind_some1 h; obtain ⟨t_1821, hv_1822, h⟩ := h
    refine run_textW hE [14] (fr' := [(14, .bool t_1821)]) (σ' := []) ?_ ?_
    · replace hv_1822 := bind_some1 hv_1822; obtain ⟨y_1819, hy_1823, hv_1822⟩ := hv_1822
      rcases Bool.eq_false_or_eq_true ((decide (y_1819 > 16))) with hb_1824 | hb_1824
      · replace hv_1822 := ite_t hv_1822 hb_1824
        have e_hv_1822 := Option.some.inj hv_1822; subst e_hv_1822
        exact ⟨_, [(14, .bool true)], [.box [i64 v_1816.Kind, i64 v_1816.N, .sl false (L cU8 v_1816.B), .sl false (L cApi_Value v_1816.L)] false], orcs_ok (l := [(7, 28, [.agg [i64 v_1816.Kind, i64 v_1816.N, .sl false (L cU8 v_1816.B), .sl false (L cApi_Value v_1816.L)]], i64 y_1819)]) ⟨r01_Nesting_con  hy_1823, trivial⟩, by simp only [go_sem, reduceIte, Nat.reduceLT, Nat.reduceEqDiff, Nat.reduceAdd, hb_1824], (weak_sel [] (by decide) rfl (by simp only [go_sem, reduceIte, Nat.reduceLT, Nat.reduceEqDiff, Nat.reduceAdd]) (by simp only [go_sem, reduceIte, Nat.reduceLT, Nat.reduceEqDiff, Nat.reduceAdd]))⟩
      · replace hv_1822 := ite_f hv_1822 hb_1824
        replace hv_1822 := bind_some1 hv_1822; obtain ⟨y_1820, hy_1825, hv_1822⟩ := hv_1822
        have e_hv_1822 := Option.some.inj hv_1822; subst e_hv_1822
        exact ⟨_, [(14, .bool ((decide ((y_1820.length : Int) > 65536))))], [.box [i64 v_1816.Kind, i64 v_1816.N, .sl false (L cU8 v_1816.B), .sl false (L cApi_Value v_1816.L)] false], orcs_ok (l := [(7, 28, [.agg [i64 v_1816.Kind, i64 v_1816.N, .sl false (L cU8 v_1816.B), .sl false (L cApi_Value v_1816.L)]], i64 y_1819), (11, 36, [.agg [i64 v_1816.Kind, i64 v_1816.N, .sl false (L cU8 v_1816.B), .sl false (L cApi_Value v_1816.L)]], .sl false (L cU8 y_1820))]) ⟨r01_Nesting_con  hy_1823, r01_Bytes_con  hy_1825, trivial⟩, by simp only [go_sem, reduceIte, Nat.reduceLT, Nat.reduceEqDiff, Nat.reduceAdd, hb_1824], (weak_sel [] (by decide) rfl (by simp only [go_sem, reduceIte, Nat.reduceLT, Nat.reduceEqDiff, Nat.reduceAdd]) (by simp only [go_sem, reduceIte, Nat.reduceLT, Nat.reduceEqDiff, Nat.reduceAdd]))⟩
    refine run_condL (b := t_1821) rfl (by decide) (fun hb => ?_) (fun hb => ?_)
    · replace h := ite_t h hb
      refine run_textE hE [2] (fr' := [(2, i64 2)]) (σ' := []) ⟨_, orcs_nil, ?_⟩ ?_
      · simp only [go_sem, reduceIte, Nat.reduceLT, Nat.reduceEqDiff, Nat.reduceAdd]
      refine run_ret ?_
      refine thenK_r ?_
      obtain rfl := Option.some.inj h
      refine ret_ok (.inr rfl) ?_
      simp only [go_sem, reduceIte, Nat.reduceLT, Nat.reduceEqDiff, Nat.reduceAdd]
    · replace h := ite_f h hb
      refine run_skip ?_
      refine thenK_n ?_
      refine run_textE hE [2] (fr' := [(2, i64 0)]) (σ' := []) ⟨_, orcs_nil, ?_⟩ ?_
      · simp only [go_sem, reduceIte, Nat.reduceLT, Nat.reduceEqDiff, Nat.reduceAdd]
      refine run_ret ?_
      obtain rfl := Option.some.inj h
      refine ret_ok (.inr rfl) ?_
      simp only [go_sem, reduceIte, Nat.reduceLT, Nat.reduceEqDiff, Nat.reduceAdd]

theorem r01_Encode_con {v_1826 : Api_Value} {r : List UInt8 × Int} (h : r01_Encode v_1826 = some r) : Con B 15 [.agg [i64 v_1826.Kind, i64 v_1826.N, .sl false (L cU8 v_1826.B), .sl false (L cApi_Value v_1826.L)]] [] (fun r' σ' => r' = .tup [.sl false (L cU8 r.1), i64 r.2] ∧ σ' = []) := by
  refine con_walk (N := 12) (rs := [.tmp 2, .tmp 3]) ok Try.func15 rfl (by decide +kernel) rfl rfl (Nat.le_of_ble_eq_true rfl) (fun F => ?_)
  have hE := ok.env F
  unfold r01_Encode at h
  show Run (B.env F) 0 _ ⟨asFr 12 [(0, .agg [i64 v_1826.Kind, i64 v_1826.N, .sl false (L cU8 v_1826.B), .sl false (L cApi_Value v_1826.L)])], []⟩ _
  refine run_textE hE [1] (fr' := [(1, .ref 0 0)]) (σ' := [.box [i64 v_1826.Kind, i64 v_1826.N, .sl false (L cU8 v_1826.B), .sl false (L cApi_Value v_1826.L)] false]) ⟨_, orcs_nil, ?_⟩ ?_
  · simp only [go_sem, reduceIte, Nat.reduceLT, Nat.reduceEqDiff, Nat.reduceAdd]
  replace h := bind_some1 h; obtain ⟨y_1827, hy_1828, h⟩ := h
  refine run_textE hE [1, 4] (fr' := [(1, .ref 0 0), (4, i64 y_1827)]) (σ' := [.box [i64 v_1826.Kind, i64 v_1826.N, .sl false (L cU8 v_1826.B), .sl false (L cApi_Value v_1826.L)] false]) ⟨_, orcs_ok (l := [(6, 17, [.agg [i64 v_1826.Kind, i64 v_1826.N, .sl false (L cU8 v_1826.B), .sl false (L cApi_Value v_1826.L)]], i64 y_1827)]) ⟨r01_Check_con  hy_1828, trivial⟩, ?_⟩ ?_
  · simp only [go_sem, reduceIte, Nat.reduceLT, Nat.reduceEqDiff, Nat.reduceAdd]
  refine run_seq ?_
  refine run_textE hE [1, 4, 8] (fr' := [(1, .ref 0 0), (4, i64 y_1827), (8, .bool ((y_1827 != 0)))]) (σ' := [.box [i64 v_1826.Kind, i64 v_1826.N, .sl false (L cU8 v_1826.B), .sl false (L cApi_Value v_1826.L)] false]) ⟨_, orcs_nil, ?_⟩ ?_
  · simp only [go_sem, reduceIte, Nat.reduceLT, Nat.reduceEqDiff, Nat.reduceAdd]
  refine run_condL (b := (y_1827 != 0)) rfl (by decide) (fun hb => ?_) (fun hb => ?_)
  · replace h := ite_t h hb
    refine run_textE hE [2, 3] (fr' := [(2, .sl true (L cU8 ([]))), (3, i64 y_1827)]) (σ' := [.box [i64 v_1826.Kind, i64 v_1826.N, .sl false (L cU8 v_1826.B), .sl false (L cApi_Value v_1826.L)] false]) ⟨_, orcs_nil, ?_⟩ ?_
    · simp only [go_sem, reduceIte, Nat.reduceLT, Nat.reduceEqDiff, Nat.reduceAdd]
    refine run_ret ?_
    refine thenK_r ?_
    obtain rfl := Option.some.inj h
    refine ret_ok (.inr rfl) ?_
    simp only [go_sem, reduceIte, Nat.reduceLT, Nat.reduceEqDiff, Nat.reduceAdd]
  · replace h := ite_f h hb
    refine run_skip ?_
    refine thenK_n ?_
    replace h := bind_some1 h; obtain ⟨y_1829, hy_1830, h⟩ := h
    refine run_textE hE [2, 3] (fr' := [(2, .sl false (L cU8 y_1829)), (3, i64 0)]) (σ' := [.box [i64 v_1826.Kind, i64 v_1826.N, .sl false (L cU8 v_1826.B), .sl false (L cApi_Value v_1826.L)] false]) ⟨_, orcs_ok (l := [(11, 36, [.agg [i64 v_1826.Kind, i64 v_1826.N, .sl false (L cU8 v_1826.B), .sl false (L cApi_Value v_1826.L)]], .sl false (L cU8 y_1829))]) ⟨r01_Bytes_con  hy_1830, trivial⟩, ?_⟩ ?_
    · simp only [go_sem, reduceIte, Nat.reduceLT, Nat.reduceEqDiff, Nat.reduceAdd]
    refine run_ret ?_
    obtain rfl := Option.some.inj h
    refine ret_ok (.inr rfl) ?_
    simp only [go_sem, reduceIte, Nat.reduceLT, Nat.reduceEqDiff, Nat.reduceAdd]

theorem r01_Order_con {a_1831 : Int} {b_1832 : Int} {r : Int} (h : r01_Order a_1831 b_1832 = some r) : Con B 30 [i64 a_1831, i64 b_1832] [] (fun r' σ' => r' = i64 r ∧ σ' = []) := by
  refine con_walk (N := 11) (rs := [.tmp 4]) ok Try.func30 rfl (by decide +kernel) rfl rfl (Nat.le_of_ble_eq_true rfl) (fun F => ?_)
  have hE := ok.env F
  unfold r01_Order at h
  show Run (B.env F) 0 _ ⟨asFr 11 [(0, i64 a_1831), (1, i64 b_1832)], []⟩ _
  refine run_textE hE [0, 1] (fr' := [(0, i64 a_1831), (1, i64 b_1832)]) (σ' := []) ⟨_, orcs_nil, ?_⟩ ?_
  · simp only [go_sem, reduceIte, Nat.reduceLT, Nat.reduceEqDiff, Nat.reduceAdd]
  refine run_seq ?_
  refine run_textE hE [0, 1, 7] (fr' := [(0, i64 a_1831), (1, i64 b_1832), (7, .bool ((decide (a_1831 < b_1832))))]) (σ' := []) ⟨_, orcs_nil, ?_⟩ ?_
  · simp only [go_sem, reduceIte, Nat.reduceLT, Nat.reduceEqDiff, Nat.reduceAdd]
  refine run_condL (b := (decide (a_1831 < b_1832))) rfl (by decide) (fun hb => ?_) (fun hb => ?_)
  · replace h := ite_t h hb
    refine run_textE hE [4] (fr' := [(4, i64 ((-1)))]) (σ' := []) ⟨_, orcs_nil, ?_⟩ ?_
    · simp only [go_sem, reduceIte, Nat.reduceLT, Nat.reduceEqDiff, Nat.reduceAdd]
    refine run_ret ?_
    refine thenK_r ?_
    obtain rfl := Option.some.inj h
    refine ret_ok (.inr rfl) ?_
    simp only [go_sem, reduceIte, Nat.reduceLT, Nat.reduceEqDiff, Nat.reduceAdd]
  · replace h := ite_f h hb
    refine run_skip ?_
    refine thenK_n ?_
    refine run_seq ?_
    refine run_textE hE [10] (fr' := [(10, .bool ((decide (a_1831 > b_1832))))]) (σ' := []) ⟨_, orcs_nil, ?_⟩ ?_
    · simp only [go_sem, reduceIte, Nat.reduceLT, Nat.reduceEqDiff, Nat.reduceAdd]
    refine run_condL (b := (decide (a_1831 > b_1832))) rfl (by decide) (fun hb => ?_) (fun hb => ?_)
    · replace h := ite_t h hb
      refine run_textE hE [4] (fr' := [(4, i64 1)]) (σ' := []) ⟨_, orcs_nil, ?_⟩ ?_
      · simp only [go_sem, reduceIte, Nat.reduceLT, Nat.reduceEqDiff, Nat.reduceAdd]
      refine run_ret ?_
      refine thenK_r ?_
      obtain rfl := Option.some.inj h
      refine ret_ok (.inr rfl) ?_
      simp only [go_sem, reduceIte, Nat.reduceLT, Nat.reduceEqDiff, Nat.reduceAdd]
    · replace h := ite_f h hb
      refine run_skip ?_
      refine thenK_n ?_
      refine run_textE hE [4] (fr' := [(4, i64 0)]) (σ' := []) ⟨_, orcs_nil, ?_⟩ ?_
      · simp only [go_sem, reduceIte, Nat.reduceLT, Nat.reduceEqDiff, Nat.reduceAdd]
      refine run_ret ?_
      obtain rfl := Option.some.inj h
      refine ret_ok (.inr rfl) ?_
      simp only [go_sem, reduceIte, Nat.reduceLT, Nat.reduceEqDiff, Nat.reduceAdd]

theorem r01_OrderBytes_con {a_1833 : List UInt8} {b_1834 : List UInt8} {r : Int} (h : r01_OrderBytes a_1833 b_1834 = some r) : Con B 24 [.sl false (L cU8 a_1833), .sl false (L cU8 b_1834)] [] (fun r' σ' => r' = i64 r ∧ σ' = []) := by
  refine con_walk (N := 43) (rs := [.tmp 4]) ok Try.func24 rfl (by decide +kernel) rfl rfl (Nat.le_of_ble_eq_true rfl) (fun F => ?_)
  have hE := ok.env F
  unfold r01_OrderBytes at h
  show Run (B.env F) 0 _ ⟨asFr 43 [(0, .sl false (L cU8 a_1833)), (1, .sl false (L cU8 b_1834))], []⟩ _
  refine run_textE hE [0, 1] (fr' := [(0, .sl false (L cU8 a_1833)), (1, .sl false (L cU8 b_1834))]) (σ' := []) ⟨_, orcs_nil, ?_⟩ ?_
  · simp only [go_sem, reduceIte, Nat.reduceLT, Nat.reduceEqDiff, Nat.reduceAdd]
  replace h := bind_some1 h; obtain ⟨j_1874, hA_1875, hj_1876⟩ := h
  refine run_join (fun (v : Unit) => (⟨asFr 43 [(0, .sl false (L cU8 a_1833)), (1, .sl false (L cU8 b_1834))], []⟩ : St)) (fun v => .inl v = j_1874) ?_ ?_
  · have h := hA_1875; clear hA_1875
    refine run_textE hE [0, 1, 5] (fr' := [(0, .sl false (L cU8 a_1833)), (1, .sl false (L cU8 b_1834)), (5, i64 0)]) (σ' := []) ⟨_, orcs_nil, ?_⟩ ?_
    · simp only [go_sem, reduceIte, Nat.reduceLT, Nat.reduceEqDiff, Nat.reduceAdd]
    refine run_block ?_
    replace h := bind_some1 h; obtain ⟨x_1900, hx_1901, hj_1902⟩ := h
    refine run_loopO hx_1901 (fun (v : Int) => (⟨asFr 43 [(0, .sl false (L cU8 a_1833)), (1, .sl false (L cU8 b_1834)), (5, i64 v)], []⟩ : St)) (weak_sel [] (by decide) rfl (by simp only [go_sem, reduceIte, Nat.reduceLT, Nat.reduceEqDiff, Nat.reduceAdd]) (by simp only [go_sem, reduceIte, Nat.reduceLT, Nat.reduceEqDiff, Nat.reduceAdd])) ?_
    rintro i_1888 o_1903 h hxx_1904
    replace h : r01_OrderBytes_b1 a_1833 b_1834 i_1888 = some o_1903 := h
    unfold r01_OrderBytes_b1 at h
    refine run_seq ?_
    replace h := bind_some1 h; obtain ⟨t_1905, hv_1906, h⟩ := h
    refine run_textW hE [0, 1, 5, 15] (fr' := [(0, .sl false (L cU8 a_1833)), (1, .sl false (L cU8 b_1834)), (5, i64 i_1888), (15, .bool t_1905)]) (σ' := []) ?_ ?_
    · rcases Bool.eq_false_or_eq_true ((decide (i_1888 < (a_1833.length : Int)))) with hb_1907 | hb_1907
      · replace hv_1906 := ite_t hv_1906 hb_1907
        have e_hv_1906 := Option.some.inj hv_1906; subst e_hv_1906
        exact ⟨_, [(0, .sl false (L cU8 a_1833)), (1, .sl false (L cU8 b_1834)), (5, i64 i_1888), (15, .bool ((decide (i_1888 < (b_1834.length : Int)))))], [], orcs_nil, by simp only [go_sem, reduceIte, Nat.reduceLT, Nat.reduceEqDiff, Nat.reduceAdd, hb_1907], (weak_sel [] (by decide) rfl (by simp only [go_sem, reduceIte, Nat.reduceLT, Nat.reduceEqDiff, Nat.reduceAdd]) (by simp only [go_sem, reduceIte, Nat.reduceLT, Nat.reduceEqDiff, Nat.reduceAdd]))⟩
      · replace hv_1906 := ite_f hv_1906 hb_1907
        have e_hv_1906 := Option.some.inj hv_1906; subst e_hv_1906
        exact ⟨_, [(0, .sl false (L cU8 a_1833)), (1, .sl false (L cU8 b_1834)), (5, i64 i_1888), (15, .bool false)], [], orcs_nil, by simp only [go_sem, reduceIte, Nat.reduceLT, Nat.reduceEqDiff, Nat.reduceAdd, hb_1907], (weak_sel [] (by decide) rfl (by simp only [go_sem, reduceIte, Nat.reduceLT, Nat.reduceEqDiff, Nat.reduceAdd]) (by simp only [go_sem, reduceIte, Nat.reduceLT, Nat.reduceEqDiff, Nat.reduceAdd]))⟩
    refine run_condL (b := t_1905) rfl (by decide) (fun hb => ?_) (fun hb => ?_)
    · replace h := ite_t h hb
      refine run_skip ?_
      refine thenK_n ?_
      refine run_seq ?_
      refine run_block ?_
      replace h := chk_some h; obtain ⟨hc_1908, h⟩ := h
      replace h := chk_some h; obtain ⟨hc_1909, h⟩ := h
      refine run_drawE hE mixed [[], [], [0, 1], [0, 1, 2], [], [], [4, 5], [4, 5, 6], [0, 1, 2, 3, 4, 5, 6, 7]] (by kernel_rfl) (by kernel_rfl) [0, 1, 5, 26] (fr' := [(0, .sl false (L cU8 a_1833)), (1, .sl false (L cU8 b_1834)), (5, i64 i_1888), (26, .bool ((nth a_1833 i_1888.toNat != nth b_1834 i_1888.toNat)))]) (σ' := []) ⟨_, orcs_nil, ?_⟩ ?_
      · simp only [go_sem, reduceIte, Nat.reduceLT, Nat.reduceEqDiff, Nat.reduceAdd, Int.reduceToNat, hc_1908, hc_1908.2, lt_le hc_1908.2, hc_1909, hc_1909.2, lt_le hc_1909.2]
      refine run_condL (b := (nth a_1833 i_1888.toNat != nth b_1834 i_1888.toNat)) rfl (by decide) (fun hb => ?_) (fun hb => ?_)
      · replace h := ite_t h hb
        replace h := chk_some h; obtain ⟨hc_1911, h⟩ := h
        replace h := chk_some h; obtain ⟨hc_1912, h⟩ := h
        replace h := bind_some1 h; obtain ⟨y_1910, hy_1913, h⟩ := h
        refine run_drawE hE mixed [[], [], [0, 1], [0, 1, 2], [0, 1, 2, 3], [], [], [5, 6], [5, 6, 7], [5, 6, 7, 8], [0, 1, 2, 3, 4, 5, 6, 7, 8, 9], [0, 1, 2, 3, 4, 5, 6, 7, 8, 9, 10]] (by kernel_rfl) (by kernel_rfl) [4] (fr' := [(4, i64 y_1910)]) (σ' := []) ⟨_, orcs_ok (l := [(37, 30, [i64 (((nth a_1833 i_1888.toNat).toNat : Int)), i64 (((nth b_1834 i_1888.toNat).toNat : Int))], i64 y_1910)]) ⟨r01_Order_con  hy_1913, trivial⟩, ?_⟩ ?_
        · simp only [go_sem, reduceIte, Nat.reduceLT, Nat.reduceEqDiff, Nat.reduceAdd, Int.reduceToNat, hc_1911, hc_1911.2, lt_le hc_1911.2, hc_1912, hc_1912.2, lt_le hc_1912.2]
        refine run_ret ?_
        refine blockK_r ?_
        refine thenK_r ?_
        refine lpK_r ?_
        replace h := bind_some1 h; obtain ⟨z_1915, h, e_z_1915⟩ := h
        obtain rfl := Option.some.inj e_z_1915
        have ex_z_1915 := hxx_1904 _ rfl
        subst ex_z_1915
        obtain rfl := Option.some.inj hj_1902
        refine blockK_r ?_
        refine joinK_r ?_
        replace h := bind_some1 h; obtain ⟨z_1914, h, e_z_1914⟩ := h
        obtain rfl := Option.some.inj e_z_1914
        obtain rfl := Option.some.inj hj_1876
        obtain rfl := Option.some.inj h
        refine ret_ok (.inr rfl) ?_
        simp only [go_sem, reduceIte, Nat.reduceLT, Nat.reduceEqDiff, Nat.reduceAdd]
      · replace h := ite_f h hb
        refine run_skip ?_
        refine blockK_n ?_
        refine thenK_n ?_
        refine run_textE0 hE wk_lp [0, 1, 5] (fr' := [(0, .sl false (L cU8 a_1833)), (1, .sl false (L cU8 b_1834)), (5, i64 ((w64 (i_1888 + 1))))]) (σ' := []) ⟨_, orcs_nil, ?_⟩ ?_
        · simp only [go_sem, reduceIte, Nat.reduceLT, Nat.reduceEqDiff, Nat.reduceAdd]
        obtain rfl := Option.some.inj h
        exact lpK_n ((w64 (i_1888 + 1))) rfl (weak_sel [] (by decide) rfl (by simp only [go_sem, reduceIte, Nat.reduceLT, Nat.reduceEqDiff, Nat.reduceAdd]) (by simp only [go_sem, reduceIte, Nat.reduceLT, Nat.reduceEqDiff, Nat.reduceAdd]))
    · replace h := ite_f h hb
      refine run_exit ?_
      refine thenK_x ?_
      obtain rfl := Option.some.inj h
      have ex_x_1900 := hxx_1904 _ rfl
      subst ex_x_1900
      have h := hj_1902; clear hj_1902
      refine lpK_x ?_
      refine blockK_x ?_
      obtain rfl := Option.some.inj h
      exact joinK_n (()) rfl ((weak_sel (l' := [(0, .sl false (L cU8 a_1833)), (1, .sl false (L cU8 b_1834))]) (σ' := []) [] (by decide) rfl (by simp only [go_sem, reduceIte, Nat.reduceLT, Nat.reduceEqDiff, Nat.reduceAdd]) (by simp only [go_sem, reduceIte, Nat.reduceLT, Nat.reduceEqDiff, Nat.reduceAdd])).trans (weak_sel [] (by decide) rfl (by simp only [go_sem, reduceIte, Nat.reduceLT, Nat.reduceEqDiff, Nat.reduceAdd]) (by simp only [go_sem, reduceIte, Nat.reduceLT, Nat.reduceEqDiff, Nat.reduceAdd])))
  rintro ⟨⟩ rfl
  have h := hj_1876; clear hj_1876
  replace h := bind_some1 h; obtain ⟨y_1916, hy_1917, h⟩ := h
  refine run_textE hE [4] (fr' := [(4, i64 y_1916)]) (σ' := []) ⟨_, orcs_ok (l := [(42, 30, [i64 ((a_1833.length : Int)), i64 ((b_1834.length : Int))], i64 y_1916)]) ⟨r01_Order_con  hy_1917, trivial⟩, ?_⟩ ?_
  · simp only [go_sem, reduceIte, Nat.reduceLT, Nat.reduceEqDiff, Nat.reduceAdd]
  refine run_ret ?_
  obtain rfl := Option.some.inj h
  refine ret_ok (.inr rfl) ?_
  simp only [go_sem, reduceIte, Nat.reduceLT, Nat.reduceEqDiff, Nat.reduceAdd]

theorem r01_SameBytes_con {a_1918 : List UInt8} {b_1919 : List UInt8} {r : Bool} (h : r01_SameBytes a_1918 b_1919 = some r) : Con B 18 [.sl false (L cU8 a_1918), .sl false (L cU8 b_1919)] [] (fun r' σ' => r' = .bool r ∧ σ' = []) := by
  refine con_walk (N := 9) (rs := [.tmp 4]) ok Try.func18 rfl (by decide +kernel) rfl rfl (Nat.le_of_ble_eq_true rfl) (fun F => ?_)
  have hE := ok.env F
  unfold r01_SameBytes at h
  show Run (B.env F) 0 _ ⟨asFr 9 [(0, .sl false (L cU8 a_1918)), (1, .sl false (L cU8 b_1919))], []⟩ _
  refine run_textE hE [0, 1] (fr' := [(0, .sl false (L cU8 a_1918)), (1, .sl false (L cU8 b_1919))]) (σ' := []) ⟨_, orcs_nil, ?_⟩ ?_
  · simp only [go_sem, reduceIte, Nat.reduceLT, Nat.reduceEqDiff, Nat.reduceAdd]
  replace h := bind_some1 h; obtain ⟨y_1920, hy_1921, h⟩ := h
  refine run_textE hE [4] (fr' := [(4, .bool ((y_1920 == 0)))]) (σ' := []) ⟨_, orcs_ok (l := [(7, 24, [.sl false (L cU8 a_1918), .sl false (L cU8 b_1919)], i64 y_1920)]) ⟨r01_OrderBytes_con  hy_1921, trivial⟩, ?_⟩ ?_
  · simp only [go_sem, reduceIte, Nat.reduceLT, Nat.reduceEqDiff, Nat.reduceAdd]
  refine run_ret ?_
  obtain rfl := Option.some.inj h
  refine ret_ok (.inr rfl) ?_
  simp only [go_sem, reduceIte, Nat.reduceLT, Nat.reduceEqDiff, Nat.reduceAdd]

end Go.Proofs.Ytihncddenjbecaa
