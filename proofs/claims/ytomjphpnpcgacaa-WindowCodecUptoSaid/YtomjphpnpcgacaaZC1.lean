/-
  The library and the walks, part 1.
-/
import Derived.Test.YtomjphpnpcgacaaProg
import Derived.Test.YtomjphpnpcgacaaR40
import Derived.KernelRfl
/-
  Types, and rules for the operations at them.
-/
namespace Go.Proofs.Ytomjphpnpcgacaa
open Go.Rv
set_option linter.unusedVariables false
set_option linter.unusedSimpArgs false
set_option maxRecDepth 20000

attribute [go_sem_proc] reduceIte Nat.reduceLT Nat.reduceEqDiff Nat.reduceAdd

noncomputable def B : Base := baseOwn Try.prog (fun _ => none) (fun f => [38, 41, 42, 43, 49, 50, 53, 59, 60, 61, 62, 64].contains f)
theorem ok : B.Ok := baseOwn_ok _ _ _
theorem own9 (F : Addr → Prop) : (B.env F).own 9 = false := rfl
attribute [go_sem] own9
theorem own10 (F : Addr → Prop) : (B.env F).own 10 = false := rfl
attribute [go_sem] own10
theorem own12 (F : Addr → Prop) : (B.env F).own 12 = false := rfl
attribute [go_sem] own12
theorem own14 (F : Addr → Prop) : (B.env F).own 14 = false := rfl
attribute [go_sem] own14
theorem own16 (F : Addr → Prop) : (B.env F).own 16 = false := rfl
attribute [go_sem] own16
theorem own20 (F : Addr → Prop) : (B.env F).own 20 = false := rfl
attribute [go_sem] own20
theorem own28 (F : Addr → Prop) : (B.env F).own 28 = false := rfl
attribute [go_sem] own28
theorem own29 (F : Addr → Prop) : (B.env F).own 29 = false := rfl
attribute [go_sem] own29
theorem own30 (F : Addr → Prop) : (B.env F).own 30 = false := rfl
attribute [go_sem] own30
theorem own31 (F : Addr → Prop) : (B.env F).own 31 = false := rfl
attribute [go_sem] own31
theorem own32 (F : Addr → Prop) : (B.env F).own 32 = false := rfl
attribute [go_sem] own32
theorem own33 (F : Addr → Prop) : (B.env F).own 33 = false := rfl
attribute [go_sem] own33
theorem own34 (F : Addr → Prop) : (B.env F).own 34 = false := rfl
attribute [go_sem] own34
theorem own35 (F : Addr → Prop) : (B.env F).own 35 = false := rfl
attribute [go_sem] own35
theorem own37 (F : Addr → Prop) : (B.env F).own 37 = false := rfl
attribute [go_sem] own37
theorem own38 (F : Addr → Prop) : (B.env F).own 38 = true := rfl
attribute [go_sem] own38
theorem own39 (F : Addr → Prop) : (B.env F).own 39 = false := rfl
attribute [go_sem] own39
theorem own41 (F : Addr → Prop) : (B.env F).own 41 = true := rfl
attribute [go_sem] own41
theorem own42 (F : Addr → Prop) : (B.env F).own 42 = true := rfl
attribute [go_sem] own42
theorem own43 (F : Addr → Prop) : (B.env F).own 43 = true := rfl
attribute [go_sem] own43
theorem own49 (F : Addr → Prop) : (B.env F).own 49 = true := rfl
attribute [go_sem] own49
theorem own50 (F : Addr → Prop) : (B.env F).own 50 = true := rfl
attribute [go_sem] own50
theorem own51 (F : Addr → Prop) : (B.env F).own 51 = false := rfl
attribute [go_sem] own51
theorem own52 (F : Addr → Prop) : (B.env F).own 52 = false := rfl
attribute [go_sem] own52
theorem own53 (F : Addr → Prop) : (B.env F).own 53 = true := rfl
attribute [go_sem] own53
theorem own54 (F : Addr → Prop) : (B.env F).own 54 = false := rfl
attribute [go_sem] own54
theorem own56 (F : Addr → Prop) : (B.env F).own 56 = false := rfl
attribute [go_sem] own56
theorem own57 (F : Addr → Prop) : (B.env F).own 57 = false := rfl
attribute [go_sem] own57
theorem own59 (F : Addr → Prop) : (B.env F).own 59 = true := rfl
attribute [go_sem] own59
theorem own60 (F : Addr → Prop) : (B.env F).own 60 = true := rfl
attribute [go_sem] own60
theorem own61 (F : Addr → Prop) : (B.env F).own 61 = true := rfl
attribute [go_sem] own61
theorem own62 (F : Addr → Prop) : (B.env F).own 62 = true := rfl
attribute [go_sem] own62
theorem own63 (F : Addr → Prop) : (B.env F).own 63 = false := rfl
attribute [go_sem] own63
theorem own64 (F : Addr → Prop) : (B.env F).own 64 = true := rfl
attribute [go_sem] own64
theorem own65 (F : Addr → Prop) : (B.env F).own 65 = false := rfl
attribute [go_sem] own65
theorem own66 (F : Addr → Prop) : (B.env F).own 66 = false := rfl
attribute [go_sem] own66
theorem own69 (F : Addr → Prop) : (B.env F).own 69 = false := rfl
attribute [go_sem] own69
theorem own70 (F : Addr → Prop) : (B.env F).own 70 = false := rfl
attribute [go_sem] own70
theorem own71 (F : Addr → Prop) : (B.env F).own 71 = false := rfl
attribute [go_sem] own71
theorem own72 (F : Addr → Prop) : (B.env F).own 72 = false := rfl
attribute [go_sem] own72
theorem mixed : Try.prog.follows .mixedOrders = true := by kernel_rfl

structure Api_Packet where
  Epoch : Int
  To : Int
  Seq : Int
  Ack : Int
  Data : List UInt8
  deriving DecidableEq, Inhabited
def cApi_Packet (x : Api_Packet) : List AV := [i64 x.Epoch, i64 x.To, i64 x.Seq, i64 x.Ack, .sl false (L cU8 x.Data)]
attribute [go_sem] cApi_Packet
structure Api_Peer where
  Epoch : Int
  Other : Int
  First : Int
  Queue : List (List UInt8)
  Next : Int
  Early : List Api_Packet
  SentAt : Int
  deriving DecidableEq, Inhabited
def cApi_Peer (x : Api_Peer) : List AV := [i64 x.Epoch, i64 x.Other, i64 x.First, .sl false (L (cSl cU8) x.Queue), i64 x.Next, .sl false (L cApi_Packet x.Early), i64 x.SentAt]
attribute [go_sem] cApi_Peer
structure Window_side where
  Peer : Api_Peer
  delivered : List (List UInt8)
  deriving DecidableEq, Inhabited
def cWindow_side (x : Window_side) : List AV := [i64 x.Peer.Epoch, i64 x.Peer.Other, i64 x.Peer.First, .sl false (L (cSl cU8) x.Peer.Queue), i64 x.Peer.Next, .sl false (L cApi_Packet x.Peer.Early), i64 x.Peer.SentAt, .sl false (L (cSl cU8) x.delivered)]
attribute [go_sem] cWindow_side
inductive Api_Value where
  | mk (Kind : Int) (N : Int) (B : List UInt8) (L : List Api_Value)
instance : Inhabited Api_Value := ⟨.mk default default default default⟩
def Api_Value.Kind (x : Api_Value) : Int := match x with
  | .mk a _ _ _ => a
theorem Api_Value_Kind {x0 : Int} {x1 : Int} {x2 : List UInt8} {x3 : List Api_Value} : (Api_Value.mk x0 x1 x2 x3).Kind = x0 := rfl
attribute [go_sem] Api_Value_Kind
def Api_Value.N (x : Api_Value) : Int := match x with
  | .mk _ a _ _ => a
theorem Api_Value_N {x0 : Int} {x1 : Int} {x2 : List UInt8} {x3 : List Api_Value} : (Api_Value.mk x0 x1 x2 x3).N = x1 := rfl
attribute [go_sem] Api_Value_N
def Api_Value.B (x : Api_Value) : List UInt8 := match x with
  | .mk _ _ a _ => a
theorem Api_Value_B {x0 : Int} {x1 : Int} {x2 : List UInt8} {x3 : List Api_Value} : (Api_Value.mk x0 x1 x2 x3).B = x2 := rfl
attribute [go_sem] Api_Value_B
def Api_Value.L (x : Api_Value) : List Api_Value := match x with
  | .mk _ _ _ a => a
theorem Api_Value_L {x0 : Int} {x1 : Int} {x2 : List UInt8} {x3 : List Api_Value} : (Api_Value.mk x0 x1 x2 x3).L = x3 := rfl
attribute [go_sem] Api_Value_L
noncomputable def cApi_Value (v : Api_Value) : List AV := Api_Value.rec (motive_1 := fun _ => List AV) (motive_2 := fun _ => List (List AV)) (fun Kind_ N_ B_ L_ ih3 => [i64 Kind_, i64 N_, .sl false (L cU8 B_), .sl false ih3]) [] (fun _ _ x l => x :: l) v
theorem cApi_Value_l (l : List Api_Value) : Api_Value.rec_1 (motive_1 := fun _ => List AV) (motive_2 := fun _ => List (List AV)) (fun Kind_ N_ B_ L_ ih3 => [i64 Kind_, i64 N_, .sl false (L cU8 B_), .sl false ih3]) [] (fun _ _ x l => x :: l) l = L cApi_Value l := by
  induction l with
  | nil => rfl
  | cons x l ih => exact congrArg (cApi_Value x :: ·) ih
theorem cApi_Value_eq (x : Api_Value) : cApi_Value x = [i64 x.Kind, i64 x.N, .sl false (L cU8 x.B), .sl false (L cApi_Value x.L)] := by
  cases x with
  | mk a0 a1 a2 a3 =>
    show [i64 a0, i64 a1, .sl false (L cU8 a2), .sl false (Api_Value.rec_1 (motive_1 := fun _ => List AV) (motive_2 := fun _ => List (List AV)) (fun Kind_ N_ B_ L_ ih3 => [i64 Kind_, i64 N_, .sl false (L cU8 B_), .sl false ih3]) [] (fun _ _ x l => x :: l) a3)] = _
    rw [cApi_Value_l]; rfl
attribute [go_sem] cApi_Value_eq
structure Codec_decoder where
  b : List UInt8
  deriving DecidableEq, Inhabited
def cCodec_decoder (x : Codec_decoder) : List AV := [.sl false (L cU8 x.b)]
attribute [go_sem] cCodec_decoder
theorem tt3 : tabOf Try.prog 3 = some ⟨.int .i64, 1, 8, [i64 0]⟩ := by kernel_rfl
theorem tb3 (F : Addr → Prop) : (B.env F).tab 3 = some ⟨.int .i64, 1, 8, [i64 0]⟩ := tt3
attribute [go_sem] tb3
theorem tt4 : tabOf Try.prog 4 = some ⟨.bool, 1, 1, [.bool false]⟩ := by kernel_rfl
theorem tb4 (F : Addr → Prop) : (B.env F).tab 4 = some ⟨.bool, 1, 1, [.bool false]⟩ := tt4
attribute [go_sem] tb4
theorem tt5 : tabOf Try.prog 5 = some ⟨.int .u8, 1, 1, [u8 ((0 : UInt8))]⟩ := by kernel_rfl
theorem tb5 (F : Addr → Prop) : (B.env F).tab 5 = some ⟨.int .u8, 1, 1, [u8 ((0 : UInt8))]⟩ := tt5
attribute [go_sem] tb5
theorem tt9 : tabOf Try.prog 9 = some ⟨.string, 1, 16, [.str (([] : List UInt8))]⟩ := by kernel_rfl
theorem tb9 (F : Addr → Prop) : (B.env F).tab 9 = some ⟨.string, 1, 16, [.str (([] : List UInt8))]⟩ := tt9
attribute [go_sem] tb9
theorem tt22 : tabOf Try.prog 22 = some ⟨.slice 26, 1, 24, [.sl true (L (cSl cU8) ([]))]⟩ := by kernel_rfl
theorem tb22 (F : Addr → Prop) : (B.env F).tab 22 = some ⟨.slice 26, 1, 24, [.sl true (L (cSl cU8) ([]))]⟩ := tt22
attribute [go_sem] tb22
theorem tt23 : tabOf Try.prog 23 = some ⟨.slice 39, 1, 24, [.sl true (L cApi_Packet ([]))]⟩ := by kernel_rfl
theorem tb23 (F : Addr → Prop) : (B.env F).tab 23 = some ⟨.slice 39, 1, 24, [.sl true (L cApi_Packet ([]))]⟩ := tt23
attribute [go_sem] tb23
theorem tt25 : tabOf Try.prog 25 = some ⟨.struct #[⟨"Epoch", 3, 0, false, "", "", 0⟩, ⟨"Other", 3, 1, false, "", "", 8⟩, ⟨"First", 3, 2, false, "", "", 16⟩, ⟨"Queue", 22, 3, false, "", "", 24⟩, ⟨"Next", 3, 4, false, "", "", 48⟩, ⟨"Early", 23, 5, false, "", "", 56⟩, ⟨"SentAt", 3, 6, false, "", "", 80⟩], 7, 88, [i64 0, i64 0, i64 0, .sl true (L (cSl cU8) ([])), i64 0, .sl true (L cApi_Packet ([])), i64 0]⟩ := by kernel_rfl
theorem tb25 (F : Addr → Prop) : (B.env F).tab 25 = some ⟨.struct #[⟨"Epoch", 3, 0, false, "", "", 0⟩, ⟨"Other", 3, 1, false, "", "", 8⟩, ⟨"First", 3, 2, false, "", "", 16⟩, ⟨"Queue", 22, 3, false, "", "", 24⟩, ⟨"Next", 3, 4, false, "", "", 48⟩, ⟨"Early", 23, 5, false, "", "", 56⟩, ⟨"SentAt", 3, 6, false, "", "", 80⟩], 7, 88, [i64 0, i64 0, i64 0, .sl true (L (cSl cU8) ([])), i64 0, .sl true (L cApi_Packet ([])), i64 0]⟩ := tt25
attribute [go_sem] tb25
theorem tt26 : tabOf Try.prog 26 = some ⟨.slice 5, 1, 24, [.sl true (L cU8 ([]))]⟩ := by kernel_rfl
theorem tb26 (F : Addr → Prop) : (B.env F).tab 26 = some ⟨.slice 5, 1, 24, [.sl true (L cU8 ([]))]⟩ := tt26
attribute [go_sem] tb26
theorem tt29 : tabOf Try.prog 29 = some ⟨.int .i64, 1, 8, [i64 0]⟩ := by kernel_rfl
theorem tb29 (F : Addr → Prop) : (B.env F).tab 29 = some ⟨.int .i64, 1, 8, [i64 0]⟩ := tt29
attribute [go_sem] tb29
theorem tt39 : tabOf Try.prog 39 = some ⟨.struct #[⟨"Epoch", 3, 0, false, "", "", 0⟩, ⟨"To", 3, 1, false, "", "", 8⟩, ⟨"Seq", 3, 2, false, "", "", 16⟩, ⟨"Ack", 3, 3, false, "", "", 24⟩, ⟨"Data", 26, 4, false, "", "", 32⟩], 5, 56, [i64 0, i64 0, i64 0, i64 0, .sl true (L cU8 ([]))]⟩ := by kernel_rfl
theorem tb39 (F : Addr → Prop) : (B.env F).tab 39 = some ⟨.struct #[⟨"Epoch", 3, 0, false, "", "", 0⟩, ⟨"To", 3, 1, false, "", "", 8⟩, ⟨"Seq", 3, 2, false, "", "", 16⟩, ⟨"Ack", 3, 3, false, "", "", 24⟩, ⟨"Data", 26, 4, false, "", "", 32⟩], 5, 56, [i64 0, i64 0, i64 0, i64 0, .sl true (L cU8 ([]))]⟩ := tt39
attribute [go_sem] tb39
theorem tt58 : tabOf Try.prog 58 = some ⟨.slice 3, 1, 24, [.sl true (L cI64 ([]))]⟩ := by kernel_rfl
theorem tb58 (F : Addr → Prop) : (B.env F).tab 58 = some ⟨.slice 3, 1, 24, [.sl true (L cI64 ([]))]⟩ := tt58
attribute [go_sem] tb58
theorem tt61 : tabOf Try.prog 61 = some ⟨.slice 63, 1, 24, [.sl true (L cApi_Value ([]))]⟩ := by kernel_rfl
theorem tb61 (F : Addr → Prop) : (B.env F).tab 61 = some ⟨.slice 63, 1, 24, [.sl true (L cApi_Value ([]))]⟩ := tt61
attribute [go_sem] tb61
theorem tt63 : tabOf Try.prog 63 = some ⟨.struct #[⟨"Kind", 3, 0, false, "", "", 0⟩, ⟨"N", 3, 1, false, "", "", 8⟩, ⟨"B", 26, 2, false, "", "", 16⟩, ⟨"L", 61, 3, false, "", "", 40⟩], 4, 64, [i64 0, i64 0, .sl true (L cU8 ([])), .sl true (L cApi_Value ([]))]⟩ := by kernel_rfl
theorem tb63 (F : Addr → Prop) : (B.env F).tab 63 = some ⟨.struct #[⟨"Kind", 3, 0, false, "", "", 0⟩, ⟨"N", 3, 1, false, "", "", 8⟩, ⟨"B", 26, 2, false, "", "", 16⟩, ⟨"L", 61, 3, false, "", "", 40⟩], 4, 64, [i64 0, i64 0, .sl true (L cU8 ([])), .sl true (L cApi_Value ([]))]⟩ := tt63
attribute [go_sem] tb63
theorem tt79 : tabOf Try.prog 79 = some ⟨.struct #[⟨"Peer", 25, 0, true, "", "", 0⟩, ⟨"delivered", 22, 7, false, "", "wagonpool/window", 88⟩], 8, 112, [i64 0, i64 0, i64 0, .sl true (L (cSl cU8) ([])), i64 0, .sl true (L cApi_Packet ([])), i64 0, .sl true (L (cSl cU8) ([]))]⟩ := by kernel_rfl
theorem tb79 (F : Addr → Prop) : (B.env F).tab 79 = some ⟨.struct #[⟨"Peer", 25, 0, true, "", "", 0⟩, ⟨"delivered", 22, 7, false, "", "wagonpool/window", 88⟩], 8, 112, [i64 0, i64 0, i64 0, .sl true (L (cSl cU8) ([])), i64 0, .sl true (L cApi_Packet ([])), i64 0, .sl true (L (cSl cU8) ([]))]⟩ := tt79
attribute [go_sem] tb79
theorem tt80 : tabOf Try.prog 80 = some ⟨.func #[39] #[] false, 1, 8, [.val .nilFunc]⟩ := by kernel_rfl
theorem tb80 (F : Addr → Prop) : (B.env F).tab 80 = some ⟨.func #[39] #[] false, 1, 8, [.val .nilFunc]⟩ := tt80
attribute [go_sem] tb80
theorem tt81 : tabOf Try.prog 81 = some ⟨.slice 80, 1, 24, [.sl true []]⟩ := by kernel_rfl
theorem tb81 (F : Addr → Prop) : (B.env F).tab 81 = some ⟨.slice 80, 1, 24, [.sl true []]⟩ := tt81
attribute [go_sem] tb81
theorem tt86 : tabOf Try.prog 86 = some ⟨.int .u64, 1, 8, [u64 ((0 : UInt64))]⟩ := by kernel_rfl
theorem tb86 (F : Addr → Prop) : (B.env F).tab 86 = some ⟨.int .u64, 1, 8, [u64 ((0 : UInt64))]⟩ := tt86
attribute [go_sem] tb86
theorem tt87 : tabOf Try.prog 87 = some ⟨.int .i64, 1, 8, [i64 0]⟩ := by kernel_rfl
theorem tb87 (F : Addr → Prop) : (B.env F).tab 87 = some ⟨.int .i64, 1, 8, [i64 0]⟩ := tt87
attribute [go_sem] tb87
theorem tt91 : tabOf Try.prog 91 = some ⟨.struct #[⟨"b", 26, 0, false, "", "wagonpool/codec", 0⟩], 1, 24, [.sl true (L cU8 ([]))]⟩ := by kernel_rfl
theorem tb91 (F : Addr → Prop) : (B.env F).tab 91 = some ⟨.struct #[⟨"b", 26, 0, false, "", "wagonpool/codec", 0⟩], 1, 24, [.sl true (L cU8 ([]))]⟩ := tt91
attribute [go_sem] tb91
theorem tt99 : tabOf Try.prog 99 = some ⟨.func #[39, 3] #[3] false, 1, 8, [.val .nilFunc]⟩ := by kernel_rfl
theorem tb99 (F : Addr → Prop) : (B.env F).tab 99 = some ⟨.func #[39, 3] #[3] false, 1, 8, [.val .nilFunc]⟩ := tt99
attribute [go_sem] tb99
theorem tt109 : tabOf Try.prog 109 = some ⟨.int .u64, 1, 8, [u64 ((0 : UInt64))]⟩ := by kernel_rfl
theorem tb109 (F : Addr → Prop) : (B.env F).tab 109 = some ⟨.int .u64, 1, 8, [u64 ((0 : UInt64))]⟩ := tt109
attribute [go_sem] tb109
theorem ku64x0 : AV.int .u64 0 = u64 0 := rfl
attribute [go_sem] ku64x0
theorem ku64x1 : AV.int .u64 1 = u64 1 := rfl
attribute [go_sem] ku64x1
theorem ku64x8 : AV.int .u64 8 = u64 8 := rfl
attribute [go_sem] ku64x8
theorem ku8x0 : AV.int .u8 0 = u8 0 := rfl
attribute [go_sem] ku8x0
theorem ku8x23 : AV.int .u8 23 = u8 23 := rfl
attribute [go_sem] ku8x23
theorem ku8x31 : AV.int .u8 31 = u8 31 := rfl
attribute [go_sem] ku8x31
theorem ku8x32 : AV.int .u8 32 = u8 32 := rfl
attribute [go_sem] ku8x32
theorem ku8x40 : AV.int .u8 40 = u8 40 := rfl
attribute [go_sem] ku8x40
theorem ku8x48 : AV.int .u8 48 = u8 48 := rfl
attribute [go_sem] ku8x48
theorem ku8x64 : AV.int .u8 64 = u8 64 := rfl
attribute [go_sem] ku8x64
theorem ku8x120 : AV.int .u8 120 = u8 120 := rfl
attribute [go_sem] ku8x120
theorem ku8x127 : AV.int .u8 127 = u8 127 := rfl
attribute [go_sem] ku8x127
theorem ku8x255 : AV.int .u8 255 = u8 255 := rfl
attribute [go_sem] ku8x255
theorem ixsl22 {F} {σ : Store} (f : Bool) (l : List (List UInt8)) (x : AV) : indexAddrA (B.env F) σ 22 (.sl f (L (cSl cU8) l)) x = match idx x l.length with
    | some i => some (.rp ((cSl cU8) (nth l i)))
    | none => none := ixA_sl (cSl cU8) (tb22 F) (tb26 F) (fun _ => rfl) f l x
attribute [go_sem] ixsl22
theorem ixsl23 {F} {σ : Store} (f : Bool) (l : List Api_Packet) (x : AV) : indexAddrA (B.env F) σ 23 (.sl f (L cApi_Packet l)) x = match idx x l.length with
    | some i => some (.rp (cApi_Packet (nth l i)))
    | none => none := ixA_sl cApi_Packet (tb23 F) (tb39 F) (fun _ => rfl) f l x
attribute [go_sem] ixsl23
theorem mks26 {F} {σ : Store} (l c : Int) : makeSliceA (B.env F) σ 26 (i64 l) (i64 c) = if Mk l c 1 then some (.bs (l == c) σ.length l.toNat 0 l.toNat, σ ++ [.buf 1 (List.replicate l.toNat [u8 ((0 : UInt8))]) false]) else none := make_eq (tb26 F) (tb5 F) (by decide) l c
attribute [go_sem] mks26
theorem app22x22 {F} {σ : Store} (s x : AV) : builtinA (B.env F) σ .append [22, 22] [s, x] = match view σ x with
      | some new => if strBad x 1 = true then none else if ∀ cs ∈ new, cs.length = 1 then (match s with
          | .sl full els =>
            if els = [] ∧ full = true then
              if Fits new.length 24 then some (.bs false σ.length new.length 0 new.length, σ ++ [.buf 1 new false]) else none
            else if new = [] then some (.sl full els, σ)
            else if full = true ∧ (∀ cs ∈ els, cs.length = 1) ∧ Fits (els.length + new.length) 24
            then some (.bs false σ.length (els.length + new.length) 0 (els.length + new.length), σ ++ [.buf 1 (els ++ new) false]) else none
          | .bs full id tot off len => match σ[id]? with
            | some (.buf k els ro) =>
              if els.length = tot ∧ k = 1 ∧ Fits (len + new.length) 24 then
                if off = 0 ∧ len = tot then some (.bs false id (tot + new.length) 0 (tot + new.length), σ.set id (.buf k (els ++ new) ro))
                else if new = [] then some (.bs full id tot off len, σ)
                else if full then some (.bs false σ.length (len + new.length) 0 (len + new.length), σ ++ [.buf k ((els.drop off).take len ++ new) false])
                else none
              else none
            | _ => none
          | _ => none)
        else none
      | none => none := append_eq (tb22 F) (tb26 F) (by decide) (tb22 F) (.inl ⟨_, rfl⟩) s x []
attribute [go_sem] app22x22
theorem app23x23 {F} {σ : Store} (s x : AV) : builtinA (B.env F) σ .append [23, 23] [s, x] = match view σ x with
      | some new => if strBad x 5 = true then none else if ∀ cs ∈ new, cs.length = 5 then (match s with
          | .sl full els =>
            if els = [] ∧ full = true then
              if Fits new.length 56 then some (.bs false σ.length new.length 0 new.length, σ ++ [.buf 5 new false]) else none
            else if new = [] then some (.sl full els, σ)
            else if full = true ∧ (∀ cs ∈ els, cs.length = 5) ∧ Fits (els.length + new.length) 56
            then some (.bs false σ.length (els.length + new.length) 0 (els.length + new.length), σ ++ [.buf 5 (els ++ new) false]) else none
          | .bs full id tot off len => match σ[id]? with
            | some (.buf k els ro) =>
              if els.length = tot ∧ k = 5 ∧ Fits (len + new.length) 56 then
                if off = 0 ∧ len = tot then some (.bs false id (tot + new.length) 0 (tot + new.length), σ.set id (.buf k (els ++ new) ro))
                else if new = [] then some (.bs full id tot off len, σ)
                else if full then some (.bs false σ.length (len + new.length) 0 (len + new.length), σ ++ [.buf k ((els.drop off).take len ++ new) false])
                else none
              else none
            | _ => none
          | _ => none)
        else none
      | none => none := append_eq (tb23 F) (tb39 F) (by decide) (tb23 F) (.inl ⟨_, rfl⟩) s x []
attribute [go_sem] app23x23
theorem ixbs81 {F} {σ : Store} (f : Bool) (id tot off len : Nat) (x : AV) : indexAddrA (B.env F) σ 81 (.bs f id tot off len) x = match σ[id]?, idx x len with
    | some (.buf k els _), some i => if els.length = tot ∧ k = 1 then some (.eref id tot (off + i) 0) else none
    | _, _ => none := ixA_bs (tb81 F) (tb80 F) (by decide) f id tot off len x
attribute [go_sem] ixbs81
theorem app26x26 {F} {σ : Store} (s x : AV) : builtinA (B.env F) σ .append [26, 26] [s, x] = match view σ x with
      | some new => if strBad x 1 = true then none else if ∀ cs ∈ new, cs.length = 1 then (match s with
          | .sl full els =>
            if els = [] ∧ full = true then
              if Fits new.length 1 then some (.bs false σ.length new.length 0 new.length, σ ++ [.buf 1 new false]) else none
            else if new = [] then some (.sl full els, σ)
            else if full = true ∧ (∀ cs ∈ els, cs.length = 1) ∧ Fits (els.length + new.length) 1
            then some (.bs false σ.length (els.length + new.length) 0 (els.length + new.length), σ ++ [.buf 1 (els ++ new) false]) else none
          | .bs full id tot off len => match σ[id]? with
            | some (.buf k els ro) =>
              if els.length = tot ∧ k = 1 ∧ Fits (len + new.length) 1 then
                if off = 0 ∧ len = tot then some (.bs false id (tot + new.length) 0 (tot + new.length), σ.set id (.buf k (els ++ new) ro))
                else if new = [] then some (.bs full id tot off len, σ)
                else if full then some (.bs false σ.length (len + new.length) 0 (len + new.length), σ ++ [.buf k ((els.drop off).take len ++ new) false])
                else none
              else none
            | _ => none
          | _ => none)
        else none
      | none => none := append_eq (tb26 F) (tb5 F) (by decide) (tb26 F) (.inl ⟨_, rfl⟩) s x []
attribute [go_sem] app26x26
theorem ixsl61 {F} {σ : Store} (f : Bool) (l : List Api_Value) (x : AV) : indexAddrA (B.env F) σ 61 (.sl f (L cApi_Value l)) x = match idx x l.length with
    | some i => some (.rp (cApi_Value (nth l i)))
    | none => none := ixA_sl cApi_Value (tb61 F) (tb63 F) (fun y => by rw [cApi_Value_eq]; rfl) f l x
attribute [go_sem] ixsl61
theorem ixsl26 {F} {σ : Store} (f : Bool) (l : List UInt8) (x : AV) : indexAddrA (B.env F) σ 26 (.sl f (L cU8 l)) x = match idx x l.length with
    | some i => some (.rp (cU8 (nth l i)))
    | none => none := ixA_sl cU8 (tb26 F) (tb5 F) (fun _ => rfl) f l x
attribute [go_sem] ixsl26
theorem app61x61 {F} {σ : Store} (s x : AV) : builtinA (B.env F) σ .append [61, 61] [s, x] = match view σ x with
      | some new => if strBad x 4 = true then none else if ∀ cs ∈ new, cs.length = 4 then (match s with
          | .sl full els =>
            if els = [] ∧ full = true then
              if Fits new.length 64 then some (.bs false σ.length new.length 0 new.length, σ ++ [.buf 4 new false]) else none
            else if new = [] then some (.sl full els, σ)
            else if full = true ∧ (∀ cs ∈ els, cs.length = 4) ∧ Fits (els.length + new.length) 64
            then some (.bs false σ.length (els.length + new.length) 0 (els.length + new.length), σ ++ [.buf 4 (els ++ new) false]) else none
          | .bs full id tot off len => match σ[id]? with
            | some (.buf k els ro) =>
              if els.length = tot ∧ k = 4 ∧ Fits (len + new.length) 64 then
                if off = 0 ∧ len = tot then some (.bs false id (tot + new.length) 0 (tot + new.length), σ.set id (.buf k (els ++ new) ro))
                else if new = [] then some (.bs full id tot off len, σ)
                else if full then some (.bs false σ.length (len + new.length) 0 (len + new.length), σ ++ [.buf k ((els.drop off).take len ++ new) false])
                else none
              else none
            | _ => none
          | _ => none)
        else none
      | none => none := append_eq (tb61 F) (tb63 F) (by decide) (tb61 F) (.inl ⟨_, rfl⟩) s x []
attribute [go_sem] app61x61
theorem bbneq4 {F} (x y : Bool) : binOpA (B.env F) .neq 4 (.bool x) (.bool y) = some (.bool (!(x == y))) := bin_bool_neq (tb4 F) x y
attribute [go_sem] bbneq4
theorem ixbs58 {F} {σ : Store} (f : Bool) (id tot off len : Nat) (x : AV) : indexAddrA (B.env F) σ 58 (.bs f id tot off len) x = match σ[id]?, idx x len with
    | some (.buf k els _), some i => if els.length = tot ∧ k = 1 then some (.eref id tot (off + i) 0) else none
    | _, _ => none := ixA_bs (tb58 F) (tb3 F) (by decide) f id tot off len x
attribute [go_sem] ixbs58
end Go.Proofs.Ytomjphpnpcgacaa
/-
  What the functions compute, as plain programs.
-/
namespace Go.Proofs.Ytomjphpnpcgacaa
open Go.Rv
set_option linter.unusedVariables false
set_option linter.unusedSimpArgs false
set_option maxRecDepth 20000

def window_between (n_1 : Int) (lo_2 : Int) (hi_3 : Int) : Option (Bool) :=
  (if (decide (n_1 ≥ lo_2)) = true then
    some ((decide (n_1 ≤ hi_3)))
  else
    some false : Option (Bool)).bind fun t_4 =>
  some t_4

def window_valid_b1 (p_7 : Api_Peer) (t_48 : Int) : Option ((Int) ⊕ ((Unit) ⊕ ((Unit) ⊕ (Bool)))) :=
  if (decide (t_48 < (p_7.Queue.length : Int))) = true then
    if InR t_48 p_7.Queue.length then
      if (decide (((nth p_7.Queue t_48.toNat).length : Int) > 8000)) = true then
        ((some false).bind fun z_58 => some (.inr z_58)).bind fun z_59 => some (.inr (.inr z_59))
      else
        some (.inl ((w64 (t_48 + 1))))
    else none
  else
    some (.inr (.inl (())))
def window_valid_b2 (p_7 : Api_Peer) (last_130 : Int) (t_131 : Int) : Option ((Int × Int) ⊕ ((Unit) ⊕ ((Unit) ⊕ (Bool)))) :=
  if (decide (t_131 < (p_7.Early.length : Int))) = true then
    if InR t_131 p_7.Early.length then
      lt1 ((nth p_7.Early t_131.toNat).Epoch) fun (f_158 : Int) =>
      lt1 ((nth p_7.Early t_131.toNat).To) fun (f_159 : Int) =>
      lt1 ((nth p_7.Early t_131.toNat).Seq) fun (f_160 : Int) =>
      lt1 ((nth p_7.Early t_131.toNat).Ack) fun (f_161 : Int) =>
      lt1 ((nth p_7.Early t_131.toNat).Data) fun (f_162 : List UInt8) =>
      (if (decide (f_160 ≤ last_130)) = true then
        some true
      else
        if (decide (f_160 ≥ (mn64 ((w64 (p_7.Next + 64))) 1099511627776))) = true then
          some true
        else
          if (decide ((f_162.length : Int) > 8000)) = true then
            some true
          else
            if (f_158 != 0) = true then
              some true
            else
              if (f_159 != 0) = true then
                some true
              else
                some ((f_161 != 0)) : Option (Bool)).bind fun t_168 =>
      if t_168 = true then
        ((some false).bind fun z_175 => some (.inr z_175)).bind fun z_176 => some (.inr (.inr z_176))
      else
        some (.inl ((f_160, (w64 (t_131 + 1)))))
    else none
  else
    some (.inr (.inl (())))
def window_valid (p_7 : Api_Peer) : Option (Bool) :=
  ((window_between p_7.Epoch 0 1073741824).bind fun y_8 =>
  if (!y_8) = true then
    some true
  else
    (window_between p_7.Other ((-1)) 1073741824).bind fun y_9 =>
    if (!y_9) = true then
      some true
    else
      (window_between p_7.SentAt ((-1)) 1073741824).bind fun y_10 =>
      some ((!y_10)) : Option (Bool)).bind fun t_11 =>
  if t_11 = true then
    some false
  else
    ((window_between p_7.First 0 1099511627776).bind fun y_18 =>
    if (!y_18) = true then
      some true
    else
      (window_between p_7.Next 0 1099511627776).bind fun y_19 =>
      if (!y_19) = true then
        some true
      else
        if (decide ((p_7.Queue.length : Int) > 256)) = true then
          some true
        else
          some ((decide ((w64 (p_7.First + (p_7.Queue.length : Int))) > 1099511627776))) : Option (Bool)).bind fun t_20 =>
    if t_20 = true then
      some false
    else
      ((loopO (fun (v : Int) => window_valid_b1 p_7 v) 0).bind fun x => match x with
      | .inl () =>
        some (.inl (()))
      | .inr z => some z : Option ((Unit) ⊕ (Bool))).bind fun x => match x with
      | .inl () =>
        ((loopO (fun (v : Int × Int) => window_valid_b2 p_7 v.1 v.2) ((p_7.Next, 0))).bind fun x => match x with
        | .inl () =>
          some (.inl (()))
        | .inr z => some z : Option ((Unit) ⊕ (Bool))).bind fun x => match x with
        | .inl () =>
          some true
        | .inr z => some z
      | .inr z => some z

def window_New (epoch_177 : Int) : Option (Api_Peer × Int) :=
  (window_between epoch_177 0 1073741824).bind fun y_178 =>
  if (!y_178) = true then
    some ((({ Epoch := 0, Other := 0, First := 0, Queue := [], Next := 0, Early := [], SentAt := 0 } : Api_Peer), 1))
  else
    some ((({ Epoch := epoch_177, Other := (-1), First := 0, Queue := [], Next := 0, Early := [], SentAt := (-1) } : Api_Peer), 0))

def window_own (b_180 : List UInt8) : Option (List UInt8) :=
  if Mk ((b_180.length : Int)) ((b_180.length : Int)) 1 then
    lt1 ((List.replicate (((b_180.length : Int)).toNat) ((0 : UInt8)))) fun (l_182 : List UInt8) =>
    lt1 ((ovl l_182 (b_180.take (min b_180.length l_182.length)) 0)) fun (l_184 : List UInt8) =>
    some l_184
  else none

def slices_Clone_38 (s_186 : List (List UInt8)) : Option (List (List UInt8)) :=
  if Fits (0 + s_186.length) 24 then
    lt1 (((([] : List (List UInt8))) ++ s_186)) fun (l_193 : List (List UInt8)) =>
    some l_193
  else none

def slices_Clone_59 (s_195 : List Api_Packet) : Option (List Api_Packet) :=
  if Fits (0 + s_195.length) 56 then
    lt1 (((([] : List Api_Packet)) ++ s_195)) fun (l_202 : List Api_Packet) =>
    some l_202
  else none

def window_Offer (p_204 : Api_Peer) (data_205 : List UInt8) : Option (Api_Peer × Int) :=
  (window_valid p_204).bind fun y_206 =>
  if (!y_206) = true then
    some ((({ Epoch := 0, Other := 0, First := 0, Queue := [], Next := 0, Early := [], SentAt := 0 } : Api_Peer), 1))
  else
    if (decide ((data_205.length : Int) > 8000)) = true then
      some ((({ Epoch := 0, Other := 0, First := 0, Queue := [], Next := 0, Early := [], SentAt := 0 } : Api_Peer), 2))
    else
      (if ((p_204.Queue.length : Int) == 256) = true then
        some true
      else
        some (((w64 (p_204.First + (p_204.Queue.length : Int))) == 1099511627776)) : Option (Bool)).bind fun t_208 =>
      if t_208 = true then
        some ((({ Epoch := 0, Other := 0, First := 0, Queue := [], Next := 0, Early := [], SentAt := 0 } : Api_Peer), 120))
      else
        (slices_Clone_38 p_204.Queue).bind fun y_211 =>
        (window_own data_205).bind fun y_212 =>
        if Fits (y_211.length + 1) 24 then
          lt1 ((y_211 ++ (([y_212] : List (List UInt8))))) fun (l_216 : List (List UInt8)) =>
          some ((({ Epoch := p_204.Epoch, Other := p_204.Other, First := p_204.First, Queue := l_216, Next := p_204.Next, Early := p_204.Early, SentAt := p_204.SentAt } : Api_Peer), 0))
        else none

def window_Emit_b1 (p_218 : Api_Peer) (t_276 : List (List UInt8)) (t_277 : Int) (t_286 : Int) (l_287 : List Api_Packet) : Option ((Int × List Api_Packet) ⊕ (List Api_Packet)) :=
  if (decide (t_286 < t_277)) = true then
    if InR t_286 t_276.length then
      (window_own (nth t_276 t_286.toNat)).bind fun y_303 =>
      lt1 ((w64 (p_218.First + t_286))) fun (f_305 : Int) =>
      if Fits (l_287.length + 1) 56 then
        lt1 ((l_287 ++ (([({ Epoch := p_218.Epoch, To := p_218.Other, Seq := f_305, Ack := p_218.Next, Data := y_303 } : Api_Packet)] : List Api_Packet)))) fun (l_308 : List Api_Packet) =>
        some (.inl (((w64 (t_286 + 1)), l_308)))
      else none
    else none
  else
    some (.inr l_287)
def window_Emit (p_218 : Api_Peer) (now_219 : Int) : Option (Api_Peer × List Api_Packet) :=
  ((window_valid p_218).bind fun y_220 =>
  if (!y_220) = true then
    some true
  else
    (window_between now_219 0 1073741824).bind fun y_221 =>
    some ((!y_221)) : Option (Bool)).bind fun t_222 =>
  if t_222 = true then
    some ((p_218, []))
  else
    (if (decide (p_218.SentAt < 0)) = true then
      some true
    else
      if (decide (p_218.SentAt > now_219)) = true then
        some true
      else
        some ((decide ((w64 (now_219 - p_218.SentAt)) ≥ 10))) : Option (Bool)).bind fun due_227 =>
    (if ((p_218.Queue.length : Int) == 0) = true then
      some true
    else
      some ((!due_227)) : Option (Bool)).bind fun t_231 =>
    if t_231 = true then
      lt1 (([({ Epoch := p_218.Epoch, To := p_218.Other, Seq := (-1), Ack := p_218.Next, Data := [] } : Api_Packet)] : List Api_Packet)) fun (l_234 : List Api_Packet) =>
      some ((p_218, l_234))
    else
      (if InB ((mn64 16 ((p_218.Queue.length : Int)))) p_218.Queue.length then
        lt1 ((p_218.Queue.take (((mn64 16 ((p_218.Queue.length : Int)))).toNat))) fun (t_276 : List (List UInt8)) =>
        lt1 ((((p_218.Queue.take (((mn64 16 ((p_218.Queue.length : Int)))).toNat))).length : Int)) fun (t_277 : Int) =>
        (loopO (fun (v : Int × List Api_Packet) => window_Emit_b1 p_218 t_276 t_277 v.1 v.2) ((0, []))).bind fun l_296 =>
        some l_296
      else none : Option (List Api_Packet)).bind fun l_271 =>
      some ((({ Epoch := p_218.Epoch, Other := p_218.Other, First := p_218.First, Queue := p_218.Queue, Next := p_218.Next, Early := p_218.Early, SentAt := now_219 } : Api_Peer), l_271))

def r12_SamePacket (a_310 : Api_Packet) (b_311 : Api_Packet) : Option (Bool) :=
  (if (a_310.Epoch == b_311.Epoch) = true then
    if (a_310.To == b_311.To) = true then
      if (a_310.Seq == b_311.Seq) = true then
        if (a_310.Ack == b_311.Ack) = true then
          some ((a_310.Data == b_311.Data))
        else
          some false
      else
        some false
    else
      some false
  else
    some false : Option (Bool)).bind fun t_312 =>
  some t_312

def window_side_keep_1 (e_318 : Api_Packet) (seq_319 : Int) : Option (Int) :=
  some ((w64 (e_318.Seq - seq_319)))

def slices_BinarySearchFunc_56_b1 (x_320 : List Api_Packet) (target_321 : Int) (cmp_322 : Api_Packet → Int → Option (Int)) (i_355 : Int) (j_356 : Int) : Option ((Int × Int) ⊕ (Int)) :=
  if (decide (i_355 < j_356)) = true then
    lt1 ((w64 (((shr64 ((UInt64.ofInt ((w64 (i_355 + j_356))))) ((1 : UInt64)).toNat)).toNat : Int))) fun (h_368 : Int) =>
    if InR h_368 x_320.length then
      (cmp_322 (nth x_320 h_368.toNat) target_321).bind fun y_370 =>
      if (decide (y_370 < 0)) = true then
        some (.inl (((w64 (h_368 + 1)), j_356)))
      else
        some (.inl ((i_355, h_368)))
    else none
  else
    some (.inr i_355)
def slices_BinarySearchFunc_56 (x_320 : List Api_Packet) (target_321 : Int) (cmp_322 : Api_Packet → Int → Option (Int)) : Option (Int × Bool) :=
  ((loopO (fun (v : Int × Int) => slices_BinarySearchFunc_56_b1 x_320 target_321 cmp_322 v.1 v.2) ((0, (x_320.length : Int)))).bind fun i_362 =>
  some i_362 : Option (Int)).bind fun i_346 =>
  (if (decide (i_346 < (x_320.length : Int))) = true then
    if InR i_346 x_320.length then
      (cmp_322 (nth x_320 i_346.toNat) target_321).bind fun y_373 =>
      some ((y_373 == 0))
    else none
  else
    some false : Option (Bool)).bind fun t_374 =>
  some ((i_346, t_374))

def window_side_take (s_379 : Window_side) (data_380 : List UInt8) : Option (Window_side) :=
  (window_own data_380).bind fun y_388 =>
  if Fits (s_379.delivered.length + 1) 24 then
    lt1 ((s_379.delivered ++ (([y_388] : List (List UInt8))))) fun (l_391 : List (List UInt8)) =>
    lt1 ((w64 (s_379.Peer.Next + 1))) fun (f_393 : Int) =>
    some (({ Peer := ({ Epoch := s_379.Peer.Epoch, Other := s_379.Peer.Other, First := s_379.Peer.First, Queue := s_379.Peer.Queue, Next := f_393, Early := s_379.Peer.Early, SentAt := s_379.Peer.SentAt } : Api_Peer), delivered := l_391 } : Window_side))
  else none

def window_side_acknowledge (s_395 : Window_side) (k_396 : Api_Packet) : Option (Window_side) :=
  lt1 ((w64 (k_396.Ack - s_395.Peer.First))) fun (n_405 : Int) =>
  (if (decide (n_405 > 0)) = true then
    some ((decide (n_405 ≤ (s_395.Peer.Queue.length : Int))))
  else
    some false : Option (Bool)).bind fun t_407 =>
  if t_407 = true then
    if InB n_405 s_395.Peer.Queue.length then
      lt1 (((s_395.Peer.Queue.drop n_405.toNat).take (s_395.Peer.Queue.length - n_405.toNat))) fun (f_411 : List (List UInt8)) =>
      some (({ Peer := ({ Epoch := s_395.Peer.Epoch, Other := s_395.Peer.Other, First := k_396.Ack, Queue := f_411, Next := s_395.Peer.Next, Early := s_395.Peer.Early, SentAt := (-1) } : Api_Peer), delivered := s_395.delivered } : Window_side))
    else none
  else
    some (({ Peer := s_395.Peer, delivered := s_395.delivered } : Window_side))

def window_side_deliver_b1 (f_492 : Int) (f_493 : Int) (f_494 : Int) (f_495 : List (List UInt8)) (f_496 : Int) (f_497 : List Api_Packet) (f_498 : Int) (l_499 : List (List UInt8)) : Option ((Int × Int × Int × List (List UInt8) × Int × List Api_Packet × Int × List (List UInt8)) ⊕ (Int × Int × Int × List (List UInt8) × Int × List Api_Packet × Int × List (List UInt8))) :=
  (if (decide ((f_497.length : Int) > 0)) = true then
    if InR 0 f_497.length then
      some (((nth f_497 0).Seq == f_496))
    else none
  else
    some false : Option (Bool)).bind fun t_525 =>
  if t_525 = true then
    if InR 0 f_497.length then
      (window_side_take (({ Peer := ({ Epoch := f_492, Other := f_493, First := f_494, Queue := f_495, Next := f_496, Early := f_497, SentAt := f_498 } : Api_Peer), delivered := l_499 } : Window_side)) ((nth f_497 0).Data)).bind fun y_529 =>
      lt1 y_529.delivered fun (l_532 : List (List UInt8)) =>
      if InB 1 y_529.Peer.Early.length then
        lt1 (((y_529.Peer.Early.drop 1).take (y_529.Peer.Early.length - 1))) fun (f_535 : List Api_Packet) =>
        some (.inl ((y_529.Peer.Epoch, y_529.Peer.Other, y_529.Peer.First, y_529.Peer.Queue, y_529.Peer.Next, f_535, y_529.Peer.SentAt, l_532)))
      else none
    else none
  else
    some (.inr ((f_492, f_493, f_494, f_495, f_496, f_497, f_498, l_499)))
def window_side_deliver (s_413 : Window_side) (k_414 : Api_Packet) : Option (Window_side) :=
  if (k_414.Seq != s_413.Peer.Next) = true then
    some (({ Peer := s_413.Peer, delivered := s_413.delivered } : Window_side))
  else
    (window_side_take (({ Peer := s_413.Peer, delivered := s_413.delivered } : Window_side)) k_414.Data).bind fun y_476 =>
    lt1 y_476.delivered fun (l_478 : List (List UInt8)) =>
    (loopO (fun (v : Int × Int × Int × List (List UInt8) × Int × List Api_Packet × Int × List (List UInt8)) => window_side_deliver_b1 v.1 v.2.1 v.2.2.1 v.2.2.2.1 v.2.2.2.2.1 v.2.2.2.2.2.1 v.2.2.2.2.2.2.1 v.2.2.2.2.2.2.2) ((y_476.Peer.Epoch, y_476.Peer.Other, y_476.Peer.First, y_476.Peer.Queue, y_476.Peer.Next, y_476.Peer.Early, y_476.Peer.SentAt, l_478))).bind fun (f_512, f_513, f_514, f_515, f_516, f_517, f_518, l_519) =>
    some (({ Peer := ({ Epoch := f_512, Other := f_513, First := f_514, Queue := f_515, Next := f_516, Early := f_517, SentAt := f_518 } : Api_Peer), delivered := l_519 } : Window_side))

def window_side_keep (s_537 : Window_side) (k_538 : Api_Packet) : Option (Window_side) :=
  (if (decide (k_538.Seq ≤ s_537.Peer.Next)) = true then
    some true
  else
    some ((decide (k_538.Seq ≥ (w64 (s_537.Peer.Next + 64))))) : Option (Bool)).bind fun t_546 =>
  if t_546 = true then
    some (({ Peer := s_537.Peer, delivered := s_537.delivered } : Window_side))
  else
    (slices_BinarySearchFunc_56 s_537.Peer.Early k_538.Seq window_side_keep_1).bind fun y_549 =>
    if (!y_549.2) = true then
      none
    else
      some (({ Peer := s_537.Peer, delivered := s_537.delivered } : Window_side))

def window_Accept (p_553 : Api_Peer) (k_554 : Api_Packet) : Option (Api_Peer × List (List UInt8) × Bool) :=
  ((window_between k_554.Epoch 0 1073741824).bind fun y_555 =>
  if y_555 = true then
    (window_between k_554.Seq ((-1)) 1099511627775).bind fun y_556 =>
    if y_556 = true then
      (window_between k_554.Ack 0 1099511627776).bind fun y_557 =>
      if y_557 = true then
        some ((decide ((k_554.Data.length : Int) ≤ 8000)))
      else
        some false
    else
      some false
  else
    some false : Option (Bool)).bind fun fine_558 =>
  (if (!fine_558) = true then
    some true
  else
    (window_valid p_553).bind fun y_566 =>
    if (!y_566) = true then
      some true
    else
      some ((decide (k_554.Epoch < p_553.Other))) : Option (Bool)).bind fun t_567 =>
  if t_567 = true then
    some ((p_553, [], false))
  else
    lt1 ((decide (k_554.Epoch > p_553.Other))) fun (reset_572 : Bool) =>
    (if reset_572 = true then
      some ((k_554.Epoch, 0, [], 0, [], (-1)))
    else
      some ((p_553.Other, p_553.First, p_553.Queue, p_553.Next, p_553.Early, p_553.SentAt)) : Option (Int × Int × List (List UInt8) × Int × List Api_Packet × Int)).bind fun (f_574, f_575, f_576, f_577, f_578, f_579) =>
    (if (k_554.To == p_553.Epoch) = true then
      (window_side_acknowledge (({ Peer := ({ Epoch := p_553.Epoch, Other := f_574, First := f_575, Queue := f_576, Next := f_577, Early := f_578, SentAt := f_579 } : Api_Peer), delivered := [] } : Window_side)) k_554).bind fun y_613 =>
      lt1 y_613.delivered fun (l_615 : List (List UInt8)) =>
      (window_side_keep (({ Peer := y_613.Peer, delivered := l_615 } : Window_side)) k_554).bind fun y_619 =>
      lt1 y_619.delivered fun (l_621 : List (List UInt8)) =>
      (window_side_deliver (({ Peer := y_619.Peer, delivered := l_621 } : Window_side)) k_554).bind fun y_625 =>
      lt1 y_625.delivered fun (l_627 : List (List UInt8)) =>
      some ((y_625.Peer.Epoch, y_625.Peer.Other, y_625.Peer.First, y_625.Peer.Queue, y_625.Peer.Next, y_625.Peer.Early, y_625.Peer.SentAt, l_627))
    else
      some ((p_553.Epoch, f_574, f_575, f_576, f_577, f_578, f_579, [])) : Option (Int × Int × Int × List (List UInt8) × Int × List Api_Packet × Int × List (List UInt8))).bind fun (f_601, f_602, f_603, f_604, f_605, f_606, f_607, l_608) =>
    some ((({ Epoch := f_601, Other := f_602, First := f_603, Queue := f_604, Next := f_605, Early := f_606, SentAt := f_607 } : Api_Peer), l_608, reset_572))

def law12_sane  : Option (Bool) :=
  (window_New 3).bind fun y_630 =>
  (window_New 5).bind fun y_632 =>
  (window_New ((-1))).bind fun y_634 =>
  (window_Emit y_630.1 0).bind fun y_636 =>
  (if (y_630.2 != 0) = true then
    some true
  else
    if (y_632.2 != 0) = true then
      some true
    else
      if (y_634.2 != 1) = true then
        some true
      else
        if ((y_636.2.length : Int) != 1) = true then
          some true
        else
          if InR 0 y_636.2.length then
            (r12_SamePacket (nth y_636.2 0) (({ Epoch := 3, To := (-1), Seq := (-1), Ack := 0, Data := [] } : Api_Packet))).bind fun y_638 =>
            some ((!y_638))
          else none : Option (Bool)).bind fun t_639 =>
  if t_639 = true then
    some false
  else
    if InR 0 y_636.2.length then
      (window_Accept y_632.1 (nth y_636.2 0)).bind fun y_647 =>
      (window_Emit y_647.1 1).bind fun y_650 =>
      (if ((y_647.2.1.length : Int) != 0) = true then
        some true
      else
        if (!y_647.2.2) = true then
          some true
        else
          if (y_650.1.Other != 3) = true then
            some true
          else
            some (((y_650.2.length : Int) != 1)) : Option (Bool)).bind fun t_652 =>
      if t_652 = true then
        some false
      else
        if InR 0 y_650.2.length then
          (window_Accept y_636.1 (nth y_650.2 0)).bind fun y_657 =>
          (window_Offer y_657.1 (([(120 : UInt8)] : List UInt8))).bind fun y_660 =>
          (window_Emit y_660.1 7).bind fun y_662 =>
          (if (!y_657.2.2) = true then
            some true
          else
            if (y_660.2 != 0) = true then
              some true
            else
              if ((y_662.2.length : Int) != 1) = true then
                some true
              else
                if InR 0 y_662.2.length then
                  (r12_SamePacket (nth y_662.2 0) (({ Epoch := 3, To := 5, Seq := 0, Ack := 0, Data := ([(120 : UInt8)] : List UInt8) } : Api_Packet))).bind fun y_664 =>
                  some ((!y_664))
                else none : Option (Bool)).bind fun t_665 =>
          if t_665 = true then
            some false
          else
            (window_Emit y_662.1 8).bind fun y_672 =>
            (window_Emit y_662.1 17).bind fun y_674 =>
            if InR 0 y_662.2.length then
              (window_Accept y_650.1 (nth y_662.2 0)).bind fun y_676 =>
              if InR 0 y_662.2.length then
                (window_Accept y_676.1 (nth y_662.2 0)).bind fun y_679 =>
                (if ((y_672.2.length : Int) == 1) = true then
                  if InR 0 y_672.2.length then
                    if ((nth y_672.2 0).Seq == (-1)) = true then
                      if ((y_674.2.length : Int) == 1) = true then
                        if InR 0 y_674.2.length then
                          if ((nth y_674.2 0).Seq == 0) = true then
                            if ((y_676.2.1.length : Int) == 1) = true then
                              if InR 0 y_676.2.1.length then
                                if ((nth y_676.2.1 0) == (([120] : List UInt8))) = true then
                                  if (y_676.1.Next == 1) = true then
                                    some (((y_679.2.1.length : Int) == 0))
                                  else
                                    some false
                                else
                                  some false
                              else none
                            else
                              some false
                          else
                            some false
                        else none
                      else
                        some false
                    else
                      some false
                  else none
                else
                  some false : Option (Bool)).bind fun t_682 =>
                some t_682
              else none
            else none
        else none
    else none

def codec_appendInt_1_b1 (u_715 : UInt64) (k_716 : Int) : Option ((UInt64 × Int) ⊕ (Int)) :=
  if (decide (u_715 > (0 : UInt64))) = true then
    lt1 ((shr64 u_715 ((8 : UInt64)).toNat)) fun (u_725 : UInt64) =>
    some (.inl ((u_725, (w64 (k_716 + 1)))))
  else
    some (.inr k_716)
def codec_appendInt_1 (u_694 : UInt64) : Option (Int) :=
  ((loopO (fun (v : UInt64 × Int) => codec_appendInt_1_b1 v.1 v.2) ((u_694, 0))).bind fun k_719 =>
  some k_719 : Option (Int)).bind fun k_709 =>
  some k_709

def codec_appendInt_b1 (n_728 : Int) (k_801 : Int) (t_841 : Int) (l_842 : List UInt8) : Option ((Int × List UInt8) ⊕ (List UInt8)) :=
  if (decide (t_841 < k_801)) = true then
    if NotNeg ((w64 (8 * (w64 ((w64 (k_801 - 1)) - t_841))))) then
      if Fits (l_842.length + 1) 1 then
        lt1 ((l_842 ++ (([((shr64 ((UInt64.ofInt n_728)) (((w64 (8 * (w64 ((w64 (k_801 - 1)) - t_841))))).toNat))).toUInt8] : List UInt8)))) fun (l_855 : List UInt8) =>
        some (.inl (((w64 (t_841 + 1)), l_855)))
      else none
    else none
  else
    some (.inr l_842)
def codec_appendInt (b_727 : List UInt8) (n_728 : Int) : Option (List UInt8) :=
  (codec_appendInt_1 ((UInt64.ofInt n_728))).bind fun y_793 =>
  lt1 ((UInt8.ofInt ((w64 (32 + y_793))))) fun (tag_795 : UInt8) =>
  (if (decide (n_728 < 0)) = true then
    (codec_appendInt_1 ((~~~(UInt64.ofInt n_728)))).bind fun y_806 =>
    lt1 ((UInt8.ofInt ((w64 (31 - y_806))))) fun (tag_808 : UInt8) =>
    some ((y_806, tag_808))
  else
    some ((y_793, tag_795)) : Option (Int × UInt8)).bind fun (k_801, tag_802) =>
  if Fits (b_727.length + 1) 1 then
    lt1 ((b_727 ++ (([tag_802] : List UInt8)))) fun (l_811 : List UInt8) =>
    ((loopO (fun (v : Int × List UInt8) => codec_appendInt_b1 n_728 k_801 v.1 v.2) ((0, l_811))).bind fun l_847 =>
    some l_847 : Option (List UInt8)).bind fun l_833 =>
    some l_833
  else none

def codec_shape_b1 (v_857 : Api_Value) (rec_ : Api_Value → Option (Int × Bool)) (depth_1026 : Int) (t_1027 : Int) : Option ((Int × Int) ⊕ ((Int) ⊕ ((Int) ⊕ ((Unit) ⊕ (Int × Bool))))) :=
  if (decide (t_1027 < (v_857.L.length : Int))) = true then
    if InR t_1027 v_857.L.length then
      lt1 ((nth v_857.L t_1027.toNat).Kind) fun (f_1049 : Int) =>
      lt1 ((nth v_857.L t_1027.toNat).N) fun (f_1050 : Int) =>
      lt1 ((nth v_857.L t_1027.toNat).B) fun (f_1051 : List UInt8) =>
      lt1 ((nth v_857.L t_1027.toNat).L) fun (f_1052 : List Api_Value) =>
      (rec_ ((Api_Value.mk f_1049 f_1050 f_1051 f_1052))).bind fun y_1057 =>
      if (!y_1057.2) = true then
        (((some ((0, false))).bind fun z_1059 => some (.inr z_1059)).bind fun z_1060 => some (.inr z_1060)).bind fun z_1061 => some (.inr (.inr z_1061))
      else
        some (.inl (((mx64 depth_1026 y_1057.1), (w64 (t_1027 + 1)))))
    else none
  else
    some (.inr (.inl depth_1026))
def codec_shape_F (rec_ : Api_Value → Option (Int × Bool)) (v_857 : Api_Value) : Option (Int × Bool) :=
  (if (v_857.Kind == 1) = true then
    (if ((v_857.B.length : Int) == 0) = true then
      some (((v_857.L.length : Int) == 0))
    else
      some false : Option (Bool)).bind fun ok_962 =>
    (some ((0, ok_962))).bind fun z_965 => some (.inr z_965)
  else
    if (v_857.Kind == 2) = true then
      (if (v_857.N == 0) = true then
        some (((v_857.L.length : Int) == 0))
      else
        some false : Option (Bool)).bind fun ok_966 =>
      (some ((0, ok_966))).bind fun z_969 => some (.inr z_969)
    else
      if (v_857.Kind == 3) = true then
        (if (v_857.N != 0) = true then
          some true
        else
          some (((v_857.B.length : Int) != 0)) : Option (Bool)).bind fun t_970 =>
        if t_970 = true then
          (some ((0, false))).bind fun z_973 => some (.inr z_973)
        else
          ((loopO (fun (v : Int × Int) => codec_shape_b1 v_857 rec_ v.1 v.2) ((0, 0))).bind fun x => match x with
          | .inl depth_1042 =>
            some (.inl depth_1042)
          | .inr z => some z : Option ((Int) ⊕ ((Unit) ⊕ (Int × Bool)))).bind fun x => match x with
          | .inl depth_1016 =>
            (some (((w64 (depth_1016 + 1)), true))).bind fun z_1062 => some (.inr z_1062)
          | .inr z => some z
      else
        some (.inl (())) : Option ((Unit) ⊕ (Int × Bool))).bind fun x => match x with
  | .inl () =>
    some ((0, false))
  | .inr z => some z
def codec_shape_n (n : Nat) : Api_Value → Option (Int × Bool) := match n with
  | 0 => fun _ => none
  | n + 1 => codec_shape_F (codec_shape_n n)
def codec_shape (v_857 : Api_Value) : Option (Int × Bool) := codec_shape_n 18446744073709551616 v_857

def codec_appendValue_b1 (v_1064 : Api_Value) (t_1598 : Int) (l_1599 : List UInt8) : Option ((Int × List UInt8) ⊕ (List UInt8)) :=
  if (decide (t_1598 < (v_1064.B.length : Int))) = true then
    (if InR t_1598 v_1064.B.length then
      if Fits (l_1599.length + 1) 1 then
        lt1 ((l_1599 ++ (([nth v_1064.B t_1598.toNat] : List UInt8)))) fun (l_1637 : List UInt8) =>
        if (nth v_1064.B t_1598.toNat == (0 : UInt8)) = true then
          if Fits (l_1637.length + 1) 1 then
            lt1 ((l_1637 ++ (([(255 : UInt8)] : List UInt8)))) fun (l_1640 : List UInt8) =>
            some l_1640
          else none
        else
          some l_1637
      else none
    else none : Option (List UInt8)).bind fun l_1631 =>
    some (.inl (((w64 (t_1598 + 1)), l_1631)))
  else
    some (.inr l_1599)
def codec_appendValue_b2 (v_1064 : Api_Value) (rec_ : (List UInt8) → Api_Value → Option (List UInt8)) (t_1689 : Int) (l_1690 : List UInt8) : Option ((Int × List UInt8) ⊕ (List UInt8)) :=
  if (decide (t_1689 < (v_1064.L.length : Int))) = true then
    if InR t_1689 v_1064.L.length then
      lt1 ((nth v_1064.L t_1689.toNat).Kind) fun (f_1709 : Int) =>
      lt1 ((nth v_1064.L t_1689.toNat).N) fun (f_1710 : Int) =>
      lt1 ((nth v_1064.L t_1689.toNat).B) fun (f_1711 : List UInt8) =>
      lt1 ((nth v_1064.L t_1689.toNat).L) fun (f_1712 : List Api_Value) =>
      (rec_ l_1690 ((Api_Value.mk f_1709 f_1710 f_1711 f_1712))).bind fun y_1717 =>
      some (.inl (((w64 (t_1689 + 1)), y_1717)))
    else none
  else
    some (.inr l_1690)
def codec_appendValue_F (rec_ : (List UInt8) → Api_Value → Option (List UInt8)) (b_1063 : List UInt8) (v_1064 : Api_Value) : Option (List UInt8) :=
  (if (v_1064.Kind == 1) = true then
    (codec_appendInt b_1063 v_1064.N).bind fun y_1508 =>
    (some y_1508).bind fun z_1510 => some (.inr z_1510)
  else
    if (v_1064.Kind == 2) = true then
      if Fits (b_1063.length + 1) 1 then
        lt1 ((b_1063 ++ (([(48 : UInt8)] : List UInt8)))) fun (l_1512 : List UInt8) =>
        ((loopO (fun (v : Int × List UInt8) => codec_appendValue_b1 v_1064 v.1 v.2) ((0, l_1512))).bind fun l_1618 =>
        some l_1618 : Option (List UInt8)).bind fun l_1576 =>
        if Fits (l_1576.length + 2) 1 then
          lt1 ((l_1576 ++ (([(0 : UInt8), (0 : UInt8)] : List UInt8)))) fun (l_1643 : List UInt8) =>
          (some l_1643).bind fun z_1645 => some (.inr z_1645)
        else none
      else none
    else
      some (.inl (())) : Option ((Unit) ⊕ (List UInt8))).bind fun x => match x with
  | .inl () =>
    if Fits (b_1063.length + 1) 1 then
      lt1 ((b_1063 ++ (([(64 : UInt8)] : List UInt8)))) fun (l_1647 : List UInt8) =>
      ((loopO (fun (v : Int × List UInt8) => codec_appendValue_b2 v_1064 rec_ v.1 v.2) ((0, l_1647))).bind fun l_1702 =>
      some l_1702 : Option (List UInt8)).bind fun l_1682 =>
      if Fits (l_1682.length + 1) 1 then
        lt1 ((l_1682 ++ (([(0 : UInt8)] : List UInt8)))) fun (l_1720 : List UInt8) =>
        some l_1720
      else none
    else none
  | .inr z => some z
def codec_appendValue_n (n : Nat) : (List UInt8) → Api_Value → Option (List UInt8) := match n with
  | 0 => fun _ _ => none
  | n + 1 => codec_appendValue_F (codec_appendValue_n n)
def codec_appendValue (b_1063 : List UInt8) (v_1064 : Api_Value) : Option (List UInt8) := codec_appendValue_n 18446744073709551616 b_1063 v_1064

def codec_Encode (v_1722 : Api_Value) : Option (List UInt8 × Int) :=
  (codec_shape v_1722).bind fun y_1723 =>
  if (!y_1723.2) = true then
    some (([], 10))
  else
    if (decide (y_1723.1 > 16)) = true then
      some (([], 2))
    else
      (codec_appendValue ([]) v_1722).bind fun y_1725 =>
      if (decide ((y_1725.length : Int) > 65536)) = true then
        some (([], 2))
      else
        some ((y_1725, 0))

noncomputable def codec_decoder_next_out (r : (UInt8 × Codec_decoder) ⊕ (Int × Codec_decoder)) : Out := match r with
  | .inl r => .ret (u8 r.1) [.box [.sl false (L cU8 r.2.b)] false]
  | .inr r => .pan (.iface 87 (.int .i64 r.1)) [.box [.sl false (L cU8 r.2.b)] false]
def codec_decoder_next (d_1727 : Codec_decoder) : Option ((UInt8 × Codec_decoder) ⊕ (Int × Codec_decoder)) :=
  if ((d_1727.b.length : Int) == 0) = true then
    some (.inr ((5, d_1727)))
  else
    if InR 0 d_1727.b.length then
      if InB 1 d_1727.b.length then
        lt1 (((d_1727.b.drop 1).take (d_1727.b.length - 1))) fun (f_1730 : List UInt8) =>
        some (.inl ((nth d_1727.b 0, ({ b := f_1730 } : Codec_decoder))))
      else none
    else none

noncomputable def codec_decoder_text_out (r : (Api_Value × Codec_decoder) ⊕ (Int × Codec_decoder)) : Out := match r with
  | .inl r => .ret (.agg [i64 r.1.Kind, i64 r.1.N, .sl false (L cU8 r.1.B), .sl false (L cApi_Value r.1.L)]) [.box [.sl false (L cU8 r.2.b)] false]
  | .inr r => .pan (.iface 87 (.int .i64 r.1)) [.box [.sl false (L cU8 r.2.b)] false]
def codec_decoder_text_b1 (f_1751 : List UInt8) (l_1752 : List UInt8) : Option ((List UInt8 × List UInt8) ⊕ ((Api_Value × Codec_decoder) ⊕ (Int × Codec_decoder))) :=
  (codec_decoder_next (({ b := f_1751 } : Codec_decoder))).bind fun y_1776 =>
  match y_1776 with
  | .inl v_1777 =>
    if (v_1777.1 != (0 : UInt8)) = true then
      if Fits (l_1752.length + 1) 1 then
        lt1 ((l_1752 ++ (([v_1777.1] : List UInt8)))) fun (l_1782 : List UInt8) =>
        some (.inl ((v_1777.2.b, l_1782)))
      else none
    else
      (codec_decoder_next v_1777.2).bind fun y_1784 =>
      match y_1784 with
      | .inl v_1785 =>
        if (v_1785.1 == (0 : UInt8)) = true then
          (some (.inl (((Api_Value.mk 2 0 l_1752 ([])), v_1785.2)))).bind fun z_1789 => some (.inr z_1789)
        else
          if (v_1785.1 == (255 : UInt8)) = true then
            if Fits (l_1752.length + 1) 1 then
              lt1 ((l_1752 ++ (([(0 : UInt8)] : List UInt8)))) fun (l_1791 : List UInt8) =>
              some (.inl ((v_1785.2.b, l_1791)))
            else none
          else
            (some (.inr ((4, v_1785.2)))).bind fun z_1793 => some (.inr z_1793)
      | .inr v_1786 =>
        (some (.inr ((v_1786.1, v_1786.2)))).bind fun z_1788 => some (.inr z_1788)
  | .inr v_1778 =>
    (some (.inr ((v_1778.1, v_1778.2)))).bind fun z_1780 => some (.inr z_1780)
def codec_decoder_text (d_1732 : Codec_decoder) : Option ((Api_Value × Codec_decoder) ⊕ (Int × Codec_decoder)) :=
  (loopO (fun (v : List UInt8 × List UInt8) => codec_decoder_text_b1 v.1 v.2) ((d_1732.b, []))).bind fun z => some z

noncomputable def codec_decoder_integer_out (r : (Api_Value × Codec_decoder) ⊕ (Int × Codec_decoder)) : Out := match r with
  | .inl r => .ret (.agg [i64 r.1.Kind, i64 r.1.N, .sl false (L cU8 r.1.B), .sl false (L cApi_Value r.1.L)]) [.box [.sl false (L cU8 r.2.b)] false]
  | .inr r => .pan (.iface 87 (.int .i64 r.1)) [.box [.sl false (L cU8 r.2.b)] false]
def codec_decoder_integer_b1 (k_1795 : Int) (flip_1796 : UInt8) (u_1872 : UInt64) (t_1873 : Int) (f_1874 : List UInt8) : Option ((UInt64 × Int × List UInt8) ⊕ ((UInt64 × List UInt8) ⊕ ((UInt64 × List UInt8) ⊕ ((Api_Value × Codec_decoder) ⊕ (Int × Codec_decoder))))) :=
  if (decide (t_1873 < k_1795)) = true then
    (codec_decoder_next (({ b := f_1874 } : Codec_decoder))).bind fun y_1897 =>
    match y_1897 with
    | .inl v_1898 =>
      (if (t_1873 == 0) = true then
        if ((v_1898.1 ^^^ flip_1796) == (0 : UInt8)) = true then
          some true
        else
          if (k_1795 == 8) = true then
            some ((decide ((v_1898.1 ^^^ flip_1796) > (127 : UInt8))))
          else
            some false
      else
        some false : Option (Bool)).bind fun t_1903 =>
      if t_1903 = true then
        ((some (.inr ((4, v_1898.2)))).bind fun z_1908 => some (.inr z_1908)).bind fun z_1909 => some (.inr (.inr z_1909))
      else
        lt1 (((shl64 u_1872 ((8 : UInt64)).toNat) ||| ((v_1898.1 ^^^ flip_1796)).toUInt64)) fun (u_1910 : UInt64) =>
        some (.inl ((u_1910, (w64 (t_1873 + 1)), v_1898.2.b)))
    | .inr v_1899 =>
      ((some (.inr ((v_1899.1, v_1899.2)))).bind fun z_1901 => some (.inr z_1901)).bind fun z_1902 => some (.inr (.inr z_1902))
  else
    some (.inr (.inl ((u_1872, f_1874))))
def codec_decoder_integer (d_1794 : Codec_decoder) (k_1795 : Int) (flip_1796 : UInt8) : Option ((Api_Value × Codec_decoder) ⊕ (Int × Codec_decoder)) :=
  ((loopO (fun (v : UInt64 × Int × List UInt8) => codec_decoder_integer_b1 k_1795 flip_1796 v.1 v.2.1 v.2.2) (((0 : UInt64), 0, d_1794.b))).bind fun x => match x with
  | .inl (u_1890, f_1891) =>
    some (.inl ((u_1890, f_1891)))
  | .inr z => some z : Option ((UInt64 × List UInt8) ⊕ ((Api_Value × Codec_decoder) ⊕ (Int × Codec_decoder)))).bind fun x => match x with
  | .inl (u_1852, f_1853) =>
    (if (flip_1796 != (0 : UInt8)) = true then
      some ((~~~u_1852))
    else
      some u_1852 : Option (UInt64)).bind fun u_1912 =>
    some (.inl (((Api_Value.mk 1 ((w64 (u_1912.toNat : Int))) ([]) ([])), ({ b := f_1853 } : Codec_decoder))))
  | .inr z => some z

noncomputable def codec_decoder_value_out (r : (Api_Value × Codec_decoder) ⊕ (Int × Codec_decoder)) : Out := match r with
  | .inl r => .ret (.agg [i64 r.1.Kind, i64 r.1.N, .sl false (L cU8 r.1.B), .sl false (L cApi_Value r.1.L)]) [.box [.sl false (L cU8 r.2.b)] false]
  | .inr r => .pan (.iface 87 (.int .i64 r.1)) [.box [.sl false (L cU8 r.2.b)] false]
def codec_decoder_value_b1 (rec_ : Codec_decoder → UInt8 → Option ((Api_Value × Codec_decoder) ⊕ (Int × Codec_decoder))) (c_2204 : UInt8) (f_2205 : List UInt8) (l_2206 : List Api_Value) : Option ((UInt8 × List UInt8 × List Api_Value) ⊕ ((List UInt8 × List Api_Value) ⊕ ((List UInt8 × List Api_Value) ⊕ ((Unit) ⊕ ((Api_Value × Codec_decoder) ⊕ (Int × Codec_decoder)))))) :=
  if (c_2204 != (0 : UInt8)) = true then
    (rec_ (({ b := f_2205 } : Codec_decoder)) c_2204).bind fun y_2231 =>
    match y_2231 with
    | .inl v_2232 =>
      if Fits (l_2206.length + 1) 64 then
        lt1 ((l_2206 ++ (([v_2232.1] : List Api_Value)))) fun (l_2239 : List Api_Value) =>
        (codec_decoder_next v_2232.2).bind fun y_2241 =>
        match y_2241 with
        | .inl v_2242 =>
          some (.inl ((v_2242.1, v_2242.2.b, l_2239)))
        | .inr v_2243 =>
          (((some (.inr ((v_2243.1, v_2243.2)))).bind fun z_2245 => some (.inr z_2245)).bind fun z_2246 => some (.inr z_2246)).bind fun z_2247 => some (.inr (.inr z_2247))
      else none
    | .inr v_2233 =>
      (((some (.inr ((v_2233.1, v_2233.2)))).bind fun z_2235 => some (.inr z_2235)).bind fun z_2236 => some (.inr z_2236)).bind fun z_2237 => some (.inr (.inr z_2237))
  else
    some (.inr (.inl ((f_2205, l_2206))))
def codec_decoder_value_F (rec_ : Codec_decoder → UInt8 → Option ((Api_Value × Codec_decoder) ⊕ (Int × Codec_decoder))) (d_1916 : Codec_decoder) (t_1917 : UInt8) : Option ((Api_Value × Codec_decoder) ⊕ (Int × Codec_decoder)) :=
  ((if (decide (t_1917 ≥ (32 : UInt8))) = true then
    some ((decide (t_1917 ≤ (40 : UInt8))))
  else
    some false : Option (Bool)).bind fun t_2085 =>
  if t_2085 = true then
    (codec_decoder_integer d_1916 ((((t_1917 - (32 : UInt8))).toNat : Int)) ((0 : UInt8))).bind fun y_2088 =>
    match y_2088 with
    | .inl v_2089 =>
      (some (.inl ((v_2089.1, v_2089.2)))).bind fun z_2093 => some (.inr z_2093)
    | .inr v_2090 =>
      (some (.inr ((v_2090.1, v_2090.2)))).bind fun z_2092 => some (.inr z_2092)
  else
    (if (decide (t_1917 < (32 : UInt8))) = true then
      some ((decide (t_1917 ≥ (23 : UInt8))))
    else
      some false : Option (Bool)).bind fun t_2094 =>
    if t_2094 = true then
      (codec_decoder_integer d_1916 (((((31 : UInt8) - t_1917)).toNat : Int)) ((255 : UInt8))).bind fun y_2097 =>
      match y_2097 with
      | .inl v_2098 =>
        (some (.inl ((v_2098.1, v_2098.2)))).bind fun z_2102 => some (.inr z_2102)
      | .inr v_2099 =>
        (some (.inr ((v_2099.1, v_2099.2)))).bind fun z_2101 => some (.inr z_2101)
    else
      if (t_1917 == (48 : UInt8)) = true then
        (codec_decoder_text d_1916).bind fun y_2103 =>
        match y_2103 with
        | .inl v_2104 =>
          (some (.inl ((v_2104.1, v_2104.2)))).bind fun z_2108 => some (.inr z_2108)
        | .inr v_2105 =>
          (some (.inr ((v_2105.1, v_2105.2)))).bind fun z_2107 => some (.inr z_2107)
      else
        if (t_1917 == (64 : UInt8)) = true then
          ((codec_decoder_next d_1916).bind fun y_2181 =>
          match y_2181 with
          | .inl v_2182 =>
            (loopO (fun (v : UInt8 × List UInt8 × List Api_Value) => codec_decoder_value_b1 rec_ v.1 v.2.1 v.2.2) ((v_2182.1, v_2182.2.b, []))).bind fun x => match x with
            | .inl (f_2224, l_2225) =>
              some (.inl ((f_2224, l_2225)))
            | .inr z => some z
          | .inr v_2183 =>
            ((some (.inr ((v_2183.1, v_2183.2)))).bind fun z_2185 => some (.inr z_2185)).bind fun z_2186 => some (.inr z_2186) : Option ((List UInt8 × List Api_Value) ⊕ ((Unit) ⊕ ((Api_Value × Codec_decoder) ⊕ (Int × Codec_decoder))))).bind fun x => match x with
          | .inl (f_2176, l_2177) =>
            (some (.inl (((Api_Value.mk 3 0 ([]) l_2177), ({ b := f_2176 } : Codec_decoder))))).bind fun z_2248 => some (.inr z_2248)
          | .inr z => some z
        else
          some (.inl (())) : Option ((Unit) ⊕ ((Api_Value × Codec_decoder) ⊕ (Int × Codec_decoder)))).bind fun x => match x with
  | .inl () =>
    some (.inr ((4, d_1916)))
  | .inr z => some z
def codec_decoder_value_n (n : Nat) : Codec_decoder → UInt8 → Option ((Api_Value × Codec_decoder) ⊕ (Int × Codec_decoder)) := match n with
  | 0 => fun _ _ => none
  | n + 1 => codec_decoder_value_F (codec_decoder_value_n n)
def codec_decoder_value (d_1916 : Codec_decoder) (t_1917 : UInt8) : Option ((Api_Value × Codec_decoder) ⊕ (Int × Codec_decoder)) := codec_decoder_value_n 18446744073709551616 d_1916 t_1917

def codec_Decode (b_2249 : List UInt8) : Option (Api_Value × Int) :=
  if (decide ((b_2249.length : Int) > 65536)) = true then
    some (((Api_Value.mk 0 0 ([]) ([])), 2))
  else
    (codec_decoder_next (({ b := b_2249 } : Codec_decoder))).bind fun y_2250 =>
    match y_2250 with
    | .inl v_2251 =>
      (codec_decoder_value v_2251.2 v_2251.1).bind fun y_2252 =>
      match y_2252 with
      | .inl v_2253 =>
        if (decide ((v_2253.2.b.length : Int) > 0)) = true then
          some (((Api_Value.mk 0 0 ([]) ([])), 4))
        else
          (codec_shape v_2253.1).bind fun y_2258 =>
          if (decide (y_2258.1 > 16)) = true then
            some (((Api_Value.mk 0 0 ([]) ([])), 2))
          else
            some ((v_2253.1, 0))
      | .inr v_2254 =>
        some (((Api_Value.mk 0 0 ([]) ([])), v_2254.1))
    | .inr v_2255 =>
      some (((Api_Value.mk 0 0 ([]) ([])), v_2255.1))

def r01_readInt_b1 (b_2260 : List UInt8) (t_2262 : Int) (k_2263 : Int) (at_2354 : Int) (n_2355 : Int) (i_2356 : Int) : Option ((Int × Int × Int) ⊕ ((Int × Int) ⊕ ((Int × Int) ⊕ (Api_Value × Int × Int)))) :=
  if (decide (i_2356 < k_2263)) = true then
    if (decide (at_2354 ≥ (b_2260.length : Int))) = true then
      ((some (((Api_Value.mk 0 0 ([]) ([])), at_2354, 5))).bind fun z_2382 => some (.inr z_2382)).bind fun z_2383 => some (.inr (.inr z_2383))
    else
      if InR at_2354 b_2260.length then
        lt1 (((nth b_2260 at_2354.toNat).toNat : Int)) fun (x_2385 : Int) =>
        (if (decide (t_2262 < 32)) = true then
          some ((w64 (255 - x_2385)))
        else
          some x_2385 : Option (Int)).bind fun x_2387 =>
        (if (i_2356 == 0) = true then
          if (x_2387 == 0) = true then
            some true
          else
            if (k_2263 == 8) = true then
              some ((decide (x_2387 > 127)))
            else
              some false
        else
          some false : Option (Bool)).bind fun t_2391 =>
        if t_2391 = true then
          ((some (((Api_Value.mk 0 0 ([]) ([])), at_2354, 4))).bind fun z_2396 => some (.inr z_2396)).bind fun z_2397 => some (.inr (.inr z_2397))
        else
          lt1 ((w64 ((w64 (n_2355 * 256)) + x_2387))) fun (n_2398 : Int) =>
          some (.inl (((w64 (at_2354 + 1)), n_2398, (w64 (i_2356 + 1)))))
      else none
  else
    some (.inr (.inl ((at_2354, n_2355))))
def r01_readInt (b_2260 : List UInt8) (at_2261 : Int) (t_2262 : Int) : Option (Api_Value × Int × Int) :=
  (if (decide (t_2262 < 32)) = true then
    some ((w64 (31 - t_2262)))
  else
    some ((w64 (t_2262 - 32))) : Option (Int)).bind fun k_2263 =>
  ((loopO (fun (v : Int × Int × Int) => r01_readInt_b1 b_2260 t_2262 k_2263 v.1 v.2.1 v.2.2) ((at_2261, 0, 0))).bind fun x => match x with
  | .inl (at_2375, n_2376) =>
    some (.inl ((at_2375, n_2376)))
  | .inr z => some z : Option ((Int × Int) ⊕ (Api_Value × Int × Int))).bind fun x => match x with
  | .inl (at_2331, n_2332) =>
    (if (decide (t_2262 < 32)) = true then
      lt1 ((w64 ((w64 (0 - n_2332)) - 1))) fun (n_2406 : Int) =>
      some n_2406
    else
      some n_2332 : Option (Int)).bind fun n_2402 =>
    some (((Api_Value.mk 1 n_2402 ([]) ([])), at_2331, 0))
  | .inr z => some z

def r01_readBytes_b1 (b_2408 : List UInt8) (at_2488 : Int) (l_2489 : List UInt8) : Option ((Int × List UInt8) ⊕ ((Int) ⊕ ((Int) ⊕ (Api_Value × Int × Int)))) :=
  if (decide (at_2488 < (b_2408.length : Int))) = true then
    if InR at_2488 b_2408.length then
      if (nth b_2408 at_2488.toNat != (0 : UInt8)) = true then
        if InR at_2488 b_2408.length then
          if Fits (l_2489.length + 1) 1 then
            lt1 ((l_2489 ++ (([nth b_2408 at_2488.toNat] : List UInt8)))) fun (l_2515 : List UInt8) =>
            some (.inl (((w64 (at_2488 + 1)), l_2515)))
          else none
        else none
      else
        if (decide ((w64 (at_2488 + 1)) ≥ (b_2408.length : Int))) = true then
          ((some (((Api_Value.mk 0 0 ([]) ([])), at_2488, 5))).bind fun z_2517 => some (.inr z_2517)).bind fun z_2518 => some (.inr (.inr z_2518))
        else
          if InR ((w64 (at_2488 + 1))) b_2408.length then
            if (nth b_2408 (((w64 (at_2488 + 1))).toNat) == (0 : UInt8)) = true then
              ((some (((Api_Value.mk 2 0 l_2489 ([])), (w64 (at_2488 + 2)), 0))).bind fun z_2520 => some (.inr z_2520)).bind fun z_2521 => some (.inr (.inr z_2521))
            else
              if InR ((w64 (at_2488 + 1))) b_2408.length then
                if (nth b_2408 (((w64 (at_2488 + 1))).toNat) != (255 : UInt8)) = true then
                  ((some (((Api_Value.mk 0 0 ([]) ([])), at_2488, 4))).bind fun z_2523 => some (.inr z_2523)).bind fun z_2524 => some (.inr (.inr z_2524))
                else
                  if Fits (l_2489.length + 1) 1 then
                    lt1 ((l_2489 ++ (([(0 : UInt8)] : List UInt8)))) fun (l_2526 : List UInt8) =>
                    some (.inl (((w64 (at_2488 + 2)), l_2526)))
                  else none
              else none
          else none
    else none
  else
    some (.inr (.inl at_2488))
def r01_readBytes (b_2408 : List UInt8) (at_2409 : Int) : Option (Api_Value × Int × Int) :=
  lt1 (([] : List UInt8)) fun (l_2410 : List UInt8) =>
  ((loopO (fun (v : Int × List UInt8) => r01_readBytes_b1 b_2408 v.1 v.2) ((at_2409, l_2410))).bind fun x => match x with
  | .inl at_2506 =>
    some (.inl at_2506)
  | .inr z => some z : Option ((Int) ⊕ (Api_Value × Int × Int))).bind fun x => match x with
  | .inl at_2468 =>
    some (((Api_Value.mk 0 0 ([]) ([])), at_2468, 5))
  | .inr z => some z

def r01_readList_b1 (rec_2528 : (List UInt8) → Int → Option (Api_Value × Int × Int)) (b_2529 : List UInt8) (at_2585 : Int) (l_2586 : List Api_Value) : Option ((Int × List Api_Value) ⊕ ((Int) ⊕ ((Int) ⊕ (Api_Value × Int × Int)))) :=
  if (decide (at_2585 < (b_2529.length : Int))) = true then
    if InR at_2585 b_2529.length then
      if (nth b_2529 at_2585.toNat == (0 : UInt8)) = true then
        ((some (((Api_Value.mk 3 0 ([]) l_2586), (w64 (at_2585 + 1)), 0))).bind fun z_2604 => some (.inr z_2604)).bind fun z_2605 => some (.inr (.inr z_2605))
      else
        (rec_2528 b_2529 at_2585).bind fun y_2606 =>
        if (y_2606.2.2 != 0) = true then
          ((some (((Api_Value.mk 0 0 ([]) ([])), at_2585, y_2606.2.2))).bind fun z_2608 => some (.inr z_2608)).bind fun z_2609 => some (.inr (.inr z_2609))
        else
          if Fits (l_2586.length + 1) 64 then
            lt1 ((l_2586 ++ (([y_2606.1] : List Api_Value)))) fun (l_2611 : List Api_Value) =>
            some (.inl ((y_2606.2.1, l_2611)))
          else none
    else none
  else
    some (.inr (.inl at_2585))
def r01_readList (rec_2528 : (List UInt8) → Int → Option (Api_Value × Int × Int)) (b_2529 : List UInt8) (at_2530 : Int) : Option (Api_Value × Int × Int) :=
  lt1 (([] : List Api_Value)) fun (l_2531 : List Api_Value) =>
  ((loopO (fun (v : Int × List Api_Value) => r01_readList_b1 rec_2528 b_2529 v.1 v.2) ((at_2530, l_2531))).bind fun x => match x with
  | .inl at_2597 =>
    some (.inl at_2597)
  | .inr z => some z : Option ((Int) ⊕ (Api_Value × Int × Int))).bind fun x => match x with
  | .inl at_2571 =>
    some (((Api_Value.mk 0 0 ([]) ([])), at_2571, 5))
  | .inr z => some z

def r01_read_F (rec_ : (List UInt8) → Int → Option (Api_Value × Int × Int)) (b_2613 : List UInt8) (at_2614 : Int) : Option (Api_Value × Int × Int) :=
  if (decide (at_2614 ≥ (b_2613.length : Int))) = true then
    some (((Api_Value.mk 0 0 ([]) ([])), at_2614, 5))
  else
    if InR at_2614 b_2613.length then
      (if (decide (((nth b_2613 at_2614.toNat).toNat : Int) ≥ 23)) = true then
        some ((decide (((nth b_2613 at_2614.toNat).toNat : Int) ≤ 40)))
      else
        some false : Option (Bool)).bind fun t_2616 =>
      if t_2616 = true then
        (r01_readInt b_2613 ((w64 (at_2614 + 1))) (((nth b_2613 at_2614.toNat).toNat : Int))).bind fun y_2619 =>
        some ((y_2619.1, y_2619.2.1, y_2619.2.2))
      else
        if (((nth b_2613 at_2614.toNat).toNat : Int) == 48) = true then
          (r01_readBytes b_2613 ((w64 (at_2614 + 1)))).bind fun y_2621 =>
          some ((y_2621.1, y_2621.2.1, y_2621.2.2))
        else
          if (((nth b_2613 at_2614.toNat).toNat : Int) == 64) = true then
            (r01_readList rec_ b_2613 ((w64 (at_2614 + 1)))).bind fun y_2623 =>
            some ((y_2623.1, y_2623.2.1, y_2623.2.2))
          else
            some (((Api_Value.mk 0 0 ([]) ([])), at_2614, 4))
    else none
def r01_read_n (n : Nat) : (List UInt8) → Int → Option (Api_Value × Int × Int) := match n with
  | 0 => fun _ _ => none
  | n + 1 => r01_read_F (r01_read_n n)
def r01_read (b_2613 : List UInt8) (at_2614 : Int) : Option (Api_Value × Int × Int) := r01_read_n 18446744073709551616 b_2613 at_2614

def r01_Nesting_b1 (v_2625 : Api_Value) (rec_ : Api_Value → Option (Int)) (n_2650 : Int) (i_2651 : Int) : Option ((Int × Int) ⊕ (Int)) :=
  if (decide (i_2651 < (v_2625.L.length : Int))) = true then
    if InR i_2651 v_2625.L.length then
      (rec_ (nth v_2625.L i_2651.toNat)).bind fun y_2661 =>
      some (.inl (((mx64 n_2650 y_2661), (w64 (i_2651 + 1)))))
    else none
  else
    some (.inr n_2650)
def r01_Nesting_F (rec_ : Api_Value → Option (Int)) (v_2625 : Api_Value) : Option (Int) :=
  ((loopO (fun (v : Int × Int) => r01_Nesting_b1 v_2625 rec_ v.1 v.2) ((0, 0))).bind fun n_2655 =>
  some n_2655 : Option (Int)).bind fun n_2643 =>
  if (v_2625.Kind == 3) = true then
    some ((w64 (n_2643 + 1)))
  else
    some n_2643
def r01_Nesting_n (n : Nat) : Api_Value → Option (Int) := match n with
  | 0 => fun _ => none
  | n + 1 => r01_Nesting_F (r01_Nesting_n n)
def r01_Nesting (v_2625 : Api_Value) : Option (Int) := r01_Nesting_n 18446744073709551616 v_2625

def r01_Order (a_2664 : Int) (b_2665 : Int) : Option (Int) :=
  if (decide (a_2664 < b_2665)) = true then
    some ((-1))
  else
    if (decide (a_2664 > b_2665)) = true then
      some 1
    else
      some 0

def r01_OrderBytes_b1 (a_2666 : List UInt8) (b_2667 : List UInt8) (i_2721 : Int) : Option ((Int) ⊕ ((Unit) ⊕ ((Unit) ⊕ (Int)))) :=
  (if (decide (i_2721 < (a_2666.length : Int))) = true then
    some ((decide (i_2721 < (b_2667.length : Int))))
  else
    some false : Option (Bool)).bind fun t_2738 =>
  if t_2738 = true then
    if InR i_2721 a_2666.length then
      if InR i_2721 b_2667.length then
        if (nth a_2666 i_2721.toNat != nth b_2667 i_2721.toNat) = true then
          if InR i_2721 a_2666.length then
            if InR i_2721 b_2667.length then
              (r01_Order (((nth a_2666 i_2721.toNat).toNat : Int)) (((nth b_2667 i_2721.toNat).toNat : Int))).bind fun y_2743 =>
              ((some y_2743).bind fun z_2747 => some (.inr z_2747)).bind fun z_2748 => some (.inr (.inr z_2748))
            else none
          else none
        else
          some (.inl ((w64 (i_2721 + 1))))
      else none
    else none
  else
    some (.inr (.inl (())))
def r01_OrderBytes (a_2666 : List UInt8) (b_2667 : List UInt8) : Option (Int) :=
  ((loopO (fun (v : Int) => r01_OrderBytes_b1 a_2666 b_2667 v) 0).bind fun x => match x with
  | .inl () =>
    some (.inl (()))
  | .inr z => some z : Option ((Unit) ⊕ (Int))).bind fun x => match x with
  | .inl () =>
    (r01_Order ((a_2666.length : Int)) ((b_2667.length : Int))).bind fun y_2749 =>
    some y_2749
  | .inr z => some z

def r01_Decode (b_2751 : List UInt8) : Option (Api_Value × Int) :=
  if (decide ((b_2751.length : Int) > 65536)) = true then
    some (((Api_Value.mk 0 0 ([]) ([])), 2))
  else
    (r01_read b_2751 0).bind fun y_2752 =>
    if (y_2752.2.2 != 0) = true then
      some (((Api_Value.mk 0 0 ([]) ([])), y_2752.2.2))
    else
      if (decide (y_2752.2.1 < (b_2751.length : Int))) = true then
        some (((Api_Value.mk 0 0 ([]) ([])), 4))
      else
        (r01_Nesting y_2752.1).bind fun y_2754 =>
        if (decide (y_2754 > 16)) = true then
          some (((Api_Value.mk 0 0 ([]) ([])), 2))
        else
          some ((y_2752.1, 0))

def r01_SameBytes (a_2756 : List UInt8) (b_2757 : List UInt8) : Option (Bool) :=
  (r01_OrderBytes a_2756 b_2757).bind fun y_2758 =>
  some ((y_2758 == 0))

def r12_Decode_b1 (y_2761 : Api_Value × Int) (i_2803 : Int) : Option ((Int) ⊕ ((Unit) ⊕ ((Unit) ⊕ (Api_Packet × Int)))) :=
  if (decide (i_2803 < 5)) = true then
    (if InR i_2803 y_2761.1.L.length then
      if (!(((nth y_2761.1.L i_2803.toNat).Kind == 1) == (decide (i_2803 < 4)))) = true then
        some true
      else
        if InR i_2803 y_2761.1.L.length then
          some ((!(((nth y_2761.1.L i_2803.toNat).Kind == 2) == (i_2803 == 4))))
        else none
    else none : Option (Bool)).bind fun t_2816 =>
    if t_2816 = true then
      ((some ((({ Epoch := 0, To := 0, Seq := 0, Ack := 0, Data := [] } : Api_Packet), 10))).bind fun z_2821 => some (.inr z_2821)).bind fun z_2822 => some (.inr (.inr z_2822))
    else
      some (.inl ((w64 (i_2803 + 1))))
  else
    some (.inr (.inl (())))
def r12_Decode (b_2760 : List UInt8) : Option (Api_Packet × Int) :=
  (r01_Decode b_2760).bind fun y_2761 =>
  if (y_2761.2 != 0) = true then
    some ((({ Epoch := 0, To := 0, Seq := 0, Ack := 0, Data := [] } : Api_Packet), y_2761.2))
  else
    (if (y_2761.1.Kind != 3) = true then
      some true
    else
      some (((y_2761.1.L.length : Int) != 5)) : Option (Bool)).bind fun t_2763 =>
    if t_2763 = true then
      some ((({ Epoch := 0, To := 0, Seq := 0, Ack := 0, Data := [] } : Api_Packet), 10))
    else
      ((loopO (fun (v : Int) => r12_Decode_b1 y_2761 v) 0).bind fun x => match x with
      | .inl () =>
        some (.inl (()))
      | .inr z => some z : Option ((Unit) ⊕ (Api_Packet × Int))).bind fun x => match x with
      | .inl () =>
        if InR 0 y_2761.1.L.length then
          if InR 1 y_2761.1.L.length then
            if InR 2 y_2761.1.L.length then
              if InR 3 y_2761.1.L.length then
                if InR 4 y_2761.1.L.length then
                  some ((({ Epoch := (nth y_2761.1.L 0).N, To := (nth y_2761.1.L 1).N, Seq := (nth y_2761.1.L 2).N, Ack := (nth y_2761.1.L 3).N, Data := (nth y_2761.1.L 4).B } : Api_Packet), 0))
                else none
              else none
            else none
          else none
        else none
      | .inr z => some z

def window_Encode_b1 (t_2857 : Int) (l_2858 : List Int) (t_2865 : Int) (l_2866 : List Api_Value) : Option ((Int × List Api_Value) ⊕ (List Api_Value)) :=
  if (decide (t_2865 < t_2857)) = true then
    if InR t_2865 l_2858.length then
      if Fits (l_2866.length + 1) 64 then
        lt1 ((l_2866 ++ (([(Api_Value.mk 1 (nth l_2858 t_2865.toNat) ([]) ([]))] : List Api_Value)))) fun (l_2879 : List Api_Value) =>
        some (.inl (((w64 (t_2865 + 1)), l_2879)))
      else none
    else none
  else
    some (.inr l_2866)
def window_Encode (k_2828 : Api_Packet) : Option (List UInt8 × Int) :=
  (lt1 (((([k_2828.Epoch, k_2828.To, k_2828.Seq, k_2828.Ack] : List Int)).length : Int)) fun (t_2857 : Int) =>
  lt1 (([k_2828.Epoch, k_2828.To, k_2828.Seq, k_2828.Ack] : List Int)) fun (l_2858 : List Int) =>
  (loopO (fun (v : Int × List Api_Value) => window_Encode_b1 t_2857 l_2858 v.1 v.2) ((0, []))).bind fun l_2871 =>
  some l_2871 : Option (List Api_Value)).bind fun l_2853 =>
  if Fits (l_2853.length + 1) 64 then
    (codec_Encode ((Api_Value.mk 3 0 ([]) ((l_2853 ++ (([(Api_Value.mk 2 0 k_2828.Data ([]))] : List Api_Value))))))).bind fun y_2881 =>
    some ((y_2881.1, y_2881.2))
  else none

def window_Decode_b1 (y_2885 : Api_Value × Int) (t_2947 : Int) : Option ((Int) ⊕ ((Unit) ⊕ ((Unit) ⊕ (Api_Packet × Int)))) :=
  if (decide (t_2947 < (((y_2885.1.L.take 4)).length : Int))) = true then
    if InR t_2947 (((y_2885.1.L.take 4)).length) then
      lt1 ((nth ((y_2885.1.L.take 4)) t_2947.toNat).Kind) fun (f_2965 : Int) =>
      lt1 ((nth ((y_2885.1.L.take 4)) t_2947.toNat).N) fun (f_2966 : Int) =>
      lt1 ((nth ((y_2885.1.L.take 4)) t_2947.toNat).B) fun (f_2967 : List UInt8) =>
      lt1 ((nth ((y_2885.1.L.take 4)) t_2947.toNat).L) fun (f_2968 : List Api_Value) =>
      if (f_2965 != 1) = true then
        ((some ((({ Epoch := 0, To := 0, Seq := 0, Ack := 0, Data := [] } : Api_Packet), 10))).bind fun z_2973 => some (.inr z_2973)).bind fun z_2974 => some (.inr (.inr z_2974))
      else
        some (.inl ((w64 (t_2947 + 1))))
    else none
  else
    some (.inr (.inl (())))
def window_Decode (b_2884 : List UInt8) : Option (Api_Packet × Int) :=
  (codec_Decode b_2884).bind fun y_2885 =>
  if (y_2885.2 != 0) = true then
    some ((({ Epoch := 0, To := 0, Seq := 0, Ack := 0, Data := [] } : Api_Packet), y_2885.2))
  else
    (if (y_2885.1.Kind != 3) = true then
      some true
    else
      if ((y_2885.1.L.length : Int) != 5) = true then
        some true
      else
        if InR 4 y_2885.1.L.length then
          some (((nth y_2885.1.L 4).Kind != 2))
        else none : Option (Bool)).bind fun t_2887 =>
    if t_2887 = true then
      some ((({ Epoch := 0, To := 0, Seq := 0, Ack := 0, Data := [] } : Api_Packet), 10))
    else
      (if InB 4 y_2885.1.L.length then
        (loopO (fun (v : Int) => window_Decode_b1 y_2885 v) 0).bind fun x => match x with
        | .inl () =>
          some (.inl (()))
        | .inr z => some z
      else none : Option ((Unit) ⊕ (Api_Packet × Int))).bind fun x => match x with
      | .inl () =>
        if InR 0 y_2885.1.L.length then
          if InR 1 y_2885.1.L.length then
            if InR 2 y_2885.1.L.length then
              if InR 3 y_2885.1.L.length then
                if InR 4 y_2885.1.L.length then
                  some ((({ Epoch := (nth y_2885.1.L 0).N, To := (nth y_2885.1.L 1).N, Seq := (nth y_2885.1.L 2).N, Ack := (nth y_2885.1.L 3).N, Data := (nth y_2885.1.L 4).B } : Api_Packet), 0))
                else none
              else none
            else none
          else none
        else none
      | .inr z => some z

def law12_WindowCodec (k_2980 : Api_Packet) (v_2981 : Api_Value) (b_2982 : List UInt8) : Option (Bool) :=
  law12_sane.bind fun y_2983 =>
  if (!y_2983) = true then
    some false
  else
    (if (decide ((k_2980.Data.length : Int) > 20000)) = true then
      some true
    else
      some ((decide ((b_2982.length : Int) > 20000))) : Option (Bool)).bind fun t_2985 =>
    if t_2985 = true then
      some true
    else
      (window_Encode k_2980).bind fun y_2988 =>
      (window_Decode y_2988.1).bind fun y_2990 =>
      (if (y_2988.2 != 0) = true then
        some true
      else
        if (y_2990.2 != 0) = true then
          some true
        else
          (r12_SamePacket y_2990.1 k_2980).bind fun y_2992 =>
          some ((!y_2992)) : Option (Bool)).bind fun t_2993 =>
      if t_2993 = true then
        some false
      else
        (window_Decode b_2982).bind fun y_2998 =>
        (codec_Decode b_2982).bind fun y_3000 =>
        (if (y_3000.2 != 0) = true then
          if (y_2998.2 != y_3000.2) = true then
            some true
          else
            (r12_SamePacket y_2998.1 (({ Epoch := 0, To := 0, Seq := 0, Ack := 0, Data := [] } : Api_Packet))).bind fun y_3002 =>
            if (!y_3002) = true then
              some true
            else
              if (y_3000.2 == 0) = true then
                if (y_2998.2 != 0) = true then
                  some ((y_2998.2 != 10))
                else
                  some false
              else
                some false
        else
          if (y_3000.2 == 0) = true then
            if (y_2998.2 != 0) = true then
              some ((y_2998.2 != 10))
            else
              some false
          else
            some false : Option (Bool)).bind fun t_3003 =>
        if t_3003 = true then
          some false
        else
          (if (y_2998.2 == 0) = true then
            (window_Encode y_2998.1).bind fun y_3026 =>
            (if (y_3026.2 != 0) = true then
              some true
            else
              (r01_SameBytes y_3026.1 b_2982).bind fun y_3028 =>
              if (!y_3028) = true then
                some true
              else
                if (y_3000.1.Kind != 3) = true then
                  some true
                else
                  some (((y_3000.1.L.length : Int) != 5)) : Option (Bool)).bind fun t_3029 =>
            if t_3029 = true then
              (some false).bind fun z_3035 => some (.inr z_3035)
            else
              some (.inl (()))
          else
            some (.inl (())) : Option ((Unit) ⊕ (Bool))).bind fun x => match x with
          | .inl () =>
            (codec_Encode v_2981).bind fun y_3036 =>
            if (y_3036.2 != 0) = true then
              some true
            else
              (window_Decode y_3036.1).bind fun y_3038 =>
              (r12_Decode y_3036.1).bind fun y_3040 =>
              (if (y_3038.2 == y_3040.2) = true then
                (r12_SamePacket y_3038.1 y_3040.1).bind fun y_3042 =>
                some y_3042
              else
                some false : Option (Bool)).bind fun t_3043 =>
              some t_3043
          | .inr z => some z

end Go.Proofs.Ytomjphpnpcgacaa
/-
  The functions compute just that.
-/
namespace Go.Proofs.Ytomjphpnpcgacaa
open Go.Rv
set_option linter.unusedVariables false
set_option linter.unusedSimpArgs false
set_option maxRecDepth 20000
set_option maxHeartbeats 4000000

theorem window_between_con {n_1 : Int} {lo_2 : Int} {hi_3 : Int} {r : Bool} (h : window_between n_1 lo_2 hi_3 = some r) : Con B 35 [i64 n_1, i64 lo_2, i64 hi_3] [] (fun r' σ' => r' = .bool r ∧ σ' = []) := by
  refine con_walk (N := 15) (rs := [.tmp 6]) ok Try.func35 rfl (by decide +kernel) rfl rfl (Nat.le_of_ble_eq_true rfl) (fun F => ?_)
  have hE := ok.env F
  unfold window_between at h
  show Run (B.env F) 0 _ ⟨asFr 15 [(0, i64 n_1), (1, i64 lo_2), (2, i64 hi_3)], []⟩ _
  refine run_wkP ?_
  refine run_textE hE [0, 1, 2] (fr' := [(0, i64 n_1), (1, i64 lo_2), (2, i64 hi_3)]) (σ' := []) ⟨_, orcs_nil, ?_⟩ ?_
  · simp only [go_sem]
  replace h := bind_some1 h; obtain ⟨t_4, hv_5, h⟩ := h
  refine run_textW hE [6] (fr' := [(6, .bool t_4)]) (σ' := []) ?_ ?_
  · rcases Bool.eq_false_or_eq_true ((decide (n_1 ≥ lo_2))) with hb_6 | hb_6
    · replace hv_5 := ite_t hv_5 hb_6
      have e_hv_5 := Option.some.inj hv_5; subst e_hv_5
      exact ⟨_, [(6, .bool ((decide (n_1 ≤ hi_3))))], [], orcs_nil, by simp only [go_sem, hb_6], (weak_sel [] (by decide) rfl (by simp only [go_sem]) (by simp only [go_sem]))⟩
    · replace hv_5 := ite_f hv_5 hb_6
      have e_hv_5 := Option.some.inj hv_5; subst e_hv_5
      exact ⟨_, [(6, .bool false)], [], orcs_nil, by simp only [go_sem, hb_6], (weak_sel [] (by decide) rfl (by simp only [go_sem]) (by simp only [go_sem]))⟩
  refine run_ret ?_
  obtain rfl := Option.some.inj h
  refine wkP_of (Weak.refl _ _) ?_
  refine ret_ok (.inr rfl) ?_
  simp only [go_sem]

end Go.Proofs.Ytomjphpnpcgacaa
/-
  The functions compute just that.
-/
namespace Go.Proofs.Ytomjphpnpcgacaa
open Go.Rv
set_option linter.unusedVariables false
set_option linter.unusedSimpArgs false
set_option maxRecDepth 20000
set_option maxHeartbeats 4000000

theorem window_valid_con {p_7 : Api_Peer} {r : Bool} (h : window_valid p_7 = some r) : Con B 37 [.agg [i64 p_7.Epoch, i64 p_7.Other, i64 p_7.First, .sl false (L (cSl cU8) p_7.Queue), i64 p_7.Next, .sl false (L cApi_Packet p_7.Early), i64 p_7.SentAt]] [] (fun r' σ' => r' = .bool r ∧ σ' = []) := by
  refine con_walk (N := 106) (rs := [.tmp 2]) ok Try.func37 rfl (by decide +kernel) rfl rfl (Nat.le_of_ble_eq_true rfl) (fun F => ?_)
  have hE := ok.env F
  unfold window_valid at h
  show Run (B.env F) 0 _ ⟨asFr 106 [(0, .agg [i64 p_7.Epoch, i64 p_7.Other, i64 p_7.First, .sl false (L (cSl cU8) p_7.Queue), i64 p_7.Next, .sl false (L cApi_Packet p_7.Early), i64 p_7.SentAt])], []⟩ _
  refine run_wkP ?_
  refine run_textE hE [1] (fr' := [(1, .ref 0 0)]) (σ' := [.box [i64 p_7.Epoch, i64 p_7.Other, i64 p_7.First, .sl false (L (cSl cU8) p_7.Queue), i64 p_7.Next, .sl false (L cApi_Packet p_7.Early), i64 p_7.SentAt] false]) ⟨_, orcs_nil, ?_⟩ ?_
  · simp only [go_sem]
  refine run_seq ?_
  replace h := bind_some1 h; obtain ⟨t_11, hv_12, h⟩ := h
  refine run_textW hE [1, 23] (fr' := [(1, .ref 0 0), (23, .bool t_11)]) (σ' := [.box [i64 p_7.Epoch, i64 p_7.Other, i64 p_7.First, .sl false (L (cSl cU8) p_7.Queue), i64 p_7.Next, .sl false (L cApi_Packet p_7.Early), i64 p_7.SentAt] false]) ?_ ?_
  · replace hv_12 := bind_some1 hv_12; obtain ⟨y_8, hy_13, hv_12⟩ := hv_12
    rcases Bool.eq_false_or_eq_true ((!y_8)) with hb_14 | hb_14
    · replace hv_12 := ite_t hv_12 hb_14
      have e_hv_12 := Option.some.inj hv_12; subst e_hv_12
      exact ⟨_, [(1, .ref 0 0), (23, .bool true)], [.box [i64 p_7.Epoch, i64 p_7.Other, i64 p_7.First, .sl false (L (cSl cU8) p_7.Queue), i64 p_7.Next, .sl false (L cApi_Packet p_7.Early), i64 p_7.SentAt] false], orcs_ok (l := [(10, 35, [i64 p_7.Epoch, i64 0, i64 1073741824], .bool y_8)]) ⟨window_between_con  hy_13, trivial⟩, by simp only [go_sem, hb_14], (weak_sel [0] (by decide) rfl (by simp only [go_sem]) (by simp only [go_sem]))⟩
    · replace hv_12 := ite_f hv_12 hb_14
      replace hv_12 := bind_some1 hv_12; obtain ⟨y_9, hy_15, hv_12⟩ := hv_12
      rcases Bool.eq_false_or_eq_true ((!y_9)) with hb_16 | hb_16
      · replace hv_12 := ite_t hv_12 hb_16
        have e_hv_12 := Option.some.inj hv_12; subst e_hv_12
        exact ⟨_, [(1, .ref 0 0), (23, .bool true)], [.box [i64 p_7.Epoch, i64 p_7.Other, i64 p_7.First, .sl false (L (cSl cU8) p_7.Queue), i64 p_7.Next, .sl false (L cApi_Packet p_7.Early), i64 p_7.SentAt] false], orcs_ok (l := [(10, 35, [i64 p_7.Epoch, i64 0, i64 1073741824], .bool y_8), (15, 35, [i64 p_7.Other, i64 ((-1)), i64 1073741824], .bool y_9)]) ⟨window_between_con  hy_13, window_between_con  hy_15, trivial⟩, by simp only [go_sem, hb_14, hb_16], (weak_sel [0] (by decide) rfl (by simp only [go_sem]) (by simp only [go_sem]))⟩
      · replace hv_12 := ite_f hv_12 hb_16
        replace hv_12 := bind_some1 hv_12; obtain ⟨y_10, hy_17, hv_12⟩ := hv_12
        have e_hv_12 := Option.some.inj hv_12; subst e_hv_12
        exact ⟨_, [(1, .ref 0 0), (23, .bool ((!y_10)))], [.box [i64 p_7.Epoch, i64 p_7.Other, i64 p_7.First, .sl false (L (cSl cU8) p_7.Queue), i64 p_7.Next, .sl false (L cApi_Packet p_7.Early), i64 p_7.SentAt] false], orcs_ok (l := [(10, 35, [i64 p_7.Epoch, i64 0, i64 1073741824], .bool y_8), (15, 35, [i64 p_7.Other, i64 ((-1)), i64 1073741824], .bool y_9), (21, 35, [i64 p_7.SentAt, i64 ((-1)), i64 1073741824], .bool y_10)]) ⟨window_between_con  hy_13, window_between_con  hy_15, window_between_con  hy_17, trivial⟩, by simp only [go_sem, hb_14, hb_16], (weak_sel [0] (by decide) rfl (by simp only [go_sem]) (by simp only [go_sem]))⟩
  refine run_condL (b := t_11) rfl (by decide) (fun hb => ?_) (fun hb => ?_)
  · replace h := ite_t h hb
    refine run_textE hE [2] (fr' := [(2, .bool false)]) (σ' := [.box [i64 p_7.Epoch, i64 p_7.Other, i64 p_7.First, .sl false (L (cSl cU8) p_7.Queue), i64 p_7.Next, .sl false (L cApi_Packet p_7.Early), i64 p_7.SentAt] false]) ⟨_, orcs_nil, ?_⟩ ?_
    · simp only [go_sem]
    refine run_ret ?_
    refine thenK_r ?_
    obtain rfl := Option.some.inj h
    refine wkP_of (Weak.refl _ _) ?_
    refine ret_ok (.inr rfl) ?_
    simp only [go_sem]
  · replace h := ite_f h hb
    refine run_skip ?_
    refine thenK_n ?_
    refine run_seq ?_
    replace h := bind_some1 h; obtain ⟨t_20, hv_21, h⟩ := h
    refine run_textW hE [1, 48] (fr' := [(1, .ref 0 0), (48, .bool t_20)]) (σ' := [.box [i64 p_7.Epoch, i64 p_7.Other, i64 p_7.First, .sl false (L (cSl cU8) p_7.Queue), i64 p_7.Next, .sl false (L cApi_Packet p_7.Early), i64 p_7.SentAt] false]) ?_ ?_
    · replace hv_21 := bind_some1 hv_21; obtain ⟨y_18, hy_22, hv_21⟩ := hv_21
      rcases Bool.eq_false_or_eq_true ((!y_18)) with hb_23 | hb_23
      · replace hv_21 := ite_t hv_21 hb_23
        have e_hv_21 := Option.some.inj hv_21; subst e_hv_21
        exact ⟨_, [(1, .ref 0 0), (48, .bool true)], [.box [i64 p_7.Epoch, i64 p_7.Other, i64 p_7.First, .sl false (L (cSl cU8) p_7.Queue), i64 p_7.Next, .sl false (L cApi_Packet p_7.Early), i64 p_7.SentAt] false], orcs_ok (l := [(26, 35, [i64 p_7.First, i64 0, i64 1099511627776], .bool y_18)]) ⟨window_between_con  hy_22, trivial⟩, by simp only [go_sem, hb_23], (weak_sel [0] (by decide) rfl (by simp only [go_sem]) (by simp only [go_sem]))⟩
      · replace hv_21 := ite_f hv_21 hb_23
        replace hv_21 := bind_some1 hv_21; obtain ⟨y_19, hy_24, hv_21⟩ := hv_21
        rcases Bool.eq_false_or_eq_true ((!y_19)) with hb_25 | hb_25
        · replace hv_21 := ite_t hv_21 hb_25
          have e_hv_21 := Option.some.inj hv_21; subst e_hv_21
          exact ⟨_, [(1, .ref 0 0), (48, .bool true)], [.box [i64 p_7.Epoch, i64 p_7.Other, i64 p_7.First, .sl false (L (cSl cU8) p_7.Queue), i64 p_7.Next, .sl false (L cApi_Packet p_7.Early), i64 p_7.SentAt] false], orcs_ok (l := [(26, 35, [i64 p_7.First, i64 0, i64 1099511627776], .bool y_18), (31, 35, [i64 p_7.Next, i64 0, i64 1099511627776], .bool y_19)]) ⟨window_between_con  hy_22, window_between_con  hy_24, trivial⟩, by simp only [go_sem, hb_23, hb_25], (weak_sel [0] (by decide) rfl (by simp only [go_sem]) (by simp only [go_sem]))⟩
        · replace hv_21 := ite_f hv_21 hb_25
          rcases Bool.eq_false_or_eq_true ((decide ((p_7.Queue.length : Int) > 256))) with hb_26 | hb_26
          · replace hv_21 := ite_t hv_21 hb_26
            have e_hv_21 := Option.some.inj hv_21; subst e_hv_21
            exact ⟨_, [(1, .ref 0 0), (48, .bool true)], [.box [i64 p_7.Epoch, i64 p_7.Other, i64 p_7.First, .sl false (L (cSl cU8) p_7.Queue), i64 p_7.Next, .sl false (L cApi_Packet p_7.Early), i64 p_7.SentAt] false], orcs_ok (l := [(26, 35, [i64 p_7.First, i64 0, i64 1099511627776], .bool y_18), (31, 35, [i64 p_7.Next, i64 0, i64 1099511627776], .bool y_19)]) ⟨window_between_con  hy_22, window_between_con  hy_24, trivial⟩, by simp only [go_sem, hb_23, hb_25, hb_26], (weak_sel [0] (by decide) rfl (by simp only [go_sem]) (by simp only [go_sem]))⟩
          · replace hv_21 := ite_f hv_21 hb_26
            have e_hv_21 := Option.some.inj hv_21; subst e_hv_21
            exact ⟨_, [(1, .ref 0 0), (48, .bool ((decide ((w64 (p_7.First + (p_7.Queue.length : Int))) > 1099511627776))))], [.box [i64 p_7.Epoch, i64 p_7.Other, i64 p_7.First, .sl false (L (cSl cU8) p_7.Queue), i64 p_7.Next, .sl false (L cApi_Packet p_7.Early), i64 p_7.SentAt] false], orcs_ok (l := [(26, 35, [i64 p_7.First, i64 0, i64 1099511627776], .bool y_18), (31, 35, [i64 p_7.Next, i64 0, i64 1099511627776], .bool y_19)]) ⟨window_between_con  hy_22, window_between_con  hy_24, trivial⟩, by simp only [go_sem, hb_23, hb_25, hb_26], (weak_sel [0] (by decide) rfl (by simp only [go_sem]) (by simp only [go_sem]))⟩
    refine run_condL (b := t_20) rfl (by decide) (fun hb => ?_) (fun hb => ?_)
    · replace h := ite_t h hb
      refine run_textE hE [2] (fr' := [(2, .bool false)]) (σ' := [.box [i64 p_7.Epoch, i64 p_7.Other, i64 p_7.First, .sl false (L (cSl cU8) p_7.Queue), i64 p_7.Next, .sl false (L cApi_Packet p_7.Early), i64 p_7.SentAt] false]) ⟨_, orcs_nil, ?_⟩ ?_
      · simp only [go_sem]
      refine run_ret ?_
      refine thenK_r ?_
      obtain rfl := Option.some.inj h
      refine wkP_of (Weak.refl _ _) ?_
      refine ret_ok (.inr rfl) ?_
      simp only [go_sem]
    · replace h := ite_f h hb
      refine run_skip ?_
      refine thenK_n ?_
      replace h := bind_some1 h; obtain ⟨j_42, hA_43, hj_44⟩ := h
      refine run_join (fun (v : Unit) => (⟨asFr 106 [(1, .ref 0 0)], [.box [i64 p_7.Epoch, i64 p_7.Other, i64 p_7.First, .sl false (L (cSl cU8) p_7.Queue), i64 p_7.Next, .sl false (L cApi_Packet p_7.Early), i64 p_7.SentAt] false]⟩ : St)) (fun v => .inl v = j_42) ?_ ?_
      · have h := hA_43; clear hA_43
        refine run_textE hE [1, 50, 51, 52] (fr' := [(1, .ref 0 0), (50, .sl false (L (cSl cU8) p_7.Queue)), (51, i64 ((p_7.Queue.length : Int))), (52, i64 0)]) (σ' := [.box [i64 p_7.Epoch, i64 p_7.Other, i64 p_7.First, .sl false (L (cSl cU8) p_7.Queue), i64 p_7.Next, .sl false (L cApi_Packet p_7.Early), i64 p_7.SentAt] false]) ⟨_, orcs_nil, ?_⟩ ?_
        · simp only [go_sem]
        refine run_block ?_
        replace h := bind_some1 h; obtain ⟨x_52, hx_53, hj_54⟩ := h
        refine run_loopO hx_53 (fun (v : Int) => (⟨asFr 106 [(1, .ref 0 0), (50, .sl false (L (cSl cU8) p_7.Queue)), (51, i64 ((p_7.Queue.length : Int))), (52, i64 v)], [.box [i64 p_7.Epoch, i64 p_7.Other, i64 p_7.First, .sl false (L (cSl cU8) p_7.Queue), i64 p_7.Next, .sl false (L cApi_Packet p_7.Early), i64 p_7.SentAt] false]⟩ : St)) (weak_sel [0] (by decide) rfl (by simp only [go_sem]) (by simp only [go_sem])) ?_
        rintro t_48 o_55 h hxx_56
        replace h : window_valid_b1 p_7 t_48 = some o_55 := h
        unfold window_valid_b1 at h
        refine run_textE hE [1, 50, 51, 52, 53] (fr' := [(1, .ref 0 0), (50, .sl false (L (cSl cU8) p_7.Queue)), (51, i64 ((p_7.Queue.length : Int))), (52, i64 t_48), (53, .bool ((decide (t_48 < (p_7.Queue.length : Int)))))]) (σ' := [.box [i64 p_7.Epoch, i64 p_7.Other, i64 p_7.First, .sl false (L (cSl cU8) p_7.Queue), i64 p_7.Next, .sl false (L cApi_Packet p_7.Early), i64 p_7.SentAt] false]) ⟨_, orcs_nil, ?_⟩ ?_
        · simp only [go_sem]
        refine run_seq ?_
        refine run_condL (b := (decide (t_48 < (p_7.Queue.length : Int)))) rfl (by decide) (fun hb => ?_) (fun hb => ?_)
        · replace h := ite_t h hb
          refine run_skip ?_
          refine thenK_n ?_
          refine run_seq ?_
          refine run_block ?_
          replace h := chk_some h; obtain ⟨hc_57, h⟩ := h
          refine run_textE hE [1, 4, 50, 51, 52] (fr' := [(1, .ref 0 0), (4, .sl false (L cU8 (nth p_7.Queue t_48.toNat))), (50, .sl false (L (cSl cU8) p_7.Queue)), (51, i64 ((p_7.Queue.length : Int))), (52, i64 t_48)]) (σ' := [.box [i64 p_7.Epoch, i64 p_7.Other, i64 p_7.First, .sl false (L (cSl cU8) p_7.Queue), i64 p_7.Next, .sl false (L cApi_Packet p_7.Early), i64 p_7.SentAt] false]) ⟨_, orcs_nil, ?_⟩ ?_
          · simp only [go_sem, Int.reduceToNat, hc_57, hc_57.2, lt_le hc_57.2]
          refine run_textE hE [1, 50, 51, 52, 58] (fr' := [(1, .ref 0 0), (50, .sl false (L (cSl cU8) p_7.Queue)), (51, i64 ((p_7.Queue.length : Int))), (52, i64 t_48), (58, .bool ((decide (((nth p_7.Queue t_48.toNat).length : Int) > 8000))))]) (σ' := [.box [i64 p_7.Epoch, i64 p_7.Other, i64 p_7.First, .sl false (L (cSl cU8) p_7.Queue), i64 p_7.Next, .sl false (L cApi_Packet p_7.Early), i64 p_7.SentAt] false]) ⟨_, orcs_nil, ?_⟩ ?_
          · simp only [go_sem]
          refine run_condL (b := (decide (((nth p_7.Queue t_48.toNat).length : Int) > 8000))) rfl (by decide) (fun hb => ?_) (fun hb => ?_)
          · replace h := ite_t h hb
            refine run_textE hE [2] (fr' := [(2, .bool false)]) (σ' := [.box [i64 p_7.Epoch, i64 p_7.Other, i64 p_7.First, .sl false (L (cSl cU8) p_7.Queue), i64 p_7.Next, .sl false (L cApi_Packet p_7.Early), i64 p_7.SentAt] false]) ⟨_, orcs_nil, ?_⟩ ?_
            · simp only [go_sem]
            refine run_ret ?_
            refine blockK_r ?_
            refine thenK_r ?_
            refine lpK_r ?_
            replace h := bind_some1 h; obtain ⟨z_59, h, e_z_59⟩ := h
            obtain rfl := Option.some.inj e_z_59
            have ex_z_59 := hxx_56 _ rfl
            subst ex_z_59
            obtain rfl := Option.some.inj hj_54
            refine blockK_r ?_
            refine joinK_r ?_
            replace h := bind_some1 h; obtain ⟨z_58, h, e_z_58⟩ := h
            obtain rfl := Option.some.inj e_z_58
            obtain rfl := Option.some.inj hj_44
            obtain rfl := Option.some.inj h
            refine wkP_of (Weak.refl _ _) ?_
            refine ret_ok (.inr rfl) ?_
            simp only [go_sem]
          · replace h := ite_f h hb
            refine run_skip ?_
            refine blockK_n ?_
            refine thenK_n ?_
            refine run_textE0 hE wk_lp [1, 50, 51, 52] (fr' := [(1, .ref 0 0), (50, .sl false (L (cSl cU8) p_7.Queue)), (51, i64 ((p_7.Queue.length : Int))), (52, i64 ((w64 (t_48 + 1))))]) (σ' := [.box [i64 p_7.Epoch, i64 p_7.Other, i64 p_7.First, .sl false (L (cSl cU8) p_7.Queue), i64 p_7.Next, .sl false (L cApi_Packet p_7.Early), i64 p_7.SentAt] false]) ⟨_, orcs_nil, ?_⟩ ?_
            · simp only [go_sem]
            obtain rfl := Option.some.inj h
            exact lpK_n ((w64 (t_48 + 1))) rfl (weak_sel [0] (by decide) rfl (by simp only [go_sem]) (by simp only [go_sem]))
        · replace h := ite_f h hb
          refine run_exit ?_
          refine thenK_x ?_
          obtain rfl := Option.some.inj h
          have ex_x_52 := hxx_56 _ rfl
          subst ex_x_52
          have h := hj_54; clear hj_54
          refine lpK_x ?_
          refine blockK_x ?_
          obtain rfl := Option.some.inj h
          exact joinK_n (()) rfl ((weak_sel (l' := [(1, .ref 0 0)]) (σ' := [.box [i64 p_7.Epoch, i64 p_7.Other, i64 p_7.First, .sl false (L (cSl cU8) p_7.Queue), i64 p_7.Next, .sl false (L cApi_Packet p_7.Early), i64 p_7.SentAt] false]) [0] (by decide) rfl (by simp only [go_sem]) (by simp only [go_sem])).trans (weak_sel [0] (by decide) rfl (by simp only [go_sem]) (by simp only [go_sem])))
      rintro ⟨⟩ rfl
      have h := hj_44; clear hj_44
      refine run_textE hE [1, 5] (fr' := [(1, .ref 0 0), (5, i64 p_7.Next)]) (σ' := [.box [i64 p_7.Epoch, i64 p_7.Other, i64 p_7.First, .sl false (L (cSl cU8) p_7.Queue), i64 p_7.Next, .sl false (L cApi_Packet p_7.Early), i64 p_7.SentAt] false]) ⟨_, orcs_nil, ?_⟩ ?_
      · simp only [go_sem]
      replace h := bind_some1 h; obtain ⟨j_117, hA_118, hj_119⟩ := h
      refine run_join (fun (v : Unit) => (⟨asFr 106 [], []⟩ : St)) (fun v => .inl v = j_117) ?_ ?_
      · have h := hA_118; clear hA_118
        refine run_textE hE [1, 5, 63, 64, 65] (fr' := [(1, .ref 0 0), (5, i64 p_7.Next), (63, .sl false (L cApi_Packet p_7.Early)), (64, i64 ((p_7.Early.length : Int))), (65, i64 0)]) (σ' := [.box [i64 p_7.Epoch, i64 p_7.Other, i64 p_7.First, .sl false (L (cSl cU8) p_7.Queue), i64 p_7.Next, .sl false (L cApi_Packet p_7.Early), i64 p_7.SentAt] false]) ⟨_, orcs_nil, ?_⟩ ?_
        · simp only [go_sem]
        refine run_block ?_
        replace h := bind_some1 h; obtain ⟨x_152, hx_153, hj_154⟩ := h
        refine run_loopO hx_153 (fun (v : Int × Int) => (⟨asFr 106 [(1, .ref 0 0), (5, i64 v.1), (63, .sl false (L cApi_Packet p_7.Early)), (64, i64 ((p_7.Early.length : Int))), (65, i64 v.2)], [.box [i64 p_7.Epoch, i64 p_7.Other, i64 p_7.First, .sl false (L (cSl cU8) p_7.Queue), i64 p_7.Next, .sl false (L cApi_Packet p_7.Early), i64 p_7.SentAt] false]⟩ : St)) (weak_sel [0] (by decide) rfl (by simp only [go_sem]) (by simp only [go_sem])) ?_
        rintro ⟨last_130, t_131⟩ o_155 h hxx_156
        replace h : window_valid_b2 p_7 last_130 t_131 = some o_155 := h
        unfold window_valid_b2 at h
        refine run_textE hE [1, 5, 63, 64, 65, 66] (fr' := [(1, .ref 0 0), (5, i64 last_130), (63, .sl false (L cApi_Packet p_7.Early)), (64, i64 ((p_7.Early.length : Int))), (65, i64 t_131), (66, .bool ((decide (t_131 < (p_7.Early.length : Int)))))]) (σ' := [.box [i64 p_7.Epoch, i64 p_7.Other, i64 p_7.First, .sl false (L (cSl cU8) p_7.Queue), i64 p_7.Next, .sl false (L cApi_Packet p_7.Early), i64 p_7.SentAt] false]) ⟨_, orcs_nil, ?_⟩ ?_
        · simp only [go_sem]
        refine run_seq ?_
        refine run_condL (b := (decide (t_131 < (p_7.Early.length : Int)))) rfl (by decide) (fun hb => ?_) (fun hb => ?_)
        · replace h := ite_t h hb
          refine run_skip ?_
          refine thenK_n ?_
          refine run_seq ?_
          refine run_block ?_
          replace h := chk_some h; obtain ⟨hc_157, h⟩ := h
          replace h := lt1_some h; obtain ⟨f_158, hz_163, h⟩ := h
          replace h := lt1_some h; obtain ⟨f_159, hz_164, h⟩ := h
          replace h := lt1_some h; obtain ⟨f_160, hz_165, h⟩ := h
          replace h := lt1_some h; obtain ⟨f_161, hz_166, h⟩ := h
          replace h := lt1_some h; obtain ⟨f_162, hz_167, h⟩ := h
          refine run_textE hE [1, 5, 7, 63, 64, 65] (fr' := [(1, .ref 0 0), (5, i64 last_130), (7, .ref 1 0), (63, .sl false (L cApi_Packet p_7.Early)), (64, i64 ((p_7.Early.length : Int))), (65, i64 t_131)]) (σ' := [.box [i64 p_7.Epoch, i64 p_7.Other, i64 p_7.First, .sl false (L (cSl cU8) p_7.Queue), i64 p_7.Next, .sl false (L cApi_Packet p_7.Early), i64 p_7.SentAt] false, .box [i64 f_158, i64 f_159, i64 f_160, i64 f_161, .sl false (L cU8 f_162)] false]) ⟨_, orcs_nil, ?_⟩ ?_
          · subst hz_167; subst hz_166; subst hz_165; subst hz_164; subst hz_163; simp only [go_sem, Int.reduceToNat, Nat.reduceLeDiff, hc_157, hc_157.2, lt_le hc_157.2]
          refine run_seq ?_
          replace h := bind_some1 h; obtain ⟨t_168, hv_169, h⟩ := h
          refine run_textW hE [1, 7, 63, 64, 65, 102] (fr' := [(1, .ref 0 0), (7, .ref 1 0), (63, .sl false (L cApi_Packet p_7.Early)), (64, i64 ((p_7.Early.length : Int))), (65, i64 t_131), (102, .bool t_168)]) (σ' := [.box [i64 p_7.Epoch, i64 p_7.Other, i64 p_7.First, .sl false (L (cSl cU8) p_7.Queue), i64 p_7.Next, .sl false (L cApi_Packet p_7.Early), i64 p_7.SentAt] false, .box [i64 f_158, i64 f_159, i64 f_160, i64 f_161, .sl false (L cU8 f_162)] false]) ?_ ?_
          · rcases Bool.eq_false_or_eq_true ((decide (f_160 ≤ last_130))) with hb_170 | hb_170
            · replace hv_169 := ite_t hv_169 hb_170
              have e_hv_169 := Option.some.inj hv_169; subst e_hv_169
              exact ⟨_, [(1, .ref 0 0), (7, .ref 1 0), (63, .sl false (L cApi_Packet p_7.Early)), (64, i64 ((p_7.Early.length : Int))), (65, i64 t_131), (102, .bool true)], [.box [i64 p_7.Epoch, i64 p_7.Other, i64 p_7.First, .sl false (L (cSl cU8) p_7.Queue), i64 p_7.Next, .sl false (L cApi_Packet p_7.Early), i64 p_7.SentAt] false, .box [i64 f_158, i64 f_159, i64 f_160, i64 f_161, .sl false (L cU8 f_162)] false], orcs_nil, by simp only [go_sem, hb_170], (weak_sel [0, 1] (by decide) rfl (by simp only [go_sem]) (by simp only [go_sem]))⟩
            · replace hv_169 := ite_f hv_169 hb_170
              rcases Bool.eq_false_or_eq_true ((decide (f_160 ≥ (mn64 ((w64 (p_7.Next + 64))) 1099511627776)))) with hb_171 | hb_171
              · replace hv_169 := ite_t hv_169 hb_171
                have e_hv_169 := Option.some.inj hv_169; subst e_hv_169
                exact ⟨_, [(1, .ref 0 0), (7, .ref 1 0), (63, .sl false (L cApi_Packet p_7.Early)), (64, i64 ((p_7.Early.length : Int))), (65, i64 t_131), (102, .bool true)], [.box [i64 p_7.Epoch, i64 p_7.Other, i64 p_7.First, .sl false (L (cSl cU8) p_7.Queue), i64 p_7.Next, .sl false (L cApi_Packet p_7.Early), i64 p_7.SentAt] false, .box [i64 f_158, i64 f_159, i64 f_160, i64 f_161, .sl false (L cU8 f_162)] false], orcs_nil, by simp only [go_sem, hb_170, hb_171], (weak_sel [0, 1] (by decide) rfl (by simp only [go_sem]) (by simp only [go_sem]))⟩
              · replace hv_169 := ite_f hv_169 hb_171
                rcases Bool.eq_false_or_eq_true ((decide ((f_162.length : Int) > 8000))) with hb_172 | hb_172
                · replace hv_169 := ite_t hv_169 hb_172
                  have e_hv_169 := Option.some.inj hv_169; subst e_hv_169
                  exact ⟨_, [(1, .ref 0 0), (7, .ref 1 0), (63, .sl false (L cApi_Packet p_7.Early)), (64, i64 ((p_7.Early.length : Int))), (65, i64 t_131), (102, .bool true)], [.box [i64 p_7.Epoch, i64 p_7.Other, i64 p_7.First, .sl false (L (cSl cU8) p_7.Queue), i64 p_7.Next, .sl false (L cApi_Packet p_7.Early), i64 p_7.SentAt] false, .box [i64 f_158, i64 f_159, i64 f_160, i64 f_161, .sl false (L cU8 f_162)] false], orcs_nil, by simp only [go_sem, hb_170, hb_171, hb_172], (weak_sel [0, 1] (by decide) rfl (by simp only [go_sem]) (by simp only [go_sem]))⟩
                · replace hv_169 := ite_f hv_169 hb_172
                  rcases Bool.eq_false_or_eq_true ((f_158 != 0)) with hb_173 | hb_173
                  · replace hv_169 := ite_t hv_169 hb_173
                    have e_hv_169 := Option.some.inj hv_169; subst e_hv_169
                    exact ⟨_, [(1, .ref 0 0), (7, .ref 1 0), (63, .sl false (L cApi_Packet p_7.Early)), (64, i64 ((p_7.Early.length : Int))), (65, i64 t_131), (102, .bool true)], [.box [i64 p_7.Epoch, i64 p_7.Other, i64 p_7.First, .sl false (L (cSl cU8) p_7.Queue), i64 p_7.Next, .sl false (L cApi_Packet p_7.Early), i64 p_7.SentAt] false, .box [i64 f_158, i64 f_159, i64 f_160, i64 f_161, .sl false (L cU8 f_162)] false], orcs_nil, by simp only [go_sem, hb_170, hb_171, hb_172, hb_173], (weak_sel [0, 1] (by decide) rfl (by simp only [go_sem]) (by simp only [go_sem]))⟩
                  · replace hv_169 := ite_f hv_169 hb_173
                    rcases Bool.eq_false_or_eq_true ((f_159 != 0)) with hb_174 | hb_174
                    · replace hv_169 := ite_t hv_169 hb_174
                      have e_hv_169 := Option.some.inj hv_169; subst e_hv_169
                      exact ⟨_, [(1, .ref 0 0), (7, .ref 1 0), (63, .sl false (L cApi_Packet p_7.Early)), (64, i64 ((p_7.Early.length : Int))), (65, i64 t_131), (102, .bool true)], [.box [i64 p_7.Epoch, i64 p_7.Other, i64 p_7.First, .sl false (L (cSl cU8) p_7.Queue), i64 p_7.Next, .sl false (L cApi_Packet p_7.Early), i64 p_7.SentAt] false, .box [i64 f_158, i64 f_159, i64 f_160, i64 f_161, .sl false (L cU8 f_162)] false], orcs_nil, by simp only [go_sem, hb_170, hb_171, hb_172, hb_173, hb_174], (weak_sel [0, 1] (by decide) rfl (by simp only [go_sem]) (by simp only [go_sem]))⟩
                    · replace hv_169 := ite_f hv_169 hb_174
                      have e_hv_169 := Option.some.inj hv_169; subst e_hv_169
                      exact ⟨_, [(1, .ref 0 0), (7, .ref 1 0), (63, .sl false (L cApi_Packet p_7.Early)), (64, i64 ((p_7.Early.length : Int))), (65, i64 t_131), (102, .bool ((f_161 != 0)))], [.box [i64 p_7.Epoch, i64 p_7.Other, i64 p_7.First, .sl false (L (cSl cU8) p_7.Queue), i64 p_7.Next, .sl false (L cApi_Packet p_7.Early), i64 p_7.SentAt] false, .box [i64 f_158, i64 f_159, i64 f_160, i64 f_161, .sl false (L cU8 f_162)] false], orcs_nil, by simp only [go_sem, hb_170, hb_171, hb_172, hb_173, hb_174], (weak_sel [0, 1] (by decide) rfl (by simp only [go_sem]) (by simp only [go_sem]))⟩
          refine run_condL (b := t_168) rfl (by decide) (fun hb => ?_) (fun hb => ?_)
          · replace h := ite_t h hb
            refine run_textE hE [2] (fr' := [(2, .bool false)]) (σ' := [.box [i64 p_7.Epoch, i64 p_7.Other, i64 p_7.First, .sl false (L (cSl cU8) p_7.Queue), i64 p_7.Next, .sl false (L cApi_Packet p_7.Early), i64 p_7.SentAt] false, .box [i64 f_158, i64 f_159, i64 f_160, i64 f_161, .sl false (L cU8 f_162)] false]) ⟨_, orcs_nil, ?_⟩ ?_
            · simp only [go_sem]
            refine run_ret ?_
            refine thenK_r ?_
            refine blockK_r ?_
            refine thenK_r ?_
            refine lpK_r ?_
            replace h := bind_some1 h; obtain ⟨z_176, h, e_z_176⟩ := h
            obtain rfl := Option.some.inj e_z_176
            have ex_z_176 := hxx_156 _ rfl
            subst ex_z_176
            obtain rfl := Option.some.inj hj_154
            refine blockK_r ?_
            refine joinK_r ?_
            replace h := bind_some1 h; obtain ⟨z_175, h, e_z_175⟩ := h
            obtain rfl := Option.some.inj e_z_175
            obtain rfl := Option.some.inj hj_119
            obtain rfl := Option.some.inj h
            refine wkP_of (Weak.refl _ _) ?_
            refine ret_ok (.inr rfl) ?_
            simp only [go_sem]
          · replace h := ite_f h hb
            refine run_skip ?_
            refine thenK_n ?_
            refine run_textE0 hE (wk_block wk_then) [1, 5, 63, 64, 65] (fr' := [(1, .ref 0 0), (5, i64 f_160), (63, .sl false (L cApi_Packet p_7.Early)), (64, i64 ((p_7.Early.length : Int))), (65, i64 t_131)]) (σ' := [.box [i64 p_7.Epoch, i64 p_7.Other, i64 p_7.First, .sl false (L (cSl cU8) p_7.Queue), i64 p_7.Next, .sl false (L cApi_Packet p_7.Early), i64 p_7.SentAt] false, .box [i64 f_158, i64 f_159, i64 f_160, i64 f_161, .sl false (L cU8 f_162)] false]) ⟨_, orcs_nil, ?_⟩ ?_
            · simp only [go_sem]
            refine blockK_n ?_
            refine thenK_n ?_
            refine run_textE0 hE wk_lp [1, 5, 63, 64, 65] (fr' := [(1, .ref 0 0), (5, i64 f_160), (63, .sl false (L cApi_Packet p_7.Early)), (64, i64 ((p_7.Early.length : Int))), (65, i64 ((w64 (t_131 + 1))))]) (σ' := [.box [i64 p_7.Epoch, i64 p_7.Other, i64 p_7.First, .sl false (L (cSl cU8) p_7.Queue), i64 p_7.Next, .sl false (L cApi_Packet p_7.Early), i64 p_7.SentAt] false, .box [i64 f_158, i64 f_159, i64 f_160, i64 f_161, .sl false (L cU8 f_162)] false]) ⟨_, orcs_nil, ?_⟩ ?_
            · simp only [go_sem]
            obtain rfl := Option.some.inj h
            exact lpK_n ((f_160, (w64 (t_131 + 1)))) rfl (weak_sel [0] (by decide) rfl (by simp only [go_sem]) (by simp only [go_sem]))
        · replace h := ite_f h hb
          refine run_exit ?_
          refine thenK_x ?_
          obtain rfl := Option.some.inj h
          have ex_x_152 := hxx_156 _ rfl
          subst ex_x_152
          have h := hj_154; clear hj_154
          refine lpK_x ?_
          refine blockK_x ?_
          obtain rfl := Option.some.inj h
          exact joinK_n (()) rfl ((weak_sel (l' := []) (σ' := []) [] (by decide) rfl (by simp only [go_sem]) (by simp only [go_sem])).trans (weak_sel [] (by decide) rfl (by simp only [go_sem]) (by simp only [go_sem])))
      rintro ⟨⟩ rfl
      have h := hj_119; clear hj_119
      refine run_textE hE [2] (fr' := [(2, .bool true)]) (σ' := []) ⟨_, orcs_nil, ?_⟩ ?_
      · simp only [go_sem]
      refine run_ret ?_
      obtain rfl := Option.some.inj h
      refine wkP_of (Weak.refl _ _) ?_
      refine ret_ok (.inr rfl) ?_
      simp only [go_sem]

end Go.Proofs.Ytomjphpnpcgacaa
/-
  The functions compute just that.
-/
namespace Go.Proofs.Ytomjphpnpcgacaa
open Go.Rv
set_option linter.unusedVariables false
set_option linter.unusedSimpArgs false
set_option maxRecDepth 20000
set_option maxHeartbeats 4000000

theorem window_New_con {epoch_177 : Int} {r : Api_Peer × Int} (h : window_New epoch_177 = some r) : Con B 12 [i64 epoch_177] [] (fun r' σ' => r' = .tup [.agg [i64 r.1.Epoch, i64 r.1.Other, i64 r.1.First, .sl false (L (cSl cU8) r.1.Queue), i64 r.1.Next, .sl false (L cApi_Packet r.1.Early), i64 r.1.SentAt], i64 r.2] ∧ σ' = []) := by
  refine con_walk (N := 10) (rs := [.cell 2 25, .tmp 3]) ok Try.func12 rfl (by decide +kernel) rfl rfl (Nat.le_of_ble_eq_true rfl) (fun F => ?_)
  have hE := ok.env F
  unfold window_New at h
  show Run (B.env F) 0 _ ⟨asFr 10 [(0, i64 epoch_177)], []⟩ _
  refine run_wkP ?_
  refine run_textE hE [0, 2] (fr' := [(0, i64 epoch_177), (2, .ref 0 0)]) (σ' := [.box [i64 0, i64 0, i64 0, .sl true (L (cSl cU8) ([])), i64 0, .sl true (L cApi_Packet ([])), i64 0] false]) ⟨_, orcs_nil, ?_⟩ ?_
  · simp only [go_sem]
  refine run_seq ?_
  replace h := bind_some1 h; obtain ⟨y_178, hy_179, h⟩ := h
  refine run_textE hE [0, 2, 6] (fr' := [(0, i64 epoch_177), (2, .ref 0 0), (6, .bool ((!y_178)))]) (σ' := [.box [i64 0, i64 0, i64 0, .sl true (L (cSl cU8) ([])), i64 0, .sl true (L cApi_Packet ([])), i64 0] false]) ⟨_, orcs_ok (l := [(5, 35, [i64 epoch_177, i64 0, i64 1073741824], .bool y_178)]) ⟨window_between_con  hy_179, trivial⟩, ?_⟩ ?_
  · simp only [go_sem]
  refine run_condL (b := (!y_178)) rfl (by decide) (fun hb => ?_) (fun hb => ?_)
  · replace h := ite_t h hb
    refine run_textE hE [2, 3] (fr' := [(2, .ref 0 0), (3, i64 1)]) (σ' := [.box [i64 0, i64 0, i64 0, .sl true (L (cSl cU8) ([])), i64 0, .sl true (L cApi_Packet ([])), i64 0] false]) ⟨_, orcs_nil, ?_⟩ ?_
    · simp only [go_sem, Nat.reduceGT, Nat.reduceLeDiff]
    refine run_ret ?_
    refine thenK_r ?_
    obtain rfl := Option.some.inj h
    refine wkP_of (Weak.refl _ _) ?_
    refine ret_ok (.inr rfl) ?_
    simp only [go_sem]
  · replace h := ite_f h hb
    refine run_skip ?_
    refine thenK_n ?_
    refine run_textE hE [2, 3] (fr' := [(2, .ref 0 0), (3, i64 0)]) (σ' := [.box [i64 epoch_177, i64 ((-1)), i64 0, .sl true (L (cSl cU8) ([])), i64 0, .sl true (L cApi_Packet ([])), i64 ((-1))] false]) ⟨_, orcs_nil, ?_⟩ ?_
    · simp only [go_sem, Nat.reduceGT, Nat.reduceLeDiff]
    refine run_ret ?_
    obtain rfl := Option.some.inj h
    refine wkP_of (Weak.refl _ _) ?_
    refine ret_ok (.inr rfl) ?_
    simp only [go_sem]

theorem window_own_con {b_180 : List UInt8} {r : List UInt8} (h : window_own b_180 = some r) : Con B 39 [.sl false (L cU8 b_180)] [] (fun r' σ' => r' = .sl false (L cU8 r) ∧ σ' = []) := by
  refine con_walk (N := 11) (rs := [.tmp 2]) ok Try.func39 rfl (by decide +kernel) rfl rfl (Nat.le_of_ble_eq_true rfl) (fun F => ?_)
  have hE := ok.env F
  unfold window_own at h
  show Run (B.env F) 0 _ ⟨asFr 11 [(0, .sl false (L cU8 b_180))], []⟩ _
  refine run_wkP ?_
  refine run_textE hE [0] (fr' := [(0, .sl false (L cU8 b_180))]) (σ' := []) ⟨_, orcs_nil, ?_⟩ ?_
  · simp only [go_sem]
  replace h := chk_some h; obtain ⟨hc_181, h⟩ := h
  replace h := lt1_some h; obtain ⟨l_182, hz_183, h⟩ := h
  refine run_textE hE [0, 3] (fr' := [(0, .sl false (L cU8 b_180)), (3, .bs true 0 (l_182.length) 0 (l_182.length))]) (σ' := [.buf 1 (L cU8 l_182) false]) ⟨_, orcs_nil, ?_⟩ ?_
  · subst hz_183; simp only [go_sem, Nat.reduceBEq, Nat.reduceMul, Nat.reduceSub, Nat.reduceGT, Nat.reducePow, Nat.reduceLeDiff, Int.reduceToNat, hc_181]
  replace h := lt1_some h; obtain ⟨l_184, hz_185, h⟩ := h
  refine run_textE hE [3] (fr' := [(3, .bs true 0 (l_184.length) 0 (l_184.length))]) (σ' := [.buf 1 (L cU8 l_184) false]) ⟨_, orcs_nil, ?_⟩ ?_
  · subst hz_185; simp only [go_sem]
  refine run_textE hE [2] (fr' := [(2, .bs true 0 (l_184.length) 0 (l_184.length))]) (σ' := [.buf 1 (L cU8 l_184) false]) ⟨_, orcs_nil, ?_⟩ ?_
  · simp only [go_sem]
  refine run_ret ?_
  obtain rfl := Option.some.inj h
  refine wkP_of (Weak.refl _ _) ?_
  refine ret_ok (.inr rfl) ?_
  simp only [go_sem]

theorem slices_Clone_38_con {s_186 : List (List UInt8)} {r : List (List UInt8)} (h : slices_Clone_38 s_186 = some r) : Con B 38 [.sl false (L (cSl cU8) s_186)] [] (fun r' σ' => r' = .bs false 0 (r.length) 0 (r.length) ∧ σ' = [.buf 1 (L (cSl cU8) r) false]) := by
  refine con_walk_own (N := 8) (rs := [.tmp 2]) 0 rfl ok Try.func38 rfl (by decide +kernel) rfl rfl (Nat.le_of_ble_eq_true rfl) (fun F => ?_)
  have hE := ok.env F
  unfold slices_Clone_38 at h
  show Run (B.env F) 0 _ ⟨asFr 8 [(0, .sl false (L (cSl cU8) s_186))], []⟩ _
  refine run_wkP ?_
  refine run_textE hE [0] (fr' := [(0, .sl false (L (cSl cU8) s_186))]) (σ' := []) ⟨_, orcs_nil, ?_⟩ ?_
  · simp only [go_sem]
  refine run_seq ?_
  refine run_nilcmp hE 0 3 4 22 26 rfl rfl rfl rfl rfl rfl rfl (by decide) Try.underlying22 (fun b_ hb_ => ?_)
  cases b_
  · refine run_condL (b := false) rfl (by decide) (fun hb => ?_) (fun hb => ?_)
    · cases hb
    · refine run_skip ?_
      refine thenK_n ?_
      replace h := chk_some h; obtain ⟨hc_191, h⟩ := h
      have hcn_192 := hc_191; simp only [List.cons_append, List.nil_append, List.length_append, List.length_cons, List.length_nil, Nat.zero_add, Nat.reduceAdd] at hcn_192
      replace h := lt1_some h; obtain ⟨l_193, hz_194, h⟩ := h
      refine run_textE hE [2] (fr' := [(2, .bs false 0 (l_193.length) 0 (l_193.length))]) (σ' := [.buf 1 (L (cSl cU8) l_193) false]) ⟨_, orcs_nil, ?_⟩ ?_
      · subst hz_194; simp only [go_sem, Nat.reduceBEq, Nat.reduceMul, Nat.reduceSub, Nat.reduceGT, Nat.reducePow, Nat.reduceLeDiff, Int.reduceToNat, hc_191, hcn_192]
      refine run_ret ?_
      obtain rfl := Option.some.inj h
      refine wkP_of (Weak.refl _ _) ?_
      refine ret_own (.inr rfl) [0] (by decide) rfl ?_ ?_
      · simp only [go_sem]
      · simp only [go_sem]
  · obtain rfl : s_186 = [] := List.map_eq_nil_iff.1 (hb_ rfl)
    replace h : some ([]) = some r := by first | exact h | (split at h <;> first | exact h | cases h)
    refine run_condL (b := true) rfl (by decide) (fun hb => ?_) (fun hb => ?_)
    · refine run_textE hE [2] (fr' := [(2, .sl true (L (cSl cU8) ([])))]) (σ' := []) ⟨_, orcs_nil, ?_⟩ ?_
      · simp only [go_sem]
      refine run_weak (weak_nil 2 1 rfl) ?_
      refine run_ret ?_
      refine thenK_r ?_
      obtain rfl := Option.some.inj h
      refine wkP_of (Weak.refl _ _) ?_
      refine ret_own (.inr rfl) [0] (by decide) rfl ?_ ?_
      · simp only [go_sem]
      · simp only [go_sem]
    · cases hb

theorem slices_Clone_59_con {s_195 : List Api_Packet} {r : List Api_Packet} (h : slices_Clone_59 s_195 = some r) : Con B 59 [.sl false (L cApi_Packet s_195)] [] (fun r' σ' => r' = .bs false 0 (r.length) 0 (r.length) ∧ σ' = [.buf 5 (L cApi_Packet r) false]) := by
  refine con_walk_own (N := 8) (rs := [.tmp 2]) 0 rfl ok Try.func59 rfl (by decide +kernel) rfl rfl (Nat.le_of_ble_eq_true rfl) (fun F => ?_)
  have hE := ok.env F
  unfold slices_Clone_59 at h
  show Run (B.env F) 0 _ ⟨asFr 8 [(0, .sl false (L cApi_Packet s_195))], []⟩ _
  refine run_wkP ?_
  refine run_textE hE [0] (fr' := [(0, .sl false (L cApi_Packet s_195))]) (σ' := []) ⟨_, orcs_nil, ?_⟩ ?_
  · simp only [go_sem]
  refine run_seq ?_
  refine run_nilcmp hE 0 3 4 23 39 rfl rfl rfl rfl rfl rfl rfl (by decide) Try.underlying23 (fun b_ hb_ => ?_)
  cases b_
  · refine run_condL (b := false) rfl (by decide) (fun hb => ?_) (fun hb => ?_)
    · cases hb
    · refine run_skip ?_
      refine thenK_n ?_
      replace h := chk_some h; obtain ⟨hc_200, h⟩ := h
      have hcn_201 := hc_200; simp only [List.cons_append, List.nil_append, List.length_append, List.length_cons, List.length_nil, Nat.zero_add, Nat.reduceAdd] at hcn_201
      replace h := lt1_some h; obtain ⟨l_202, hz_203, h⟩ := h
      refine run_textE hE [2] (fr' := [(2, .bs false 0 (l_202.length) 0 (l_202.length))]) (σ' := [.buf 5 (L cApi_Packet l_202) false]) ⟨_, orcs_nil, ?_⟩ ?_
      · subst hz_203; simp only [go_sem, Nat.reduceBEq, Nat.reduceMul, Nat.reduceSub, Nat.reduceGT, Nat.reducePow, Nat.reduceLeDiff, Int.reduceToNat, hc_200, hcn_201]
      refine run_ret ?_
      obtain rfl := Option.some.inj h
      refine wkP_of (Weak.refl _ _) ?_
      refine ret_own (.inr rfl) [0] (by decide) rfl ?_ ?_
      · simp only [go_sem]
      · simp only [go_sem]
  · obtain rfl : s_195 = [] := List.map_eq_nil_iff.1 (hb_ rfl)
    replace h : some ([]) = some r := by first | exact h | (split at h <;> first | exact h | cases h)
    refine run_condL (b := true) rfl (by decide) (fun hb => ?_) (fun hb => ?_)
    · refine run_textE hE [2] (fr' := [(2, .sl true (L cApi_Packet ([])))]) (σ' := []) ⟨_, orcs_nil, ?_⟩ ?_
      · simp only [go_sem]
      refine run_weak (weak_nil 2 5 rfl) ?_
      refine run_ret ?_
      refine thenK_r ?_
      obtain rfl := Option.some.inj h
      refine wkP_of (Weak.refl _ _) ?_
      refine ret_own (.inr rfl) [0] (by decide) rfl ?_ ?_
      · simp only [go_sem]
      · simp only [go_sem]
    · cases hb

theorem window_Offer_con {p_204 : Api_Peer} {data_205 : List UInt8} {r : Api_Peer × Int} (h : window_Offer p_204 data_205 = some r) : Con B 14 [.agg [i64 p_204.Epoch, i64 p_204.Other, i64 p_204.First, .sl false (L (cSl cU8) p_204.Queue), i64 p_204.Next, .sl false (L cApi_Packet p_204.Early), i64 p_204.SentAt], .sl false (L cU8 data_205)] [] (fun r' σ' => r' = .tup [.agg [i64 r.1.Epoch, i64 r.1.Other, i64 r.1.First, .sl false (L (cSl cU8) r.1.Queue), i64 r.1.Next, .sl false (L cApi_Packet r.1.Early), i64 r.1.SentAt], i64 r.2] ∧ σ' = []) := by
  refine con_walk (N := 40) (rs := [.cell 4 25, .tmp 5]) ok Try.func14 rfl (by decide +kernel) rfl rfl (Nat.le_of_ble_eq_true rfl) (fun F => ?_)
  have hE := ok.env F
  unfold window_Offer at h
  show Run (B.env F) 0 _ ⟨asFr 40 [(0, .agg [i64 p_204.Epoch, i64 p_204.Other, i64 p_204.First, .sl false (L (cSl cU8) p_204.Queue), i64 p_204.Next, .sl false (L cApi_Packet p_204.Early), i64 p_204.SentAt]), (1, .sl false (L cU8 data_205))], []⟩ _
  refine run_wkP ?_
  refine run_textE hE [1, 2, 4] (fr' := [(1, .sl false (L cU8 data_205)), (2, .ref 0 0), (4, .ref 1 0)]) (σ' := [.box [i64 p_204.Epoch, i64 p_204.Other, i64 p_204.First, .sl false (L (cSl cU8) p_204.Queue), i64 p_204.Next, .sl false (L cApi_Packet p_204.Early), i64 p_204.SentAt] false, .box [i64 0, i64 0, i64 0, .sl true (L (cSl cU8) ([])), i64 0, .sl true (L cApi_Packet ([])), i64 0] false]) ⟨_, orcs_nil, ?_⟩ ?_
  · simp only [go_sem]
  refine run_seq ?_
  refine run_block ?_
  replace h := bind_some1 h; obtain ⟨y_206, hy_207, h⟩ := h
  refine run_textE hE [1, 2, 4, 6] (fr' := [(1, .sl false (L cU8 data_205)), (2, .ref 0 0), (4, .ref 1 0), (6, .bool ((!y_206)))]) (σ' := [.box [i64 p_204.Epoch, i64 p_204.Other, i64 p_204.First, .sl false (L (cSl cU8) p_204.Queue), i64 p_204.Next, .sl false (L cApi_Packet p_204.Early), i64 p_204.SentAt] false, .box [i64 0, i64 0, i64 0, .sl true (L (cSl cU8) ([])), i64 0, .sl true (L cApi_Packet ([])), i64 0] false]) ⟨_, orcs_ok (l := [(8, 37, [.agg [i64 p_204.Epoch, i64 p_204.Other, i64 p_204.First, .sl false (L (cSl cU8) p_204.Queue), i64 p_204.Next, .sl false (L cApi_Packet p_204.Early), i64 p_204.SentAt]], .bool y_206)]) ⟨window_valid_con  hy_207, trivial⟩, ?_⟩ ?_
  · simp only [go_sem]
  refine run_condL (b := (!y_206)) rfl (by decide) (fun hb => ?_) (fun hb => ?_)
  · replace h := ite_t h hb
    refine run_textE hE [4, 5] (fr' := [(4, .ref 1 0), (5, i64 1)]) (σ' := [.box [i64 p_204.Epoch, i64 p_204.Other, i64 p_204.First, .sl false (L (cSl cU8) p_204.Queue), i64 p_204.Next, .sl false (L cApi_Packet p_204.Early), i64 p_204.SentAt] false, .box [i64 0, i64 0, i64 0, .sl true (L (cSl cU8) ([])), i64 0, .sl true (L cApi_Packet ([])), i64 0] false]) ⟨_, orcs_nil, ?_⟩ ?_
    · simp only [go_sem, Nat.reduceGT, Nat.reduceLeDiff]
    refine run_ret ?_
    refine blockK_r ?_
    refine thenK_r ?_
    obtain rfl := Option.some.inj h
    refine wkP_of (Weak.refl _ _) ?_
    refine ret_ok (.inr rfl) ?_
    simp only [go_sem]
  · replace h := ite_f h hb
    refine run_textE hE [1, 2, 4, 11] (fr' := [(1, .sl false (L cU8 data_205)), (2, .ref 0 0), (4, .ref 1 0), (11, .bool ((decide ((data_205.length : Int) > 8000))))]) (σ' := [.box [i64 p_204.Epoch, i64 p_204.Other, i64 p_204.First, .sl false (L (cSl cU8) p_204.Queue), i64 p_204.Next, .sl false (L cApi_Packet p_204.Early), i64 p_204.SentAt] false, .box [i64 0, i64 0, i64 0, .sl true (L (cSl cU8) ([])), i64 0, .sl true (L cApi_Packet ([])), i64 0] false]) ⟨_, orcs_nil, ?_⟩ ?_
    · simp only [go_sem]
    refine run_condL (b := (decide ((data_205.length : Int) > 8000))) rfl (by decide) (fun hb => ?_) (fun hb => ?_)
    · replace h := ite_t h hb
      refine run_textE hE [4, 5] (fr' := [(4, .ref 1 0), (5, i64 2)]) (σ' := [.box [i64 p_204.Epoch, i64 p_204.Other, i64 p_204.First, .sl false (L (cSl cU8) p_204.Queue), i64 p_204.Next, .sl false (L cApi_Packet p_204.Early), i64 p_204.SentAt] false, .box [i64 0, i64 0, i64 0, .sl true (L (cSl cU8) ([])), i64 0, .sl true (L cApi_Packet ([])), i64 0] false]) ⟨_, orcs_nil, ?_⟩ ?_
      · simp only [go_sem, Nat.reduceGT, Nat.reduceLeDiff]
      refine run_ret ?_
      refine blockK_r ?_
      refine thenK_r ?_
      obtain rfl := Option.some.inj h
      refine wkP_of (Weak.refl _ _) ?_
      refine ret_ok (.inr rfl) ?_
      simp only [go_sem]
    · replace h := ite_f h hb
      replace h := bind_some1 h; obtain ⟨t_208, hv_209, h⟩ := h
      refine run_textW hE [1, 2, 4, 16] (fr' := [(1, .sl false (L cU8 data_205)), (2, .ref 0 0), (4, .ref 1 0), (16, .bool t_208)]) (σ' := [.box [i64 p_204.Epoch, i64 p_204.Other, i64 p_204.First, .sl false (L (cSl cU8) p_204.Queue), i64 p_204.Next, .sl false (L cApi_Packet p_204.Early), i64 p_204.SentAt] false, .box [i64 0, i64 0, i64 0, .sl true (L (cSl cU8) ([])), i64 0, .sl true (L cApi_Packet ([])), i64 0] false]) ?_ ?_
      · rcases Bool.eq_false_or_eq_true (((p_204.Queue.length : Int) == 256)) with hb_210 | hb_210
        · replace hv_209 := ite_t hv_209 hb_210
          have e_hv_209 := Option.some.inj hv_209; subst e_hv_209
          exact ⟨_, [(1, .sl false (L cU8 data_205)), (2, .ref 0 0), (4, .ref 1 0), (16, .bool true)], [.box [i64 p_204.Epoch, i64 p_204.Other, i64 p_204.First, .sl false (L (cSl cU8) p_204.Queue), i64 p_204.Next, .sl false (L cApi_Packet p_204.Early), i64 p_204.SentAt] false, .box [i64 0, i64 0, i64 0, .sl true (L (cSl cU8) ([])), i64 0, .sl true (L cApi_Packet ([])), i64 0] false], orcs_nil, by simp only [go_sem, hb_210], (weak_sel [0, 1] (by decide) rfl (by simp only [go_sem]) (by simp only [go_sem]))⟩
        · replace hv_209 := ite_f hv_209 hb_210
          have e_hv_209 := Option.some.inj hv_209; subst e_hv_209
          exact ⟨_, [(1, .sl false (L cU8 data_205)), (2, .ref 0 0), (4, .ref 1 0), (16, .bool (((w64 (p_204.First + (p_204.Queue.length : Int))) == 1099511627776)))], [.box [i64 p_204.Epoch, i64 p_204.Other, i64 p_204.First, .sl false (L (cSl cU8) p_204.Queue), i64 p_204.Next, .sl false (L cApi_Packet p_204.Early), i64 p_204.SentAt] false, .box [i64 0, i64 0, i64 0, .sl true (L (cSl cU8) ([])), i64 0, .sl true (L cApi_Packet ([])), i64 0] false], orcs_nil, by simp only [go_sem, hb_210], (weak_sel [0, 1] (by decide) rfl (by simp only [go_sem]) (by simp only [go_sem]))⟩
      refine run_condL (b := t_208) rfl (by decide) (fun hb => ?_) (fun hb => ?_)
      · replace h := ite_t h hb
        refine run_textE hE [4, 5] (fr' := [(4, .ref 1 0), (5, i64 120)]) (σ' := [.box [i64 p_204.Epoch, i64 p_204.Other, i64 p_204.First, .sl false (L (cSl cU8) p_204.Queue), i64 p_204.Next, .sl false (L cApi_Packet p_204.Early), i64 p_204.SentAt] false, .box [i64 0, i64 0, i64 0, .sl true (L (cSl cU8) ([])), i64 0, .sl true (L cApi_Packet ([])), i64 0] false]) ⟨_, orcs_nil, ?_⟩ ?_
        · simp only [go_sem, Nat.reduceGT, Nat.reduceLeDiff]
        refine run_ret ?_
        refine blockK_r ?_
        refine thenK_r ?_
        obtain rfl := Option.some.inj h
        refine wkP_of (Weak.refl _ _) ?_
        refine ret_ok (.inr rfl) ?_
        simp only [go_sem]
      · replace h := ite_f h hb
        refine run_skip ?_
        refine blockK_n ?_
        refine thenK_n ?_
        replace h := bind_some1 h; obtain ⟨y_211, hy_213, h⟩ := h
        replace h := bind_some1 h; obtain ⟨y_212, hy_214, h⟩ := h
        replace h := chk_some h; obtain ⟨hc_215, h⟩ := h
        replace h := lt1_some h; obtain ⟨l_216, hz_217, h⟩ := h
        refine run_textE hE [2, 4] (fr' := [(2, .ref 0 0), (4, .ref 1 0)]) (σ' := [.box [i64 p_204.Epoch, i64 p_204.Other, i64 p_204.First, .bs false 2 (l_216.length) 0 (l_216.length), i64 p_204.Next, .sl false (L cApi_Packet p_204.Early), i64 p_204.SentAt] false, .box [i64 0, i64 0, i64 0, .sl true (L (cSl cU8) ([])), i64 0, .sl true (L cApi_Packet ([])), i64 0] false, .buf 1 (L (cSl cU8) l_216) false, .buf 1 (L (cSl cU8) (([y_212] : List (List UInt8)))) false]) ⟨_, orcs_ok2 (l := [(35, 39, [.sl false (L cU8 data_205)], .sl false (L cU8 y_212))]) (m := [(33, 38, [.sl false (L (cSl cU8) p_204.Queue)], [.box [i64 p_204.Epoch, i64 p_204.Other, i64 p_204.First, .sl false (L (cSl cU8) p_204.Queue), i64 p_204.Next, .sl false (L cApi_Packet p_204.Early), i64 p_204.SentAt] false, .box [i64 0, i64 0, i64 0, .sl true (L (cSl cU8) ([])), i64 0, .sl true (L cApi_Packet ([])), i64 0] false], .bs false 2 (y_211.length) 0 (y_211.length), [.box [i64 p_204.Epoch, i64 p_204.Other, i64 p_204.First, .sl false (L (cSl cU8) p_204.Queue), i64 p_204.Next, .sl false (L cApi_Packet p_204.Early), i64 p_204.SentAt] false, .box [i64 0, i64 0, i64 0, .sl true (L (cSl cU8) ([])), i64 0, .sl true (L cApi_Packet ([])), i64 0] false, .buf 1 (L (cSl cU8) y_211) false])]) ⟨window_own_con  hy_214, trivial⟩ ⟨(wcon_call (slices_Clone_38_con hy_213) [] (by decide) (by simp only [go_sem]) (by simp only [go_sem]) (by simp only [go_sem]) (by simp only [go_sem]) (by simp only [go_sem])), trivial⟩, ?_⟩ ?_
        · subst hz_217; simp only [go_sem, Nat.reduceBEq, Nat.reduceMul, Nat.reduceSub, Nat.reduceGT, Nat.reducePow, Nat.reduceLeDiff, Int.reduceToNat, hc_215]
        refine run_textE hE [4, 5] (fr' := [(4, .ref 1 0), (5, i64 0)]) (σ' := [.box [i64 p_204.Epoch, i64 p_204.Other, i64 p_204.First, .bs false 2 (l_216.length) 0 (l_216.length), i64 p_204.Next, .sl false (L cApi_Packet p_204.Early), i64 p_204.SentAt] false, .box [i64 p_204.Epoch, i64 p_204.Other, i64 p_204.First, .bs false 2 (l_216.length) 0 (l_216.length), i64 p_204.Next, .sl false (L cApi_Packet p_204.Early), i64 p_204.SentAt] false, .buf 1 (L (cSl cU8) l_216) false, .buf 1 (L (cSl cU8) (([y_212] : List (List UInt8)))) false]) ⟨_, orcs_nil, ?_⟩ ?_
        · simp only [go_sem, Nat.reduceLeDiff]
        refine run_ret ?_
        obtain rfl := Option.some.inj h
        refine wkP_of (Weak.refl _ _) ?_
        refine ret_ok (.inr rfl) ?_
        simp only [go_sem]

end Go.Proofs.Ytomjphpnpcgacaa
/-
  The functions compute just that.
-/
namespace Go.Proofs.Ytomjphpnpcgacaa
open Go.Rv
set_option linter.unusedVariables false
set_option linter.unusedSimpArgs false
set_option maxRecDepth 20000
set_option maxHeartbeats 4000000

theorem window_Emit_con {p_218 : Api_Peer} {now_219 : Int} {r : Api_Peer × List Api_Packet} (h : window_Emit p_218 now_219 = some r) : Con B 16 [.agg [i64 p_218.Epoch, i64 p_218.Other, i64 p_218.First, .sl false (L (cSl cU8) p_218.Queue), i64 p_218.Next, .sl false (L cApi_Packet p_218.Early), i64 p_218.SentAt], i64 now_219] [] (fun r' σ' => r' = .tup [.agg [i64 r.1.Epoch, i64 r.1.Other, i64 r.1.First, .sl false (L (cSl cU8) r.1.Queue), i64 r.1.Next, .sl false (L cApi_Packet r.1.Early), i64 r.1.SentAt], .sl false (L cApi_Packet r.2)] ∧ σ' = []) := by
  refine con_walk (N := 86) (rs := [.cell 4 25, .tmp 5]) ok Try.func16 rfl (by decide +kernel) rfl rfl (Nat.le_of_ble_eq_true rfl) (fun F => ?_)
  have hE := ok.env F
  unfold window_Emit at h
  show Run (B.env F) 0 _ ⟨asFr 86 [(0, .agg [i64 p_218.Epoch, i64 p_218.Other, i64 p_218.First, .sl false (L (cSl cU8) p_218.Queue), i64 p_218.Next, .sl false (L cApi_Packet p_218.Early), i64 p_218.SentAt]), (1, i64 now_219)], []⟩ _
  refine run_wkP ?_
  refine run_textE hE [1, 2, 4] (fr' := [(1, i64 now_219), (2, .ref 0 0), (4, .ref 1 0)]) (σ' := [.box [i64 p_218.Epoch, i64 p_218.Other, i64 p_218.First, .sl false (L (cSl cU8) p_218.Queue), i64 p_218.Next, .sl false (L cApi_Packet p_218.Early), i64 p_218.SentAt] false, .box [i64 0, i64 0, i64 0, .sl true (L (cSl cU8) ([])), i64 0, .sl true (L cApi_Packet ([])), i64 0] false]) ⟨_, orcs_nil, ?_⟩ ?_
  · simp only [go_sem]
  refine run_seq ?_
  replace h := bind_some1 h; obtain ⟨t_222, hv_223, h⟩ := h
  refine run_textW hE [1, 2, 4, 19] (fr' := [(1, i64 now_219), (2, .ref 0 0), (4, .ref 1 0), (19, .bool t_222)]) (σ' := [.box [i64 p_218.Epoch, i64 p_218.Other, i64 p_218.First, .sl false (L (cSl cU8) p_218.Queue), i64 p_218.Next, .sl false (L cApi_Packet p_218.Early), i64 p_218.SentAt] false, .box [i64 0, i64 0, i64 0, .sl true (L (cSl cU8) ([])), i64 0, .sl true (L cApi_Packet ([])), i64 0] false]) ?_ ?_
  · replace hv_223 := bind_some1 hv_223; obtain ⟨y_220, hy_224, hv_223⟩ := hv_223
    rcases Bool.eq_false_or_eq_true ((!y_220)) with hb_225 | hb_225
    · replace hv_223 := ite_t hv_223 hb_225
      have e_hv_223 := Option.some.inj hv_223; subst e_hv_223
      exact ⟨_, [(1, i64 now_219), (2, .ref 0 0), (4, .ref 1 0), (19, .bool true)], [.box [i64 p_218.Epoch, i64 p_218.Other, i64 p_218.First, .sl false (L (cSl cU8) p_218.Queue), i64 p_218.Next, .sl false (L cApi_Packet p_218.Early), i64 p_218.SentAt] false, .box [i64 0, i64 0, i64 0, .sl true (L (cSl cU8) ([])), i64 0, .sl true (L cApi_Packet ([])), i64 0] false], orcs_ok (l := [(13, 37, [.agg [i64 p_218.Epoch, i64 p_218.Other, i64 p_218.First, .sl false (L (cSl cU8) p_218.Queue), i64 p_218.Next, .sl false (L cApi_Packet p_218.Early), i64 p_218.SentAt]], .bool y_220)]) ⟨window_valid_con  hy_224, trivial⟩, by simp only [go_sem, hb_225], (weak_sel [0, 1] (by decide) rfl (by simp only [go_sem]) (by simp only [go_sem]))⟩
    · replace hv_223 := ite_f hv_223 hb_225
      replace hv_223 := bind_some1 hv_223; obtain ⟨y_221, hy_226, hv_223⟩ := hv_223
      have e_hv_223 := Option.some.inj hv_223; subst e_hv_223
      exact ⟨_, [(1, i64 now_219), (2, .ref 0 0), (4, .ref 1 0), (19, .bool ((!y_221)))], [.box [i64 p_218.Epoch, i64 p_218.Other, i64 p_218.First, .sl false (L (cSl cU8) p_218.Queue), i64 p_218.Next, .sl false (L cApi_Packet p_218.Early), i64 p_218.SentAt] false, .box [i64 0, i64 0, i64 0, .sl true (L (cSl cU8) ([])), i64 0, .sl true (L cApi_Packet ([])), i64 0] false], orcs_ok (l := [(13, 37, [.agg [i64 p_218.Epoch, i64 p_218.Other, i64 p_218.First, .sl false (L (cSl cU8) p_218.Queue), i64 p_218.Next, .sl false (L cApi_Packet p_218.Early), i64 p_218.SentAt]], .bool y_220), (17, 35, [i64 now_219, i64 0, i64 1073741824], .bool y_221)]) ⟨window_valid_con  hy_224, window_between_con  hy_226, trivial⟩, by simp only [go_sem, hb_225], (weak_sel [0, 1] (by decide) rfl (by simp only [go_sem]) (by simp only [go_sem]))⟩
  refine run_condL (b := t_222) rfl (by decide) (fun hb => ?_) (fun hb => ?_)
  · replace h := ite_t h hb
    refine run_textE hE [4, 5] (fr' := [(4, .ref 1 0), (5, .sl true (L cApi_Packet ([])))]) (σ' := [.box [i64 p_218.Epoch, i64 p_218.Other, i64 p_218.First, .sl false (L (cSl cU8) p_218.Queue), i64 p_218.Next, .sl false (L cApi_Packet p_218.Early), i64 p_218.SentAt] false, .box [i64 p_218.Epoch, i64 p_218.Other, i64 p_218.First, .sl false (L (cSl cU8) p_218.Queue), i64 p_218.Next, .sl false (L cApi_Packet p_218.Early), i64 p_218.SentAt] false]) ⟨_, orcs_nil, ?_⟩ ?_
    · simp only [go_sem, Nat.reduceLeDiff]
    refine run_ret ?_
    refine thenK_r ?_
    obtain rfl := Option.some.inj h
    refine wkP_of (Weak.refl _ _) ?_
    refine ret_ok (.inr rfl) ?_
    simp only [go_sem]
  · replace h := ite_f h hb
    refine run_skip ?_
    refine thenK_n ?_
    refine run_textE hE [1, 2, 4, 6] (fr' := [(1, i64 now_219), (2, .ref 0 0), (4, .ref 1 0), (6, .ref 2 0)]) (σ' := [.box [i64 p_218.Epoch, i64 p_218.Other, i64 p_218.First, .sl false (L (cSl cU8) p_218.Queue), i64 p_218.Next, .sl false (L cApi_Packet p_218.Early), i64 p_218.SentAt] false, .box [i64 0, i64 0, i64 0, .sl true (L (cSl cU8) ([])), i64 0, .sl true (L cApi_Packet ([])), i64 0] false, .box [i64 p_218.Epoch, i64 p_218.Other, i64 ((-1)), i64 p_218.Next, .sl true (L cU8 ([]))] false]) ⟨_, orcs_nil, ?_⟩ ?_
    · simp only [go_sem, Nat.reduceGT, Nat.reduceLeDiff]
    replace h := bind_some1 h; obtain ⟨due_227, hv_228, h⟩ := h
    refine run_textW hE [1, 2, 4, 6, 7] (fr' := [(1, i64 now_219), (2, .ref 0 0), (4, .ref 1 0), (6, .ref 2 0), (7, .bool due_227)]) (σ' := [.box [i64 p_218.Epoch, i64 p_218.Other, i64 p_218.First, .sl false (L (cSl cU8) p_218.Queue), i64 p_218.Next, .sl false (L cApi_Packet p_218.Early), i64 p_218.SentAt] false, .box [i64 0, i64 0, i64 0, .sl true (L (cSl cU8) ([])), i64 0, .sl true (L cApi_Packet ([])), i64 0] false, .box [i64 p_218.Epoch, i64 p_218.Other, i64 ((-1)), i64 p_218.Next, .sl true (L cU8 ([]))] false]) ?_ ?_
    · rcases Bool.eq_false_or_eq_true ((decide (p_218.SentAt < 0))) with hb_229 | hb_229
      · replace hv_228 := ite_t hv_228 hb_229
        have e_hv_228 := Option.some.inj hv_228; subst e_hv_228
        exact ⟨_, [(1, i64 now_219), (2, .ref 0 0), (4, .ref 1 0), (6, .ref 2 0), (7, .bool true)], [.box [i64 p_218.Epoch, i64 p_218.Other, i64 p_218.First, .sl false (L (cSl cU8) p_218.Queue), i64 p_218.Next, .sl false (L cApi_Packet p_218.Early), i64 p_218.SentAt] false, .box [i64 0, i64 0, i64 0, .sl true (L (cSl cU8) ([])), i64 0, .sl true (L cApi_Packet ([])), i64 0] false, .box [i64 p_218.Epoch, i64 p_218.Other, i64 ((-1)), i64 p_218.Next, .sl true (L cU8 ([]))] false], orcs_nil, by simp only [go_sem, hb_229], (weak_sel [0, 1, 2] (by decide) rfl (by simp only [go_sem]) (by simp only [go_sem]))⟩
      · replace hv_228 := ite_f hv_228 hb_229
        rcases Bool.eq_false_or_eq_true ((decide (p_218.SentAt > now_219))) with hb_230 | hb_230
        · replace hv_228 := ite_t hv_228 hb_230
          have e_hv_228 := Option.some.inj hv_228; subst e_hv_228
          exact ⟨_, [(1, i64 now_219), (2, .ref 0 0), (4, .ref 1 0), (6, .ref 2 0), (7, .bool true)], [.box [i64 p_218.Epoch, i64 p_218.Other, i64 p_218.First, .sl false (L (cSl cU8) p_218.Queue), i64 p_218.Next, .sl false (L cApi_Packet p_218.Early), i64 p_218.SentAt] false, .box [i64 0, i64 0, i64 0, .sl true (L (cSl cU8) ([])), i64 0, .sl true (L cApi_Packet ([])), i64 0] false, .box [i64 p_218.Epoch, i64 p_218.Other, i64 ((-1)), i64 p_218.Next, .sl true (L cU8 ([]))] false], orcs_nil, by simp only [go_sem, hb_229, hb_230], (weak_sel [0, 1, 2] (by decide) rfl (by simp only [go_sem]) (by simp only [go_sem]))⟩
        · replace hv_228 := ite_f hv_228 hb_230
          have e_hv_228 := Option.some.inj hv_228; subst e_hv_228
          exact ⟨_, [(1, i64 now_219), (2, .ref 0 0), (4, .ref 1 0), (6, .ref 2 0), (7, .bool ((decide ((w64 (now_219 - p_218.SentAt)) ≥ 10))))], [.box [i64 p_218.Epoch, i64 p_218.Other, i64 p_218.First, .sl false (L (cSl cU8) p_218.Queue), i64 p_218.Next, .sl false (L cApi_Packet p_218.Early), i64 p_218.SentAt] false, .box [i64 0, i64 0, i64 0, .sl true (L (cSl cU8) ([])), i64 0, .sl true (L cApi_Packet ([])), i64 0] false, .box [i64 p_218.Epoch, i64 p_218.Other, i64 ((-1)), i64 p_218.Next, .sl true (L cU8 ([]))] false], orcs_nil, by simp only [go_sem, hb_229, hb_230], (weak_sel [0, 1, 2] (by decide) rfl (by simp only [go_sem]) (by simp only [go_sem]))⟩
    refine run_seq ?_
    replace h := bind_some1 h; obtain ⟨t_231, hv_232, h⟩ := h
    refine run_textW hE [1, 2, 4, 6, 51] (fr' := [(1, i64 now_219), (2, .ref 0 0), (4, .ref 1 0), (6, .ref 2 0), (51, .bool t_231)]) (σ' := [.box [i64 p_218.Epoch, i64 p_218.Other, i64 p_218.First, .sl false (L (cSl cU8) p_218.Queue), i64 p_218.Next, .sl false (L cApi_Packet p_218.Early), i64 p_218.SentAt] false, .box [i64 0, i64 0, i64 0, .sl true (L (cSl cU8) ([])), i64 0, .sl true (L cApi_Packet ([])), i64 0] false, .box [i64 p_218.Epoch, i64 p_218.Other, i64 ((-1)), i64 p_218.Next, .sl true (L cU8 ([]))] false]) ?_ ?_
    · rcases Bool.eq_false_or_eq_true (((p_218.Queue.length : Int) == 0)) with hb_233 | hb_233
      · replace hv_232 := ite_t hv_232 hb_233
        have e_hv_232 := Option.some.inj hv_232; subst e_hv_232
        exact ⟨_, [(1, i64 now_219), (2, .ref 0 0), (4, .ref 1 0), (6, .ref 2 0), (51, .bool true)], [.box [i64 p_218.Epoch, i64 p_218.Other, i64 p_218.First, .sl false (L (cSl cU8) p_218.Queue), i64 p_218.Next, .sl false (L cApi_Packet p_218.Early), i64 p_218.SentAt] false, .box [i64 0, i64 0, i64 0, .sl true (L (cSl cU8) ([])), i64 0, .sl true (L cApi_Packet ([])), i64 0] false, .box [i64 p_218.Epoch, i64 p_218.Other, i64 ((-1)), i64 p_218.Next, .sl true (L cU8 ([]))] false], orcs_nil, by simp only [go_sem, hb_233], (weak_sel [0, 1, 2] (by decide) rfl (by simp only [go_sem]) (by simp only [go_sem]))⟩
      · replace hv_232 := ite_f hv_232 hb_233
        have e_hv_232 := Option.some.inj hv_232; subst e_hv_232
        exact ⟨_, [(1, i64 now_219), (2, .ref 0 0), (4, .ref 1 0), (6, .ref 2 0), (51, .bool ((!due_227)))], [.box [i64 p_218.Epoch, i64 p_218.Other, i64 p_218.First, .sl false (L (cSl cU8) p_218.Queue), i64 p_218.Next, .sl false (L cApi_Packet p_218.Early), i64 p_218.SentAt] false, .box [i64 0, i64 0, i64 0, .sl true (L (cSl cU8) ([])), i64 0, .sl true (L cApi_Packet ([])), i64 0] false, .box [i64 p_218.Epoch, i64 p_218.Other, i64 ((-1)), i64 p_218.Next, .sl true (L cU8 ([]))] false], orcs_nil, by simp only [go_sem, hb_233], (weak_sel [0, 1, 2] (by decide) rfl (by simp only [go_sem]) (by simp only [go_sem]))⟩
    refine run_condL (b := t_231) rfl (by decide) (fun hb => ?_) (fun hb => ?_)
    · replace h := ite_t h hb
      replace h := lt1_some h; obtain ⟨l_234, hz_235, h⟩ := h
      refine run_drawS hE mixed [[], [], [1], [0], [0, 1, 2, 3]] (by kernel_rfl) [(4, 1), (6, 2)] [] [4, 5, 6] (by kernel_rfl) (fr' := [(4, .ref 1 0), (5, .bs true 3 (l_234.length) 0 (l_234.length)), (6, .ref 2 0)]) (σ' := [.box [i64 p_218.Epoch, i64 p_218.Other, i64 p_218.First, .sl false (L (cSl cU8) p_218.Queue), i64 p_218.Next, .sl false (L cApi_Packet p_218.Early), i64 p_218.SentAt] false, .box [i64 p_218.Epoch, i64 p_218.Other, i64 p_218.First, .sl false (L (cSl cU8) p_218.Queue), i64 p_218.Next, .sl false (L cApi_Packet p_218.Early), i64 p_218.SentAt] false, .box [i64 p_218.Epoch, i64 p_218.Other, i64 ((-1)), i64 p_218.Next, .sl true (L cU8 ([]))] false, .buf 5 (L cApi_Packet l_234) false]) ⟨rfl, rfl, trivial⟩ ⟨_, _, orcs_nil, (by simp only [XOk]), ?_⟩ ?_
      · subst hz_235; simp only [go_sem, Nat.reduceBEq, Nat.reduceMul, Nat.reduceSub, Nat.reduceGT, Nat.reducePow, Nat.reduceLeDiff, Int.reduceToNat]
      refine run_ret ?_
      refine thenK_r ?_
      obtain rfl := Option.some.inj h
      refine wkP_of (Weak.refl _ _) ?_
      refine ret_ok (.inr rfl) ?_
      simp only [go_sem]
    · replace h := ite_f h hb
      refine run_skip ?_
      refine thenK_n ?_
      refine run_textE hE [1, 2, 4, 6, 8] (fr' := [(1, i64 now_219), (2, .ref 0 0), (4, .ref 1 0), (6, .ref 2 0), (8, .sl true (L cApi_Packet ([])))]) (σ' := [.box [i64 p_218.Epoch, i64 p_218.Other, i64 p_218.First, .sl false (L (cSl cU8) p_218.Queue), i64 p_218.Next, .sl false (L cApi_Packet p_218.Early), i64 p_218.SentAt] false, .box [i64 0, i64 0, i64 0, .sl true (L (cSl cU8) ([])), i64 0, .sl true (L cApi_Packet ([])), i64 0] false, .box [i64 p_218.Epoch, i64 p_218.Other, i64 ((-1)), i64 p_218.Next, .sl true (L cU8 ([]))] false]) ⟨_, orcs_nil, ?_⟩ ?_
      · simp only [go_sem]
      replace h := bind_some1 h; obtain ⟨j_272, hA_273, hj_274⟩ := h
      refine run_join (fun (v : List Api_Packet) => (⟨asFr 86 [(1, i64 now_219), (2, .ref 0 0), (4, .ref 1 0), (8, .bs false 2 (v.length) 0 (v.length))], [.box [i64 p_218.Epoch, i64 p_218.Other, i64 p_218.First, .sl false (L (cSl cU8) p_218.Queue), i64 p_218.Next, .sl false (L cApi_Packet p_218.Early), i64 p_218.SentAt] false, .box [i64 0, i64 0, i64 0, .sl true (L (cSl cU8) ([])), i64 0, .sl true (L cApi_Packet ([])), i64 0] false, .buf 5 (L cApi_Packet v) false]⟩ : St)) (fun v => v = j_272) ?_ ?_
      · have h := hA_273; clear hA_273
        replace h := chk_some h; obtain ⟨hc_275, h⟩ := h
        replace h := lt1_some h; obtain ⟨t_276, hz_278, h⟩ := h
        replace h := lt1_some h; obtain ⟨t_277, hz_279, h⟩ := h
        refine run_textE hE [1, 2, 4, 6, 8, 61, 62, 63] (fr' := [(1, i64 now_219), (2, .ref 0 0), (4, .ref 1 0), (6, .ref 2 0), (8, .sl true (L cApi_Packet ([]))), (61, .sl false (L (cSl cU8) t_276)), (62, i64 t_277), (63, i64 0)]) (σ' := [.box [i64 p_218.Epoch, i64 p_218.Other, i64 p_218.First, .sl false (L (cSl cU8) p_218.Queue), i64 p_218.Next, .sl false (L cApi_Packet p_218.Early), i64 p_218.SentAt] false, .box [i64 0, i64 0, i64 0, .sl true (L (cSl cU8) ([])), i64 0, .sl true (L cApi_Packet ([])), i64 0] false, .box [i64 p_218.Epoch, i64 p_218.Other, i64 ((-1)), i64 p_218.Next, .sl true (L cU8 ([]))] false]) ⟨_, orcs_nil, ?_⟩ ?_
        · subst hz_279; subst hz_278; simp only [go_sem, Int.reduceToNat, hc_275]
        refine run_block ?_
        replace h := bind_some1 h; obtain ⟨x_297, hx_298, hj_299⟩ := h
        refine run_loopO hx_298 (fun (v : Int × List Api_Packet) => (⟨asFr 86 [(1, i64 now_219), (2, .ref 0 0), (4, .ref 1 0), (6, .ref 2 0), (8, .bs false 3 (v.2.length) 0 (v.2.length)), (61, .sl false (L (cSl cU8) t_276)), (62, i64 t_277), (63, i64 v.1)], [.box [i64 p_218.Epoch, i64 p_218.Other, i64 p_218.First, .sl false (L (cSl cU8) p_218.Queue), i64 p_218.Next, .sl false (L cApi_Packet p_218.Early), i64 p_218.SentAt] false, .box [i64 0, i64 0, i64 0, .sl true (L (cSl cU8) ([])), i64 0, .sl true (L cApi_Packet ([])), i64 0] false, .box [i64 p_218.Epoch, i64 p_218.Other, i64 ((-1)), i64 p_218.Next, .sl true (L cU8 ([]))] false, .buf 5 (L cApi_Packet v.2) false]⟩ : St)) ((weak_nil 8 5 rfl).trans (weak_sel [0, 1, 2, 3] (by decide) rfl (by simp only [go_sem]) (by simp only [go_sem]))) ?_
        rintro ⟨t_286, l_287⟩ o_300 h hxx_301
        replace h : window_Emit_b1 p_218 t_276 t_277 t_286 l_287 = some o_300 := h
        unfold window_Emit_b1 at h
        refine run_textE hE [1, 2, 4, 6, 8, 61, 62, 63, 64] (fr' := [(1, i64 now_219), (2, .ref 0 0), (4, .ref 1 0), (6, .ref 2 0), (8, .bs false 3 (l_287.length) 0 (l_287.length)), (61, .sl false (L (cSl cU8) t_276)), (62, i64 t_277), (63, i64 t_286), (64, .bool ((decide (t_286 < t_277))))]) (σ' := [.box [i64 p_218.Epoch, i64 p_218.Other, i64 p_218.First, .sl false (L (cSl cU8) p_218.Queue), i64 p_218.Next, .sl false (L cApi_Packet p_218.Early), i64 p_218.SentAt] false, .box [i64 0, i64 0, i64 0, .sl true (L (cSl cU8) ([])), i64 0, .sl true (L cApi_Packet ([])), i64 0] false, .box [i64 p_218.Epoch, i64 p_218.Other, i64 ((-1)), i64 p_218.Next, .sl true (L cU8 ([]))] false, .buf 5 (L cApi_Packet l_287) false]) ⟨_, orcs_nil, ?_⟩ ?_
        · simp only [go_sem]
        refine run_seq ?_
        refine run_condL (b := (decide (t_286 < t_277))) rfl (by decide) (fun hb => ?_) (fun hb => ?_)
        · replace h := ite_t h hb
          refine run_skip ?_
          refine thenK_n ?_
          refine run_seq ?_
          refine run_block ?_
          replace h := chk_some h; obtain ⟨hc_302, h⟩ := h
          refine run_textE hE [1, 2, 4, 6, 8, 9, 10, 61, 62, 63] (fr' := [(1, i64 now_219), (2, .ref 0 0), (4, .ref 1 0), (6, .ref 2 0), (8, .bs false 3 (l_287.length) 0 (l_287.length)), (9, i64 t_286), (10, .sl false (L cU8 (nth t_276 t_286.toNat))), (61, .sl false (L (cSl cU8) t_276)), (62, i64 t_277), (63, i64 t_286)]) (σ' := [.box [i64 p_218.Epoch, i64 p_218.Other, i64 p_218.First, .sl false (L (cSl cU8) p_218.Queue), i64 p_218.Next, .sl false (L cApi_Packet p_218.Early), i64 p_218.SentAt] false, .box [i64 0, i64 0, i64 0, .sl true (L (cSl cU8) ([])), i64 0, .sl true (L cApi_Packet ([])), i64 0] false, .box [i64 p_218.Epoch, i64 p_218.Other, i64 ((-1)), i64 p_218.Next, .sl true (L cU8 ([]))] false, .buf 5 (L cApi_Packet l_287) false]) ⟨_, orcs_nil, ?_⟩ ?_
          · simp only [go_sem, Int.reduceToNat, hc_302, hc_302.2, lt_le hc_302.2]
          refine run_textE hE [1, 2, 4, 6, 8, 9, 10, 11, 61, 62, 63] (fr' := [(1, i64 now_219), (2, .ref 0 0), (4, .ref 1 0), (6, .ref 2 0), (8, .bs false 3 (l_287.length) 0 (l_287.length)), (9, i64 t_286), (10, .sl false (L cU8 (nth t_276 t_286.toNat))), (11, .ref 4 0), (61, .sl false (L (cSl cU8) t_276)), (62, i64 t_277), (63, i64 t_286)]) (σ' := [.box [i64 p_218.Epoch, i64 p_218.Other, i64 p_218.First, .sl false (L (cSl cU8) p_218.Queue), i64 p_218.Next, .sl false (L cApi_Packet p_218.Early), i64 p_218.SentAt] false, .box [i64 0, i64 0, i64 0, .sl true (L (cSl cU8) ([])), i64 0, .sl true (L cApi_Packet ([])), i64 0] false, .box [i64 p_218.Epoch, i64 p_218.Other, i64 ((-1)), i64 p_218.Next, .sl true (L cU8 ([]))] false, .buf 5 (L cApi_Packet l_287) false, .box [i64 p_218.Epoch, i64 p_218.Other, i64 ((-1)), i64 p_218.Next, .sl true (L cU8 ([]))] false]) ⟨_, orcs_nil, ?_⟩ ?_
          · simp only [go_sem, Nat.reduceLeDiff]
          replace h := bind_some1 h; obtain ⟨y_303, hy_304, h⟩ := h
          replace h := lt1_some h; obtain ⟨f_305, hz_306, h⟩ := h
          refine run_drawE hE mixed [[], [0], [], [0, 1, 2], [], [4], [0, 1, 2, 3], [0, 1, 2, 3, 4, 5, 6], [0, 1, 2, 3, 4, 5, 6, 7], [0, 1, 2, 3, 4, 5, 6, 7, 8]] (by kernel_rfl) (by kernel_rfl) [1, 2, 4, 6, 8, 11, 61, 62, 63] (fr' := [(1, i64 now_219), (2, .ref 0 0), (4, .ref 1 0), (6, .ref 2 0), (8, .bs false 3 (l_287.length) 0 (l_287.length)), (11, .ref 4 0), (61, .sl false (L (cSl cU8) t_276)), (62, i64 t_277), (63, i64 t_286)]) (σ' := [.box [i64 p_218.Epoch, i64 p_218.Other, i64 p_218.First, .sl false (L (cSl cU8) p_218.Queue), i64 p_218.Next, .sl false (L cApi_Packet p_218.Early), i64 p_218.SentAt] false, .box [i64 0, i64 0, i64 0, .sl true (L (cSl cU8) ([])), i64 0, .sl true (L cApi_Packet ([])), i64 0] false, .box [i64 p_218.Epoch, i64 p_218.Other, i64 ((-1)), i64 p_218.Next, .sl true (L cU8 ([]))] false, .buf 5 (L cApi_Packet l_287) false, .box [i64 p_218.Epoch, i64 p_218.Other, i64 f_305, i64 p_218.Next, .sl false (L cU8 y_303)] false]) ⟨_, orcs_ok (l := [(74, 39, [.sl false (L cU8 (nth t_276 t_286.toNat))], .sl false (L cU8 y_303))]) ⟨window_own_con  hy_304, trivial⟩, ?_⟩ ?_
          · subst hz_306; simp only [go_sem, Nat.reduceLeDiff]
          replace h := chk_some h; obtain ⟨hc_307, h⟩ := h
          replace h := lt1_some h; obtain ⟨l_308, hz_309, h⟩ := h
          refine run_textE0 hE (wk_block wk_then) [1, 2, 4, 6, 8, 61, 62, 63] (fr' := [(1, i64 now_219), (2, .ref 0 0), (4, .ref 1 0), (6, .ref 2 0), (8, .bs false 3 (l_308.length) 0 (l_308.length)), (61, .sl false (L (cSl cU8) t_276)), (62, i64 t_277), (63, i64 t_286)]) (σ' := [.box [i64 p_218.Epoch, i64 p_218.Other, i64 p_218.First, .sl false (L (cSl cU8) p_218.Queue), i64 p_218.Next, .sl false (L cApi_Packet p_218.Early), i64 p_218.SentAt] false, .box [i64 0, i64 0, i64 0, .sl true (L (cSl cU8) ([])), i64 0, .sl true (L cApi_Packet ([])), i64 0] false, .box [i64 p_218.Epoch, i64 p_218.Other, i64 ((-1)), i64 p_218.Next, .sl true (L cU8 ([]))] false, .buf 5 (L cApi_Packet l_308) false, .box [i64 p_218.Epoch, i64 p_218.Other, i64 f_305, i64 p_218.Next, .sl false (L cU8 y_303)] false, .buf 5 (L cApi_Packet (([({ Epoch := p_218.Epoch, To := p_218.Other, Seq := f_305, Ack := p_218.Next, Data := y_303 } : Api_Packet)] : List Api_Packet))) false]) ⟨_, orcs_nil, ?_⟩ ?_
          · subst hz_309; simp only [go_sem, Nat.reduceBEq, Nat.reduceMul, Nat.reduceSub, Nat.reduceGT, Nat.reducePow, Nat.reduceLeDiff, Int.reduceToNat, hc_307]
          refine blockK_n ?_
          refine thenK_n ?_
          refine run_textE0 hE wk_lp [1, 2, 4, 6, 8, 61, 62, 63] (fr' := [(1, i64 now_219), (2, .ref 0 0), (4, .ref 1 0), (6, .ref 2 0), (8, .bs false 3 (l_308.length) 0 (l_308.length)), (61, .sl false (L (cSl cU8) t_276)), (62, i64 t_277), (63, i64 ((w64 (t_286 + 1))))]) (σ' := [.box [i64 p_218.Epoch, i64 p_218.Other, i64 p_218.First, .sl false (L (cSl cU8) p_218.Queue), i64 p_218.Next, .sl false (L cApi_Packet p_218.Early), i64 p_218.SentAt] false, .box [i64 0, i64 0, i64 0, .sl true (L (cSl cU8) ([])), i64 0, .sl true (L cApi_Packet ([])), i64 0] false, .box [i64 p_218.Epoch, i64 p_218.Other, i64 ((-1)), i64 p_218.Next, .sl true (L cU8 ([]))] false, .buf 5 (L cApi_Packet l_308) false, .box [i64 p_218.Epoch, i64 p_218.Other, i64 f_305, i64 p_218.Next, .sl false (L cU8 y_303)] false, .buf 5 (L cApi_Packet (([({ Epoch := p_218.Epoch, To := p_218.Other, Seq := f_305, Ack := p_218.Next, Data := y_303 } : Api_Packet)] : List Api_Packet))) false]) ⟨_, orcs_nil, ?_⟩ ?_
          · simp only [go_sem]
          obtain rfl := Option.some.inj h
          exact lpK_n (((w64 (t_286 + 1)), l_308)) rfl (weak_sel [0, 1, 2, 3] (by decide) rfl (by simp only [go_sem]) (by simp only [go_sem]))
        · replace h := ite_f h hb
          refine run_exit ?_
          refine thenK_x ?_
          obtain rfl := Option.some.inj h
          have ex_x_297 := hxx_301 _ rfl
          subst ex_x_297
          have h := hj_299; clear hj_299
          refine lpK_x ?_
          refine blockK_x ?_
          obtain rfl := Option.some.inj h
          exact joinK_n l_287 rfl ((weak_sel (l' := [(1, i64 now_219), (2, .ref 0 0), (4, .ref 1 0), (8, .bs false 2 (l_287.length) 0 (l_287.length))]) (σ' := [.box [i64 p_218.Epoch, i64 p_218.Other, i64 p_218.First, .sl false (L (cSl cU8) p_218.Queue), i64 p_218.Next, .sl false (L cApi_Packet p_218.Early), i64 p_218.SentAt] false, .box [i64 0, i64 0, i64 0, .sl true (L (cSl cU8) ([])), i64 0, .sl true (L cApi_Packet ([])), i64 0] false, .buf 5 (L cApi_Packet l_287) false]) [0, 1, 3] (by decide) rfl (by simp only [go_sem]) (by simp only [go_sem])).trans (weak_sel [0, 1, 2] (by decide) rfl (by simp only [go_sem]) (by simp only [go_sem])))
      rintro l_271 rfl
      have h := hj_274; clear hj_274
      refine run_textE hE [2, 4, 8] (fr' := [(2, .ref 0 0), (4, .ref 1 0), (8, .bs false 2 (l_271.length) 0 (l_271.length))]) (σ' := [.box [i64 p_218.Epoch, i64 p_218.Other, i64 p_218.First, .sl false (L (cSl cU8) p_218.Queue), i64 p_218.Next, .sl false (L cApi_Packet p_218.Early), i64 now_219] false, .box [i64 0, i64 0, i64 0, .sl true (L (cSl cU8) ([])), i64 0, .sl true (L cApi_Packet ([])), i64 0] false, .buf 5 (L cApi_Packet l_271) false]) ⟨_, orcs_nil, ?_⟩ ?_
      · simp only [go_sem, Nat.reduceLeDiff]
      refine run_textE hE [4, 5] (fr' := [(4, .ref 1 0), (5, .bs false 2 (l_271.length) 0 (l_271.length))]) (σ' := [.box [i64 p_218.Epoch, i64 p_218.Other, i64 p_218.First, .sl false (L (cSl cU8) p_218.Queue), i64 p_218.Next, .sl false (L cApi_Packet p_218.Early), i64 now_219] false, .box [i64 p_218.Epoch, i64 p_218.Other, i64 p_218.First, .sl false (L (cSl cU8) p_218.Queue), i64 p_218.Next, .sl false (L cApi_Packet p_218.Early), i64 now_219] false, .buf 5 (L cApi_Packet l_271) false]) ⟨_, orcs_nil, ?_⟩ ?_
      · simp only [go_sem, Nat.reduceLeDiff]
      refine run_ret ?_
      obtain rfl := Option.some.inj h
      refine wkP_of (Weak.refl _ _) ?_
      refine ret_ok (.inr rfl) ?_
      simp only [go_sem]

end Go.Proofs.Ytomjphpnpcgacaa
/-
  The functions compute just that.
-/
namespace Go.Proofs.Ytomjphpnpcgacaa
open Go.Rv
set_option linter.unusedVariables false
set_option linter.unusedSimpArgs false
set_option maxRecDepth 20000
set_option maxHeartbeats 4000000

theorem r12_SamePacket_con {a_310 : Api_Packet} {b_311 : Api_Packet} {r : Bool} (h : r12_SamePacket a_310 b_311 = some r) : Con B 30 [.agg [i64 a_310.Epoch, i64 a_310.To, i64 a_310.Seq, i64 a_310.Ack, .sl false (L cU8 a_310.Data)], .agg [i64 b_311.Epoch, i64 b_311.To, i64 b_311.Seq, i64 b_311.Ack, .sl false (L cU8 b_311.Data)]] [] (fun r' σ' => r' = .bool r ∧ σ' = []) := by
  refine con_walk (N := 40) (rs := [.tmp 4]) ok Try.func30 rfl (by decide +kernel) rfl rfl (Nat.le_of_ble_eq_true rfl) (fun F => ?_)
  have hE := ok.env F
  unfold r12_SamePacket at h
  show Run (B.env F) 0 _ ⟨asFr 40 [(0, .agg [i64 a_310.Epoch, i64 a_310.To, i64 a_310.Seq, i64 a_310.Ack, .sl false (L cU8 a_310.Data)]), (1, .agg [i64 b_311.Epoch, i64 b_311.To, i64 b_311.Seq, i64 b_311.Ack, .sl false (L cU8 b_311.Data)])], []⟩ _
  refine run_wkP ?_
  refine run_textE hE [2, 3] (fr' := [(2, .ref 0 0), (3, .ref 1 0)]) (σ' := [.box [i64 a_310.Epoch, i64 a_310.To, i64 a_310.Seq, i64 a_310.Ack, .sl false (L cU8 a_310.Data)] false, .box [i64 b_311.Epoch, i64 b_311.To, i64 b_311.Seq, i64 b_311.Ack, .sl false (L cU8 b_311.Data)] false]) ⟨_, orcs_nil, ?_⟩ ?_
  · simp only [go_sem]
  replace h := bind_some1 h; obtain ⟨t_312, hv_313, h⟩ := h
  refine run_textW hE [4] (fr' := [(4, .bool t_312)]) (σ' := []) ?_ ?_
  · rcases Bool.eq_false_or_eq_true ((a_310.Epoch == b_311.Epoch)) with hb_314 | hb_314
    · replace hv_313 := ite_t hv_313 hb_314
      rcases Bool.eq_false_or_eq_true ((a_310.To == b_311.To)) with hb_315 | hb_315
      · replace hv_313 := ite_t hv_313 hb_315
        rcases Bool.eq_false_or_eq_true ((a_310.Seq == b_311.Seq)) with hb_316 | hb_316
        · replace hv_313 := ite_t hv_313 hb_316
          rcases Bool.eq_false_or_eq_true ((a_310.Ack == b_311.Ack)) with hb_317 | hb_317
          · replace hv_313 := ite_t hv_313 hb_317
            have e_hv_313 := Option.some.inj hv_313; subst e_hv_313
            exact ⟨_, [(4, .bool ((a_310.Data == b_311.Data)))], [.box [i64 a_310.Epoch, i64 a_310.To, i64 a_310.Seq, i64 a_310.Ack, .sl false (L cU8 a_310.Data)] false, .box [i64 b_311.Epoch, i64 b_311.To, i64 b_311.Seq, i64 b_311.Ack, .sl false (L cU8 b_311.Data)] false], orcs_nil, by simp only [go_sem, hb_314, hb_315, hb_316, hb_317], (weak_sel [] (by decide) rfl (by simp only [go_sem]) (by simp only [go_sem]))⟩
          · replace hv_313 := ite_f hv_313 hb_317
            have e_hv_313 := Option.some.inj hv_313; subst e_hv_313
            exact ⟨_, [(4, .bool false)], [.box [i64 a_310.Epoch, i64 a_310.To, i64 a_310.Seq, i64 a_310.Ack, .sl false (L cU8 a_310.Data)] false, .box [i64 b_311.Epoch, i64 b_311.To, i64 b_311.Seq, i64 b_311.Ack, .sl false (L cU8 b_311.Data)] false], orcs_nil, by simp only [go_sem, hb_314, hb_315, hb_316, hb_317], (weak_sel [] (by decide) rfl (by simp only [go_sem]) (by simp only [go_sem]))⟩
        · replace hv_313 := ite_f hv_313 hb_316
          have e_hv_313 := Option.some.inj hv_313; subst e_hv_313
          exact ⟨_, [(4, .bool false)], [.box [i64 a_310.Epoch, i64 a_310.To, i64 a_310.Seq, i64 a_310.Ack, .sl false (L cU8 a_310.Data)] false, .box [i64 b_311.Epoch, i64 b_311.To, i64 b_311.Seq, i64 b_311.Ack, .sl false (L cU8 b_311.Data)] false], orcs_nil, by simp only [go_sem, hb_314, hb_315, hb_316], (weak_sel [] (by decide) rfl (by simp only [go_sem]) (by simp only [go_sem]))⟩
      · replace hv_313 := ite_f hv_313 hb_315
        have e_hv_313 := Option.some.inj hv_313; subst e_hv_313
        exact ⟨_, [(4, .bool false)], [.box [i64 a_310.Epoch, i64 a_310.To, i64 a_310.Seq, i64 a_310.Ack, .sl false (L cU8 a_310.Data)] false, .box [i64 b_311.Epoch, i64 b_311.To, i64 b_311.Seq, i64 b_311.Ack, .sl false (L cU8 b_311.Data)] false], orcs_nil, by simp only [go_sem, hb_314, hb_315], (weak_sel [] (by decide) rfl (by simp only [go_sem]) (by simp only [go_sem]))⟩
    · replace hv_313 := ite_f hv_313 hb_314
      have e_hv_313 := Option.some.inj hv_313; subst e_hv_313
      exact ⟨_, [(4, .bool false)], [.box [i64 a_310.Epoch, i64 a_310.To, i64 a_310.Seq, i64 a_310.Ack, .sl false (L cU8 a_310.Data)] false, .box [i64 b_311.Epoch, i64 b_311.To, i64 b_311.Seq, i64 b_311.Ack, .sl false (L cU8 b_311.Data)] false], orcs_nil, by simp only [go_sem, hb_314], (weak_sel [] (by decide) rfl (by simp only [go_sem]) (by simp only [go_sem]))⟩
  refine run_ret ?_
  obtain rfl := Option.some.inj h
  refine wkP_of (Weak.refl _ _) ?_
  refine ret_ok (.inr rfl) ?_
  simp only [go_sem]

theorem window_side_keep_1_con {e_318 : Api_Packet} {seq_319 : Int} {r : Int} (h : window_side_keep_1 e_318 seq_319 = some r) : Con B 57 [.agg [i64 e_318.Epoch, i64 e_318.To, i64 e_318.Seq, i64 e_318.Ack, .sl false (L cU8 e_318.Data)], i64 seq_319] [] (fun r' σ' => r' = i64 r ∧ σ' = []) := by
  refine con_walk (N := 9) (rs := [.tmp 4]) ok Try.func57 rfl (by decide +kernel) rfl rfl (Nat.le_of_ble_eq_true rfl) (fun F => ?_)
  have hE := ok.env F
  unfold window_side_keep_1 at h
  show Run (B.env F) 0 _ ⟨asFr 9 [(0, .agg [i64 e_318.Epoch, i64 e_318.To, i64 e_318.Seq, i64 e_318.Ack, .sl false (L cU8 e_318.Data)]), (1, i64 seq_319)], []⟩ _
  refine run_wkP ?_
  refine run_textE hE [1, 2] (fr' := [(1, i64 seq_319), (2, .ref 0 0)]) (σ' := [.box [i64 e_318.Epoch, i64 e_318.To, i64 e_318.Seq, i64 e_318.Ack, .sl false (L cU8 e_318.Data)] false]) ⟨_, orcs_nil, ?_⟩ ?_
  · simp only [go_sem]
  refine run_textE hE [4] (fr' := [(4, i64 ((w64 (e_318.Seq - seq_319))))]) (σ' := [.box [i64 e_318.Epoch, i64 e_318.To, i64 e_318.Seq, i64 e_318.Ack, .sl false (L cU8 e_318.Data)] false]) ⟨_, orcs_nil, ?_⟩ ?_
  · simp only [go_sem]
  refine run_ret ?_
  obtain rfl := Option.some.inj h
  refine wkP_of (Weak.refl _ _) ?_
  refine ret_ok (.inr rfl) ?_
  simp only [go_sem]

theorem slices_BinarySearchFunc_56_con {x_320 : List Api_Packet} {target_321 : Int} {cmp_322 : Api_Packet → Int → Option (Int)} {fcmp_322 : Nat} (hfcmp_322 : ∀ {a0 : Api_Packet} {a1 : Int} {r : Int}, cmp_322 a0 a1 = some r → Con B fcmp_322 [.agg [i64 a0.Epoch, i64 a0.To, i64 a0.Seq, i64 a0.Ack, .sl false (L cU8 a0.Data)], i64 a1] [] (fun r' σ' => r' = i64 r ∧ σ' = [])) {r : Int × Bool} (h : slices_BinarySearchFunc_56 x_320 target_321 cmp_322 = some r) : Con B 56 [.sl false (L cApi_Packet x_320), i64 target_321, .fn fcmp_322 []] [] (fun r' σ' => r' = .tup [i64 r.1, .bool r.2] ∧ σ' = []) := by
  refine con_walk (N := 49) (rs := [.tmp 6, .tmp 7]) ok Try.func56 rfl (by decide +kernel) rfl rfl (Nat.le_of_ble_eq_true rfl) (fun F => ?_)
  have hE := ok.env F
  unfold slices_BinarySearchFunc_56 at h
  show Run (B.env F) 0 _ ⟨asFr 49 [(0, .sl false (L cApi_Packet x_320)), (1, i64 target_321), (2, .fn fcmp_322 [])], []⟩ _
  refine run_wkP ?_
  refine run_textE hE [0, 1, 2] (fr' := [(0, .sl false (L cApi_Packet x_320)), (1, i64 target_321), (2, .fn fcmp_322 [])]) (σ' := []) ⟨_, orcs_nil, ?_⟩ ?_
  · simp only [go_sem]
  refine run_textE hE [0, 1, 2, 8] (fr' := [(0, .sl false (L cApi_Packet x_320)), (1, i64 target_321), (2, .fn fcmp_322 []), (8, i64 ((x_320.length : Int)))]) (σ' := []) ⟨_, orcs_nil, ?_⟩ ?_
  · simp only [go_sem]
  refine run_textE hE [0, 1, 2, 8, 9, 10] (fr' := [(0, .sl false (L cApi_Packet x_320)), (1, i64 target_321), (2, .fn fcmp_322 []), (8, i64 ((x_320.length : Int))), (9, i64 0), (10, i64 ((x_320.length : Int)))]) (σ' := []) ⟨_, orcs_nil, ?_⟩ ?_
  · simp only [go_sem]
  replace h := bind_some1 h; obtain ⟨j_347, hA_348, hj_349⟩ := h
  refine run_join (fun (v : Int) => (⟨asFr 49 [(0, .sl false (L cApi_Packet x_320)), (1, i64 target_321), (2, .fn fcmp_322 []), (8, i64 ((x_320.length : Int))), (9, i64 v)], []⟩ : St)) (fun v => v = j_347) ?_ ?_
  · have h := hA_348; clear hA_348
    refine run_block ?_
    replace h := bind_some1 h; obtain ⟨x_363, hx_364, hj_365⟩ := h
    refine run_loopO hx_364 (fun (v : Int × Int) => (⟨asFr 49 [(0, .sl false (L cApi_Packet x_320)), (1, i64 target_321), (2, .fn fcmp_322 []), (8, i64 ((x_320.length : Int))), (9, i64 v.1), (10, i64 v.2)], []⟩ : St)) (weak_sel [] (by decide) rfl (by simp only [go_sem]) (by simp only [go_sem])) ?_
    rintro ⟨i_355, j_356⟩ o_366 h hxx_367
    replace h : slices_BinarySearchFunc_56_b1 x_320 target_321 cmp_322 i_355 j_356 = some o_366 := h
    unfold slices_BinarySearchFunc_56_b1 at h
    refine run_seq ?_
    refine run_textE hE [0, 1, 2, 8, 9, 10, 17] (fr' := [(0, .sl false (L cApi_Packet x_320)), (1, i64 target_321), (2, .fn fcmp_322 []), (8, i64 ((x_320.length : Int))), (9, i64 i_355), (10, i64 j_356), (17, .bool ((decide (i_355 < j_356))))]) (σ' := []) ⟨_, orcs_nil, ?_⟩ ?_
    · simp only [go_sem]
    refine run_condL (b := (decide (i_355 < j_356))) rfl (by decide) (fun hb => ?_) (fun hb => ?_)
    · replace h := ite_t h hb
      refine run_skip ?_
      refine thenK_n ?_
      refine run_block ?_
      replace h := lt1_some h; obtain ⟨h_368, hz_369, h⟩ := h
      refine run_textE hE [0, 1, 2, 8, 9, 10, 11] (fr' := [(0, .sl false (L cApi_Packet x_320)), (1, i64 target_321), (2, .fn fcmp_322 []), (8, i64 ((x_320.length : Int))), (9, i64 i_355), (10, i64 j_356), (11, i64 h_368)]) (σ' := []) ⟨_, orcs_nil, ?_⟩ ?_
      · subst hz_369; simp only [go_sem]
      replace h := chk_some h; obtain ⟨hc_371, h⟩ := h
      replace h := bind_some1 h; obtain ⟨y_370, hy_372, h⟩ := h
      refine run_textE hE [0, 1, 2, 8, 9, 10, 11, 31] (fr' := [(0, .sl false (L cApi_Packet x_320)), (1, i64 target_321), (2, .fn fcmp_322 []), (8, i64 ((x_320.length : Int))), (9, i64 i_355), (10, i64 j_356), (11, i64 h_368), (31, .bool ((decide (y_370 < 0))))]) (σ' := []) ⟨_, orcs_ok (l := [(30, fcmp_322, [.agg [i64 ((nth x_320 h_368.toNat).Epoch), i64 ((nth x_320 h_368.toNat).To), i64 ((nth x_320 h_368.toNat).Seq), i64 ((nth x_320 h_368.toNat).Ack), .sl false (L cU8 ((nth x_320 h_368.toNat).Data))], i64 target_321], i64 y_370)]) ⟨hfcmp_322  hy_372, trivial⟩, ?_⟩ ?_
      · simp only [go_sem, Int.reduceToNat, hc_371, hc_371.2, lt_le hc_371.2]
      refine run_condL (b := (decide (y_370 < 0))) rfl (by decide) (fun hb => ?_) (fun hb => ?_)
      · replace h := ite_t h hb
        refine run_textE0 hE (wk_block wk_lp) [0, 1, 2, 8, 9, 10] (fr' := [(0, .sl false (L cApi_Packet x_320)), (1, i64 target_321), (2, .fn fcmp_322 []), (8, i64 ((x_320.length : Int))), (9, i64 ((w64 (h_368 + 1)))), (10, i64 j_356)]) (σ' := []) ⟨_, orcs_nil, ?_⟩ ?_
        · simp only [go_sem]
        refine blockK_n ?_
        obtain rfl := Option.some.inj h
        exact lpK_n (((w64 (h_368 + 1)), j_356)) rfl (weak_sel [] (by decide) rfl (by simp only [go_sem]) (by simp only [go_sem]))
      · replace h := ite_f h hb
        refine run_textE0 hE (wk_block wk_lp) [0, 1, 2, 8, 9, 10] (fr' := [(0, .sl false (L cApi_Packet x_320)), (1, i64 target_321), (2, .fn fcmp_322 []), (8, i64 ((x_320.length : Int))), (9, i64 i_355), (10, i64 h_368)]) (σ' := []) ⟨_, orcs_nil, ?_⟩ ?_
        · simp only [go_sem]
        refine blockK_n ?_
        obtain rfl := Option.some.inj h
        exact lpK_n ((i_355, h_368)) rfl (weak_sel [] (by decide) rfl (by simp only [go_sem]) (by simp only [go_sem]))
    · replace h := ite_f h hb
      refine run_exit ?_
      refine thenK_x ?_
      obtain rfl := Option.some.inj h
      have ex_x_363 := hxx_367 _ rfl
      subst ex_x_363
      have h := hj_365; clear hj_365
      refine lpK_x ?_
      refine blockK_x ?_
      obtain rfl := Option.some.inj h
      exact joinK_n i_355 rfl ((weak_sel (l' := [(0, .sl false (L cApi_Packet x_320)), (1, i64 target_321), (2, .fn fcmp_322 []), (8, i64 ((x_320.length : Int))), (9, i64 i_355)]) (σ' := []) [] (by decide) rfl (by simp only [go_sem]) (by simp only [go_sem])).trans (weak_sel [] (by decide) rfl (by simp only [go_sem]) (by simp only [go_sem])))
  rintro i_346 rfl
  have h := hj_349; clear hj_349
  replace h := bind_some1 h; obtain ⟨t_374, hv_375, h⟩ := h
  refine run_textW hE [6, 7] (fr' := [(6, i64 i_346), (7, .bool t_374)]) (σ' := []) ?_ ?_
  · rcases Bool.eq_false_or_eq_true ((decide (i_346 < (x_320.length : Int)))) with hb_376 | hb_376
    · replace hv_375 := ite_t hv_375 hb_376
      replace hv_375 := chk_some hv_375; obtain ⟨hc_377, hv_375⟩ := hv_375
      replace hv_375 := bind_some1 hv_375; obtain ⟨y_373, hy_378, hv_375⟩ := hv_375
      have e_hv_375 := Option.some.inj hv_375; subst e_hv_375
      exact ⟨_, [(6, i64 i_346), (7, .bool ((y_373 == 0)))], [], orcs_ok (l := [(46, fcmp_322, [.agg [i64 ((nth x_320 i_346.toNat).Epoch), i64 ((nth x_320 i_346.toNat).To), i64 ((nth x_320 i_346.toNat).Seq), i64 ((nth x_320 i_346.toNat).Ack), .sl false (L cU8 ((nth x_320 i_346.toNat).Data))], i64 target_321], i64 y_373)]) ⟨hfcmp_322  hy_378, trivial⟩, by simp only [go_sem, Int.reduceToNat, hb_376, hc_377, hc_377.2, lt_le hc_377.2], (weak_sel [] (by decide) rfl (by simp only [go_sem]) (by simp only [go_sem]))⟩
    · replace hv_375 := ite_f hv_375 hb_376
      have e_hv_375 := Option.some.inj hv_375; subst e_hv_375
      exact ⟨_, [(6, i64 i_346), (7, .bool false)], [], orcs_nil, by simp only [go_sem, Int.reduceToNat, hb_376], (weak_sel [] (by decide) rfl (by simp only [go_sem]) (by simp only [go_sem]))⟩
  refine run_ret ?_
  obtain rfl := Option.some.inj h
  refine wkP_of (Weak.refl _ _) ?_
  refine ret_ok (.inr rfl) ?_
  simp only [go_sem]

theorem window_side_take_con {s_379 : Window_side} {data_380 : List UInt8} {r : Window_side} (h : window_side_take s_379 data_380 = some r) : Con B 60 [.ref 0 0, .sl false (L cU8 data_380)] [.box [i64 s_379.Peer.Epoch, i64 s_379.Peer.Other, i64 s_379.Peer.First, .sl false (L (cSl cU8) s_379.Peer.Queue), i64 s_379.Peer.Next, .sl false (L cApi_Packet s_379.Peer.Early), i64 s_379.Peer.SentAt, .bs false 1 (s_379.delivered.length) 0 (s_379.delivered.length)] false, .buf 1 (L (cSl cU8) s_379.delivered) false] (fun r' σ' => r' = .tup [] ∧ σ' = [.box [i64 r.Peer.Epoch, i64 r.Peer.Other, i64 r.Peer.First, .sl false (L (cSl cU8) r.Peer.Queue), i64 r.Peer.Next, .sl false (L cApi_Packet r.Peer.Early), i64 r.Peer.SentAt, .bs false 1 (r.delivered.length) 0 (r.delivered.length)] false, .buf 1 (L (cSl cU8) r.delivered) false]) := by
  refine con_walk_own (N := 24) (rs := []) 2 rfl ok Try.func60 rfl (by decide +kernel) rfl rfl (Nat.le_of_ble_eq_true rfl) (fun F => ?_)
  have hE := ok.env F
  unfold window_side_take at h
  show Run (B.env F) 2 _ ⟨asFr 24 [(0, .ref 0 0), (1, .sl false (L cU8 data_380))], [.box [i64 s_379.Peer.Epoch, i64 s_379.Peer.Other, i64 s_379.Peer.First, .sl false (L (cSl cU8) s_379.Peer.Queue), i64 s_379.Peer.Next, .sl false (L cApi_Packet s_379.Peer.Early), i64 s_379.Peer.SentAt, .bs false 1 (s_379.delivered.length) 0 (s_379.delivered.length)] false, .buf 1 (L (cSl cU8) s_379.delivered) false]⟩ _
  refine run_wkP ?_
  replace h := bind_some1 h; obtain ⟨y_388, hy_389, h⟩ := h
  replace h := chk_some h; obtain ⟨hc_390, h⟩ := h
  replace h := lt1_some h; obtain ⟨l_391, hz_392, h⟩ := h
  refine run_drawE hE mixed [[], [], [1], [1, 2], [1, 2, 3], [], [5], [5, 6], [1, 2, 3, 4, 5, 6, 7], [0, 1, 2, 3, 4, 5, 6, 7, 8], [0, 1, 2, 3, 4, 5, 6, 7, 8, 9], [0, 1, 2, 3, 4, 5, 6, 7, 8, 9, 10]] (by kernel_rfl) (by kernel_rfl) [0] (fr' := [(0, .ref 0 0)]) (σ' := [.box [i64 s_379.Peer.Epoch, i64 s_379.Peer.Other, i64 s_379.Peer.First, .sl false (L (cSl cU8) s_379.Peer.Queue), i64 s_379.Peer.Next, .sl false (L cApi_Packet s_379.Peer.Early), i64 s_379.Peer.SentAt, .bs false 1 (l_391.length) 0 (l_391.length)] false, .buf 1 (L (cSl cU8) l_391) false, .buf 1 (L (cSl cU8) (([y_388] : List (List UInt8)))) false]) ⟨_, orcs_ok (l := [(10, 39, [.sl false (L cU8 data_380)], .sl false (L cU8 y_388))]) ⟨window_own_con  hy_389, trivial⟩, ?_⟩ ?_
  · subst hz_392; simp only [go_sem, Nat.reduceBEq, Nat.reduceMul, Nat.reduceSub, Nat.reduceGT, Nat.reducePow, Nat.reduceLeDiff, Int.reduceToNat, hc_390]
  replace h := lt1_some h; obtain ⟨f_393, hz_394, h⟩ := h
  refine run_textE0 hE wk_wkP [] (fr' := []) (σ' := [.box [i64 s_379.Peer.Epoch, i64 s_379.Peer.Other, i64 s_379.Peer.First, .sl false (L (cSl cU8) s_379.Peer.Queue), i64 f_393, .sl false (L cApi_Packet s_379.Peer.Early), i64 s_379.Peer.SentAt, .bs false 1 (l_391.length) 0 (l_391.length)] false, .buf 1 (L (cSl cU8) l_391) false, .buf 1 (L (cSl cU8) (([y_388] : List (List UInt8)))) false]) ⟨_, orcs_nil, ?_⟩ ?_
  · subst hz_394; simp only [go_sem, Nat.reduceLeDiff]
  obtain rfl := Option.some.inj h
  refine wkP_of (Weak.refl _ _) ?_
  refine ret_own (.inl rfl) [0, 1] (by decide) rfl ?_ ?_
  · simp only [go_sem]
  · simp only [go_sem]

end Go.Proofs.Ytomjphpnpcgacaa
/-
  The functions compute just that.
-/
namespace Go.Proofs.Ytomjphpnpcgacaa
open Go.Rv
set_option linter.unusedVariables false
set_option linter.unusedSimpArgs false
set_option maxRecDepth 20000
set_option maxHeartbeats 4000000

theorem window_side_acknowledge_con {s_395 : Window_side} {k_396 : Api_Packet} {r : Window_side} (h : window_side_acknowledge s_395 k_396 = some r) : Con B 41 [.ref 0 0, .agg [i64 k_396.Epoch, i64 k_396.To, i64 k_396.Seq, i64 k_396.Ack, .sl false (L cU8 k_396.Data)]] [.box [i64 s_395.Peer.Epoch, i64 s_395.Peer.Other, i64 s_395.Peer.First, .sl false (L (cSl cU8) s_395.Peer.Queue), i64 s_395.Peer.Next, .sl false (L cApi_Packet s_395.Peer.Early), i64 s_395.Peer.SentAt, .bs false 1 (s_395.delivered.length) 0 (s_395.delivered.length)] false, .buf 1 (L (cSl cU8) s_395.delivered) false] (fun r' σ' => r' = .tup [] ∧ σ' = [.box [i64 r.Peer.Epoch, i64 r.Peer.Other, i64 r.Peer.First, .sl false (L (cSl cU8) r.Peer.Queue), i64 r.Peer.Next, .sl false (L cApi_Packet r.Peer.Early), i64 r.Peer.SentAt, .bs false 1 (r.delivered.length) 0 (r.delivered.length)] false, .buf 1 (L (cSl cU8) r.delivered) false]) := by
  refine con_walk_own (N := 46) (rs := []) 2 rfl ok Try.func41 rfl (by decide +kernel) rfl rfl (Nat.le_of_ble_eq_true rfl) (fun F => ?_)
  have hE := ok.env F
  unfold window_side_acknowledge at h
  show Run (B.env F) 2 _ ⟨asFr 46 [(0, .ref 0 0), (1, .agg [i64 k_396.Epoch, i64 k_396.To, i64 k_396.Seq, i64 k_396.Ack, .sl false (L cU8 k_396.Data)])], [.box [i64 s_395.Peer.Epoch, i64 s_395.Peer.Other, i64 s_395.Peer.First, .sl false (L (cSl cU8) s_395.Peer.Queue), i64 s_395.Peer.Next, .sl false (L cApi_Packet s_395.Peer.Early), i64 s_395.Peer.SentAt, .bs false 1 (s_395.delivered.length) 0 (s_395.delivered.length)] false, .buf 1 (L (cSl cU8) s_395.delivered) false]⟩ _
  refine run_wkP ?_
  refine run_textE hE [0, 3] (fr' := [(0, .ref 0 0), (3, .ref 2 0)]) (σ' := [.box [i64 s_395.Peer.Epoch, i64 s_395.Peer.Other, i64 s_395.Peer.First, .sl false (L (cSl cU8) s_395.Peer.Queue), i64 s_395.Peer.Next, .sl false (L cApi_Packet s_395.Peer.Early), i64 s_395.Peer.SentAt, .bs false 1 (s_395.delivered.length) 0 (s_395.delivered.length)] false, .buf 1 (L (cSl cU8) s_395.delivered) false, .box [i64 k_396.Epoch, i64 k_396.To, i64 k_396.Seq, i64 k_396.Ack, .sl false (L cU8 k_396.Data)] false]) ⟨_, orcs_nil, ?_⟩ ?_
  · simp only [go_sem]
  replace h := lt1_some h; obtain ⟨n_405, hz_406, h⟩ := h
  refine run_drawE hE mixed [[], [0], [], [2], [2, 3], [2, 3, 4], [2, 3, 4, 5], [0, 1, 2, 3, 4, 5, 6], [0, 1, 2, 3, 4, 5, 6, 7]] (by kernel_rfl) (by kernel_rfl) [0, 3, 4] (fr' := [(0, .ref 0 0), (3, .ref 2 0), (4, i64 n_405)]) (σ' := [.box [i64 s_395.Peer.Epoch, i64 s_395.Peer.Other, i64 s_395.Peer.First, .sl false (L (cSl cU8) s_395.Peer.Queue), i64 s_395.Peer.Next, .sl false (L cApi_Packet s_395.Peer.Early), i64 s_395.Peer.SentAt, .bs false 1 (s_395.delivered.length) 0 (s_395.delivered.length)] false, .buf 1 (L (cSl cU8) s_395.delivered) false, .box [i64 k_396.Epoch, i64 k_396.To, i64 k_396.Seq, i64 k_396.Ack, .sl false (L cU8 k_396.Data)] false]) ⟨_, orcs_nil, ?_⟩ ?_
  · subst hz_406; simp only [go_sem]
  replace h := bind_some1 h; obtain ⟨t_407, hv_408, h⟩ := h
  refine run_textW hE [0, 3, 4, 24] (fr' := [(0, .ref 0 0), (3, .ref 2 0), (4, i64 n_405), (24, .bool t_407)]) (σ' := [.box [i64 s_395.Peer.Epoch, i64 s_395.Peer.Other, i64 s_395.Peer.First, .sl false (L (cSl cU8) s_395.Peer.Queue), i64 s_395.Peer.Next, .sl false (L cApi_Packet s_395.Peer.Early), i64 s_395.Peer.SentAt, .bs false 1 (s_395.delivered.length) 0 (s_395.delivered.length)] false, .buf 1 (L (cSl cU8) s_395.delivered) false, .box [i64 k_396.Epoch, i64 k_396.To, i64 k_396.Seq, i64 k_396.Ack, .sl false (L cU8 k_396.Data)] false]) ?_ ?_
  · rcases Bool.eq_false_or_eq_true ((decide (n_405 > 0))) with hb_409 | hb_409
    · replace hv_408 := ite_t hv_408 hb_409
      have e_hv_408 := Option.some.inj hv_408; subst e_hv_408
      exact ⟨_, [(0, .ref 0 0), (3, .ref 2 0), (4, i64 n_405), (24, .bool ((decide (n_405 ≤ (s_395.Peer.Queue.length : Int)))))], [.box [i64 s_395.Peer.Epoch, i64 s_395.Peer.Other, i64 s_395.Peer.First, .sl false (L (cSl cU8) s_395.Peer.Queue), i64 s_395.Peer.Next, .sl false (L cApi_Packet s_395.Peer.Early), i64 s_395.Peer.SentAt, .bs false 1 (s_395.delivered.length) 0 (s_395.delivered.length)] false, .buf 1 (L (cSl cU8) s_395.delivered) false, .box [i64 k_396.Epoch, i64 k_396.To, i64 k_396.Seq, i64 k_396.Ack, .sl false (L cU8 k_396.Data)] false], orcs_nil, by simp only [go_sem, hb_409], (weak_sel [0, 1, 2] (by decide) rfl (by simp only [go_sem]) (by simp only [go_sem]))⟩
    · replace hv_408 := ite_f hv_408 hb_409
      have e_hv_408 := Option.some.inj hv_408; subst e_hv_408
      exact ⟨_, [(0, .ref 0 0), (3, .ref 2 0), (4, i64 n_405), (24, .bool false)], [.box [i64 s_395.Peer.Epoch, i64 s_395.Peer.Other, i64 s_395.Peer.First, .sl false (L (cSl cU8) s_395.Peer.Queue), i64 s_395.Peer.Next, .sl false (L cApi_Packet s_395.Peer.Early), i64 s_395.Peer.SentAt, .bs false 1 (s_395.delivered.length) 0 (s_395.delivered.length)] false, .buf 1 (L (cSl cU8) s_395.delivered) false, .box [i64 k_396.Epoch, i64 k_396.To, i64 k_396.Seq, i64 k_396.Ack, .sl false (L cU8 k_396.Data)] false], orcs_nil, by simp only [go_sem, hb_409], (weak_sel [0, 1, 2] (by decide) rfl (by simp only [go_sem]) (by simp only [go_sem]))⟩
  refine run_condL (b := t_407) rfl (by decide) (fun hb => ?_) (fun hb => ?_)
  · replace h := ite_t h hb
    replace h := chk_some h; obtain ⟨hc_410, h⟩ := h
    replace h := lt1_some h; obtain ⟨f_411, hz_412, h⟩ := h
    refine run_drawS0 hE mixed [[], [], [], [], [3], [3, 4], [3, 4, 5], [3, 4, 5, 6], [], [3, 4, 5, 6, 7, 8], [], [10], [0, 3, 4, 5, 6, 7, 8, 9], [0, 3, 4, 5, 6, 7, 8, 9, 12], [0, 3, 4, 5, 6, 7, 8, 9, 12, 13], [0, 3, 4, 5, 6, 7, 8, 9, 12, 13, 14], [0, 1, 3, 4, 5, 6, 7, 8, 9, 10, 11, 12, 13, 14, 15], [0, 1, 3, 4, 5, 6, 7, 8, 9, 10, 11, 12, 13, 14, 15, 16], [0, 1, 3, 4, 5, 6, 7, 8, 9, 10, 11, 12, 13, 14, 15, 16, 17], [0, 1, 3, 4, 5, 6, 7, 8, 9, 10, 11, 12, 13, 14, 15, 16, 17, 18], [0, 1, 2, 3, 4, 5, 6, 7, 8, 9, 10, 11, 12, 13, 14, 15, 16, 17, 18, 19], [0, 1, 2, 3, 4, 5, 6, 7, 8, 9, 10, 11, 12, 13, 14, 15, 16, 17, 18, 19, 20], [0, 1, 2, 3, 4, 5, 6, 7, 8, 9, 10, 11, 12, 13, 14, 15, 16, 17, 18, 19, 20, 21], [0, 1, 2, 3, 4, 5, 6, 7, 8, 9, 10, 11, 12, 13, 14, 15, 16, 17, 18, 19, 20, 21, 22]] (by kernel_rfl) [(3, 2), (35, 2), (39, 0)] [] [3, 35, 39] (by kernel_rfl) wk_wkP (fr' := [(3, .ref 2 0), (35, .ref 2 3), (39, .ref 0 3)]) (σ' := [.box [i64 s_395.Peer.Epoch, i64 s_395.Peer.Other, i64 k_396.Ack, .sl false (L (cSl cU8) f_411), i64 s_395.Peer.Next, .sl false (L cApi_Packet s_395.Peer.Early), i64 ((-1)), .bs false 1 (s_395.delivered.length) 0 (s_395.delivered.length)] false, .buf 1 (L (cSl cU8) s_395.delivered) false, .box [i64 k_396.Epoch, i64 k_396.To, i64 k_396.Seq, i64 k_396.Ack, .sl false (L cU8 k_396.Data)] false]) ⟨rfl, rfl, rfl, trivial⟩ ⟨_, _, orcs_nil, (by simp only [XOk]), ?_⟩ ?_
    · subst hz_412; simp only [go_sem, Int.reduceToNat, Nat.reduceLeDiff, hc_410]
    obtain rfl := Option.some.inj h
    refine wkP_of (Weak.refl _ _) ?_
    refine ret_own (.inl rfl) [0, 1] (by decide) rfl ?_ ?_
    · simp only [go_sem]
    · simp only [go_sem]
  · replace h := ite_f h hb
    refine run_skip ?_
    obtain rfl := Option.some.inj h
    refine wkP_of (Weak.refl _ _) ?_
    refine ret_own (.inl rfl) [0, 1] (by decide) rfl ?_ ?_
    · simp only [go_sem]
    · simp only [go_sem]

theorem window_side_deliver_con {s_413 : Window_side} {k_414 : Api_Packet} {r : Window_side} (h : window_side_deliver s_413 k_414 = some r) : Con B 43 [.ref 0 0, .agg [i64 k_414.Epoch, i64 k_414.To, i64 k_414.Seq, i64 k_414.Ack, .sl false (L cU8 k_414.Data)]] [.box [i64 s_413.Peer.Epoch, i64 s_413.Peer.Other, i64 s_413.Peer.First, .sl false (L (cSl cU8) s_413.Peer.Queue), i64 s_413.Peer.Next, .sl false (L cApi_Packet s_413.Peer.Early), i64 s_413.Peer.SentAt, .bs false 1 (s_413.delivered.length) 0 (s_413.delivered.length)] false, .buf 1 (L (cSl cU8) s_413.delivered) false] (fun r' σ' => r' = .tup [] ∧ σ' = [.box [i64 r.Peer.Epoch, i64 r.Peer.Other, i64 r.Peer.First, .sl false (L (cSl cU8) r.Peer.Queue), i64 r.Peer.Next, .sl false (L cApi_Packet r.Peer.Early), i64 r.Peer.SentAt, .bs false 1 (r.delivered.length) 0 (r.delivered.length)] false, .buf 1 (L (cSl cU8) r.delivered) false]) := by
  refine con_walk_own (N := 59) (rs := []) 2 rfl ok Try.func43 rfl (by decide +kernel) rfl rfl (Nat.le_of_ble_eq_true rfl) (fun F => ?_)
  have hE := ok.env F
  unfold window_side_deliver at h
  show Run (B.env F) 2 _ ⟨asFr 59 [(0, .ref 0 0), (1, .agg [i64 k_414.Epoch, i64 k_414.To, i64 k_414.Seq, i64 k_414.Ack, .sl false (L cU8 k_414.Data)])], [.box [i64 s_413.Peer.Epoch, i64 s_413.Peer.Other, i64 s_413.Peer.First, .sl false (L (cSl cU8) s_413.Peer.Queue), i64 s_413.Peer.Next, .sl false (L cApi_Packet s_413.Peer.Early), i64 s_413.Peer.SentAt, .bs false 1 (s_413.delivered.length) 0 (s_413.delivered.length)] false, .buf 1 (L (cSl cU8) s_413.delivered) false]⟩ _
  refine run_wkP ?_
  refine run_textE hE [0, 3] (fr' := [(0, .ref 0 0), (3, .ref 2 0)]) (σ' := [.box [i64 s_413.Peer.Epoch, i64 s_413.Peer.Other, i64 s_413.Peer.First, .sl false (L (cSl cU8) s_413.Peer.Queue), i64 s_413.Peer.Next, .sl false (L cApi_Packet s_413.Peer.Early), i64 s_413.Peer.SentAt, .bs false 1 (s_413.delivered.length) 0 (s_413.delivered.length)] false, .buf 1 (L (cSl cU8) s_413.delivered) false, .box [i64 k_414.Epoch, i64 k_414.To, i64 k_414.Seq, i64 k_414.Ack, .sl false (L cU8 k_414.Data)] false]) ⟨_, orcs_nil, ?_⟩ ?_
  · simp only [go_sem]
  refine run_seq ?_
  refine run_drawE hE mixed [[], [0], [], [2], [2, 3], [2, 3, 4], [2, 3, 4, 5], [0, 1, 2, 3, 4, 5, 6]] (by kernel_rfl) (by kernel_rfl) [0, 3, 11] (fr' := [(0, .ref 0 0), (3, .ref 2 0), (11, .bool ((k_414.Seq != s_413.Peer.Next)))]) (σ' := [.box [i64 s_413.Peer.Epoch, i64 s_413.Peer.Other, i64 s_413.Peer.First, .sl false (L (cSl cU8) s_413.Peer.Queue), i64 s_413.Peer.Next, .sl false (L cApi_Packet s_413.Peer.Early), i64 s_413.Peer.SentAt, .bs false 1 (s_413.delivered.length) 0 (s_413.delivered.length)] false, .buf 1 (L (cSl cU8) s_413.delivered) false, .box [i64 k_414.Epoch, i64 k_414.To, i64 k_414.Seq, i64 k_414.Ack, .sl false (L cU8 k_414.Data)] false]) ⟨_, orcs_nil, ?_⟩ ?_
  · simp only [go_sem]
  refine run_condL (b := (k_414.Seq != s_413.Peer.Next)) rfl (by decide) (fun hb => ?_) (fun hb => ?_)
  · replace h := ite_t h hb
    refine run_ret ?_
    refine thenK_r ?_
    obtain rfl := Option.some.inj h
    refine wkP_of (Weak.refl _ _) ?_
    refine ret_own (.inr rfl) [0, 1] (by decide) rfl ?_ ?_
    · simp only [go_sem]
    · simp only [go_sem]
  · replace h := ite_f h hb
    refine run_skip ?_
    refine thenK_n ?_
    replace h := bind_some1 h; obtain ⟨y_476, hy_477, h⟩ := h
    replace h := lt1_some h; obtain ⟨l_478, hz_479, h⟩ := h
    refine run_textE hE [0] (fr' := [(0, .ref 0 0)]) (σ' := [.box [i64 y_476.Peer.Epoch, i64 y_476.Peer.Other, i64 y_476.Peer.First, .sl false (L (cSl cU8) y_476.Peer.Queue), i64 y_476.Peer.Next, .sl false (L cApi_Packet y_476.Peer.Early), i64 y_476.Peer.SentAt, .bs false 1 (l_478.length) 0 (l_478.length)] false, .buf 1 (L (cSl cU8) l_478) false, .box [i64 k_414.Epoch, i64 k_414.To, i64 k_414.Seq, i64 k_414.Ack, .sl false (L cU8 k_414.Data)] false]) ⟨_, orcs_ok2 (l := []) (m := [(15, 60, [.ref 0 0, .sl false (L cU8 k_414.Data)], [.box [i64 s_413.Peer.Epoch, i64 s_413.Peer.Other, i64 s_413.Peer.First, .sl false (L (cSl cU8) s_413.Peer.Queue), i64 s_413.Peer.Next, .sl false (L cApi_Packet s_413.Peer.Early), i64 s_413.Peer.SentAt, .bs false 1 (s_413.delivered.length) 0 (s_413.delivered.length)] false, .buf 1 (L (cSl cU8) s_413.delivered) false, .box [i64 k_414.Epoch, i64 k_414.To, i64 k_414.Seq, i64 k_414.Ack, .sl false (L cU8 k_414.Data)] false], .tup [], [.box [i64 y_476.Peer.Epoch, i64 y_476.Peer.Other, i64 y_476.Peer.First, .sl false (L (cSl cU8) y_476.Peer.Queue), i64 y_476.Peer.Next, .sl false (L cApi_Packet y_476.Peer.Early), i64 y_476.Peer.SentAt, .bs false 1 (y_476.delivered.length) 0 (y_476.delivered.length)] false, .buf 1 (L (cSl cU8) y_476.delivered) false, .box [i64 k_414.Epoch, i64 k_414.To, i64 k_414.Seq, i64 k_414.Ack, .sl false (L cU8 k_414.Data)] false])]) trivial ⟨(wcon_call (window_side_take_con hy_477) [0, 1] (by decide) (by simp only [go_sem]) (by simp only [go_sem]) (by simp only [go_sem]) (by simp only [go_sem]) (by simp only [go_sem])), trivial⟩, ?_⟩ ?_
    · subst hz_479; simp only [go_sem]
    refine run_block ?_
    replace h := bind_some1 h; obtain ⟨x_520, hx_521, hj_522⟩ := h
    refine run_loopO hx_521 (fun (v : Int × Int × Int × List (List UInt8) × Int × List Api_Packet × Int × List (List UInt8)) => (⟨asFr 59 [(0, .ref 0 0)], [.box [i64 v.1, i64 v.2.1, i64 v.2.2.1, .sl false (L (cSl cU8) v.2.2.2.1), i64 v.2.2.2.2.1, .sl false (L cApi_Packet v.2.2.2.2.2.1), i64 v.2.2.2.2.2.2.1, .bs false 1 (v.2.2.2.2.2.2.2.length) 0 (v.2.2.2.2.2.2.2.length)] false, .buf 1 (L (cSl cU8) v.2.2.2.2.2.2.2) false]⟩ : St)) (weak_sel [0, 1] (by decide) rfl (by simp only [go_sem]) (by simp only [go_sem])) ?_
    rintro ⟨f_492, f_493, f_494, f_495, f_496, f_497, f_498, l_499⟩ o_523 h hxx_524
    replace h : window_side_deliver_b1 f_492 f_493 f_494 f_495 f_496 f_497 f_498 l_499 = some o_523 := h
    unfold window_side_deliver_b1 at h
    refine run_seq ?_
    replace h := bind_some1 h; obtain ⟨t_525, hv_526, h⟩ := h
    refine run_drawW hE mixed [[], [0], [0, 1], [0, 1, 2], [0, 1, 2, 3], [0, 1, 2, 3, 4], [0, 1, 2, 3, 4, 5], [0, 1, 2, 3, 4, 5, 6], [0, 1, 2, 3, 4, 5, 6, 7], [0, 1, 2, 3, 4, 5, 6, 7, 8], [0, 1, 2, 3, 4, 5, 6, 7, 8, 9], [0, 1, 2, 3, 4, 5, 6, 7, 8, 9, 10], [0, 1, 2, 3, 4, 5, 6, 7, 8, 9, 10, 11], [0, 1, 2, 3, 4, 5, 6, 7, 8, 9, 10, 11, 12], [0, 1, 2, 3, 4, 5, 6, 7, 8, 9, 10, 11, 12, 13], [0, 1, 2, 3, 4, 5, 6, 7, 8, 9, 10, 11, 12, 13, 14], [0, 1, 2, 3, 4, 5, 6, 7], [0, 1, 2, 3, 4, 5, 6, 7, 16], [0, 1, 2, 3, 4, 5, 6, 7, 16, 17], [0, 1, 2, 3, 4, 5, 6, 7, 16, 17, 18], [0, 1, 2, 3, 4, 5, 6, 7, 16, 17, 18, 19], [0, 1, 2, 3, 4, 5, 6, 7, 8, 9, 10, 11, 12, 13, 14, 15, 16, 17, 18, 19, 20], [0, 1, 2, 3, 4, 5, 6, 7, 8, 9, 10, 11, 12, 13, 14, 15, 16, 17, 18, 19, 20, 21]] (by kernel_rfl) (by kernel_rfl) [0, 38] (fr' := [(0, .ref 0 0), (38, .bool t_525)]) (σ' := [.box [i64 f_492, i64 f_493, i64 f_494, .sl false (L (cSl cU8) f_495), i64 f_496, .sl false (L cApi_Packet f_497), i64 f_498, .bs false 1 (l_499.length) 0 (l_499.length)] false, .buf 1 (L (cSl cU8) l_499) false]) ?_ ?_
    · rcases Bool.eq_false_or_eq_true ((decide ((f_497.length : Int) > 0))) with hb_527 | hb_527
      · replace hv_526 := ite_t hv_526 hb_527
        replace hv_526 := chk_some hv_526; obtain ⟨hc_528, hv_526⟩ := hv_526
        have e_hv_526 := Option.some.inj hv_526; subst e_hv_526
        exact ⟨_, [(0, .ref 0 0), (38, .bool (((nth f_497 0).Seq == f_496)))], [.box [i64 f_492, i64 f_493, i64 f_494, .sl false (L (cSl cU8) f_495), i64 f_496, .sl false (L cApi_Packet f_497), i64 f_498, .bs false 1 (l_499.length) 0 (l_499.length)] false, .buf 1 (L (cSl cU8) l_499) false], orcs_nil, by simp only [go_sem, Int.reduceToNat, hb_527, hc_528, (show 0 < f_497.length from hc_528.2)], (weak_sel [0, 1] (by decide) rfl (by simp only [go_sem]) (by simp only [go_sem]))⟩
      · replace hv_526 := ite_f hv_526 hb_527
        have e_hv_526 := Option.some.inj hv_526; subst e_hv_526
        exact ⟨_, [(0, .ref 0 0), (38, .bool false)], [.box [i64 f_492, i64 f_493, i64 f_494, .sl false (L (cSl cU8) f_495), i64 f_496, .sl false (L cApi_Packet f_497), i64 f_498, .bs false 1 (l_499.length) 0 (l_499.length)] false, .buf 1 (L (cSl cU8) l_499) false], orcs_nil, by simp only [go_sem, Int.reduceToNat, hb_527], (weak_sel [0, 1] (by decide) rfl (by simp only [go_sem]) (by simp only [go_sem]))⟩
    refine run_condL (b := t_525) rfl (by decide) (fun hb => ?_) (fun hb => ?_)
    · replace h := ite_t h hb
      refine run_skip ?_
      refine thenK_n ?_
      refine run_block ?_
      replace h := chk_some h; obtain ⟨hc_530, h⟩ := h
      replace h := bind_some1 h; obtain ⟨y_529, hy_531, h⟩ := h
      replace h := lt1_some h; obtain ⟨l_532, hz_533, h⟩ := h
      refine run_textE hE [0] (fr' := [(0, .ref 0 0)]) (σ' := [.box [i64 y_529.Peer.Epoch, i64 y_529.Peer.Other, i64 y_529.Peer.First, .sl false (L (cSl cU8) y_529.Peer.Queue), i64 y_529.Peer.Next, .sl false (L cApi_Packet y_529.Peer.Early), i64 y_529.Peer.SentAt, .bs false 1 (l_532.length) 0 (l_532.length)] false, .buf 1 (L (cSl cU8) l_532) false]) ⟨_, orcs_ok2 (l := []) (m := [(48, 60, [.ref 0 0, .sl false (L cU8 ((nth f_497 0).Data))], [.box [i64 f_492, i64 f_493, i64 f_494, .sl false (L (cSl cU8) f_495), i64 f_496, .sl false (L cApi_Packet f_497), i64 f_498, .bs false 1 (l_499.length) 0 (l_499.length)] false, .buf 1 (L (cSl cU8) l_499) false], .tup [], [.box [i64 y_529.Peer.Epoch, i64 y_529.Peer.Other, i64 y_529.Peer.First, .sl false (L (cSl cU8) y_529.Peer.Queue), i64 y_529.Peer.Next, .sl false (L cApi_Packet y_529.Peer.Early), i64 y_529.Peer.SentAt, .bs false 1 (y_529.delivered.length) 0 (y_529.delivered.length)] false, .buf 1 (L (cSl cU8) y_529.delivered) false])]) trivial ⟨(wcon_call (window_side_take_con hy_531) [0, 1] (by decide) (by simp only [go_sem]) (by simp only [go_sem]) (by simp only [go_sem]) (by simp only [go_sem]) (by simp only [go_sem])), trivial⟩, ?_⟩ ?_
      · subst hz_533; simp only [go_sem, Int.reduceToNat, hc_530, (show 0 < f_497.length from hc_530.2)]
      replace h := chk_some h; obtain ⟨hc_534, h⟩ := h
      replace h := lt1_some h; obtain ⟨f_535, hz_536, h⟩ := h
      refine run_textE0 hE (wk_block wk_lp) [0] (fr' := [(0, .ref 0 0)]) (σ' := [.box [i64 y_529.Peer.Epoch, i64 y_529.Peer.Other, i64 y_529.Peer.First, .sl false (L (cSl cU8) y_529.Peer.Queue), i64 y_529.Peer.Next, .sl false (L cApi_Packet f_535), i64 y_529.Peer.SentAt, .bs false 1 (l_532.length) 0 (l_532.length)] false, .buf 1 (L (cSl cU8) l_532) false]) ⟨_, orcs_nil, ?_⟩ ?_
      · subst hz_536; simp only [go_sem, Int.reduceToNat, Nat.reduceLeDiff, hc_534]
      refine blockK_n ?_
      obtain rfl := Option.some.inj h
      exact lpK_n ((y_529.Peer.Epoch, y_529.Peer.Other, y_529.Peer.First, y_529.Peer.Queue, y_529.Peer.Next, f_535, y_529.Peer.SentAt, l_532)) rfl (weak_sel [0, 1] (by decide) rfl (by simp only [go_sem]) (by simp only [go_sem]))
    · replace h := ite_f h hb
      refine run_exit ?_
      refine thenK_x ?_
      obtain rfl := Option.some.inj h
      have ex_x_520 := hxx_524 _ rfl
      subst ex_x_520
      have h := hj_522; clear hj_522
      refine lpK_x ?_
      refine blockK_x ?_
      obtain rfl := Option.some.inj h
      refine wkP_of (Weak.refl _ _) ?_
      refine ret_own (.inl rfl) [0, 1] (by decide) rfl ?_ ?_
      · simp only [go_sem]
      · simp only [go_sem]

end Go.Proofs.Ytomjphpnpcgacaa
/-
  The functions compute just that.
-/
namespace Go.Proofs.Ytomjphpnpcgacaa
open Go.Rv
set_option linter.unusedVariables false
set_option linter.unusedSimpArgs false
set_option maxRecDepth 20000
set_option maxHeartbeats 4000000

theorem window_side_keep_con {s_537 : Window_side} {k_538 : Api_Packet} {r : Window_side} (h : window_side_keep s_537 k_538 = some r) : Con B 42 [.ref 0 0, .agg [i64 k_538.Epoch, i64 k_538.To, i64 k_538.Seq, i64 k_538.Ack, .sl false (L cU8 k_538.Data)]] [.box [i64 s_537.Peer.Epoch, i64 s_537.Peer.Other, i64 s_537.Peer.First, .sl false (L (cSl cU8) s_537.Peer.Queue), i64 s_537.Peer.Next, .sl false (L cApi_Packet s_537.Peer.Early), i64 s_537.Peer.SentAt, .bs false 1 (s_537.delivered.length) 0 (s_537.delivered.length)] false, .buf 1 (L (cSl cU8) s_537.delivered) false] (fun r' σ' => r' = .tup [] ∧ σ' = [.box [i64 r.Peer.Epoch, i64 r.Peer.Other, i64 r.Peer.First, .sl false (L (cSl cU8) r.Peer.Queue), i64 r.Peer.Next, .sl false (L cApi_Packet r.Peer.Early), i64 r.Peer.SentAt, .bs false 1 (r.delivered.length) 0 (r.delivered.length)] false, .buf 1 (L (cSl cU8) r.delivered) false]) := by
  refine con_walk_own (N := 57) (rs := []) 2 rfl ok Try.func42 rfl (by decide +kernel) rfl rfl (Nat.le_of_ble_eq_true rfl) (fun F => ?_)
  have hE := ok.env F
  unfold window_side_keep at h
  show Run (B.env F) 2 _ ⟨asFr 57 [(0, .ref 0 0), (1, .agg [i64 k_538.Epoch, i64 k_538.To, i64 k_538.Seq, i64 k_538.Ack, .sl false (L cU8 k_538.Data)])], [.box [i64 s_537.Peer.Epoch, i64 s_537.Peer.Other, i64 s_537.Peer.First, .sl false (L (cSl cU8) s_537.Peer.Queue), i64 s_537.Peer.Next, .sl false (L cApi_Packet s_537.Peer.Early), i64 s_537.Peer.SentAt, .bs false 1 (s_537.delivered.length) 0 (s_537.delivered.length)] false, .buf 1 (L (cSl cU8) s_537.delivered) false]⟩ _
  refine run_wkP ?_
  refine run_textE hE [0, 3] (fr' := [(0, .ref 0 0), (3, .ref 2 0)]) (σ' := [.box [i64 s_537.Peer.Epoch, i64 s_537.Peer.Other, i64 s_537.Peer.First, .sl false (L (cSl cU8) s_537.Peer.Queue), i64 s_537.Peer.Next, .sl false (L cApi_Packet s_537.Peer.Early), i64 s_537.Peer.SentAt, .bs false 1 (s_537.delivered.length) 0 (s_537.delivered.length)] false, .buf 1 (L (cSl cU8) s_537.delivered) false, .box [i64 k_538.Epoch, i64 k_538.To, i64 k_538.Seq, i64 k_538.Ack, .sl false (L cU8 k_538.Data)] false]) ⟨_, orcs_nil, ?_⟩ ?_
  · simp only [go_sem]
  refine run_seq ?_
  replace h := bind_some1 h; obtain ⟨t_546, hv_547, h⟩ := h
  refine run_drawW hE mixed [[], [0], [], [2], [2, 3], [2, 3, 4], [2, 3, 4, 5], [0, 1, 2, 3, 4, 5, 6], [0, 1, 2, 3, 4, 5, 6, 7], [0, 1, 2, 3, 4, 5, 6, 7, 8], [0, 1, 2, 3, 4, 5, 6, 7, 8, 9], [0, 1, 2, 3, 4, 5, 6, 7, 8], [0, 1, 2, 3, 4, 5, 6, 7, 8, 11], [0, 1, 2, 3, 4, 5, 6, 7, 8, 11, 12], [0, 1, 2, 3, 4, 5, 6, 7, 8, 11, 12, 13], [0, 1, 2, 3, 4, 5, 6, 7, 8, 11, 12, 13, 14], [0, 1, 2, 3, 4, 5, 6, 7, 8, 11, 12, 13, 14, 15], [0, 1, 2, 3, 4, 5, 6, 7, 8, 9, 10, 11, 12, 13, 14, 15, 16], [0, 1, 2, 3, 4, 5, 6, 7, 8, 9, 10, 11, 12, 13, 14, 15, 16, 17]] (by kernel_rfl) (by kernel_rfl) [0, 3, 24] (fr' := [(0, .ref 0 0), (3, .ref 2 0), (24, .bool t_546)]) (σ' := [.box [i64 s_537.Peer.Epoch, i64 s_537.Peer.Other, i64 s_537.Peer.First, .sl false (L (cSl cU8) s_537.Peer.Queue), i64 s_537.Peer.Next, .sl false (L cApi_Packet s_537.Peer.Early), i64 s_537.Peer.SentAt, .bs false 1 (s_537.delivered.length) 0 (s_537.delivered.length)] false, .buf 1 (L (cSl cU8) s_537.delivered) false, .box [i64 k_538.Epoch, i64 k_538.To, i64 k_538.Seq, i64 k_538.Ack, .sl false (L cU8 k_538.Data)] false]) ?_ ?_
  · rcases Bool.eq_false_or_eq_true ((decide (k_538.Seq ≤ s_537.Peer.Next))) with hb_548 | hb_548
    · replace hv_547 := ite_t hv_547 hb_548
      have e_hv_547 := Option.some.inj hv_547; subst e_hv_547
      exact ⟨_, [(0, .ref 0 0), (3, .ref 2 0), (24, .bool true)], [.box [i64 s_537.Peer.Epoch, i64 s_537.Peer.Other, i64 s_537.Peer.First, .sl false (L (cSl cU8) s_537.Peer.Queue), i64 s_537.Peer.Next, .sl false (L cApi_Packet s_537.Peer.Early), i64 s_537.Peer.SentAt, .bs false 1 (s_537.delivered.length) 0 (s_537.delivered.length)] false, .buf 1 (L (cSl cU8) s_537.delivered) false, .box [i64 k_538.Epoch, i64 k_538.To, i64 k_538.Seq, i64 k_538.Ack, .sl false (L cU8 k_538.Data)] false], orcs_nil, by simp only [go_sem, hb_548], (weak_sel [0, 1, 2] (by decide) rfl (by simp only [go_sem]) (by simp only [go_sem]))⟩
    · replace hv_547 := ite_f hv_547 hb_548
      have e_hv_547 := Option.some.inj hv_547; subst e_hv_547
      exact ⟨_, [(0, .ref 0 0), (3, .ref 2 0), (24, .bool ((decide (k_538.Seq ≥ (w64 (s_537.Peer.Next + 64))))))], [.box [i64 s_537.Peer.Epoch, i64 s_537.Peer.Other, i64 s_537.Peer.First, .sl false (L (cSl cU8) s_537.Peer.Queue), i64 s_537.Peer.Next, .sl false (L cApi_Packet s_537.Peer.Early), i64 s_537.Peer.SentAt, .bs false 1 (s_537.delivered.length) 0 (s_537.delivered.length)] false, .buf 1 (L (cSl cU8) s_537.delivered) false, .box [i64 k_538.Epoch, i64 k_538.To, i64 k_538.Seq, i64 k_538.Ack, .sl false (L cU8 k_538.Data)] false], orcs_nil, by simp only [go_sem, hb_548], (weak_sel [0, 1, 2] (by decide) rfl (by simp only [go_sem]) (by simp only [go_sem]))⟩
  refine run_condL (b := t_546) rfl (by decide) (fun hb => ?_) (fun hb => ?_)
  · replace h := ite_t h hb
    refine run_ret ?_
    refine thenK_r ?_
    obtain rfl := Option.some.inj h
    refine wkP_of (Weak.refl _ _) ?_
    refine ret_own (.inr rfl) [0, 1] (by decide) rfl ?_ ?_
    · simp only [go_sem]
    · simp only [go_sem]
  · replace h := ite_f h hb
    refine run_skip ?_
    refine thenK_n ?_
    replace h := bind_some1 h; obtain ⟨y_549, hy_550, h⟩ := h
    refine run_drawE hE mixed [[], [0], [0, 1], [0, 1, 2], [0, 1, 2, 3], [], [5], [0, 1, 2, 3, 4, 5, 6], [0, 1, 2, 3, 4, 5, 6, 7], [0, 1, 2, 3, 4, 5, 6, 7, 8], [0, 1, 2, 3, 4, 5, 6, 7, 8], [0, 1, 2, 3, 4, 5, 6, 7, 8, 9], [0, 1, 2, 3, 4, 5, 6, 7, 8, 9, 10, 11]] (by kernel_rfl) (by kernel_rfl) [0, 3, 4, 5] (fr' := [(0, .ref 0 0), (3, .ref 2 0), (4, i64 y_549.1), (5, .bool y_549.2)]) (σ' := [.box [i64 s_537.Peer.Epoch, i64 s_537.Peer.Other, i64 s_537.Peer.First, .sl false (L (cSl cU8) s_537.Peer.Queue), i64 s_537.Peer.Next, .sl false (L cApi_Packet s_537.Peer.Early), i64 s_537.Peer.SentAt, .bs false 1 (s_537.delivered.length) 0 (s_537.delivered.length)] false, .buf 1 (L (cSl cU8) s_537.delivered) false, .box [i64 k_538.Epoch, i64 k_538.To, i64 k_538.Seq, i64 k_538.Ack, .sl false (L cU8 k_538.Data)] false]) ⟨_, orcs_ok (l := [(33, 56, [.sl false (L cApi_Packet s_537.Peer.Early), i64 k_538.Seq, .fn 57 []], .tup [i64 y_549.1, .bool y_549.2])]) ⟨slices_BinarySearchFunc_56_con (fun h => window_side_keep_1_con h) hy_550, trivial⟩, ?_⟩ ?_
    · simp only [go_sem]
    refine run_textE hE [0, 3, 4, 37] (fr' := [(0, .ref 0 0), (3, .ref 2 0), (4, i64 y_549.1), (37, .bool ((!y_549.2)))]) (σ' := [.box [i64 s_537.Peer.Epoch, i64 s_537.Peer.Other, i64 s_537.Peer.First, .sl false (L (cSl cU8) s_537.Peer.Queue), i64 s_537.Peer.Next, .sl false (L cApi_Packet s_537.Peer.Early), i64 s_537.Peer.SentAt, .bs false 1 (s_537.delivered.length) 0 (s_537.delivered.length)] false, .buf 1 (L (cSl cU8) s_537.delivered) false, .box [i64 k_538.Epoch, i64 k_538.To, i64 k_538.Seq, i64 k_538.Ack, .sl false (L cU8 k_538.Data)] false]) ⟨_, orcs_nil, ?_⟩ ?_
    · simp only [go_sem]
    refine run_condL (b := (!y_549.2)) rfl (by decide) (fun hb => ?_) (fun hb => ?_)
    · replace h := ite_t h hb
      cases h
    · replace h := ite_f h hb
      refine run_skip ?_
      obtain rfl := Option.some.inj h
      refine wkP_of (Weak.refl _ _) ?_
      refine ret_own (.inl rfl) [0, 1] (by decide) rfl ?_ ?_
      · simp only [go_sem]
      · simp only [go_sem]

end Go.Proofs.Ytomjphpnpcgacaa
/-
  The functions compute just that.
-/
namespace Go.Proofs.Ytomjphpnpcgacaa
open Go.Rv
set_option linter.unusedVariables false
set_option linter.unusedSimpArgs false
set_option maxRecDepth 20000
set_option maxHeartbeats 4000000

theorem window_Accept_con {p_553 : Api_Peer} {k_554 : Api_Packet} {r : Api_Peer × List (List UInt8) × Bool} (h : window_Accept p_553 k_554 = some r) : Con B 20 [.agg [i64 p_553.Epoch, i64 p_553.Other, i64 p_553.First, .sl false (L (cSl cU8) p_553.Queue), i64 p_553.Next, .sl false (L cApi_Packet p_553.Early), i64 p_553.SentAt], .agg [i64 k_554.Epoch, i64 k_554.To, i64 k_554.Seq, i64 k_554.Ack, .sl false (L cU8 k_554.Data)]] [] (fun r' σ' => r' = .tup [.agg [i64 r.1.Epoch, i64 r.1.Other, i64 r.1.First, .sl false (L (cSl cU8) r.1.Queue), i64 r.1.Next, .sl false (L cApi_Packet r.1.Early), i64 r.1.SentAt], .sl false (L (cSl cU8) r.2.1), .bool r.2.2] ∧ σ' = []) := by
  refine con_walk (N := 102) (rs := [.cell 4 25, .tmp 5, .tmp 6]) ok Try.func20 rfl (by decide +kernel) rfl rfl (Nat.le_of_ble_eq_true rfl) (fun F => ?_)
  have hE := ok.env F
  unfold window_Accept at h
  show Run (B.env F) 0 _ ⟨asFr 102 [(0, .agg [i64 p_553.Epoch, i64 p_553.Other, i64 p_553.First, .sl false (L (cSl cU8) p_553.Queue), i64 p_553.Next, .sl false (L cApi_Packet p_553.Early), i64 p_553.SentAt]), (1, .agg [i64 k_554.Epoch, i64 k_554.To, i64 k_554.Seq, i64 k_554.Ack, .sl false (L cU8 k_554.Data)])], []⟩ _
  refine run_wkP ?_
  refine run_textE hE [2, 3, 4] (fr' := [(2, .ref 0 0), (3, .ref 1 0), (4, .ref 2 0)]) (σ' := [.box [i64 p_553.Epoch, i64 p_553.Other, i64 p_553.First, .sl false (L (cSl cU8) p_553.Queue), i64 p_553.Next, .sl false (L cApi_Packet p_553.Early), i64 p_553.SentAt] false, .box [i64 k_554.Epoch, i64 k_554.To, i64 k_554.Seq, i64 k_554.Ack, .sl false (L cU8 k_554.Data)] false, .box [i64 0, i64 0, i64 0, .sl true (L (cSl cU8) ([])), i64 0, .sl true (L cApi_Packet ([])), i64 0] false]) ⟨_, orcs_nil, ?_⟩ ?_
  · simp only [go_sem, castL, Int.reduceLT, Int.reduceAdd, decide_true, decide_false, Bool.false_eq_true]
  replace h := bind_some1 h; obtain ⟨fine_558, hv_559, h⟩ := h
  refine run_textW hE [2, 3, 4, 7] (fr' := [(2, .ref 0 0), (3, .ref 1 0), (4, .ref 2 0), (7, .bool fine_558)]) (σ' := [.box [i64 p_553.Epoch, i64 p_553.Other, i64 p_553.First, .sl false (L (cSl cU8) p_553.Queue), i64 p_553.Next, .sl false (L cApi_Packet p_553.Early), i64 p_553.SentAt] false, .box [i64 k_554.Epoch, i64 k_554.To, i64 k_554.Seq, i64 k_554.Ack, .sl false (L cU8 k_554.Data)] false, .box [i64 0, i64 0, i64 0, .sl true (L (cSl cU8) ([])), i64 0, .sl true (L cApi_Packet ([])), i64 0] false]) ?_ ?_
  · replace hv_559 := bind_some1 hv_559; obtain ⟨y_555, hy_560, hv_559⟩ := hv_559
    rcases Bool.eq_false_or_eq_true y_555 with hb_561 | hb_561
    · replace hv_559 := ite_t hv_559 hb_561
      replace hv_559 := bind_some1 hv_559; obtain ⟨y_556, hy_562, hv_559⟩ := hv_559
      rcases Bool.eq_false_or_eq_true y_556 with hb_563 | hb_563
      · replace hv_559 := ite_t hv_559 hb_563
        replace hv_559 := bind_some1 hv_559; obtain ⟨y_557, hy_564, hv_559⟩ := hv_559
        rcases Bool.eq_false_or_eq_true y_557 with hb_565 | hb_565
        · replace hv_559 := ite_t hv_559 hb_565
          have e_hv_559 := Option.some.inj hv_559; subst e_hv_559
          exact ⟨_, [(2, .ref 0 0), (3, .ref 1 0), (4, .ref 2 0), (7, .bool ((decide ((k_554.Data.length : Int) ≤ 8000))))], [.box [i64 p_553.Epoch, i64 p_553.Other, i64 p_553.First, .sl false (L (cSl cU8) p_553.Queue), i64 p_553.Next, .sl false (L cApi_Packet p_553.Early), i64 p_553.SentAt] false, .box [i64 k_554.Epoch, i64 k_554.To, i64 k_554.Seq, i64 k_554.Ack, .sl false (L cU8 k_554.Data)] false, .box [i64 0, i64 0, i64 0, .sl true (L (cSl cU8) ([])), i64 0, .sl true (L cApi_Packet ([])), i64 0] false], orcs_ok (l := [(14, 35, [i64 k_554.Epoch, i64 0, i64 1073741824], .bool y_555), (18, 35, [i64 k_554.Seq, i64 ((-1)), i64 1099511627775], .bool y_556), (23, 35, [i64 k_554.Ack, i64 0, i64 1099511627776], .bool y_557)]) ⟨window_between_con  hy_560, window_between_con  hy_562, window_between_con  hy_564, trivial⟩, by simp only [go_sem, castL, Int.reduceLT, Int.reduceAdd, decide_true, decide_false, Bool.false_eq_true, hb_561, hb_563, hb_565], (weak_sel [0, 1, 2] (by decide) rfl (by simp only [go_sem]) (by simp only [go_sem]))⟩
        · replace hv_559 := ite_f hv_559 hb_565
          have e_hv_559 := Option.some.inj hv_559; subst e_hv_559
          exact ⟨_, [(2, .ref 0 0), (3, .ref 1 0), (4, .ref 2 0), (7, .bool false)], [.box [i64 p_553.Epoch, i64 p_553.Other, i64 p_553.First, .sl false (L (cSl cU8) p_553.Queue), i64 p_553.Next, .sl false (L cApi_Packet p_553.Early), i64 p_553.SentAt] false, .box [i64 k_554.Epoch, i64 k_554.To, i64 k_554.Seq, i64 k_554.Ack, .sl false (L cU8 k_554.Data)] false, .box [i64 0, i64 0, i64 0, .sl true (L (cSl cU8) ([])), i64 0, .sl true (L cApi_Packet ([])), i64 0] false], orcs_ok (l := [(14, 35, [i64 k_554.Epoch, i64 0, i64 1073741824], .bool y_555), (18, 35, [i64 k_554.Seq, i64 ((-1)), i64 1099511627775], .bool y_556), (23, 35, [i64 k_554.Ack, i64 0, i64 1099511627776], .bool y_557)]) ⟨window_between_con  hy_560, window_between_con  hy_562, window_between_con  hy_564, trivial⟩, by simp only [go_sem, castL, Int.reduceLT, Int.reduceAdd, decide_true, decide_false, Bool.false_eq_true, hb_561, hb_563, hb_565], (weak_sel [0, 1, 2] (by decide) rfl (by simp only [go_sem]) (by simp only [go_sem]))⟩
      · replace hv_559 := ite_f hv_559 hb_563
        have e_hv_559 := Option.some.inj hv_559; subst e_hv_559
        exact ⟨_, [(2, .ref 0 0), (3, .ref 1 0), (4, .ref 2 0), (7, .bool false)], [.box [i64 p_553.Epoch, i64 p_553.Other, i64 p_553.First, .sl false (L (cSl cU8) p_553.Queue), i64 p_553.Next, .sl false (L cApi_Packet p_553.Early), i64 p_553.SentAt] false, .box [i64 k_554.Epoch, i64 k_554.To, i64 k_554.Seq, i64 k_554.Ack, .sl false (L cU8 k_554.Data)] false, .box [i64 0, i64 0, i64 0, .sl true (L (cSl cU8) ([])), i64 0, .sl true (L cApi_Packet ([])), i64 0] false], orcs_ok (l := [(14, 35, [i64 k_554.Epoch, i64 0, i64 1073741824], .bool y_555), (18, 35, [i64 k_554.Seq, i64 ((-1)), i64 1099511627775], .bool y_556)]) ⟨window_between_con  hy_560, window_between_con  hy_562, trivial⟩, by simp only [go_sem, castL, Int.reduceLT, Int.reduceAdd, decide_true, decide_false, Bool.false_eq_true, hb_561, hb_563], (weak_sel [0, 1, 2] (by decide) rfl (by simp only [go_sem]) (by simp only [go_sem]))⟩
    · replace hv_559 := ite_f hv_559 hb_561
      have e_hv_559 := Option.some.inj hv_559; subst e_hv_559
      exact ⟨_, [(2, .ref 0 0), (3, .ref 1 0), (4, .ref 2 0), (7, .bool false)], [.box [i64 p_553.Epoch, i64 p_553.Other, i64 p_553.First, .sl false (L (cSl cU8) p_553.Queue), i64 p_553.Next, .sl false (L cApi_Packet p_553.Early), i64 p_553.SentAt] false, .box [i64 k_554.Epoch, i64 k_554.To, i64 k_554.Seq, i64 k_554.Ack, .sl false (L cU8 k_554.Data)] false, .box [i64 0, i64 0, i64 0, .sl true (L (cSl cU8) ([])), i64 0, .sl true (L cApi_Packet ([])), i64 0] false], orcs_ok (l := [(14, 35, [i64 k_554.Epoch, i64 0, i64 1073741824], .bool y_555)]) ⟨window_between_con  hy_560, trivial⟩, by simp only [go_sem, castL, Int.reduceLT, Int.reduceAdd, decide_true, decide_false, Bool.false_eq_true, hb_561], (weak_sel [0, 1, 2] (by decide) rfl (by simp only [go_sem]) (by simp only [go_sem]))⟩
  refine run_seq ?_
  replace h := bind_some1 h; obtain ⟨t_567, hv_568, h⟩ := h
  refine run_textW hE [2, 3, 4, 44] (fr' := [(2, .ref 0 0), (3, .ref 1 0), (4, .ref 2 0), (44, .bool t_567)]) (σ' := [.box [i64 p_553.Epoch, i64 p_553.Other, i64 p_553.First, .sl false (L (cSl cU8) p_553.Queue), i64 p_553.Next, .sl false (L cApi_Packet p_553.Early), i64 p_553.SentAt] false, .box [i64 k_554.Epoch, i64 k_554.To, i64 k_554.Seq, i64 k_554.Ack, .sl false (L cU8 k_554.Data)] false, .box [i64 0, i64 0, i64 0, .sl true (L (cSl cU8) ([])), i64 0, .sl true (L cApi_Packet ([])), i64 0] false]) ?_ ?_
  · rcases Bool.eq_false_or_eq_true ((!fine_558)) with hb_569 | hb_569
    · replace hv_568 := ite_t hv_568 hb_569
      have e_hv_568 := Option.some.inj hv_568; subst e_hv_568
      exact ⟨_, [(2, .ref 0 0), (3, .ref 1 0), (4, .ref 2 0), (44, .bool true)], [.box [i64 p_553.Epoch, i64 p_553.Other, i64 p_553.First, .sl false (L (cSl cU8) p_553.Queue), i64 p_553.Next, .sl false (L cApi_Packet p_553.Early), i64 p_553.SentAt] false, .box [i64 k_554.Epoch, i64 k_554.To, i64 k_554.Seq, i64 k_554.Ack, .sl false (L cU8 k_554.Data)] false, .box [i64 0, i64 0, i64 0, .sl true (L (cSl cU8) ([])), i64 0, .sl true (L cApi_Packet ([])), i64 0] false], orcs_nil, by simp only [go_sem, castL, Int.reduceLT, Int.reduceAdd, decide_true, decide_false, Bool.false_eq_true, hb_569], (weak_sel [0, 1, 2] (by decide) rfl (by simp only [go_sem]) (by simp only [go_sem]))⟩
    · replace hv_568 := ite_f hv_568 hb_569
      replace hv_568 := bind_some1 hv_568; obtain ⟨y_566, hy_570, hv_568⟩ := hv_568
      rcases Bool.eq_false_or_eq_true ((!y_566)) with hb_571 | hb_571
      · replace hv_568 := ite_t hv_568 hb_571
        have e_hv_568 := Option.some.inj hv_568; subst e_hv_568
        exact ⟨_, [(2, .ref 0 0), (3, .ref 1 0), (4, .ref 2 0), (44, .bool true)], [.box [i64 p_553.Epoch, i64 p_553.Other, i64 p_553.First, .sl false (L (cSl cU8) p_553.Queue), i64 p_553.Next, .sl false (L cApi_Packet p_553.Early), i64 p_553.SentAt] false, .box [i64 k_554.Epoch, i64 k_554.To, i64 k_554.Seq, i64 k_554.Ack, .sl false (L cU8 k_554.Data)] false, .box [i64 0, i64 0, i64 0, .sl true (L (cSl cU8) ([])), i64 0, .sl true (L cApi_Packet ([])), i64 0] false], orcs_ok (l := [(35, 37, [.agg [i64 p_553.Epoch, i64 p_553.Other, i64 p_553.First, .sl false (L (cSl cU8) p_553.Queue), i64 p_553.Next, .sl false (L cApi_Packet p_553.Early), i64 p_553.SentAt]], .bool y_566)]) ⟨window_valid_con  hy_570, trivial⟩, by simp only [go_sem, castL, Int.reduceLT, Int.reduceAdd, decide_true, decide_false, Bool.false_eq_true, hb_569, hb_571], (weak_sel [0, 1, 2] (by decide) rfl (by simp only [go_sem]) (by simp only [go_sem]))⟩
      · replace hv_568 := ite_f hv_568 hb_571
        have e_hv_568 := Option.some.inj hv_568; subst e_hv_568
        exact ⟨_, [(2, .ref 0 0), (3, .ref 1 0), (4, .ref 2 0), (44, .bool ((decide (k_554.Epoch < p_553.Other))))], [.box [i64 p_553.Epoch, i64 p_553.Other, i64 p_553.First, .sl false (L (cSl cU8) p_553.Queue), i64 p_553.Next, .sl false (L cApi_Packet p_553.Early), i64 p_553.SentAt] false, .box [i64 k_554.Epoch, i64 k_554.To, i64 k_554.Seq, i64 k_554.Ack, .sl false (L cU8 k_554.Data)] false, .box [i64 0, i64 0, i64 0, .sl true (L (cSl cU8) ([])), i64 0, .sl true (L cApi_Packet ([])), i64 0] false], orcs_ok (l := [(35, 37, [.agg [i64 p_553.Epoch, i64 p_553.Other, i64 p_553.First, .sl false (L (cSl cU8) p_553.Queue), i64 p_553.Next, .sl false (L cApi_Packet p_553.Early), i64 p_553.SentAt]], .bool y_566)]) ⟨window_valid_con  hy_570, trivial⟩, by simp only [go_sem, castL, Int.reduceLT, Int.reduceAdd, decide_true, decide_false, Bool.false_eq_true, hb_569, hb_571], (weak_sel [0, 1, 2] (by decide) rfl (by simp only [go_sem]) (by simp only [go_sem]))⟩
  refine run_condL (b := t_567) rfl (by decide) (fun hb => ?_) (fun hb => ?_)
  · replace h := ite_t h hb
    refine run_textE hE [4, 5, 6] (fr' := [(4, .ref 2 0), (5, .sl true (L (cSl cU8) ([]))), (6, .bool false)]) (σ' := [.box [i64 p_553.Epoch, i64 p_553.Other, i64 p_553.First, .sl false (L (cSl cU8) p_553.Queue), i64 p_553.Next, .sl false (L cApi_Packet p_553.Early), i64 p_553.SentAt] false, .box [i64 k_554.Epoch, i64 k_554.To, i64 k_554.Seq, i64 k_554.Ack, .sl false (L cU8 k_554.Data)] false, .box [i64 p_553.Epoch, i64 p_553.Other, i64 p_553.First, .sl false (L (cSl cU8) p_553.Queue), i64 p_553.Next, .sl false (L cApi_Packet p_553.Early), i64 p_553.SentAt] false]) ⟨_, orcs_nil, ?_⟩ ?_
    · simp only [go_sem, Nat.reduceLeDiff, castL, Int.reduceLT, Int.reduceAdd, decide_true, decide_false, Bool.false_eq_true]
    refine run_ret ?_
    refine thenK_r ?_
    obtain rfl := Option.some.inj h
    refine wkP_of (Weak.refl _ _) ?_
    refine ret_ok (.inr rfl) ?_
    simp only [go_sem]
  · replace h := ite_f h hb
    refine run_skip ?_
    refine thenK_n ?_
    refine run_textE hE [3, 4, 8] (fr' := [(3, .ref 1 0), (4, .ref 2 0), (8, .ref 3 0)]) (σ' := [.box [i64 p_553.Epoch, i64 p_553.Other, i64 p_553.First, .sl false (L (cSl cU8) p_553.Queue), i64 p_553.Next, .sl false (L cApi_Packet p_553.Early), i64 p_553.SentAt] false, .box [i64 k_554.Epoch, i64 k_554.To, i64 k_554.Seq, i64 k_554.Ack, .sl false (L cU8 k_554.Data)] false, .box [i64 0, i64 0, i64 0, .sl true (L (cSl cU8) ([])), i64 0, .sl true (L cApi_Packet ([])), i64 0] false, .box [i64 p_553.Epoch, i64 p_553.Other, i64 p_553.First, .sl false (L (cSl cU8) p_553.Queue), i64 p_553.Next, .sl false (L cApi_Packet p_553.Early), i64 p_553.SentAt, .sl true (L (cSl cU8) ([]))] false]) ⟨_, orcs_nil, ?_⟩ ?_
    · simp only [go_sem, Nat.reduceGT, castL, Int.reduceLT, Int.reduceAdd, decide_true, decide_false, Bool.false_eq_true]
    replace h := lt1_some h; obtain ⟨reset_572, hz_573, h⟩ := h
    refine run_drawE hE mixed [[], [0], [], [2], [2, 3], [2, 3, 4], [2, 3, 4, 5], [0, 1, 2, 3, 4, 5, 6], [0, 1, 2, 3, 4, 5, 6, 7]] (by kernel_rfl) (by kernel_rfl) [3, 4, 8, 9] (fr' := [(3, .ref 1 0), (4, .ref 2 0), (8, .ref 3 0), (9, .bool reset_572)]) (σ' := [.box [i64 p_553.Epoch, i64 p_553.Other, i64 p_553.First, .sl false (L (cSl cU8) p_553.Queue), i64 p_553.Next, .sl false (L cApi_Packet p_553.Early), i64 p_553.SentAt] false, .box [i64 k_554.Epoch, i64 k_554.To, i64 k_554.Seq, i64 k_554.Ack, .sl false (L cU8 k_554.Data)] false, .box [i64 0, i64 0, i64 0, .sl true (L (cSl cU8) ([])), i64 0, .sl true (L cApi_Packet ([])), i64 0] false, .box [i64 p_553.Epoch, i64 p_553.Other, i64 p_553.First, .sl false (L (cSl cU8) p_553.Queue), i64 p_553.Next, .sl false (L cApi_Packet p_553.Early), i64 p_553.SentAt, .sl true (L (cSl cU8) ([]))] false]) ⟨_, orcs_nil, ?_⟩ ?_
    · subst hz_573; simp only [go_sem, castL, Int.reduceLT, Int.reduceAdd, decide_true, decide_false, Bool.false_eq_true]
    replace h := bind_some1 h; obtain ⟨j_580, hA_581, hj_582⟩ := h
    refine run_join (fun (v : Int × Int × List (List UInt8) × Int × List Api_Packet × Int) => (⟨asFr 102 [(3, .ref 0 0), (4, .ref 1 0), (8, .ref 2 0), (9, .bool reset_572)], [.box [i64 k_554.Epoch, i64 k_554.To, i64 k_554.Seq, i64 k_554.Ack, .sl false (L cU8 k_554.Data)] false, .box [i64 0, i64 0, i64 0, .sl true (L (cSl cU8) ([])), i64 0, .sl true (L cApi_Packet ([])), i64 0] false, .box [i64 p_553.Epoch, i64 v.1, i64 v.2.1, .sl false (L (cSl cU8) v.2.2.1), i64 v.2.2.2.1, .sl false (L cApi_Packet v.2.2.2.2.1), i64 v.2.2.2.2.2, .sl true (L (cSl cU8) ([]))] false]⟩ : St)) (fun v => v = j_580) ?_ ?_
    · have h := hA_581; clear hA_581
      refine run_textE hE [3, 4, 8, 9, 57] (fr' := [(3, .ref 1 0), (4, .ref 2 0), (8, .ref 3 0), (9, .bool reset_572), (57, .bool reset_572)]) (σ' := [.box [i64 p_553.Epoch, i64 p_553.Other, i64 p_553.First, .sl false (L (cSl cU8) p_553.Queue), i64 p_553.Next, .sl false (L cApi_Packet p_553.Early), i64 p_553.SentAt] false, .box [i64 k_554.Epoch, i64 k_554.To, i64 k_554.Seq, i64 k_554.Ack, .sl false (L cU8 k_554.Data)] false, .box [i64 0, i64 0, i64 0, .sl true (L (cSl cU8) ([])), i64 0, .sl true (L cApi_Packet ([])), i64 0] false, .box [i64 p_553.Epoch, i64 p_553.Other, i64 p_553.First, .sl false (L (cSl cU8) p_553.Queue), i64 p_553.Next, .sl false (L cApi_Packet p_553.Early), i64 p_553.SentAt, .sl true (L (cSl cU8) ([]))] false]) ⟨_, orcs_nil, ?_⟩ ?_
      · simp only [go_sem, castL, Int.reduceLT, Int.reduceAdd, decide_true, decide_false, Bool.false_eq_true]
      refine run_condL (b := reset_572) rfl (by decide) (fun hb => ?_) (fun hb => ?_)
      · replace h := ite_t h hb
        refine run_drawE0 hE mixed [[], [], [1], [1, 2], [1, 2, 3], [1, 2, 3, 4], [], [6], [1, 2, 3, 4, 5, 6, 7], [0, 1, 2, 3, 4, 5, 6, 7, 8], [0, 1, 2, 3, 4, 5, 6, 7, 8, 9], [0, 1, 2, 3, 4, 5, 6, 7, 8, 9, 10]] (by kernel_rfl) (by kernel_rfl) wk_join [3, 4, 8, 9] (fr' := [(3, .ref 1 0), (4, .ref 2 0), (8, .ref 3 0), (9, .bool reset_572)]) (σ' := [.box [i64 p_553.Epoch, i64 p_553.Other, i64 p_553.First, .sl false (L (cSl cU8) p_553.Queue), i64 p_553.Next, .sl false (L cApi_Packet p_553.Early), i64 p_553.SentAt] false, .box [i64 k_554.Epoch, i64 k_554.To, i64 k_554.Seq, i64 k_554.Ack, .sl false (L cU8 k_554.Data)] false, .box [i64 0, i64 0, i64 0, .sl true (L (cSl cU8) ([])), i64 0, .sl true (L cApi_Packet ([])), i64 0] false, .box [i64 p_553.Epoch, i64 k_554.Epoch, i64 0, .sl true (L (cSl cU8) ([])), i64 0, .sl true (L cApi_Packet ([])), i64 ((-1)), .sl true (L (cSl cU8) ([]))] false]) ⟨_, orcs_nil, ?_⟩ ?_
        · simp only [go_sem, Nat.reduceGT, Nat.reduceLeDiff, castL, Int.reduceLT, Int.reduceAdd, decide_true, decide_false, Bool.false_eq_true]
        obtain rfl := Option.some.inj h
        exact joinK_n ((k_554.Epoch, 0, [], 0, [], (-1))) rfl (weak_sel [1, 2, 3] (by decide) rfl (by simp only [go_sem]) (by simp only [go_sem]))
      · replace h := ite_f h hb
        refine run_skip ?_
        obtain rfl := Option.some.inj h
        exact joinK_n ((p_553.Other, p_553.First, p_553.Queue, p_553.Next, p_553.Early, p_553.SentAt)) rfl (weak_sel [1, 2, 3] (by decide) rfl (by simp only [go_sem]) (by simp only [go_sem]))
    rintro ⟨f_574, f_575, f_576, f_577, f_578, f_579⟩ rfl
    have h := hj_582; clear hj_582
    replace h := bind_some1 h; obtain ⟨j_609, hA_610, hj_611⟩ := h
    refine run_join (fun (v : Int × Int × Int × List (List UInt8) × Int × List Api_Packet × Int × List (List UInt8)) => (⟨asFr 102 [(4, .ref 0 0), (8, .ref 1 0), (9, .bool reset_572)], [.box [i64 0, i64 0, i64 0, .sl true (L (cSl cU8) ([])), i64 0, .sl true (L cApi_Packet ([])), i64 0] false, .box [i64 v.1, i64 v.2.1, i64 v.2.2.1, .sl false (L (cSl cU8) v.2.2.2.1), i64 v.2.2.2.2.1, .sl false (L cApi_Packet v.2.2.2.2.2.1), i64 v.2.2.2.2.2.2.1, .bs false 2 (v.2.2.2.2.2.2.2.length) 0 (v.2.2.2.2.2.2.2.length)] false, .buf 1 (L (cSl cU8) v.2.2.2.2.2.2.2) false]⟩ : St)) (fun v => v = j_609) ?_ ?_
    · have h := hA_610; clear hA_610
      refine run_drawE hE mixed [[], [0], [], [2], [2, 3], [2, 3, 4], [2, 3, 4, 5], [0, 1, 2, 3, 4, 5, 6]] (by kernel_rfl) (by kernel_rfl) [3, 4, 8, 9, 76] (fr' := [(3, .ref 0 0), (4, .ref 1 0), (8, .ref 2 0), (9, .bool reset_572), (76, .bool ((k_554.To == p_553.Epoch)))]) (σ' := [.box [i64 k_554.Epoch, i64 k_554.To, i64 k_554.Seq, i64 k_554.Ack, .sl false (L cU8 k_554.Data)] false, .box [i64 0, i64 0, i64 0, .sl true (L (cSl cU8) ([])), i64 0, .sl true (L cApi_Packet ([])), i64 0] false, .box [i64 p_553.Epoch, i64 f_574, i64 f_575, .sl false (L (cSl cU8) f_576), i64 f_577, .sl false (L cApi_Packet f_578), i64 f_579, .sl true (L (cSl cU8) ([]))] false]) ⟨_, orcs_nil, ?_⟩ ?_
      · simp only [go_sem, castL, Int.reduceLT, Int.reduceAdd, decide_true, decide_false, Bool.false_eq_true]
      refine run_condL (b := (k_554.To == p_553.Epoch)) rfl (by decide) (fun hb => ?_) (fun hb => ?_)
      · replace h := ite_t h hb
        refine run_textE hE [3, 4, 8, 9, 83, 84, 85] (fr' := [(3, .ref 0 0), (4, .ref 1 0), (8, .ref 2 0), (9, .bool reset_572), (83, .bs true 3 3 0 3), (84, i64 3), (85, i64 0)]) (σ' := [.box [i64 k_554.Epoch, i64 k_554.To, i64 k_554.Seq, i64 k_554.Ack, .sl false (L cU8 k_554.Data)] false, .box [i64 0, i64 0, i64 0, .sl true (L (cSl cU8) ([])), i64 0, .sl true (L cApi_Packet ([])), i64 0] false, .box [i64 p_553.Epoch, i64 f_574, i64 f_575, .sl false (L (cSl cU8) f_576), i64 f_577, .sl false (L cApi_Packet f_578), i64 f_579, .sl true (L (cSl cU8) ([]))] false, .buf 1 [[.fn 41 [.tup [.ref 2 0]]], [.fn 42 [.tup [.ref 2 0]]], [.fn 43 [.tup [.ref 2 0]]]] false]) ⟨_, orcs_nil, ?_⟩ ?_
        · simp only [go_sem, Nat.reduceBEq, Nat.reduceMul, Nat.reduceSub, Nat.reduceGT, Nat.reducePow, Nat.reduceLeDiff, Int.reduceToNat, castL, Int.reduceLT, Int.reduceAdd, decide_true, decide_false, Bool.false_eq_true]
        refine run_block ?_
        refine run_loop 9 ?_
        refine loopN_go (m := 8) ?_
        refine run_textE hE [3, 4, 8, 9, 83, 84, 85, 86] (fr' := [(3, .ref 0 0), (4, .ref 1 0), (8, .ref 2 0), (9, .bool reset_572), (83, .bs true 3 3 0 3), (84, i64 3), (85, i64 0), (86, .bool true)]) (σ' := [.box [i64 k_554.Epoch, i64 k_554.To, i64 k_554.Seq, i64 k_554.Ack, .sl false (L cU8 k_554.Data)] false, .box [i64 0, i64 0, i64 0, .sl true (L (cSl cU8) ([])), i64 0, .sl true (L cApi_Packet ([])), i64 0] false, .box [i64 p_553.Epoch, i64 f_574, i64 f_575, .sl false (L (cSl cU8) f_576), i64 f_577, .sl false (L cApi_Packet f_578), i64 f_579, .sl true (L (cSl cU8) ([]))] false, .buf 1 [[.fn 41 [.tup [.ref 2 0]]], [.fn 42 [.tup [.ref 2 0]]], [.fn 43 [.tup [.ref 2 0]]]] false]) ⟨_, orcs_nil, ?_⟩ ?_
        · simp only [go_sem, castL, Int.reduceLT, Int.reduceAdd, decide_true, decide_false, Bool.false_eq_true]
        refine run_seq ?_
        refine run_condL (b := true) rfl (by decide) (fun hb => ?_) (fun hb => ?_)
        · refine run_skip ?_
          refine thenK_n ?_
          refine run_seq ?_
          refine run_block ?_
          have hk_612 : InR 0 3 := by decide
          refine run_textE hE [3, 4, 8, 9, 11, 83, 84, 85] (fr' := [(3, .ref 0 0), (4, .ref 1 0), (8, .ref 2 0), (9, .bool reset_572), (11, .fn 41 [.tup [.ref 2 0]]), (83, .bs true 3 3 0 3), (84, i64 3), (85, i64 0)]) (σ' := [.box [i64 k_554.Epoch, i64 k_554.To, i64 k_554.Seq, i64 k_554.Ack, .sl false (L cU8 k_554.Data)] false, .box [i64 0, i64 0, i64 0, .sl true (L (cSl cU8) ([])), i64 0, .sl true (L cApi_Packet ([])), i64 0] false, .box [i64 p_553.Epoch, i64 f_574, i64 f_575, .sl false (L (cSl cU8) f_576), i64 f_577, .sl false (L cApi_Packet f_578), i64 f_579, .sl true (L (cSl cU8) ([]))] false, .buf 1 [[.fn 41 [.tup [.ref 2 0]]], [.fn 42 [.tup [.ref 2 0]]], [.fn 43 [.tup [.ref 2 0]]]] false]) ⟨_, orcs_nil, ?_⟩ ?_
          · simp only [go_sem, Int.reduceToNat, castL, Int.reduceLT, Int.reduceAdd, decide_true, decide_false, Bool.false_eq_true, hk_612, hk_612.2]
          refine run_weak (weak_nil_box 2 7 1 rfl rfl) ?_
          replace h := bind_some1 h; obtain ⟨y_613, hy_614, h⟩ := h
          replace h := lt1_some h; obtain ⟨l_615, hz_616, h⟩ := h
          refine run_textE0 hE (wk_block wk_then) [3, 4, 8, 9, 83, 84, 85] (fr' := [(3, .ref 0 0), (4, .ref 1 0), (8, .ref 2 0), (9, .bool reset_572), (83, .bs true 3 3 0 3), (84, i64 3), (85, i64 0)]) (σ' := [.box [i64 k_554.Epoch, i64 k_554.To, i64 k_554.Seq, i64 k_554.Ack, .sl false (L cU8 k_554.Data)] false, .box [i64 0, i64 0, i64 0, .sl true (L (cSl cU8) ([])), i64 0, .sl true (L cApi_Packet ([])), i64 0] false, .box [i64 y_613.Peer.Epoch, i64 y_613.Peer.Other, i64 y_613.Peer.First, .sl false (L (cSl cU8) y_613.Peer.Queue), i64 y_613.Peer.Next, .sl false (L cApi_Packet y_613.Peer.Early), i64 y_613.Peer.SentAt, .bs false 4 (l_615.length) 0 (l_615.length)] false, .buf 1 [[.fn 41 [.tup [.ref 2 0]]], [.fn 42 [.tup [.ref 2 0]]], [.fn 43 [.tup [.ref 2 0]]]] false, .buf 1 (L (cSl cU8) l_615) false]) ⟨_, orcs_ok2 (l := []) (m := [(91, 41, [.ref 2 0, .agg [i64 k_554.Epoch, i64 k_554.To, i64 k_554.Seq, i64 k_554.Ack, .sl false (L cU8 k_554.Data)]], [.box [i64 k_554.Epoch, i64 k_554.To, i64 k_554.Seq, i64 k_554.Ack, .sl false (L cU8 k_554.Data)] false, .box [i64 0, i64 0, i64 0, .sl true (L (cSl cU8) ([])), i64 0, .sl true (L cApi_Packet ([])), i64 0] false, .box [i64 p_553.Epoch, i64 f_574, i64 f_575, .sl false (L (cSl cU8) f_576), i64 f_577, .sl false (L cApi_Packet f_578), i64 f_579, .bs true 4 0 0 0] false, .buf 1 [[.fn 41 [.tup [.ref 2 0]]], [.fn 42 [.tup [.ref 2 0]]], [.fn 43 [.tup [.ref 2 0]]]] false, .buf 1 (L (cSl cU8) ([])) false], .tup [], [.box [i64 k_554.Epoch, i64 k_554.To, i64 k_554.Seq, i64 k_554.Ack, .sl false (L cU8 k_554.Data)] false, .box [i64 0, i64 0, i64 0, .sl true (L (cSl cU8) ([])), i64 0, .sl true (L cApi_Packet ([])), i64 0] false, .box [i64 y_613.Peer.Epoch, i64 y_613.Peer.Other, i64 y_613.Peer.First, .sl false (L (cSl cU8) y_613.Peer.Queue), i64 y_613.Peer.Next, .sl false (L cApi_Packet y_613.Peer.Early), i64 y_613.Peer.SentAt, .bs false 4 (y_613.delivered.length) 0 (y_613.delivered.length)] false, .buf 1 [[.fn 41 [.tup [.ref 2 0]]], [.fn 42 [.tup [.ref 2 0]]], [.fn 43 [.tup [.ref 2 0]]]] false, .buf 1 (L (cSl cU8) y_613.delivered) false])]) trivial ⟨(wcon_call (window_side_acknowledge_con hy_614) [2, 4] (by decide) (by simp only [go_sem]) (by simp only [go_sem]) (by simp only [go_sem]) (by simp only [go_sem]) (by simp only [go_sem])), trivial⟩, ?_⟩ ?_
          · subst hz_616; simp only [go_sem, castL, Int.reduceLT, Int.reduceAdd, decide_true, decide_false, Bool.false_eq_true]
          refine blockK_n ?_
          refine thenK_n ?_
          have hk_617 : w64 1 = 1 := by decide
          refine run_textE0 hE wk_un [3, 4, 8, 9, 83, 84, 85] (fr' := [(3, .ref 0 0), (4, .ref 1 0), (8, .ref 2 0), (9, .bool reset_572), (83, .bs true 3 3 0 3), (84, i64 3), (85, i64 1)]) (σ' := [.box [i64 k_554.Epoch, i64 k_554.To, i64 k_554.Seq, i64 k_554.Ack, .sl false (L cU8 k_554.Data)] false, .box [i64 0, i64 0, i64 0, .sl true (L (cSl cU8) ([])), i64 0, .sl true (L cApi_Packet ([])), i64 0] false, .box [i64 y_613.Peer.Epoch, i64 y_613.Peer.Other, i64 y_613.Peer.First, .sl false (L (cSl cU8) y_613.Peer.Queue), i64 y_613.Peer.Next, .sl false (L cApi_Packet y_613.Peer.Early), i64 y_613.Peer.SentAt, .bs false 4 (l_615.length) 0 (l_615.length)] false, .buf 1 [[.fn 41 [.tup [.ref 2 0]]], [.fn 42 [.tup [.ref 2 0]]], [.fn 43 [.tup [.ref 2 0]]]] false, .buf 1 (L (cSl cU8) l_615) false]) ⟨_, orcs_nil, ?_⟩ ?_
          · simp only [go_sem, castL, Int.reduceLT, Int.reduceAdd, decide_true, decide_false, Bool.false_eq_true, hk_617]
          refine unK_n ?_
          refine loopN_go (m := 7) ?_
          refine run_textE hE [3, 4, 8, 9, 83, 84, 85, 86] (fr' := [(3, .ref 0 0), (4, .ref 1 0), (8, .ref 2 0), (9, .bool reset_572), (83, .bs true 3 3 0 3), (84, i64 3), (85, i64 1), (86, .bool true)]) (σ' := [.box [i64 k_554.Epoch, i64 k_554.To, i64 k_554.Seq, i64 k_554.Ack, .sl false (L cU8 k_554.Data)] false, .box [i64 0, i64 0, i64 0, .sl true (L (cSl cU8) ([])), i64 0, .sl true (L cApi_Packet ([])), i64 0] false, .box [i64 y_613.Peer.Epoch, i64 y_613.Peer.Other, i64 y_613.Peer.First, .sl false (L (cSl cU8) y_613.Peer.Queue), i64 y_613.Peer.Next, .sl false (L cApi_Packet y_613.Peer.Early), i64 y_613.Peer.SentAt, .bs false 4 (l_615.length) 0 (l_615.length)] false, .buf 1 [[.fn 41 [.tup [.ref 2 0]]], [.fn 42 [.tup [.ref 2 0]]], [.fn 43 [.tup [.ref 2 0]]]] false, .buf 1 (L (cSl cU8) l_615) false]) ⟨_, orcs_nil, ?_⟩ ?_
          · simp only [go_sem, castL, Int.reduceLT, Int.reduceAdd, decide_true, decide_false, Bool.false_eq_true]
          refine run_seq ?_
          refine run_condL (b := true) rfl (by decide) (fun hb => ?_) (fun hb => ?_)
          · refine run_skip ?_
            refine thenK_n ?_
            refine run_seq ?_
            refine run_block ?_
            have hk_618 : InR 1 3 := by decide
            refine run_textE hE [3, 4, 8, 9, 11, 83, 84, 85] (fr' := [(3, .ref 0 0), (4, .ref 1 0), (8, .ref 2 0), (9, .bool reset_572), (11, .fn 42 [.tup [.ref 2 0]]), (83, .bs true 3 3 0 3), (84, i64 3), (85, i64 1)]) (σ' := [.box [i64 k_554.Epoch, i64 k_554.To, i64 k_554.Seq, i64 k_554.Ack, .sl false (L cU8 k_554.Data)] false, .box [i64 0, i64 0, i64 0, .sl true (L (cSl cU8) ([])), i64 0, .sl true (L cApi_Packet ([])), i64 0] false, .box [i64 y_613.Peer.Epoch, i64 y_613.Peer.Other, i64 y_613.Peer.First, .sl false (L (cSl cU8) y_613.Peer.Queue), i64 y_613.Peer.Next, .sl false (L cApi_Packet y_613.Peer.Early), i64 y_613.Peer.SentAt, .bs false 4 (l_615.length) 0 (l_615.length)] false, .buf 1 [[.fn 41 [.tup [.ref 2 0]]], [.fn 42 [.tup [.ref 2 0]]], [.fn 43 [.tup [.ref 2 0]]]] false, .buf 1 (L (cSl cU8) l_615) false]) ⟨_, orcs_nil, ?_⟩ ?_
            · simp only [go_sem, Int.reduceToNat, castL, Int.reduceLT, Int.reduceAdd, decide_true, decide_false, Bool.false_eq_true, hk_618, hk_618.2]
            replace h := bind_some1 h; obtain ⟨y_619, hy_620, h⟩ := h
            replace h := lt1_some h; obtain ⟨l_621, hz_622, h⟩ := h
            refine run_textE0 hE (wk_block wk_then) [3, 4, 8, 9, 83, 84, 85] (fr' := [(3, .ref 0 0), (4, .ref 1 0), (8, .ref 2 0), (9, .bool reset_572), (83, .bs true 3 3 0 3), (84, i64 3), (85, i64 1)]) (σ' := [.box [i64 k_554.Epoch, i64 k_554.To, i64 k_554.Seq, i64 k_554.Ack, .sl false (L cU8 k_554.Data)] false, .box [i64 0, i64 0, i64 0, .sl true (L (cSl cU8) ([])), i64 0, .sl true (L cApi_Packet ([])), i64 0] false, .box [i64 y_619.Peer.Epoch, i64 y_619.Peer.Other, i64 y_619.Peer.First, .sl false (L (cSl cU8) y_619.Peer.Queue), i64 y_619.Peer.Next, .sl false (L cApi_Packet y_619.Peer.Early), i64 y_619.Peer.SentAt, .bs false 4 (l_621.length) 0 (l_621.length)] false, .buf 1 [[.fn 41 [.tup [.ref 2 0]]], [.fn 42 [.tup [.ref 2 0]]], [.fn 43 [.tup [.ref 2 0]]]] false, .buf 1 (L (cSl cU8) l_621) false]) ⟨_, orcs_ok2 (l := []) (m := [(91, 42, [.ref 2 0, .agg [i64 k_554.Epoch, i64 k_554.To, i64 k_554.Seq, i64 k_554.Ack, .sl false (L cU8 k_554.Data)]], [.box [i64 k_554.Epoch, i64 k_554.To, i64 k_554.Seq, i64 k_554.Ack, .sl false (L cU8 k_554.Data)] false, .box [i64 0, i64 0, i64 0, .sl true (L (cSl cU8) ([])), i64 0, .sl true (L cApi_Packet ([])), i64 0] false, .box [i64 y_613.Peer.Epoch, i64 y_613.Peer.Other, i64 y_613.Peer.First, .sl false (L (cSl cU8) y_613.Peer.Queue), i64 y_613.Peer.Next, .sl false (L cApi_Packet y_613.Peer.Early), i64 y_613.Peer.SentAt, .bs false 4 (l_615.length) 0 (l_615.length)] false, .buf 1 [[.fn 41 [.tup [.ref 2 0]]], [.fn 42 [.tup [.ref 2 0]]], [.fn 43 [.tup [.ref 2 0]]]] false, .buf 1 (L (cSl cU8) l_615) false], .tup [], [.box [i64 k_554.Epoch, i64 k_554.To, i64 k_554.Seq, i64 k_554.Ack, .sl false (L cU8 k_554.Data)] false, .box [i64 0, i64 0, i64 0, .sl true (L (cSl cU8) ([])), i64 0, .sl true (L cApi_Packet ([])), i64 0] false, .box [i64 y_619.Peer.Epoch, i64 y_619.Peer.Other, i64 y_619.Peer.First, .sl false (L (cSl cU8) y_619.Peer.Queue), i64 y_619.Peer.Next, .sl false (L cApi_Packet y_619.Peer.Early), i64 y_619.Peer.SentAt, .bs false 4 (y_619.delivered.length) 0 (y_619.delivered.length)] false, .buf 1 [[.fn 41 [.tup [.ref 2 0]]], [.fn 42 [.tup [.ref 2 0]]], [.fn 43 [.tup [.ref 2 0]]]] false, .buf 1 (L (cSl cU8) y_619.delivered) false])]) trivial ⟨(wcon_call (window_side_keep_con hy_620) [2, 4] (by decide) (by simp only [go_sem]) (by simp only [go_sem]) (by simp only [go_sem]) (by simp only [go_sem]) (by simp only [go_sem])), trivial⟩, ?_⟩ ?_
            · subst hz_622; simp only [go_sem, castL, Int.reduceLT, Int.reduceAdd, decide_true, decide_false, Bool.false_eq_true]
            refine blockK_n ?_
            refine thenK_n ?_
            have hk_623 : w64 2 = 2 := by decide
            refine run_textE0 hE wk_un [3, 4, 8, 9, 83, 84, 85] (fr' := [(3, .ref 0 0), (4, .ref 1 0), (8, .ref 2 0), (9, .bool reset_572), (83, .bs true 3 3 0 3), (84, i64 3), (85, i64 2)]) (σ' := [.box [i64 k_554.Epoch, i64 k_554.To, i64 k_554.Seq, i64 k_554.Ack, .sl false (L cU8 k_554.Data)] false, .box [i64 0, i64 0, i64 0, .sl true (L (cSl cU8) ([])), i64 0, .sl true (L cApi_Packet ([])), i64 0] false, .box [i64 y_619.Peer.Epoch, i64 y_619.Peer.Other, i64 y_619.Peer.First, .sl false (L (cSl cU8) y_619.Peer.Queue), i64 y_619.Peer.Next, .sl false (L cApi_Packet y_619.Peer.Early), i64 y_619.Peer.SentAt, .bs false 4 (l_621.length) 0 (l_621.length)] false, .buf 1 [[.fn 41 [.tup [.ref 2 0]]], [.fn 42 [.tup [.ref 2 0]]], [.fn 43 [.tup [.ref 2 0]]]] false, .buf 1 (L (cSl cU8) l_621) false]) ⟨_, orcs_nil, ?_⟩ ?_
            · simp only [go_sem, castL, Int.reduceLT, Int.reduceAdd, decide_true, decide_false, Bool.false_eq_true, hk_623]
            refine unK_n ?_
            refine loopN_go (m := 6) ?_
            refine run_textE hE [3, 4, 8, 9, 83, 84, 85, 86] (fr' := [(3, .ref 0 0), (4, .ref 1 0), (8, .ref 2 0), (9, .bool reset_572), (83, .bs true 3 3 0 3), (84, i64 3), (85, i64 2), (86, .bool true)]) (σ' := [.box [i64 k_554.Epoch, i64 k_554.To, i64 k_554.Seq, i64 k_554.Ack, .sl false (L cU8 k_554.Data)] false, .box [i64 0, i64 0, i64 0, .sl true (L (cSl cU8) ([])), i64 0, .sl true (L cApi_Packet ([])), i64 0] false, .box [i64 y_619.Peer.Epoch, i64 y_619.Peer.Other, i64 y_619.Peer.First, .sl false (L (cSl cU8) y_619.Peer.Queue), i64 y_619.Peer.Next, .sl false (L cApi_Packet y_619.Peer.Early), i64 y_619.Peer.SentAt, .bs false 4 (l_621.length) 0 (l_621.length)] false, .buf 1 [[.fn 41 [.tup [.ref 2 0]]], [.fn 42 [.tup [.ref 2 0]]], [.fn 43 [.tup [.ref 2 0]]]] false, .buf 1 (L (cSl cU8) l_621) false]) ⟨_, orcs_nil, ?_⟩ ?_
            · simp only [go_sem, castL, Int.reduceLT, Int.reduceAdd, decide_true, decide_false, Bool.false_eq_true]
            refine run_seq ?_
            refine run_condL (b := true) rfl (by decide) (fun hb => ?_) (fun hb => ?_)
            · refine run_skip ?_
              refine thenK_n ?_
              refine run_seq ?_
              refine run_block ?_
              have hk_624 : InR 2 3 := by decide
              refine run_textE hE [3, 4, 8, 9, 11, 83, 84, 85] (fr' := [(3, .ref 0 0), (4, .ref 1 0), (8, .ref 2 0), (9, .bool reset_572), (11, .fn 43 [.tup [.ref 2 0]]), (83, .bs true 3 3 0 3), (84, i64 3), (85, i64 2)]) (σ' := [.box [i64 k_554.Epoch, i64 k_554.To, i64 k_554.Seq, i64 k_554.Ack, .sl false (L cU8 k_554.Data)] false, .box [i64 0, i64 0, i64 0, .sl true (L (cSl cU8) ([])), i64 0, .sl true (L cApi_Packet ([])), i64 0] false, .box [i64 y_619.Peer.Epoch, i64 y_619.Peer.Other, i64 y_619.Peer.First, .sl false (L (cSl cU8) y_619.Peer.Queue), i64 y_619.Peer.Next, .sl false (L cApi_Packet y_619.Peer.Early), i64 y_619.Peer.SentAt, .bs false 4 (l_621.length) 0 (l_621.length)] false, .buf 1 [[.fn 41 [.tup [.ref 2 0]]], [.fn 42 [.tup [.ref 2 0]]], [.fn 43 [.tup [.ref 2 0]]]] false, .buf 1 (L (cSl cU8) l_621) false]) ⟨_, orcs_nil, ?_⟩ ?_
              · simp only [go_sem, Int.reduceToNat, castL, Int.reduceLT, Int.reduceAdd, decide_true, decide_false, Bool.false_eq_true, hk_624, hk_624.2]
              replace h := bind_some1 h; obtain ⟨y_625, hy_626, h⟩ := h
              replace h := lt1_some h; obtain ⟨l_627, hz_628, h⟩ := h
              refine run_textE0 hE (wk_block wk_then) [3, 4, 8, 9, 83, 84, 85] (fr' := [(3, .ref 0 0), (4, .ref 1 0), (8, .ref 2 0), (9, .bool reset_572), (83, .bs true 3 3 0 3), (84, i64 3), (85, i64 2)]) (σ' := [.box [i64 k_554.Epoch, i64 k_554.To, i64 k_554.Seq, i64 k_554.Ack, .sl false (L cU8 k_554.Data)] false, .box [i64 0, i64 0, i64 0, .sl true (L (cSl cU8) ([])), i64 0, .sl true (L cApi_Packet ([])), i64 0] false, .box [i64 y_625.Peer.Epoch, i64 y_625.Peer.Other, i64 y_625.Peer.First, .sl false (L (cSl cU8) y_625.Peer.Queue), i64 y_625.Peer.Next, .sl false (L cApi_Packet y_625.Peer.Early), i64 y_625.Peer.SentAt, .bs false 4 (l_627.length) 0 (l_627.length)] false, .buf 1 [[.fn 41 [.tup [.ref 2 0]]], [.fn 42 [.tup [.ref 2 0]]], [.fn 43 [.tup [.ref 2 0]]]] false, .buf 1 (L (cSl cU8) l_627) false]) ⟨_, orcs_ok2 (l := []) (m := [(91, 43, [.ref 2 0, .agg [i64 k_554.Epoch, i64 k_554.To, i64 k_554.Seq, i64 k_554.Ack, .sl false (L cU8 k_554.Data)]], [.box [i64 k_554.Epoch, i64 k_554.To, i64 k_554.Seq, i64 k_554.Ack, .sl false (L cU8 k_554.Data)] false, .box [i64 0, i64 0, i64 0, .sl true (L (cSl cU8) ([])), i64 0, .sl true (L cApi_Packet ([])), i64 0] false, .box [i64 y_619.Peer.Epoch, i64 y_619.Peer.Other, i64 y_619.Peer.First, .sl false (L (cSl cU8) y_619.Peer.Queue), i64 y_619.Peer.Next, .sl false (L cApi_Packet y_619.Peer.Early), i64 y_619.Peer.SentAt, .bs false 4 (l_621.length) 0 (l_621.length)] false, .buf 1 [[.fn 41 [.tup [.ref 2 0]]], [.fn 42 [.tup [.ref 2 0]]], [.fn 43 [.tup [.ref 2 0]]]] false, .buf 1 (L (cSl cU8) l_621) false], .tup [], [.box [i64 k_554.Epoch, i64 k_554.To, i64 k_554.Seq, i64 k_554.Ack, .sl false (L cU8 k_554.Data)] false, .box [i64 0, i64 0, i64 0, .sl true (L (cSl cU8) ([])), i64 0, .sl true (L cApi_Packet ([])), i64 0] false, .box [i64 y_625.Peer.Epoch, i64 y_625.Peer.Other, i64 y_625.Peer.First, .sl false (L (cSl cU8) y_625.Peer.Queue), i64 y_625.Peer.Next, .sl false (L cApi_Packet y_625.Peer.Early), i64 y_625.Peer.SentAt, .bs false 4 (y_625.delivered.length) 0 (y_625.delivered.length)] false, .buf 1 [[.fn 41 [.tup [.ref 2 0]]], [.fn 42 [.tup [.ref 2 0]]], [.fn 43 [.tup [.ref 2 0]]]] false, .buf 1 (L (cSl cU8) y_625.delivered) false])]) trivial ⟨(wcon_call (window_side_deliver_con hy_626) [2, 4] (by decide) (by simp only [go_sem]) (by simp only [go_sem]) (by simp only [go_sem]) (by simp only [go_sem]) (by simp only [go_sem])), trivial⟩, ?_⟩ ?_
              · subst hz_628; simp only [go_sem, castL, Int.reduceLT, Int.reduceAdd, decide_true, decide_false, Bool.false_eq_true]
              refine blockK_n ?_
              refine thenK_n ?_
              have hk_629 : w64 3 = 3 := by decide
              refine run_textE0 hE wk_un [3, 4, 8, 9, 83, 84, 85] (fr' := [(3, .ref 0 0), (4, .ref 1 0), (8, .ref 2 0), (9, .bool reset_572), (83, .bs true 3 3 0 3), (84, i64 3), (85, i64 3)]) (σ' := [.box [i64 k_554.Epoch, i64 k_554.To, i64 k_554.Seq, i64 k_554.Ack, .sl false (L cU8 k_554.Data)] false, .box [i64 0, i64 0, i64 0, .sl true (L (cSl cU8) ([])), i64 0, .sl true (L cApi_Packet ([])), i64 0] false, .box [i64 y_625.Peer.Epoch, i64 y_625.Peer.Other, i64 y_625.Peer.First, .sl false (L (cSl cU8) y_625.Peer.Queue), i64 y_625.Peer.Next, .sl false (L cApi_Packet y_625.Peer.Early), i64 y_625.Peer.SentAt, .bs false 4 (l_627.length) 0 (l_627.length)] false, .buf 1 [[.fn 41 [.tup [.ref 2 0]]], [.fn 42 [.tup [.ref 2 0]]], [.fn 43 [.tup [.ref 2 0]]]] false, .buf 1 (L (cSl cU8) l_627) false]) ⟨_, orcs_nil, ?_⟩ ?_
              · simp only [go_sem, castL, Int.reduceLT, Int.reduceAdd, decide_true, decide_false, Bool.false_eq_true, hk_629]
              refine unK_n ?_
              refine loopN_go (m := 5) ?_
              refine run_textE hE [3, 4, 8, 9, 83, 84, 85, 86] (fr' := [(3, .ref 0 0), (4, .ref 1 0), (8, .ref 2 0), (9, .bool reset_572), (83, .bs true 3 3 0 3), (84, i64 3), (85, i64 3), (86, .bool false)]) (σ' := [.box [i64 k_554.Epoch, i64 k_554.To, i64 k_554.Seq, i64 k_554.Ack, .sl false (L cU8 k_554.Data)] false, .box [i64 0, i64 0, i64 0, .sl true (L (cSl cU8) ([])), i64 0, .sl true (L cApi_Packet ([])), i64 0] false, .box [i64 y_625.Peer.Epoch, i64 y_625.Peer.Other, i64 y_625.Peer.First, .sl false (L (cSl cU8) y_625.Peer.Queue), i64 y_625.Peer.Next, .sl false (L cApi_Packet y_625.Peer.Early), i64 y_625.Peer.SentAt, .bs false 4 (l_627.length) 0 (l_627.length)] false, .buf 1 [[.fn 41 [.tup [.ref 2 0]]], [.fn 42 [.tup [.ref 2 0]]], [.fn 43 [.tup [.ref 2 0]]]] false, .buf 1 (L (cSl cU8) l_627) false]) ⟨_, orcs_nil, ?_⟩ ?_
              · simp only [go_sem, castL, Int.reduceLT, Int.reduceAdd, decide_true, decide_false, Bool.false_eq_true]
              refine run_seq ?_
              refine run_condL (b := false) rfl (by decide) (fun hb => ?_) (fun hb => ?_)
              · cases hb
              · refine run_exit ?_
                refine thenK_x ?_
                refine unK_x ?_
                refine blockK_x ?_
                obtain rfl := Option.some.inj h
                exact joinK_n ((y_625.Peer.Epoch, y_625.Peer.Other, y_625.Peer.First, y_625.Peer.Queue, y_625.Peer.Next, y_625.Peer.Early, y_625.Peer.SentAt, l_627)) rfl (weak_sel [1, 2, 4] (by decide) rfl (by simp only [go_sem]) (by simp only [go_sem]))
            · cases hb
          · cases hb
        · cases hb
      · replace h := ite_f h hb
        refine run_skip ?_
        obtain rfl := Option.some.inj h
        exact joinK_n ((p_553.Epoch, f_574, f_575, f_576, f_577, f_578, f_579, [])) rfl ((weak_nil_box 2 7 1 rfl rfl).trans (weak_sel [1, 2, 3] (by decide) rfl (by simp only [go_sem]) (by simp only [go_sem])))
    rintro ⟨f_601, f_602, f_603, f_604, f_605, f_606, f_607, l_608⟩ rfl
    have h := hj_611; clear hj_611
    refine run_drawS hE mixed [[], [0], [0, 1], [0, 1, 2], [], [4], [4, 5], [4, 5, 6], [], [0, 1, 2, 3], [0, 1, 2, 3, 4, 5, 6, 7, 9], [0, 1, 2, 3, 4, 5, 6, 7, 8, 9, 10]] (by kernel_rfl) [(4, 0), (98, 1), (99, 1)] [] [4, 5, 6, 98, 99] (by kernel_rfl) (fr' := [(4, .ref 0 0), (5, .bs false 2 (l_608.length) 0 (l_608.length)), (6, .bool reset_572), (98, .ref 1 0), (99, .ref 1 7)]) (σ' := [.box [i64 f_601, i64 f_602, i64 f_603, .sl false (L (cSl cU8) f_604), i64 f_605, .sl false (L cApi_Packet f_606), i64 f_607] false, .box [i64 f_601, i64 f_602, i64 f_603, .sl false (L (cSl cU8) f_604), i64 f_605, .sl false (L cApi_Packet f_606), i64 f_607, .bs false 2 (l_608.length) 0 (l_608.length)] false, .buf 1 (L (cSl cU8) l_608) false]) ⟨rfl, rfl, rfl, trivial⟩ ⟨_, _, orcs_nil, (by simp only [XOk]), ?_⟩ ?_
    · simp only [go_sem, Nat.reduceLeDiff, castL, Int.reduceLT, Int.reduceAdd, decide_true, decide_false, Bool.false_eq_true]
    refine run_ret ?_
    obtain rfl := Option.some.inj h
    refine wkP_of (Weak.refl _ _) ?_
    refine ret_ok (.inr rfl) ?_
    simp only [go_sem]

end Go.Proofs.Ytomjphpnpcgacaa
