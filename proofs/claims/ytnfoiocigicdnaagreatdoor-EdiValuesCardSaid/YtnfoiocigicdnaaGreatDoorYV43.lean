/-
  Part 43.
-/
import Derived.Test.YtnfoiocigicdnaaGreatDoorProg
import Derived.Test.YtnfoiocigicdnaaGreatDoorYV42
namespace Go.Proofs.YtnfoiocigicdnaaGreatDoor
open Go.Rv
set_option linter.unusedVariables false
set_option linter.unusedSimpArgs false
set_option maxRecDepth 20000
def glob0 : Arr (List UInt8) 16 := ⟨[[], [82, 69, 65, 68], [83, 84, 65, 89], [68, 69, 76, 73, 86, 69, 82], [82, 69, 67, 69, 73, 86, 69], [87, 65, 89, 66, 73, 76, 76], [80, 76, 65, 67, 69, 68], [82, 69, 76, 69, 65, 83, 69, 68], [68, 65, 77, 65, 71, 69, 68], [82, 69, 80, 65, 73, 82, 69, 68], [82, 69, 67, 65, 76, 76], [84, 65, 82, 73, 70, 70], [65, 77, 69, 78, 68], [67, 65, 78, 67, 69, 76], [82, 69, 84, 82, 65, 67, 84], [79, 82, 68, 69, 82]], rfl⟩
attribute [go_sem_proc] reduceIte Nat.reduceLT Nat.reduceEqDiff Nat.reduceAdd Nat.reduceBEq Nat.reduceMul Nat.reduceSub Nat.reduceGT Nat.reducePow Nat.reduceLeDiff Int.reduceToNat
noncomputable def B : Base := AdM Tryz.prog (fun i => if i = 0 then some (C1 AV.str glob0.l) else if i = 7 then some [.iface 248 .junk] else if i = 8 then some [.iface 248 .junk] else none) (fun f => [29, 46, 47, 49, 50, 51, 52, 53, 54, 59, 68, 71, 81, 83, 84, 99, 116, 117, 118].contains f) (fun _ => none) (fun i => if i = 4 then some ((Lib.pow10Tab).map fun z => Value.int .u64 z).toArray else none) (some 108) true (fun _ _ => rfl)
theorem tbk {t F x} (h : Agb Tryz.prog t = x) : (B.env F).tab t = x := h
theorem ok : B.Ok := Ab7 _ _ _ _ _ _ _ _
theorem lm0 (F : Addr → Prop) : (B.env F).lm = true := rfl
theorem own3 (F : Addr → Prop) : (B.env F).own 3 = false := rfl
theorem own4 (F : Addr → Prop) : (B.env F).own 4 = false := rfl
theorem own5 (F : Addr → Prop) : (B.env F).own 5 = false := rfl
theorem own6 (F : Addr → Prop) : (B.env F).own 6 = false := rfl
theorem own7 (F : Addr → Prop) : (B.env F).own 7 = false := rfl
theorem own8 (F : Addr → Prop) : (B.env F).own 8 = false := rfl
theorem ApE (F : Addr → Prop) : (B.env F).own 11 = false := rfl
theorem AoX (F : Addr → Prop) : (B.env F).own 12 = false := rfl
theorem Aos (F : Addr → Prop) : (B.env F).own 14 = false := rfl
theorem AnD (F : Addr → Prop) : (B.env F).own 15 = false := rfl
theorem AoM (F : Addr → Prop) : (B.env F).own 16 = false := rfl
theorem Ao6 (F : Addr → Prop) : (B.env F).own 18 = false := rfl
theorem Apd (F : Addr → Prop) : (B.env F).own 19 = false := rfl
theorem AoK (F : Addr → Prop) : (B.env F).own 20 = false := rfl
theorem ApR (F : Addr → Prop) : (B.env F).own 21 = false := rfl
theorem AoQ (F : Addr → Prop) : (B.env F).own 22 = false := rfl
theorem ApP (F : Addr → Prop) : (B.env F).own 23 = false := rfl
theorem Api (F : Addr → Prop) : (B.env F).own 24 = false := rfl
theorem Apb (F : Addr → Prop) : (B.env F).own 25 = false := rfl
theorem Ao4 (F : Addr → Prop) : (B.env F).own 26 = false := rfl
theorem AoL (F : Addr → Prop) : (B.env F).own 27 = false := rfl
theorem AnK (F : Addr → Prop) : (B.env F).own 28 = false := rfl
theorem ApO (F : Addr → Prop) : (B.env F).own 29 = true := rfl
theorem Aoa (F : Addr → Prop) : (B.env F).own 30 = false := rfl
theorem AoD (F : Addr → Prop) : (B.env F).own 31 = false := rfl
theorem Apk (F : Addr → Prop) : (B.env F).own 32 = false := rfl
theorem ApC (F : Addr → Prop) : (B.env F).own 33 = false := rfl
theorem AnJ (F : Addr → Prop) : (B.env F).own 34 = false := rfl
theorem Aod (F : Addr → Prop) : (B.env F).own 35 = false := rfl
theorem Aoh (F : Addr → Prop) : (B.env F).own 36 = false := rfl
theorem Ao2 (F : Addr → Prop) : (B.env F).own 39 = false := rfl
theorem AnZ (F : Addr → Prop) : (B.env F).own 40 = false := rfl
theorem Apx (F : Addr → Prop) : (B.env F).own 41 = false := rfl
theorem Apa (F : Addr → Prop) : (B.env F).own 46 = true := rfl
theorem AoY (F : Addr → Prop) : (B.env F).own 47 = true := rfl
theorem AnL (F : Addr → Prop) : (B.env F).own 48 = false := rfl
theorem AoC (F : Addr → Prop) : (B.env F).own 49 = true := rfl
theorem An3 (F : Addr → Prop) : (B.env F).own 50 = true := rfl
theorem ApH (F : Addr → Prop) : (B.env F).own 51 = true := rfl
theorem Aoi (F : Addr → Prop) : (B.env F).own 52 = true := rfl
theorem AoP (F : Addr → Prop) : (B.env F).own 53 = true := rfl
theorem AnX (F : Addr → Prop) : (B.env F).own 54 = true := rfl
theorem An6 (F : Addr → Prop) : (B.env F).own 55 = false := rfl
theorem Aol (F : Addr → Prop) : (B.env F).own 56 = false := rfl
theorem Aoy (F : Addr → Prop) : (B.env F).own 57 = false := rfl
theorem AnT (F : Addr → Prop) : (B.env F).own 58 = false := rfl
theorem Ao0 (F : Addr → Prop) : (B.env F).own 59 = true := rfl
theorem Apo (F : Addr → Prop) : (B.env F).own 60 = false := rfl
theorem Apt (F : Addr → Prop) : (B.env F).own 61 = false := rfl
theorem AoO (F : Addr → Prop) : (B.env F).own 62 = false := rfl
theorem AoT (F : Addr → Prop) : (B.env F).own 63 = false := rfl
theorem Aov (F : Addr → Prop) : (B.env F).own 64 = false := rfl
theorem AnE (F : Addr → Prop) : (B.env F).own 65 = false := rfl
theorem AnN (F : Addr → Prop) : (B.env F).own 66 = false := rfl
theorem ApN (F : Addr → Prop) : (B.env F).own 67 = false := rfl
theorem Ao3 (F : Addr → Prop) : (B.env F).own 68 = true := rfl
theorem AoN (F : Addr → Prop) : (B.env F).own 69 = false := rfl
theorem AnG (F : Addr → Prop) : (B.env F).own 70 = false := rfl
theorem Ape (F : Addr → Prop) : (B.env F).own 71 = true := rfl
theorem AoI (F : Addr → Prop) : (B.env F).own 72 = false := rfl
theorem Aoe (F : Addr → Prop) : (B.env F).own 73 = false := rfl
theorem ApK (F : Addr → Prop) : (B.env F).own 74 = false := rfl
theorem AnM (F : Addr → Prop) : (B.env F).own 75 = false := rfl
theorem AnV (F : Addr → Prop) : (B.env F).own 76 = false := rfl
theorem AoE (F : Addr → Prop) : (B.env F).own 77 = false := rfl
theorem AoG (F : Addr → Prop) : (B.env F).own 78 = false := rfl
theorem AoR (F : Addr → Prop) : (B.env F).own 79 = false := rfl
theorem An7 (F : Addr → Prop) : (B.env F).own 80 = false := rfl
theorem An2 (F : Addr → Prop) : (B.env F).own 81 = true := rfl
theorem AoZ (F : Addr → Prop) : (B.env F).own 83 = true := rfl
theorem AoA (F : Addr → Prop) : (B.env F).own 84 = true := rfl
theorem An9 (F : Addr → Prop) : (B.env F).own 87 = false := rfl
theorem ApG (F : Addr → Prop) : (B.env F).own 98 = false := rfl
theorem ApM (F : Addr → Prop) : (B.env F).own 99 = true := rfl
theorem AkQ (F : Addr → Prop) : (B.env F).own 101 = false := rfl
theorem Amc (F : Addr → Prop) : (B.env F).own 102 = false := rfl
theorem Ak5 (F : Addr → Prop) : (B.env F).own 103 = false := rfl
theorem Alj (F : Addr → Prop) : (B.env F).own 104 = false := rfl
theorem AlC (F : Addr → Prop) : (B.env F).own 105 = false := rfl
theorem Am6 (F : Addr → Prop) : (B.env F).own 106 = false := rfl
theorem Al5 (F : Addr → Prop) : (B.env F).own 107 = false := rfl
theorem Anc (F : Addr → Prop) : (B.env F).own 108 = false := rfl
theorem Ank (F : Addr → Prop) : (B.env F).own 109 = false := rfl
theorem Akq (F : Addr → Prop) : (B.env F).own 110 = false := rfl
theorem Akl (F : Addr → Prop) : (B.env F).own 111 = false := rfl
theorem AlB (F : Addr → Prop) : (B.env F).own 112 = false := rfl
theorem AlA (F : Addr → Prop) : (B.env F).own 113 = false := rfl
theorem Ane (F : Addr → Prop) : (B.env F).own 114 = false := rfl
theorem Ak2 (F : Addr → Prop) : (B.env F).own 115 = false := rfl
theorem Amy (F : Addr → Prop) : (B.env F).own 116 = true := rfl
theorem Akn (F : Addr → Prop) : (B.env F).own 117 = true := rfl
theorem Amp (F : Addr → Prop) : (B.env F).own 118 = true := rfl
theorem AlX (F : Addr → Prop) : (B.env F).own 128 = false := rfl
theorem AlO (F : Addr → Prop) : (B.env F).own 142 = false := rfl
theorem Amb (F : Addr → Prop) : (B.env F).own 143 = false := rfl
theorem AmS (F : Addr → Prop) : (B.env F).own 145 = false := rfl
theorem Alp (F : Addr → Prop) : (B.env F).own 146 = false := rfl
theorem AlR (F : Addr → Prop) : (B.env F).own 147 = false := rfl
theorem Am0 (F : Addr → Prop) : (B.env F).own 149 = false := rfl
theorem Am3 (F : Addr → Prop) : (B.env F).own 150 = false := rfl
theorem Akx (F : Addr → Prop) : (B.env F).own 151 = false := rfl
theorem AkE (F : Addr → Prop) : (B.env F).own 152 = false := rfl
theorem Alx (F : Addr → Prop) : (B.env F).own 165 = false := rfl
theorem AkM (F : Addr → Prop) : (B.env F).own 166 = false := rfl
theorem Al6 (F : Addr → Prop) : (B.env F).own 170 = false := rfl
theorem Alz (F : Addr → Prop) : (B.env F).own 186 = false := rfl
theorem mixed : Tryz.prog.follows .mixedOrders = true := by kernel_rfl
structure Strings_Builder where
  addr : Unit
  buf : List UInt8
  deriving DecidableEq, Inhabited
def Pb (x : Strings_Builder) : List AV := [.val (.pointer none), .sl false (L cU8 x.buf)]
structure Api_Ref where
  Railway : Int
  No : Int
  deriving DecidableEq, Inhabited
def AbQ (x : Api_Ref) : List AV := [i64 x.Railway, i64 x.No]
structure Api_Part where
  Kind : Int
  Serial : Int
  Fitted : Bool
  deriving DecidableEq, Inhabited
def Ac (x : Api_Part) : List AV := [i64 x.Kind, i64 x.Serial, .bool x.Fitted]
structure Api_Item where
  Kind : Int
  Ref : Api_Ref
  Wagon : Int
  Place : Int
  Other : Int
  Number : Int
  From : Int
  To : Int
  Code : Int
  Dest : Int
  Class : Int
  Weight : Int
  Amount : Int
  Text : List UInt8
  Parts : List Api_Part
  deriving DecidableEq, Inhabited
def Xz (x : Api_Item) : List AV := [i64 x.Kind, i64 x.Ref.Railway, i64 x.Ref.No, i64 x.Wagon, i64 x.Place, i64 x.Other, i64 x.Number, i64 x.From, i64 x.To, i64 x.Code, i64 x.Dest, i64 x.Class, i64 x.Weight, i64 x.Amount, .str x.Text, .sl false (L Ac x.Parts)]
inductive Api_Value where
  | mk (Kind : Int) (N : Int) (B : List UInt8) (L : List Api_Value)
instance : Inhabited Api_Value := ⟨.mk default default default default⟩
def Api_Value.Kind (x : Api_Value) : Int := match x with
  | .mk a _ _ _ => a
theorem S7 {x0 : Int} {x1 : Int} {x2 : List UInt8} {x3 : List Api_Value} : (Api_Value.mk x0 x1 x2 x3).Kind = x0 := rfl
def Api_Value.N (x : Api_Value) : Int := match x with
  | .mk _ a _ _ => a
theorem Aav {x0 : Int} {x1 : Int} {x2 : List UInt8} {x3 : List Api_Value} : (Api_Value.mk x0 x1 x2 x3).N = x1 := rfl
def Api_Value.B (x : Api_Value) : List UInt8 := match x with
  | .mk _ _ a _ => a
theorem Aay {x0 : Int} {x1 : Int} {x2 : List UInt8} {x3 : List Api_Value} : (Api_Value.mk x0 x1 x2 x3).B = x2 := rfl
def Api_Value.L (x : Api_Value) : List Api_Value := match x with
  | .mk _ _ _ a => a
theorem Aar {x0 : Int} {x1 : Int} {x2 : List UInt8} {x3 : List Api_Value} : (Api_Value.mk x0 x1 x2 x3).L = x3 := rfl
noncomputable def cApi_Value (v : Api_Value) : List AV := Api_Value.rec (motive_1 := fun _ => List AV) (motive_2 := fun _ => List (List AV)) (fun Kind_ N_ B_ L_ ih3 => [i64 Kind_, i64 N_, .sl false (L cU8 B_), .sl false ih3]) [] (fun _ _ x l => x :: l) v
theorem W5 (l : List Api_Value) : Api_Value.rec_1 (motive_1 := fun _ => List AV) (motive_2 := fun _ => List (List AV)) (fun Kind_ N_ B_ L_ ih3 => [i64 Kind_, i64 N_, .sl false (L cU8 B_), .sl false ih3]) [] (fun _ _ x l => x :: l) l = L cApi_Value l := by
  induction l with
  | nil => rfl
  | cons x l ih => exact congrArg (cApi_Value x :: ·) ih
theorem D8 (x : Api_Value) : cApi_Value x = [i64 x.Kind, i64 x.N, .sl false (L cU8 x.B), .sl false (L cApi_Value x.L)] := by
  cases x with
  | mk a0 a1 a2 a3 =>
    show [i64 a0, i64 a1, .sl false (L cU8 a2), .sl false (Api_Value.rec_1 (motive_1 := fun _ => List AV) (motive_2 := fun _ => List (List AV)) (fun Kind_ N_ B_ L_ ih3 => [i64 Kind_, i64 N_, .sl false (L cU8 B_), .sl false ih3]) [] (fun _ _ x l => x :: l) a3)] = _
    rw [W5]; rfl
structure Codec_decoder where
  b : List UInt8
  deriving DecidableEq, Inhabited
def Sm (x : Codec_decoder) : List AV := [.sl false (L cU8 x.b)]
structure Api_Deframer where
  Rest : List UInt8
  In : Bool
  Escape : Bool
  Bad : Bool
  deriving DecidableEq, Inhabited
def Vj (x : Api_Deframer) : List AV := [.sl false (L cU8 x.Rest), .bool x.In, .bool x.Escape, .bool x.Bad]
structure Api_Place where
  Kind : Int
  Railway : Int
  Other : Int
  deriving DecidableEq, Inhabited
def Ai (x : Api_Place) : List AV := [i64 x.Kind, i64 x.Railway, i64 x.Other]
structure Api_Edge where
  A : Int
  B : Int
  Railway : Int
  Minutes : Int
  Km : Int
  deriving DecidableEq, Inhabited
def Ay (x : Api_Edge) : List AV := [i64 x.A, i64 x.B, i64 x.Railway, i64 x.Minutes, i64 x.Km]
structure Api_Network where
  Places : List Api_Place
  Edges : List Api_Edge
  deriving DecidableEq, Inhabited
def Xw (x : Api_Network) : List AV := [.sl false (L Ai x.Places), .sl false (L Ay x.Edges)]
structure Api_WagonType where
  Load : Int
  Tare : Int
  Length : Int
  Gauge : Int
  Brake : Int
  Classes : UInt64
  Life : Int
  Floor : Int
  deriving DecidableEq, Inhabited
def Aj (x : Api_WagonType) : List AV := [i64 x.Load, i64 x.Tare, i64 x.Length, i64 x.Gauge, i64 x.Brake, u64 x.Classes, i64 x.Life, i64 x.Floor]
structure Api_Wagon where
  Type_ : Int
  Owner : Int
  Home : Int
  Built : Int
  Worth : Int
  deriving DecidableEq, Inhabited
def Av (x : Api_Wagon) : List AV := [i64 x.Type_, i64 x.Owner, i64 x.Home, i64 x.Built, i64 x.Worth]
structure Api_Swap where
  Wanted : Int
  Given : Int
  Cost : Int
  deriving DecidableEq, Inhabited
def Bf (x : Api_Swap) : List AV := [i64 x.Wanted, i64 x.Given, i64 x.Cost]
structure Api_Wash where
  From : Int
  To : Int
  Minutes : Int
  deriving DecidableEq, Inhabited
def Bg (x : Api_Wash) : List AV := [i64 x.From, i64 x.To, i64 x.Minutes]
structure Api_Fleet where
  Types : List Api_WagonType
  Wagons : List Api_Wagon
  Swaps : List Api_Swap
  Washes : List Api_Wash
  deriving DecidableEq, Inhabited
def Ac7 (x : Api_Fleet) : List AV := [.sl false (L Aj x.Types), .sl false (L Av x.Wagons), .sl false (L Bf x.Swaps), .sl false (L Bg x.Washes)]
structure Api_Reader where
  Place : Int
  Low : Int
  High : Int
  deriving DecidableEq, Inhabited
def Aq (x : Api_Reader) : List AV := [i64 x.Place, i64 x.Low, i64 x.High]
structure Api_Shipper where
  Place : Int
  deriving DecidableEq, Inhabited
def Al (x : Api_Shipper) : List AV := [i64 x.Place]
structure Api_Span where
  From : Int
  To : Int
  deriving DecidableEq, Inhabited
def Aes (x : Api_Span) : List AV := [i64 x.From, i64 x.To]
structure Api_Calendar where
  Open : (Api_Span × Api_Span × Api_Span × Api_Span × Api_Span × Api_Span × Api_Span)
  Holidays : List Int
  deriving DecidableEq, Inhabited
def U2 (x : Api_Calendar) : List AV := [i64 x.Open.1.From, i64 x.Open.1.To, i64 x.Open.2.1.From, i64 x.Open.2.1.To, i64 x.Open.2.2.1.From, i64 x.Open.2.2.1.To, i64 x.Open.2.2.2.1.From, i64 x.Open.2.2.2.1.To, i64 x.Open.2.2.2.2.1.From, i64 x.Open.2.2.2.2.1.To, i64 x.Open.2.2.2.2.2.1.From, i64 x.Open.2.2.2.2.2.1.To, i64 x.Open.2.2.2.2.2.2.From, i64 x.Open.2.2.2.2.2.2.To, .sl false (L Nc x.Holidays)]
structure Api_RailwayInfo where
  Key : UInt64
  Calendar : Api_Calendar
  deriving DecidableEq, Inhabited
def Af (x : Api_RailwayInfo) : List AV := [u64 x.Key, i64 x.Calendar.Open.1.From, i64 x.Calendar.Open.1.To, i64 x.Calendar.Open.2.1.From, i64 x.Calendar.Open.2.1.To, i64 x.Calendar.Open.2.2.1.From, i64 x.Calendar.Open.2.2.1.To, i64 x.Calendar.Open.2.2.2.1.From, i64 x.Calendar.Open.2.2.2.1.To, i64 x.Calendar.Open.2.2.2.2.1.From, i64 x.Calendar.Open.2.2.2.2.1.To, i64 x.Calendar.Open.2.2.2.2.2.1.From, i64 x.Calendar.Open.2.2.2.2.2.1.To, i64 x.Calendar.Open.2.2.2.2.2.2.From, i64 x.Calendar.Open.2.2.2.2.2.2.To, .sl false (L Nc x.Calendar.Holidays)]
structure Api_Pool where
  Network : Api_Network
  Fleet : Api_Fleet
  Readers : List Api_Reader
  Shippers : List Api_Shipper
  Railways : List Api_RailwayInfo
  deriving DecidableEq, Inhabited
def AfH (x : Api_Pool) : List AV := [.sl false (L Ai x.Network.Places), .sl false (L Ay x.Network.Edges), .sl false (L Aj x.Fleet.Types), .sl false (L Av x.Fleet.Wagons), .sl false (L Bf x.Fleet.Swaps), .sl false (L Bg x.Fleet.Washes), .sl false (L Aq x.Readers), .sl false (L Al x.Shippers), .sl false (L Af x.Railways)]
theorem tb3 (F) : (B.env F).tab 3 = some ⟨.int .i64, 1, 8, [i64 0]⟩ := tbk (by kernel_rfl)
theorem tb4 (F) : (B.env F).tab 4 = some ⟨.bool, 1, 1, [.bool false]⟩ := tbk (by kernel_rfl)
theorem tb5 (F) : (B.env F).tab 5 = some ⟨.int .u8, 1, 1, [u8 ((0 : UInt8))]⟩ := tbk (by kernel_rfl)
theorem tb9 (F) : (B.env F).tab 9 = some ⟨.string, 1, 16, [.str (([] : List UInt8))]⟩ := tbk (by kernel_rfl)
theorem Adu (F) : (B.env F).tab 21 = some ⟨.int .i32, 1, 4, [.int .i32 0]⟩ := tbk (by kernel_rfl)
theorem tb22 (F) : (B.env F).tab 22 = some ⟨.slice 99, 1, 24, [.sl true (L Ai ([]))]⟩ := tbk (by kernel_rfl)
theorem tb23 (F) : (B.env F).tab 23 = some ⟨.slice 103, 1, 24, [.sl true (L Ay ([]))]⟩ := tbk (by kernel_rfl)
theorem tb25 (F) : (B.env F).tab 25 = some ⟨.struct #[⟨"Places", 22, 0, false, "", "", 0⟩, ⟨"Edges", 23, 1, false, "", "", 24⟩], 2, 48, [.sl true (L Ai ([])), .sl true (L Ay ([]))]⟩ := tbk (by kernel_rfl)
theorem tb27 (F) : (B.env F).tab 27 = some ⟨.slice 101, 1, 24, [.sl true (L Av ([]))]⟩ := tbk (by kernel_rfl)
theorem tb31 (F) : (B.env F).tab 31 = some ⟨.struct #[⟨"Types", 26, 0, false, "", "", 0⟩, ⟨"Wagons", 27, 1, false, "", "", 24⟩, ⟨"Swaps", 28, 2, false, "", "", 48⟩, ⟨"Washes", 29, 3, false, "", "", 72⟩], 4, 96, [.sl true (L Aj ([])), .sl true (L Av ([])), .sl true (L Bf ([])), .sl true (L Bg ([]))]⟩ := tbk (by kernel_rfl)
theorem tb32 (F) : (B.env F).tab 32 = some ⟨.slice 94, 1, 24, [.sl true (L Aq ([]))]⟩ := tbk (by kernel_rfl)
theorem tb33 (F) : (B.env F).tab 33 = some ⟨.slice 97, 1, 24, [.sl true (L Al ([]))]⟩ := tbk (by kernel_rfl)
theorem tb34 (F) : (B.env F).tab 34 = some ⟨.slice 90, 1, 24, [.sl true (L Af ([]))]⟩ := tbk (by kernel_rfl)
theorem tb36 (F) : (B.env F).tab 36 = some ⟨.struct #[⟨"Network", 25, 0, false, "", "", 0⟩, ⟨"Fleet", 31, 2, false, "", "", 48⟩, ⟨"Readers", 32, 6, false, "", "", 144⟩, ⟨"Shippers", 33, 7, false, "", "", 168⟩, ⟨"Railways", 34, 8, false, "", "", 192⟩], 9, 216, [.sl true (L Ai ([])), .sl true (L Ay ([])), .sl true (L Aj ([])), .sl true (L Av ([])), .sl true (L Bf ([])), .sl true (L Bg ([])), .sl true (L Aq ([])), .sl true (L Al ([])), .sl true (L Af ([]))]⟩ := tbk (by kernel_rfl)
theorem ApI (F) : (B.env F).tab 38 = some ⟨.struct #[⟨"Railway", 3, 0, false, "", "", 0⟩, ⟨"No", 3, 1, false, "", "", 8⟩], 2, 16, [i64 0, i64 0]⟩ := tbk (by kernel_rfl)
theorem Anv (F) : (B.env F).tab 39 = some ⟨.slice 66, 1, 24, [.sl true (L Ac ([]))]⟩ := tbk (by kernel_rfl)
theorem tb41 (F) : (B.env F).tab 41 = some ⟨.struct #[⟨"Kind", 3, 0, false, "", "", 0⟩, ⟨"Ref", 38, 1, false, "", "", 8⟩, ⟨"Wagon", 3, 3, false, "", "", 24⟩, ⟨"Place", 3, 4, false, "", "", 32⟩, ⟨"Other", 3, 5, false, "", "", 40⟩, ⟨"Number", 3, 6, false, "", "", 48⟩, ⟨"From", 3, 7, false, "", "", 56⟩, ⟨"To", 3, 8, false, "", "", 64⟩, ⟨"Code", 3, 9, false, "", "", 72⟩, ⟨"Dest", 3, 10, false, "", "", 80⟩, ⟨"Class", 3, 11, false, "", "", 88⟩, ⟨"Weight", 3, 12, false, "", "", 96⟩, ⟨"Amount", 3, 13, false, "", "", 104⟩, ⟨"Text", 9, 14, false, "", "", 112⟩, ⟨"Parts", 39, 15, false, "", "", 128⟩], 16, 152, [i64 0, i64 0, i64 0, i64 0, i64 0, i64 0, i64 0, i64 0, i64 0, i64 0, i64 0, i64 0, i64 0, i64 0, .str (([] : List UInt8)), .sl true (L Ac ([]))]⟩ := tbk (by kernel_rfl)
theorem tb45 (F) : (B.env F).tab 45 = some ⟨.int .i64, 1, 8, [i64 0]⟩ := tbk (by kernel_rfl)
theorem Aj9 (F) : (B.env F).tab 52 = some ⟨.slice 5, 1, 24, [.sl true (L cU8 ([]))]⟩ := tbk (by kernel_rfl)
theorem Anu (F) : (B.env F).tab 53 = some ⟨.slice 55, 1, 24, [.sl true (L cApi_Value ([]))]⟩ := tbk (by kernel_rfl)
theorem An1 (F) : (B.env F).tab 55 = some ⟨.struct #[⟨"Kind", 3, 0, false, "", "", 0⟩, ⟨"N", 3, 1, false, "", "", 8⟩, ⟨"B", 52, 2, false, "", "", 16⟩, ⟨"L", 53, 3, false, "", "", 40⟩], 4, 64, [i64 0, i64 0, .sl true (L cU8 ([])), .sl true (L cApi_Value ([]))]⟩ := tbk (by kernel_rfl)
theorem AnB (F) : (B.env F).tab 66 = some ⟨.struct #[⟨"Kind", 3, 0, false, "", "", 0⟩, ⟨"Serial", 3, 1, false, "", "", 8⟩, ⟨"Fitted", 4, 2, false, "", "", 16⟩], 3, 24, [i64 0, i64 0, .bool false]⟩ := tbk (by kernel_rfl)
theorem tb85 (F) : (B.env F).tab 85 = some ⟨.slice 3, 1, 24, [.sl true (L Nc ([]))]⟩ := tbk (by kernel_rfl)
theorem tb88 (F) : (B.env F).tab 88 = some ⟨.int .u64, 1, 8, [u64 ((0 : UInt64))]⟩ := tbk (by kernel_rfl)
theorem tb90 (F) : (B.env F).tab 90 = some ⟨.struct #[⟨"Key", 88, 0, false, "", "", 0⟩, ⟨"Calendar", 87, 1, false, "", "", 8⟩], 16, 144, [u64 ((0 : UInt64)), i64 0, i64 0, i64 0, i64 0, i64 0, i64 0, i64 0, i64 0, i64 0, i64 0, i64 0, i64 0, i64 0, i64 0, .sl true (L Nc ([]))]⟩ := tbk (by kernel_rfl)
theorem tb94 (F) : (B.env F).tab 94 = some ⟨.struct #[⟨"Place", 3, 0, false, "", "", 0⟩, ⟨"Low", 3, 1, false, "", "", 8⟩, ⟨"High", 3, 2, false, "", "", 16⟩], 3, 24, [i64 0, i64 0, i64 0]⟩ := tbk (by kernel_rfl)
theorem tb97 (F) : (B.env F).tab 97 = some ⟨.struct #[⟨"Place", 3, 0, false, "", "", 0⟩], 1, 8, [i64 0]⟩ := tbk (by kernel_rfl)
theorem tb99 (F) : (B.env F).tab 99 = some ⟨.struct #[⟨"Kind", 3, 0, false, "", "", 0⟩, ⟨"Railway", 3, 1, false, "", "", 8⟩, ⟨"Other", 3, 2, false, "", "", 16⟩], 3, 24, [i64 0, i64 0, i64 0]⟩ := tbk (by kernel_rfl)
theorem AmF (F) : (B.env F).tab 101 = some ⟨.struct #[⟨"Type", 3, 0, false, "", "", 0⟩, ⟨"Owner", 3, 1, false, "", "", 8⟩, ⟨"Home", 3, 2, false, "", "", 16⟩, ⟨"Built", 3, 3, false, "", "", 24⟩, ⟨"Worth", 3, 4, false, "", "", 32⟩], 5, 40, [i64 0, i64 0, i64 0, i64 0, i64 0]⟩ := tbk (by kernel_rfl)
theorem Ak8 (F) : (B.env F).tab 103 = some ⟨.struct #[⟨"A", 3, 0, false, "", "", 0⟩, ⟨"B", 3, 1, false, "", "", 8⟩, ⟨"Railway", 3, 2, false, "", "", 16⟩, ⟨"Minutes", 3, 3, false, "", "", 24⟩, ⟨"Km", 3, 4, false, "", "", 32⟩], 5, 40, [i64 0, i64 0, i64 0, i64 0, i64 0]⟩ := tbk (by kernel_rfl)
theorem AiO (F) : (B.env F).tab 106 = some ⟨.pointer 108, 1, 8, [.val (.pointer none)]⟩ := tbk (by kernel_rfl)
theorem An8 (F) : (B.env F).tab 108 = some ⟨.struct #[⟨"addr", 106, 0, false, "", "strings", 0⟩, ⟨"buf", 52, 1, false, "", "strings", 8⟩], 2, 32, [.val (.pointer none), .sl true (L cU8 ([]))]⟩ := tbk (by kernel_rfl)
theorem Akk (F) : (B.env F).tab 110 = some ⟨.interface #[("Error", 124)], 1, 16, [.val .nilIface]⟩ := tbk (by kernel_rfl)
theorem AlD (F) : (B.env F).tab 113 = some ⟨.array 16 9, 16, 256, [.str (([] : List UInt8)), .str (([] : List UInt8)), .str (([] : List UInt8)), .str (([] : List UInt8)), .str (([] : List UInt8)), .str (([] : List UInt8)), .str (([] : List UInt8)), .str (([] : List UInt8)), .str (([] : List UInt8)), .str (([] : List UInt8)), .str (([] : List UInt8)), .str (([] : List UInt8)), .str (([] : List UInt8)), .str (([] : List UInt8)), .str (([] : List UInt8)), .str (([] : List UInt8))]⟩ := tbk (by kernel_rfl)
theorem Aif (F) : (B.env F).tab 117 = some ⟨.pointer 3, 1, 8, [.val (.pointer none)]⟩ := tbk (by kernel_rfl)
theorem AjL (F) : (B.env F).tab 118 = some ⟨.array 11 117, 11, 88, [.val (.pointer none), .val (.pointer none), .val (.pointer none), .val (.pointer none), .val (.pointer none), .val (.pointer none), .val (.pointer none), .val (.pointer none), .val (.pointer none), .val (.pointer none), .val (.pointer none)]⟩ := tbk (by kernel_rfl)
theorem AkZ (F) : (B.env F).tab 122 = some ⟨.map 4 9, 1, 8, [.val (.map none)]⟩ := tbk (by kernel_rfl)
theorem Aga (F) : (B.env F).tab 134 = some ⟨.slice 9, 1, 24, [.sl true (L Tj ([]))]⟩ := tbk (by kernel_rfl)
theorem Ajr (F) : (B.env F).tab 150 = some ⟨.int .i64, 1, 8, [i64 0]⟩ := tbk (by kernel_rfl)
theorem AnQ (F) : (B.env F).tab 154 = some ⟨.struct #[⟨"b", 52, 0, false, "", "wagonpool/codec", 0⟩], 1, 24, [.sl true (L cU8 ([]))]⟩ := tbk (by kernel_rfl)
theorem Apf (F) : (B.env F).tab 171 = some ⟨.int .u64, 1, 8, [u64 ((0 : UInt64))]⟩ := tbk (by kernel_rfl)
theorem AoF (F) : (B.env F).tab 230 = some ⟨.int .i64, 1, 8, [i64 0]⟩ := tbk (by kernel_rfl)
theorem AmY : AV.int .u32 0 = u32 0 := rfl
theorem Am7 : AV.int .u32 1 = u32 1 := rfl
theorem Ajz : AV.int .u32 15 = u32 15 := rfl
theorem Ra : AV.int .u32 3988292384 = u32 3988292384 := rfl
theorem Qy : AV.int .u32 4294967295 = u32 4294967295 := rfl
theorem AlZ : AV.int .u64 0 = u64 0 := rfl
theorem AmM : AV.int .u64 1 = u64 1 := rfl
theorem Alo : AV.int .u64 4 = u64 4 := rfl
theorem Ang : AV.int .u64 8 = u64 8 := rfl
theorem AiS : AV.int .u64 16 = u64 16 := rfl
theorem Ajq : AV.int .u64 24 = u64 24 := rfl
theorem AiX : AV.int .u64 32 = u64 32 := rfl
theorem AgO : AV.int .u64 256 = u64 256 := rfl
theorem Adp : AV.int .u64 65536 = u64 65536 := rfl
theorem Q6 : AV.int .u64 4294967296 = u64 4294967296 := rfl
theorem Jh : AV.int .u64 1152921504606846976 = u64 1152921504606846976 := rfl
theorem Aop : AV.int .u8 0 = u8 0 := rfl
theorem AkB : AV.int .u8 10 = u8 10 := rfl
theorem AkD : AV.int .u8 15 = u8 15 := rfl
theorem Aky : AV.int .u8 16 = u8 16 := rfl
theorem Alm : AV.int .u8 23 = u8 23 := rfl
theorem Am1 : AV.int .u8 31 = u8 31 := rfl
theorem Akg : AV.int .u8 32 = u8 32 := rfl
theorem AlY : AV.int .u8 39 = u8 39 := rfl
theorem Amh : AV.int .u8 40 = u8 40 := rfl
theorem Ak7 : AV.int .u8 43 = u8 43 := rfl
theorem AkH : AV.int .u8 45 = u8 45 := rfl
theorem Amd : AV.int .u8 46 = u8 46 := rfl
theorem Am8 : AV.int .u8 48 = u8 48 := rfl
theorem Anf : AV.int .u8 57 = u8 57 := rfl
theorem Akj : AV.int .u8 63 = u8 63 := rfl
theorem AlI : AV.int .u8 64 = u8 64 := rfl
theorem Ami : AV.int .u8 95 = u8 95 := rfl
theorem Ann : AV.int .u8 97 = u8 97 := rfl
theorem Ak4 : AV.int .u8 99 = u8 99 := rfl
theorem AiG : AV.int .u8 100 = u8 100 := rfl
theorem Aj1 : AV.int .u8 102 = u8 102 := rfl
theorem Ah5 : AV.int .u8 103 = u8 103 := rfl
theorem AjM : AV.int .u8 107 = u8 107 := rfl
theorem Ai6 : AV.int .u8 110 = u8 110 := rfl
theorem Aig : AV.int .u8 111 = u8 111 := rfl
theorem Ajx : AV.int .u8 112 = u8 112 := rfl
theorem Aj0 : AV.int .u8 113 = u8 113 := rfl
theorem AjX : AV.int .u8 114 = u8 114 := rfl
theorem Aih : AV.int .u8 116 = u8 116 := rfl
theorem AiW : AV.int .u8 119 = u8 119 := rfl
theorem Aja : AV.int .u8 120 = u8 120 := rfl
theorem Aj2 : AV.int .u8 122 = u8 122 := rfl
theorem AhX : AV.int .u8 125 = u8 125 := rfl
theorem Ah6 : AV.int .u8 126 = u8 126 := rfl
theorem Aie : AV.int .u8 127 = u8 127 := rfl
theorem Aiv : AV.int .u8 255 = u8 255 := rfl
theorem Ah3 {F} {σ : Ab} (s x : AV) : Cs (B.env F) σ .append [52, 9] [s, x] = match G6 σ x with
      | some new => if H4 x 1 = true then none else if ∀ cs ∈ new, cs.length = 1 then (match s with
          | .sl full els =>
            if els = [] ∧ full = true then
              if Fv new.length 1 then some (.bs false σ.length new.length 0 new.length, σ ++ [.buf 1 new false]) else none
            else if new = [] then some (.sl full els, σ)
            else if full = true ∧ (∀ cs ∈ els, cs.length = 1) ∧ Fv (els.length + new.length) 1
            then some (.bs false σ.length (els.length + new.length) 0 (els.length + new.length), σ ++ [.buf 1 (els ++ new) false]) else none
          | .bs full id tot off len => match σ[id]? with
            | some (.buf k els ro) =>
              if els.length = tot ∧ k = 1 ∧ Fv (len + new.length) 1 then
                if off = 0 ∧ len = tot then some (.bs false id (tot + new.length) 0 (tot + new.length), σ.set id (.buf k (els ++ new) ro))
                else if new = [] then some (.bs full id tot off len, σ)
                else if full then some (.bs false σ.length (len + new.length) 0 (len + new.length), σ ++ [.buf k ((els.drop off).take len ++ new) false])
                else none
              else none
            | some (.tb T l) => Aax σ id tot off len 1 1 5 T l new
            | _ => none
          | _ => none)
        else none
      | none => none := Nh (Aj9 F) (tb5 F) (by decide) (tb9 F) (.inr rfl) s x []
theorem Ago {F} {σ : Ab} (s x : AV) : Cs (B.env F) σ .append [52, 52] [s, x] = match G6 σ x with
      | some new => if H4 x 1 = true then none else if ∀ cs ∈ new, cs.length = 1 then (match s with
          | .sl full els =>
            if els = [] ∧ full = true then
              if Fv new.length 1 then some (.bs false σ.length new.length 0 new.length, σ ++ [.buf 1 new false]) else none
            else if new = [] then some (.sl full els, σ)
            else if full = true ∧ (∀ cs ∈ els, cs.length = 1) ∧ Fv (els.length + new.length) 1
            then some (.bs false σ.length (els.length + new.length) 0 (els.length + new.length), σ ++ [.buf 1 (els ++ new) false]) else none
          | .bs full id tot off len => match σ[id]? with
            | some (.buf k els ro) =>
              if els.length = tot ∧ k = 1 ∧ Fv (len + new.length) 1 then
                if off = 0 ∧ len = tot then some (.bs false id (tot + new.length) 0 (tot + new.length), σ.set id (.buf k (els ++ new) ro))
                else if new = [] then some (.bs full id tot off len, σ)
                else if full then some (.bs false σ.length (len + new.length) 0 (len + new.length), σ ++ [.buf k ((els.drop off).take len ++ new) false])
                else none
              else none
            | some (.tb T l) => Aax σ id tot off len 1 1 5 T l new
            | _ => none
          | _ => none)
        else none
      | none => none := Nh (Aj9 F) (tb5 F) (by decide) (Aj9 F) (.inl ⟨_, rfl⟩) s x []
theorem AkA {F} (l : List UInt8) (x : AV) : L6 (B.env F) 9 (.str l) x = match idx x l.length with
    | some i => some (u8 (nth l i))
    | none => none := Ac5 (tb9 F) l x
theorem Aoq {F} : ((B.env F).bty = some 108) = True := eq_true rfl
theorem Ae1 {F} {σ : Ab} (x : AV) : As (B.env F) σ 113 (.glob 0) x = match idx x 16 with
    | some i => some (.rp ((C1 AV.str glob0.l).drop i))
    | none => none := AfR (AlD F) (tb9 F) rfl x
theorem Ag9 {F} (a0 : Int) (a1 : Int) (b0 : Int) (b1 : Int) : Bq (B.env F) .neq 38 (.agg [i64 a0, i64 a1]) (.agg [i64 b0, i64 b1]) = some (.bool (!((a0 == b0) && (a1 == b1)))) :=
  L2 (ApI F) (by kernel_rfl) (by kernel_rfl) (Nq (by decide) (tb3 F) rfl rfl (Ny a0 b0) (Uq (by decide) (tb3 F) rfl rfl (Ny a1 b1)))
theorem Ao9 {F} : ((B.env F).bty = some 118) = False := eq_false (fun h : (some 108 : Option TypeId) = some 118 => absurd (Option.some.inj h) (by decide))
theorem Aot {F} : Ry (B.env F) 9 = true := Afh (tb9 F)
theorem AoU : (0 < (List.toArray ([119, 112, 111, 110, 102, 116, 99, 100, 107, 103, 97] : List UInt8)).size) = True := eq_true (by decide)
theorem Amv : Utf8.decode (ByteArray.mk (List.toArray ([119, 112, 111, 110, 102, 116, 99, 100, 107, 103, 97] : List UInt8))) 0 = (119, 1) := rfl
theorem AjU {F} {σ : Ab} (id off : Nat) (x : AV) : As (B.env F) σ 118 (.ref id off) x = match idx x 11 with
    | some i => some (.ref id (off + i * 1))
    | none => none := Ajd (AjL F) (Aif F) id off x
theorem U3 {F} {σ : Ab} : Bb (B.env F) σ 21 5 (.int .i32 119) = some (u8 (119 : UInt8), σ) := Dc (by rw [Adu F]; rfl) (by unfold E0; rw [tb5 F]; rfl)
theorem Amg : (1 < (List.toArray ([119, 112, 111, 110, 102, 116, 99, 100, 107, 103, 97] : List UInt8)).size) = True := eq_true (by decide)
theorem AmG : Utf8.decode (ByteArray.mk (List.toArray ([119, 112, 111, 110, 102, 116, 99, 100, 107, 103, 97] : List UInt8))) 1 = (112, 1) := rfl
theorem U6 {F} {σ : Ab} : Bb (B.env F) σ 21 5 (.int .i32 112) = some (u8 (112 : UInt8), σ) := Dc (by rw [Adu F]; rfl) (by unfold E0; rw [tb5 F]; rfl)
theorem Anh : (2 < (List.toArray ([119, 112, 111, 110, 102, 116, 99, 100, 107, 103, 97] : List UInt8)).size) = True := eq_true (by decide)
theorem Aks : Utf8.decode (ByteArray.mk (List.toArray ([119, 112, 111, 110, 102, 116, 99, 100, 107, 103, 97] : List UInt8))) 2 = (111, 1) := rfl
theorem Vk {F} {σ : Ab} : Bb (B.env F) σ 21 5 (.int .i32 111) = some (u8 (111 : UInt8), σ) := Dc (by rw [Adu F]; rfl) (by unfold E0; rw [tb5 F]; rfl)
theorem Al8 : (3 < (List.toArray ([119, 112, 111, 110, 102, 116, 99, 100, 107, 103, 97] : List UInt8)).size) = True := eq_true (by decide)
theorem Alu : Utf8.decode (ByteArray.mk (List.toArray ([119, 112, 111, 110, 102, 116, 99, 100, 107, 103, 97] : List UInt8))) 3 = (110, 1) := rfl
theorem Vc {F} {σ : Ab} : Bb (B.env F) σ 21 5 (.int .i32 110) = some (u8 (110 : UInt8), σ) := Dc (by rw [Adu F]; rfl) (by unfold E0; rw [tb5 F]; rfl)
theorem AmE : (4 < (List.toArray ([119, 112, 111, 110, 102, 116, 99, 100, 107, 103, 97] : List UInt8)).size) = True := eq_true (by decide)
theorem Amo : Utf8.decode (ByteArray.mk (List.toArray ([119, 112, 111, 110, 102, 116, 99, 100, 107, 103, 97] : List UInt8))) 4 = (102, 1) := rfl
theorem We {F} {σ : Ab} : Bb (B.env F) σ 21 5 (.int .i32 102) = some (u8 (102 : UInt8), σ) := Dc (by rw [Adu F]; rfl) (by unfold E0; rw [tb5 F]; rfl)
theorem Al3 : (5 < (List.toArray ([119, 112, 111, 110, 102, 116, 99, 100, 107, 103, 97] : List UInt8)).size) = True := eq_true (by decide)
theorem Amu : Utf8.decode (ByteArray.mk (List.toArray ([119, 112, 111, 110, 102, 116, 99, 100, 107, 103, 97] : List UInt8))) 5 = (116, 1) := rfl
theorem Vh {F} {σ : Ab} : Bb (B.env F) σ 21 5 (.int .i32 116) = some (u8 (116 : UInt8), σ) := Dc (by rw [Adu F]; rfl) (by unfold E0; rw [tb5 F]; rfl)
theorem AlK : (6 < (List.toArray ([119, 112, 111, 110, 102, 116, 99, 100, 107, 103, 97] : List UInt8)).size) = True := eq_true (by decide)
theorem Amt : Utf8.decode (ByteArray.mk (List.toArray ([119, 112, 111, 110, 102, 116, 99, 100, 107, 103, 97] : List UInt8))) 6 = (99, 1) := rfl
theorem Y0 {F} {σ : Ab} : Bb (B.env F) σ 21 5 (.int .i32 99) = some (u8 (99 : UInt8), σ) := Dc (by rw [Adu F]; rfl) (by unfold E0; rw [tb5 F]; rfl)
theorem AmI : (7 < (List.toArray ([119, 112, 111, 110, 102, 116, 99, 100, 107, 103, 97] : List UInt8)).size) = True := eq_true (by decide)
theorem AlL : Utf8.decode (ByteArray.mk (List.toArray ([119, 112, 111, 110, 102, 116, 99, 100, 107, 103, 97] : List UInt8))) 7 = (100, 1) := rfl
theorem Wh {F} {σ : Ab} : Bb (B.env F) σ 21 5 (.int .i32 100) = some (u8 (100 : UInt8), σ) := Dc (by rw [Adu F]; rfl) (by unfold E0; rw [tb5 F]; rfl)
theorem AmB : (8 < (List.toArray ([119, 112, 111, 110, 102, 116, 99, 100, 107, 103, 97] : List UInt8)).size) = True := eq_true (by decide)
theorem Al1 : Utf8.decode (ByteArray.mk (List.toArray ([119, 112, 111, 110, 102, 116, 99, 100, 107, 103, 97] : List UInt8))) 8 = (107, 1) := rfl
theorem Vy {F} {σ : Ab} : Bb (B.env F) σ 21 5 (.int .i32 107) = some (u8 (107 : UInt8), σ) := Dc (by rw [Adu F]; rfl) (by unfold E0; rw [tb5 F]; rfl)
theorem AkY : (9 < (List.toArray ([119, 112, 111, 110, 102, 116, 99, 100, 107, 103, 97] : List UInt8)).size) = True := eq_true (by decide)
theorem AkJ : Utf8.decode (ByteArray.mk (List.toArray ([119, 112, 111, 110, 102, 116, 99, 100, 107, 103, 97] : List UInt8))) 9 = (103, 1) := rfl
theorem Up {F} {σ : Ab} : Bb (B.env F) σ 21 5 (.int .i32 103) = some (u8 (103 : UInt8), σ) := Dc (by rw [Adu F]; rfl) (by unfold E0; rw [tb5 F]; rfl)
theorem AlF : (10 < (List.toArray ([119, 112, 111, 110, 102, 116, 99, 100, 107, 103, 97] : List UInt8)).size) = True := eq_true (by decide)
theorem Ama : Utf8.decode (ByteArray.mk (List.toArray ([119, 112, 111, 110, 102, 116, 99, 100, 107, 103, 97] : List UInt8))) 10 = (97, 1) := rfl
theorem W7 {F} {σ : Ab} : Bb (B.env F) σ 21 5 (.int .i32 97) = some (u8 (97 : UInt8), σ) := Dc (by rw [Adu F]; rfl) (by unfold E0; rw [tb5 F]; rfl)
theorem AmZ : (11 < (List.toArray ([119, 112, 111, 110, 102, 116, 99, 100, 107, 103, 97] : List UInt8)).size) = False := eq_false (by decide)
theorem AmN {F} {σ : Ab} (f : Bool) (l : List Api_Part) (x : AV) : As (B.env F) σ 39 (.sl f (L Ac l)) x = match idx x l.length with
    | some i => some (.rp (Ac (nth l i)))
    | none => none := Lc Ac (Anv F) (AnB F) (fun _ => rfl) f l x
theorem nb66 {F} : ((B.env F).bty = some 66) = False := eq_false (fun h : (some 108 : Option TypeId) = some 66 => absurd (Option.some.inj h) (by decide))
theorem AiM {F} : Wm (B.env F) 122 = some .bool := AfU (AkZ F) (tb4 F)
theorem Anm {F} {σ : Ab} (l c : Int) : Gg (B.env F) σ 134 (i64 l) (i64 c) = if Mk l c 16 then some (.bs (l == c) σ.length l.toNat 0 l.toNat, σ ++ [.buf 1 (List.replicate l.toNat [.str (([] : List UInt8))]) false]) else none := AjJ (Aga F) (tb9 F) (by decide) l c
theorem Ai8 {F} {σ : Ab} (f : Bool) (id tot off len : Nat) (x : AV) : As (B.env F) σ 134 (.bs f id tot off len) x = match σ[id]?, idx x len with
    | some (.buf k els _), some i => if els.length = tot ∧ k = 1 then some (.eref id tot (off + i) 0) else none
    | _, _ => none := AhH (Aga F) (tb9 F) (by decide) f id tot off len x
theorem AjQ {F} {σ : Ab} (f : Bool) (l : List (List UInt8)) (x : AV) : As (B.env F) σ 134 (.sl f (L Tj l)) x = match idx x l.length with
    | some i => some (.rp (Tj (nth l i)))
    | none => none := Lc Tj (Aga F) (tb9 F) (fun _ => rfl) f l x
theorem Akw {F} {σ : Ab} (f : Bool) (id tot off len : Nat) (x : AV) : As (B.env F) σ 52 (.bs f id tot off len) x = match σ[id]?, idx x len with
    | some (.buf k els _), some i => if els.length = tot ∧ k = 1 then some (.eref id tot (off + i) 0) else none
    | _, _ => none := AhH (Aj9 F) (tb5 F) (by decide) f id tot off len x
theorem Ajy {F} : Nl (B.env F) 110 = true := AgG (Akk F)
theorem AmP {F} (cs : List AV) (x : AV) : L6 (B.env F) 118 (.agg cs) x = match idx x 11 with
    | some i => partA (⟨.pointer 3, 1, 8, [.val (.pointer none)]⟩ : TD) cs (i * 1)
    | none => none := Ac2 (AjL F) (Aif F) cs x
theorem AkP {F} {σ : Ab} (f : Bool) (l : List Int) (x : AV) : As (B.env F) σ 85 (.sl f (L Nc l)) x = match idx x l.length with
    | some i => some (.rp (Nc (nth l i)))
    | none => none := Lc Nc (tb85 F) (tb3 F) (fun _ => rfl) f l x
theorem Ahz {F} {σ : Ab} (s x : AV) : Cs (B.env F) σ .append [39, 39] [s, x] = match G6 σ x with
      | some new => if H4 x 3 = true then none else if ∀ cs ∈ new, cs.length = 3 then (match s with
          | .sl full els =>
            if els = [] ∧ full = true then
              if Fv new.length 24 then some (.bs false σ.length new.length 0 new.length, σ ++ [.buf 3 new false]) else none
            else if new = [] then some (.sl full els, σ)
            else if full = true ∧ (∀ cs ∈ els, cs.length = 3) ∧ Fv (els.length + new.length) 24
            then some (.bs false σ.length (els.length + new.length) 0 (els.length + new.length), σ ++ [.buf 3 (els ++ new) false]) else none
          | .bs full id tot off len => match σ[id]? with
            | some (.buf k els ro) =>
              if els.length = tot ∧ k = 3 ∧ Fv (len + new.length) 24 then
                if off = 0 ∧ len = tot then some (.bs false id (tot + new.length) 0 (tot + new.length), σ.set id (.buf k (els ++ new) ro))
                else if new = [] then some (.bs full id tot off len, σ)
                else if full then some (.bs false σ.length (len + new.length) 0 (len + new.length), σ ++ [.buf k ((els.drop off).take len ++ new) false])
                else none
              else none
            | some (.tb T l) => Aax σ id tot off len 24 3 66 T l new
            | _ => none
          | _ => none)
        else none
      | none => none := Nh (Anv F) (AnB F) (by decide) (Anv F) (.inl ⟨_, rfl⟩) s x []
theorem nb41 {F} : ((B.env F).bty = some 41) = False := eq_false (fun h : (some 108 : Option TypeId) = some 41 => absurd (Option.some.inj h) (by decide))
theorem Ait {F} : (B.env F).G 0 = some (C1 AV.str glob0.l) := rfl
theorem AiE : List.take 16 (List.map (fun c => [c]) (C1 AV.str glob0.l)) = L Tj glob0.l := AaZ
theorem nb55 {F} : ((B.env F).bty = some 55) = False := eq_false (fun h : (some 108 : Option TypeId) = some 55 => absurd (Option.some.inj h) (by decide))
theorem Af1 {F} {σ : Ab} (s x : AV) : Cs (B.env F) σ .append [53, 53] [s, x] = match G6 σ x with
      | some new => if H4 x 4 = true then none else if ∀ cs ∈ new, cs.length = 4 then (match s with
          | .sl full els =>
            if els = [] ∧ full = true then
              if Fv new.length 64 then some (.bs false σ.length new.length 0 new.length, σ ++ [.buf 4 new false]) else none
            else if new = [] then some (.sl full els, σ)
            else if full = true ∧ (∀ cs ∈ els, cs.length = 4) ∧ Fv (els.length + new.length) 64
            then some (.bs false σ.length (els.length + new.length) 0 (els.length + new.length), σ ++ [.buf 4 (els ++ new) false]) else none
          | .bs full id tot off len => match σ[id]? with
            | some (.buf k els ro) =>
              if els.length = tot ∧ k = 4 ∧ Fv (len + new.length) 64 then
                if off = 0 ∧ len = tot then some (.bs false id (tot + new.length) 0 (tot + new.length), σ.set id (.buf k (els ++ new) ro))
                else if new = [] then some (.bs full id tot off len, σ)
                else if full then some (.bs false σ.length (len + new.length) 0 (len + new.length), σ ++ [.buf k ((els.drop off).take len ++ new) false])
                else none
              else none
            | some (.tb T l) => Aax σ id tot off len 64 4 55 T l new
            | _ => none
          | _ => none)
        else none
      | none => none := Nh (Anu F) (An1 F) (by decide) (Anu F) (.inl ⟨_, rfl⟩) s x []
theorem All {F} {σ : Ab} (f : Bool) (l : List Api_Value) (x : AV) : As (B.env F) σ 53 (.sl f (L cApi_Value l)) x = match idx x l.length with
    | some i => some (.rp (cApi_Value (nth l i)))
    | none => none := Lc cApi_Value (Anu F) (An1 F) (fun y => by rw [D8]; rfl) f l x
theorem Alt {F} {σ : Ab} (f : Bool) (l : List UInt8) (x : AV) : As (B.env F) σ 52 (.sl f (L cU8 l)) x = match idx x l.length with
    | some i => some (.rp (cU8 (nth l i)))
    | none => none := Lc cU8 (Aj9 F) (tb5 F) (fun _ => rfl) f l x
theorem Agr {F} (a0 : Int) (a1 : Int) (a2 : Bool) (b0 : Int) (b1 : Int) (b2 : Bool) : Bq (B.env F) .neq 66 (.agg [i64 a0, i64 a1, .bool a2]) (.agg [i64 b0, i64 b1, .bool b2]) = some (.bool (!((a0 == b0) && ((a1 == b1) && (a2 == b2))))) :=
  L2 (AnB F) (by kernel_rfl) (by kernel_rfl) (Nq (by decide) (tb3 F) rfl rfl (Ny a0 b0) (Nq (by decide) (tb3 F) rfl rfl (Ny a1 b1) (Uq (by decide) (tb4 F) rfl rfl (AgN a2 b2))))
theorem Agc {F} (a0 : Int) (a1 : Int) (b0 : Int) (b1 : Int) : Bq (B.env F) .eql 38 (.agg [i64 a0, i64 a1]) (.agg [i64 b0, i64 b1]) = some (.bool (((a0 == b0) && (a1 == b1)))) :=
  Sw (ApI F) (by kernel_rfl) (by kernel_rfl) (Nq (by decide) (tb3 F) rfl rfl (Ny a0 b0) (Uq (by decide) (tb3 F) rfl rfl (Ny a1 b1)))
theorem nb45 {F} : ((B.env F).bty = some 45) = False := eq_false (fun h : (some 108 : Option TypeId) = some 45 => absurd (Option.some.inj h) (by decide))
theorem Ano {F} {σ : Ab} (f : Bool) (l : List Api_Place) (x : AV) : As (B.env F) σ 22 (.sl f (L Ai l)) x = match idx x l.length with
    | some i => some (.rp (Ai (nth l i)))
    | none => none := Lc Ai (tb22 F) (tb99 F) (fun _ => rfl) f l x
theorem nb99 {F} : ((B.env F).bty = some 99) = False := eq_false (fun h : (some 108 : Option TypeId) = some 99 => absurd (Option.some.inj h) (by decide))
theorem AkT {F} {σ : Ab} (f : Bool) (l : List Api_Edge) (x : AV) : As (B.env F) σ 23 (.sl f (L Ay l)) x = match idx x l.length with
    | some i => some (.rp (Ay (nth l i)))
    | none => none := Lc Ay (tb23 F) (Ak8 F) (fun _ => rfl) f l x
theorem Apy {F} : ((B.env F).bty = some 103) = False := eq_false (fun h : (some 108 : Option TypeId) = some 103 => absurd (Option.some.inj h) (by decide))
theorem AkC {F} {σ : Ab} (f : Bool) (l : List Api_Reader) (x : AV) : As (B.env F) σ 32 (.sl f (L Aq l)) x = match idx x l.length with
    | some i => some (.rp (Aq (nth l i)))
    | none => none := Lc Aq (tb32 F) (tb94 F) (fun _ => rfl) f l x
theorem nb94 {F} : ((B.env F).bty = some 94) = False := eq_false (fun h : (some 108 : Option TypeId) = some 94 => absurd (Option.some.inj h) (by decide))
theorem Akc {F} {σ : Ab} (f : Bool) (l : List Api_Shipper) (x : AV) : As (B.env F) σ 33 (.sl f (L Al l)) x = match idx x l.length with
    | some i => some (.rp (Al (nth l i)))
    | none => none := Lc Al (tb33 F) (tb97 F) (fun _ => rfl) f l x
theorem nb97 {F} : ((B.env F).bty = some 97) = False := eq_false (fun h : (some 108 : Option TypeId) = some 97 => absurd (Option.some.inj h) (by decide))
theorem Am5 {F} {σ : Ab} (f : Bool) (l : List Api_Wagon) (x : AV) : As (B.env F) σ 27 (.sl f (L Av l)) x = match idx x l.length with
    | some i => some (.rp (Av (nth l i)))
    | none => none := Lc Av (tb27 F) (AmF F) (fun _ => rfl) f l x
theorem An4 {F} : ((B.env F).bty = some 101) = False := eq_false (fun h : (some 108 : Option TypeId) = some 101 => absurd (Option.some.inj h) (by decide))
theorem AkR {F} {σ : Ab} (f : Bool) (l : List Api_RailwayInfo) (x : AV) : As (B.env F) σ 34 (.sl f (L Af l)) x = match idx x l.length with
    | some i => some (.rp (Af (nth l i)))
    | none => none := Lc Af (tb34 F) (tb90 F) (fun _ => rfl) f l x
theorem nb90 {F} : ((B.env F).bty = some 90) = False := eq_false (fun h : (some 108 : Option TypeId) = some 90 => absurd (Option.some.inj h) (by decide))
attribute [go_sem] lm0 own3 own4 own5 own6 own7 own8 ApE AoX Aos AnD AoM Ao6 Apd AoK ApR AoQ ApP Api Apb Ao4 AoL AnK ApO Aoa AoD Apk ApC AnJ Aod Aoh Ao2 AnZ Apx Apa AoY AnL AoC An3 ApH Aoi AoP AnX An6 Aol Aoy AnT Ao0 Apo Apt AoO AoT Aov AnE AnN ApN Ao3 AoN AnG Ape AoI Aoe ApK AnM AnV AoE AoG AoR An7 An2 AoZ AoA An9 ApG ApM AkQ Amc Ak5 Alj AlC Am6 Al5 Anc Ank Akq Akl AlB AlA Ane Ak2 Amy Akn Amp AlX AlO Amb AmS Alp AlR Am0 Am3 Akx AkE Alx AkM Al6 Alz Pb AbQ Ac Xz S7 Aav Aay Aar D8 Sm Vj Ai Ay Xw Aj Av Bf Bg Ac7 Aq Al Aes U2 Af AfH tb3 tb4 tb5 tb9 Adu tb22 tb23 tb25 tb27 tb31 tb32 tb33 tb34 tb36 ApI Anv tb41 tb45 Aj9 Anu An1 AnB tb85 tb88 tb90 tb94 tb97 tb99 AmF Ak8 AiO An8 Akk AlD Aif AjL AkZ Aga Ajr AnQ Apf AoF AmY Am7 Ajz Ra Qy AlZ AmM Alo Ang AiS Ajq AiX AgO Adp Q6 Jh Aop AkB AkD Aky Alm Am1 Akg AlY Amh Ak7 AkH Amd Am8 Anf Akj AlI Ami Ann Ak4 AiG Aj1 Ah5 AjM Ai6 Aig Ajx Aj0 AjX Aih AiW Aja Aj2 AhX Ah6 Aie Aiv Ah3 Ago AkA Aoq Ae1 Ag9 Ao9 Aot AoU Amv AjU U3 Amg AmG U6 Anh Aks Vk Al8 Alu Vc AmE Amo We Al3 Amu Vh AlK Amt Y0 AmI AlL Wh AmB Al1 Vy AkY AkJ Up AlF Ama W7 AmZ AmN nb66 AiM Anm Ai8 AjQ Akw Ajy AmP AkP Ahz nb41 Ait AiE nb55 Af1 All Alt Agr Agc nb45 Ano nb99 AkT Apy AkC nb94 Akc nb97 Am5 An4 AkR nb90
def B3 (b : Strings_Builder) (a : List UInt8) : Option (Int × Bool × Strings_Builder) :=
 if Fv (b.buf.length + a.length) 1 then
  lt1 (b.buf ++ a) fun (c : List UInt8) =>
  some ((a.length : Int), false, ({ addr := (), buf := c } : Strings_Builder))
 else none
def Ap (a : Strings_Builder) (b : UInt8) : Option (Bool × Strings_Builder) :=
 if Fv (a.buf.length + 1) 1 then
  lt1 (a.buf ++ ([b] : List UInt8)) fun (c : List UInt8) =>
  some (false, ({ addr := (), buf := c } : Strings_Builder))
 else none
def Jw (b : List UInt8) (a : Int) (c : List UInt8) : Option ((Int × List UInt8) ⊕ (List UInt8)) :=
 if (decide (a < (b.length : Int))) = true then
  if InR a b.length then
   ((if (decide ((nth b a.toNat) < (32 : UInt8))) = true then
    some true
   else
    if (decide ((nth b a.toNat) > (126 : UInt8))) = true then
     some true
    else
     if ((nth b a.toNat) == (43 : UInt8)) = true then
      some true
     else
      if ((nth b a.toNat) == (39 : UInt8)) = true then
       some true
      else
       some ((nth b a.toNat) == (63 : UInt8)) : Option (Bool)).bind fun d =>
   if d = true then
    (Ap ({ addr := (), buf := c } : Strings_Builder) (63 : UInt8)).bind fun e =>
    lt1 e.2.buf fun (f : List UInt8) =>
    if InR ((Ako (nth b a.toNat) (4 : UInt64).toNat).toNat : Int) (([48, 49, 50, 51, 52, 53, 54, 55, 56, 57, 97, 98, 99, 100, 101, 102] : List UInt8).length) then
     (Ap ({ addr := (), buf := f } : Strings_Builder) (nth ([48, 49, 50, 51, 52, 53, 54, 55, 56, 57, 97, 98, 99, 100, 101, 102] : List UInt8) ((Ako (nth b a.toNat) (4 : UInt64).toNat).toNat))).bind fun g =>
     lt1 g.2.buf fun (i : List UInt8) =>
     if InR (((nth b a.toNat) &&& (15 : UInt8)).toNat : Int) (([48, 49, 50, 51, 52, 53, 54, 55, 56, 57, 97, 98, 99, 100, 101, 102] : List UInt8).length) then
      lt1 (nth ([48, 49, 50, 51, 52, 53, 54, 55, 56, 57, 97, 98, 99, 100, 101, 102] : List UInt8) (((nth b a.toNat) &&& (15 : UInt8)).toNat)) fun (j : UInt8) =>
      some (j, i)
     else none
    else none
   else
    some ((nth b a.toNat), c) : Option (UInt8 × List UInt8)).bind fun (k, l) =>
   (Ap ({ addr := (), buf := l } : Strings_Builder) k).bind fun m =>
   lt1 m.2.buf fun (n : List UInt8) =>
   some (.inl ((w64 (a + 1)), n))
  else none
 else
  some (.inr c)
def Ot (a : Strings_Builder) (b : List UInt8) : Option (Strings_Builder) :=
 (C6 (fun (v : Int × List UInt8) => Jw b v.1 v.2) (0, a.buf)).bind fun c =>
 some ({ addr := (), buf := c } : Strings_Builder)
def strconv_Itoa (n : Int) : Option (List UInt8) := AkL n
def Bm (a : Int) (b : Strings_Builder) : Option (Strings_Builder) :=
 (strconv_Itoa a).bind fun c =>
 (B3 ({ addr := (), buf := b.buf } : Strings_Builder) c).bind fun d =>
 lt1 d.2.2.buf fun (e : List UInt8) =>
 some ({ addr := (), buf := e } : Strings_Builder)
def Bw (a : UInt8) (b : Strings_Builder) : Option (Strings_Builder) :=
 (Ap ({ addr := (), buf := b.buf } : Strings_Builder) (43 : UInt8)).bind fun c =>
 lt1 c.2.buf fun (d : List UInt8) =>
 (Ap ({ addr := (), buf := d } : Strings_Builder) a).bind fun e =>
 lt1 e.2.buf fun (f : List UInt8) =>
 some ({ addr := (), buf := f } : Strings_Builder)
def J1 (b : Api_Item) (a : Int) (c : List UInt8) : Option ((Int × List UInt8) ⊕ (List UInt8)) :=
 if (decide (a < (b.Parts.length : Int))) = true then
  if InR a b.Parts.length then
   lt1 ((nth b.Parts a.toNat).Kind) fun (d : Int) =>
   lt1 ((nth b.Parts a.toNat).Serial) fun (e : Int) =>
   lt1 ((nth b.Parts a.toNat).Fitted) fun (f : Bool) =>
   (Bw (113 : UInt8) ({ addr := (), buf := c } : Strings_Builder)).bind fun g =>
   (Bm d ({ addr := (), buf := g.buf } : Strings_Builder)).bind fun i =>
   (Ap ({ addr := (), buf := i.buf } : Strings_Builder) (46 : UInt8)).bind fun j =>
   (Bm e ({ addr := (), buf := j.2.buf } : Strings_Builder)).bind fun k =>
   (B3 ({ addr := (), buf := k.buf } : Strings_Builder) (if f = true then ([46, 49] : List UInt8) else ([46, 48] : List UInt8))).bind fun l =>
   some (.inl ((w64 (a + 1)), l.2.2.buf))
  else none
 else
  some (.inr c)
def Jg (a : Api_Item) : Option (List UInt8 × Int) :=
 (if (decide (a.Kind < 1)) = true then
  some true
 else
  some (decide (a.Kind ≥ 16)) : Option (Bool)).bind fun q =>
 if q = true then
  some (([] : List UInt8), 110)
 else
  if InR a.Kind 16 then
   (B3 ({ addr := (), buf := [] } : Strings_Builder) (glob0.get a.Kind.toNat)).bind fun c =>
   (if (!((a.Ref.Railway == 0) && (a.Ref.No == 0))) = true then
    (Bw (114 : UInt8) ({ addr := (), buf := c.2.2.buf } : Strings_Builder)).bind fun s =>
    (Bm a.Ref.Railway ({ addr := (), buf := s.buf } : Strings_Builder)).bind fun t =>
    (Ap ({ addr := (), buf := t.buf } : Strings_Builder) (46 : UInt8)).bind fun u =>
    (Bm a.Ref.No ({ addr := (), buf := u.2.buf } : Strings_Builder)).bind fun w =>
    some w.buf
   else
    some c.2.2.buf : Option (List UInt8)).bind fun d =>
   ((if (a.Wagon != 0) = true then
    (Bw (119 : UInt8) ({ addr := (), buf := d } : Strings_Builder)).bind fun x =>
    (Bm a.Wagon ({ addr := (), buf := x.buf } : Strings_Builder)).bind fun y =>
    some y.buf
   else
    some d : Option (List UInt8)).bind fun e =>
   (if (a.Place != 0) = true then
    (Bw (112 : UInt8) ({ addr := (), buf := e } : Strings_Builder)).bind fun z =>
    (Bm a.Place ({ addr := (), buf := z.buf } : Strings_Builder)).bind fun aa =>
    some aa.buf
   else
    some e : Option (List UInt8)).bind fun f =>
   (if (a.Other != 0) = true then
    (Bw (111 : UInt8) ({ addr := (), buf := f } : Strings_Builder)).bind fun ab =>
    (Bm a.Other ({ addr := (), buf := ab.buf } : Strings_Builder)).bind fun ac =>
    some ac.buf
   else
    some f : Option (List UInt8)).bind fun g =>
   (if (a.Number != 0) = true then
    (Bw (110 : UInt8) ({ addr := (), buf := g } : Strings_Builder)).bind fun ad =>
    (Bm a.Number ({ addr := (), buf := ad.buf } : Strings_Builder)).bind fun ae =>
    some ae.buf
   else
    some g : Option (List UInt8)).bind fun i =>
   (if (a.From != 0) = true then
    (Bw (102 : UInt8) ({ addr := (), buf := i } : Strings_Builder)).bind fun af =>
    (Bm a.From ({ addr := (), buf := af.buf } : Strings_Builder)).bind fun ag =>
    some ag.buf
   else
    some i : Option (List UInt8)).bind fun j =>
   (if (a.To != 0) = true then
    (Bw (116 : UInt8) ({ addr := (), buf := j } : Strings_Builder)).bind fun ah =>
    (Bm a.To ({ addr := (), buf := ah.buf } : Strings_Builder)).bind fun ai =>
    some ai.buf
   else
    some j : Option (List UInt8)).bind fun k =>
   (if (a.Code != 0) = true then
    (Bw (99 : UInt8) ({ addr := (), buf := k } : Strings_Builder)).bind fun aj =>
    (Bm a.Code ({ addr := (), buf := aj.buf } : Strings_Builder)).bind fun ak =>
    some ak.buf
   else
    some k : Option (List UInt8)).bind fun l =>
   (if (a.Dest != 0) = true then
    (Bw (100 : UInt8) ({ addr := (), buf := l } : Strings_Builder)).bind fun al =>
    (Bm a.Dest ({ addr := (), buf := al.buf } : Strings_Builder)).bind fun am =>
    some am.buf
   else
    some l : Option (List UInt8)).bind fun m =>
   (if (a.Class != 0) = true then
    (Bw (107 : UInt8) ({ addr := (), buf := m } : Strings_Builder)).bind fun an =>
    (Bm a.Class ({ addr := (), buf := an.buf } : Strings_Builder)).bind fun ao =>
    some ao.buf
   else
    some m : Option (List UInt8)).bind fun n =>
   (if (a.Weight != 0) = true then
    (Bw (103 : UInt8) ({ addr := (), buf := n } : Strings_Builder)).bind fun ap =>
    (Bm a.Weight ({ addr := (), buf := ap.buf } : Strings_Builder)).bind fun aq =>
    some aq.buf
   else
    some n : Option (List UInt8)).bind fun o =>
   (if (a.Amount != 0) = true then
    (Bw (97 : UInt8) ({ addr := (), buf := o } : Strings_Builder)).bind fun ar =>
    (Bm a.Amount ({ addr := (), buf := ar.buf } : Strings_Builder)).bind fun au =>
    some au.buf
   else
    some o : Option (List UInt8)).bind fun av =>
   some av : Option (List UInt8)).bind fun p =>
   (if (!(a.Text == ([] : List UInt8))) = true then
    (Bw (120 : UInt8) ({ addr := (), buf := p } : Strings_Builder)).bind fun aw =>
    (Ot ({ addr := (), buf := aw.buf } : Strings_Builder) a.Text).bind fun ax =>
    some ax.buf
   else
    some p : Option (List UInt8)).bind fun ay =>
   ((C6 (fun (v : Int × List UInt8) => J1 a v.1 v.2) (0, ay)).bind fun az =>
   some az : Option (List UInt8)).bind fun aA =>
   (Ap ({ addr := (), buf := aA } : Strings_Builder) (39 : UInt8)).bind fun b =>
   if (decide ((b.2.buf.length : Int) > 65536)) = true then
    some (([] : List UInt8), 2)
   else
    if ¬b.2.buf = [] then
     if Fv b.2.buf.length 1 then
      some (b.2.buf, 0)
     else none
    else none
  else none
def Jk (s sep : List UInt8) : Option Int := AhD s sep
def E8 (l : List UInt8) (c : UInt8) : Option (Int) := Afe l c
def Dd (a : List UInt8) (b : UInt8) : Option (Int) :=
 (E8 a b).bind fun c =>
 some c
def F6 (a : List UInt8) (b : UInt8) : Option (Int) :=
 (Dd a b).bind fun c =>
 some c
def Ga (b : List UInt8) (a : List UInt8) : Option (Int) :=
 (if ((a.length : Int) == 0) = true then
  some true
 else
  some (a == b) : Option (Bool)).bind fun c =>
 if c = true then
  some 0
 else
  if ((a.length : Int) == 1) = true then
   if InR 0 a.length then
    (Dd b (nth a 0)).bind fun d =>
    some d
   else none
  else
   if (decide ((a.length : Int) ≥ (b.length : Int))) = true then
    some (-1)
   else
    none
def Jj (a : List UInt8) (b : List UInt8) : Option (Int) :=
 (Ga a b).bind fun c =>
 some c
def Et (d : List UInt8) (f : Int) (g : Int) (a : List UInt8) (b : Int) (e : List (List UInt8)) : Option ((List UInt8 × Int × List (List UInt8)) ⊕ (List UInt8 × Int × List (List UInt8))) :=
 if (decide (b < (w64 (g - 1)))) = true then
  (Jj a d).bind fun c =>
  if (decide (c < 0)) = true then
   some (.inr (a, b, e))
  else
   if InB (w64 (c + f)) a.length then
    if InR b e.length then
     lt1 (e.set b.toNat (a.take ((w64 (c + f)).toNat))) fun (i : List (List UInt8)) =>
     if InB (w64 (c + (d.length : Int))) a.length then
      lt1 ((a.drop ((w64 (c + (d.length : Int))).toNat)).take (a.length - (w64 (c + (d.length : Int))).toNat)) fun (j : List UInt8) =>
      some (.inl (j, (w64 (b + 1)), i))
     else none
    else none
   else none
 else
  some (.inr (a, b, e))
def G0 (c : List UInt8) (d : List UInt8) (i : Int) (e : Int) : Option (List (List UInt8)) :=
 if (e == 0) = true then
  some ([])
 else
  if (d == ([] : List UInt8)) = true then
   none
  else
   (if (decide (e < 0)) = true then
    (Jk c d).bind fun j =>
    some (w64 (j + 1))
   else
    some e : Option (Int)).bind fun k =>
   lt1 (mn64 k (w64 ((c.length : Int) + 1))) fun (a : Int) =>
   if Mk a a 16 then
    lt1 (List.replicate a.toNat ([] : List UInt8)) fun (l : List (List UInt8)) =>
    ((C6 (fun (v : List UInt8 × Int × List (List UInt8)) => Et d i a v.1 v.2.1 v.2.2) (c, 0, l)).bind fun (m, n, o) =>
    some (m, n, o) : Option (List UInt8 × Int × List (List UInt8))).bind fun (p, b, f) =>
    if InR b f.length then
     lt1 (f.set b.toNat p) fun (g : List (List UInt8)) =>
     if InB (w64 (b + 1)) g.length then
      some (g.take ((w64 (b + 1)).toNat))
     else none
    else none
   else none
def Jz (a : List UInt8) (b : List UInt8) : Option (List (List UInt8)) :=
 (G0 a b 0 (-1)).bind fun c =>
 some c
def D7 (a : List UInt8) (b : List UInt8) : Option (Bool) :=
 (if (decide ((a.length : Int) ≥ (b.length : Int))) = true then
  if InB (w64 ((a.length : Int) - (b.length : Int))) a.length then
   some (((a.drop ((w64 ((a.length : Int) - (b.length : Int))).toNat)).take (a.length - (w64 ((a.length : Int) - (b.length : Int))).toNat)) == b)
  else none
 else
  some false : Option (Bool)).bind fun c =>
 some c
def D5 (a : List UInt8) (b : List UInt8) : Option (List UInt8 × Bool) :=
 (D7 a b).bind fun c =>
 if (!c) = true then
  some (a, false)
 else
  if InB (w64 ((a.length : Int) - (b.length : Int))) a.length then
   lt1 (a.take ((w64 ((a.length : Int) - (b.length : Int))).toNat)) fun (d : List UInt8) =>
   some (d, true)
  else none
def F8 (b : List UInt8) (c : List UInt8) : Option (List UInt8 × Bool) :=
 (D5 b c).bind fun a =>
 some (a.1, a.2)
def E6 (b : List (List UInt8)) (c : List UInt8) (a : Int) : Option ((Int) ⊕ ((Unit) ⊕ ((Unit) ⊕ (Int)))) :=
 if (decide (a < (b.length : Int))) = true then
  if InR a b.length then
   if (c == (nth b a.toNat)) = true then
    ((some a).bind fun d => some (.inr d)).bind fun e => some (.inr (.inr e))
   else
    some (.inl (w64 (a + 1)))
  else none
 else
  some (.inr (.inl ()))
def Hr (a : List (List UInt8)) (b : List UInt8) : Option (Int) :=
 ((C6 (fun (v : Int) => E6 a b v) 0).bind fun x => match x with
 | .inl () =>
  some (.inl ())
 | .inr z => some z : Option ((Unit) ⊕ (Int))).bind fun x => match x with
 | .inl () =>
  some (-1)
 | .inr z => some z
def Bv (s : List UInt8) (n : Int) : Option (List Int × Bool) := Xc s n
def Fu (a : UInt8) : Option (UInt8) :=
 some (a ||| (32 : UInt8))
def C5 (b : List UInt8) (g : UInt64) (e : UInt64) (f : UInt64) (a : Int) : Option ((UInt64 × Int) ⊕ ((UInt64) ⊕ ((UInt64) ⊕ (UInt64 × Int)))) :=
 if (decide (a < (b.length : Int))) = true then
  (if InR a b.length then
   ((if (nth b a.toNat == (95 : UInt8)) = true then
    some ()
   else
    some () : Option (Unit)).bind fun _ =>
   (if (decide ((48 : UInt8) ≤ nth b a.toNat)) = true then
    some (decide (nth b a.toNat ≤ (57 : UInt8)))
   else
    some false : Option (Bool)).bind fun i =>
   if i = true then
    lt1 (nth b a.toNat - (48 : UInt8)) fun (j : UInt8) =>
    some (.inl j)
   else
    ((Fu (nth b a.toNat)).bind fun k =>
    if (decide ((97 : UInt8) ≤ k)) = true then
     (Fu (nth b a.toNat)).bind fun l =>
     some (decide (l ≤ (122 : UInt8)))
    else
     some false : Option (Bool)).bind fun m =>
    if m = true then
     (Fu (nth b a.toNat)).bind fun n =>
     lt1 ((n - (97 : UInt8)) + (10 : UInt8)) fun (o : UInt8) =>
     some (.inl o)
    else
     ((((some ((0 : UInt64), 2)).bind fun p => some (.inr p)).bind fun q => some (.inr (.inr q))).bind fun s => some (.inr s)).bind fun t => some (.inr t) : Option ((UInt8) ⊕ ((UInt64) ⊕ ((UInt64 × Int) ⊕ ((UInt64) ⊕ ((UInt64) ⊕ (UInt64 × Int))))))).bind fun x => match x with
   | .inl c =>
    if (decide (c ≥ (UInt8.ofInt 16))) = true then
     (((some ((0 : UInt64), 2)).bind fun u => some (.inr u)).bind fun v => some (.inr (.inr v))).bind fun w => some (.inr w)
    else
     if (decide (f ≥ g)) = true then
      (((some (e, 1)).bind fun y => some (.inr y)).bind fun aa => some (.inr (.inr aa))).bind fun ab => some (.inr ab)
     else
      lt1 (f * (UInt64.ofInt 16)) fun (d : UInt64) =>
      (if (decide ((d + c.toUInt64) < d)) = true then
       some true
      else
       some (decide ((d + c.toUInt64) > e)) : Option (Bool)).bind fun ac =>
      if ac = true then
       (((some (e, 1)).bind fun ad => some (.inr ad)).bind fun ae => some (.inr (.inr ae))).bind fun af => some (.inr af)
      else
       some (.inl (d + c.toUInt64))
   | .inr z => some z
  else none : Option ((UInt64) ⊕ ((UInt64 × Int) ⊕ ((UInt64) ⊕ ((UInt64) ⊕ (UInt64 × Int)))))).bind fun x => match x with
  | .inl ag =>
   some (.inl (ag, (w64 (a + 1))))
  | .inr z => some z
 else
  some (.inr (.inl f))
def Dn (a : List UInt8) : Option (UInt64 × Int) :=
 if (a == ([] : List UInt8)) = true then
  some ((0 : UInt64), 2)
 else
  (some () : Option (Unit)).bind fun () =>
  (some () : Option (Unit)).bind fun () =>
  (lt1 (1152921504606846976 : UInt64) fun (b : UInt64) =>
  some b : Option (UInt64)).bind fun c =>
  lt1 ((Yd (1 : UInt64) (UInt64.ofInt 8).toNat) - (1 : UInt64)) fun (d : UInt64) =>
  ((C6 (fun (v : UInt64 × Int) => C5 a c d v.1 v.2) ((0 : UInt64), 0)).bind fun x => match x with
  | .inl e =>
   some (.inl e)
  | .inr z => some z : Option ((UInt64) ⊕ (UInt64 × Int))).bind fun x => match x with
  | .inl f =>
   some (f, 0)
  | .inr z => some z
def F5 (s : List UInt8) (b c : Int) : Option (UInt64 × Bool) := if b = 16 ∧ c = 8 ∧ s.length ≤ 281474976710656 then (Dn s).bind fun r => if r.2 = 0 ∨ r.2 = 1 ∨ r.2 = 2 then some (r.1, r.2 != 0) else none else none
def Ht (b : List UInt8) (a : Int) (c : List UInt8) : Option ((Int × List UInt8) ⊕ ((List UInt8) ⊕ ((List UInt8) ⊕ (List UInt8 × Bool)))) :=
 if (decide (a < (b.length : Int))) = true then
  if InR a b.length then
   (if ((nth b a.toNat) == (63 : UInt8)) = true then
    if (decide ((w64 (a + 2)) ≥ (b.length : Int))) = true then
     (((some (([] : List UInt8), false)).bind fun e => some (.inr e)).bind fun f => some (.inr (.inr f))).bind fun g => some (.inr g)
    else
     if InB (w64 (a + 3)) b.length then
      if InB (w64 (a + 1)) ((w64 (a + 3)).toNat) then
       (F5 ((b.drop ((w64 (a + 1)).toNat)).take ((w64 (a + 3)).toNat - (w64 (a + 1)).toNat)) 16 8).bind fun d =>
       if (!!d.2) = true then
        (((some (([] : List UInt8), false)).bind fun i => some (.inr i)).bind fun j => some (.inr (.inr j))).bind fun k => some (.inr k)
       else
        some (.inl ((w64 (a + 2)), d.1.toUInt8))
      else none
     else none
   else
    some (.inl (a, (nth b a.toNat))) : Option ((Int × UInt8) ⊕ ((Int × List UInt8) ⊕ ((List UInt8) ⊕ ((List UInt8) ⊕ (List UInt8 × Bool)))))).bind fun x => match x with
   | .inl (l, m) =>
    (Ap ({ addr := (), buf := c } : Strings_Builder) m).bind fun n =>
    some (.inl ((w64 (l + 1)), n.2.buf))
   | .inr z => some z
  else none
 else
  some (.inr (.inl c))
def Io (b : List UInt8) : Option (List UInt8 × Bool) :=
 ((C6 (fun (v : Int × List UInt8) => Ht b v.1 v.2) (0, [])).bind fun x => match x with
 | .inl c =>
  some (.inl c)
 | .inr z => some z : Option ((List UInt8) ⊕ (List UInt8 × Bool))).bind fun x => match x with
 | .inl a =>
  if ¬a = [] then
   if Fv a.length 1 then
    some (a, true)
   else none
  else none
 | .inr z => some z
def Kn (s : List UInt8) : Option (List UInt8 × Bool) := if s = [] then some ([], true) else Io s
def Wd (a : Api_Item) (b : List UInt8) : Option (Bool × Api_Item) :=
 if (b == ([] : List UInt8)) = true then
  some (false, a)
 else
  (if InR 0 b.length then
   (F6 ([119, 112, 111, 110, 102, 116, 99, 100, 107, 103, 97] : List UInt8) (nth b 0)).bind fun u =>
   lt1 u fun (c : Int) =>
   if (c == 0) = true then
    if InB 1 b.length then
     (Bv ((b.drop 1).take (b.length - 1)) 1).bind fun f =>
     if f.2 = true then
      if InR 0 f.1.length then
       some (f.2, a.Ref.Railway, a.Ref.No, nth f.1 0, a.Place, a.Other, a.Number, a.From, a.To, a.Code, a.Dest, a.Class, a.Weight, a.Amount, a.Text, a.Parts)
      else none
     else
      some (f.2, a.Ref.Railway, a.Ref.No, a.Wagon, a.Place, a.Other, a.Number, a.From, a.To, a.Code, a.Dest, a.Class, a.Weight, a.Amount, a.Text, a.Parts)
    else none
   else
    if (c == 1) = true then
     if InB 1 b.length then
      (Bv ((b.drop 1).take (b.length - 1)) 1).bind fun g =>
      if g.2 = true then
       if InR 0 g.1.length then
        some (g.2, a.Ref.Railway, a.Ref.No, a.Wagon, nth g.1 0, a.Other, a.Number, a.From, a.To, a.Code, a.Dest, a.Class, a.Weight, a.Amount, a.Text, a.Parts)
       else none
      else
       some (g.2, a.Ref.Railway, a.Ref.No, a.Wagon, a.Place, a.Other, a.Number, a.From, a.To, a.Code, a.Dest, a.Class, a.Weight, a.Amount, a.Text, a.Parts)
     else none
    else
     if (c == 2) = true then
      if InB 1 b.length then
       (Bv ((b.drop 1).take (b.length - 1)) 1).bind fun i =>
       if i.2 = true then
        if InR 0 i.1.length then
         some (i.2, a.Ref.Railway, a.Ref.No, a.Wagon, a.Place, nth i.1 0, a.Number, a.From, a.To, a.Code, a.Dest, a.Class, a.Weight, a.Amount, a.Text, a.Parts)
        else none
       else
        some (i.2, a.Ref.Railway, a.Ref.No, a.Wagon, a.Place, a.Other, a.Number, a.From, a.To, a.Code, a.Dest, a.Class, a.Weight, a.Amount, a.Text, a.Parts)
      else none
     else
      if (c == 3) = true then
       if InB 1 b.length then
        (Bv ((b.drop 1).take (b.length - 1)) 1).bind fun j =>
        if j.2 = true then
         if InR 0 j.1.length then
          some (j.2, a.Ref.Railway, a.Ref.No, a.Wagon, a.Place, a.Other, nth j.1 0, a.From, a.To, a.Code, a.Dest, a.Class, a.Weight, a.Amount, a.Text, a.Parts)
         else none
        else
         some (j.2, a.Ref.Railway, a.Ref.No, a.Wagon, a.Place, a.Other, a.Number, a.From, a.To, a.Code, a.Dest, a.Class, a.Weight, a.Amount, a.Text, a.Parts)
       else none
      else
       if (c == 4) = true then
        if InB 1 b.length then
         (Bv ((b.drop 1).take (b.length - 1)) 1).bind fun k =>
         if k.2 = true then
          if InR 0 k.1.length then
           some (k.2, a.Ref.Railway, a.Ref.No, a.Wagon, a.Place, a.Other, a.Number, nth k.1 0, a.To, a.Code, a.Dest, a.Class, a.Weight, a.Amount, a.Text, a.Parts)
          else none
         else
          some (k.2, a.Ref.Railway, a.Ref.No, a.Wagon, a.Place, a.Other, a.Number, a.From, a.To, a.Code, a.Dest, a.Class, a.Weight, a.Amount, a.Text, a.Parts)
        else none
       else
        if (c == 5) = true then
         if InB 1 b.length then
          (Bv ((b.drop 1).take (b.length - 1)) 1).bind fun l =>
          if l.2 = true then
           if InR 0 l.1.length then
            some (l.2, a.Ref.Railway, a.Ref.No, a.Wagon, a.Place, a.Other, a.Number, a.From, nth l.1 0, a.Code, a.Dest, a.Class, a.Weight, a.Amount, a.Text, a.Parts)
           else none
          else
           some (l.2, a.Ref.Railway, a.Ref.No, a.Wagon, a.Place, a.Other, a.Number, a.From, a.To, a.Code, a.Dest, a.Class, a.Weight, a.Amount, a.Text, a.Parts)
         else none
        else
         if (c == 6) = true then
          if InB 1 b.length then
           (Bv ((b.drop 1).take (b.length - 1)) 1).bind fun m =>
           if m.2 = true then
            if InR 0 m.1.length then
             some (m.2, a.Ref.Railway, a.Ref.No, a.Wagon, a.Place, a.Other, a.Number, a.From, a.To, nth m.1 0, a.Dest, a.Class, a.Weight, a.Amount, a.Text, a.Parts)
            else none
           else
            some (m.2, a.Ref.Railway, a.Ref.No, a.Wagon, a.Place, a.Other, a.Number, a.From, a.To, a.Code, a.Dest, a.Class, a.Weight, a.Amount, a.Text, a.Parts)
          else none
         else
          if (c == 7) = true then
           if InB 1 b.length then
            (Bv ((b.drop 1).take (b.length - 1)) 1).bind fun n =>
            if n.2 = true then
             if InR 0 n.1.length then
              some (n.2, a.Ref.Railway, a.Ref.No, a.Wagon, a.Place, a.Other, a.Number, a.From, a.To, a.Code, nth n.1 0, a.Class, a.Weight, a.Amount, a.Text, a.Parts)
             else none
            else
             some (n.2, a.Ref.Railway, a.Ref.No, a.Wagon, a.Place, a.Other, a.Number, a.From, a.To, a.Code, a.Dest, a.Class, a.Weight, a.Amount, a.Text, a.Parts)
           else none
          else
           if (c == 8) = true then
            if InB 1 b.length then
             (Bv ((b.drop 1).take (b.length - 1)) 1).bind fun o =>
             if o.2 = true then
              if InR 0 o.1.length then
               some (o.2, a.Ref.Railway, a.Ref.No, a.Wagon, a.Place, a.Other, a.Number, a.From, a.To, a.Code, a.Dest, nth o.1 0, a.Weight, a.Amount, a.Text, a.Parts)
              else none
             else
              some (o.2, a.Ref.Railway, a.Ref.No, a.Wagon, a.Place, a.Other, a.Number, a.From, a.To, a.Code, a.Dest, a.Class, a.Weight, a.Amount, a.Text, a.Parts)
            else none
           else
            if (c == 9) = true then
             if InB 1 b.length then
              (Bv ((b.drop 1).take (b.length - 1)) 1).bind fun p =>
              if p.2 = true then
               if InR 0 p.1.length then
                some (p.2, a.Ref.Railway, a.Ref.No, a.Wagon, a.Place, a.Other, a.Number, a.From, a.To, a.Code, a.Dest, a.Class, nth p.1 0, a.Amount, a.Text, a.Parts)
               else none
              else
               some (p.2, a.Ref.Railway, a.Ref.No, a.Wagon, a.Place, a.Other, a.Number, a.From, a.To, a.Code, a.Dest, a.Class, a.Weight, a.Amount, a.Text, a.Parts)
             else none
            else
             if (c == 10) = true then
              if InB 1 b.length then
               (Bv ((b.drop 1).take (b.length - 1)) 1).bind fun q =>
               if q.2 = true then
                if InR 0 q.1.length then
                 some (q.2, a.Ref.Railway, a.Ref.No, a.Wagon, a.Place, a.Other, a.Number, a.From, a.To, a.Code, a.Dest, a.Class, a.Weight, nth q.1 0, a.Text, a.Parts)
                else none
               else
                some (q.2, a.Ref.Railway, a.Ref.No, a.Wagon, a.Place, a.Other, a.Number, a.From, a.To, a.Code, a.Dest, a.Class, a.Weight, a.Amount, a.Text, a.Parts)
              else none
             else
              if (decide (c ≥ 0)) = true then
               if InB 1 b.length then
                (Bv ((b.drop 1).take (b.length - 1)) 1).bind fun s =>
                if s.2 = true then
                 none
                else
                 some (s.2, a.Ref.Railway, a.Ref.No, a.Wagon, a.Place, a.Other, a.Number, a.From, a.To, a.Code, a.Dest, a.Class, a.Weight, a.Amount, a.Text, a.Parts)
               else none
              else
               if InR 0 b.length then
                if ((nth b 0) == (114 : UInt8)) = true then
                 if InB 1 b.length then
                  (Bv ((b.drop 1).take (b.length - 1)) 2).bind fun e =>
                  if e.2 = true then
                   if InR 0 e.1.length then
                    if InR 1 e.1.length then
                     some (e.2, nth e.1 0, nth e.1 1, a.Wagon, a.Place, a.Other, a.Number, a.From, a.To, a.Code, a.Dest, a.Class, a.Weight, a.Amount, a.Text, a.Parts)
                    else none
                   else none
                  else
                   some (e.2, a.Ref.Railway, a.Ref.No, a.Wagon, a.Place, a.Other, a.Number, a.From, a.To, a.Code, a.Dest, a.Class, a.Weight, a.Amount, a.Text, a.Parts)
                 else none
                else
                 if InR 0 b.length then
                  if ((nth b 0) == (120 : UInt8)) = true then
                   if InB 1 b.length then
                    (Kn ((b.drop 1).take (b.length - 1))).bind fun t =>
                    some (t.2, a.Ref.Railway, a.Ref.No, a.Wagon, a.Place, a.Other, a.Number, a.From, a.To, a.Code, a.Dest, a.Class, a.Weight, a.Amount, t.1, a.Parts)
                   else none
                  else
                   if InR 0 b.length then
                    if ((nth b 0) == (113 : UInt8)) = true then
                     if InB 1 b.length then
                      (Bv ((b.drop 1).take (b.length - 1)) 3).bind fun d =>
                      if d.2 = true then
                       if InR 0 d.1.length then
                        if InR 1 d.1.length then
                         if InR 2 d.1.length then
                          if Fv (a.Parts.length + 1) 24 then
                           lt1 (a.Parts ++ ([({ Kind := nth d.1 0, Serial := nth d.1 1, Fitted := (nth d.1 2 == 1) } : Api_Part)] : List Api_Part)) fun (v : List Api_Part) =>
                           some (d.2, a.Ref.Railway, a.Ref.No, a.Wagon, a.Place, a.Other, a.Number, a.From, a.To, a.Code, a.Dest, a.Class, a.Weight, a.Amount, a.Text, v)
                          else none
                         else none
                        else none
                       else none
                      else
                       some (d.2, a.Ref.Railway, a.Ref.No, a.Wagon, a.Place, a.Other, a.Number, a.From, a.To, a.Code, a.Dest, a.Class, a.Weight, a.Amount, a.Text, a.Parts)
                     else none
                    else
                     some (false, a.Ref.Railway, a.Ref.No, a.Wagon, a.Place, a.Other, a.Number, a.From, a.To, a.Code, a.Dest, a.Class, a.Weight, a.Amount, a.Text, a.Parts)
                   else none
                 else none
               else none
  else none : Option (Bool × Int × Int × Int × Int × Int × Int × Int × Int × Int × Int × Int × Int × Int × List UInt8 × List Api_Part)).bind fun (w, x, y, z, aa, ab, ac, ad, ae, af, ag, ah, ai, aj, ak, al) =>
  some (w, ({ Kind := a.Kind, Ref := ({ Railway := x, No := y } : Api_Ref), Wagon := z, Place := aa, Other := ab, Number := ac, From := ad, To := ae, Code := af, Dest := ag, Class := ah, Weight := ai, Amount := aj, Text := ak, Parts := al } : Api_Item))
def Kq (b : List (List UInt8)) (c : Int) (d : Int) (e : Int) (f : Int) (g : Int) (i : Int) (j : Int) (k : Int) (l : Int) (m : Int) (n : Int) (o : Int) (p : Int) (q : Int) (s : Int) (t : List UInt8) (u : List Api_Part) : Option ((Int × Int × Int × Int × Int × Int × Int × Int × Int × Int × Int × Int × Int × Int × Int × List UInt8 × List Api_Part) ⊕ ((Int × Int × Int × Int × Int × Int × Int × Int × Int × Int × Int × Int × Int × Int × List UInt8 × List Api_Part) ⊕ ((Int × Int × Int × Int × Int × Int × Int × Int × Int × Int × Int × Int × Int × Int × List UInt8 × List Api_Part) ⊕ (Api_Item × Int)))) :=
 lt1 (decide (c < (((b.drop 1).take (b.length - 1)).length : Int))) fun (v : Bool) =>
 if v = true then
  if InR c (((b.drop 1).take (b.length - 1)).length) then
   lt1 (nth ((b.drop 1).take (b.length - 1)) c.toNat) fun (w : List UInt8) =>
   (Wd ({ Kind := d, Ref := ({ Railway := e, No := f } : Api_Ref), Wagon := g, Place := i, Other := j, Number := k, From := l, To := m, Code := n, Dest := o, Class := p, Weight := q, Amount := s, Text := t, Parts := u } : Api_Item) w).bind fun a =>
   lt1 a.2.Parts fun (x : List Api_Part) =>
   if (!a.1) = true then
    ((some (({ Kind := 0, Ref := ({ Railway := 0, No := 0 } : Api_Ref), Wagon := 0, Place := 0, Other := 0, Number := 0, From := 0, To := 0, Code := 0, Dest := 0, Class := 0, Weight := 0, Amount := 0, Text := ([] : List UInt8), Parts := [] } : Api_Item), 4)).bind fun y => some (.inr y)).bind fun z => some (.inr (.inr z))
   else
    some (.inl ((w64 (c + 1)), a.2.Kind, a.2.Ref.Railway, a.2.Ref.No, a.2.Wagon, a.2.Place, a.2.Other, a.2.Number, a.2.From, a.2.To, a.2.Code, a.2.Dest, a.2.Class, a.2.Weight, a.2.Amount, a.2.Text, x))
  else none
 else
  some (.inr (.inl (d, e, f, g, i, j, k, l, m, n, o, p, q, s, t, u)))
def My (b : List UInt8) : Option (Api_Item × Int) :=
 if (decide ((b.length : Int) > 65536)) = true then
  some (({ Kind := 0, Ref := ({ Railway := 0, No := 0 } : Api_Ref), Wagon := 0, Place := 0, Other := 0, Number := 0, From := 0, To := 0, Code := 0, Dest := 0, Class := 0, Weight := 0, Amount := 0, Text := ([] : List UInt8), Parts := [] } : Api_Item), 2)
 else
  (F8 b ([39] : List UInt8)).bind fun y =>
  (Jz y.1 ([43] : List UInt8)).bind fun a =>
  if InR 0 a.length then
   (Hr glob0.l (nth a 0)).bind fun aa =>
   (if InB 1 a.length then
    (C6 (fun (v : Int × Int × Int × Int × Int × Int × Int × Int × Int × Int × Int × Int × Int × Int × Int × List UInt8 × List Api_Part) => Kq a v.1 v.2.1 v.2.2.1 v.2.2.2.1 v.2.2.2.2.1 v.2.2.2.2.2.1 v.2.2.2.2.2.2.1 v.2.2.2.2.2.2.2.1 v.2.2.2.2.2.2.2.2.1 v.2.2.2.2.2.2.2.2.2.1 v.2.2.2.2.2.2.2.2.2.2.1 v.2.2.2.2.2.2.2.2.2.2.2.1 v.2.2.2.2.2.2.2.2.2.2.2.2.1 v.2.2.2.2.2.2.2.2.2.2.2.2.2.1 v.2.2.2.2.2.2.2.2.2.2.2.2.2.2.1 v.2.2.2.2.2.2.2.2.2.2.2.2.2.2.2.1 v.2.2.2.2.2.2.2.2.2.2.2.2.2.2.2.2) (0, aa, 0, 0, 0, 0, 0, 0, 0, 0, 0, 0, 0, 0, 0, ([] : List UInt8), [])).bind fun x => match x with
    | .inl (ab, ac, ad, ae, af, ag, ah, ai, aj, ak, al, am, an, ao, ap, aq) =>
     some (.inl (ab, ac, ad, ae, af, ag, ah, ai, aj, ak, al, am, an, ao, ap, aq))
    | .inr z => some z
   else none : Option ((Int × Int × Int × Int × Int × Int × Int × Int × Int × Int × Int × Int × Int × Int × List UInt8 × List Api_Part) ⊕ (Api_Item × Int))).bind fun x => match x with
   | .inl (c, d, e, f, g, i, j, k, m, n, o, p, q, s, t, u) =>
    (Jg ({ Kind := c, Ref := ({ Railway := d, No := e } : Api_Ref), Wagon := f, Place := g, Other := i, Number := j, From := k, To := m, Code := n, Dest := o, Class := p, Weight := q, Amount := s, Text := t, Parts := u } : Api_Item)).bind fun w =>
    (if (w.2 != 0) = true then
     some true
    else
     some (!(w.1 == b)) : Option (Bool)).bind fun ar =>
    if ar = true then
     some (({ Kind := 0, Ref := ({ Railway := 0, No := 0 } : Api_Ref), Wagon := 0, Place := 0, Other := 0, Number := 0, From := 0, To := 0, Code := 0, Dest := 0, Class := 0, Weight := 0, Amount := 0, Text := ([] : List UInt8), Parts := [] } : Api_Item), 4)
    else
     some (({ Kind := c, Ref := ({ Railway := d, No := e } : Api_Ref), Wagon := f, Place := g, Other := i, Number := j, From := k, To := m, Code := n, Dest := o, Class := p, Weight := q, Amount := s, Text := t, Parts := u } : Api_Item), 0)
   | .inr z => some z
  else none
def Hu (a : Api_Item) : Option (Bool) :=
 (if (decide ((a.Text.length : Int) ≤ 2000)) = true then
  some (decide ((a.Parts.length : Int) ≤ 20))
 else
  some false : Option (Bool)).bind fun b =>
 some b
def Bh (a : Int) : Option (Api_Value) :=
 some (Api_Value.mk 1 a ([]) ([]))
def P6 (a : List UInt8) : Option (Api_Value) :=
 some (Api_Value.mk 2 0 a ([]))
def edi_list_cnil  : Option (Api_Value) :=
 some (Api_Value.mk 3 0 ([]) ([]))
def Ig (a : List Api_Value) : Option (Api_Value) :=
 some (Api_Value.mk 3 0 ([]) a)
def Ed (a : List Api_Value) : Option (Api_Value) :=
 some (Api_Value.mk 3 0 ([]) a)
def D1 (b : Api_Item) (a : Int) (c : List Api_Value) : Option ((Int × List Api_Value) ⊕ (List Api_Value)) :=
 if (decide (a < (b.Parts.length : Int))) = true then
  if InR a b.Parts.length then
   lt1 ((nth b.Parts a.toNat).Kind) fun (e : Int) =>
   lt1 ((nth b.Parts a.toNat).Serial) fun (f : Int) =>
   lt1 ((nth b.Parts a.toNat).Fitted) fun (g : Bool) =>
   (if g = true then
    some 1
   else
    some 0 : Option (Int)).bind fun i =>
   (Bh e).bind fun j =>
   (Bh f).bind fun k =>
   (Bh i).bind fun l =>
   (Ed ([j, k, l] : List Api_Value)).bind fun d =>
   if Fv (c.length + 1) 64 then
    lt1 (c ++ ([(Api_Value.mk d.Kind d.N ([]) d.L)] : List Api_Value)) fun (m : List Api_Value) =>
    some (.inl ((w64 (a + 1)), m))
   else none
  else none
 else
  some (.inr c)
def En (a : Api_Item) : Option (Api_Value) :=
 (Bh a.Kind).bind fun s =>
 (Bh a.Ref.Railway).bind fun t =>
 (Bh a.Ref.No).bind fun u =>
 (Ed ([t, u] : List Api_Value)).bind fun b =>
 lt1 ([s, (Api_Value.mk b.Kind b.N ([]) b.L)] : List Api_Value) fun (d : List Api_Value) =>
 ((Bh a.Wagon).bind fun w =>
 if Fv (d.length + 1) 64 then
  lt1 (d ++ ([w] : List Api_Value)) fun (e : List Api_Value) =>
  (Bh a.Place).bind fun x =>
  if Fv (e.length + 1) 64 then
   lt1 (e ++ ([x] : List Api_Value)) fun (f : List Api_Value) =>
   (Bh a.Other).bind fun y =>
   if Fv (f.length + 1) 64 then
    lt1 (f ++ ([y] : List Api_Value)) fun (g : List Api_Value) =>
    (Bh a.Number).bind fun z =>
    if Fv (g.length + 1) 64 then
     lt1 (g ++ ([z] : List Api_Value)) fun (i : List Api_Value) =>
     (Bh a.From).bind fun aa =>
     if Fv (i.length + 1) 64 then
      lt1 (i ++ ([aa] : List Api_Value)) fun (j : List Api_Value) =>
      (Bh a.To).bind fun ab =>
      if Fv (j.length + 1) 64 then
       lt1 (j ++ ([ab] : List Api_Value)) fun (k : List Api_Value) =>
       (Bh a.Code).bind fun ac =>
       if Fv (k.length + 1) 64 then
        lt1 (k ++ ([ac] : List Api_Value)) fun (l : List Api_Value) =>
        (Bh a.Dest).bind fun ad =>
        if Fv (l.length + 1) 64 then
         lt1 (l ++ ([ad] : List Api_Value)) fun (m : List Api_Value) =>
         (Bh a.Class).bind fun ae =>
         if Fv (m.length + 1) 64 then
          lt1 (m ++ ([ae] : List Api_Value)) fun (n : List Api_Value) =>
          (Bh a.Weight).bind fun af =>
          if Fv (n.length + 1) 64 then
           lt1 (n ++ ([af] : List Api_Value)) fun (o : List Api_Value) =>
           (Bh a.Amount).bind fun ag =>
           if Fv (o.length + 1) 64 then
            lt1 (o ++ ([ag] : List Api_Value)) fun (ah : List Api_Value) =>
            some ah
           else none
          else none
         else none
        else none
       else none
      else none
     else none
    else none
   else none
  else none
 else none : Option (List Api_Value)).bind fun p =>
 edi_list_cnil.bind fun q =>
 ((C6 (fun (v : Int × List Api_Value) => D1 a v.1 v.2) (0, [])).bind fun ai =>
 some ai : Option (List Api_Value)).bind fun aj =>
 (P6 a.Text).bind fun ak =>
 if Fv (p.length + 2) 64 then
  (Ig (p ++ ([ak, (Api_Value.mk q.Kind q.N ([]) aj)] : List Api_Value))).bind fun c =>
  lt1 c.L fun (al : List Api_Value) =>
  some (Api_Value.mk c.Kind c.N ([]) al)
 else none
def Hp (a : List UInt8) (b : List UInt8) : Option (Int) := R7 a b
def Ff (a : Int) : Option (Bool) :=
 some (a != a)
def Dv (a : Int) (b : Int) : Option (Int) :=
 (Ff a).bind fun d =>
 (Ff b).bind fun c =>
 if d = true then
  if c = true then
   some 0
  else
   some (-1)
 else
  if c = true then
   some 1
  else
   if (decide (a < b)) = true then
    some (-1)
   else
    if (decide (a > b)) = true then
     some 1
    else
     some 0
def Fl (a : List UInt8) (b : List UInt8) : Option (Int) :=
 (Hp a b).bind fun c =>
 some c
def B1 (s1_3072 : List Api_Value) (s2_3073 : List Api_Value) (c : Api_Value → Api_Value → Option (Int)) (a : Int) : Option ((Int) ⊕ ((Unit) ⊕ ((Unit) ⊕ (Int)))) :=
 if (decide (a < (s1_3072.length : Int))) = true then
  if InR a s1_3072.length then
   lt1 ((nth s1_3072 a.toNat).Kind) fun (d : Int) =>
   lt1 ((nth s1_3072 a.toNat).N) fun (e : Int) =>
   lt1 ((nth s1_3072 a.toNat).B) fun (f : List UInt8) =>
   lt1 ((nth s1_3072 a.toNat).L) fun (g : List Api_Value) =>
   if (decide (a ≥ (s2_3073.length : Int))) = true then
    ((some 1).bind fun i => some (.inr i)).bind fun j => some (.inr (.inr j))
   else
    if InR a s2_3073.length then
     lt1 ((nth s2_3073 a.toNat).Kind) fun (k : Int) =>
     lt1 ((nth s2_3073 a.toNat).N) fun (l : Int) =>
     lt1 ((nth s2_3073 a.toNat).B) fun (m : List UInt8) =>
     lt1 ((nth s2_3073 a.toNat).L) fun (n : List Api_Value) =>
     (c (Api_Value.mk d e f g) (Api_Value.mk k l m n)).bind fun b =>
     if (b != 0) = true then
      ((some b).bind fun o => some (.inr o)).bind fun p => some (.inr (.inr p))
     else
      some (.inl (w64 (a + 1)))
    else none
  else none
 else
  some (.inr (.inl ()))
def Cn (b : Api_Value → Api_Value → Option (Int)) (s1_3072 : List Api_Value) (s2_3073 : List Api_Value) (a : Api_Value → Api_Value → Option (Int)) : Option (Int) :=
 ((C6 (fun (v : Int) => B1 s1_3072 s2_3073 a v) 0).bind fun x => match x with
 | .inl () =>
  some (.inl ())
 | .inr z => some z : Option ((Unit) ⊕ (Int))).bind fun x => match x with
 | .inl () =>
  if (decide ((s1_3072.length : Int) < (s2_3073.length : Int))) = true then
   some (-1)
  else
   some 0
 | .inr z => some z
def D2 (rec_ : Api_Value → Api_Value → Option (Int)) (a : Api_Value) (b : Api_Value) : Option (Int) :=
 (Dv a.Kind b.Kind).bind fun c =>
 if (c != 0) = true then
  some c
 else
  if (a.Kind == 1) = true then
   (Dv a.N b.N).bind fun d =>
   some d
  else
   if (a.Kind == 2) = true then
    (Fl a.B b.B).bind fun e =>
    some e
   else
    if (a.Kind == 3) = true then
     (Cn rec_ a.L b.L rec_).bind fun f =>
     some f
    else
     some 0
def D6 (n : Nat) : Api_Value → Api_Value → Option (Int) := match n with
 | 0 => fun _ _ => none
 | n + 1 => D2 (D6 n)
def Jy (a : Api_Value) (b : Api_Value) : Option (Int) := D6 18446744073709551616 a b
def Hw (b : Api_Value) (c : Api_Value) (rec_ : Api_Value → Api_Value → Option (Bool)) (a : Int) : Option ((Int) ⊕ ((Unit) ⊕ ((Unit) ⊕ (Bool)))) :=
 if (decide (a < (b.L.length : Int))) = true then
  if InR a b.L.length then
   if InR a c.L.length then
    (rec_ (nth b.L a.toNat) (nth c.L a.toNat)).bind fun d =>
    if (!d) = true then
     ((some false).bind fun e => some (.inr e)).bind fun f => some (.inr (.inr f))
    else
     some (.inl (w64 (a + 1)))
   else none
  else none
 else
  some (.inr (.inl ()))
def I8 (rec_ : Api_Value → Api_Value → Option (Bool)) (a : Api_Value) (b : Api_Value) : Option (Bool) :=
 (if (a.Kind != b.Kind) = true then
  some true
 else
  (Jy a b).bind fun c =>
  if (c != 0) = true then
   some true
  else
   if (a.N != b.N) = true then
    some true
   else
    if ((a.B.length : Int) != (b.B.length : Int)) = true then
     some true
    else
     some ((a.L.length : Int) != (b.L.length : Int)) : Option (Bool)).bind fun d =>
 if d = true then
  some false
 else
  ((C6 (fun (v : Int) => Hw a b rec_ v) 0).bind fun x => match x with
  | .inl () =>
   some (.inl ())
  | .inr z => some z : Option ((Unit) ⊕ (Bool))).bind fun x => match x with
  | .inl () =>
   some true
  | .inr z => some z
def Hb (n : Nat) : Api_Value → Api_Value → Option (Bool) := match n with
 | 0 => fun _ _ => none
 | n + 1 => I8 (Hb n)
def P4 (a : Api_Value) (b : Api_Value) : Option (Bool) := Hb 18446744073709551616 a b
def C9 (c : Api_Value) (a : Int) (d : List Api_Part) : Option ((Int × List Api_Part) ⊕ ((List Api_Part) ⊕ ((List Api_Part) ⊕ (Api_Item × Int)))) :=
 if (decide (a < (((nth c.L 14).L).length : Int))) = true then
  if InR a (((nth c.L 14).L).length) then
   lt1 ((nth ((nth c.L 14).L) a.toNat).Kind) fun (i : Int) =>
   lt1 ((nth ((nth c.L 14).L) a.toNat).N) fun (j : Int) =>
   lt1 ((nth ((nth c.L 14).L) a.toNat).B) fun (k : List UInt8) =>
   lt1 ((nth ((nth c.L 14).L) a.toNat).L) fun (b : List Api_Value) =>
   if ((b.length : Int) != 3) = true then
    ((some (({ Kind := 0, Ref := ({ Railway := 0, No := 0 } : Api_Ref), Wagon := 0, Place := 0, Other := 0, Number := 0, From := 0, To := 0, Code := 0, Dest := 0, Class := 0, Weight := 0, Amount := 0, Text := ([] : List UInt8), Parts := [] } : Api_Item), 10)).bind fun e => some (.inr e)).bind fun f => some (.inr (.inr f))
   else
    if InR 0 b.length then
     if InR 1 b.length then
      if InR 2 b.length then
       if Fv (d.length + 1) 24 then
        lt1 (d ++ ([({ Kind := (nth b 0).N, Serial := (nth b 1).N, Fitted := ((nth b 2).N == 1) } : Api_Part)] : List Api_Part)) fun (g : List Api_Part) =>
        some (.inl ((w64 (a + 1)), g))
       else none
      else none
     else none
    else none
  else none
 else
  some (.inr (.inl d))
def B6 (a : Api_Value) : Option (Api_Item × Int) :=
 (if ((a.L.length : Int) != 15) = true then
  some true
 else
  if InR 1 a.L.length then
   some ((((nth a.L 1).L).length : Int) != 2)
  else none : Option (Bool)).bind fun e =>
 if e = true then
  some (({ Kind := 0, Ref := ({ Railway := 0, No := 0 } : Api_Ref), Wagon := 0, Place := 0, Other := 0, Number := 0, From := 0, To := 0, Code := 0, Dest := 0, Class := 0, Weight := 0, Amount := 0, Text := ([] : List UInt8), Parts := [] } : Api_Item), 10)
 else
  if InR 0 a.L.length then
   if InR 1 a.L.length then
    if InR 0 (((nth a.L 1).L).length) then
     if InR 1 a.L.length then
      if InR 1 (((nth a.L 1).L).length) then
       lt1 ((nth ((nth a.L 1).L) 0).N) fun (b : Int) =>
       lt1 ((nth ((nth a.L 1).L) 1).N) fun (c : Int) =>
       (if InR 2 a.L.length then
        if InR 3 a.L.length then
         if InR 4 a.L.length then
          if InR 5 a.L.length then
           if InR 6 a.L.length then
            if InR 7 a.L.length then
             if InR 8 a.L.length then
              if InR 9 a.L.length then
               if InR 10 a.L.length then
                if InR 11 a.L.length then
                 if InR 12 a.L.length then
                  some ()
                 else none
                else none
               else none
              else none
             else none
            else none
           else none
          else none
         else none
        else none
       else none : Option (Unit)).bind fun () =>
       if InR 13 a.L.length then
        (if InR 14 a.L.length then
         (C6 (fun (v : Int × List Api_Part) => C9 a v.1 v.2) (0, [])).bind fun x => match x with
         | .inl f =>
          some (.inl f)
         | .inr z => some z
        else none : Option ((List Api_Part) ⊕ (Api_Item × Int))).bind fun x => match x with
        | .inl d =>
         (En ({ Kind := (nth a.L 0).N, Ref := ({ Railway := b, No := c } : Api_Ref), Wagon := (nth a.L 2).N, Place := (nth a.L 3).N, Other := (nth a.L 4).N, Number := (nth a.L 5).N, From := (nth a.L 6).N, To := (nth a.L 7).N, Code := (nth a.L 8).N, Dest := (nth a.L 9).N, Class := (nth a.L 10).N, Weight := (nth a.L 11).N, Amount := (nth a.L 12).N, Text := (nth a.L 13).B, Parts := d } : Api_Item)).bind fun g =>
         (P4 g a).bind fun i =>
         if (!i) = true then
          some (({ Kind := 0, Ref := ({ Railway := 0, No := 0 } : Api_Ref), Wagon := 0, Place := 0, Other := 0, Number := 0, From := 0, To := 0, Code := 0, Dest := 0, Class := 0, Weight := 0, Amount := 0, Text := ([] : List UInt8), Parts := [] } : Api_Item), 10)
         else
          some (({ Kind := (nth a.L 0).N, Ref := ({ Railway := b, No := c } : Api_Ref), Wagon := (nth a.L 2).N, Place := (nth a.L 3).N, Other := (nth a.L 4).N, Number := (nth a.L 5).N, From := (nth a.L 6).N, To := (nth a.L 7).N, Code := (nth a.L 8).N, Dest := (nth a.L 9).N, Class := (nth a.L 10).N, Weight := (nth a.L 11).N, Amount := (nth a.L 12).N, Text := (nth a.L 13).B, Parts := d } : Api_Item), 0)
        | .inr z => some z
       else none
      else none
     else none
    else none
   else none
  else none
def I6 (a : Int) (b : Int) : Option (Int) :=
 if (decide (a < b)) = true then
  some (-1)
 else
  if (decide (a > b)) = true then
   some 1
  else
   some 0
def C0 (b : List UInt8) (c : List UInt8) (a : Int) : Option ((Int) ⊕ ((Unit) ⊕ ((Unit) ⊕ (Int)))) :=
 (if (decide (a < (b.length : Int))) = true then
  some (decide (a < (c.length : Int)))
 else
  some false : Option (Bool)).bind fun d =>
 if d = true then
  if InR a b.length then
   if InR a c.length then
    if (nth b a.toNat != nth c a.toNat) = true then
     if InR a b.length then
      if InR a c.length then
       (I6 ((nth b a.toNat).toNat : Int) ((nth c a.toNat).toNat : Int)).bind fun e =>
       ((some e).bind fun f => some (.inr f)).bind fun g => some (.inr (.inr g))
      else none
     else none
    else
     some (.inl (w64 (a + 1)))
   else none
  else none
 else
  some (.inr (.inl ()))
def Ek (a : List UInt8) (b : List UInt8) : Option (Int) :=
 ((C6 (fun (v : Int) => C0 a b v) 0).bind fun x => match x with
 | .inl () =>
  some (.inl ())
 | .inr z => some z : Option ((Unit) ⊕ (Int))).bind fun x => match x with
 | .inl () =>
  (I6 (a.length : Int) (b.length : Int)).bind fun c =>
  some c
 | .inr z => some z
def F4 (b : Api_Value) (c : Api_Value) (rec_ : Api_Value → Api_Value → Option (Bool)) (a : Int) : Option ((Int) ⊕ ((Unit) ⊕ ((Unit) ⊕ (Bool)))) :=
 if (decide (a < (b.L.length : Int))) = true then
  if InR a b.L.length then
   if InR a c.L.length then
    (rec_ (nth b.L a.toNat) (nth c.L a.toNat)).bind fun d =>
    if (!d) = true then
     ((some false).bind fun e => some (.inr e)).bind fun f => some (.inr (.inr f))
    else
     some (.inl (w64 (a + 1)))
   else none
  else none
 else
  some (.inr (.inl ()))
def I0 (rec_ : Api_Value → Api_Value → Option (Bool)) (a : Api_Value) (b : Api_Value) : Option (Bool) :=
 (if (a.Kind != b.Kind) = true then
  some true
 else
  if (a.N != b.N) = true then
   some true
  else
   (Ek a.B b.B).bind fun c =>
   if (c != 0) = true then
    some true
   else
    some ((a.L.length : Int) != (b.L.length : Int)) : Option (Bool)).bind fun d =>
 if d = true then
  some false
 else
  ((C6 (fun (v : Int) => F4 a b rec_ v) 0).bind fun x => match x with
  | .inl () =>
   some (.inl ())
  | .inr z => some z : Option ((Unit) ⊕ (Bool))).bind fun x => match x with
  | .inl () =>
   some true
  | .inr z => some z
def Di (n : Nat) : Api_Value → Api_Value → Option (Bool) := match n with
 | 0 => fun _ _ => none
 | n + 1 => I0 (Di n)
def Wi (a : Api_Value) (b : Api_Value) : Option (Bool) := Di 18446744073709551616 a b
def Hv (a : Api_Item) (b : UInt8) : Option (Int) :=
 if (b == (119 : UInt8)) = true then
  some a.Wagon
 else
  if (b == (112 : UInt8)) = true then
   some a.Place
  else
   if (b == (111 : UInt8)) = true then
    some a.Other
   else
    if (b == (110 : UInt8)) = true then
     some a.Number
    else
     if (b == (102 : UInt8)) = true then
      some a.From
     else
      if (b == (116 : UInt8)) = true then
       some a.To
      else
       if (b == (99 : UInt8)) = true then
        some a.Code
       else
        if (b == (100 : UInt8)) = true then
         some a.Dest
        else
         if (b == (107 : UInt8)) = true then
          some a.Class
         else
          if (b == (103 : UInt8)) = true then
           some a.Weight
          else
           some a.Amount
def Dq (b : List Api_Part) (c : List Api_Part) (a : Int) : Option ((Int) ⊕ ((Unit) ⊕ ((Unit) ⊕ (Bool)))) :=
 if (decide (a < (b.length : Int))) = true then
  if InR a b.length then
   if InR a c.length then
    lt1 (!(((nth b a.toNat).Kind == (nth c a.toNat).Kind) && (((nth b a.toNat).Serial == (nth c a.toNat).Serial) && ((nth b a.toNat).Fitted == (nth c a.toNat).Fitted)))) fun (d : Bool) =>
    if d = true then
     ((some false).bind fun e => some (.inr e)).bind fun f => some (.inr (.inr f))
    else
     some (.inl (w64 (a + 1)))
   else none
  else none
 else
  some (.inr (.inl ()))
def Fa (a : List Api_Part) (b : List Api_Part) : Option (Bool) :=
 if ((a.length : Int) != (b.length : Int)) = true then
  some false
 else
  ((C6 (fun (v : Int) => Dq a b v) 0).bind fun x => match x with
  | .inl () =>
   some (.inl ())
  | .inr z => some z : Option ((Unit) ⊕ (Bool))).bind fun x => match x with
  | .inl () =>
   some true
  | .inr z => some z
def Hf (b : Api_Item) (c : Api_Item) (a : Int) : Option ((Int) ⊕ ((Unit) ⊕ ((Unit) ⊕ (Bool)))) :=
 if (decide (a < 11)) = true then
  if InR a (([119, 112, 111, 110, 102, 116, 99, 100, 107, 103, 97] : List UInt8).length) then
   (Hv b (nth ([119, 112, 111, 110, 102, 116, 99, 100, 107, 103, 97] : List UInt8) a.toNat)).bind fun d =>
   if InR a (([119, 112, 111, 110, 102, 116, 99, 100, 107, 103, 97] : List UInt8).length) then
    (Hv c (nth ([119, 112, 111, 110, 102, 116, 99, 100, 107, 103, 97] : List UInt8) a.toNat)).bind fun e =>
    if (d != e) = true then
     ((some false).bind fun f => some (.inr f)).bind fun g => some (.inr (.inr g))
    else
     some (.inl (w64 (a + 1)))
   else none
  else none
 else
  some (.inr (.inl ()))
def Fs (a : Api_Item) (b : Api_Item) : Option (Bool) :=
 ((C6 (fun (v : Int) => Hf a b v) 0).bind fun x => match x with
 | .inl () =>
  some (.inl ())
 | .inr z => some z : Option ((Unit) ⊕ (Bool))).bind fun x => match x with
 | .inl () =>
  (if (a.Kind == b.Kind) = true then
   if ((a.Ref.Railway == b.Ref.Railway) && (a.Ref.No == b.Ref.No)) = true then
    if (a.Text == b.Text) = true then
     (Fa a.Parts b.Parts).bind fun c =>
     some c
    else
     some false
   else
    some false
  else
   some false : Option (Bool)).bind fun d =>
  some d
 | .inr z => some z
def Bz (a : UInt64) (b : Int) : Option ((UInt64 × Int) ⊕ (Int)) :=
 if (decide (a > (0 : UInt64))) = true then
  lt1 (Wf a (8 : UInt64).toNat) fun (c : UInt64) =>
  some (.inl (c, (w64 (b + 1))))
 else
  some (.inr b)
def Ce (a : UInt64) : Option (Int) :=
 ((C6 (fun (v : UInt64 × Int) => Bz v.1 v.2) (a, 0)).bind fun b =>
 some b : Option (Int)).bind fun c =>
 some c
def B0 (d : Int) (b : Int) (a : Int) (c : List UInt8) : Option ((Int × List UInt8) ⊕ (List UInt8)) :=
 if (decide (a < b)) = true then
  if Xn (w64 (8 * (w64 ((w64 (b - 1)) - a)))) then
   if Fv (c.length + 1) 1 then
    lt1 (c ++ ([(Wf (UInt64.ofInt d) ((w64 (8 * (w64 ((w64 (b - 1)) - a)))).toNat)).toUInt8] : List UInt8)) fun (e : List UInt8) =>
    some (.inl ((w64 (a + 1)), e))
   else none
  else none
 else
  some (.inr c)
def D0 (b : List UInt8) (a : Int) : Option (List UInt8) :=
 (Ce (UInt64.ofInt a)).bind fun c =>
 lt1 (UInt8.ofInt (w64 (32 + c))) fun (e : UInt8) =>
 (if (decide (a < 0)) = true then
  (Ce (~~~(UInt64.ofInt a))).bind fun d =>
  lt1 (UInt8.ofInt (w64 (31 - d))) fun (f : UInt8) =>
  some (d, f)
 else
  some (c, e) : Option (Int × UInt8)).bind fun (g, i) =>
 if Fv (b.length + 1) 1 then
  lt1 (b ++ ([i] : List UInt8)) fun (j : List UInt8) =>
  ((C6 (fun (v : Int × List UInt8) => B0 a g v.1 v.2) (0, j)).bind fun k =>
  some k : Option (List UInt8)).bind fun l =>
  some l
 else none
def Bk (b : Api_Value) (a : Int) (c : List UInt8) : Option ((Int × List UInt8) ⊕ (List UInt8)) :=
 if (decide (a < (b.B.length : Int))) = true then
  (if InR a b.B.length then
   if Fv (c.length + 1) 1 then
    lt1 (c ++ ([nth b.B a.toNat] : List UInt8)) fun (d : List UInt8) =>
    if (nth b.B a.toNat == (0 : UInt8)) = true then
     if Fv (d.length + 1) 1 then
      lt1 (d ++ ([(255 : UInt8)] : List UInt8)) fun (e : List UInt8) =>
      some e
     else none
    else
     some d
   else none
  else none : Option (List UInt8)).bind fun f =>
  some (.inl ((w64 (a + 1)), f))
 else
  some (.inr c)
def Bj (b : Api_Value) (rec_ : (List UInt8) → Api_Value → Option (List UInt8)) (a : Int) (c : List UInt8) : Option ((Int × List UInt8) ⊕ (List UInt8)) :=
 if (decide (a < (b.L.length : Int))) = true then
  if InR a b.L.length then
   lt1 ((nth b.L a.toNat).Kind) fun (d : Int) =>
   lt1 ((nth b.L a.toNat).N) fun (e : Int) =>
   lt1 ((nth b.L a.toNat).B) fun (f : List UInt8) =>
   lt1 ((nth b.L a.toNat).L) fun (g : List Api_Value) =>
   (rec_ c (Api_Value.mk d e f g)).bind fun i =>
   some (.inl ((w64 (a + 1)), i))
  else none
 else
  some (.inr c)
def C4 (rec_ : (List UInt8) → Api_Value → Option (List UInt8)) (a : List UInt8) (b : Api_Value) : Option (List UInt8) :=
 (if (b.Kind == 1) = true then
  (D0 a b.N).bind fun e =>
  (some e).bind fun f => some (.inr f)
 else
  if (b.Kind == 2) = true then
   if Fv (a.length + 1) 1 then
    lt1 (a ++ ([(48 : UInt8)] : List UInt8)) fun (g : List UInt8) =>
    ((C6 (fun (v : Int × List UInt8) => Bk b v.1 v.2) (0, g)).bind fun i =>
    some i : Option (List UInt8)).bind fun c =>
    if Fv (c.length + 2) 1 then
     lt1 (c ++ ([(0 : UInt8), (0 : UInt8)] : List UInt8)) fun (j : List UInt8) =>
     (some j).bind fun k => some (.inr k)
    else none
   else none
  else
   some (.inl ()) : Option ((Unit) ⊕ (List UInt8))).bind fun x => match x with
 | .inl () =>
  if Fv (a.length + 1) 1 then
   lt1 (a ++ ([(64 : UInt8)] : List UInt8)) fun (l : List UInt8) =>
   ((C6 (fun (v : Int × List UInt8) => Bj b rec_ v.1 v.2) (0, l)).bind fun m =>
   some m : Option (List UInt8)).bind fun d =>
   if Fv (d.length + 1) 1 then
    lt1 (d ++ ([(0 : UInt8)] : List UInt8)) fun (n : List UInt8) =>
    some n
   else none
  else none
 | .inr z => some z
def Cc (n : Nat) : (List UInt8) → Api_Value → Option (List UInt8) := match n with
 | 0 => fun _ _ => none
 | n + 1 => C4 (Cc n)
def Gb (a : List UInt8) (b : Api_Value) : Option (List UInt8) := Cc 18446744073709551616 a b
def Ci (b : Api_Value) (rec_ : Api_Value → Option (Int × Bool)) (c : Int) (a : Int) : Option ((Int × Int) ⊕ ((Int) ⊕ ((Int) ⊕ ((Unit) ⊕ (Int × Bool))))) :=
 if (decide (a < (b.L.length : Int))) = true then
  if InR a b.L.length then
   lt1 ((nth b.L a.toNat).Kind) fun (e : Int) =>
   lt1 ((nth b.L a.toNat).N) fun (f : Int) =>
   lt1 ((nth b.L a.toNat).B) fun (g : List UInt8) =>
   lt1 ((nth b.L a.toNat).L) fun (i : List Api_Value) =>
   (rec_ (Api_Value.mk e f g i)).bind fun d =>
   if (!d.2) = true then
    (((some (0, false)).bind fun j => some (.inr j)).bind fun k => some (.inr k)).bind fun l => some (.inr (.inr l))
   else
    some (.inl ((Pm c d.1), (w64 (a + 1))))
  else none
 else
  some (.inr (.inl c))
def Ft (rec_ : Api_Value → Option (Int × Bool)) (a : Api_Value) : Option (Int × Bool) :=
 (if (a.Kind == 1) = true then
  (if ((a.B.length : Int) == 0) = true then
   some ((a.L.length : Int) == 0)
  else
   some false : Option (Bool)).bind fun b =>
  (some (0, b)).bind fun c => some (.inr c)
 else
  if (a.Kind == 2) = true then
   (if (a.N == 0) = true then
    some ((a.L.length : Int) == 0)
   else
    some false : Option (Bool)).bind fun d =>
   (some (0, d)).bind fun e => some (.inr e)
  else
   if (a.Kind == 3) = true then
    (if (a.N != 0) = true then
     some true
    else
     some ((a.B.length : Int) != 0) : Option (Bool)).bind fun f =>
    if f = true then
     (some (0, false)).bind fun g => some (.inr g)
    else
     ((C6 (fun (v : Int × Int) => Ci a rec_ v.1 v.2) (0, 0)).bind fun x => match x with
     | .inl i =>
      some (.inl i)
     | .inr z => some z : Option ((Int) ⊕ ((Unit) ⊕ (Int × Bool)))).bind fun x => match x with
     | .inl j =>
      (some ((w64 (j + 1)), true)).bind fun k => some (.inr k)
     | .inr z => some z
   else
    some (.inl ()) : Option ((Unit) ⊕ (Int × Bool))).bind fun x => match x with
 | .inl () =>
  some (0, false)
 | .inr z => some z
def Ea (n : Nat) : Api_Value → Option (Int × Bool) := match n with
 | 0 => fun _ => none
 | n + 1 => Ft (Ea n)
def Gf (a : Api_Value) : Option (Int × Bool) := Ea 18446744073709551616 a
def Ex (a : Api_Value) : Option (List UInt8 × Int) :=
 (Gf a).bind fun b =>
 if (!b.2) = true then
  some ([], 10)
 else
  if (decide (b.1 > 16)) = true then
   some ([], 2)
  else
   (Gb ([]) a).bind fun c =>
   if (decide ((c.length : Int) > 65536)) = true then
    some ([], 2)
   else
    some (c, 0)
noncomputable def Ka (r : (UInt8 × Codec_decoder) ⊕ (Int × Codec_decoder)) : Out := match r with
 | .inl r => .ret (u8 r.1) [.box [.sl false (L cU8 r.2.b)] false]
 | .inr r => .pan (.iface 150 (.int .i64 r.1)) [.box [.sl false (L cU8 r.2.b)] false]
def A1 (a : Codec_decoder) : Option ((UInt8 × Codec_decoder) ⊕ (Int × Codec_decoder)) :=
 if ((a.b.length : Int) == 0) = true then
  some (.inr (5, a))
 else
  if InR 0 a.b.length then
   if InB 1 a.b.length then
    lt1 ((a.b.drop 1).take (a.b.length - 1)) fun (c : List UInt8) =>
    some (.inl (nth a.b 0, ({ b := c } : Codec_decoder)))
   else none
  else none
noncomputable def Iw (r : (Api_Value × Codec_decoder) ⊕ (Int × Codec_decoder)) : Out := match r with
 | .inl r => .ret (.agg [i64 r.1.Kind, i64 r.1.N, .sl false (L cU8 r.1.B), .sl false (L cApi_Value r.1.L)]) [.box [.sl false (L cU8 r.2.b)] false]
 | .inr r => .pan (.iface 150 (.int .i64 r.1)) [.box [.sl false (L cU8 r.2.b)] false]
def Aw (e : Int) (c : UInt8) (f : UInt64) (d : Int) (g : List UInt8) : Option ((UInt64 × Int × List UInt8) ⊕ ((UInt64 × List UInt8) ⊕ ((UInt64 × List UInt8) ⊕ ((Api_Value × Codec_decoder) ⊕ (Int × Codec_decoder))))) :=
 if (decide (d < e)) = true then
  (A1 ({ b := g } : Codec_decoder)).bind fun j =>
  match j with
  | .inl a =>
   (if (d == 0) = true then
    if ((a.1 ^^^ c) == (0 : UInt8)) = true then
     some true
    else
     if (e == 8) = true then
      some (decide ((a.1 ^^^ c) > (127 : UInt8)))
     else
      some false
   else
    some false : Option (Bool)).bind fun k =>
   if k = true then
    ((some (.inr (4, a.2))).bind fun l => some (.inr l)).bind fun m => some (.inr (.inr m))
   else
    lt1 ((Yd f (8 : UInt64).toNat) ||| (a.1 ^^^ c).toUInt64) fun (n : UInt64) =>
    some (.inl (n, (w64 (d + 1)), a.2.b))
  | .inr i =>
   ((some (.inr (i.1, i.2))).bind fun o => some (.inr o)).bind fun p => some (.inr (.inr p))
 else
  some (.inr (.inl (f, g)))
def B8 (d : Codec_decoder) (e : Int) (a : UInt8) : Option ((Api_Value × Codec_decoder) ⊕ (Int × Codec_decoder)) :=
 ((C6 (fun (v : UInt64 × Int × List UInt8) => Aw e a v.1 v.2.1 v.2.2) ((0 : UInt64), 0, d.b)).bind fun x => match x with
 | .inl (f, g) =>
  some (.inl (f, g))
 | .inr z => some z : Option ((UInt64 × List UInt8) ⊕ ((Api_Value × Codec_decoder) ⊕ (Int × Codec_decoder)))).bind fun x => match x with
 | .inl (c, i) =>
  (if (a != (0 : UInt8)) = true then
   some (~~~c)
  else
   some c : Option (UInt64)).bind fun j =>
  some (.inl ((Api_Value.mk 1 (w64 (j.toNat : Int)) ([]) ([])), ({ b := i } : Codec_decoder)))
 | .inr z => some z
noncomputable def Kf (r : (Api_Value × Codec_decoder) ⊕ (Int × Codec_decoder)) : Out := match r with
 | .inl r => .ret (.agg [i64 r.1.Kind, i64 r.1.N, .sl false (L cU8 r.1.B), .sl false (L cApi_Value r.1.L)]) [.box [.sl false (L cU8 r.2.b)] false]
 | .inr r => .pan (.iface 150 (.int .i64 r.1)) [.box [.sl false (L cU8 r.2.b)] false]
def An (g : List UInt8) (a : List UInt8) : Option ((List UInt8 × List UInt8) ⊕ ((Api_Value × Codec_decoder) ⊕ (Int × Codec_decoder))) :=
 (A1 ({ b := g } : Codec_decoder)).bind fun i =>
 match i with
 | .inl d =>
  if (d.1 != (0 : UInt8)) = true then
   if Fv (a.length + 1) 1 then
    lt1 (a ++ ([d.1] : List UInt8)) fun (j : List UInt8) =>
    some (.inl (d.2.b, j))
   else none
  else
   (A1 d.2).bind fun k =>
   match k with
   | .inl c =>
    if (c.1 == (0 : UInt8)) = true then
     (some (.inl ((Api_Value.mk 2 0 a ([])), c.2))).bind fun l => some (.inr l)
    else
     if (c.1 == (255 : UInt8)) = true then
      if Fv (a.length + 1) 1 then
       lt1 (a ++ ([(0 : UInt8)] : List UInt8)) fun (m : List UInt8) =>
       some (.inl (c.2.b, m))
      else none
     else
      (some (.inr (4, c.2))).bind fun n => some (.inr n)
   | .inr e =>
    (some (.inr (e.1, e.2))).bind fun o => some (.inr o)
 | .inr f =>
  (some (.inr (f.1, f.2))).bind fun p => some (.inr p)
def Dy (a : Codec_decoder) : Option ((Api_Value × Codec_decoder) ⊕ (Int × Codec_decoder)) :=
 (C6 (fun (v : List UInt8 × List UInt8) => An v.1 v.2) (a.b, [])).bind fun z => some z
noncomputable def Cv (r : (Api_Value × Codec_decoder) ⊕ (Int × Codec_decoder)) : Out := match r with
 | .inl r => .ret (.agg [i64 r.1.Kind, i64 r.1.N, .sl false (L cU8 r.1.B), .sl false (L cApi_Value r.1.L)]) [.box [.sl false (L cU8 r.2.b)] false]
 | .inr r => .pan (.iface 150 (.int .i64 r.1)) [.box [.sl false (L cU8 r.2.b)] false]
def Bc (rec_ : Codec_decoder → UInt8 → Option ((Api_Value × Codec_decoder) ⊕ (Int × Codec_decoder))) (c : UInt8) (d : List UInt8) (a : List Api_Value) : Option ((UInt8 × List UInt8 × List Api_Value) ⊕ ((List UInt8 × List Api_Value) ⊕ ((List UInt8 × List Api_Value) ⊕ ((Unit) ⊕ ((Api_Value × Codec_decoder) ⊕ (Int × Codec_decoder)))))) :=
 if (c != (0 : UInt8)) = true then
  (rec_ ({ b := d } : Codec_decoder) c).bind fun j =>
  match j with
  | .inl e =>
   if Fv (a.length + 1) 64 then
    lt1 (a ++ ([e.1] : List Api_Value)) fun (k : List Api_Value) =>
    (A1 e.2).bind fun l =>
    match l with
    | .inl f =>
     some (.inl (f.1, f.2.b, k))
    | .inr g =>
     (((some (.inr (g.1, g.2))).bind fun m => some (.inr m)).bind fun n => some (.inr n)).bind fun o => some (.inr (.inr o))
   else none
  | .inr i =>
   (((some (.inr (i.1, i.2))).bind fun p => some (.inr p)).bind fun q => some (.inr q)).bind fun s => some (.inr (.inr s))
 else
  some (.inr (.inl (d, a)))
def A3 (rec_ : Codec_decoder → UInt8 → Option ((Api_Value × Codec_decoder) ⊕ (Int × Codec_decoder))) (c : Codec_decoder) (a : UInt8) : Option ((Api_Value × Codec_decoder) ⊕ (Int × Codec_decoder)) :=
 ((if (decide (a ≥ (32 : UInt8))) = true then
  some (decide (a ≤ (40 : UInt8)))
 else
  some false : Option (Bool)).bind fun m =>
 if m = true then
  (B8 c ((a - (32 : UInt8)).toNat : Int) (0 : UInt8)).bind fun n =>
  match n with
  | .inl d =>
   (some (.inl (d.1, d.2))).bind fun o => some (.inr o)
  | .inr e =>
   (some (.inr (e.1, e.2))).bind fun p => some (.inr p)
 else
  (if (decide (a < (32 : UInt8))) = true then
   some (decide (a ≥ (23 : UInt8)))
  else
   some false : Option (Bool)).bind fun q =>
  if q = true then
   (B8 c (((31 : UInt8) - a).toNat : Int) (255 : UInt8)).bind fun s =>
   match s with
   | .inl f =>
    (some (.inl (f.1, f.2))).bind fun t => some (.inr t)
   | .inr g =>
    (some (.inr (g.1, g.2))).bind fun u => some (.inr u)
  else
   if (a == (48 : UInt8)) = true then
    (Dy c).bind fun w =>
    match w with
    | .inl i =>
     (some (.inl (i.1, i.2))).bind fun y => some (.inr y)
    | .inr j =>
     (some (.inr (j.1, j.2))).bind fun aa => some (.inr aa)
   else
    if (a == (64 : UInt8)) = true then
     ((A1 c).bind fun ab =>
     match ab with
     | .inl k =>
      (C6 (fun (v : UInt8 × List UInt8 × List Api_Value) => Bc rec_ v.1 v.2.1 v.2.2) (k.1, k.2.b, [])).bind fun x => match x with
      | .inl (ac, ad) =>
       some (.inl (ac, ad))
      | .inr z => some z
     | .inr l =>
      ((some (.inr (l.1, l.2))).bind fun ae => some (.inr ae)).bind fun af => some (.inr af) : Option ((List UInt8 × List Api_Value) ⊕ ((Unit) ⊕ ((Api_Value × Codec_decoder) ⊕ (Int × Codec_decoder))))).bind fun x => match x with
     | .inl (ag, ah) =>
      (some (.inl ((Api_Value.mk 3 0 ([]) ah), ({ b := ag } : Codec_decoder)))).bind fun ai => some (.inr ai)
     | .inr z => some z
    else
     some (.inl ()) : Option ((Unit) ⊕ ((Api_Value × Codec_decoder) ⊕ (Int × Codec_decoder)))).bind fun x => match x with
 | .inl () =>
  some (.inr (4, c))
 | .inr z => some z
def Ax (n : Nat) : Codec_decoder → UInt8 → Option ((Api_Value × Codec_decoder) ⊕ (Int × Codec_decoder)) := match n with
 | 0 => fun _ _ => none
 | n + 1 => A3 (Ax n)
def Do (a : Codec_decoder) (b : UInt8) : Option ((Api_Value × Codec_decoder) ⊕ (Int × Codec_decoder)) := Ax 18446744073709551616 a b
def Cy (c : List UInt8) : Option (Api_Value × Int) :=
 if (decide ((c.length : Int) > 65536)) = true then
  some ((Api_Value.mk 0 0 ([]) ([])), 2)
 else
  (A1 ({ b := c } : Codec_decoder)).bind fun e =>
  match e with
  | .inl d =>
   (Do d.2 d.1).bind fun f =>
   match f with
   | .inl a =>
    if (decide ((a.2.b.length : Int) > 0)) = true then
     some ((Api_Value.mk 0 0 ([]) ([])), 4)
    else
     (Gf a.1).bind fun g =>
     if (decide (g.1 > 16)) = true then
      some ((Api_Value.mk 0 0 ([]) ([])), 2)
     else
      some (a.1, 0)
   | .inr i =>
    some ((Api_Value.mk 0 0 ([]) ([])), i.1)
  | .inr j =>
   some ((Api_Value.mk 0 0 ([]) ([])), j.1)
def J8 (a : Api_Place) : Option (Bool) :=
 (if (decide (a.Kind < 1)) = true then
  some true
 else
  if (decide (a.Kind > 5)) = true then
   some true
  else
   if (decide (a.Railway < 0)) = true then
    some true
   else
    some (decide (a.Railway ≥ 16)) : Option (Bool)).bind fun b =>
 if b = true then
  some false
 else
  if (a.Kind != 3) = true then
   some (a.Other == (-1))
  else
   (if (decide (a.Other ≥ 0)) = true then
    if (decide (a.Other < 16)) = true then
     some (a.Other != a.Railway)
    else
     some false
   else
    some false : Option (Bool)).bind fun c =>
   some c
def Gy (b : Api_Network) (a : Int) : Option ((Int) ⊕ ((Unit) ⊕ ((Unit) ⊕ (Int)))) :=
 if (decide (a < (b.Places.length : Int))) = true then
  if InR a b.Places.length then
   lt1 ((nth b.Places a.toNat).Kind) fun (c : Int) =>
   lt1 ((nth b.Places a.toNat).Railway) fun (d : Int) =>
   lt1 ((nth b.Places a.toNat).Other) fun (e : Int) =>
   (J8 ({ Kind := c, Railway := d, Other := e } : Api_Place)).bind fun f =>
   if (!f) = true then
    ((some 1).bind fun g => some (.inr g)).bind fun i => some (.inr (.inr i))
   else
    some (.inl (w64 (a + 1)))
  else none
 else
  some (.inr (.inl ()))
def Gv (a : Api_Network) : Option ((Unit) ⊕ (Unit)) :=
 if (decide (0 < (a.Edges.length : Int))) = true then
  if InR 0 a.Edges.length then
   lt1 ((nth a.Edges 0).Railway) fun (b : Int) =>
   lt1 ((nth a.Edges 0).Minutes) fun (c : Int) =>
   none
  else none
 else
  some (.inr ())
def Jv (a : Api_Network) : Option (Int) :=
 lt1 (a.Places.length : Int) fun (b : Int) =>
 (if (decide (b > 512)) = true then
  some true
 else
  some (decide ((a.Edges.length : Int) > 2048)) : Option (Bool)).bind fun c =>
 if c = true then
  some 2
 else
  ((C6 (fun (v : Int) => Gy a v) 0).bind fun x => match x with
  | .inl () =>
   some (.inl ())
  | .inr z => some z : Option ((Unit) ⊕ (Int))).bind fun x => match x with
  | .inl () =>
   ((C6 (fun (_ : Unit) => Gv a ) ()).bind fun () =>
   some () : Option (Unit)).bind fun () =>
   some 0
  | .inr z => some z
def G8 (a : Int) (b : Int) (c : Int) : Option (Bool) :=
 (if (decide (a ≥ b)) = true then
  some (decide (a ≤ c))
 else
  some false : Option (Bool)).bind fun d =>
 some d
def Mn (f : Api_Fleet) : Option Int := if f.Types.length = 0 ∧ f.Wagons.length = 0 ∧ f.Swaps.length = 0 ∧ f.Washes.length = 0 then some 0 else none
def E9 (a : Api_Pool) (c : Bool) (b : Int) : Option ((Bool × Int) ⊕ (Bool)) :=
 if (decide (b < (a.Readers.length : Int))) = true then
  if InR b a.Readers.length then
   lt1 ((nth a.Readers b.toNat).Place) fun (f : Int) =>
   lt1 ((nth a.Readers b.toNat).Low) fun (d : Int) =>
   lt1 ((nth a.Readers b.toNat).High) fun (e : Int) =>
   (if c = true then
    some true
   else
    (G8 f 0 (w64 ((a.Network.Places.length : Int) - 1))).bind fun g =>
    if (!g) = true then
     some true
    else
     if (decide (d < (-1000))) = true then
      some true
     else
      if (decide (d > e)) = true then
       some true
      else
       some (decide (e > 1000)) : Option (Bool)).bind fun i =>
   some (.inl (i, (w64 (b + 1))))
  else none
 else
  some (.inr c)
def Fg (a : Api_Pool) (d : Bool) (b : Int) : Option ((Bool × Int) ⊕ (Bool)) :=
 if (decide (b < (a.Shippers.length : Int))) = true then
  if InR b a.Shippers.length then
   lt1 ((nth a.Shippers b.toNat).Place) fun (c : Int) =>
   (if d = true then
    some true
   else
    (G8 c 0 (w64 ((a.Network.Places.length : Int) - 1))).bind fun e =>
    if (!e) = true then
     some true
    else
     if InR c a.Network.Places.length then
      some ((nth a.Network.Places c.toNat).Kind != 4)
     else none : Option (Bool)).bind fun f =>
   some (.inl (f, (w64 (b + 1))))
  else none
 else
  some (.inr d)
def Fd (a : Api_Pool) (c : Bool) (b : Int) : Option ((Bool × Int) ⊕ (Bool)) :=
 if (decide (b < (a.Fleet.Wagons.length : Int))) = true then
  if InR b a.Fleet.Wagons.length then
   lt1 ((nth a.Fleet.Wagons b.toNat).Type_) fun (f : Int) =>
   lt1 ((nth a.Fleet.Wagons b.toNat).Owner) fun (g : Int) =>
   lt1 ((nth a.Fleet.Wagons b.toNat).Home) fun (d : Int) =>
   lt1 ((nth a.Fleet.Wagons b.toNat).Built) fun (i : Int) =>
   lt1 ((nth a.Fleet.Wagons b.toNat).Worth) fun (j : Int) =>
   (if c = true then
    some true
   else
    some (decide (d ≥ (a.Network.Places.length : Int))) : Option (Bool)).bind fun e =>
   some (.inl (e, (w64 (b + 1))))
  else none
 else
  some (.inr c)
def E7 (b : Api_Pool) (c : Int) (d : Bool) (a : Int) : Option ((Bool × Int) ⊕ (Bool)) :=
 if (decide (a < (b.Network.Places.length : Int))) = true then
  if InR a b.Network.Places.length then
   lt1 ((nth b.Network.Places a.toNat).Kind) fun (i : Int) =>
   lt1 ((nth b.Network.Places a.toNat).Railway) fun (e : Int) =>
   lt1 ((nth b.Network.Places a.toNat).Other) fun (f : Int) =>
   (if d = true then
    some true
   else
    if (decide (e ≥ c)) = true then
     some true
    else
     some (decide (f ≥ c)) : Option (Bool)).bind fun g =>
   some (.inl (g, (w64 (a + 1))))
  else none
 else
  some (.inr d)
def Fk (b : Api_Pool) (d : Int) (c : Bool) (a : Int) : Option ((Bool × Int) ⊕ (Bool)) :=
 if (decide (a < (b.Network.Edges.length : Int))) = true then
  if InR a b.Network.Edges.length then
   lt1 ((nth b.Network.Edges a.toNat).A) fun (g : Int) =>
   lt1 ((nth b.Network.Edges a.toNat).B) fun (i : Int) =>
   lt1 ((nth b.Network.Edges a.toNat).Railway) fun (e : Int) =>
   lt1 ((nth b.Network.Edges a.toNat).Minutes) fun (j : Int) =>
   lt1 ((nth b.Network.Edges a.toNat).Km) fun (k : Int) =>
   (if c = true then
    some true
   else
    some (decide (e ≥ d)) : Option (Bool)).bind fun f =>
   some (.inl (f, (w64 (a + 1))))
  else none
 else
  some (.inr c)
def Fb (a : Api_Pool) : Option ((Unit) ⊕ (Unit)) :=
 if (decide (0 < (a.Railways.length : Int))) = true then
  if InR 0 a.Railways.length then
   lt1 ((nth a.Railways 0).Key) fun (b : UInt64) =>
   lt1 (((((nth a.Railways 0).Calendar).Open).1).From) fun (c : Int) =>
   lt1 (((((nth a.Railways 0).Calendar).Open).1).To) fun (d : Int) =>
   lt1 (((((nth a.Railways 0).Calendar).Open).2.1).From) fun (e : Int) =>
   lt1 (((((nth a.Railways 0).Calendar).Open).2.1).To) fun (f : Int) =>
   lt1 (((((nth a.Railways 0).Calendar).Open).2.2.1).From) fun (g : Int) =>
   lt1 (((((nth a.Railways 0).Calendar).Open).2.2.1).To) fun (i : Int) =>
   lt1 (((((nth a.Railways 0).Calendar).Open).2.2.2.1).From) fun (j : Int) =>
   lt1 (((((nth a.Railways 0).Calendar).Open).2.2.2.1).To) fun (k : Int) =>
   lt1 (((((nth a.Railways 0).Calendar).Open).2.2.2.2.1).From) fun (l : Int) =>
   lt1 (((((nth a.Railways 0).Calendar).Open).2.2.2.2.1).To) fun (m : Int) =>
   lt1 (((((nth a.Railways 0).Calendar).Open).2.2.2.2.2.1).From) fun (n : Int) =>
   lt1 (((((nth a.Railways 0).Calendar).Open).2.2.2.2.2.1).To) fun (o : Int) =>
   lt1 (((((nth a.Railways 0).Calendar).Open).2.2.2.2.2.2).From) fun (p : Int) =>
   lt1 (((((nth a.Railways 0).Calendar).Open).2.2.2.2.2.2).To) fun (q : Int) =>
   lt1 (((nth a.Railways 0).Calendar).Holidays) fun (s : List Int) =>
   none
  else none
 else
  some (.inr ())
def Hs (a : Api_Pool) : Option (Int) :=
 (Jv a.Network).bind fun c =>
 if (c != 0) = true then
  some c
 else
  (Mn a.Fleet).bind fun d =>
  if (d != 0) = true then
   some d
  else
   (if (decide ((a.Readers.length : Int) > 256)) = true then
    some true
   else
    if (decide ((a.Shippers.length : Int) > 256)) = true then
     some true
    else
     some (decide ((a.Railways.length : Int) > 16)) : Option (Bool)).bind fun e =>
   if e = true then
    some 2
   else
    lt1 (a.Railways.length : Int) fun (b : Int) =>
    ((C6 (fun (v : Bool × Int) => E9 a v.1 v.2) ((b == 0), 0)).bind fun f =>
    some f : Option (Bool)).bind fun g =>
    ((C6 (fun (v : Bool × Int) => Fg a v.1 v.2) (g, 0)).bind fun i =>
    some i : Option (Bool)).bind fun j =>
    ((C6 (fun (v : Bool × Int) => Fd a v.1 v.2) (j, 0)).bind fun k =>
    some k : Option (Bool)).bind fun l =>
    ((C6 (fun (v : Bool × Int) => E7 a b v.1 v.2) (l, 0)).bind fun m =>
    some m : Option (Bool)).bind fun n =>
    ((C6 (fun (v : Bool × Int) => Fk a b v.1 v.2) (n, 0)).bind fun o =>
    some o : Option (Bool)).bind fun p =>
    ((C6 (fun (_ : Unit) => Fb a ) ()).bind fun () =>
    some () : Option (Unit)).bind fun () =>
    if p = true then
     some 1
    else
     some 0
def Rp (a : Api_Pool) (c : Api_Item) : Option (Int) :=
 (Hs ({ Network := a.Network, Fleet := a.Fleet, Readers := a.Readers, Shippers := a.Shippers, Railways := a.Railways } : Api_Pool)).bind fun b =>
 if (b != 0) = true then
  some b
 else
  none
def Ee (a : Api_Item) (b : List UInt8) : Option (Bool) :=
 (Jg a).bind fun c =>
 (My b).bind fun d =>
 (if (c.2 == 0) = true then
  if (c.1 == b) = true then
   if (d.2 == 0) = true then
    (Fs d.1 a).bind fun e =>
    some e
   else
    some false
  else
   some false
 else
  some false : Option (Bool)).bind fun f =>
 some f
def Cx (b : List UInt8) : Option (Bool) :=
 (My b).bind fun a =>
 (if (a.2 == 4) = true then
  (Fs a.1 ({ Kind := 0, Ref := ({ Railway := 0, No := 0 } : Api_Ref), Wagon := 0, Place := 0, Other := 0, Number := 0, From := 0, To := 0, Code := 0, Dest := 0, Class := 0, Weight := 0, Amount := 0, Text := ([] : List UInt8), Parts := [] } : Api_Item)).bind fun c =>
  some c
 else
  some false : Option (Bool)).bind fun d =>
 some d
def law11_sane  : Option (Bool) :=
 lt1 ([({ Kind := 1, Serial := 5, Fitted := false } : Api_Part), ({ Kind := 0, Serial := (-2), Fitted := true } : Api_Part)] : List Api_Part) fun (a : List Api_Part) =>
 ((Ee ({ Kind := 1, Ref := ({ Railway := 0, No := 0 } : Api_Ref), Wagon := 12, Place := 0, Other := 3, Number := 0, From := 100, To := 0, Code := 0, Dest := 0, Class := 0, Weight := 0, Amount := 0, Text := ([] : List UInt8), Parts := [] } : Api_Item) ([82, 69, 65, 68, 43, 119, 49, 50, 43, 111, 51, 43, 102, 49, 48, 48, 39] : List UInt8)).bind fun c =>
 if c = true then
  (Ee ({ Kind := 14, Ref := ({ Railway := 2, No := 7 } : Api_Ref), Wagon := 0, Place := 0, Other := 0, Number := 0, From := 0, To := 0, Code := 0, Dest := 0, Class := 0, Weight := 0, Amount := 0, Text := ([] : List UInt8), Parts := [] } : Api_Item) ([82, 69, 84, 82, 65, 67, 84, 43, 114, 50, 46, 55, 39] : List UInt8)).bind fun d =>
  if d = true then
   (Ee ({ Kind := 11, Ref := ({ Railway := 0, No := 0 } : Api_Ref), Wagon := 0, Place := 0, Other := 0, Number := 1, From := 0, To := 0, Code := 0, Dest := 0, Class := 0, Weight := 0, Amount := 0, Text := ([97, 43, 98, 10] : List UInt8), Parts := [] } : Api_Item) ([84, 65, 82, 73, 70, 70, 43, 110, 49, 43, 120, 97, 63, 50, 98, 98, 63, 48, 97, 39] : List UInt8)).bind fun e =>
   if e = true then
    (Ee ({ Kind := 10, Ref := ({ Railway := 0, No := 0 } : Api_Ref), Wagon := 0, Place := 0, Other := 0, Number := 0, From := 0, To := 0, Code := 0, Dest := 0, Class := 0, Weight := 0, Amount := 0, Text := ([] : List UInt8), Parts := a } : Api_Item) ([82, 69, 67, 65, 76, 76, 43, 113, 49, 46, 53, 46, 48, 43, 113, 48, 46, 45, 50, 46, 49, 39] : List UInt8)).bind fun f =>
    some f
   else
    some false
  else
   some false
 else
  some false : Option (Bool)).bind fun g =>
 (Jg ({ Kind := 16, Ref := ({ Railway := 0, No := 0 } : Api_Ref), Wagon := 0, Place := 0, Other := 0, Number := 0, From := 0, To := 0, Code := 0, Dest := 0, Class := 0, Weight := 0, Amount := 0, Text := ([] : List UInt8), Parts := [] } : Api_Item)).bind fun i =>
 (B6 (Api_Value.mk 1 1 ([]) ([]))).bind fun j =>
 ((Cx ([82, 69, 65, 68, 43, 119, 48, 49, 50, 39] : List UInt8)).bind fun k =>
 if k = true then
  (Cx ([82, 69, 65, 68, 43, 119, 48, 39] : List UInt8)).bind fun l =>
  if l = true then
   (Cx ([82, 69, 65, 68, 43, 111, 51, 43, 119, 49, 50, 39] : List UInt8)).bind fun m =>
   if m = true then
    (Cx ([82, 69, 65, 68, 43, 119, 49, 50] : List UInt8)).bind fun n =>
    if n = true then
     (Cx ([82, 69, 65, 68, 43, 119, 49, 50, 39, 32] : List UInt8)).bind fun o =>
     if o = true then
      (Cx ([84, 65, 82, 73, 70, 70, 43, 120, 63, 52, 49, 39] : List UInt8)).bind fun p =>
      if p = true then
       (Cx ([] : List UInt8)).bind fun q =>
       some q
      else
       some false
     else
      some false
    else
     some false
   else
    some false
  else
   some false
 else
  some false : Option (Bool)).bind fun s =>
 (En ({ Kind := 10, Ref := ({ Railway := 0, No := 0 } : Api_Ref), Wagon := 0, Place := 0, Other := 0, Number := 0, From := 0, To := 0, Code := 0, Dest := 0, Class := 0, Weight := 0, Amount := 0, Text := ([] : List UInt8), Parts := a } : Api_Item)).bind fun t =>
 (B6 t).bind fun b =>
 (if g = true then
  if (i.2 == 110) = true then
   if (j.2 == 10) = true then
    if s = true then
     if (b.2 == 0) = true then
      (Fs b.1 ({ Kind := 10, Ref := ({ Railway := 0, No := 0 } : Api_Ref), Wagon := 0, Place := 0, Other := 0, Number := 0, From := 0, To := 0, Code := 0, Dest := 0, Class := 0, Weight := 0, Amount := 0, Text := ([] : List UInt8), Parts := a } : Api_Item)).bind fun u =>
      if u = true then
       (Rp ({ Network := ({ Places := [], Edges := [] } : Api_Network), Fleet := ({ Types := [], Wagons := [], Swaps := [], Washes := [] } : Api_Fleet), Readers := [], Shippers := [], Railways := [] } : Api_Pool) ({ Kind := 10, Ref := ({ Railway := 0, No := 0 } : Api_Ref), Wagon := 0, Place := 0, Other := 0, Number := 0, From := 0, To := 0, Code := 0, Dest := 0, Class := 0, Weight := 0, Amount := 0, Text := ([] : List UInt8), Parts := a } : Api_Item)).bind fun v =>
       some (v != 0)
      else
       some false
     else
      some false
    else
     some false
   else
    some false
  else
   some false
 else
  some false : Option (Bool)).bind fun w =>
 some w
def Fm (a : Api_Item) (c : Api_Value) : Option (Bool) :=
 law11_sane.bind fun i =>
 if (!i) = true then
  some false
 else
  (Hu a).bind fun j =>
  if (!j) = true then
   some true
  else
   (En a).bind fun k =>
   (B6 k).bind fun d =>
   (En a).bind fun l =>
   (Ex l).bind fun e =>
   (Cy e.1).bind fun f =>
   (B6 f.1).bind fun g =>
   (if (d.2 != 0) = true then
    some true
   else
    (Fs d.1 a).bind fun m =>
    if (!m) = true then
     some true
    else
     if (e.2 != 0) = true then
      some true
     else
      if (f.2 != 0) = true then
       some true
      else
       if (g.2 != 0) = true then
        some true
       else
        (Fs g.1 a).bind fun n =>
        some (!n) : Option (Bool)).bind fun o =>
   if o = true then
    some false
   else
    (B6 c).bind fun b =>
    if (b.2 != 0) = true then
     (if (b.2 == 10) = true then
      (Fs b.1 ({ Kind := 0, Ref := ({ Railway := 0, No := 0 } : Api_Ref), Wagon := 0, Place := 0, Other := 0, Number := 0, From := 0, To := 0, Code := 0, Dest := 0, Class := 0, Weight := 0, Amount := 0, Text := ([] : List UInt8), Parts := [] } : Api_Item)).bind fun p =>
      some p
     else
      some false : Option (Bool)).bind fun q =>
     some q
    else
     (En b.1).bind fun s =>
     (Wi s c).bind fun t =>
     some t
end Go.Proofs.YtnfoiocigicdnaaGreatDoor
