/-
  Part 40.
-/
import Derived.Test.YtnfoiocigicdnaaGreatDoorProg
import Derived.Test.YtnfoiocigicdnaaGreatDoorRows
import Derived.Test.YtnfoiocigicdnaaGreatDoorYF26
import Derived.Test.YtnfoiocigicdnaaGreatDoorYF31
import Derived.Test.YtnfoiocigicdnaaGreatDoorYF39
import Derived.KernelRfl
import Derived.Lib.LaidTab
import Derived.WalkKit
import Derived.ProofKit
import Derived.OpenShut
import Derived.JoinedCond
import Derived.LaidMore
import Derived.Lay
import Derived.SevenTiedAt
import Derived.Stop.Joined
import Derived.Shelf.Strings.Builder1
import Derived.Shelf.Strconv.Itoa3
import Derived.Shelf.Strconv.AtoiAll
import Derived.Shelf.Strconv.ToError
import Derived.Shelf.Strconv.ToErrorRange
import Derived.Shelf.Strings.Count
namespace Go.Proofs.YtnfoiocigicdnaaGreatDoor
open Go.Rv
set_option linter.unusedVariables false
set_option linter.unusedSimpArgs false
set_option maxRecDepth 20000
def glob0 : Arr (List UInt8) 16 := ⟨[[], [82, 69, 65, 68], [83, 84, 65, 89], [68, 69, 76, 73, 86, 69, 82], [82, 69, 67, 69, 73, 86, 69], [87, 65, 89, 66, 73, 76, 76], [80, 76, 65, 67, 69, 68], [82, 69, 76, 69, 65, 83, 69, 68], [68, 65, 77, 65, 71, 69, 68], [82, 69, 80, 65, 73, 82, 69, 68], [82, 69, 67, 65, 76, 76], [84, 65, 82, 73, 70, 70], [65, 77, 69, 78, 68], [67, 65, 78, 67, 69, 76], [82, 69, 84, 82, 65, 67, 84], [79, 82, 68, 69, 82]], rfl⟩
attribute [go_sem_proc] reduceIte Nat.reduceLT Nat.reduceEqDiff Nat.reduceAdd Nat.reduceBEq Nat.reduceMul Nat.reduceSub Nat.reduceGT Nat.reducePow Nat.reduceLeDiff Int.reduceToNat
noncomputable def B : Base := AdN Tryz.prog (fun i => if i = 0 then some (C1 AV.str glob0.l) else if i = 7 then some [.iface 248 .junk] else if i = 8 then some [.iface 248 .junk] else none) (fun f xs => [29, 46, 47, 49, 50, 51, 52, 53, 54, 59, 68, 71, 81, 83, 84, 99, 116, 117, 118].contains f || (f == 31 && hdT [56] xs)) (fun _ => none) (fun i => if i = 4 then some ((Lib.pow10Tab).map fun z => Value.int .u64 z).toArray else none) (some 108) true (fun _ _ => rfl)
theorem tbk {t F x} (h : Cb Tryz.prog t = x) : (B.env F).tab t = x := h
theorem ok : B.Ok := AaI _ _ _ _ _ _ _ _
theorem lm0 (F : Addr → Prop) : (B.env F).lm = true := rfl
theorem own3 (F : Addr → Prop) (xs : List Operand) : (B.env F).own 3 xs = false := rfl
theorem own4 (F : Addr → Prop) (xs : List Operand) : (B.env F).own 4 xs = false := rfl
theorem own5 (F : Addr → Prop) (xs : List Operand) : (B.env F).own 5 xs = false := rfl
theorem own6 (F : Addr → Prop) (xs : List Operand) : (B.env F).own 6 xs = false := rfl
theorem own7 (F : Addr → Prop) (xs : List Operand) : (B.env F).own 7 xs = false := rfl
theorem own8 (F : Addr → Prop) (xs : List Operand) : (B.env F).own 8 xs = false := rfl
theorem AmQ (F : Addr → Prop) (xs : List Operand) : (B.env F).own 10 xs = false := rfl
theorem Am6 (F : Addr → Prop) (xs : List Operand) : (B.env F).own 11 xs = false := rfl
theorem An2 (F : Addr → Prop) (xs : List Operand) : (B.env F).own 12 xs = false := rfl
theorem AmJ (F : Addr → Prop) (xs : List Operand) : (B.env F).own 14 xs = false := rfl
theorem Aml (F : Addr → Prop) (xs : List Operand) : (B.env F).own 15 xs = false := rfl
theorem Amy (F : Addr → Prop) (xs : List Operand) : (B.env F).own 16 xs = false := rfl
theorem An1 (F : Addr → Prop) (xs : List Operand) : (B.env F).own 18 xs = false := rfl
theorem AnP (F : Addr → Prop) (xs : List Operand) : (B.env F).own 19 xs = false := rfl
theorem AmI (F : Addr → Prop) (xs : List Operand) : (B.env F).own 20 xs = false := rfl
theorem AnB (F : Addr → Prop) (xs : List Operand) : (B.env F).own 21 xs = false := rfl
theorem Aob (F : Addr → Prop) (xs : List Operand) : (B.env F).own 22 xs = false := rfl
theorem AmB (F : Addr → Prop) (xs : List Operand) : (B.env F).own 23 xs = false := rfl
theorem AmG (F : Addr → Prop) (xs : List Operand) : (B.env F).own 24 xs = false := rfl
theorem Aos (F : Addr → Prop) (xs : List Operand) : (B.env F).own 25 xs = false := rfl
theorem Amm (F : Addr → Prop) (xs : List Operand) : (B.env F).own 26 xs = false := rfl
theorem AmF (F : Addr → Prop) (xs : List Operand) : (B.env F).own 27 xs = false := rfl
theorem AmV (F : Addr → Prop) (xs : List Operand) : (B.env F).own 28 xs = false := rfl
theorem Al8 (F : Addr → Prop) (xs : List Operand) : (B.env F).own 29 xs = true := rfl
theorem Al1 (F : Addr → Prop) (xs : List Operand) : (B.env F).own 30 xs = false := rfl
theorem AmE (F : Addr → Prop) (xs : List Operand) : (B.env F).own 32 xs = false := rfl
theorem And (F : Addr → Prop) (xs : List Operand) : (B.env F).own 33 xs = false := rfl
theorem Am9 (F : Addr → Prop) (xs : List Operand) : (B.env F).own 34 xs = false := rfl
theorem AmT (F : Addr → Prop) (xs : List Operand) : (B.env F).own 35 xs = false := rfl
theorem An7 (F : Addr → Prop) (xs : List Operand) : (B.env F).own 36 xs = false := rfl
theorem AmR (F : Addr → Prop) (xs : List Operand) : (B.env F).own 39 xs = false := rfl
theorem AmU (F : Addr → Prop) (xs : List Operand) : (B.env F).own 40 xs = false := rfl
theorem AnS (F : Addr → Prop) (xs : List Operand) : (B.env F).own 41 xs = false := rfl
theorem Amw (F : Addr → Prop) (xs : List Operand) : (B.env F).own 46 xs = true := rfl
theorem AnF (F : Addr → Prop) (xs : List Operand) : (B.env F).own 47 xs = true := rfl
theorem Aoe (F : Addr → Prop) (xs : List Operand) : (B.env F).own 48 xs = false := rfl
theorem Amk (F : Addr → Prop) (xs : List Operand) : (B.env F).own 49 xs = true := rfl
theorem Aoo (F : Addr → Prop) (xs : List Operand) : (B.env F).own 50 xs = true := rfl
theorem AnM (F : Addr → Prop) (xs : List Operand) : (B.env F).own 51 xs = true := rfl
theorem Am7 (F : Addr → Prop) (xs : List Operand) : (B.env F).own 52 xs = true := rfl
theorem Amg (F : Addr → Prop) (xs : List Operand) : (B.env F).own 53 xs = true := rfl
theorem Anq (F : Addr → Prop) (xs : List Operand) : (B.env F).own 54 xs = true := rfl
theorem AmP (F : Addr → Prop) (xs : List Operand) : (B.env F).own 55 xs = false := rfl
theorem AnR (F : Addr → Prop) (xs : List Operand) : (B.env F).own 56 xs = false := rfl
theorem Aoq (F : Addr → Prop) (xs : List Operand) : (B.env F).own 57 xs = false := rfl
theorem AnV (F : Addr → Prop) (xs : List Operand) : (B.env F).own 58 xs = false := rfl
theorem Anm (F : Addr → Prop) (xs : List Operand) : (B.env F).own 59 xs = true := rfl
theorem Al2 (F : Addr → Prop) (xs : List Operand) : (B.env F).own 60 xs = false := rfl
theorem Am5 (F : Addr → Prop) (xs : List Operand) : (B.env F).own 61 xs = false := rfl
theorem An4 (F : Addr → Prop) (xs : List Operand) : (B.env F).own 62 xs = false := rfl
theorem Ant (F : Addr → Prop) (xs : List Operand) : (B.env F).own 63 xs = false := rfl
theorem Am8 (F : Addr → Prop) (xs : List Operand) : (B.env F).own 64 xs = false := rfl
theorem Anv (F : Addr → Prop) (xs : List Operand) : (B.env F).own 65 xs = false := rfl
theorem Ama (F : Addr → Prop) (xs : List Operand) : (B.env F).own 66 xs = false := rfl
theorem Al7 (F : Addr → Prop) (xs : List Operand) : (B.env F).own 67 xs = false := rfl
theorem AlY (F : Addr → Prop) (xs : List Operand) : (B.env F).own 68 xs = true := rfl
theorem Anj (F : Addr → Prop) (xs : List Operand) : (B.env F).own 69 xs = false := rfl
theorem An5 (F : Addr → Prop) (xs : List Operand) : (B.env F).own 70 xs = false := rfl
theorem Ams (F : Addr → Prop) (xs : List Operand) : (B.env F).own 71 xs = true := rfl
theorem Ann (F : Addr → Prop) (xs : List Operand) : (B.env F).own 72 xs = false := rfl
theorem Anb (F : Addr → Prop) (xs : List Operand) : (B.env F).own 73 xs = false := rfl
theorem An0 (F : Addr → Prop) (xs : List Operand) : (B.env F).own 74 xs = false := rfl
theorem Al9 (F : Addr → Prop) (xs : List Operand) : (B.env F).own 75 xs = false := rfl
theorem Ami (F : Addr → Prop) (xs : List Operand) : (B.env F).own 76 xs = false := rfl
theorem AnE (F : Addr → Prop) (xs : List Operand) : (B.env F).own 77 xs = false := rfl
theorem Am3 (F : Addr → Prop) (xs : List Operand) : (B.env F).own 78 xs = false := rfl
theorem Ano (F : Addr → Prop) (xs : List Operand) : (B.env F).own 79 xs = false := rfl
theorem AlT (F : Addr → Prop) (xs : List Operand) : (B.env F).own 80 xs = false := rfl
theorem Anl (F : Addr → Prop) (xs : List Operand) : (B.env F).own 81 xs = true := rfl
theorem Amx (F : Addr → Prop) (xs : List Operand) : (B.env F).own 83 xs = true := rfl
theorem AnK (F : Addr → Prop) (xs : List Operand) : (B.env F).own 84 xs = true := rfl
theorem AmK (F : Addr → Prop) (xs : List Operand) : (B.env F).own 87 xs = false := rfl
theorem Ame (F : Addr → Prop) (xs : List Operand) : (B.env F).own 98 xs = false := rfl
theorem AlW (F : Addr → Prop) (xs : List Operand) : (B.env F).own 99 xs = true := rfl
theorem AkU (F : Addr → Prop) (xs : List Operand) : (B.env F).own 101 xs = false := rfl
theorem AlF (F : Addr → Prop) (xs : List Operand) : (B.env F).own 102 xs = false := rfl
theorem Ak2 (F : Addr → Prop) (xs : List Operand) : (B.env F).own 103 xs = false := rfl
theorem Aju (F : Addr → Prop) (xs : List Operand) : (B.env F).own 104 xs = false := rfl
theorem AkG (F : Addr → Prop) (xs : List Operand) : (B.env F).own 105 xs = false := rfl
theorem AkW (F : Addr → Prop) (xs : List Operand) : (B.env F).own 106 xs = false := rfl
theorem AiV (F : Addr → Prop) (xs : List Operand) : (B.env F).own 107 xs = false := rfl
theorem Ajc (F : Addr → Prop) (xs : List Operand) : (B.env F).own 108 xs = false := rfl
theorem Alo (F : Addr → Prop) (xs : List Operand) : (B.env F).own 109 xs = false := rfl
theorem Ald (F : Addr → Prop) (xs : List Operand) : (B.env F).own 110 xs = false := rfl
theorem Ak3 (F : Addr → Prop) (xs : List Operand) : (B.env F).own 111 xs = false := rfl
theorem AiD (F : Addr → Prop) (xs : List Operand) : (B.env F).own 112 xs = false := rfl
theorem AiF (F : Addr → Prop) (xs : List Operand) : (B.env F).own 113 xs = false := rfl
theorem AiQ (F : Addr → Prop) (xs : List Operand) : (B.env F).own 114 xs = false := rfl
theorem Akw (F : Addr → Prop) (xs : List Operand) : (B.env F).own 115 xs = false := rfl
theorem AkL (F : Addr → Prop) (xs : List Operand) : (B.env F).own 116 xs = true := rfl
theorem AiK (F : Addr → Prop) (xs : List Operand) : (B.env F).own 117 xs = true := rfl
theorem Aj3 (F : Addr → Prop) (xs : List Operand) : (B.env F).own 118 xs = true := rfl
theorem Aj1 (F : Addr → Prop) (xs : List Operand) : (B.env F).own 128 xs = false := rfl
theorem AiE (F : Addr → Prop) (xs : List Operand) : (B.env F).own 142 xs = false := rfl
theorem AkA (F : Addr → Prop) (xs : List Operand) : (B.env F).own 143 xs = false := rfl
theorem Aj4 (F : Addr → Prop) (xs : List Operand) : (B.env F).own 145 xs = false := rfl
theorem AlH (F : Addr → Prop) (xs : List Operand) : (B.env F).own 146 xs = false := rfl
theorem AjC (F : Addr → Prop) (xs : List Operand) : (B.env F).own 147 xs = false := rfl
theorem Ajm (F : Addr → Prop) (xs : List Operand) : (B.env F).own 149 xs = false := rfl
theorem Ak0 (F : Addr → Prop) (xs : List Operand) : (B.env F).own 150 xs = false := rfl
theorem AiB (F : Addr → Prop) (xs : List Operand) : (B.env F).own 151 xs = false := rfl
theorem Aly (F : Addr → Prop) (xs : List Operand) : (B.env F).own 152 xs = false := rfl
theorem Ai7 (F : Addr → Prop) (xs : List Operand) : (B.env F).own 165 xs = false := rfl
theorem AiZ (F : Addr → Prop) (xs : List Operand) : (B.env F).own 166 xs = false := rfl
theorem AkM (F : Addr → Prop) (xs : List Operand) : (B.env F).own 170 xs = false := rfl
theorem AjS (F : Addr → Prop) (xs : List Operand) : (B.env F).own 186 xs = false := rfl
theorem AdY (F : Addr → Prop) (xs : List Operand) : (B.env F).own 31 (.tmp 56 :: xs) = true := rfl
theorem Afg (F : Addr → Prop) (xs : List Operand) : (B.env F).own 31 (.tmp 65 :: xs) = false := rfl
theorem mixed : Tryz.prog.follows .mixedOrders = true := by kernel_rfl
structure Strings_Builder where
  addr : Unit
  buf : List UInt8
  deriving DecidableEq, Inhabited
def Nr (x : Strings_Builder) : List AV := [.val (.pointer none), .sl false (L cU8 x.buf)]
structure Api_Ref where
  Railway : Int
  No : Int
  deriving DecidableEq, Inhabited
def Zo (x : Api_Ref) : List AV := [i64 x.Railway, i64 x.No]
structure Api_Part where
  Kind : Int
  Serial : Int
  Fitted : Bool
  deriving DecidableEq, Inhabited
def Ac (x : Api_Part) : List AV := [i64 x.Kind, i64 x.Serial, .bool x.Fitted]
structure Api_Item where
  Kind : Int
  Ref : Api_Ref
  Wagon : Int
  Place : Int
  Other : Int
  Number : Int
  From : Int
  To : Int
  Code : Int
  Dest : Int
  Class : Int
  Weight : Int
  Amount : Int
  Text : List UInt8
  Parts : List Api_Part
  deriving DecidableEq, Inhabited
def V3 (x : Api_Item) : List AV := [i64 x.Kind, i64 x.Ref.Railway, i64 x.Ref.No, i64 x.Wagon, i64 x.Place, i64 x.Other, i64 x.Number, i64 x.From, i64 x.To, i64 x.Code, i64 x.Dest, i64 x.Class, i64 x.Weight, i64 x.Amount, .str x.Text, .sl false (L Ac x.Parts)]
inductive Api_Value where
  | mk (Kind : Int) (N : Int) (B : List UInt8) (L : List Api_Value)
instance : Inhabited Api_Value := ⟨.mk default default default default⟩
def Api_Value.Kind (x : Api_Value) : Int := match x with
  | .mk a _ _ _ => a
theorem Qa {x0 : Int} {x1 : Int} {x2 : List UInt8} {x3 : List Api_Value} : (Api_Value.mk x0 x1 x2 x3).Kind = x0 := rfl
def Api_Value.N (x : Api_Value) : Int := match x with
  | .mk _ a _ _ => a
theorem Xj {x0 : Int} {x1 : Int} {x2 : List UInt8} {x3 : List Api_Value} : (Api_Value.mk x0 x1 x2 x3).N = x1 := rfl
def Api_Value.B (x : Api_Value) : List UInt8 := match x with
  | .mk _ _ a _ => a
theorem Wh {x0 : Int} {x1 : Int} {x2 : List UInt8} {x3 : List Api_Value} : (Api_Value.mk x0 x1 x2 x3).B = x2 := rfl
def Api_Value.L (x : Api_Value) : List Api_Value := match x with
  | .mk _ _ _ a => a
theorem Yg {x0 : Int} {x1 : Int} {x2 : List UInt8} {x3 : List Api_Value} : (Api_Value.mk x0 x1 x2 x3).L = x3 := rfl
noncomputable def cApi_Value (v : Api_Value) : List AV := Api_Value.rec (motive_1 := fun _ => List AV) (motive_2 := fun _ => List (List AV)) (fun Kind_ N_ B_ L_ ih3 => [i64 Kind_, i64 N_, .sl false (L cU8 B_), .sl false ih3]) [] (fun _ _ x l => x :: l) v
theorem U4 (l : List Api_Value) : Api_Value.rec_1 (motive_1 := fun _ => List AV) (motive_2 := fun _ => List (List AV)) (fun Kind_ N_ B_ L_ ih3 => [i64 Kind_, i64 N_, .sl false (L cU8 B_), .sl false ih3]) [] (fun _ _ x l => x :: l) l = L cApi_Value l := by
  induction l with
  | nil => rfl
  | cons x l ih => exact congrArg (cApi_Value x :: ·) ih
theorem Lz (x : Api_Value) : cApi_Value x = [i64 x.Kind, i64 x.N, .sl false (L cU8 x.B), .sl false (L cApi_Value x.L)] := by
  cases x with
  | mk a0 a1 a2 a3 =>
    show [i64 a0, i64 a1, .sl false (L cU8 a2), .sl false (Api_Value.rec_1 (motive_1 := fun _ => List AV) (motive_2 := fun _ => List (List AV)) (fun Kind_ N_ B_ L_ ih3 => [i64 Kind_, i64 N_, .sl false (L cU8 B_), .sl false ih3]) [] (fun _ _ x l => x :: l) a3)] = _
    rw [U4]; rfl
structure Codec_decoder where
  b : List UInt8
  deriving DecidableEq, Inhabited
def P8 (x : Codec_decoder) : List AV := [.sl false (L cU8 x.b)]
structure Api_Deframer where
  Rest : List UInt8
  In : Bool
  Escape : Bool
  Bad : Bool
  deriving DecidableEq, Inhabited
def Se (x : Api_Deframer) : List AV := [.sl false (L cU8 x.Rest), .bool x.In, .bool x.Escape, .bool x.Bad]
structure Api_Place where
  Kind : Int
  Railway : Int
  Other : Int
  deriving DecidableEq, Inhabited
def Ah (x : Api_Place) : List AV := [i64 x.Kind, i64 x.Railway, i64 x.Other]
structure Api_Edge where
  A : Int
  B : Int
  Railway : Int
  Minutes : Int
  Km : Int
  deriving DecidableEq, Inhabited
def Ap (x : Api_Edge) : List AV := [i64 x.A, i64 x.B, i64 x.Railway, i64 x.Minutes, i64 x.Km]
structure Api_Network where
  Places : List Api_Place
  Edges : List Api_Edge
  deriving DecidableEq, Inhabited
def V4 (x : Api_Network) : List AV := [.sl false (L Ah x.Places), .sl false (L Ap x.Edges)]
structure Api_WagonType where
  Load : Int
  Tare : Int
  Length : Int
  Gauge : Int
  Brake : Int
  Classes : UInt64
  Life : Int
  Floor : Int
  deriving DecidableEq, Inhabited
def Ai (x : Api_WagonType) : List AV := [i64 x.Load, i64 x.Tare, i64 x.Length, i64 x.Gauge, i64 x.Brake, u64 x.Classes, i64 x.Life, i64 x.Floor]
structure Api_Wagon where
  Type_ : Int
  Owner : Int
  Home : Int
  Built : Int
  Worth : Int
  deriving DecidableEq, Inhabited
def Ao (x : Api_Wagon) : List AV := [i64 x.Type_, i64 x.Owner, i64 x.Home, i64 x.Built, i64 x.Worth]
structure Api_Swap where
  Wanted : Int
  Given : Int
  Cost : Int
  deriving DecidableEq, Inhabited
def A7 (x : Api_Swap) : List AV := [i64 x.Wanted, i64 x.Given, i64 x.Cost]
structure Api_Wash where
  From : Int
  To : Int
  Minutes : Int
  deriving DecidableEq, Inhabited
def A6 (x : Api_Wash) : List AV := [i64 x.From, i64 x.To, i64 x.Minutes]
structure Api_Fleet where
  Types : List Api_WagonType
  Wagons : List Api_Wagon
  Swaps : List Api_Swap
  Washes : List Api_Wash
  deriving DecidableEq, Inhabited
def AbA (x : Api_Fleet) : List AV := [.sl false (L Ai x.Types), .sl false (L Ao x.Wagons), .sl false (L A7 x.Swaps), .sl false (L A6 x.Washes)]
structure Api_Reader where
  Place : Int
  Low : Int
  High : Int
  deriving DecidableEq, Inhabited
def Am (x : Api_Reader) : List AV := [i64 x.Place, i64 x.Low, i64 x.High]
structure Api_Shipper where
  Place : Int
  deriving DecidableEq, Inhabited
def Al (x : Api_Shipper) : List AV := [i64 x.Place]
structure Api_Span where
  From : Int
  To : Int
  deriving DecidableEq, Inhabited
def AbN (x : Api_Span) : List AV := [i64 x.From, i64 x.To]
structure Api_Calendar where
  Open : (Api_Span × Api_Span × Api_Span × Api_Span × Api_Span × Api_Span × Api_Span)
  Holidays : List Int
  deriving DecidableEq, Inhabited
def Sn (x : Api_Calendar) : List AV := [i64 x.Open.1.From, i64 x.Open.1.To, i64 x.Open.2.1.From, i64 x.Open.2.1.To, i64 x.Open.2.2.1.From, i64 x.Open.2.2.1.To, i64 x.Open.2.2.2.1.From, i64 x.Open.2.2.2.1.To, i64 x.Open.2.2.2.2.1.From, i64 x.Open.2.2.2.2.1.To, i64 x.Open.2.2.2.2.2.1.From, i64 x.Open.2.2.2.2.2.1.To, i64 x.Open.2.2.2.2.2.2.From, i64 x.Open.2.2.2.2.2.2.To, .sl false (L L6 x.Holidays)]
structure Api_RailwayInfo where
  Key : UInt64
  Calendar : Api_Calendar
  deriving DecidableEq, Inhabited
def Af (x : Api_RailwayInfo) : List AV := [u64 x.Key, i64 x.Calendar.Open.1.From, i64 x.Calendar.Open.1.To, i64 x.Calendar.Open.2.1.From, i64 x.Calendar.Open.2.1.To, i64 x.Calendar.Open.2.2.1.From, i64 x.Calendar.Open.2.2.1.To, i64 x.Calendar.Open.2.2.2.1.From, i64 x.Calendar.Open.2.2.2.1.To, i64 x.Calendar.Open.2.2.2.2.1.From, i64 x.Calendar.Open.2.2.2.2.1.To, i64 x.Calendar.Open.2.2.2.2.2.1.From, i64 x.Calendar.Open.2.2.2.2.2.1.To, i64 x.Calendar.Open.2.2.2.2.2.2.From, i64 x.Calendar.Open.2.2.2.2.2.2.To, .sl false (L L6 x.Calendar.Holidays)]
structure Api_Pool where
  Network : Api_Network
  Fleet : Api_Fleet
  Readers : List Api_Reader
  Shippers : List Api_Shipper
  Railways : List Api_RailwayInfo
  deriving DecidableEq, Inhabited
def Ac7 (x : Api_Pool) : List AV := [.sl false (L Ah x.Network.Places), .sl false (L Ap x.Network.Edges), .sl false (L Ai x.Fleet.Types), .sl false (L Ao x.Fleet.Wagons), .sl false (L A7 x.Fleet.Swaps), .sl false (L A6 x.Fleet.Washes), .sl false (L Am x.Readers), .sl false (L Al x.Shippers), .sl false (L Af x.Railways)]
theorem tt3 : Cb Tryz.prog 3 = some ⟨.int .i64, 1, 8, [i64 0]⟩ := by kernel_rfl
theorem tb3 (F : Addr → Prop) : (B.env F).tab 3 = some ⟨.int .i64, 1, 8, [i64 0]⟩ := (Ba Tryz.prog 3).trans tt3
theorem tt4 : Cb Tryz.prog 4 = some ⟨.bool, 1, 1, [.bool false]⟩ := by kernel_rfl
theorem tb4 (F : Addr → Prop) : (B.env F).tab 4 = some ⟨.bool, 1, 1, [.bool false]⟩ := (Ba Tryz.prog 4).trans tt4
theorem tt5 : Cb Tryz.prog 5 = some ⟨.int .u8, 1, 1, [u8 ((0 : UInt8))]⟩ := by kernel_rfl
theorem tb5 (F : Addr → Prop) : (B.env F).tab 5 = some ⟨.int .u8, 1, 1, [u8 ((0 : UInt8))]⟩ := (Ba Tryz.prog 5).trans tt5
theorem tt9 : Cb Tryz.prog 9 = some ⟨.string, 1, 16, [.str (([] : List UInt8))]⟩ := by kernel_rfl
theorem tb9 (F : Addr → Prop) : (B.env F).tab 9 = some ⟨.string, 1, 16, [.str (([] : List UInt8))]⟩ := (Ba Tryz.prog 9).trans tt9
theorem tt21 : Cb Tryz.prog 21 = some ⟨.int .i32, 1, 4, [.int .i32 0]⟩ := by kernel_rfl
theorem AbB (F : Addr → Prop) : (B.env F).tab 21 = some ⟨.int .i32, 1, 4, [.int .i32 0]⟩ := (Ba Tryz.prog 21).trans tt21
theorem tt22 : Cb Tryz.prog 22 = some ⟨.slice 99, 1, 24, [.sl true (L Ah ([]))]⟩ := by kernel_rfl
theorem tb22 (F : Addr → Prop) : (B.env F).tab 22 = some ⟨.slice 99, 1, 24, [.sl true (L Ah ([]))]⟩ := (Ba Tryz.prog 22).trans tt22
theorem tt23 : Cb Tryz.prog 23 = some ⟨.slice 103, 1, 24, [.sl true (L Ap ([]))]⟩ := by kernel_rfl
theorem tb23 (F : Addr → Prop) : (B.env F).tab 23 = some ⟨.slice 103, 1, 24, [.sl true (L Ap ([]))]⟩ := (Ba Tryz.prog 23).trans tt23
theorem tt25 : Cb Tryz.prog 25 = some ⟨.struct #[⟨"Places", 22, 0, false, "", "", 0⟩, ⟨"Edges", 23, 1, false, "", "", 24⟩], 2, 48, [.sl true (L Ah ([])), .sl true (L Ap ([]))]⟩ := by kernel_rfl
theorem tb25 (F : Addr → Prop) : (B.env F).tab 25 = some ⟨.struct #[⟨"Places", 22, 0, false, "", "", 0⟩, ⟨"Edges", 23, 1, false, "", "", 24⟩], 2, 48, [.sl true (L Ah ([])), .sl true (L Ap ([]))]⟩ := (Ba Tryz.prog 25).trans tt25
theorem tt27 : Cb Tryz.prog 27 = some ⟨.slice 101, 1, 24, [.sl true (L Ao ([]))]⟩ := by kernel_rfl
theorem tb27 (F : Addr → Prop) : (B.env F).tab 27 = some ⟨.slice 101, 1, 24, [.sl true (L Ao ([]))]⟩ := (Ba Tryz.prog 27).trans tt27
theorem tt31 : Cb Tryz.prog 31 = some ⟨.struct #[⟨"Types", 26, 0, false, "", "", 0⟩, ⟨"Wagons", 27, 1, false, "", "", 24⟩, ⟨"Swaps", 28, 2, false, "", "", 48⟩, ⟨"Washes", 29, 3, false, "", "", 72⟩], 4, 96, [.sl true (L Ai ([])), .sl true (L Ao ([])), .sl true (L A7 ([])), .sl true (L A6 ([]))]⟩ := by kernel_rfl
theorem tb31 (F : Addr → Prop) : (B.env F).tab 31 = some ⟨.struct #[⟨"Types", 26, 0, false, "", "", 0⟩, ⟨"Wagons", 27, 1, false, "", "", 24⟩, ⟨"Swaps", 28, 2, false, "", "", 48⟩, ⟨"Washes", 29, 3, false, "", "", 72⟩], 4, 96, [.sl true (L Ai ([])), .sl true (L Ao ([])), .sl true (L A7 ([])), .sl true (L A6 ([]))]⟩ := (Ba Tryz.prog 31).trans tt31
theorem tt32 : Cb Tryz.prog 32 = some ⟨.slice 94, 1, 24, [.sl true (L Am ([]))]⟩ := by kernel_rfl
theorem tb32 (F : Addr → Prop) : (B.env F).tab 32 = some ⟨.slice 94, 1, 24, [.sl true (L Am ([]))]⟩ := (Ba Tryz.prog 32).trans tt32
theorem tt33 : Cb Tryz.prog 33 = some ⟨.slice 97, 1, 24, [.sl true (L Al ([]))]⟩ := by kernel_rfl
theorem tb33 (F : Addr → Prop) : (B.env F).tab 33 = some ⟨.slice 97, 1, 24, [.sl true (L Al ([]))]⟩ := (Ba Tryz.prog 33).trans tt33
theorem tt34 : Cb Tryz.prog 34 = some ⟨.slice 90, 1, 24, [.sl true (L Af ([]))]⟩ := by kernel_rfl
theorem tb34 (F : Addr → Prop) : (B.env F).tab 34 = some ⟨.slice 90, 1, 24, [.sl true (L Af ([]))]⟩ := (Ba Tryz.prog 34).trans tt34
theorem tt36 : Cb Tryz.prog 36 = some ⟨.struct #[⟨"Network", 25, 0, false, "", "", 0⟩, ⟨"Fleet", 31, 2, false, "", "", 48⟩, ⟨"Readers", 32, 6, false, "", "", 144⟩, ⟨"Shippers", 33, 7, false, "", "", 168⟩, ⟨"Railways", 34, 8, false, "", "", 192⟩], 9, 216, [.sl true (L Ah ([])), .sl true (L Ap ([])), .sl true (L Ai ([])), .sl true (L Ao ([])), .sl true (L A7 ([])), .sl true (L A6 ([])), .sl true (L Am ([])), .sl true (L Al ([])), .sl true (L Af ([]))]⟩ := by kernel_rfl
theorem tb36 (F : Addr → Prop) : (B.env F).tab 36 = some ⟨.struct #[⟨"Network", 25, 0, false, "", "", 0⟩, ⟨"Fleet", 31, 2, false, "", "", 48⟩, ⟨"Readers", 32, 6, false, "", "", 144⟩, ⟨"Shippers", 33, 7, false, "", "", 168⟩, ⟨"Railways", 34, 8, false, "", "", 192⟩], 9, 216, [.sl true (L Ah ([])), .sl true (L Ap ([])), .sl true (L Ai ([])), .sl true (L Ao ([])), .sl true (L A7 ([])), .sl true (L A6 ([])), .sl true (L Am ([])), .sl true (L Al ([])), .sl true (L Af ([]))]⟩ := (Ba Tryz.prog 36).trans tt36
theorem tt38 : Cb Tryz.prog 38 = some ⟨.struct #[⟨"Railway", 3, 0, false, "", "", 0⟩, ⟨"No", 3, 1, false, "", "", 8⟩], 2, 16, [i64 0, i64 0]⟩ := by kernel_rfl
theorem Am2 (F : Addr → Prop) : (B.env F).tab 38 = some ⟨.struct #[⟨"Railway", 3, 0, false, "", "", 0⟩, ⟨"No", 3, 1, false, "", "", 8⟩], 2, 16, [i64 0, i64 0]⟩ := (Ba Tryz.prog 38).trans tt38
theorem tt39 : Cb Tryz.prog 39 = some ⟨.slice 66, 1, 24, [.sl true (L Ac ([]))]⟩ := by kernel_rfl
theorem AlO (F : Addr → Prop) : (B.env F).tab 39 = some ⟨.slice 66, 1, 24, [.sl true (L Ac ([]))]⟩ := (Ba Tryz.prog 39).trans tt39
theorem tt41 : Cb Tryz.prog 41 = some ⟨.struct #[⟨"Kind", 3, 0, false, "", "", 0⟩, ⟨"Ref", 38, 1, false, "", "", 8⟩, ⟨"Wagon", 3, 3, false, "", "", 24⟩, ⟨"Place", 3, 4, false, "", "", 32⟩, ⟨"Other", 3, 5, false, "", "", 40⟩, ⟨"Number", 3, 6, false, "", "", 48⟩, ⟨"From", 3, 7, false, "", "", 56⟩, ⟨"To", 3, 8, false, "", "", 64⟩, ⟨"Code", 3, 9, false, "", "", 72⟩, ⟨"Dest", 3, 10, false, "", "", 80⟩, ⟨"Class", 3, 11, false, "", "", 88⟩, ⟨"Weight", 3, 12, false, "", "", 96⟩, ⟨"Amount", 3, 13, false, "", "", 104⟩, ⟨"Text", 9, 14, false, "", "", 112⟩, ⟨"Parts", 39, 15, false, "", "", 128⟩], 16, 152, [i64 0, i64 0, i64 0, i64 0, i64 0, i64 0, i64 0, i64 0, i64 0, i64 0, i64 0, i64 0, i64 0, i64 0, .str (([] : List UInt8)), .sl true (L Ac ([]))]⟩ := by kernel_rfl
theorem tb41 (F : Addr → Prop) : (B.env F).tab 41 = some ⟨.struct #[⟨"Kind", 3, 0, false, "", "", 0⟩, ⟨"Ref", 38, 1, false, "", "", 8⟩, ⟨"Wagon", 3, 3, false, "", "", 24⟩, ⟨"Place", 3, 4, false, "", "", 32⟩, ⟨"Other", 3, 5, false, "", "", 40⟩, ⟨"Number", 3, 6, false, "", "", 48⟩, ⟨"From", 3, 7, false, "", "", 56⟩, ⟨"To", 3, 8, false, "", "", 64⟩, ⟨"Code", 3, 9, false, "", "", 72⟩, ⟨"Dest", 3, 10, false, "", "", 80⟩, ⟨"Class", 3, 11, false, "", "", 88⟩, ⟨"Weight", 3, 12, false, "", "", 96⟩, ⟨"Amount", 3, 13, false, "", "", 104⟩, ⟨"Text", 9, 14, false, "", "", 112⟩, ⟨"Parts", 39, 15, false, "", "", 128⟩], 16, 152, [i64 0, i64 0, i64 0, i64 0, i64 0, i64 0, i64 0, i64 0, i64 0, i64 0, i64 0, i64 0, i64 0, i64 0, .str (([] : List UInt8)), .sl true (L Ac ([]))]⟩ := (Ba Tryz.prog 41).trans tt41
theorem tt52 : Cb Tryz.prog 52 = some ⟨.slice 5, 1, 24, [.sl true (L cU8 ([]))]⟩ := by kernel_rfl
theorem AeY (F : Addr → Prop) : (B.env F).tab 52 = some ⟨.slice 5, 1, 24, [.sl true (L cU8 ([]))]⟩ := (Ba Tryz.prog 52).trans tt52
theorem tt53 : Cb Tryz.prog 53 = some ⟨.slice 55, 1, 24, [.sl true (L cApi_Value ([]))]⟩ := by kernel_rfl
theorem AlI (F : Addr → Prop) : (B.env F).tab 53 = some ⟨.slice 55, 1, 24, [.sl true (L cApi_Value ([]))]⟩ := (Ba Tryz.prog 53).trans tt53
theorem tt55 : Cb Tryz.prog 55 = some ⟨.struct #[⟨"Kind", 3, 0, false, "", "", 0⟩, ⟨"N", 3, 1, false, "", "", 8⟩, ⟨"B", 52, 2, false, "", "", 16⟩, ⟨"L", 53, 3, false, "", "", 40⟩], 4, 64, [i64 0, i64 0, .sl true (L cU8 ([])), .sl true (L cApi_Value ([]))]⟩ := by kernel_rfl
theorem AnA (F : Addr → Prop) : (B.env F).tab 55 = some ⟨.struct #[⟨"Kind", 3, 0, false, "", "", 0⟩, ⟨"N", 3, 1, false, "", "", 8⟩, ⟨"B", 52, 2, false, "", "", 16⟩, ⟨"L", 53, 3, false, "", "", 40⟩], 4, 64, [i64 0, i64 0, .sl true (L cU8 ([])), .sl true (L cApi_Value ([]))]⟩ := (Ba Tryz.prog 55).trans tt55
theorem tt66 : Cb Tryz.prog 66 = some ⟨.struct #[⟨"Kind", 3, 0, false, "", "", 0⟩, ⟨"Serial", 3, 1, false, "", "", 8⟩, ⟨"Fitted", 4, 2, false, "", "", 16⟩], 3, 24, [i64 0, i64 0, .bool false]⟩ := by kernel_rfl
theorem AlL (F : Addr → Prop) : (B.env F).tab 66 = some ⟨.struct #[⟨"Kind", 3, 0, false, "", "", 0⟩, ⟨"Serial", 3, 1, false, "", "", 8⟩, ⟨"Fitted", 4, 2, false, "", "", 16⟩], 3, 24, [i64 0, i64 0, .bool false]⟩ := (Ba Tryz.prog 66).trans tt66
theorem tt71 : Cb Tryz.prog 71 = some ⟨.struct #[⟨"Rest", 52, 0, false, "", "", 0⟩, ⟨"In", 4, 1, false, "", "", 24⟩, ⟨"Escape", 4, 2, false, "", "", 25⟩, ⟨"Bad", 4, 3, false, "", "", 26⟩], 4, 32, [.sl true (L cU8 ([])), .bool false, .bool false, .bool false]⟩ := by kernel_rfl
theorem tb71 (F : Addr → Prop) : (B.env F).tab 71 = some ⟨.struct #[⟨"Rest", 52, 0, false, "", "", 0⟩, ⟨"In", 4, 1, false, "", "", 24⟩, ⟨"Escape", 4, 2, false, "", "", 25⟩, ⟨"Bad", 4, 3, false, "", "", 26⟩], 4, 32, [.sl true (L cU8 ([])), .bool false, .bool false, .bool false]⟩ := (Ba Tryz.prog 71).trans tt71
theorem tt72 : Cb Tryz.prog 72 = some ⟨.slice 52, 1, 24, [.sl true (L (cSl cU8) ([]))]⟩ := by kernel_rfl
theorem AlJ (F : Addr → Prop) : (B.env F).tab 72 = some ⟨.slice 52, 1, 24, [.sl true (L (cSl cU8) ([]))]⟩ := (Ba Tryz.prog 72).trans tt72
theorem tt85 : Cb Tryz.prog 85 = some ⟨.slice 3, 1, 24, [.sl true (L L6 ([]))]⟩ := by kernel_rfl
theorem tb85 (F : Addr → Prop) : (B.env F).tab 85 = some ⟨.slice 3, 1, 24, [.sl true (L L6 ([]))]⟩ := (Ba Tryz.prog 85).trans tt85
theorem tt88 : Cb Tryz.prog 88 = some ⟨.int .u64, 1, 8, [u64 ((0 : UInt64))]⟩ := by kernel_rfl
theorem tb88 (F : Addr → Prop) : (B.env F).tab 88 = some ⟨.int .u64, 1, 8, [u64 ((0 : UInt64))]⟩ := (Ba Tryz.prog 88).trans tt88
theorem tt90 : Cb Tryz.prog 90 = some ⟨.struct #[⟨"Key", 88, 0, false, "", "", 0⟩, ⟨"Calendar", 87, 1, false, "", "", 8⟩], 16, 144, [u64 ((0 : UInt64)), i64 0, i64 0, i64 0, i64 0, i64 0, i64 0, i64 0, i64 0, i64 0, i64 0, i64 0, i64 0, i64 0, i64 0, .sl true (L L6 ([]))]⟩ := by kernel_rfl
theorem tb90 (F : Addr → Prop) : (B.env F).tab 90 = some ⟨.struct #[⟨"Key", 88, 0, false, "", "", 0⟩, ⟨"Calendar", 87, 1, false, "", "", 8⟩], 16, 144, [u64 ((0 : UInt64)), i64 0, i64 0, i64 0, i64 0, i64 0, i64 0, i64 0, i64 0, i64 0, i64 0, i64 0, i64 0, i64 0, i64 0, .sl true (L L6 ([]))]⟩ := (Ba Tryz.prog 90).trans tt90
theorem tt94 : Cb Tryz.prog 94 = some ⟨.struct #[⟨"Place", 3, 0, false, "", "", 0⟩, ⟨"Low", 3, 1, false, "", "", 8⟩, ⟨"High", 3, 2, false, "", "", 16⟩], 3, 24, [i64 0, i64 0, i64 0]⟩ := by kernel_rfl
theorem tb94 (F : Addr → Prop) : (B.env F).tab 94 = some ⟨.struct #[⟨"Place", 3, 0, false, "", "", 0⟩, ⟨"Low", 3, 1, false, "", "", 8⟩, ⟨"High", 3, 2, false, "", "", 16⟩], 3, 24, [i64 0, i64 0, i64 0]⟩ := (Ba Tryz.prog 94).trans tt94
theorem tt97 : Cb Tryz.prog 97 = some ⟨.struct #[⟨"Place", 3, 0, false, "", "", 0⟩], 1, 8, [i64 0]⟩ := by kernel_rfl
theorem tb97 (F : Addr → Prop) : (B.env F).tab 97 = some ⟨.struct #[⟨"Place", 3, 0, false, "", "", 0⟩], 1, 8, [i64 0]⟩ := (Ba Tryz.prog 97).trans tt97
theorem tt99 : Cb Tryz.prog 99 = some ⟨.struct #[⟨"Kind", 3, 0, false, "", "", 0⟩, ⟨"Railway", 3, 1, false, "", "", 8⟩, ⟨"Other", 3, 2, false, "", "", 16⟩], 3, 24, [i64 0, i64 0, i64 0]⟩ := by kernel_rfl
theorem tb99 (F : Addr → Prop) : (B.env F).tab 99 = some ⟨.struct #[⟨"Kind", 3, 0, false, "", "", 0⟩, ⟨"Railway", 3, 1, false, "", "", 8⟩, ⟨"Other", 3, 2, false, "", "", 16⟩], 3, 24, [i64 0, i64 0, i64 0]⟩ := (Ba Tryz.prog 99).trans tt99
theorem AnD : Cb Tryz.prog 101 = some ⟨.struct #[⟨"Type", 3, 0, false, "", "", 0⟩, ⟨"Owner", 3, 1, false, "", "", 8⟩, ⟨"Home", 3, 2, false, "", "", 16⟩, ⟨"Built", 3, 3, false, "", "", 24⟩, ⟨"Worth", 3, 4, false, "", "", 32⟩], 5, 40, [i64 0, i64 0, i64 0, i64 0, i64 0]⟩ := by kernel_rfl
theorem Akg (F : Addr → Prop) : (B.env F).tab 101 = some ⟨.struct #[⟨"Type", 3, 0, false, "", "", 0⟩, ⟨"Owner", 3, 1, false, "", "", 8⟩, ⟨"Home", 3, 2, false, "", "", 16⟩, ⟨"Built", 3, 3, false, "", "", 24⟩, ⟨"Worth", 3, 4, false, "", "", 32⟩], 5, 40, [i64 0, i64 0, i64 0, i64 0, i64 0]⟩ := (Ba Tryz.prog 101).trans AnD
theorem Amd : Cb Tryz.prog 103 = some ⟨.struct #[⟨"A", 3, 0, false, "", "", 0⟩, ⟨"B", 3, 1, false, "", "", 8⟩, ⟨"Railway", 3, 2, false, "", "", 16⟩, ⟨"Minutes", 3, 3, false, "", "", 24⟩, ⟨"Km", 3, 4, false, "", "", 32⟩], 5, 40, [i64 0, i64 0, i64 0, i64 0, i64 0]⟩ := by kernel_rfl
theorem Ajv (F : Addr → Prop) : (B.env F).tab 103 = some ⟨.struct #[⟨"A", 3, 0, false, "", "", 0⟩, ⟨"B", 3, 1, false, "", "", 8⟩, ⟨"Railway", 3, 2, false, "", "", 16⟩, ⟨"Minutes", 3, 3, false, "", "", 24⟩, ⟨"Km", 3, 4, false, "", "", 32⟩], 5, 40, [i64 0, i64 0, i64 0, i64 0, i64 0]⟩ := (Ba Tryz.prog 103).trans Amd
theorem Aoj : Cb Tryz.prog 106 = some ⟨.pointer 108, 1, 8, [.val (.pointer none)]⟩ := by kernel_rfl
theorem AgI (F : Addr → Prop) : (B.env F).tab 106 = some ⟨.pointer 108, 1, 8, [.val (.pointer none)]⟩ := (Ba Tryz.prog 106).trans Aoj
theorem Am0 : Cb Tryz.prog 108 = some ⟨.struct #[⟨"addr", 106, 0, false, "", "strings", 0⟩, ⟨"buf", 52, 1, false, "", "strings", 8⟩], 2, 32, [.val (.pointer none), .sl true (L cU8 ([]))]⟩ := by kernel_rfl
theorem Anx (F : Addr → Prop) : (B.env F).tab 108 = some ⟨.struct #[⟨"addr", 106, 0, false, "", "strings", 0⟩, ⟨"buf", 52, 1, false, "", "strings", 8⟩], 2, 32, [.val (.pointer none), .sl true (L cU8 ([]))]⟩ := (Ba Tryz.prog 108).trans Am0
theorem Anr : Cb Tryz.prog 110 = some ⟨.interface #[("Error", 124)], 1, 16, [.val .nilIface]⟩ := by kernel_rfl
theorem Aj7 (F : Addr → Prop) : (B.env F).tab 110 = some ⟨.interface #[("Error", 124)], 1, 16, [.val .nilIface]⟩ := (Ba Tryz.prog 110).trans Anr
theorem Anu : Cb Tryz.prog 113 = some ⟨.array 16 9, 16, 256, [.str (([] : List UInt8)), .str (([] : List UInt8)), .str (([] : List UInt8)), .str (([] : List UInt8)), .str (([] : List UInt8)), .str (([] : List UInt8)), .str (([] : List UInt8)), .str (([] : List UInt8)), .str (([] : List UInt8)), .str (([] : List UInt8)), .str (([] : List UInt8)), .str (([] : List UInt8)), .str (([] : List UInt8)), .str (([] : List UInt8)), .str (([] : List UInt8)), .str (([] : List UInt8))]⟩ := by kernel_rfl
theorem AiS (F : Addr → Prop) : (B.env F).tab 113 = some ⟨.array 16 9, 16, 256, [.str (([] : List UInt8)), .str (([] : List UInt8)), .str (([] : List UInt8)), .str (([] : List UInt8)), .str (([] : List UInt8)), .str (([] : List UInt8)), .str (([] : List UInt8)), .str (([] : List UInt8)), .str (([] : List UInt8)), .str (([] : List UInt8)), .str (([] : List UInt8)), .str (([] : List UInt8)), .str (([] : List UInt8)), .str (([] : List UInt8)), .str (([] : List UInt8)), .str (([] : List UInt8))]⟩ := (Ba Tryz.prog 113).trans Anu
theorem Aor : Cb Tryz.prog 117 = some ⟨.pointer 3, 1, 8, [.val (.pointer none)]⟩ := by kernel_rfl
theorem Agd (F : Addr → Prop) : (B.env F).tab 117 = some ⟨.pointer 3, 1, 8, [.val (.pointer none)]⟩ := (Ba Tryz.prog 117).trans Aor
theorem AnY : Cb Tryz.prog 118 = some ⟨.array 11 117, 11, 88, [.val (.pointer none), .val (.pointer none), .val (.pointer none), .val (.pointer none), .val (.pointer none), .val (.pointer none), .val (.pointer none), .val (.pointer none), .val (.pointer none), .val (.pointer none), .val (.pointer none)]⟩ := by kernel_rfl
theorem Ahv (F : Addr → Prop) : (B.env F).tab 118 = some ⟨.array 11 117, 11, 88, [.val (.pointer none), .val (.pointer none), .val (.pointer none), .val (.pointer none), .val (.pointer none), .val (.pointer none), .val (.pointer none), .val (.pointer none), .val (.pointer none), .val (.pointer none), .val (.pointer none)]⟩ := (Ba Tryz.prog 118).trans AnY
theorem Amq : Cb Tryz.prog 122 = some ⟨.map 4 9, 1, 8, [.val (.map none)]⟩ := by kernel_rfl
theorem AiM (F : Addr → Prop) : (B.env F).tab 122 = some ⟨.map 4 9, 1, 8, [.val (.map none)]⟩ := (Ba Tryz.prog 122).trans Amq
theorem Ans : Cb Tryz.prog 134 = some ⟨.slice 9, 1, 24, [.sl true (L Qk ([]))]⟩ := by kernel_rfl
theorem AeS (F : Addr → Prop) : (B.env F).tab 134 = some ⟨.slice 9, 1, 24, [.sl true (L Qk ([]))]⟩ := (Ba Tryz.prog 134).trans Ans
theorem AnT : Cb Tryz.prog 171 = some ⟨.int .u64, 1, 8, [u64 ((0 : UInt64))]⟩ := by kernel_rfl
theorem Aon (F : Addr → Prop) : (B.env F).tab 171 = some ⟨.int .u64, 1, 8, [u64 ((0 : UInt64))]⟩ := (Ba Tryz.prog 171).trans AnT
theorem AmD : Cb Tryz.prog 182 = some ⟨.int .u32, 1, 4, [u32 ((0 : UInt32))]⟩ := by kernel_rfl
theorem AjK (F : Addr → Prop) : (B.env F).tab 182 = some ⟨.int .u32, 1, 4, [u32 ((0 : UInt32))]⟩ := (Ba Tryz.prog 182).trans AmD
theorem AmY : Cb Tryz.prog 211 = some ⟨.array 16 182, 16, 64, (C1 u32 ((Arr.rep 16 (0 : UInt32))).l)⟩ := by kernel_rfl
theorem Ajx (F : Addr → Prop) : (B.env F).tab 211 = some ⟨.array 16 182, 16, 64, (C1 u32 ((Arr.rep 16 (0 : UInt32))).l)⟩ := (Ba Tryz.prog 211).trans AmY
theorem Aof : Cb Tryz.prog 230 = some ⟨.int .i64, 1, 8, [i64 0]⟩ := by kernel_rfl
theorem AnO (F : Addr → Prop) : (B.env F).tab 230 = some ⟨.int .i64, 1, 8, [i64 0]⟩ := (Ba Tryz.prog 230).trans Aof
theorem AiJ : AV.int .u32 0 = u32 0 := rfl
theorem AiR : AV.int .u32 1 = u32 1 := rfl
theorem AgQ : AV.int .u32 15 = u32 15 := rfl
theorem Py : AV.int .u32 3988292384 = u32 3988292384 := rfl
theorem O2 : AV.int .u32 4294967295 = u32 4294967295 := rfl
theorem Aks : AV.int .u64 0 = u64 0 := rfl
theorem AjJ : AV.int .u64 1 = u64 1 := rfl
theorem AjP : AV.int .u64 4 = u64 4 := rfl
theorem Ajy : AV.int .u64 8 = u64 8 := rfl
theorem Ah9 : AV.int .u64 16 = u64 16 := rfl
theorem Ahg : AV.int .u64 24 = u64 24 := rfl
theorem Agg : AV.int .u64 32 = u64 32 := rfl
theorem AfE : AV.int .u64 256 = u64 256 := rfl
theorem Aam : AV.int .u64 65536 = u64 65536 := rfl
theorem Pt : AV.int .u64 4294967296 = u64 4294967296 := rfl
theorem H5 : AV.int .u64 1152921504606846976 = u64 1152921504606846976 := rfl
theorem Aoa : AV.int .u8 0 = u8 0 := rfl
theorem AjB : AV.int .u8 10 = u8 10 := rfl
theorem Ajs : AV.int .u8 15 = u8 15 := rfl
theorem AjR : AV.int .u8 16 = u8 16 := rfl
theorem AlC : AV.int .u8 23 = u8 23 := rfl
theorem Akk : AV.int .u8 31 = u8 31 := rfl
theorem Ajp : AV.int .u8 32 = u8 32 := rfl
theorem AkH : AV.int .u8 39 = u8 39 := rfl
theorem Akm : AV.int .u8 40 = u8 40 := rfl
theorem Alt : AV.int .u8 43 = u8 43 := rfl
theorem Alb : AV.int .u8 45 = u8 45 := rfl
theorem AiN : AV.int .u8 46 = u8 46 := rfl
theorem AjV : AV.int .u8 48 = u8 48 := rfl
theorem AiU : AV.int .u8 57 = u8 57 := rfl
theorem AkT : AV.int .u8 63 = u8 63 := rfl
theorem Ala : AV.int .u8 64 = u8 64 := rfl
theorem Ai5 : AV.int .u8 95 = u8 95 := rfl
theorem AkV : AV.int .u8 97 = u8 97 := rfl
theorem Aje : AV.int .u8 99 = u8 99 := rfl
theorem Ago : AV.int .u8 100 = u8 100 := rfl
theorem Ah7 : AV.int .u8 102 = u8 102 := rfl
theorem Ag6 : AV.int .u8 103 = u8 103 := rfl
theorem AgZ : AV.int .u8 107 = u8 107 := rfl
theorem Agj : AV.int .u8 110 = u8 110 := rfl
theorem AgY : AV.int .u8 111 = u8 111 := rfl
theorem Aie : AV.int .u8 112 = u8 112 := rfl
theorem Agc : AV.int .u8 113 = u8 113 := rfl
theorem Agq : AV.int .u8 114 = u8 114 := rfl
theorem AhO : AV.int .u8 116 = u8 116 := rfl
theorem Ahb : AV.int .u8 119 = u8 119 := rfl
theorem Agh : AV.int .u8 120 = u8 120 := rfl
theorem Af9 : AV.int .u8 122 = u8 122 := rfl
theorem Age : AV.int .u8 125 = u8 125 := rfl
theorem Aim : AV.int .u8 126 = u8 126 := rfl
theorem Agb : AV.int .u8 127 = u8 127 := rfl
theorem AgD : AV.int .u8 255 = u8 255 := rfl
theorem AgJ {F} {σ : Ad} (s x : AV) : Bp (B.env F) σ .append [52, 9] [s, x] = match Ga σ x with
      | some new => if Gr x 1 = true then none else if ∀ cs ∈ new, cs.length = 1 then (match s with
          | .sl full els =>
            if els = [] ∧ full = true then
              if Ei new.length 1 then some (.bs false σ.length new.length 0 new.length, σ ++ [.buf 1 new false]) else none
            else if new = [] then some (.sl full els, σ)
            else if full = true ∧ (∀ cs ∈ els, cs.length = 1) ∧ Ei (els.length + new.length) 1
            then some (.bs false σ.length (els.length + new.length) 0 (els.length + new.length), σ ++ [.buf 1 (els ++ new) false]) else none
          | .bs full id tot off len => match σ[id]? with
            | some (.buf k els ro) =>
              if els.length = tot ∧ k = 1 ∧ Ei (len + new.length) 1 then
                if off = 0 ∧ len = tot then some (.bs false id (tot + new.length) 0 (tot + new.length), σ.set id (.buf k (els ++ new) ro))
                else if new = [] then some (.bs full id tot off len, σ)
                else if full then some (.bs false σ.length (len + new.length) 0 (len + new.length), σ ++ [.buf k ((els.drop off).take len ++ new) false])
                else none
              else none
            | some (.tb T l) => U3 σ id tot off len 1 1 5 T l new
            | _ => none
          | _ => none)
        else none
      | none => none := Iy (AeY F) (tb5 F) (by decide) (tb9 F) (.inr rfl) s x []
theorem AeZ {F} {σ : Ad} (s x : AV) : Bp (B.env F) σ .append [52, 52] [s, x] = match Ga σ x with
      | some new => if Gr x 1 = true then none else if ∀ cs ∈ new, cs.length = 1 then (match s with
          | .sl full els =>
            if els = [] ∧ full = true then
              if Ei new.length 1 then some (.bs false σ.length new.length 0 new.length, σ ++ [.buf 1 new false]) else none
            else if new = [] then some (.sl full els, σ)
            else if full = true ∧ (∀ cs ∈ els, cs.length = 1) ∧ Ei (els.length + new.length) 1
            then some (.bs false σ.length (els.length + new.length) 0 (els.length + new.length), σ ++ [.buf 1 (els ++ new) false]) else none
          | .bs full id tot off len => match σ[id]? with
            | some (.buf k els ro) =>
              if els.length = tot ∧ k = 1 ∧ Ei (len + new.length) 1 then
                if off = 0 ∧ len = tot then some (.bs false id (tot + new.length) 0 (tot + new.length), σ.set id (.buf k (els ++ new) ro))
                else if new = [] then some (.bs full id tot off len, σ)
                else if full then some (.bs false σ.length (len + new.length) 0 (len + new.length), σ ++ [.buf k ((els.drop off).take len ++ new) false])
                else none
              else none
            | some (.tb T l) => U3 σ id tot off len 1 1 5 T l new
            | _ => none
          | _ => none)
        else none
      | none => none := Iy (AeY F) (tb5 F) (by decide) (AeY F) (.inl ⟨_, rfl⟩) s x []
theorem AjW {F} (l : List UInt8) (x : AV) : Kj (B.env F) 9 (.str l) x = match idx x l.length with
    | some i => some (u8 (nth l i))
    | none => none := Aa4 (tb9 F) l x
theorem AnW {F} : ((B.env F).bty = some 108) = True := eq_true rfl
theorem AcI {F} {σ : Ad} (x : AV) : An (B.env F) σ 113 (.glob 0) x = match idx x 16 with
    | some i => some (.rp ((C1 AV.str glob0.l).drop i))
    | none => none := Ad3 (AiS F) (tb9 F) rfl x
theorem Ae9 {F} (a0 : Int) (a1 : Int) (b0 : Int) (b1 : Int) : Bi (B.env F) .neq 38 (.agg [i64 a0, i64 a1]) (.agg [i64 b0, i64 b1]) = some (.bool (!((a0 == b0) && (a1 == b1)))) :=
  Kl (Am2 F) (by kernel_rfl) (by kernel_rfl) (Lk (by decide) (tb3 F) rfl rfl (M7 a0 b0) (Rz (by decide) (tb3 F) rfl rfl (M7 a1 b1)))
theorem Anf {F} : ((B.env F).bty = some 118) = False := eq_false (fun h : (some 108 : Option TypeId) = some 118 => absurd (Option.some.inj h) (by decide))
theorem AlV {F} : O1 (B.env F) 9 = true := Ado (tb9 F)
theorem An6 : (0 < (List.toArray ([119, 112, 111, 110, 102, 116, 99, 100, 107, 103, 97] : List UInt8)).size) = True := eq_true (by decide)
theorem Ako : Utf8.decode (ByteArray.mk (List.toArray ([119, 112, 111, 110, 102, 116, 99, 100, 107, 103, 97] : List UInt8))) 0 = (119, 1) := rfl
theorem Ahm {F} {σ : Ad} (id off : Nat) (x : AV) : An (B.env F) σ 118 (.ref id off) x = match idx x 11 with
    | some i => some (.ref id (off + i * 1))
    | none => none := Ac4 (Ahv F) (Agd F) id off x
theorem Tc {F} {σ : Ad} : A3 (B.env F) σ 21 5 (.int .i32 119) = some (u8 (119 : UInt8), σ) := Cp (by rw [AbB F]; rfl) (by unfold Ec; rw [tb5 F]; rfl)
theorem AiW : (1 < (List.toArray ([119, 112, 111, 110, 102, 116, 99, 100, 107, 103, 97] : List UInt8)).size) = True := eq_true (by decide)
theorem AiT : Utf8.decode (ByteArray.mk (List.toArray ([119, 112, 111, 110, 102, 116, 99, 100, 107, 103, 97] : List UInt8))) 1 = (112, 1) := rfl
theorem Ry {F} {σ : Ad} : A3 (B.env F) σ 21 5 (.int .i32 112) = some (u8 (112 : UInt8), σ) := Cp (by rw [AbB F]; rfl) (by unfold Ec; rw [tb5 F]; rfl)
theorem Akf : (2 < (List.toArray ([119, 112, 111, 110, 102, 116, 99, 100, 107, 103, 97] : List UInt8)).size) = True := eq_true (by decide)
theorem Ajn : Utf8.decode (ByteArray.mk (List.toArray ([119, 112, 111, 110, 102, 116, 99, 100, 107, 103, 97] : List UInt8))) 2 = (111, 1) := rfl
theorem Tl {F} {σ : Ad} : A3 (B.env F) σ 21 5 (.int .i32 111) = some (u8 (111 : UInt8), σ) := Cp (by rw [AbB F]; rfl) (by unfold Ec; rw [tb5 F]; rfl)
theorem AiC : (3 < (List.toArray ([119, 112, 111, 110, 102, 116, 99, 100, 107, 103, 97] : List UInt8)).size) = True := eq_true (by decide)
theorem Aix : Utf8.decode (ByteArray.mk (List.toArray ([119, 112, 111, 110, 102, 116, 99, 100, 107, 103, 97] : List UInt8))) 3 = (110, 1) := rfl
theorem Ss {F} {σ : Ad} : A3 (B.env F) σ 21 5 (.int .i32 110) = some (u8 (110 : UInt8), σ) := Cp (by rw [AbB F]; rfl) (by unfold Ec; rw [tb5 F]; rfl)
theorem Akz : (4 < (List.toArray ([119, 112, 111, 110, 102, 116, 99, 100, 107, 103, 97] : List UInt8)).size) = True := eq_true (by decide)
theorem Akl : Utf8.decode (ByteArray.mk (List.toArray ([119, 112, 111, 110, 102, 116, 99, 100, 107, 103, 97] : List UInt8))) 4 = (102, 1) := rfl
theorem Si {F} {σ : Ad} : A3 (B.env F) σ 21 5 (.int .i32 102) = some (u8 (102 : UInt8), σ) := Cp (by rw [AbB F]; rfl) (by unfold Ec; rw [tb5 F]; rfl)
theorem Ai1 : (5 < (List.toArray ([119, 112, 111, 110, 102, 116, 99, 100, 107, 103, 97] : List UInt8)).size) = True := eq_true (by decide)
theorem AkO : Utf8.decode (ByteArray.mk (List.toArray ([119, 112, 111, 110, 102, 116, 99, 100, 107, 103, 97] : List UInt8))) 5 = (116, 1) := rfl
theorem R9 {F} {σ : Ad} : A3 (B.env F) σ 21 5 (.int .i32 116) = some (u8 (116 : UInt8), σ) := Cp (by rw [AbB F]; rfl) (by unfold Ec; rw [tb5 F]; rfl)
theorem Ajt : (6 < (List.toArray ([119, 112, 111, 110, 102, 116, 99, 100, 107, 103, 97] : List UInt8)).size) = True := eq_true (by decide)
theorem Alr : Utf8.decode (ByteArray.mk (List.toArray ([119, 112, 111, 110, 102, 116, 99, 100, 107, 103, 97] : List UInt8))) 6 = (99, 1) := rfl
theorem Tu {F} {σ : Ad} : A3 (B.env F) σ 21 5 (.int .i32 99) = some (u8 (99 : UInt8), σ) := Cp (by rw [AbB F]; rfl) (by unfold Ec; rw [tb5 F]; rfl)
theorem Alj : (7 < (List.toArray ([119, 112, 111, 110, 102, 116, 99, 100, 107, 103, 97] : List UInt8)).size) = True := eq_true (by decide)
theorem Alx : Utf8.decode (ByteArray.mk (List.toArray ([119, 112, 111, 110, 102, 116, 99, 100, 107, 103, 97] : List UInt8))) 7 = (100, 1) := rfl
theorem Rj {F} {σ : Ad} : A3 (B.env F) σ 21 5 (.int .i32 100) = some (u8 (100 : UInt8), σ) := Cp (by rw [AbB F]; rfl) (by unfold Ec; rw [tb5 F]; rfl)
theorem Aky : (8 < (List.toArray ([119, 112, 111, 110, 102, 116, 99, 100, 107, 103, 97] : List UInt8)).size) = True := eq_true (by decide)
theorem Aln : Utf8.decode (ByteArray.mk (List.toArray ([119, 112, 111, 110, 102, 116, 99, 100, 107, 103, 97] : List UInt8))) 8 = (107, 1) := rfl
theorem Rt {F} {σ : Ad} : A3 (B.env F) σ 21 5 (.int .i32 107) = some (u8 (107 : UInt8), σ) := Cp (by rw [AbB F]; rfl) (by unfold Ec; rw [tb5 F]; rfl)
theorem Ajr : (9 < (List.toArray ([119, 112, 111, 110, 102, 116, 99, 100, 107, 103, 97] : List UInt8)).size) = True := eq_true (by decide)
theorem AlA : Utf8.decode (ByteArray.mk (List.toArray ([119, 112, 111, 110, 102, 116, 99, 100, 107, 103, 97] : List UInt8))) 9 = (103, 1) := rfl
theorem R6 {F} {σ : Ad} : A3 (B.env F) σ 21 5 (.int .i32 103) = some (u8 (103 : UInt8), σ) := Cp (by rw [AbB F]; rfl) (by unfold Ec; rw [tb5 F]; rfl)
theorem AjF : (10 < (List.toArray ([119, 112, 111, 110, 102, 116, 99, 100, 107, 103, 97] : List UInt8)).size) = True := eq_true (by decide)
theorem AkE : Utf8.decode (ByteArray.mk (List.toArray ([119, 112, 111, 110, 102, 116, 99, 100, 107, 103, 97] : List UInt8))) 10 = (97, 1) := rfl
theorem V0 {F} {σ : Ad} : A3 (B.env F) σ 21 5 (.int .i32 97) = some (u8 (97 : UInt8), σ) := Cp (by rw [AbB F]; rfl) (by unfold Ec; rw [tb5 F]; rfl)
theorem Alg : (11 < (List.toArray ([119, 112, 111, 110, 102, 116, 99, 100, 107, 103, 97] : List UInt8)).size) = False := eq_false (by decide)
theorem Alv {F} {σ : Ad} (f : Bool) (l : List Api_Part) (x : AV) : An (B.env F) σ 39 (.sl f (L Ac l)) x = match idx x l.length with
    | some i => some (.rp (Ac (nth l i)))
    | none => none := Jd Ac (AlO F) (AlL F) (fun _ => rfl) f l x
theorem nb66 {F} : ((B.env F).bty = some 66) = False := eq_false (fun h : (some 108 : Option TypeId) = some 66 => absurd (Option.some.inj h) (by decide))
theorem Ah0 {F} : Tj (B.env F) 122 = some .bool := AfF (AiM F) (tb4 F)
theorem Ak4 {F} {σ : Ad} (l c : Int) : Ep (B.env F) σ 134 (i64 l) (i64 c) = if Mk l c 16 then some (.bs (l == c) σ.length l.toNat 0 l.toNat, σ ++ [.buf 1 (List.replicate l.toNat [.str (([] : List UInt8))]) false]) else none := AcF (AeS F) (tb9 F) (by decide) l c
theorem Ahe {F} {σ : Ad} (f : Bool) (id tot off len : Nat) (x : AV) : An (B.env F) σ 134 (.bs f id tot off len) x = match σ[id]?, idx x len with
    | some (.buf k els _), some i => if els.length = tot ∧ k = 1 then some (.eref id tot (off + i) 0) else none
    | _, _ => none := Aci (AeS F) (tb9 F) (by decide) f id tot off len x
theorem AhZ {F} {σ : Ad} (f : Bool) (l : List (List UInt8)) (x : AV) : An (B.env F) σ 134 (.sl f (L Qk l)) x = match idx x l.length with
    | some i => some (.rp (Qk (nth l i)))
    | none => none := Jd Qk (AeS F) (tb9 F) (fun _ => rfl) f l x
theorem Aj5 {F} {σ : Ad} (f : Bool) (id tot off len : Nat) (x : AV) : An (B.env F) σ 52 (.bs f id tot off len) x = match σ[id]?, idx x len with
    | some (.buf k els _), some i => if els.length = tot ∧ k = 1 then some (.eref id tot (off + i) 0) else none
    | _, _ => none := Aci (AeY F) (tb5 F) (by decide) f id tot off len x
theorem Ah1 {F} : L5 (B.env F) 110 = true := AfG (Aj7 F)
theorem AkQ {F} (cs : List AV) (x : AV) : Kj (B.env F) 118 (.agg cs) x = match idx x 11 with
    | some i => partA (⟨.pointer 3, 1, 8, [.val (.pointer none)]⟩ : TD) cs (i * 1)
    | none => none := Aby (Ahv F) (Agd F) cs x
theorem AkI {F} {σ : Ad} (f : Bool) (l : List Int) (x : AV) : An (B.env F) σ 85 (.sl f (L L6 l)) x = match idx x l.length with
    | some i => some (.rp (L6 (nth l i)))
    | none => none := Jd L6 (tb85 F) (tb3 F) (fun _ => rfl) f l x
theorem Afa {F} {σ : Ad} (s x : AV) : Bp (B.env F) σ .append [39, 39] [s, x] = match Ga σ x with
      | some new => if Gr x 3 = true then none else if ∀ cs ∈ new, cs.length = 3 then (match s with
          | .sl full els =>
            if els = [] ∧ full = true then
              if Ei new.length 24 then some (.bs false σ.length new.length 0 new.length, σ ++ [.buf 3 new false]) else none
            else if new = [] then some (.sl full els, σ)
            else if full = true ∧ (∀ cs ∈ els, cs.length = 3) ∧ Ei (els.length + new.length) 24
            then some (.bs false σ.length (els.length + new.length) 0 (els.length + new.length), σ ++ [.buf 3 (els ++ new) false]) else none
          | .bs full id tot off len => match σ[id]? with
            | some (.buf k els ro) =>
              if els.length = tot ∧ k = 3 ∧ Ei (len + new.length) 24 then
                if off = 0 ∧ len = tot then some (.bs false id (tot + new.length) 0 (tot + new.length), σ.set id (.buf k (els ++ new) ro))
                else if new = [] then some (.bs full id tot off len, σ)
                else if full then some (.bs false σ.length (len + new.length) 0 (len + new.length), σ ++ [.buf k ((els.drop off).take len ++ new) false])
                else none
              else none
            | some (.tb T l) => U3 σ id tot off len 24 3 66 T l new
            | _ => none
          | _ => none)
        else none
      | none => none := Iy (AlO F) (AlL F) (by decide) (AlO F) (.inl ⟨_, rfl⟩) s x []
theorem nb41 {F} : ((B.env F).bty = some 41) = False := eq_false (fun h : (some 108 : Option TypeId) = some 41 => absurd (Option.some.inj h) (by decide))
theorem Agn {F} : (B.env F).G 0 = some (C1 AV.str glob0.l) := rfl
theorem AgO : List.take 16 (List.map (fun c => [c]) (C1 AV.str glob0.l)) = L Qk glob0.l := X2
theorem nb55 {F} : ((B.env F).bty = some 55) = False := eq_false (fun h : (some 108 : Option TypeId) = some 55 => absurd (Option.some.inj h) (by decide))
theorem Afk {F} {σ : Ad} (s x : AV) : Bp (B.env F) σ .append [53, 53] [s, x] = match Ga σ x with
      | some new => if Gr x 4 = true then none else if ∀ cs ∈ new, cs.length = 4 then (match s with
          | .sl full els =>
            if els = [] ∧ full = true then
              if Ei new.length 64 then some (.bs false σ.length new.length 0 new.length, σ ++ [.buf 4 new false]) else none
            else if new = [] then some (.sl full els, σ)
            else if full = true ∧ (∀ cs ∈ els, cs.length = 4) ∧ Ei (els.length + new.length) 64
            then some (.bs false σ.length (els.length + new.length) 0 (els.length + new.length), σ ++ [.buf 4 (els ++ new) false]) else none
          | .bs full id tot off len => match σ[id]? with
            | some (.buf k els ro) =>
              if els.length = tot ∧ k = 4 ∧ Ei (len + new.length) 64 then
                if off = 0 ∧ len = tot then some (.bs false id (tot + new.length) 0 (tot + new.length), σ.set id (.buf k (els ++ new) ro))
                else if new = [] then some (.bs full id tot off len, σ)
                else if full then some (.bs false σ.length (len + new.length) 0 (len + new.length), σ ++ [.buf k ((els.drop off).take len ++ new) false])
                else none
              else none
            | some (.tb T l) => U3 σ id tot off len 64 4 55 T l new
            | _ => none
          | _ => none)
        else none
      | none => none := Iy (AlI F) (AnA F) (by decide) (AlI F) (.inl ⟨_, rfl⟩) s x []
theorem Ajg {F} {σ : Ad} (f : Bool) (l : List Api_Value) (x : AV) : An (B.env F) σ 53 (.sl f (L cApi_Value l)) x = match idx x l.length with
    | some i => some (.rp (cApi_Value (nth l i)))
    | none => none := Jd cApi_Value (AlI F) (AnA F) (fun y => by rw [Lz]; rfl) f l x
theorem Alw {F} {σ : Ad} (f : Bool) (l : List UInt8) (x : AV) : An (B.env F) σ 52 (.sl f (L cU8 l)) x = match idx x l.length with
    | some i => some (.rp (cU8 (nth l i)))
    | none => none := Jd cU8 (AeY F) (tb5 F) (fun _ => rfl) f l x
theorem AeN {F} (a0 : Int) (a1 : Int) (a2 : Bool) (b0 : Int) (b1 : Int) (b2 : Bool) : Bi (B.env F) .neq 66 (.agg [i64 a0, i64 a1, .bool a2]) (.agg [i64 b0, i64 b1, .bool b2]) = some (.bool (!((a0 == b0) && ((a1 == b1) && (a2 == b2))))) :=
  Kl (AlL F) (by kernel_rfl) (by kernel_rfl) (Lk (by decide) (tb3 F) rfl rfl (M7 a0 b0) (Lk (by decide) (tb3 F) rfl rfl (M7 a1 b1) (Rz (by decide) (tb4 F) rfl rfl (Aei a2 b2))))
theorem AfD {F} (a0 : Int) (a1 : Int) (b0 : Int) (b1 : Int) : Bi (B.env F) .eql 38 (.agg [i64 a0, i64 a1]) (.agg [i64 b0, i64 b1]) = some (.bool (((a0 == b0) && (a1 == b1)))) :=
  Qc (Am2 F) (by kernel_rfl) (by kernel_rfl) (Lk (by decide) (tb3 F) rfl rfl (M7 a0 b0) (Rz (by decide) (tb3 F) rfl rfl (M7 a1 b1)))
theorem Am1 {F} : ((B.env F).bty = some 211) = False := eq_false (fun h : (some 108 : Option TypeId) = some 211 => absurd (Option.some.inj h) (by decide))
theorem AhG {F} {σ : Ad} (id off : Nat) (x : AV) : An (B.env F) σ 211 (.ref id off) x = match idx x 16 with
    | some i => some (.ref id (off + i * 1))
    | none => none := Ac4 (Ajx F) (AjK F) id off x
theorem Ana {F} {σ : Ad} (l c : Int) : Ep (B.env F) σ 52 (i64 l) (i64 c) = if Mk l c 1 then some (.bs (l == c) σ.length l.toNat 0 l.toNat, σ ++ [.buf 1 (List.replicate l.toNat [u8 ((0 : UInt8))]) false]) else none := AcF (AeY F) (tb5 F) (by decide) l c
theorem AkK {F} {σ : Ad} (f : Bool) (id tot off len : Nat) (x : AV) : An (B.env F) σ 72 (.bs f id tot off len) x = match σ[id]?, idx x len with
    | some (.buf k els _), some i => if els.length = tot ∧ k = 1 then some (.eref id tot (off + i) 0) else none
    | _, _ => none := Aci (AlJ F) (AeY F) (by decide) f id tot off len x
theorem nb71 {F} : ((B.env F).bty = some 71) = False := eq_false (fun h : (some 108 : Option TypeId) = some 71 => absurd (Option.some.inj h) (by decide))
theorem AfO {F} {σ : Ad} (s x : AV) : Bp (B.env F) σ .append [72, 72] [s, x] = match Ga σ x with
      | some new => if Gr x 1 = true then none else if ∀ cs ∈ new, cs.length = 1 then (match s with
          | .sl full els =>
            if els = [] ∧ full = true then
              if Ei new.length 24 then some (.bs false σ.length new.length 0 new.length, σ ++ [.buf 1 new false]) else none
            else if new = [] then some (.sl full els, σ)
            else if full = true ∧ (∀ cs ∈ els, cs.length = 1) ∧ Ei (els.length + new.length) 24
            then some (.bs false σ.length (els.length + new.length) 0 (els.length + new.length), σ ++ [.buf 1 (els ++ new) false]) else none
          | .bs full id tot off len => match σ[id]? with
            | some (.buf k els ro) =>
              if els.length = tot ∧ k = 1 ∧ Ei (len + new.length) 24 then
                if off = 0 ∧ len = tot then some (.bs false id (tot + new.length) 0 (tot + new.length), σ.set id (.buf k (els ++ new) ro))
                else if new = [] then some (.bs full id tot off len, σ)
                else if full then some (.bs false σ.length (len + new.length) 0 (len + new.length), σ ++ [.buf k ((els.drop off).take len ++ new) false])
                else none
              else none
            | some (.tb T l) => U3 σ id tot off len 24 1 52 T l new
            | _ => none
          | _ => none)
        else none
      | none => none := Iy (AlJ F) (AeY F) (by decide) (AlJ F) (.inl ⟨_, rfl⟩) s x []
theorem Ake {F} {σ : Ad} (f : Bool) (l : List Api_Place) (x : AV) : An (B.env F) σ 22 (.sl f (L Ah l)) x = match idx x l.length with
    | some i => some (.rp (Ah (nth l i)))
    | none => none := Jd Ah (tb22 F) (tb99 F) (fun _ => rfl) f l x
theorem nb99 {F} : ((B.env F).bty = some 99) = False := eq_false (fun h : (some 108 : Option TypeId) = some 99 => absurd (Option.some.inj h) (by decide))
theorem Aj8 {F} {σ : Ad} (f : Bool) (l : List Api_Edge) (x : AV) : An (B.env F) σ 23 (.sl f (L Ap l)) x = match idx x l.length with
    | some i => some (.rp (Ap (nth l i)))
    | none => none := Jd Ap (tb23 F) (Ajv F) (fun _ => rfl) f l x
theorem Ane {F} : ((B.env F).bty = some 103) = False := eq_false (fun h : (some 108 : Option TypeId) = some 103 => absurd (Option.some.inj h) (by decide))
theorem Ajb {F} {σ : Ad} (f : Bool) (l : List Api_Reader) (x : AV) : An (B.env F) σ 32 (.sl f (L Am l)) x = match idx x l.length with
    | some i => some (.rp (Am (nth l i)))
    | none => none := Jd Am (tb32 F) (tb94 F) (fun _ => rfl) f l x
theorem nb94 {F} : ((B.env F).bty = some 94) = False := eq_false (fun h : (some 108 : Option TypeId) = some 94 => absurd (Option.some.inj h) (by decide))
theorem AjN {F} {σ : Ad} (f : Bool) (l : List Api_Shipper) (x : AV) : An (B.env F) σ 33 (.sl f (L Al l)) x = match idx x l.length with
    | some i => some (.rp (Al (nth l i)))
    | none => none := Jd Al (tb33 F) (tb97 F) (fun _ => rfl) f l x
theorem nb97 {F} : ((B.env F).bty = some 97) = False := eq_false (fun h : (some 108 : Option TypeId) = some 97 => absurd (Option.some.inj h) (by decide))
theorem Ajw {F} {σ : Ad} (f : Bool) (l : List Api_Wagon) (x : AV) : An (B.env F) σ 27 (.sl f (L Ao l)) x = match idx x l.length with
    | some i => some (.rp (Ao (nth l i)))
    | none => none := Jd Ao (tb27 F) (Akg F) (fun _ => rfl) f l x
theorem AmS {F} : ((B.env F).bty = some 101) = False := eq_false (fun h : (some 108 : Option TypeId) = some 101 => absurd (Option.some.inj h) (by decide))
theorem AlD {F} {σ : Ad} (f : Bool) (l : List Api_RailwayInfo) (x : AV) : An (B.env F) σ 34 (.sl f (L Af l)) x = match idx x l.length with
    | some i => some (.rp (Af (nth l i)))
    | none => none := Jd Af (tb34 F) (tb90 F) (fun _ => rfl) f l x
theorem nb90 {F} : ((B.env F).bty = some 90) = False := eq_false (fun h : (some 108 : Option TypeId) = some 90 => absurd (Option.some.inj h) (by decide))
attribute [go_sem] lm0 own3 own4 own5 own6 own7 own8 AmQ Am6 An2 AmJ Aml Amy An1 AnP AmI AnB Aob AmB AmG Aos Amm AmF AmV Al8 Al1 AmE And Am9 AmT An7 AmR AmU AnS Amw AnF Aoe Amk Aoo AnM Am7 Amg Anq AmP AnR Aoq AnV Anm Al2 Am5 An4 Ant Am8 Anv Ama Al7 AlY Anj An5 Ams Ann Anb An0 Al9 Ami AnE Am3 Ano AlT Anl Amx AnK AmK Ame AlW AkU AlF Ak2 Aju AkG AkW AiV Ajc Alo Ald Ak3 AiD AiF AiQ Akw AkL AiK Aj3 Aj1 AiE AkA Aj4 AlH AjC Ajm Ak0 AiB Aly Ai7 AiZ AkM AjS AdY Afg Nr Zo Ac V3 Qa Xj Wh Yg Lz P8 Se Ah Ap V4 Ai Ao A7 A6 AbA Am Al AbN Sn Af Ac7 tb3 tb4 tb5 tb9 AbB tb22 tb23 tb25 tb27 tb31 tb32 tb33 tb34 tb36 Am2 AlO tb41 AeY AlI AnA AlL tb71 AlJ tb85 tb88 tb90 tb94 tb97 tb99 Akg Ajv AgI Anx Aj7 AiS Agd Ahv AiM AeS Aon AjK Ajx AnO AiJ AiR AgQ Py O2 Aks AjJ AjP Ajy Ah9 Ahg Agg AfE Aam Pt H5 Aoa AjB Ajs AjR AlC Akk Ajp AkH Akm Alt Alb AiN AjV AiU AkT Ala Ai5 AkV Aje Ago Ah7 Ag6 AgZ Agj AgY Aie Agc Agq AhO Ahb Agh Af9 Age Aim Agb AgD AgJ AeZ AjW AnW AcI Ae9 Anf AlV An6 Ako Ahm Tc AiW AiT Ry Akf Ajn Tl AiC Aix Ss Akz Akl Si Ai1 AkO R9 Ajt Alr Tu Alj Alx Rj Aky Aln Rt Ajr AlA R6 AjF AkE V0 Alg Alv nb66 Ah0 Ak4 Ahe AhZ Aj5 Ah1 AkQ AkI Afa nb41 Agn AgO nb55 Afk Ajg Alw AeN AfD Am1 AhG Ana AkK nb71 AfO Ake nb99 Aj8 Ane Ajb nb94 AjN nb97 Ajw AmS AlD nb90
def A8 (b : Strings_Builder) (a : List UInt8) : Option (Int × Bool × Strings_Builder) :=
 if Ei (b.buf.length + a.length) 1 then
  lt1 (b.buf ++ a) fun (c : List UInt8) =>
  some ((a.length : Int), false, ({ addr := (), buf := c } : Strings_Builder))
 else none
def Ak (a : Strings_Builder) (b : UInt8) : Option (Bool × Strings_Builder) :=
 if Ei (a.buf.length + 1) 1 then
  lt1 (a.buf ++ ([b] : List UInt8)) fun (c : List UInt8) =>
  some (false, ({ addr := (), buf := c } : Strings_Builder))
 else none
def D4 (b : List UInt8) (a : Int) (c : List UInt8) : Option ((Int × List UInt8) ⊕ (List UInt8)) :=
 if (decide (a < (b.length : Int))) = true then
  if InR a b.length then
   ((if (decide ((nth b a.toNat) < (32 : UInt8))) = true then
    some true
   else
    if (decide ((nth b a.toNat) > (126 : UInt8))) = true then
     some true
    else
     if ((nth b a.toNat) == (43 : UInt8)) = true then
      some true
     else
      if ((nth b a.toNat) == (39 : UInt8)) = true then
       some true
      else
       some ((nth b a.toNat) == (63 : UInt8)) : Option (Bool)).bind fun d =>
   if d = true then
    (Ak ({ addr := (), buf := c } : Strings_Builder) (63 : UInt8)).bind fun e =>
    lt1 e.2.buf fun (f : List UInt8) =>
    if InR ((Af0 (nth b a.toNat) (4 : UInt64).toNat).toNat : Int) (([48, 49, 50, 51, 52, 53, 54, 55, 56, 57, 97, 98, 99, 100, 101, 102] : List UInt8).length) then
     (Ak ({ addr := (), buf := f } : Strings_Builder) (nth ([48, 49, 50, 51, 52, 53, 54, 55, 56, 57, 97, 98, 99, 100, 101, 102] : List UInt8) ((Af0 (nth b a.toNat) (4 : UInt64).toNat).toNat))).bind fun g =>
     lt1 g.2.buf fun (i : List UInt8) =>
     if InR (((nth b a.toNat) &&& (15 : UInt8)).toNat : Int) (([48, 49, 50, 51, 52, 53, 54, 55, 56, 57, 97, 98, 99, 100, 101, 102] : List UInt8).length) then
      lt1 (nth ([48, 49, 50, 51, 52, 53, 54, 55, 56, 57, 97, 98, 99, 100, 101, 102] : List UInt8) (((nth b a.toNat) &&& (15 : UInt8)).toNat)) fun (j : UInt8) =>
      some (j, i)
     else none
    else none
   else
    some ((nth b a.toNat), c) : Option (UInt8 × List UInt8)).bind fun (k, l) =>
   (Ak ({ addr := (), buf := l } : Strings_Builder) k).bind fun m =>
   lt1 m.2.buf fun (n : List UInt8) =>
   some (.inl ((w64 (a + 1)), n))
  else none
 else
  some (.inr c)
def Gq (a : Strings_Builder) (b : List UInt8) : Option (Strings_Builder) :=
 (C6 (fun (v : Int × List UInt8) => D4 b v.1 v.2) (0, a.buf)).bind fun c =>
 some ({ addr := (), buf := c } : Strings_Builder)
def strconv_Itoa (n : Int) : Option (List UInt8) := Ahf n
def Ay (a : Int) (b : Strings_Builder) : Option (Strings_Builder) :=
 (strconv_Itoa a).bind fun c =>
 (A8 ({ addr := (), buf := b.buf } : Strings_Builder) c).bind fun d =>
 lt1 d.2.2.buf fun (e : List UInt8) =>
 some ({ addr := (), buf := e } : Strings_Builder)
def A0 (a : UInt8) (b : Strings_Builder) : Option (Strings_Builder) :=
 (Ak ({ addr := (), buf := b.buf } : Strings_Builder) (43 : UInt8)).bind fun c =>
 lt1 c.2.buf fun (d : List UInt8) =>
 (Ak ({ addr := (), buf := d } : Strings_Builder) a).bind fun e =>
 lt1 e.2.buf fun (f : List UInt8) =>
 some ({ addr := (), buf := f } : Strings_Builder)
def Dh (b : Api_Item) (a : Int) (c : List UInt8) : Option ((Int × List UInt8) ⊕ (List UInt8)) :=
 if (decide (a < (b.Parts.length : Int))) = true then
  if InR a b.Parts.length then
   lt1 ((nth b.Parts a.toNat).Kind) fun (d : Int) =>
   lt1 ((nth b.Parts a.toNat).Serial) fun (e : Int) =>
   lt1 ((nth b.Parts a.toNat).Fitted) fun (f : Bool) =>
   (A0 (113 : UInt8) ({ addr := (), buf := c } : Strings_Builder)).bind fun g =>
   (Ay d ({ addr := (), buf := g.buf } : Strings_Builder)).bind fun i =>
   (Ak ({ addr := (), buf := i.buf } : Strings_Builder) (46 : UInt8)).bind fun j =>
   (Ay e ({ addr := (), buf := j.2.buf } : Strings_Builder)).bind fun k =>
   (A8 ({ addr := (), buf := k.buf } : Strings_Builder) (if f = true then ([46, 49] : List UInt8) else ([46, 48] : List UInt8))).bind fun l =>
   some (.inl ((w64 (a + 1)), l.2.2.buf))
  else none
 else
  some (.inr c)
def Cy (a : Api_Item) : Option (List UInt8 × Int) :=
 (if (decide (a.Kind < 1)) = true then
  some true
 else
  some (decide (a.Kind ≥ 16)) : Option (Bool)).bind fun q =>
 if q = true then
  some (([] : List UInt8), 110)
 else
  if InR a.Kind 16 then
   (A8 ({ addr := (), buf := [] } : Strings_Builder) (glob0.get a.Kind.toNat)).bind fun c =>
   (if (!((a.Ref.Railway == 0) && (a.Ref.No == 0))) = true then
    (A0 (114 : UInt8) ({ addr := (), buf := c.2.2.buf } : Strings_Builder)).bind fun s =>
    (Ay a.Ref.Railway ({ addr := (), buf := s.buf } : Strings_Builder)).bind fun t =>
    (Ak ({ addr := (), buf := t.buf } : Strings_Builder) (46 : UInt8)).bind fun u =>
    (Ay a.Ref.No ({ addr := (), buf := u.2.buf } : Strings_Builder)).bind fun w =>
    some w.buf
   else
    some c.2.2.buf : Option (List UInt8)).bind fun d =>
   ((if (a.Wagon != 0) = true then
    (A0 (119 : UInt8) ({ addr := (), buf := d } : Strings_Builder)).bind fun x =>
    (Ay a.Wagon ({ addr := (), buf := x.buf } : Strings_Builder)).bind fun y =>
    some y.buf
   else
    some d : Option (List UInt8)).bind fun e =>
   (if (a.Place != 0) = true then
    (A0 (112 : UInt8) ({ addr := (), buf := e } : Strings_Builder)).bind fun z =>
    (Ay a.Place ({ addr := (), buf := z.buf } : Strings_Builder)).bind fun aa =>
    some aa.buf
   else
    some e : Option (List UInt8)).bind fun f =>
   (if (a.Other != 0) = true then
    (A0 (111 : UInt8) ({ addr := (), buf := f } : Strings_Builder)).bind fun ab =>
    (Ay a.Other ({ addr := (), buf := ab.buf } : Strings_Builder)).bind fun ac =>
    some ac.buf
   else
    some f : Option (List UInt8)).bind fun g =>
   (if (a.Number != 0) = true then
    (A0 (110 : UInt8) ({ addr := (), buf := g } : Strings_Builder)).bind fun ad =>
    (Ay a.Number ({ addr := (), buf := ad.buf } : Strings_Builder)).bind fun ae =>
    some ae.buf
   else
    some g : Option (List UInt8)).bind fun i =>
   (if (a.From != 0) = true then
    (A0 (102 : UInt8) ({ addr := (), buf := i } : Strings_Builder)).bind fun af =>
    (Ay a.From ({ addr := (), buf := af.buf } : Strings_Builder)).bind fun ag =>
    some ag.buf
   else
    some i : Option (List UInt8)).bind fun j =>
   (if (a.To != 0) = true then
    (A0 (116 : UInt8) ({ addr := (), buf := j } : Strings_Builder)).bind fun ah =>
    (Ay a.To ({ addr := (), buf := ah.buf } : Strings_Builder)).bind fun ai =>
    some ai.buf
   else
    some j : Option (List UInt8)).bind fun k =>
   (if (a.Code != 0) = true then
    (A0 (99 : UInt8) ({ addr := (), buf := k } : Strings_Builder)).bind fun aj =>
    (Ay a.Code ({ addr := (), buf := aj.buf } : Strings_Builder)).bind fun ak =>
    some ak.buf
   else
    some k : Option (List UInt8)).bind fun l =>
   (if (a.Dest != 0) = true then
    (A0 (100 : UInt8) ({ addr := (), buf := l } : Strings_Builder)).bind fun al =>
    (Ay a.Dest ({ addr := (), buf := al.buf } : Strings_Builder)).bind fun am =>
    some am.buf
   else
    some l : Option (List UInt8)).bind fun m =>
   (if (a.Class != 0) = true then
    (A0 (107 : UInt8) ({ addr := (), buf := m } : Strings_Builder)).bind fun an =>
    (Ay a.Class ({ addr := (), buf := an.buf } : Strings_Builder)).bind fun ao =>
    some ao.buf
   else
    some m : Option (List UInt8)).bind fun n =>
   (if (a.Weight != 0) = true then
    (A0 (103 : UInt8) ({ addr := (), buf := n } : Strings_Builder)).bind fun ap =>
    (Ay a.Weight ({ addr := (), buf := ap.buf } : Strings_Builder)).bind fun aq =>
    some aq.buf
   else
    some n : Option (List UInt8)).bind fun o =>
   (if (a.Amount != 0) = true then
    (A0 (97 : UInt8) ({ addr := (), buf := o } : Strings_Builder)).bind fun ar =>
    (Ay a.Amount ({ addr := (), buf := ar.buf } : Strings_Builder)).bind fun au =>
    some au.buf
   else
    some o : Option (List UInt8)).bind fun av =>
   some av : Option (List UInt8)).bind fun p =>
   (if (!(a.Text == ([] : List UInt8))) = true then
    (A0 (120 : UInt8) ({ addr := (), buf := p } : Strings_Builder)).bind fun aw =>
    (Gq ({ addr := (), buf := aw.buf } : Strings_Builder) a.Text).bind fun ax =>
    some ax.buf
   else
    some p : Option (List UInt8)).bind fun ay =>
   ((C6 (fun (v : Int × List UInt8) => Dh a v.1 v.2) (0, ay)).bind fun az =>
   some az : Option (List UInt8)).bind fun aA =>
   (Ak ({ addr := (), buf := aA } : Strings_Builder) (39 : UInt8)).bind fun b =>
   if (decide ((b.2.buf.length : Int) > 65536)) = true then
    some (([] : List UInt8), 2)
   else
    if ¬b.2.buf = [] then
     if Ei b.2.buf.length 1 then
      some (b.2.buf, 0)
     else none
    else none
  else none
def Gl (s sep : List UInt8) : Option Int := Acj s sep
def Ce (l : List UInt8) (c : UInt8) : Option (Int) := Ta l c
def Bq (a : List UInt8) (b : UInt8) : Option (Int) :=
 (Ce a b).bind fun c =>
 some c
def Db (a : List UInt8) (b : UInt8) : Option (Int) :=
 (Bq a b).bind fun c =>
 some c
def D1 (b : List UInt8) (a : List UInt8) : Option (Int) :=
 (if ((a.length : Int) == 0) = true then
  some true
 else
  some (a == b) : Option (Bool)).bind fun c =>
 if c = true then
  some 0
 else
  if ((a.length : Int) == 1) = true then
   if InR 0 a.length then
    (Bq b (nth a 0)).bind fun d =>
    some d
   else none
  else
   if (decide ((a.length : Int) ≥ (b.length : Int))) = true then
    some (-1)
   else
    none
def D8 (a : List UInt8) (b : List UInt8) : Option (Int) :=
 (D1 a b).bind fun c =>
 some c
def B1 (d : List UInt8) (f : Int) (g : Int) (a : List UInt8) (b : Int) (e : List (List UInt8)) : Option ((List UInt8 × Int × List (List UInt8)) ⊕ (List UInt8 × Int × List (List UInt8))) :=
 if (decide (b < (w64 (g - 1)))) = true then
  (D8 a d).bind fun c =>
  if (decide (c < 0)) = true then
   some (.inr (a, b, e))
  else
   if InB (w64 (c + f)) a.length then
    if InR b e.length then
     lt1 (e.set b.toNat (a.take ((w64 (c + f)).toNat))) fun (i : List (List UInt8)) =>
     if InB (w64 (c + (d.length : Int))) a.length then
      lt1 ((a.drop ((w64 (c + (d.length : Int))).toNat)).take (a.length - (w64 (c + (d.length : Int))).toNat)) fun (j : List UInt8) =>
      some (.inl (j, (w64 (b + 1)), i))
     else none
    else none
   else none
 else
  some (.inr (a, b, e))
def Eg (c : List UInt8) (d : List UInt8) (i : Int) (e : Int) : Option (List (List UInt8)) :=
 if (e == 0) = true then
  some ([])
 else
  if (d == ([] : List UInt8)) = true then
   none
  else
   (if (decide (e < 0)) = true then
    (Gl c d).bind fun j =>
    some (w64 (j + 1))
   else
    some e : Option (Int)).bind fun k =>
   lt1 (Wa k (w64 ((c.length : Int) + 1))) fun (a : Int) =>
   if Mk a a 16 then
    lt1 (List.replicate a.toNat ([] : List UInt8)) fun (l : List (List UInt8)) =>
    ((C6 (fun (v : List UInt8 × Int × List (List UInt8)) => B1 d i a v.1 v.2.1 v.2.2) (c, 0, l)).bind fun (m, n, o) =>
    some (m, n, o) : Option (List UInt8 × Int × List (List UInt8))).bind fun (p, b, f) =>
    if InR b f.length then
     lt1 (f.set b.toNat p) fun (g : List (List UInt8)) =>
     if InB (w64 (b + 1)) g.length then
      some (g.take ((w64 (b + 1)).toNat))
     else none
    else none
   else none
def E9 (a : List UInt8) (b : List UInt8) : Option (List (List UInt8)) :=
 (Eg a b 0 (-1)).bind fun c =>
 some c
def C3 (a : List UInt8) (b : List UInt8) : Option (Bool) :=
 (if (decide ((a.length : Int) ≥ (b.length : Int))) = true then
  if InB (w64 ((a.length : Int) - (b.length : Int))) a.length then
   some (((a.drop ((w64 ((a.length : Int) - (b.length : Int))).toNat)).take (a.length - (w64 ((a.length : Int) - (b.length : Int))).toNat)) == b)
  else none
 else
  some false : Option (Bool)).bind fun c =>
 some c
def C5 (a : List UInt8) (b : List UInt8) : Option (List UInt8 × Bool) :=
 (C3 a b).bind fun c =>
 if (!c) = true then
  some (a, false)
 else
  if InB (w64 ((a.length : Int) - (b.length : Int))) a.length then
   lt1 (a.take ((w64 ((a.length : Int) - (b.length : Int))).toNat)) fun (d : List UInt8) =>
   some (d, true)
  else none
def C9 (b : List UInt8) (c : List UInt8) : Option (List UInt8 × Bool) :=
 (C5 b c).bind fun a =>
 some (a.1, a.2)
def C4 (b : List (List UInt8)) (c : List UInt8) (a : Int) : Option ((Int) ⊕ ((Unit) ⊕ ((Unit) ⊕ (Int)))) :=
 if (decide (a < (b.length : Int))) = true then
  if InR a b.length then
   if (c == (nth b a.toNat)) = true then
    ((some a).bind fun d => some (.inr d)).bind fun e => some (.inr (.inr e))
   else
    some (.inl (w64 (a + 1)))
  else none
 else
  some (.inr (.inl ()))
def B7 (a : List (List UInt8)) (b : List UInt8) : Option (Int) :=
 ((C6 (fun (v : Int) => C4 a b v) 0).bind fun x => match x with
 | .inl () =>
  some (.inl ())
 | .inr z => some z : Option ((Unit) ⊕ (Int))).bind fun x => match x with
 | .inl () =>
  some (-1)
 | .inr z => some z
def Be (s : List UInt8) (n : Int) : Option (List Int × Bool) := Pi s n
def Dw (a : UInt8) : Option (UInt8) :=
 some (a ||| (32 : UInt8))
def Bb (b : List UInt8) (g : UInt64) (e : UInt64) (f : UInt64) (a : Int) : Option ((UInt64 × Int) ⊕ ((UInt64) ⊕ ((UInt64) ⊕ (UInt64 × Int)))) :=
 if (decide (a < (b.length : Int))) = true then
  (if InR a b.length then
   ((if (nth b a.toNat == (95 : UInt8)) = true then
    some ()
   else
    some () : Option (Unit)).bind fun _ =>
   (if (decide ((48 : UInt8) ≤ nth b a.toNat)) = true then
    some (decide (nth b a.toNat ≤ (57 : UInt8)))
   else
    some false : Option (Bool)).bind fun i =>
   if i = true then
    lt1 (nth b a.toNat - (48 : UInt8)) fun (j : UInt8) =>
    some (.inl j)
   else
    ((Dw (nth b a.toNat)).bind fun k =>
    if (decide ((97 : UInt8) ≤ k)) = true then
     (Dw (nth b a.toNat)).bind fun l =>
     some (decide (l ≤ (122 : UInt8)))
    else
     some false : Option (Bool)).bind fun m =>
    if m = true then
     (Dw (nth b a.toNat)).bind fun n =>
     lt1 ((n - (97 : UInt8)) + (10 : UInt8)) fun (o : UInt8) =>
     some (.inl o)
    else
     ((((some ((0 : UInt64), 2)).bind fun p => some (.inr p)).bind fun q => some (.inr (.inr q))).bind fun s => some (.inr s)).bind fun t => some (.inr t) : Option ((UInt8) ⊕ ((UInt64) ⊕ ((UInt64 × Int) ⊕ ((UInt64) ⊕ ((UInt64) ⊕ (UInt64 × Int))))))).bind fun x => match x with
   | .inl c =>
    if (decide (c ≥ (UInt8.ofInt 16))) = true then
     (((some ((0 : UInt64), 2)).bind fun u => some (.inr u)).bind fun v => some (.inr (.inr v))).bind fun w => some (.inr w)
    else
     if (decide (f ≥ g)) = true then
      (((some (e, 1)).bind fun y => some (.inr y)).bind fun aa => some (.inr (.inr aa))).bind fun ab => some (.inr ab)
     else
      lt1 (f * (UInt64.ofInt 16)) fun (d : UInt64) =>
      (if (decide ((d + c.toUInt64) < d)) = true then
       some true
      else
       some (decide ((d + c.toUInt64) > e)) : Option (Bool)).bind fun ac =>
      if ac = true then
       (((some (e, 1)).bind fun ad => some (.inr ad)).bind fun ae => some (.inr (.inr ae))).bind fun af => some (.inr af)
      else
       some (.inl (d + c.toUInt64))
   | .inr z => some z
  else none : Option ((UInt64) ⊕ ((UInt64 × Int) ⊕ ((UInt64) ⊕ ((UInt64) ⊕ (UInt64 × Int)))))).bind fun x => match x with
  | .inl ag =>
   some (.inl (ag, (w64 (a + 1))))
  | .inr z => some z
 else
  some (.inr (.inl f))
def Bw (a : List UInt8) : Option (UInt64 × Int) :=
 if (a == ([] : List UInt8)) = true then
  some ((0 : UInt64), 2)
 else
  (some () : Option (Unit)).bind fun () =>
  (some () : Option (Unit)).bind fun () =>
  (lt1 (1152921504606846976 : UInt64) fun (b : UInt64) =>
  some b : Option (UInt64)).bind fun c =>
  lt1 ((Adz (1 : UInt64) (UInt64.ofInt 8).toNat) - (1 : UInt64)) fun (d : UInt64) =>
  ((C6 (fun (v : UInt64 × Int) => Bb a c d v.1 v.2) ((0 : UInt64), 0)).bind fun x => match x with
  | .inl e =>
   some (.inl e)
  | .inr z => some z : Option ((UInt64) ⊕ (UInt64 × Int))).bind fun x => match x with
  | .inl f =>
   some (f, 0)
  | .inr z => some z
def B4 (s : List UInt8) (b c : Int) : Option (UInt64 × Bool) := if b = 16 ∧ c = 8 ∧ s.length ≤ 281474976710656 then (Bw s).bind fun r => if r.2 = 0 ∨ r.2 = 1 ∨ r.2 = 2 then some (r.1, r.2 != 0) else none else none
def Bz (b : List UInt8) (a : Int) (c : List UInt8) : Option ((Int × List UInt8) ⊕ ((List UInt8) ⊕ ((List UInt8) ⊕ (List UInt8 × Bool)))) :=
 if (decide (a < (b.length : Int))) = true then
  if InR a b.length then
   (if ((nth b a.toNat) == (63 : UInt8)) = true then
    if (decide ((w64 (a + 2)) ≥ (b.length : Int))) = true then
     (((some (([] : List UInt8), false)).bind fun e => some (.inr e)).bind fun f => some (.inr (.inr f))).bind fun g => some (.inr g)
    else
     if InB (w64 (a + 3)) b.length then
      if InB (w64 (a + 1)) ((w64 (a + 3)).toNat) then
       (B4 ((b.drop ((w64 (a + 1)).toNat)).take ((w64 (a + 3)).toNat - (w64 (a + 1)).toNat)) 16 8).bind fun d =>
       if (!!d.2) = true then
        (((some (([] : List UInt8), false)).bind fun i => some (.inr i)).bind fun j => some (.inr (.inr j))).bind fun k => some (.inr k)
       else
        some (.inl ((w64 (a + 2)), d.1.toUInt8))
      else none
     else none
   else
    some (.inl (a, (nth b a.toNat))) : Option ((Int × UInt8) ⊕ ((Int × List UInt8) ⊕ ((List UInt8) ⊕ ((List UInt8) ⊕ (List UInt8 × Bool)))))).bind fun x => match x with
   | .inl (l, m) =>
    (Ak ({ addr := (), buf := c } : Strings_Builder) m).bind fun n =>
    some (.inl ((w64 (l + 1)), n.2.buf))
   | .inr z => some z
  else none
 else
  some (.inr (.inl c))
def Ee (b : List UInt8) : Option (List UInt8 × Bool) :=
 ((C6 (fun (v : Int × List UInt8) => Bz b v.1 v.2) (0, [])).bind fun x => match x with
 | .inl c =>
  some (.inl c)
 | .inr z => some z : Option ((List UInt8) ⊕ (List UInt8 × Bool))).bind fun x => match x with
 | .inl a =>
  if ¬a = [] then
   if Ei a.length 1 then
    some (a, true)
   else none
  else none
 | .inr z => some z
def C2 (s : List UInt8) : Option (List UInt8 × Bool) := if s = [] then some ([], true) else Ee s
def Cg (a : Api_Item) (b : List UInt8) : Option (Bool × Api_Item) :=
 if (b == ([] : List UInt8)) = true then
  some (false, a)
 else
  (if InR 0 b.length then
   (Db ([119, 112, 111, 110, 102, 116, 99, 100, 107, 103, 97] : List UInt8) (nth b 0)).bind fun u =>
   lt1 u fun (c : Int) =>
   if (c == 0) = true then
    if InB 1 b.length then
     (Be ((b.drop 1).take (b.length - 1)) 1).bind fun f =>
     if f.2 = true then
      if InR 0 f.1.length then
       some (f.2, a.Ref.Railway, a.Ref.No, nth f.1 0, a.Place, a.Other, a.Number, a.From, a.To, a.Code, a.Dest, a.Class, a.Weight, a.Amount, a.Text, a.Parts)
      else none
     else
      some (f.2, a.Ref.Railway, a.Ref.No, a.Wagon, a.Place, a.Other, a.Number, a.From, a.To, a.Code, a.Dest, a.Class, a.Weight, a.Amount, a.Text, a.Parts)
    else none
   else
    if (c == 1) = true then
     if InB 1 b.length then
      (Be ((b.drop 1).take (b.length - 1)) 1).bind fun g =>
      if g.2 = true then
       if InR 0 g.1.length then
        some (g.2, a.Ref.Railway, a.Ref.No, a.Wagon, nth g.1 0, a.Other, a.Number, a.From, a.To, a.Code, a.Dest, a.Class, a.Weight, a.Amount, a.Text, a.Parts)
       else none
      else
       some (g.2, a.Ref.Railway, a.Ref.No, a.Wagon, a.Place, a.Other, a.Number, a.From, a.To, a.Code, a.Dest, a.Class, a.Weight, a.Amount, a.Text, a.Parts)
     else none
    else
     if (c == 2) = true then
      if InB 1 b.length then
       (Be ((b.drop 1).take (b.length - 1)) 1).bind fun i =>
       if i.2 = true then
        if InR 0 i.1.length then
         some (i.2, a.Ref.Railway, a.Ref.No, a.Wagon, a.Place, nth i.1 0, a.Number, a.From, a.To, a.Code, a.Dest, a.Class, a.Weight, a.Amount, a.Text, a.Parts)
        else none
       else
        some (i.2, a.Ref.Railway, a.Ref.No, a.Wagon, a.Place, a.Other, a.Number, a.From, a.To, a.Code, a.Dest, a.Class, a.Weight, a.Amount, a.Text, a.Parts)
      else none
     else
      if (c == 3) = true then
       if InB 1 b.length then
        (Be ((b.drop 1).take (b.length - 1)) 1).bind fun j =>
        if j.2 = true then
         if InR 0 j.1.length then
          some (j.2, a.Ref.Railway, a.Ref.No, a.Wagon, a.Place, a.Other, nth j.1 0, a.From, a.To, a.Code, a.Dest, a.Class, a.Weight, a.Amount, a.Text, a.Parts)
         else none
        else
         some (j.2, a.Ref.Railway, a.Ref.No, a.Wagon, a.Place, a.Other, a.Number, a.From, a.To, a.Code, a.Dest, a.Class, a.Weight, a.Amount, a.Text, a.Parts)
       else none
      else
       if (c == 4) = true then
        if InB 1 b.length then
         (Be ((b.drop 1).take (b.length - 1)) 1).bind fun k =>
         if k.2 = true then
          if InR 0 k.1.length then
           some (k.2, a.Ref.Railway, a.Ref.No, a.Wagon, a.Place, a.Other, a.Number, nth k.1 0, a.To, a.Code, a.Dest, a.Class, a.Weight, a.Amount, a.Text, a.Parts)
          else none
         else
          some (k.2, a.Ref.Railway, a.Ref.No, a.Wagon, a.Place, a.Other, a.Number, a.From, a.To, a.Code, a.Dest, a.Class, a.Weight, a.Amount, a.Text, a.Parts)
        else none
       else
        if (c == 5) = true then
         if InB 1 b.length then
          (Be ((b.drop 1).take (b.length - 1)) 1).bind fun l =>
          if l.2 = true then
           if InR 0 l.1.length then
            some (l.2, a.Ref.Railway, a.Ref.No, a.Wagon, a.Place, a.Other, a.Number, a.From, nth l.1 0, a.Code, a.Dest, a.Class, a.Weight, a.Amount, a.Text, a.Parts)
           else none
          else
           some (l.2, a.Ref.Railway, a.Ref.No, a.Wagon, a.Place, a.Other, a.Number, a.From, a.To, a.Code, a.Dest, a.Class, a.Weight, a.Amount, a.Text, a.Parts)
         else none
        else
         if (c == 6) = true then
          if InB 1 b.length then
           (Be ((b.drop 1).take (b.length - 1)) 1).bind fun m =>
           if m.2 = true then
            if InR 0 m.1.length then
             some (m.2, a.Ref.Railway, a.Ref.No, a.Wagon, a.Place, a.Other, a.Number, a.From, a.To, nth m.1 0, a.Dest, a.Class, a.Weight, a.Amount, a.Text, a.Parts)
            else none
           else
            some (m.2, a.Ref.Railway, a.Ref.No, a.Wagon, a.Place, a.Other, a.Number, a.From, a.To, a.Code, a.Dest, a.Class, a.Weight, a.Amount, a.Text, a.Parts)
          else none
         else
          if (c == 7) = true then
           if InB 1 b.length then
            (Be ((b.drop 1).take (b.length - 1)) 1).bind fun n =>
            if n.2 = true then
             if InR 0 n.1.length then
              some (n.2, a.Ref.Railway, a.Ref.No, a.Wagon, a.Place, a.Other, a.Number, a.From, a.To, a.Code, nth n.1 0, a.Class, a.Weight, a.Amount, a.Text, a.Parts)
             else none
            else
             some (n.2, a.Ref.Railway, a.Ref.No, a.Wagon, a.Place, a.Other, a.Number, a.From, a.To, a.Code, a.Dest, a.Class, a.Weight, a.Amount, a.Text, a.Parts)
           else none
          else
           if (c == 8) = true then
            if InB 1 b.length then
             (Be ((b.drop 1).take (b.length - 1)) 1).bind fun o =>
             if o.2 = true then
              if InR 0 o.1.length then
               some (o.2, a.Ref.Railway, a.Ref.No, a.Wagon, a.Place, a.Other, a.Number, a.From, a.To, a.Code, a.Dest, nth o.1 0, a.Weight, a.Amount, a.Text, a.Parts)
              else none
             else
              some (o.2, a.Ref.Railway, a.Ref.No, a.Wagon, a.Place, a.Other, a.Number, a.From, a.To, a.Code, a.Dest, a.Class, a.Weight, a.Amount, a.Text, a.Parts)
            else none
           else
            if (c == 9) = true then
             if InB 1 b.length then
              (Be ((b.drop 1).take (b.length - 1)) 1).bind fun p =>
              if p.2 = true then
               if InR 0 p.1.length then
                some (p.2, a.Ref.Railway, a.Ref.No, a.Wagon, a.Place, a.Other, a.Number, a.From, a.To, a.Code, a.Dest, a.Class, nth p.1 0, a.Amount, a.Text, a.Parts)
               else none
              else
               some (p.2, a.Ref.Railway, a.Ref.No, a.Wagon, a.Place, a.Other, a.Number, a.From, a.To, a.Code, a.Dest, a.Class, a.Weight, a.Amount, a.Text, a.Parts)
             else none
            else
             if (c == 10) = true then
              if InB 1 b.length then
               (Be ((b.drop 1).take (b.length - 1)) 1).bind fun q =>
               if q.2 = true then
                if InR 0 q.1.length then
                 some (q.2, a.Ref.Railway, a.Ref.No, a.Wagon, a.Place, a.Other, a.Number, a.From, a.To, a.Code, a.Dest, a.Class, a.Weight, nth q.1 0, a.Text, a.Parts)
                else none
               else
                some (q.2, a.Ref.Railway, a.Ref.No, a.Wagon, a.Place, a.Other, a.Number, a.From, a.To, a.Code, a.Dest, a.Class, a.Weight, a.Amount, a.Text, a.Parts)
              else none
             else
              if (decide (c ≥ 0)) = true then
               if InB 1 b.length then
                (Be ((b.drop 1).take (b.length - 1)) 1).bind fun s =>
                if s.2 = true then
                 none
                else
                 some (s.2, a.Ref.Railway, a.Ref.No, a.Wagon, a.Place, a.Other, a.Number, a.From, a.To, a.Code, a.Dest, a.Class, a.Weight, a.Amount, a.Text, a.Parts)
               else none
              else
               if InR 0 b.length then
                if ((nth b 0) == (114 : UInt8)) = true then
                 if InB 1 b.length then
                  (Be ((b.drop 1).take (b.length - 1)) 2).bind fun e =>
                  if e.2 = true then
                   if InR 0 e.1.length then
                    if InR 1 e.1.length then
                     some (e.2, nth e.1 0, nth e.1 1, a.Wagon, a.Place, a.Other, a.Number, a.From, a.To, a.Code, a.Dest, a.Class, a.Weight, a.Amount, a.Text, a.Parts)
                    else none
                   else none
                  else
                   some (e.2, a.Ref.Railway, a.Ref.No, a.Wagon, a.Place, a.Other, a.Number, a.From, a.To, a.Code, a.Dest, a.Class, a.Weight, a.Amount, a.Text, a.Parts)
                 else none
                else
                 if InR 0 b.length then
                  if ((nth b 0) == (120 : UInt8)) = true then
                   if InB 1 b.length then
                    (C2 ((b.drop 1).take (b.length - 1))).bind fun t =>
                    some (t.2, a.Ref.Railway, a.Ref.No, a.Wagon, a.Place, a.Other, a.Number, a.From, a.To, a.Code, a.Dest, a.Class, a.Weight, a.Amount, t.1, a.Parts)
                   else none
                  else
                   if InR 0 b.length then
                    if ((nth b 0) == (113 : UInt8)) = true then
                     if InB 1 b.length then
                      (Be ((b.drop 1).take (b.length - 1)) 3).bind fun d =>
                      if d.2 = true then
                       if InR 0 d.1.length then
                        if InR 1 d.1.length then
                         if InR 2 d.1.length then
                          if Ei (a.Parts.length + 1) 24 then
                           lt1 (a.Parts ++ ([({ Kind := nth d.1 0, Serial := nth d.1 1, Fitted := (nth d.1 2 == 1) } : Api_Part)] : List Api_Part)) fun (v : List Api_Part) =>
                           some (d.2, a.Ref.Railway, a.Ref.No, a.Wagon, a.Place, a.Other, a.Number, a.From, a.To, a.Code, a.Dest, a.Class, a.Weight, a.Amount, a.Text, v)
                          else none
                         else none
                        else none
                       else none
                      else
                       some (d.2, a.Ref.Railway, a.Ref.No, a.Wagon, a.Place, a.Other, a.Number, a.From, a.To, a.Code, a.Dest, a.Class, a.Weight, a.Amount, a.Text, a.Parts)
                     else none
                    else
                     some (false, a.Ref.Railway, a.Ref.No, a.Wagon, a.Place, a.Other, a.Number, a.From, a.To, a.Code, a.Dest, a.Class, a.Weight, a.Amount, a.Text, a.Parts)
                   else none
                 else none
               else none
  else none : Option (Bool × Int × Int × Int × Int × Int × Int × Int × Int × Int × Int × Int × Int × Int × List UInt8 × List Api_Part)).bind fun (w, x, y, z, aa, ab, ac, ad, ae, af, ag, ah, ai, aj, ak, al) =>
  some (w, ({ Kind := a.Kind, Ref := ({ Railway := x, No := y } : Api_Ref), Wagon := z, Place := aa, Other := ab, Number := ac, From := ad, To := ae, Code := af, Dest := ag, Class := ah, Weight := ai, Amount := aj, Text := ak, Parts := al } : Api_Item))
def Eo (b : List (List UInt8)) (c : Int) (d : Int) (e : Int) (f : Int) (g : Int) (i : Int) (j : Int) (k : Int) (l : Int) (m : Int) (n : Int) (o : Int) (p : Int) (q : Int) (s : Int) (t : List UInt8) (u : List Api_Part) : Option ((Int × Int × Int × Int × Int × Int × Int × Int × Int × Int × Int × Int × Int × Int × Int × List UInt8 × List Api_Part) ⊕ ((Int × Int × Int × Int × Int × Int × Int × Int × Int × Int × Int × Int × Int × Int × List UInt8 × List Api_Part) ⊕ ((Int × Int × Int × Int × Int × Int × Int × Int × Int × Int × Int × Int × Int × Int × List UInt8 × List Api_Part) ⊕ (Api_Item × Int)))) :=
 lt1 (decide (c < (((b.drop 1).take (b.length - 1)).length : Int))) fun (v : Bool) =>
 if v = true then
  if InR c (((b.drop 1).take (b.length - 1)).length) then
   lt1 (nth ((b.drop 1).take (b.length - 1)) c.toNat) fun (w : List UInt8) =>
   (Cg ({ Kind := d, Ref := ({ Railway := e, No := f } : Api_Ref), Wagon := g, Place := i, Other := j, Number := k, From := l, To := m, Code := n, Dest := o, Class := p, Weight := q, Amount := s, Text := t, Parts := u } : Api_Item) w).bind fun a =>
   lt1 a.2.Parts fun (x : List Api_Part) =>
   if (!a.1) = true then
    ((some (({ Kind := 0, Ref := ({ Railway := 0, No := 0 } : Api_Ref), Wagon := 0, Place := 0, Other := 0, Number := 0, From := 0, To := 0, Code := 0, Dest := 0, Class := 0, Weight := 0, Amount := 0, Text := ([] : List UInt8), Parts := [] } : Api_Item), 4)).bind fun y => some (.inr y)).bind fun z => some (.inr (.inr z))
   else
    some (.inl ((w64 (c + 1)), a.2.Kind, a.2.Ref.Railway, a.2.Ref.No, a.2.Wagon, a.2.Place, a.2.Other, a.2.Number, a.2.From, a.2.To, a.2.Code, a.2.Dest, a.2.Class, a.2.Weight, a.2.Amount, a.2.Text, x))
  else none
 else
  some (.inr (.inl (d, e, f, g, i, j, k, l, m, n, o, p, q, s, t, u)))
def E3 (b : List UInt8) : Option (Api_Item × Int) :=
 if (decide ((b.length : Int) > 65536)) = true then
  some (({ Kind := 0, Ref := ({ Railway := 0, No := 0 } : Api_Ref), Wagon := 0, Place := 0, Other := 0, Number := 0, From := 0, To := 0, Code := 0, Dest := 0, Class := 0, Weight := 0, Amount := 0, Text := ([] : List UInt8), Parts := [] } : Api_Item), 2)
 else
  (C9 b ([39] : List UInt8)).bind fun y =>
  (E9 y.1 ([43] : List UInt8)).bind fun a =>
  if InR 0 a.length then
   (B7 glob0.l (nth a 0)).bind fun aa =>
   (if InB 1 a.length then
    (C6 (fun (v : Int × Int × Int × Int × Int × Int × Int × Int × Int × Int × Int × Int × Int × Int × Int × List UInt8 × List Api_Part) => Eo a v.1 v.2.1 v.2.2.1 v.2.2.2.1 v.2.2.2.2.1 v.2.2.2.2.2.1 v.2.2.2.2.2.2.1 v.2.2.2.2.2.2.2.1 v.2.2.2.2.2.2.2.2.1 v.2.2.2.2.2.2.2.2.2.1 v.2.2.2.2.2.2.2.2.2.2.1 v.2.2.2.2.2.2.2.2.2.2.2.1 v.2.2.2.2.2.2.2.2.2.2.2.2.1 v.2.2.2.2.2.2.2.2.2.2.2.2.2.1 v.2.2.2.2.2.2.2.2.2.2.2.2.2.2.1 v.2.2.2.2.2.2.2.2.2.2.2.2.2.2.2.1 v.2.2.2.2.2.2.2.2.2.2.2.2.2.2.2.2) (0, aa, 0, 0, 0, 0, 0, 0, 0, 0, 0, 0, 0, 0, 0, ([] : List UInt8), [])).bind fun x => match x with
    | .inl (ab, ac, ad, ae, af, ag, ah, ai, aj, ak, al, am, an, ao, ap, aq) =>
     some (.inl (ab, ac, ad, ae, af, ag, ah, ai, aj, ak, al, am, an, ao, ap, aq))
    | .inr z => some z
   else none : Option ((Int × Int × Int × Int × Int × Int × Int × Int × Int × Int × Int × Int × Int × Int × List UInt8 × List Api_Part) ⊕ (Api_Item × Int))).bind fun x => match x with
   | .inl (c, d, e, f, g, i, j, k, m, n, o, p, q, s, t, u) =>
    (Cy ({ Kind := c, Ref := ({ Railway := d, No := e } : Api_Ref), Wagon := f, Place := g, Other := i, Number := j, From := k, To := m, Code := n, Dest := o, Class := p, Weight := q, Amount := s, Text := t, Parts := u } : Api_Item)).bind fun w =>
    (if (w.2 != 0) = true then
     some true
    else
     some (!(w.1 == b)) : Option (Bool)).bind fun ar =>
    if ar = true then
     some (({ Kind := 0, Ref := ({ Railway := 0, No := 0 } : Api_Ref), Wagon := 0, Place := 0, Other := 0, Number := 0, From := 0, To := 0, Code := 0, Dest := 0, Class := 0, Weight := 0, Amount := 0, Text := ([] : List UInt8), Parts := [] } : Api_Item), 4)
    else
     some (({ Kind := c, Ref := ({ Railway := d, No := e } : Api_Ref), Wagon := f, Place := g, Other := i, Number := j, From := k, To := m, Code := n, Dest := o, Class := p, Weight := q, Amount := s, Text := t, Parts := u } : Api_Item), 0)
   | .inr z => some z
  else none
def Gv (a : Api_Item) : Option (Bool) :=
 (if (decide ((a.Text.length : Int) ≤ 2000)) = true then
  some (decide ((a.Parts.length : Int) ≤ 20))
 else
  some false : Option (Bool)).bind fun b =>
 some b
def Bf (a : Int) : Option (Api_Value) :=
 some (Api_Value.mk 1 a ([]) ([]))
def S6 (a : List UInt8) : Option (Api_Value) :=
 some (Api_Value.mk 2 0 a ([]))
def edi_list_cnil  : Option (Api_Value) :=
 some (Api_Value.mk 3 0 ([]) ([]))
def Jk (a : List Api_Value) : Option (Api_Value) :=
 some (Api_Value.mk 3 0 ([]) a)
def Gk (a : List Api_Value) : Option (Api_Value) :=
 some (Api_Value.mk 3 0 ([]) a)
def Jw (b : Api_Item) (a : Int) (c : List Api_Value) : Option ((Int × List Api_Value) ⊕ (List Api_Value)) :=
 if (decide (a < (b.Parts.length : Int))) = true then
  if InR a b.Parts.length then
   lt1 ((nth b.Parts a.toNat).Kind) fun (e : Int) =>
   lt1 ((nth b.Parts a.toNat).Serial) fun (f : Int) =>
   lt1 ((nth b.Parts a.toNat).Fitted) fun (g : Bool) =>
   (if g = true then
    some 1
   else
    some 0 : Option (Int)).bind fun i =>
   (Bf e).bind fun j =>
   (Bf f).bind fun k =>
   (Bf i).bind fun l =>
   (Gk ([j, k, l] : List Api_Value)).bind fun d =>
   if Ei (c.length + 1) 64 then
    lt1 (c ++ ([(Api_Value.mk d.Kind d.N ([]) d.L)] : List Api_Value)) fun (m : List Api_Value) =>
    some (.inl ((w64 (a + 1)), m))
   else none
  else none
 else
  some (.inr c)
def Lm (a : Api_Item) : Option (Api_Value) :=
 (Bf a.Kind).bind fun s =>
 (Bf a.Ref.Railway).bind fun t =>
 (Bf a.Ref.No).bind fun u =>
 (Gk ([t, u] : List Api_Value)).bind fun b =>
 lt1 ([s, (Api_Value.mk b.Kind b.N ([]) b.L)] : List Api_Value) fun (d : List Api_Value) =>
 ((Bf a.Wagon).bind fun w =>
 if Ei (d.length + 1) 64 then
  lt1 (d ++ ([w] : List Api_Value)) fun (e : List Api_Value) =>
  (Bf a.Place).bind fun x =>
  if Ei (e.length + 1) 64 then
   lt1 (e ++ ([x] : List Api_Value)) fun (f : List Api_Value) =>
   (Bf a.Other).bind fun y =>
   if Ei (f.length + 1) 64 then
    lt1 (f ++ ([y] : List Api_Value)) fun (g : List Api_Value) =>
    (Bf a.Number).bind fun z =>
    if Ei (g.length + 1) 64 then
     lt1 (g ++ ([z] : List Api_Value)) fun (i : List Api_Value) =>
     (Bf a.From).bind fun aa =>
     if Ei (i.length + 1) 64 then
      lt1 (i ++ ([aa] : List Api_Value)) fun (j : List Api_Value) =>
      (Bf a.To).bind fun ab =>
      if Ei (j.length + 1) 64 then
       lt1 (j ++ ([ab] : List Api_Value)) fun (k : List Api_Value) =>
       (Bf a.Code).bind fun ac =>
       if Ei (k.length + 1) 64 then
        lt1 (k ++ ([ac] : List Api_Value)) fun (l : List Api_Value) =>
        (Bf a.Dest).bind fun ad =>
        if Ei (l.length + 1) 64 then
         lt1 (l ++ ([ad] : List Api_Value)) fun (m : List Api_Value) =>
         (Bf a.Class).bind fun ae =>
         if Ei (m.length + 1) 64 then
          lt1 (m ++ ([ae] : List Api_Value)) fun (n : List Api_Value) =>
          (Bf a.Weight).bind fun af =>
          if Ei (n.length + 1) 64 then
           lt1 (n ++ ([af] : List Api_Value)) fun (o : List Api_Value) =>
           (Bf a.Amount).bind fun ag =>
           if Ei (o.length + 1) 64 then
            lt1 (o ++ ([ag] : List Api_Value)) fun (ah : List Api_Value) =>
            some ah
           else none
          else none
         else none
        else none
       else none
      else none
     else none
    else none
   else none
  else none
 else none : Option (List Api_Value)).bind fun p =>
 edi_list_cnil.bind fun q =>
 ((C6 (fun (v : Int × List Api_Value) => Jw a v.1 v.2) (0, [])).bind fun ai =>
 some ai : Option (List Api_Value)).bind fun aj =>
 (S6 a.Text).bind fun ak =>
 if Ei (p.length + 2) 64 then
  (Jk (p ++ ([ak, (Api_Value.mk q.Kind q.N ([]) aj)] : List Api_Value))).bind fun c =>
  lt1 c.L fun (al : List Api_Value) =>
  some (Api_Value.mk c.Kind c.N ([]) al)
 else none
def Jl (a : List UInt8) (b : List UInt8) : Option (Int) := Vg a b
def Gg (a : Int) : Option (Bool) :=
 some (a != a)
def Fs (a : Int) (b : Int) : Option (Int) :=
 (Gg a).bind fun d =>
 (Gg b).bind fun c =>
 if d = true then
  if c = true then
   some 0
  else
   some (-1)
 else
  if c = true then
   some 1
  else
   if (decide (a < b)) = true then
    some (-1)
   else
    if (decide (a > b)) = true then
     some 1
    else
     some 0
def Ie (a : List UInt8) (b : List UInt8) : Option (Int) :=
 (Jl a b).bind fun c =>
 some c
def Dc (s1_3072 : List Api_Value) (s2_3073 : List Api_Value) (c : Api_Value → Api_Value → Option (Int)) (a : Int) : Option ((Int) ⊕ ((Unit) ⊕ ((Unit) ⊕ (Int)))) :=
 if (decide (a < (s1_3072.length : Int))) = true then
  if InR a s1_3072.length then
   lt1 ((nth s1_3072 a.toNat).Kind) fun (d : Int) =>
   lt1 ((nth s1_3072 a.toNat).N) fun (e : Int) =>
   lt1 ((nth s1_3072 a.toNat).B) fun (f : List UInt8) =>
   lt1 ((nth s1_3072 a.toNat).L) fun (g : List Api_Value) =>
   if (decide (a ≥ (s2_3073.length : Int))) = true then
    ((some 1).bind fun i => some (.inr i)).bind fun j => some (.inr (.inr j))
   else
    if InR a s2_3073.length then
     lt1 ((nth s2_3073 a.toNat).Kind) fun (k : Int) =>
     lt1 ((nth s2_3073 a.toNat).N) fun (l : Int) =>
     lt1 ((nth s2_3073 a.toNat).B) fun (m : List UInt8) =>
     lt1 ((nth s2_3073 a.toNat).L) fun (n : List Api_Value) =>
     (c (Api_Value.mk d e f g) (Api_Value.mk k l m n)).bind fun b =>
     if (b != 0) = true then
      ((some b).bind fun o => some (.inr o)).bind fun p => some (.inr (.inr p))
     else
      some (.inl (w64 (a + 1)))
    else none
  else none
 else
  some (.inr (.inl ()))
def Ds (b : Api_Value → Api_Value → Option (Int)) (s1_3072 : List Api_Value) (s2_3073 : List Api_Value) (a : Api_Value → Api_Value → Option (Int)) : Option (Int) :=
 ((C6 (fun (v : Int) => Dc s1_3072 s2_3073 a v) 0).bind fun x => match x with
 | .inl () =>
  some (.inl ())
 | .inr z => some z : Option ((Unit) ⊕ (Int))).bind fun x => match x with
 | .inl () =>
  if (decide ((s1_3072.length : Int) < (s2_3073.length : Int))) = true then
   some (-1)
  else
   some 0
 | .inr z => some z
def G4 (rec_ : Api_Value → Api_Value → Option (Int)) (a : Api_Value) (b : Api_Value) : Option (Int) :=
 (Fs a.Kind b.Kind).bind fun c =>
 if (c != 0) = true then
  some c
 else
  if (a.Kind == 1) = true then
   (Fs a.N b.N).bind fun d =>
   some d
  else
   if (a.Kind == 2) = true then
    (Ie a.B b.B).bind fun e =>
    some e
   else
    if (a.Kind == 3) = true then
     (Ds rec_ a.L b.L rec_).bind fun f =>
     some f
    else
     some 0
def Gs (n : Nat) : Api_Value → Api_Value → Option (Int) := match n with
 | 0 => fun _ _ => none
 | n + 1 => G4 (Gs n)
def Lh (a : Api_Value) (b : Api_Value) : Option (Int) := Gs 18446744073709551616 a b
def K8 (b : Api_Value) (c : Api_Value) (rec_ : Api_Value → Api_Value → Option (Bool)) (a : Int) : Option ((Int) ⊕ ((Unit) ⊕ ((Unit) ⊕ (Bool)))) :=
 if (decide (a < (b.L.length : Int))) = true then
  if InR a b.L.length then
   if InR a c.L.length then
    (rec_ (nth b.L a.toNat) (nth c.L a.toNat)).bind fun d =>
    if (!d) = true then
     ((some false).bind fun e => some (.inr e)).bind fun f => some (.inr (.inr f))
    else
     some (.inl (w64 (a + 1)))
   else none
  else none
 else
  some (.inr (.inl ()))
def M6 (rec_ : Api_Value → Api_Value → Option (Bool)) (a : Api_Value) (b : Api_Value) : Option (Bool) :=
 (if (a.Kind != b.Kind) = true then
  some true
 else
  (Lh a b).bind fun c =>
  if (c != 0) = true then
   some true
  else
   if (a.N != b.N) = true then
    some true
   else
    if ((a.B.length : Int) != (b.B.length : Int)) = true then
     some true
    else
     some ((a.L.length : Int) != (b.L.length : Int)) : Option (Bool)).bind fun d =>
 if d = true then
  some false
 else
  ((C6 (fun (v : Int) => K8 a b rec_ v) 0).bind fun x => match x with
  | .inl () =>
   some (.inl ())
  | .inr z => some z : Option ((Unit) ⊕ (Bool))).bind fun x => match x with
  | .inl () =>
   some true
  | .inr z => some z
def Mj (n : Nat) : Api_Value → Api_Value → Option (Bool) := match n with
 | 0 => fun _ _ => none
 | n + 1 => M6 (Mj n)
def Yt (a : Api_Value) (b : Api_Value) : Option (Bool) := Mj 18446744073709551616 a b
def F3 (c : Api_Value) (a : Int) (d : List Api_Part) : Option ((Int × List Api_Part) ⊕ ((List Api_Part) ⊕ ((List Api_Part) ⊕ (Api_Item × Int)))) :=
 if (decide (a < (((nth c.L 14).L).length : Int))) = true then
  if InR a (((nth c.L 14).L).length) then
   lt1 ((nth ((nth c.L 14).L) a.toNat).Kind) fun (i : Int) =>
   lt1 ((nth ((nth c.L 14).L) a.toNat).N) fun (j : Int) =>
   lt1 ((nth ((nth c.L 14).L) a.toNat).B) fun (k : List UInt8) =>
   lt1 ((nth ((nth c.L 14).L) a.toNat).L) fun (b : List Api_Value) =>
   if ((b.length : Int) != 3) = true then
    ((some (({ Kind := 0, Ref := ({ Railway := 0, No := 0 } : Api_Ref), Wagon := 0, Place := 0, Other := 0, Number := 0, From := 0, To := 0, Code := 0, Dest := 0, Class := 0, Weight := 0, Amount := 0, Text := ([] : List UInt8), Parts := [] } : Api_Item), 10)).bind fun e => some (.inr e)).bind fun f => some (.inr (.inr f))
   else
    if InR 0 b.length then
     if InR 1 b.length then
      if InR 2 b.length then
       if Ei (d.length + 1) 24 then
        lt1 (d ++ ([({ Kind := (nth b 0).N, Serial := (nth b 1).N, Fitted := ((nth b 2).N == 1) } : Api_Part)] : List Api_Part)) fun (g : List Api_Part) =>
        some (.inl ((w64 (a + 1)), g))
       else none
      else none
     else none
    else none
  else none
 else
  some (.inr (.inl d))
def Gj (a : Api_Value) : Option (Api_Item × Int) :=
 (if ((a.L.length : Int) != 15) = true then
  some true
 else
  if InR 1 a.L.length then
   some ((((nth a.L 1).L).length : Int) != 2)
  else none : Option (Bool)).bind fun e =>
 if e = true then
  some (({ Kind := 0, Ref := ({ Railway := 0, No := 0 } : Api_Ref), Wagon := 0, Place := 0, Other := 0, Number := 0, From := 0, To := 0, Code := 0, Dest := 0, Class := 0, Weight := 0, Amount := 0, Text := ([] : List UInt8), Parts := [] } : Api_Item), 10)
 else
  if InR 0 a.L.length then
   if InR 1 a.L.length then
    if InR 0 (((nth a.L 1).L).length) then
     if InR 1 a.L.length then
      if InR 1 (((nth a.L 1).L).length) then
       lt1 ((nth ((nth a.L 1).L) 0).N) fun (b : Int) =>
       lt1 ((nth ((nth a.L 1).L) 1).N) fun (c : Int) =>
       (if InR 2 a.L.length then
        if InR 3 a.L.length then
         if InR 4 a.L.length then
          if InR 5 a.L.length then
           if InR 6 a.L.length then
            if InR 7 a.L.length then
             if InR 8 a.L.length then
              if InR 9 a.L.length then
               if InR 10 a.L.length then
                if InR 11 a.L.length then
                 if InR 12 a.L.length then
                  some ()
                 else none
                else none
               else none
              else none
             else none
            else none
           else none
          else none
         else none
        else none
       else none : Option (Unit)).bind fun () =>
       if InR 13 a.L.length then
        (if InR 14 a.L.length then
         (C6 (fun (v : Int × List Api_Part) => F3 a v.1 v.2) (0, [])).bind fun x => match x with
         | .inl f =>
          some (.inl f)
         | .inr z => some z
        else none : Option ((List Api_Part) ⊕ (Api_Item × Int))).bind fun x => match x with
        | .inl d =>
         (Lm ({ Kind := (nth a.L 0).N, Ref := ({ Railway := b, No := c } : Api_Ref), Wagon := (nth a.L 2).N, Place := (nth a.L 3).N, Other := (nth a.L 4).N, Number := (nth a.L 5).N, From := (nth a.L 6).N, To := (nth a.L 7).N, Code := (nth a.L 8).N, Dest := (nth a.L 9).N, Class := (nth a.L 10).N, Weight := (nth a.L 11).N, Amount := (nth a.L 12).N, Text := (nth a.L 13).B, Parts := d } : Api_Item)).bind fun g =>
         (Yt g a).bind fun i =>
         if (!i) = true then
          some (({ Kind := 0, Ref := ({ Railway := 0, No := 0 } : Api_Ref), Wagon := 0, Place := 0, Other := 0, Number := 0, From := 0, To := 0, Code := 0, Dest := 0, Class := 0, Weight := 0, Amount := 0, Text := ([] : List UInt8), Parts := [] } : Api_Item), 10)
         else
          some (({ Kind := (nth a.L 0).N, Ref := ({ Railway := b, No := c } : Api_Ref), Wagon := (nth a.L 2).N, Place := (nth a.L 3).N, Other := (nth a.L 4).N, Number := (nth a.L 5).N, From := (nth a.L 6).N, To := (nth a.L 7).N, Code := (nth a.L 8).N, Dest := (nth a.L 9).N, Class := (nth a.L 10).N, Weight := (nth a.L 11).N, Amount := (nth a.L 12).N, Text := (nth a.L 13).B, Parts := d } : Api_Item), 0)
        | .inr z => some z
       else none
      else none
     else none
    else none
   else none
  else none
def G7 (a : Api_Item) (b : UInt8) : Option (Int) :=
 if (b == (119 : UInt8)) = true then
  some a.Wagon
 else
  if (b == (112 : UInt8)) = true then
   some a.Place
  else
   if (b == (111 : UInt8)) = true then
    some a.Other
   else
    if (b == (110 : UInt8)) = true then
     some a.Number
    else
     if (b == (102 : UInt8)) = true then
      some a.From
     else
      if (b == (116 : UInt8)) = true then
       some a.To
      else
       if (b == (99 : UInt8)) = true then
        some a.Code
       else
        if (b == (100 : UInt8)) = true then
         some a.Dest
        else
         if (b == (107 : UInt8)) = true then
          some a.Class
         else
          if (b == (103 : UInt8)) = true then
           some a.Weight
          else
           some a.Amount
def AfZ (b : List UInt8) (e : UInt8) (c : Int) (a : Int) (d : List (List UInt8)) : Option ((Int × Int × List (List UInt8)) ⊕ (Int × List (List UInt8))) :=
 if (decide (a < (b.length : Int))) = true then
  (if InR a b.length then
   if ((nth b a.toNat) == e) = true then
    if InB a b.length then
     if InB c a.toNat then
      if Ei (d.length + 1) 16 then
       lt1 (d ++ ([((b.drop c.toNat).take (a.toNat - c.toNat))] : List (List UInt8))) fun (f : List (List UInt8)) =>
       some ((w64 (a + 1)), f)
      else none
     else none
    else none
   else
    some (c, d)
  else none : Option (Int × List (List UInt8))).bind fun (g, i) =>
  some (.inl (g, (w64 (a + 1)), i))
 else
  some (.inr (c, d))
def Ms (a : UInt8) : Option (UInt8) :=
 (if (decide (a ≥ (48 : UInt8))) = true then
  some (decide (a ≤ (57 : UInt8)))
 else
  some false : Option (Bool)).bind fun b =>
 if b = true then
  some (a - (48 : UInt8))
 else
  (if (decide (a ≥ (97 : UInt8))) = true then
   some (decide (a ≤ (102 : UInt8)))
  else
   some false : Option (Bool)).bind fun c =>
  if c = true then
   some ((a - (97 : UInt8)) + (10 : UInt8))
  else
   some (0 : UInt8)
def Dl (b : List Api_Part) (c : List Api_Part) (a : Int) : Option ((Int) ⊕ ((Unit) ⊕ ((Unit) ⊕ (Bool)))) :=
 if (decide (a < (b.length : Int))) = true then
  if InR a b.length then
   if InR a c.length then
    lt1 (!(((nth b a.toNat).Kind == (nth c a.toNat).Kind) && (((nth b a.toNat).Serial == (nth c a.toNat).Serial) && ((nth b a.toNat).Fitted == (nth c a.toNat).Fitted)))) fun (d : Bool) =>
    if d = true then
     ((some false).bind fun e => some (.inr e)).bind fun f => some (.inr (.inr f))
    else
     some (.inl (w64 (a + 1)))
   else none
  else none
 else
  some (.inr (.inl ()))
def Ez (a : List Api_Part) (b : List Api_Part) : Option (Bool) :=
 if ((a.length : Int) != (b.length : Int)) = true then
  some false
 else
  ((C6 (fun (v : Int) => Dl a b v) 0).bind fun x => match x with
  | .inl () =>
   some (.inl ())
  | .inr z => some z : Option ((Unit) ⊕ (Bool))).bind fun x => match x with
  | .inl () =>
   some true
  | .inr z => some z
def Gu (b : Api_Item) (c : Api_Item) (a : Int) : Option ((Int) ⊕ ((Unit) ⊕ ((Unit) ⊕ (Bool)))) :=
 if (decide (a < 11)) = true then
  if InR a (([119, 112, 111, 110, 102, 116, 99, 100, 107, 103, 97] : List UInt8).length) then
   (G7 b (nth ([119, 112, 111, 110, 102, 116, 99, 100, 107, 103, 97] : List UInt8) a.toNat)).bind fun d =>
   if InR a (([119, 112, 111, 110, 102, 116, 99, 100, 107, 103, 97] : List UInt8).length) then
    (G7 c (nth ([119, 112, 111, 110, 102, 116, 99, 100, 107, 103, 97] : List UInt8) a.toNat)).bind fun e =>
    if (d != e) = true then
     ((some false).bind fun f => some (.inr f)).bind fun g => some (.inr (.inr g))
    else
     some (.inl (w64 (a + 1)))
   else none
  else none
 else
  some (.inr (.inl ()))
def Gb (a : Api_Item) (b : Api_Item) : Option (Bool) :=
 ((C6 (fun (v : Int) => Gu a b v) 0).bind fun x => match x with
 | .inl () =>
  some (.inl ())
 | .inr z => some z : Option ((Unit) ⊕ (Bool))).bind fun x => match x with
 | .inl () =>
  (if (a.Kind == b.Kind) = true then
   if ((a.Ref.Railway == b.Ref.Railway) && (a.Ref.No == b.Ref.No)) = true then
    if (a.Text == b.Text) = true then
     (Ez a.Parts b.Parts).bind fun c =>
     some c
    else
     some false
   else
    some false
  else
   some false : Option (Bool)).bind fun d =>
  some d
 | .inr z => some z
def Ku (a : List UInt8) (b : List UInt8) : Option (Bool) :=
 some (a == b)
def Ci (a : UInt32) (b : Int) : Option ((UInt32 × Int) ⊕ (UInt32)) :=
 if (decide (b < 4)) = true then
  lt1 ((K6 a (1 : UInt64).toNat) ^^^ ((3988292384 : UInt32) &&& (0 - (a &&& (1 : UInt32))))) fun (c : UInt32) =>
  some (.inl (c, (w64 (b + 1))))
 else
  some (.inr a)
def Dg (a : Int) (b : Arr UInt32 16) : Option ((Int × Arr UInt32 16) ⊕ (Arr UInt32 16)) :=
 if (decide (a < 16)) = true then
  (((C6 (fun (v : UInt32 × Int) => Ci v.1 v.2) ((UInt32.ofInt a), 0)).bind fun c =>
  some c : Option (UInt32)).bind fun d =>
  if InR a 16 then
   lt1 (b.set a.toNat d) fun (e : Arr UInt32 16) =>
   some e
  else none : Option (Arr UInt32 16)).bind fun f =>
  some (.inl ((w64 (a + 1)), f))
 else
  some (.inr b)
def Dq (b : List UInt8) (e : Arr UInt32 16) (f : UInt32) (a : Int) : Option ((UInt32 × Int) ⊕ (UInt32)) :=
 if (decide (a < (b.length : Int))) = true then
  if InR a b.length then
   lt1 (f ^^^ (nth b a.toNat).toUInt32) fun (c : UInt32) =>
   if InR ((c &&& (15 : UInt32)).toNat : Int) 16 then
    lt1 ((K6 c (4 : UInt64).toNat) ^^^ (e.get ((c &&& (15 : UInt32)).toNat))) fun (d : UInt32) =>
    if InR ((d &&& (15 : UInt32)).toNat : Int) 16 then
     lt1 ((K6 d (4 : UInt64).toNat) ^^^ (e.get ((d &&& (15 : UInt32)).toNat))) fun (g : UInt32) =>
     some (.inl (g, (w64 (a + 1))))
    else none
   else none
  else none
 else
  some (.inr f)
def I1 (a : List UInt8) : Option (UInt32) :=
 ((C6 (fun (v : Int × Arr UInt32 16) => Dg v.1 v.2) (0, (Arr.rep 16 (0 : UInt32)))).bind fun b =>
 some b : Option (Arr UInt32 16)).bind fun c =>
 ((C6 (fun (v : UInt32 × Int) => Dq a c v.1 v.2) ((4294967295 : UInt32), 0)).bind fun d =>
 some d : Option (UInt32)).bind fun e =>
 some (~~~e)
def Gp (b : List UInt8) : Option (List UInt8) :=
 (I1 b).bind fun a =>
 lt1 ([(K6 a (24 : UInt64).toNat).toUInt8, (K6 a (16 : UInt64).toNat).toUInt8, (K6 a (8 : UInt64).toNat).toUInt8, a.toUInt8] : List UInt8) fun (c : List UInt8) =>
 some c
def Dx (b : Api_Deframer) : Option (List UInt8 × Bool) :=
 lt1 (w64 ((b.Rest.length : Int) - 4)) fun (a : Int) =>
 (if b.Escape = true then
  some true
 else
  if b.Bad = true then
   some true
  else
   if (decide (a < 0)) = true then
    some true
   else
    some (decide (a > 8192)) : Option (Bool)).bind fun c =>
 if c = true then
  some ([], false)
 else
  if InB a b.Rest.length then
   if InB a a.toNat then
    if InB a b.Rest.length then
     (Gp (b.Rest.take a.toNat)).bind fun d =>
     if InB a b.Rest.length then
      (Ku d ((b.Rest.drop a.toNat).take (b.Rest.length - a.toNat))).bind fun e =>
      some ((b.Rest.take a.toNat), e)
     else none
    else none
   else none
  else none
def Di (d : List (List UInt8)) (e : Int) (a : Int) (b : List UInt8) : Option ((Int × List UInt8) ⊕ (List UInt8)) :=
 if (decide (a < ((nth d e.toNat).length : Int))) = true then
  if InR a ((nth d e.toNat).length) then
   lt1 (nth (nth d e.toNat) a.toNat) fun (c : UInt8) =>
   ((if (c == (126 : UInt8)) = true then
    some true
   else
    some (c == (125 : UInt8)) : Option (Bool)).bind fun g =>
   if g = true then
    if Ei (b.length + 1) 1 then
     lt1 (b ++ ([(125 : UInt8)] : List UInt8)) fun (i : List UInt8) =>
     some ((c ^^^ (32 : UInt8)), i)
    else none
   else
    some (c, b) : Option (UInt8 × List UInt8)).bind fun (j, f) =>
   if Ei (f.length + 1) 1 then
    lt1 (f ++ ([j] : List UInt8)) fun (k : List UInt8) =>
    some (.inl ((w64 (a + 1)), k))
   else none
  else none
 else
  some (.inr b)
def D9 (d : List UInt8) (e : List UInt8) (b : List (List UInt8)) (a : Int) (c : List UInt8) : Option ((Int × List UInt8) ⊕ (List UInt8)) :=
 lt1 (decide (a < (([d, e] : List (List UInt8)).length : Int))) fun (f : Bool) =>
 if f = true then
  (if InR a b.length then
   (C6 (fun (v : Int × List UInt8) => Di b a v.1 v.2) (0, c)).bind fun g =>
   some g
  else none : Option (List UInt8)).bind fun i =>
  some (.inl ((w64 (a + 1)), i))
 else
  some (.inr c)
def H6 (a : List UInt8) : Option (List UInt8 × Int) :=
 if (decide ((a.length : Int) > 8192)) = true then
  some ([], 2)
 else
  if Mk 1 (w64 ((a.length : Int) + 6)) 1 then
   lt1 (List.replicate 1 (0 : UInt8)) fun (b : List UInt8) =>
   if InR 0 b.length then
    lt1 (b.set 0 (126 : UInt8)) fun (e : List UInt8) =>
    ((Gp a).bind fun c =>
    lt1 ([a, c] : List (List UInt8)) fun (f : List (List UInt8)) =>
    (C6 (fun (v : Int × List UInt8) => D9 a c f v.1 v.2) (0, e)).bind fun g =>
    some g : Option (List UInt8)).bind fun d =>
    if Ei (d.length + 1) 1 then
     lt1 (d ++ ([(126 : UInt8)] : List UInt8)) fun (i : List UInt8) =>
     some (i, 0)
    else none
   else none
  else none
def Ej (g : List UInt8) (b : Int) (e : Int) (c : Bool) (i : Bool) (f : Bool) (a : List (List UInt8)) (d : List UInt8) : Option ((Int × Int × Bool × Bool × Bool × List (List UInt8) × List UInt8) ⊕ (Int × Bool × Bool × Bool × List (List UInt8) × List UInt8)) :=
 if (decide (e < (g.length : Int))) = true then
  (if InR e g.length then
   (if (nth g e.toNat == (126 : UInt8)) = true then
    ((if c = true then
     if (decide ((d.length : Int) > 0)) = true then
      some true
     else
      if i = true then
       some true
      else
       some f
    else
     some false : Option (Bool)).bind fun k =>
    if k = true then
     (Dx ({ Rest := d, In := c, Escape := i, Bad := f } : Api_Deframer)).bind fun j =>
     if j.2 = true then
      if Ei (a.length + 1) 24 then
       lt1 (a ++ ([j.1] : List (List UInt8))) fun (l : List (List UInt8)) =>
       some (b, l)
      else none
     else
      some ((w64 (b + 1)), a)
    else
     some (b, a) : Option (Int × List (List UInt8))).bind fun (m, n) =>
    (some (m, true, false, false, n, [])).bind fun o => some (.inr o)
   else
    (if (!c) = true then
     some true
    else
     some f : Option (Bool)).bind fun p =>
    if p = true then
     (some (b, c, i, f, a, d)).bind fun q => some (.inr q)
    else
     (if (nth g e.toNat == (125 : UInt8)) = true then
      some (!i)
     else
      some false : Option (Bool)).bind fun s =>
     if s = true then
      (some (b, c, true, f, a, d)).bind fun t => some (.inr t)
     else
      if i = true then
       lt1 (nth g e.toNat ^^^ (32 : UInt8)) fun (u : UInt8) =>
       some (.inl u)
      else
       some (.inl (nth g e.toNat)) : Option ((UInt8) ⊕ (Int × Bool × Bool × Bool × List (List UInt8) × List UInt8))).bind fun x => match x with
   | .inl v =>
    if (decide ((d.length : Int) ≥ 8196)) = true then
     some (b, c, false, true, a, [])
    else
     if Ei (d.length + 1) 1 then
      lt1 (d ++ ([v] : List UInt8)) fun (w : List UInt8) =>
      some (b, c, false, f, a, w)
     else none
   | .inr z => some z
  else none : Option (Int × Bool × Bool × Bool × List (List UInt8) × List UInt8)).bind fun (y, aa, ab, ac, ad, ae) =>
  some (.inl (y, (w64 (e + 1)), aa, ab, ac, ad, ae))
 else
  some (.inr (b, c, i, f, a, d))
def Cx (a : Api_Deframer) (c : List UInt8) : Option (Api_Deframer × List (List UInt8) × Int) :=
 if Mk (a.Rest.length : Int) (a.Rest.length : Int) 1 then
  lt1 (List.replicate ((a.Rest.length : Int).toNat) (0 : UInt8)) fun (b : List UInt8) =>
  lt1 (ovl b (a.Rest.take (min a.Rest.length b.length)) 0) fun (d : List UInt8) =>
  ((C6 (fun (v : Int × Int × Bool × Bool × Bool × List (List UInt8) × List UInt8) => Ej c v.1 v.2.1 v.2.2.1 v.2.2.2.1 v.2.2.2.2.1 v.2.2.2.2.2.1 v.2.2.2.2.2.2) (0, 0, a.In, a.Escape, a.Bad, [], d)).bind fun (e, f, g, i, j, k) =>
  some (e, f, g, i, j, k) : Option (Int × Bool × Bool × Bool × List (List UInt8) × List UInt8)).bind fun (l, m, n, o, p, q) =>
  some (({ Rest := q, In := m, Escape := n, Bad := o } : Api_Deframer), p, l)
 else none
def Bv (g : List UInt8) (b : Int) (e : Int) (c : Bool) (i : Bool) (f : Bool) (a : List (List UInt8)) (d : List UInt8) : Option ((Int × Int × Bool × Bool × Bool × List (List UInt8) × List UInt8) ⊕ (Int × Bool × Bool × Bool × List (List UInt8) × List UInt8)) :=
 if (decide (e < (g.length : Int))) = true then
  (if InR e g.length then
   (if (nth g e.toNat == (126 : UInt8)) = true then
    ((if c = true then
     if (decide ((d.length : Int) > 0)) = true then
      some true
     else
      if i = true then
       some true
      else
       some f
    else
     some false : Option (Bool)).bind fun k =>
    if k = true then
     (Dx ({ Rest := d, In := c, Escape := i, Bad := f } : Api_Deframer)).bind fun j =>
     if j.2 = true then
      if Ei (a.length + 1) 24 then
       lt1 (a ++ ([j.1] : List (List UInt8))) fun (l : List (List UInt8)) =>
       some (b, l)
      else none
     else
      some ((w64 (b + 1)), a)
    else
     some (b, a) : Option (Int × List (List UInt8))).bind fun (m, n) =>
    (some (m, true, false, false, n, [])).bind fun o => some (.inr o)
   else
    (if (!c) = true then
     some true
    else
     some f : Option (Bool)).bind fun p =>
    if p = true then
     (some (b, c, i, f, a, d)).bind fun q => some (.inr q)
    else
     (if (nth g e.toNat == (125 : UInt8)) = true then
      some (!i)
     else
      some false : Option (Bool)).bind fun s =>
     if s = true then
      (some (b, c, true, f, a, d)).bind fun t => some (.inr t)
     else
      if i = true then
       lt1 (nth g e.toNat ^^^ (32 : UInt8)) fun (u : UInt8) =>
       some (.inl u)
      else
       some (.inl (nth g e.toNat)) : Option ((UInt8) ⊕ (Int × Bool × Bool × Bool × List (List UInt8) × List UInt8))).bind fun x => match x with
   | .inl v =>
    if (decide ((d.length : Int) ≥ 8196)) = true then
     some (b, c, false, true, a, [])
    else
     if Ei (d.length + 1) 1 then
      lt1 (d ++ ([v] : List UInt8)) fun (w : List UInt8) =>
      some (b, c, false, f, a, w)
     else none
   | .inr z => some z
  else none : Option (Int × Bool × Bool × Bool × List (List UInt8) × List UInt8)).bind fun (y, aa, ab, ac, ad, ae) =>
  some (.inl (y, (w64 (e + 1)), aa, ab, ac, ad, ae))
 else
  some (.inr (b, c, i, f, a, d))
def B9 (a : Api_Deframer) (c : List UInt8) : Option (Api_Deframer × List (List UInt8) × Int) :=
 if Mk (a.Rest.length : Int) (a.Rest.length : Int) 1 then
  lt1 (List.replicate ((a.Rest.length : Int).toNat) (0 : UInt8)) fun (b : List UInt8) =>
  lt1 (ovl b (a.Rest.take (min a.Rest.length b.length)) 0) fun (d : List UInt8) =>
  ((C6 (fun (v : Int × Int × Bool × Bool × Bool × List (List UInt8) × List UInt8) => Bv c v.1 v.2.1 v.2.2.1 v.2.2.2.1 v.2.2.2.2.1 v.2.2.2.2.2.1 v.2.2.2.2.2.2) (0, 0, a.In, a.Escape, a.Bad, [], d)).bind fun (e, f, g, i, j, k) =>
  some (e, f, g, i, j, k) : Option (Int × Bool × Bool × Bool × List (List UInt8) × List UInt8)).bind fun (l, m, n, o, p, q) =>
  some (({ Rest := q, In := m, Escape := n, Bad := o } : Api_Deframer), p, l)
 else none
def Io (a : Api_Place) : Option (Bool) :=
 (if (decide (a.Kind < 1)) = true then
  some true
 else
  if (decide (a.Kind > 5)) = true then
   some true
  else
   if (decide (a.Railway < 0)) = true then
    some true
   else
    some (decide (a.Railway ≥ 16)) : Option (Bool)).bind fun b =>
 if b = true then
  some false
 else
  if (a.Kind != 3) = true then
   some (a.Other == (-1))
  else
   (if (decide (a.Other ≥ 0)) = true then
    if (decide (a.Other < 16)) = true then
     some (a.Other != a.Railway)
    else
     some false
   else
    some false : Option (Bool)).bind fun c =>
   some c
def F2 (b : Api_Network) (a : Int) : Option ((Int) ⊕ ((Unit) ⊕ ((Unit) ⊕ (Int)))) :=
 if (decide (a < (b.Places.length : Int))) = true then
  if InR a b.Places.length then
   lt1 ((nth b.Places a.toNat).Kind) fun (c : Int) =>
   lt1 ((nth b.Places a.toNat).Railway) fun (d : Int) =>
   lt1 ((nth b.Places a.toNat).Other) fun (e : Int) =>
   (Io ({ Kind := c, Railway := d, Other := e } : Api_Place)).bind fun f =>
   if (!f) = true then
    ((some 1).bind fun g => some (.inr g)).bind fun i => some (.inr (.inr i))
   else
    some (.inl (w64 (a + 1)))
  else none
 else
  some (.inr (.inl ()))
def F7 (b : Api_Network) (i : Int) (a : Int) : Option ((Int) ⊕ ((Unit) ⊕ ((Unit) ⊕ (Int)))) :=
 if (decide (a < (b.Edges.length : Int))) = true then
  if InR a b.Edges.length then
   lt1 ((nth b.Edges a.toNat).A) fun (c : Int) =>
   lt1 ((nth b.Edges a.toNat).B) fun (d : Int) =>
   lt1 ((nth b.Edges a.toNat).Railway) fun (e : Int) =>
   lt1 ((nth b.Edges a.toNat).Minutes) fun (f : Int) =>
   lt1 ((nth b.Edges a.toNat).Km) fun (g : Int) =>
   (if (decide ((Wa (Wa (Wa c d) e) g) < 0)) = true then
    some true
   else
    if (decide ((AcQ c d) ≥ i)) = true then
     some true
    else
     if (c == d) = true then
      some true
     else
      if (decide (e ≥ 16)) = true then
       some true
      else
       if (decide (f < 1)) = true then
        some true
       else
        if (decide (f > 100000)) = true then
         some true
        else
         some (decide (g > 10000)) : Option (Bool)).bind fun j =>
   if j = true then
    ((some 1).bind fun k => some (.inr k)).bind fun l => some (.inr (.inr l))
   else
    some (.inl (w64 (a + 1)))
  else none
 else
  some (.inr (.inl ()))
def Id (a : Api_Network) : Option (Int) :=
 lt1 (a.Places.length : Int) fun (b : Int) =>
 (if (decide (b > 512)) = true then
  some true
 else
  some (decide ((a.Edges.length : Int) > 2048)) : Option (Bool)).bind fun c =>
 if c = true then
  some 2
 else
  ((C6 (fun (v : Int) => F2 a v) 0).bind fun x => match x with
  | .inl () =>
   some (.inl ())
  | .inr z => some z : Option ((Unit) ⊕ (Int))).bind fun x => match x with
  | .inl () =>
   ((C6 (fun (v : Int) => F7 a b v) 0).bind fun x => match x with
   | .inl () =>
    some (.inl ())
   | .inr z => some z : Option ((Unit) ⊕ (Int))).bind fun x => match x with
   | .inl () =>
    some 0
   | .inr z => some z
  | .inr z => some z
def Gd (a : Int) (b : Int) (c : Int) : Option (Bool) :=
 (if (decide (a ≥ b)) = true then
  some (decide (a ≤ c))
 else
  some false : Option (Bool)).bind fun d =>
 some d
def Kz (f : Api_Fleet) : Option Int := if f.Types.length = 0 ∧ f.Wagons.length = 0 ∧ f.Swaps.length = 0 ∧ f.Washes.length = 0 then some 0 else none
def E5 (a : Api_Pool) (c : Bool) (b : Int) : Option ((Bool × Int) ⊕ (Bool)) :=
 if (decide (b < (a.Readers.length : Int))) = true then
  if InR b a.Readers.length then
   lt1 ((nth a.Readers b.toNat).Place) fun (f : Int) =>
   lt1 ((nth a.Readers b.toNat).Low) fun (d : Int) =>
   lt1 ((nth a.Readers b.toNat).High) fun (e : Int) =>
   (if c = true then
    some true
   else
    (Gd f 0 (w64 ((a.Network.Places.length : Int) - 1))).bind fun g =>
    if (!g) = true then
     some true
    else
     if (decide (d < (-1000))) = true then
      some true
     else
      if (decide (d > e)) = true then
       some true
      else
       some (decide (e > 1000)) : Option (Bool)).bind fun i =>
   some (.inl (i, (w64 (b + 1))))
  else none
 else
  some (.inr c)
def E8 (a : Api_Pool) (d : Bool) (b : Int) : Option ((Bool × Int) ⊕ (Bool)) :=
 if (decide (b < (a.Shippers.length : Int))) = true then
  if InR b a.Shippers.length then
   lt1 ((nth a.Shippers b.toNat).Place) fun (c : Int) =>
   (if d = true then
    some true
   else
    (Gd c 0 (w64 ((a.Network.Places.length : Int) - 1))).bind fun e =>
    if (!e) = true then
     some true
    else
     if InR c a.Network.Places.length then
      some ((nth a.Network.Places c.toNat).Kind != 4)
     else none : Option (Bool)).bind fun f =>
   some (.inl (f, (w64 (b + 1))))
  else none
 else
  some (.inr d)
def E6 (a : Api_Pool) (c : Bool) (b : Int) : Option ((Bool × Int) ⊕ (Bool)) :=
 if (decide (b < (a.Fleet.Wagons.length : Int))) = true then
  if InR b a.Fleet.Wagons.length then
   lt1 ((nth a.Fleet.Wagons b.toNat).Type_) fun (f : Int) =>
   lt1 ((nth a.Fleet.Wagons b.toNat).Owner) fun (g : Int) =>
   lt1 ((nth a.Fleet.Wagons b.toNat).Home) fun (d : Int) =>
   lt1 ((nth a.Fleet.Wagons b.toNat).Built) fun (i : Int) =>
   lt1 ((nth a.Fleet.Wagons b.toNat).Worth) fun (j : Int) =>
   (if c = true then
    some true
   else
    some (decide (d ≥ (a.Network.Places.length : Int))) : Option (Bool)).bind fun e =>
   some (.inl (e, (w64 (b + 1))))
  else none
 else
  some (.inr c)
def Ey (b : Api_Pool) (c : Int) (d : Bool) (a : Int) : Option ((Bool × Int) ⊕ (Bool)) :=
 if (decide (a < (b.Network.Places.length : Int))) = true then
  if InR a b.Network.Places.length then
   lt1 ((nth b.Network.Places a.toNat).Kind) fun (i : Int) =>
   lt1 ((nth b.Network.Places a.toNat).Railway) fun (e : Int) =>
   lt1 ((nth b.Network.Places a.toNat).Other) fun (f : Int) =>
   (if d = true then
    some true
   else
    if (decide (e ≥ c)) = true then
     some true
    else
     some (decide (f ≥ c)) : Option (Bool)).bind fun g =>
   some (.inl (g, (w64 (a + 1))))
  else none
 else
  some (.inr d)
def E1 (b : Api_Pool) (d : Int) (c : Bool) (a : Int) : Option ((Bool × Int) ⊕ (Bool)) :=
 if (decide (a < (b.Network.Edges.length : Int))) = true then
  if InR a b.Network.Edges.length then
   lt1 ((nth b.Network.Edges a.toNat).A) fun (g : Int) =>
   lt1 ((nth b.Network.Edges a.toNat).B) fun (i : Int) =>
   lt1 ((nth b.Network.Edges a.toNat).Railway) fun (e : Int) =>
   lt1 ((nth b.Network.Edges a.toNat).Minutes) fun (j : Int) =>
   lt1 ((nth b.Network.Edges a.toNat).Km) fun (k : Int) =>
   (if c = true then
    some true
   else
    some (decide (e ≥ d)) : Option (Bool)).bind fun f =>
   some (.inl (f, (w64 (a + 1))))
  else none
 else
  some (.inr c)
def Eu (a : Api_Pool) : Option ((Unit) ⊕ (Unit)) :=
 if (decide (0 < (a.Railways.length : Int))) = true then
  if InR 0 a.Railways.length then
   lt1 ((nth a.Railways 0).Key) fun (b : UInt64) =>
   lt1 (((((nth a.Railways 0).Calendar).Open).1).From) fun (c : Int) =>
   lt1 (((((nth a.Railways 0).Calendar).Open).1).To) fun (d : Int) =>
   lt1 (((((nth a.Railways 0).Calendar).Open).2.1).From) fun (e : Int) =>
   lt1 (((((nth a.Railways 0).Calendar).Open).2.1).To) fun (f : Int) =>
   lt1 (((((nth a.Railways 0).Calendar).Open).2.2.1).From) fun (g : Int) =>
   lt1 (((((nth a.Railways 0).Calendar).Open).2.2.1).To) fun (i : Int) =>
   lt1 (((((nth a.Railways 0).Calendar).Open).2.2.2.1).From) fun (j : Int) =>
   lt1 (((((nth a.Railways 0).Calendar).Open).2.2.2.1).To) fun (k : Int) =>
   lt1 (((((nth a.Railways 0).Calendar).Open).2.2.2.2.1).From) fun (l : Int) =>
   lt1 (((((nth a.Railways 0).Calendar).Open).2.2.2.2.1).To) fun (m : Int) =>
   lt1 (((((nth a.Railways 0).Calendar).Open).2.2.2.2.2.1).From) fun (n : Int) =>
   lt1 (((((nth a.Railways 0).Calendar).Open).2.2.2.2.2.1).To) fun (o : Int) =>
   lt1 (((((nth a.Railways 0).Calendar).Open).2.2.2.2.2.2).From) fun (p : Int) =>
   lt1 (((((nth a.Railways 0).Calendar).Open).2.2.2.2.2.2).To) fun (q : Int) =>
   lt1 (((nth a.Railways 0).Calendar).Holidays) fun (s : List Int) =>
   none
  else none
 else
  some (.inr ())
def G3 (a : Api_Pool) : Option (Int) :=
 (Id a.Network).bind fun c =>
 if (c != 0) = true then
  some c
 else
  (Kz a.Fleet).bind fun d =>
  if (d != 0) = true then
   some d
  else
   (if (decide ((a.Readers.length : Int) > 256)) = true then
    some true
   else
    if (decide ((a.Shippers.length : Int) > 256)) = true then
     some true
    else
     some (decide ((a.Railways.length : Int) > 16)) : Option (Bool)).bind fun e =>
   if e = true then
    some 2
   else
    lt1 (a.Railways.length : Int) fun (b : Int) =>
    ((C6 (fun (v : Bool × Int) => E5 a v.1 v.2) ((b == 0), 0)).bind fun f =>
    some f : Option (Bool)).bind fun g =>
    ((C6 (fun (v : Bool × Int) => E8 a v.1 v.2) (g, 0)).bind fun i =>
    some i : Option (Bool)).bind fun j =>
    ((C6 (fun (v : Bool × Int) => E6 a v.1 v.2) (j, 0)).bind fun k =>
    some k : Option (Bool)).bind fun l =>
    ((C6 (fun (v : Bool × Int) => Ey a b v.1 v.2) (l, 0)).bind fun m =>
    some m : Option (Bool)).bind fun n =>
    ((C6 (fun (v : Bool × Int) => E1 a b v.1 v.2) (n, 0)).bind fun o =>
    some o : Option (Bool)).bind fun p =>
    ((C6 (fun (_ : Unit) => Eu a ) ()).bind fun () =>
    some () : Option (Unit)).bind fun () =>
    if p = true then
     some 1
    else
     some 0
def Oj (a : Api_Pool) (c : Api_Item) : Option (Int) :=
 (G3 ({ Network := a.Network, Fleet := a.Fleet, Readers := a.Readers, Shippers := a.Shippers, Railways := a.Railways } : Api_Pool)).bind fun b =>
 if (b != 0) = true then
  some b
 else
  none
def D6 (a : Api_Item) (b : List UInt8) : Option (Bool) :=
 (Cy a).bind fun c =>
 (E3 b).bind fun d =>
 (if (c.2 == 0) = true then
  if (c.1 == b) = true then
   if (d.2 == 0) = true then
    (Gb d.1 a).bind fun e =>
    some e
   else
    some false
  else
   some false
 else
  some false : Option (Bool)).bind fun f =>
 some f
def Ch (b : List UInt8) : Option (Bool) :=
 (E3 b).bind fun a =>
 (if (a.2 == 4) = true then
  (Gb a.1 ({ Kind := 0, Ref := ({ Railway := 0, No := 0 } : Api_Ref), Wagon := 0, Place := 0, Other := 0, Number := 0, From := 0, To := 0, Code := 0, Dest := 0, Class := 0, Weight := 0, Amount := 0, Text := ([] : List UInt8), Parts := [] } : Api_Item)).bind fun c =>
  some c
 else
  some false : Option (Bool)).bind fun d =>
 some d
def law11_sane  : Option (Bool) :=
 lt1 ([({ Kind := 1, Serial := 5, Fitted := false } : Api_Part), ({ Kind := 0, Serial := (-2), Fitted := true } : Api_Part)] : List Api_Part) fun (a : List Api_Part) =>
 ((D6 ({ Kind := 1, Ref := ({ Railway := 0, No := 0 } : Api_Ref), Wagon := 12, Place := 0, Other := 3, Number := 0, From := 100, To := 0, Code := 0, Dest := 0, Class := 0, Weight := 0, Amount := 0, Text := ([] : List UInt8), Parts := [] } : Api_Item) ([82, 69, 65, 68, 43, 119, 49, 50, 43, 111, 51, 43, 102, 49, 48, 48, 39] : List UInt8)).bind fun c =>
 if c = true then
  (D6 ({ Kind := 14, Ref := ({ Railway := 2, No := 7 } : Api_Ref), Wagon := 0, Place := 0, Other := 0, Number := 0, From := 0, To := 0, Code := 0, Dest := 0, Class := 0, Weight := 0, Amount := 0, Text := ([] : List UInt8), Parts := [] } : Api_Item) ([82, 69, 84, 82, 65, 67, 84, 43, 114, 50, 46, 55, 39] : List UInt8)).bind fun d =>
  if d = true then
   (D6 ({ Kind := 11, Ref := ({ Railway := 0, No := 0 } : Api_Ref), Wagon := 0, Place := 0, Other := 0, Number := 1, From := 0, To := 0, Code := 0, Dest := 0, Class := 0, Weight := 0, Amount := 0, Text := ([97, 43, 98, 10] : List UInt8), Parts := [] } : Api_Item) ([84, 65, 82, 73, 70, 70, 43, 110, 49, 43, 120, 97, 63, 50, 98, 98, 63, 48, 97, 39] : List UInt8)).bind fun e =>
   if e = true then
    (D6 ({ Kind := 10, Ref := ({ Railway := 0, No := 0 } : Api_Ref), Wagon := 0, Place := 0, Other := 0, Number := 0, From := 0, To := 0, Code := 0, Dest := 0, Class := 0, Weight := 0, Amount := 0, Text := ([] : List UInt8), Parts := a } : Api_Item) ([82, 69, 67, 65, 76, 76, 43, 113, 49, 46, 53, 46, 48, 43, 113, 48, 46, 45, 50, 46, 49, 39] : List UInt8)).bind fun f =>
    some f
   else
    some false
  else
   some false
 else
  some false : Option (Bool)).bind fun g =>
 (Cy ({ Kind := 16, Ref := ({ Railway := 0, No := 0 } : Api_Ref), Wagon := 0, Place := 0, Other := 0, Number := 0, From := 0, To := 0, Code := 0, Dest := 0, Class := 0, Weight := 0, Amount := 0, Text := ([] : List UInt8), Parts := [] } : Api_Item)).bind fun i =>
 (Gj (Api_Value.mk 1 1 ([]) ([]))).bind fun j =>
 ((Ch ([82, 69, 65, 68, 43, 119, 48, 49, 50, 39] : List UInt8)).bind fun k =>
 if k = true then
  (Ch ([82, 69, 65, 68, 43, 119, 48, 39] : List UInt8)).bind fun l =>
  if l = true then
   (Ch ([82, 69, 65, 68, 43, 111, 51, 43, 119, 49, 50, 39] : List UInt8)).bind fun m =>
   if m = true then
    (Ch ([82, 69, 65, 68, 43, 119, 49, 50] : List UInt8)).bind fun n =>
    if n = true then
     (Ch ([82, 69, 65, 68, 43, 119, 49, 50, 39, 32] : List UInt8)).bind fun o =>
     if o = true then
      (Ch ([84, 65, 82, 73, 70, 70, 43, 120, 63, 52, 49, 39] : List UInt8)).bind fun p =>
      if p = true then
       (Ch ([] : List UInt8)).bind fun q =>
       some q
      else
       some false
     else
      some false
    else
     some false
   else
    some false
  else
   some false
 else
  some false : Option (Bool)).bind fun s =>
 (Lm ({ Kind := 10, Ref := ({ Railway := 0, No := 0 } : Api_Ref), Wagon := 0, Place := 0, Other := 0, Number := 0, From := 0, To := 0, Code := 0, Dest := 0, Class := 0, Weight := 0, Amount := 0, Text := ([] : List UInt8), Parts := a } : Api_Item)).bind fun t =>
 (Gj t).bind fun b =>
 (if g = true then
  if (i.2 == 110) = true then
   if (j.2 == 10) = true then
    if s = true then
     if (b.2 == 0) = true then
      (Gb b.1 ({ Kind := 10, Ref := ({ Railway := 0, No := 0 } : Api_Ref), Wagon := 0, Place := 0, Other := 0, Number := 0, From := 0, To := 0, Code := 0, Dest := 0, Class := 0, Weight := 0, Amount := 0, Text := ([] : List UInt8), Parts := a } : Api_Item)).bind fun u =>
      if u = true then
       (Oj ({ Network := ({ Places := [], Edges := [] } : Api_Network), Fleet := ({ Types := [], Wagons := [], Swaps := [], Washes := [] } : Api_Fleet), Readers := [], Shippers := [], Railways := [] } : Api_Pool) ({ Kind := 10, Ref := ({ Railway := 0, No := 0 } : Api_Ref), Wagon := 0, Place := 0, Other := 0, Number := 0, From := 0, To := 0, Code := 0, Dest := 0, Class := 0, Weight := 0, Amount := 0, Text := ([] : List UInt8), Parts := a } : Api_Item)).bind fun v =>
       some (v != 0)
      else
       some false
     else
      some false
    else
     some false
   else
    some false
  else
   some false
 else
  some false : Option (Bool)).bind fun w =>
 some w
def Dv (c : Api_Item) (j : Int) : Option (Bool) :=
 law11_sane.bind fun k =>
 if (!k) = true then
  some false
 else
  ((Gv c).bind fun l =>
  if (!l) = true then
   some true
  else
   if (decide (c.Kind < 1)) = true then
    some true
   else
    some (decide (c.Kind > 15)) : Option (Bool)).bind fun m =>
  if m = true then
   some true
  else
   (Cy c).bind fun g =>
   (H6 g.1).bind fun a =>
   (if (g.2 != 0) = true then
    some true
   else
    some (a.2 != 0) : Option (Bool)).bind fun n =>
   if n = true then
    some false
   else
    lt1 (AcQ 0 (Wa j (a.1.length : Int))) fun (d : Int) =>
    if InB d a.1.length then
     (Cx ({ Rest := [], In := false, Escape := false, Bad := false } : Api_Deframer) (a.1.take d.toNat)).bind fun b =>
     lt1 b.1.Rest fun (o : List UInt8) =>
     lt1 b.2.1 fun (f : List (List UInt8)) =>
     if InB d a.1.length then
      (B9 ({ Rest := o, In := b.1.In, Escape := b.1.Escape, Bad := b.1.Bad } : Api_Deframer) ((a.1.drop d.toNat).take (a.1.length - d.toNat))).bind fun e =>
      (if ((w64 ((f.length : Int) + (e.2.1.length : Int))) != 1) = true then
       some true
      else
       if (b.2.2 != 0) = true then
        some true
       else
        some (e.2.2 != 0) : Option (Bool)).bind fun p =>
      if p = true then
       some false
      else
       if Ei (f.length + e.2.1.length) 24 then
        if InR 0 ((f ++ e.2.1).length) then
         lt1 (nth (f ++ e.2.1) 0) fun (q : List UInt8) =>
         (E3 q).bind fun i =>
         (if (i.2 == 0) = true then
          (Gb i.1 c).bind fun s =>
          some s
         else
          some false : Option (Bool)).bind fun t =>
         some t
        else none
       else none
     else none
    else none
set_option maxRecDepth 100000
theorem Qy : ∀ (k u : Nat), u < 10 ^ (k + 1) → Lib.nDigits u ≤ k + 1
  | 0, u, h => by rw [Lib.nDigits_small (by simpa using h)]; exact Nat.le_refl _
  | k + 1, u, h => by
    by_cases hu : u < 10
    · rw [Lib.nDigits_small hu]; omega
    · rw [Lib.nDigits_big hu]
      have := Qy k (u / 10) (by rw [Nat.pow_succ] at h; omega)
      omega
theorem Qz {u : Nat} (h : u < 10 ^ 20) : (Lib.decDigits u).length ≤ 20 := by rw [Lib.decDigits_length]; exact Qy 19 u h
theorem Fh {d : Nat} (h : d < 10) : (UInt8.ofNat (48 + d)).toNat = 48 + d := by
  rw [UInt8.toNat_ofNat']; omega
theorem Uq : ∀ (u acc : Nat) (r : List UInt8), acc * 10 ^ Lib.nDigits u + u < 18446744073709551616 → Lib.parseUint10 acc (Lib.decDigits u ++ r) = Lib.parseUint10 (acc * 10 ^ Lib.nDigits u + u) r := by
  intro u
  induction u using Nat.strongRecOn with
  | ind u ih =>
    intro acc r h
    by_cases hu : u < 10
    · rw [Lib.decDigits, dif_pos hu, List.singleton_append, Lib.parseUint10, Lib.nDigits_small hu]
      rw [Lib.nDigits_small hu] at h
      simp only [Nat.pow_one] at h ⊢
      rw [Fh hu, if_pos (by omega), if_neg (by omega), if_neg (by omega)]
      congr 1
      omega
    · rw [Lib.decDigits, dif_neg hu, List.append_assoc]
      rw [Lib.nDigits_big hu] at h ⊢
      have hd : u % 10 < 10 := Nat.mod_lt _ (by omega)
      have hm : acc * 10 ^ (Lib.nDigits (u / 10) + 1) = acc * 10 ^ Lib.nDigits (u / 10) * 10 := by rw [Nat.pow_succ, Nat.mul_assoc]
      rw [hm] at h ⊢
      rw [ih (u / 10) (by omega) acc _ (by omega), List.singleton_append, Lib.parseUint10, Fh hd, if_pos (by omega), if_neg (by omega), if_neg (by omega)]
      congr 1
      omega
theorem Vd {u : Nat} (h : u < 18446744073709551616) : Lib.parseUint10 0 (Lib.decDigits u) = .ok u := by
  have := Uq u 0 [] (by omega)
  simpa [Lib.parseUint10] using this
theorem Y8 : ∀ (u : Nat), ∃ c r, Lib.decDigits u = c :: r ∧ 48 ≤ c.toNat ∧ c.toNat ≤ 57 := by
  intro u
  induction u using Nat.strongRecOn with
  | ind u ih =>
    by_cases hu : u < 10
    · rw [Lib.decDigits, dif_pos hu]
      exact ⟨_, [], rfl, by rw [Fh hu]; omega, by rw [Fh hu]; omega⟩
    · rw [Lib.decDigits, dif_neg hu]
      obtain ⟨c, r, h1, h2, h3⟩ := ih (u / 10) (by omega)
      exact ⟨c, r ++ _, by rw [h1]; rfl, h2, h3⟩
theorem Ady : ∀ (u : Nat), ∀ c ∈ Lib.decDigits u, 48 ≤ c.toNat ∧ c.toNat ≤ 57 := by
  intro u
  induction u using Nat.strongRecOn with
  | ind u ih =>
    by_cases hu : u < 10
    · rw [Lib.decDigits, dif_pos hu]
      intro c hc
      simp only [List.mem_singleton] at hc
      subst hc
      rw [Fh hu]; omega
    · rw [Lib.decDigits, dif_neg hu]
      intro c hc
      rcases List.mem_append.1 hc with hc | hc
      · exact ih (u / 10) (by omega) c hc
      · simp only [List.mem_singleton] at hc
        subst hc
        have hd : u % 10 < 10 := Nat.mod_lt _ (by omega)
        rw [Fh hd]; omega
theorem Jf {n : Int} (h1 : -9223372036854775808 ≤ n) (h2 : n ≤ 9223372036854775807) : Lib.atoiAll (Lib.itoa n) = .ok n := by
  unfold Lib.itoa
  split
  · rename_i hn
    obtain ⟨c, r, e, q1, q2⟩ := Y8 n.natAbs
    have hp : Lib.parseMag (Lib.decDigits n.natAbs) = .ok n.natAbs := by
      unfold Lib.parseMag
      rw [if_neg (by rw [e]; simp), Vd (by omega)]
    unfold Lib.atoiAll
    have h45 : (45 : UInt8).toNat = 45 := rfl
    simp only [h45, or_true, if_true, hp]
    rw [if_neg (by simp), if_neg (by omega)]
    congr 1
    omega
  · rename_i hn
    obtain ⟨c, r, e, q1, q2⟩ := Y8 n.toNat
    have hp : Lib.parseMag (Lib.decDigits n.toNat) = .ok n.toNat := by
      unfold Lib.parseMag
      rw [if_neg (by rw [e]; simp), Vd (by omega)]
    rw [e] at hp ⊢
    unfold Lib.atoiAll
    simp only
    rw [if_neg (by omega), hp]
    simp only
    rw [if_neg (by omega), if_neg (by omega), if_neg (by omega)]
    congr 1
    omega
theorem Do {n : Int} (h1 : -9223372036854775808 ≤ n) (h2 : n ≤ 9223372036854775807) : (Lib.itoa n).length ≤ 21 := by
  unfold Lib.itoa
  split
  · have := Qz (u := n.natAbs) (by omega)
    simp; omega
  · have := Qz (u := n.toNat) (by omega)
    omega
theorem Adf {n : Nat} (h : n ≤ 1000000) : Ei n 1 := ⟨Nat.le_trans h (by decide), by rw [Nat.mul_one]; exact Nat.le_trans h (by decide)⟩
theorem Bt {l : List UInt8} {c : UInt8} (h : l.length ≤ 900000) : Ak { addr := (), buf := l } c = some (false, { addr := (), buf := l ++ [c] }) := by
  unfold Ak
  simp only [lt1]
  rw [if_pos (Adf (by omega))]
theorem Hu {l s : List UInt8} (h : l.length + s.length ≤ 900000) : A8 { addr := (), buf := l } s = some ((s.length : Int), false, { addr := (), buf := l ++ s }) := by
  unfold A8
  simp only [lt1]
  rw [if_pos (Adf (by omega))]
def AdA : List UInt8 := [48, 49, 50, 51, 52, 53, 54, 55, 56, 57, 97, 98, 99, 100, 101, 102]
def Af1 (c : UInt8) : Bool := decide (c < 32) || decide (c > 126) || c == 43 || c == 39 || c == 63
def Zk (c : UInt8) : List UInt8 := if Af1 c then [63, nth AdA (c.toNat / 16), nth AdA (c.toNat % 16)] else [c]
def esc (t : List UInt8) : List UInt8 := t.flatMap Zk
theorem AfA (c : UInt8) : (Zk c).length ≤ 3 := by unfold Zk; split <;> simp
theorem Og (t : List UInt8) : (esc t).length ≤ 3 * t.length := by
  induction t with
  | nil => simp [esc]
  | cons c t ih =>
    have := AfA c
    simp only [esc, List.flatMap_cons, List.length_append, List.length_cons] at ih ⊢
    omega
theorem Zb (t : List UInt8) (k : Nat) (hk : k < t.length) : esc (t.take (k + 1)) = esc (t.take k) ++ Zk (nth t k) := by
  have h : t.take (k + 1) = t.take k ++ [nth t k] := by
    rw [List.take_add_one, List.getElem?_eq_getElem hk]
    simp [nth, List.getElem?_eq_getElem hk]
  rw [h]
  simp [esc]
theorem Qs {p : UInt8 → Prop} (h : ∀ n : Fin 256, p (UInt8.ofNat n.val)) (c : UInt8) : p c := by
  have := h ⟨c.toNat, c.toNat_lt⟩
  simpa using this
theorem Af8 (c : UInt8) : (Af0 c ((4 : UInt64)).toNat).toNat = c.toNat / 16 := Qs (p := fun c => (Af0 c ((4 : UInt64)).toNat).toNat = c.toNat / 16) (by decide +kernel) c
theorem Af6 (c : UInt8) : (c &&& 15).toNat = c.toNat % 16 := Qs (p := fun c => (c &&& 15).toNat = c.toNat % 16) (by decide +kernel) c
theorem G6 {k : Nat} (h : k + 1 < 9223372036854775807) : w64 ((k : Int) + 1) = ((k + 1 : Nat) : Int) := by rw [Ff (by omega)]; omega
theorem Acy (c : UInt8) : (if (decide (c < (32 : UInt8))) = true then some true else if (decide (c > (126 : UInt8))) = true then some true else if (c == (43 : UInt8)) = true then some true else if (c == (39 : UInt8)) = true then some true else some (c == (63 : UInt8)) : Option Bool) = some (Af1 c) := by
  unfold Af1
  cases decide (c < (32 : UInt8)) <;> cases decide (c > (126 : UInt8)) <;> cases (c == (43 : UInt8)) <;> cases (c == (39 : UInt8)) <;> simp
theorem Ac2 {l t : List UInt8} (h : l.length + 3 * t.length ≤ 800000) : Gq { addr := (), buf := l } t = some { addr := (), buf := l ++ esc t } := by
  unfold Gq
  obtain ⟨x, hx, rfl⟩ := G2 (f := fun (v : Int × List UInt8) => D4 t v.1 v.2) t.length (fun k v => v = ((k : Int), l ++ esc (t.take k))) (fun x => x = l ++ esc t) (by omega) (by
      rintro k v hk rfl
      refine ⟨_, ?_, rfl⟩
      have hl : (l ++ esc (t.take k)).length ≤ 800000 := by
        have := Og (t.take k)
        simp only [List.length_append, List.length_take] at this ⊢
        omega
      have hin : InR (k : Int) t.length := ⟨by omega, by simpa using hk⟩
      have h1 : InR ((Af0 (nth t k) ((4 : UInt64)).toNat).toNat : Int) 16 := ⟨by omega, by have := (nth t k).toNat_lt; rw [Af8]; simp; omega⟩
      have h2 : InR (((nth t k) &&& 15).toNat : Int) 16 := ⟨by omega, by rw [Af6]; simp; omega⟩
      unfold D4
      rw [if_pos (decide_eq_true (by omega)), if_pos hin, G6 (by omega), Zb t k hk]
      simp only [Int.toNat_natCast]
      rw [Acy, Option.bind_some]
      rw [← List.append_assoc]
      generalize l ++ esc (t.take k) = b at hl ⊢
      cases hb : Af1 (nth t k) with
      | false =>
        simp only [Bool.false_eq_true, if_false, Option.bind_some, lt1]
        rw [Bt (by omega), Option.bind_some]
        simp [Zk, hb]
      | true =>
        simp only [if_true, lt1, List.length_cons, List.length_nil, Nat.zero_add, Nat.reduceAdd]
        rw [Bt (by omega), Option.bind_some, if_pos h1, Bt (by simp; omega), Option.bind_some, if_pos h2, Option.bind_some]
        simp only
        rw [Bt (by simp; omega), Option.bind_some, Af8, Af6]
        simp [Zk, hb, AdA]) (by
      rintro v rfl
      refine ⟨_, ?_, rfl⟩
      unfold D4
      rw [if_neg (by simp)]
      simp) (v0 := (0, l)) (by simp [esc])
  rw [hx]; rfl
theorem Agt {n : Int} (h1 : -9223372036854775808 ≤ n) (h2 : n ≤ 9223372036854775807) : strconv_Itoa n = some (Lib.itoa n) := by
  unfold strconv_Itoa Ahf
  rw [if_pos (by omega)]
def num (c : UInt8) (n : Int) : List UInt8 := if n = 0 then [] else 43 :: c :: Lib.itoa n
def Jc (x : Api_Part) : List UInt8 := [43, 113] ++ Lib.itoa x.Kind ++ [46] ++ Lib.itoa x.Serial ++ (if x.Fitted then [46, 49] else [46, 48])
def AdU (r : Api_Ref) : List UInt8 := if r.Railway = 0 ∧ r.No = 0 then [] else [43, 114] ++ Lib.itoa r.Railway ++ [46] ++ Lib.itoa r.No
def Xb (it : Api_Item) : List UInt8 := num 119 it.Wagon ++ num 112 it.Place ++ num 111 it.Other ++ num 110 it.Number ++ num 102 it.From ++ num 116 it.To ++ num 99 it.Code ++ num 100 it.Dest ++ num 107 it.Class ++ num 103 it.Weight ++ num 97 it.Amount
def T9 (t : List UInt8) : List UInt8 := if t = [] then [] else [43, 120] ++ esc t
def Wf (it : Api_Item) : List UInt8 := glob0.get it.Kind.toNat ++ AdU it.Ref ++ Xb it ++ T9 it.Text ++ it.Parts.flatMap Jc
def msg (it : Api_Item) : List UInt8 := Wf it ++ [39]
def I64 (n : Int) : Prop := -9223372036854775808 ≤ n ∧ n ≤ 9223372036854775807
structure OkItem (it : Api_Item) : Prop where
  kind : I64 it.Kind
  ref : I64 it.Ref.Railway ∧ I64 it.Ref.No
  nums : I64 it.Wagon ∧ I64 it.Place ∧ I64 it.Other ∧ I64 it.Number ∧ I64 it.From ∧ I64 it.To ∧ I64 it.Code ∧ I64 it.Dest ∧ I64 it.Class ∧ I64 it.Weight ∧ I64 it.Amount
  text : it.Text.length ≤ 70000
  parts : it.Parts.length ≤ 2000
  part : ∀ x ∈ it.Parts, I64 x.Kind ∧ I64 x.Serial
theorem Acx {l : List UInt8} {n : Int} (hl : l.length ≤ 800000) (h : I64 n) : Ay n { addr := (), buf := l } = some { addr := (), buf := l ++ Lib.itoa n } := by
  have := Do h.1 h.2
  unfold Ay
  rw [Agt h.1 h.2, Option.bind_some]
  simp only
  rw [Hu (by omega), Option.bind_some]
  rfl
theorem Ae7 {l : List UInt8} {c : UInt8} (hl : l.length ≤ 800000) : A0 c { addr := (), buf := l } = some { addr := (), buf := l ++ [43, c] } := by
  unfold A0
  simp only [lt1]
  rw [Bt (by omega), Option.bind_some]
  rw [Bt (by simp; omega), Option.bind_some]
  simp
theorem Fa {l : List UInt8} {c : UInt8} {n : Int} (hl : l.length ≤ 700000) (h : I64 n) :
    (if (n != 0) = true then (A0 c { addr := (), buf := l }).bind fun y => (Ay n { addr := (), buf := y.buf }).bind fun y2 => some y2.buf else some l : Option (List UInt8)) = some (l ++ num c n) := by
  unfold num
  by_cases h0 : n = 0
  · subst h0; simp
  · rw [if_pos (by simpa using h0), if_neg h0, Ae7 (by omega), Option.bind_some]
    simp only
    rw [Acx (by simp; omega) h, Option.bind_some]
    simp
theorem Cs {c : UInt8} {n : Int} (h : I64 n) : (num c n).length ≤ 23 := by
  unfold num
  split
  · simp
  · have := Do h.1 h.2
    simp; omega
theorem Aek {x : Api_Part} (h : I64 x.Kind ∧ I64 x.Serial) : (Jc x).length ≤ 47 := by
  have h1 := Do h.1.1 h.1.2
  have h2 := Do h.2.1 h.2.2
  unfold Jc
  cases x.Fitted <;> simp <;> omega
theorem Lq {l : List Api_Part} (h : ∀ x ∈ l, I64 x.Kind ∧ I64 x.Serial) : (l.flatMap Jc).length ≤ 47 * l.length := by
  induction l with
  | nil => simp
  | cons x l ih =>
    have h1 := Aek (h x (by simp))
    have h2 := ih (fun y hy => h y (by simp [hy]))
    simp only [List.flatMap_cons, List.length_append, List.length_cons]
    omega
theorem Aba (l : List Api_Part) (k : Nat) (hk : k < l.length) : (l.take (k + 1)).flatMap Jc = (l.take k).flatMap Jc ++ Jc (nth l k) := by
  have h : l.take (k + 1) = l.take k ++ [nth l k] := by
    rw [List.take_add_one, List.getElem?_eq_getElem hk]
    simp [nth, List.getElem?_eq_getElem hk]
  rw [h]
  simp
theorem Add {α : Type} [Inhabited α] {l : List α} {k : Nat} (hk : k < l.length) : nth l k ∈ l := by
  simp [nth, List.getElem?_eq_getElem hk]
theorem Aaz {it : Api_Item} (hi : OkItem it) {l : List UInt8} (hl : l.length ≤ 400000) : C6 (fun (v : Int × List UInt8) => Dh it v.1 v.2) (0, l) = some (l ++ it.Parts.flatMap Jc) := by
  obtain ⟨x, hx, rfl⟩ := G2 (f := fun (v : Int × List UInt8) => Dh it v.1 v.2) it.Parts.length (fun k v => v = ((k : Int), l ++ (it.Parts.take k).flatMap Jc)) (fun x => x = l ++ it.Parts.flatMap Jc) (by have := hi.parts; omega) (by
      rintro k v hk rfl
      refine ⟨_, ?_, rfl⟩
      have hp := hi.parts
      have hl2 : (l ++ (it.Parts.take k).flatMap Jc).length ≤ 500000 := by
        have := Lq (l := it.Parts.take k) (fun x hx => hi.part x (List.mem_of_mem_take hx))
        simp only [List.length_append, List.length_take] at this ⊢
        omega
      have hin : InR (k : Int) it.Parts.length := ⟨by omega, by simpa using hk⟩
      obtain ⟨p1, p2⟩ := hi.part _ (Add hk)
      unfold Dh
      rw [if_pos (decide_eq_true (by omega)), if_pos hin, G6 (by omega), Aba _ k hk, ← List.append_assoc]
      simp only [Int.toNat_natCast, lt1]
      generalize l ++ (it.Parts.take k).flatMap Jc = b at hl2 ⊢
      have q1 := Do p1.1 p1.2
      have q2 := Do p2.1 p2.2
      rw [Ae7 (by omega), Option.bind_some]
      simp only
      rw [Acx (by simp; omega) p1, Option.bind_some]
      simp only
      rw [Bt (by simp; omega), Option.bind_some]
      simp only
      rw [Acx (by simp; omega) p2, Option.bind_some]
      simp only
      have hfl : (if (nth it.Parts k).Fitted = true then [46, 49] else [46, 48] : List UInt8).length = 2 := by split <;> rfl
      rw [Hu (by rw [hfl]; simp; omega), Option.bind_some]
      simp [Jc]) (by
      rintro v rfl
      refine ⟨_, ?_, rfl⟩
      unfold Dh
      rw [if_neg (by simp)]
      simp) (v0 := (0, l)) (by simp)
  exact hx
theorem Sz {it : Api_Item} (hi : OkItem it) : (Xb it).length ≤ 253 := by
  obtain ⟨h1, h2, h3, h4, h5, h6, h7, h8, h9, h10, h11⟩ := hi.nums
  have q1 := Cs (c := 119) h1
  have q2 := Cs (c := 112) h2
  have q3 := Cs (c := 111) h3
  have q4 := Cs (c := 110) h4
  have q5 := Cs (c := 102) h5
  have q6 := Cs (c := 116) h6
  have q7 := Cs (c := 99) h7
  have q8 := Cs (c := 100) h8
  have q9 := Cs (c := 107) h9
  have q10 := Cs (c := 103) h10
  have q11 := Cs (c := 97) h11
  unfold Xb
  simp only [List.length_append]
  omega
theorem Yj : ∀ k : Fin 16, (glob0.get k.val).length ≤ 20 := by decide +kernel
theorem Wp {r : Api_Ref} (h : I64 r.Railway ∧ I64 r.No) : (AdU r).length ≤ 45 := by
  have h1 := Do h.1.1 h.1.2
  have h2 := Do h.2.1 h.2.2
  unfold AdU
  split
  · simp
  · simp; omega
theorem Sv {t : List UInt8} : (T9 t).length ≤ 2 + 3 * t.length := by
  have := Og t
  unfold T9
  split
  · simp
  · simp; omega
theorem Vf {it : Api_Item} (hi : OkItem it) : Cy it = some (if 1 ≤ it.Kind ∧ it.Kind ≤ 15 then (if (msg it).length > 65536 then ([], 2) else (msg it, 0)) else ([], 110)) := by
  unfold Cy
  by_cases hk : 1 ≤ it.Kind ∧ it.Kind ≤ 15
  · rw [if_pos hk]
    have c1 : decide (it.Kind < 1) = false := decide_eq_false (by omega)
    have c2 : decide (it.Kind ≥ 16) = false := decide_eq_false (by omega)
    simp only [c1, c2, Bool.false_eq_true, if_false, Option.bind_some]
    have hin : InR it.Kind 16 := ⟨by omega, by omega⟩
    have hkk : it.Kind.toNat < 16 := by omega
    have htl := Yj ⟨it.Kind.toNat, hkk⟩
    simp only at htl
    rw [if_pos hin, Hu (by simp; omega), Option.bind_some]
    simp only [List.nil_append]
    generalize ht : glob0.get it.Kind.toNat = tg at htl ⊢
    have hrl := Wp hi.ref
    have href : (if (!((it.Ref.Railway == 0) && (it.Ref.No == 0))) = true then
        (A0 ((114 : UInt8)) (({ addr := (), buf := tg } : Strings_Builder))).bind fun y_390 =>
        (Ay it.Ref.Railway (({ addr := (), buf := y_390.buf } : Strings_Builder))).bind fun y_392 =>
        (Ak (({ addr := (), buf := y_392.buf } : Strings_Builder)) ((46 : UInt8))).bind fun y_394 =>
        (Ay it.Ref.No (({ addr := (), buf := y_394.2.buf } : Strings_Builder))).bind fun y_396 =>
        some y_396.buf
      else
        some tg : Option (List UInt8)) = some (tg ++ AdU it.Ref) := by
      unfold AdU
      by_cases h0 : it.Ref.Railway = 0 ∧ it.Ref.No = 0
      · rw [if_pos h0, if_neg (by simp [h0.1, h0.2])]; simp
      · rw [if_neg h0, if_pos (by simp; omega)]
        have q1 := Do hi.ref.1.1 hi.ref.1.2
        rw [Ae7 (by omega), Option.bind_some]
        simp only
        rw [Acx (by simp; omega) hi.ref.1, Option.bind_some]
        simp only
        rw [Bt (by simp; omega), Option.bind_some]
        simp only
        rw [Acx (by simp; omega) hi.ref.2, Option.bind_some]
        simp
    rw [href, Option.bind_some]
    obtain ⟨h1, h2, h3, h4, h5, h6, h7, h8, h9, h10, h11⟩ := hi.nums
    have q1 := Cs (c := 119) h1
    have q2 := Cs (c := 112) h2
    have q3 := Cs (c := 111) h3
    have q4 := Cs (c := 110) h4
    have q5 := Cs (c := 102) h5
    have q6 := Cs (c := 116) h6
    have q7 := Cs (c := 99) h7
    have q8 := Cs (c := 100) h8
    have q9 := Cs (c := 107) h9
    have q10 := Cs (c := 103) h10
    have q11 := Cs (c := 97) h11
    rw [Fa (by simp only [List.length_append]; omega) h1, Option.bind_some, Fa (by simp only [List.length_append]; omega) h2, Option.bind_some, Fa (by simp only [List.length_append]; omega) h3, Option.bind_some,
      Fa (by simp only [List.length_append]; omega) h4, Option.bind_some, Fa (by simp only [List.length_append]; omega) h5, Option.bind_some, Fa (by simp only [List.length_append]; omega) h6, Option.bind_some,
      Fa (by simp only [List.length_append]; omega) h7, Option.bind_some, Fa (by simp only [List.length_append]; omega) h8, Option.bind_some, Fa (by simp only [List.length_append]; omega) h9, Option.bind_some,
      Fa (by simp only [List.length_append]; omega) h10, Option.bind_some, Fa (by simp only [List.length_append]; omega) h11, Option.bind_some, Option.bind_some]
    have hb : tg ++ AdU it.Ref ++ num 119 it.Wagon ++ num 112 it.Place ++ num 111 it.Other ++ num 110 it.Number ++ num 102 it.From ++ num 116 it.To ++ num 99 it.Code ++ num 100 it.Dest ++ num 107 it.Class ++ num 103 it.Weight ++ num 97 it.Amount = tg ++ AdU it.Ref ++ Xb it := by
      simp [Xb]
    rw [hb]
    have hnl := Sz hi
    have htx := hi.text
    have htl2 := Sv (t := it.Text)
    generalize hbb : tg ++ AdU it.Ref ++ Xb it = b
    have hbl : b.length ≤ 400 := by rw [← hbb]; simp only [List.length_append]; omega
    have htext : (if (!(it.Text == (([] : List UInt8)))) = true then
        (A0 ((120 : UInt8)) (({ addr := (), buf := b } : Strings_Builder))).bind fun y_765 =>
        (Gq (({ addr := (), buf := y_765.buf } : Strings_Builder)) it.Text).bind fun y_767 =>
        some y_767.buf
      else
        some b : Option (List UInt8)) = some (b ++ T9 it.Text) := by
      unfold T9
      by_cases h0 : it.Text = []
      · rw [if_pos h0, if_neg (by simp [h0])]; simp
      · rw [if_neg h0, if_pos (by simp [h0]), Ae7 (by omega), Option.bind_some]
        simp only
        rw [Ac2 (by simp; omega), Option.bind_some]
        simp
    rw [htext, Option.bind_some, Aaz hi (by simp only [List.length_append]; omega), Option.bind_some, Option.bind_some]
    have hpl := Lq hi.part
    have hpp := hi.parts
    rw [Bt (by simp only [List.length_append]; omega), Option.bind_some]
    simp only
    have hm : b ++ T9 it.Text ++ it.Parts.flatMap Jc ++ [39] = msg it := by
      rw [← hbb, ← ht]; rfl
    rw [hm]
    have hml : (msg it).length ≤ 500000 := by rw [← hm]; simp only [List.length_append, List.length_singleton]; omega
    by_cases hbig : (msg it).length > 65536
    · rw [if_pos (decide_eq_true (by omega)), if_pos hbig]
    · rw [if_neg (by simp; omega), if_neg hbig, if_pos (by rw [← hm]; simp), if_pos (Adf (by omega))]
  · rw [if_neg hk]
    by_cases h1 : it.Kind < 1
    · simp [h1]
    · have h2 : it.Kind ≥ 16 := by omega
      simp [h1, h2]
def lets : List UInt8 := [119, 112, 111, 110, 102, 116, 99, 100, 107, 103, 97]
def Kt (it : Api_Item) : List (UInt8 × Int) := [(119, it.Wagon), (112, it.Place), (111, it.Other), (110, it.Number), (102, it.From), (116, it.To), (99, it.Code), (100, it.Dest), (107, it.Class), (103, it.Weight), (97, it.Amount)]
theorem Z6 {it : Api_Item} (hi : OkItem it) {k : Nat} (hk : k < 11) : ∃ c n, (Kt it)[k]? = some (c, n) ∧ I64 n ∧ G7 it (nth lets k) = some n ∧ (lets.drop k).take (k + 1 - k) = [c] := by
  obtain ⟨h1, h2, h3, h4, h5, h6, h7, h8, h9, h10, h11⟩ := hi.nums
  have : k = 0 ∨ k = 1 ∨ k = 2 ∨ k = 3 ∨ k = 4 ∨ k = 5 ∨ k = 6 ∨ k = 7 ∨ k = 8 ∨ k = 9 ∨ k = 10 := by omega
  rcases this with rfl | rfl | rfl | rfl | rfl | rfl | rfl | rfl | rfl | rfl | rfl
  · exact ⟨_, _, rfl, h1, rfl, rfl⟩
  · exact ⟨_, _, rfl, h2, rfl, rfl⟩
  · exact ⟨_, _, rfl, h3, rfl, rfl⟩
  · exact ⟨_, _, rfl, h4, rfl, rfl⟩
  · exact ⟨_, _, rfl, h5, rfl, rfl⟩
  · exact ⟨_, _, rfl, h6, rfl, rfl⟩
  · exact ⟨_, _, rfl, h7, rfl, rfl⟩
  · exact ⟨_, _, rfl, h8, rfl, rfl⟩
  · exact ⟨_, _, rfl, h9, rfl, rfl⟩
  · exact ⟨_, _, rfl, h10, rfl, rfl⟩
  · exact ⟨_, _, rfl, h11, rfl, rfl⟩
def iV (n : Int) : Api_Value := Api_Value.mk 1 n [] []
def tV (s : List UInt8) : Api_Value := Api_Value.mk 2 0 s []
def lV (l : List Api_Value) : Api_Value := Api_Value.mk 3 0 [] l
def AmX (x : Api_Part) : Api_Value := lV [iV x.Kind, iV x.Serial, iV (if x.Fitted = true then 1 else 0)]
def AnZ (it : Api_Item) : List Api_Value := [iV it.Kind, lV [iV it.Ref.Railway, iV it.Ref.No], iV it.Wagon, iV it.Place, iV it.Other, iV it.Number, iV it.From, iV it.To, iV it.Code, iV it.Dest, iV it.Class, iV it.Weight, iV it.Amount]
def val (it : Api_Item) : Api_Value := lV (AnZ it ++ [tV it.Text, lV (it.Parts.map AmX)])
theorem map_take {α β : Type} [Inhabited α] (f : α → β) (l : List α) (k : Nat) (hk : k < l.length) : (l.take (k + 1)).map f = (l.take k).map f ++ [f (nth l k)] := by
  have h : l.take (k + 1) = l.take k ++ [nth l k] := by
    rw [List.take_add_one, List.getElem?_eq_getElem hk]
    simp [nth, List.getElem?_eq_getElem hk]
  rw [h]; simp
theorem Ail : law11_sane = some true := by decide +kernel
structure Ints (it : Api_Item) : Prop where
  kind : I64 it.Kind
  ref : I64 it.Ref.Railway ∧ I64 it.Ref.No
  nums : I64 it.Wagon ∧ I64 it.Place ∧ I64 it.Other ∧ I64 it.Number ∧ I64 it.From ∧ I64 it.To ∧ I64 it.Code ∧ I64 it.Dest ∧ I64 it.Class ∧ I64 it.Weight ∧ I64 it.Amount
  part : ∀ x ∈ it.Parts, I64 x.Kind ∧ I64 x.Serial
theorem Ints.ok {it : Api_Item} (h : Ints it) (ht : it.Text.length ≤ 2000) (hp : it.Parts.length ≤ 20) : OkItem it := ⟨h.kind, h.ref, h.nums, by omega, by omega, h.part⟩
theorem AdZ (it : Api_Item) : Gv it = some (decide (it.Text.length ≤ 2000 ∧ it.Parts.length ≤ 20)) := by
  unfold Gv
  by_cases h1 : it.Text.length ≤ 2000
  · by_cases h2 : it.Parts.length ≤ 20
    · rw [if_pos (decide_eq_true (by omega)), Option.bind_some, decide_eq_true (show (it.Parts.length : Int) ≤ 20 by omega)]; simp [h1, h2]
    · rw [if_pos (decide_eq_true (by omega)), Option.bind_some, decide_eq_false (show ¬(it.Parts.length : Int) ≤ 20 by omega)]; simp [h2]
  · rw [if_neg (by simp; omega), Option.bind_some]; simp [h1]
theorem AcR {T : Tables} {f u : Nat} {i : TypeInfo} (hu : ¬ u < T.types.size) (h : Made.infoAt T (f + 1) u = some i) : ∃ d, Made.reckon (Made.infoAt T f) d = some i := by
  unfold Made.infoAt at h
  rw [if_neg hu] at h
  obtain ⟨d, _, h2⟩ := Option.bind_eq_some_iff.1 h
  exact ⟨d, h2⟩
theorem Aa1 {info : TypeId → Option TypeInfo} {d : TypeDesc} {i : TypeInfo} (h : Made.reckon info d = some i) : (∃ e j, i.desc = .pointer e ∧ info e = some j ∧ ∀ n r, j.desc ≠ .named n r) ∨ (∀ e, i.desc ≠ .pointer e) ∧ (∀ n r, i.desc ≠ .named n r) ∧ i.desc ≠ .bool ∧ (∀ k, i.desc ≠ .int k) ∧ (∀ k, i.desc ≠ .float k) ∧ i.desc ≠ .string := by
  cases d with
  | pointer e =>
    left
    simp only [Made.reckon, Option.bind_eq_bind, Option.bind_eq_some_iff] at h
    obtain ⟨j, h1, h2⟩ := h
    refine ⟨e, j, ?_, h1, ?_⟩
    · split at h2
      · cases h2
      · split at h2
        · cases h2
        · simp only [Option.pure_def, Option.bind_eq_some_iff] at h2; obtain ⟨s, _, h3⟩ := h2; cases h3; rfl
      · simp only [Option.pure_def, Option.bind_eq_some_iff] at h2; obtain ⟨s, _, h3⟩ := h2; cases h3; rfl
    · intro n r e2
      rw [e2] at h2
      cases h2
  | bool => cases h
  | string => cases h
  | int k => cases h
  | float k => cases h
  | named n r => cases h
  | slice e =>
    right
    simp only [Made.reckon, Option.bind_eq_bind, Option.bind_eq_some_iff, Option.pure_def] at h
    obtain ⟨j, _, s, _, h3⟩ := h
    cases h3
    exact ⟨fun e h => (by cases h), fun n r h => (by cases h), (by intro h; cases h), fun k h => (by cases h), fun k h => (by cases h), (by intro h; cases h)⟩
  | map k e =>
    right
    simp only [Made.reckon, Option.bind_eq_bind, Option.bind_eq_some_iff, Option.pure_def] at h
    obtain ⟨jk, _, sk, _, je, _, se, _, h3⟩ := h
    cases h3
    exact ⟨fun e h => (by cases h), fun n r h => (by cases h), (by intro h; cases h), fun k h => (by cases h), fun k h => (by cases h), (by intro h; cases h)⟩
  | chan dir e =>
    right
    simp only [Made.reckon, Option.bind_eq_bind, Option.bind_eq_some_iff, Option.pure_def] at h
    obtain ⟨j, _, s, _, h3⟩ := h
    cases h3
    exact ⟨fun e h => (by cases h), fun n r h => (by cases h), (by intro h; cases h), fun k h => (by cases h), fun k h => (by cases h), (by intro h; cases h)⟩
  | func ps rs v =>
    right
    simp only [Made.reckon, Option.bind_eq_bind, Option.bind_eq_some_iff, Option.pure_def] at h
    obtain ⟨s, _, h3⟩ := h
    cases h3
    exact ⟨fun e h => (by cases h), fun n r h => (by cases h), (by intro h; cases h), fun k h => (by cases h), fun k h => (by cases h), (by intro h; cases h)⟩
  | array n e =>
    right
    simp only [Made.reckon, Option.bind_eq_bind, Option.bind_eq_some_iff, Option.pure_def] at h
    obtain ⟨j, _, s, _, h3⟩ := h
    cases h3
    exact ⟨fun e h => (by cases h), fun n r h => (by cases h), (by intro h; cases h), fun k h => (by cases h), fun k h => (by cases h), (by intro h; cases h)⟩
  | struct fs =>
    right
    simp only [Made.reckon, Made.reckonStruct, Option.bind_eq_bind, Option.bind_eq_some_iff, Option.pure_def] at h
    obtain ⟨r, _, h3⟩ := h
    split at h3 <;> cases h3
    all_goals exact ⟨fun e h => (by cases h), fun n r h => (by cases h), (by intro h; cases h), fun k h => (by cases h), fun k h => (by cases h), (by intro h; cases h)⟩
  | _ => cases h
theorem W5 {a b : String} (h : "*" ++ a = "*" ++ b) : a = b := by
  have h2 := congrArg String.toList h
  simp only [String.toList_append] at h2
  exact String.toList_injective (List.append_cancel_left h2)
theorem Aey : ((List.range Tryz.prog.types.size).all fun u => (Tryz.prog.typeName? 3 u != some "*errors.errorString") || (u == 248)) = true := by kernel_rfl
noncomputable def AlM (o : Option TypeInfo) : Bool := match o with | some j => (match j.desc with | .named _ _ => true | _ => false) | none => true
theorem Adj {j : TypeInfo} (h : AlM (some j) = true) : ∃ n r, j.desc = .named n r := by
  have h' : (match j.desc with | .named _ _ => true | _ => false) = true := h
  cases hd : j.desc with
  | named n r => exact ⟨n, r, rfl⟩
  | _ => rw [hd] at h'; cases h'
noncomputable def nmd (e : Nat) : Bool := AlM Tryz.prog.types[e]?
theorem Aeh : ((List.range Tryz.prog.types.size).all fun e => (Tryz.prog.typeName? 2 e != some "errors.errorString") || nmd e) = true := by kernel_rfl
theorem Aew {u : Nat} (h : ¬ u < Tryz.prog.types.size) : Tryz.prog.info? u = Made.infoAt Tryz.prog.toTables 100 u := by
  show Tables.info? _ u = _
  unfold Tables.info?
  rw [if_neg h]
  rfl
theorem AfW {d u : Nat} (hu : ¬ u < Tryz.prog.types.size) {s : String} (h : Tryz.prog.typeName? (d + 1) u = some s) :
    ∃ e j x, Made.infoAt Tryz.prog.toTables 99 e = some j ∧ (∀ n r, j.desc ≠ .named n r) ∧ Tryz.prog.typeName? d e = some x ∧ s = "*" ++ x := by
  unfold Program.typeName? at h
  rw [Aew hu] at h
  split at h
  · rename_i i hi
    obtain ⟨dd, hd⟩ := AcR hu hi
    rcases Aa1 hd with ⟨e, j, h1, h2, h3⟩ | ⟨h1, h2, h3, h4, h5, h6⟩
    · rw [h1] at h
      simp only [Option.map_eq_some_iff] at h
      obtain ⟨x, hx, rfl⟩ := h
      exact ⟨e, j, x, h2, h3, hx, rfl⟩
    · exfalso
      split at h
      · exact h2 _ _ (by assumption)
      · exact h1 _ (by assumption)
      · exact h3 (by assumption)
      · exact h4 _ (by assumption)
      · exact h5 _ (by assumption)
      · exact h6 (by assumption)
      · cases h
  · cases h
theorem AeD : ("errors.errorString" : String).toList.head? = some (Char.ofNat 101) := by decide +kernel
theorem Acm : ("*" : String).toList.head? = some (Char.ofNat 42) := by decide +kernel
theorem Agv {u : Nat} (h : Tryz.prog.typeName? 3 u = some "*errors.errorString") : u = 248 := by
  by_cases hu : u < Tryz.prog.types.size
  · have := List.all_eq_true.1 Aey u (List.mem_range.2 hu)
    rw [h] at this
    simpa using this
  · exfalso
    obtain ⟨e, j, x, h1, h2, h3, h4⟩ := AfW hu h
    have hx : x = "errors.errorString" := (W5 (a := "errors.errorString") (by rw [← h4]; decide +kernel)).symm
    subst hx
    by_cases he : e < Tryz.prog.types.size
    · have hb := List.all_eq_true.1 Aeh e (List.mem_range.2 he)
      rw [h3] at hb
      have hn : nmd e = true := by simpa using hb
      unfold Made.infoAt at h1
      rw [if_pos he] at h1
      have h1' : Tryz.prog.types[e]? = some j := h1
      have hm : AlM (some j) = true := (congrArg AlM h1').symm.trans hn
      obtain ⟨n, r, hd⟩ := Adj hm
      exact h2 n r hd
    · obtain ⟨_, _, y, _, _, _, h8⟩ := AfW he h3
      have := congrArg String.toList h8
      simp only [String.toList_append] at this
      have h9 := congrArg List.head? this
      rw [List.head?_append, AeD, Acm] at h9
      exact absurd (Option.some.inj h9) (by decide +kernel)
open Go.Rv Go.ChangeShapes Go.WideShapes Go.ChangeAt Go.RowKit
theorem Yv (H : Type) (l : List (DataW H)) : (l.map (Rows.uptoBulk (H := H))).sum = Rows.uptoBulkAll l := by
  induction l with
  | nil => rfl
  | cons x l ih => simp only [List.map_cons, List.sum_cons, ih, Rows.uptoBulkAll]
theorem La : BulkOk (fun H => Rows.uptoBulk (H := H)) where
  one := fun H d => by
    cases d with
    | lit l => cases l <;> simp [Rows.uptoBulk]
    | _ => simp [Rows.uptoBulk]
  str := fun H l => by simp [Rows.uptoBulk]
  slice := fun H e s => by rw [Yv]; simp only [Rows.uptoBulk]; omega
  agg := fun H p => by rw [Yv]; simp only [Rows.uptoBulk]; omega
theorem B0 : Tryz.prog.cellsOf 3 = 1 := by kernel_rfl
theorem Aag : Tryz.prog.cellsOf 4 = 1 := by kernel_rfl
theorem Abk : Tryz.prog.cellsOf 9 = 1 := by kernel_rfl
theorem Pg : Tryz.prog.cellsOf 38 = 2 := by kernel_rfl
theorem W4 : Tryz.prog.cellsOf 39 = 1 := by kernel_rfl
theorem Om : Tryz.prog.cellsOf 66 = 3 := by kernel_rfl
theorem X3 : Tryz.prog.cellsOf 41 = 16 := by kernel_rfl
theorem Fx : Opens Tryz.prog (fun H => Rows.uptoBulk (H := H)) 3 L6 (fun _ => 1) I64 := AbK La Tryz.underlying3
theorem AkP : Opens Tryz.prog (fun H => Rows.uptoBulk (H := H)) 4 AhA (fun _ => 1) (fun _ => True) := Abm La Tryz.underlying4
theorem Aku : Opens Tryz.prog (fun H => Rows.uptoBulk (H := H)) 9 Qk (fun l => l.length + 1) (fun l => l.length ≤ maxLen) := AbO La Tryz.underlying9
theorem Aik : Opens Tryz.prog (fun H => Rows.uptoBulk (H := H)) 38 Zo (fun _ => 0) (fun r => I64 r.Railway ∧ I64 r.No) :=
  Iu La Tryz.underlying38 (n := 2) Pg
    (A9 (k := 1) rfl B0 (fun _ => rfl) Fx (A9 (k := 1) rfl B0 (fun _ => rfl) Fx K3))
    (fun x => (⟨x.1, x.2.1⟩ : Api_Ref)) (fun _ => rfl) (fun _ => rfl) (fun x => Nat.zero_le _) (fun x h => ⟨h.1, h.2.1⟩)
theorem Ah8 : Opens Tryz.prog (fun H => Rows.uptoBulk (H := H)) 66 Ac (fun _ => 0) (fun r => I64 r.Kind ∧ I64 r.Serial) :=
  Iu La Tryz.underlying66 (n := 3) Om
    (A9 (k := 1) rfl B0 (fun _ => rfl) Fx (A9 (k := 1) rfl B0 (fun _ => rfl) Fx (A9 (k := 1) rfl Aag (fun _ => rfl) AkP K3)))
    (fun x => (⟨x.1, x.2.1, x.2.2.1⟩ : Api_Part)) (fun _ => rfl) (fun _ => rfl) (fun x => Nat.zero_le _) (fun x h => ⟨h.1, h.2.1⟩)
theorem Ahx : Opens Tryz.prog (fun H => Rows.uptoBulk (H := H)) 39 (cSl Ac) (szL fun _ => 0) (fun l => l.length ≤ maxLen ∧ ∀ x ∈ l, I64 x.Kind ∧ I64 x.Serial) :=
  Wg La Tryz.underlying39 Om (fun _ => rfl) Ah8
theorem Ahr : Opens Tryz.prog (fun H => Rows.uptoBulk (H := H)) 41 V3 (fun _ => 0) Ints :=
  Iu La Tryz.underlying41 (n := 16) X3
    (A9 (k := 1) rfl B0 (fun _ => rfl) Fx (A9 (k := 2) rfl Pg (fun _ => rfl) Aik (A9 (k := 1) rfl B0 (fun _ => rfl) Fx (A9 (k := 1) rfl B0 (fun _ => rfl) Fx
      (A9 (k := 1) rfl B0 (fun _ => rfl) Fx (A9 (k := 1) rfl B0 (fun _ => rfl) Fx (A9 (k := 1) rfl B0 (fun _ => rfl) Fx (A9 (k := 1) rfl B0 (fun _ => rfl) Fx
      (A9 (k := 1) rfl B0 (fun _ => rfl) Fx (A9 (k := 1) rfl B0 (fun _ => rfl) Fx (A9 (k := 1) rfl B0 (fun _ => rfl) Fx (A9 (k := 1) rfl B0 (fun _ => rfl) Fx
      (A9 (k := 1) rfl B0 (fun _ => rfl) Fx (A9 (k := 1) rfl Abk (fun _ => rfl) Aku (A9 (k := 1) rfl W4 (fun _ => rfl) Ahx K3)))))))))))))))
    (fun x => (⟨x.1, x.2.1, x.2.2.1, x.2.2.2.1, x.2.2.2.2.1, x.2.2.2.2.2.1, x.2.2.2.2.2.2.1, x.2.2.2.2.2.2.2.1, x.2.2.2.2.2.2.2.2.1, x.2.2.2.2.2.2.2.2.2.1, x.2.2.2.2.2.2.2.2.2.2.1, x.2.2.2.2.2.2.2.2.2.2.2.1, x.2.2.2.2.2.2.2.2.2.2.2.2.1, x.2.2.2.2.2.2.2.2.2.2.2.2.2.1, x.2.2.2.2.2.2.2.2.2.2.2.2.2.2.1⟩ : Api_Item)) (fun _ => rfl) (fun _ => rfl) (fun x => Nat.zero_le _)
    (fun x h => ⟨h.1, h.2.1, ⟨h.2.2.1, h.2.2.2.1, h.2.2.2.2.1, h.2.2.2.2.2.1, h.2.2.2.2.2.2.1, h.2.2.2.2.2.2.2.1, h.2.2.2.2.2.2.2.2.1, h.2.2.2.2.2.2.2.2.2.1, h.2.2.2.2.2.2.2.2.2.2.1, h.2.2.2.2.2.2.2.2.2.2.2.1, h.2.2.2.2.2.2.2.2.2.2.2.2.1⟩, h.2.2.2.2.2.2.2.2.2.2.2.2.2.2.1.2⟩)
theorem own : ownKnob Tryz.prog.godebug = none := by kernel_rfl
theorem Ahh : laidOutB Tryz.prog = true := by kernel_rfl
theorem Aac {H : Type} {enc : TypeId × Value → H} {P : Program} {w : World} {fuel t : Nat} {ms : Array (String × TypeId)} (ht : P.underlying t = some (.interface ms)) {cs : List Value} {nm : String} {d : DataW H} {p : List MemPlace}
    (h : DataW.trod enc P w 0 (fun _ => true) false fuel t cs = some (.iface nm d, p)) : ∃ u v, cs = [.iface u v] ∧ P.typeName? 3 u = some nm := by
  cases fuel with
  | zero => cases h
  | succ fuel =>
    unfold DataW.trod at h
    rw [ht] at h
    match cs, h with
    | [.nilIface], h => cases h
    | [.iface u v], h =>
      simp only at h
      cases hn : P.typeName? 3 u with
      | none => rw [hn] at h; cases h
      | some name =>
        rw [hn] at h
        simp only [Option.map_eq_some_iff, Prod.mk.injEq] at h
        obtain ⟨x, _, h2, _⟩ := h
        cases h2
        exact ⟨u, v, rfl, hn⟩
abbrev Nn : List (String × DataW Unit) := [("math/bits.deBruijn32tab", Rows.laid_math_bits_deBruijn32tab), ("math/bits.deBruijn64tab", Rows.laid_math_bits_deBruijn64tab), ("internal/strconv.uint64pow10", Rows.laid_internal_strconv_uint64pow10), ("unicode/utf8.acceptRanges", Rows.laid_unicode_utf8_acceptRanges), ("strconv.ErrRange", Rows.laid_strconv_ErrRange), ("strconv.ErrSyntax", Rows.laid_strconv_ErrSyntax), ("wagonpool/edi.tags", Rows.laid_wagonpool_edi_tags), ("unicode/utf8.first", Rows.laid_unicode_utf8_first)]
theorem Ak5 : (Rows.laid_wagonpool_edi_tags : DataW Unit) = .agg (glob0.l.map fun s => .lit (.string s)) := by kernel_rfl
theorem AkD : (Rows.laid_internal_strconv_uint64pow10 : DataW Unit) = Lib.tabData .u64 Lib.pow10Tab := by kernel_rfl
theorem Afb (os : Os) (args : Array Value) : laidMetH Tryz.prog Nn ((World.laidAll Tryz.prog os Nn).forCall (fun _ _ => 0) ⟨#[], args, []⟩).memory := by
  rw [MakeChecks.laidMetH_plain _ _ _ (by kernel_rfl)]
  exact laidMet_laidAll _ (by kernel_rfl) (by kernel_rfl)
theorem L3 {P : Program} {w : World} : ∀ {l : List (String × DataW Unit)} {ps : List MemPlace}, DataW.LaidVars P w l ps → ∀ x ∈ l, ∃ g t cs fuel p, P.globalNamed x.1 = some g ∧ (P.globals[g]?).map (·.type) = some t ∧ w.var? P x.1 = some cs ∧
    DataW.trod (fun _ => ()) P w 0 (fun _ => true) false fuel t cs.toList = some (x.2, p)
  | [], _, _, x, hx => by cases hx
  | (n, d) :: r, ps, ⟨g, t, cs, fuel, p, q, hg, ht, hv, hd, hr, _⟩, x, hx => by
    rcases List.mem_cons.1 hx with rfl | hx
    · exact ⟨g, t, cs, fuel, p, hg, ht, hv, hd⟩
    · exact L3 hr x hx
theorem AeV {W : World} {cs : Array Value} {f : Nat} {p : List MemPlace} (hv : W.var? Tryz.prog "wagonpool/edi.tags" = some cs) (hd : DataW.trod (fun _ => ()) Tryz.prog W 0 (fun _ => true) false f 113 cs.toList = some (Rows.laid_wagonpool_edi_tags, p)) (r : Nat) (hr : r < 16) :
    ∃ s : ByteArray, W.cell? ⟨0, r, none⟩ = some (.string s) ∧ s.data.toList = nth glob0.l r := by
  rw [Ak5] at hd
  obtain ⟨xs, m, _, ex, _, hl, hel⟩ := DataW.trod_array Tryz.underlying113 hd
  have c5 : Tryz.prog.cellsOf 9 = 1 := by kernel_rfl
  have hE := hel r hr
  rw [c5, Nat.mul_one, List.getElem?_eq_getElem (by omega)] at hE
  obtain ⟨z, e1, e2, _⟩ := DataW.trod_string Tryz.underlying9 hE
  have hlen : glob0.l.length = 16 := glob0.h
  have e3 : (xs.map (·.1)) = glob0.l.map fun n => .lit (.string n) := (DataW.agg.inj (Prod.mk.inj ex).1).symm
  have e4 : (xs.map (·.1))[r]? = (glob0.l.map fun n => (DataW.lit (.string n) : DataW Unit))[r]? := by rw [e3]
  rw [List.getElem?_map, List.getElem?_map, List.getElem?_eq_getElem (by omega : r < xs.length), List.getElem?_eq_getElem (by omega : r < glob0.l.length), e2] at e4
  have hz : z.data.toList = nth glob0.l r := by
    simp only [Option.map_some, Option.some.injEq, DataW.lit.injEq, Lit.string.injEq] at e4
    rw [e4]
    simp [nth, List.getElem?_eq_getElem (by omega : r < glob0.l.length)]
  refine ⟨z, ?_, hz⟩
  rw [World.var?_cell (show Tryz.prog.globalNamed "wagonpool/edi.tags" = some 0 by kernel_rfl) hv r]
  have : cs.toList[r]? = some (.string z) := by
    have h0 : ((cs.toList.drop r).take 1)[0]? = some (.string z) := by rw [e1]; rfl
    simpa using h0
  simpa using this
theorem Zy {W : World} {n : String} {i : Nat} {cs : Array Value} {f : Nat} {p : List MemPlace} {d : DataW Unit} (hn : Tryz.prog.globalNamed n = some i) (hv : W.var? Tryz.prog n = some cs) (hd : DataW.trod (fun _ => ()) Tryz.prog W 0 (fun _ => true) false f 110 cs.toList = some (.iface "*errors.errorString" d, p)) :
    ∃ v, W.cell? ⟨i, 0, none⟩ = some (.iface 248 v) := by
  obtain ⟨u, v, e, hu⟩ := Aac Tryz.underlying110 hd
  obtain rfl := Agv hu
  refine ⟨v, ?_⟩
  rw [World.var?_cell hn hv 0, Array.eq_one_of_toList e]
  rfl
theorem AmL {W : World} (h : laidMetH Tryz.prog Nn W) : Mem (B.env fun _ => False) W [] [] := by
  rw [MakeChecks.laidMetH_plain _ _ _ (by kernel_rfl)] at h
  obtain ⟨ps, hl, _⟩ := h
  have hw : ∃ t o, W.heap[4]? = some (.cells ((Lib.pow10Tab.map fun z => Value.int .u64 z).toArray) t o) := by
    obtain ⟨g0, t0, cs0, f0, p0, hg0, ht0, hv0, hd0⟩ := L3 hl ("internal/strconv.uint64pow10", Rows.laid_internal_strconv_uint64pow10) (by simp [Nn])
    obtain rfl := Option.some.inj ((show Tryz.prog.globalNamed "internal/strconv.uint64pow10" = some 4 by kernel_rfl).symm.trans hg0)
    obtain rfl := Option.some.inj ((show (Tryz.prog.globals[4]?).map (·.type) = some 227 by kernel_rfl).symm.trans ht0)
    simp only [AkD] at hd0
    have hc := Lib.cells_of_tab (n := 20) Tryz.underlying227 Tryz.underlying88 (by kernel_rfl) (by kernel_rfl) hd0
    unfold World.var? at hv0
    rw [show Tryz.prog.globalNamed "internal/strconv.uint64pow10" = some 4 by kernel_rfl, Option.bind_some] at hv0
    split at hv0
    · rename_i c t o hcell
      cases hv0
      rw [← hc]
      exact ⟨t, o, hcell⟩
    · cases hv0
  obtain ⟨g0, t0, cs0, f0, p0, hg0, ht0, hv0, hd0⟩ := L3 hl ("wagonpool/edi.tags", Rows.laid_wagonpool_edi_tags) (by simp [Nn])
  obtain rfl := Option.some.inj ((show Tryz.prog.globalNamed "wagonpool/edi.tags" = some 0 by kernel_rfl).symm.trans hg0)
  obtain rfl := Option.some.inj ((show (Tryz.prog.globals[0]?).map (·.type) = some 113 by kernel_rfl).symm.trans ht0)
  have htag := AeV hv0 hd0
  obtain ⟨g1, t1, cs1, f1, p1, hg1, ht1, hv1, hd1⟩ := L3 hl ("strconv.ErrSyntax", Rows.laid_strconv_ErrSyntax) (by simp [Nn])
  obtain rfl := Option.some.inj ((show Tryz.prog.globalNamed "strconv.ErrSyntax" = some 7 by kernel_rfl).symm.trans hg1)
  obtain rfl := Option.some.inj ((show (Tryz.prog.globals[7]?).map (·.type) = some 110 by kernel_rfl).symm.trans ht1)
  obtain ⟨v7, h7⟩ := Zy hg1 hv1 hd1
  obtain ⟨g2, t2, cs2, f2, p2, hg2, ht2, hv2, hd2⟩ := L3 hl ("strconv.ErrRange", Rows.laid_strconv_ErrRange) (by simp [Nn])
  obtain rfl := Option.some.inj ((show Tryz.prog.globalNamed "strconv.ErrRange" = some 8 by kernel_rfl).symm.trans hg2)
  obtain rfl := Option.some.inj ((show (Tryz.prog.globals[8]?).map (·.type) = some 110 by kernel_rfl).symm.trans ht2)
  obtain ⟨v8, h8⟩ := Zy hg2 hv2 hd2
  refine ⟨rfl, fun id b ab h => by simp at h, fun id id' b b' β h => by simp at h, fun a h => h.elim, fun i cs hG => ?_, fun t m h => (by have h' : (none : Option MapS) = some m := h; cases h'), fun i p h => ?_⟩
  · have nomine : ¬ F8 ([] : Gh) i := by rintro ⟨id, b, hb, _⟩; simp at hb
    have hG' : (if i = 0 then some (C1 .str glob0.l) else if i = 7 then some [AV.iface 248 .junk] else if i = 8 then some [AV.iface 248 .junk] else none) = some cs := hG
    by_cases hi : i = 0
    · rw [if_pos hi] at hG'
      cases hG'
      subst hi
      have hex : ∀ j : Nat, ∃ v : Value, j < 16 → ∃ s : ByteArray, v = .string s ∧ W.cell? ⟨0, j, none⟩ = some v ∧ s.data.toList = nth glob0.l j := by
        intro j
        by_cases hj : j < 16
        · obtain ⟨s, h1, h2⟩ := htag j hj
          exact ⟨.string s, fun _ => ⟨s, rfl, h1, h2⟩⟩
        · exact ⟨undef, fun h => absurd h hj⟩
      obtain ⟨c, hc⟩ := Classical.axiomOfChoice hex
      obtain ⟨s0, _, hs0, _⟩ := hc 0 (by omega)
      refine ⟨cell?_lt hs0, nomine, fun _ hf => hf, c, fun j x hj => ?_⟩
      have hlen : glob0.l.length = 16 := glob0.h
      have hj16 : j < 16 := by
        have := (List.getElem?_eq_some_iff.1 hj).1
        rw [AdO] at this; omega
      obtain ⟨s, e, h1, h2⟩ := hc j hj16
      have hx : x = .str (nth glob0.l j) := by
        simp only [C1, List.getElem?_map, Option.map_eq_some_iff] at hj
        obtain ⟨y, hy, rfl⟩ := hj
        simp [nth, hy]
      subst hx
      rw [e] at h1 ⊢
      exact ⟨h1, .str _ _ _ h2, rfl⟩
    · rw [if_neg hi] at hG'
      by_cases hi7 : i = 7
      · rw [if_pos hi7] at hG'
        cases hG'
        subst hi7
        refine ⟨cell?_lt h7, nomine, fun _ hf => hf, fun j => .iface 248 v7, fun j x hj => ?_⟩
        cases j with
        | zero => cases hj; exact ⟨h7, .iface _ _ _ _ (.junk _ _), rfl⟩
        | succ j => simp at hj
      · rw [if_neg hi7] at hG'
        by_cases hi8 : i = 8
        · rw [if_pos hi8] at hG'
          cases hG'
          subst hi8
          refine ⟨cell?_lt h8, nomine, fun _ hf => hf, fun j => .iface 248 v8, fun j x hj => ?_⟩
          cases j with
          | zero => cases hj; exact ⟨h8, .iface _ _ _ _ (.junk _ _), rfl⟩
          | succ j => simp at hj
        · rw [if_neg hi8] at hG'; cases hG'
  · have h' : (if i = 4 then some ((Lib.pow10Tab.map fun z => Value.int .u64 z).toArray) else none) = some p := h
    by_cases hi : i = 4
    · rw [if_pos hi] at h'
      cases h'
      subst hi
      exact ⟨(by rintro ⟨id, b, hb, _⟩; simp at hb), hw⟩
    · rw [if_neg hi] at h'; cases h'
theorem Aa7 {f : FuncId} {avs : List AV} (h : Con B f avs [] (fun r σ' => r = .bool true ∧ σ' = [])) {fn : Func} {c : Code} (hf : Tryz.prog.funcs[f]? = some fn) (hb : fn.body = some c) (hn : (fn.name == "runtime.NumGoroutine") = false) {W : World} (hL : laidMetH Tryz.prog Nn W) {args : Array Value}
    (ha : C7 W (Av (B.env fun _ => False) []) [] args.toList avs) : Calls Tryz.prog f args W fun e W' => e = .returned (.bool true) ∧ Below W.heap.size W W' := by
  refine ((h.call (fun _ => False) W [] args (AmL hL) ha).calls hf hb hn).mono ?_
  rintro e w' ⟨v, r, σ', g', rfl, ⟨rfl, rfl⟩, hm, he, hr⟩
  exact ⟨by rw [Fb hr], he.below⟩
open Go.Shelf
def Tryz.laysM171_ren : Go.Shelf.Ren := ⟨fun | 171 => 48 | 243 => 100 | 246 => 141 | 283 => 158 | 284 => 159 | 285 => 160 | 286 => 161 | 129 => 128 | 317 => 172 | 318 => 173 | 319 => 174 | 320 => 175 | 337 => 188 | 338 => 189 | n => n, fun | 3 => 3 | 9 => 9 | 2 => 2 | 4 => 4 | 171 => 217 | 0 => 0 | 53 => 88 | 37 => 52 | 5 => 5 | 173 => 219 | 212 => 227 | 51 => 182 | 20 => 20 | 213 => 228 | 46 => 171 | 232 => 246 | 233 => 247 | n => n, fun | 17 => 4 | 18 => 9 | 19 => 10 | n => n⟩
theorem Tryz.laysM171 : Go.Proofs.LaysM.n171 Tryz.prog Tryz.laysM171_ren := {
  mixed := by kernel_rfl
  f129 := Tryz.func128.trans (congrArg some (by kernel_rfl))
  f171 := Tryz.func48.trans (congrArg some (by kernel_rfl))
  f243 := Tryz.func100.trans (congrArg some (by kernel_rfl))
  f246 := Tryz.func141.trans (congrArg some (by kernel_rfl))
  f283 := Tryz.func158.trans (congrArg some (by kernel_rfl))
  f284 := Tryz.func159.trans (congrArg some (by kernel_rfl))
  f285 := Tryz.func160.trans (congrArg some (by kernel_rfl))
  f286 := Tryz.func161.trans (congrArg some (by kernel_rfl))
  f317 := Tryz.func172.trans (congrArg some (by kernel_rfl))
  f318 := Tryz.func173.trans (congrArg some (by kernel_rfl))
  f319 := Tryz.func174.trans (congrArg some (by kernel_rfl))
  f320 := Tryz.func175.trans (congrArg some (by kernel_rfl))
  f337 := Tryz.func188.trans (congrArg some (by kernel_rfl))
  f338 := Tryz.func189.trans (congrArg some (by kernel_rfl))
  t0 := Tryz.underlying0
  a0 := Tryz.isAgg0
  z0 := Tryz.sizeOf0
  v0 := Tryz.zeroValue0
  t2 := Tryz.underlying2
  a2 := Tryz.isAgg2
  z2 := Tryz.sizeOf2
  v2 := Tryz.zeroValue2
  t3 := Tryz.underlying3
  a3 := Tryz.isAgg3
  z3 := Tryz.sizeOf3
  v3 := Tryz.zeroValue3
  t4 := Tryz.underlying4
  a4 := Tryz.isAgg4
  z4 := Tryz.sizeOf4
  v4 := Tryz.zeroValue4
  t5 := Tryz.underlying5
  a5 := Tryz.isAgg5
  z5 := Tryz.sizeOf5
  v5 := Tryz.zeroValue5
  t9 := Tryz.underlying9
  a9 := Tryz.isAgg9
  z9 := Tryz.sizeOf9
  v9 := Tryz.zeroValue9
  t20 := Tryz.underlying20
  a20 := Tryz.isAgg20
  z20 := Tryz.sizeOf20
  v20 := Tryz.zeroValue20
  t37 := Tryz.underlying52
  a37 := Tryz.isAgg52
  z37 := Tryz.sizeOf52
  v37 := Tryz.zeroValue52
  t46 := Tryz.underlying171
  a46 := Tryz.isAgg171
  z46 := Tryz.sizeOf171
  v46 := Tryz.zeroValue171
  t51 := Tryz.underlying182
  a51 := Tryz.isAgg182
  z51 := Tryz.sizeOf182
  v51 := Tryz.zeroValue182
  t53 := Tryz.underlying88
  a53 := Tryz.isAgg88
  z53 := Tryz.sizeOf88
  v53 := Tryz.zeroValue88
  t171 := Tryz.underlying217
  a171 := Tryz.isAgg217
  z171 := Tryz.sizeOf217
  v171 := Tryz.zeroValue217
  t173 := Tryz.underlying219
  a173 := Tryz.isAgg219
  z173 := Tryz.sizeOf219
  v173 := Tryz.zeroValue219
  t212 := Tryz.underlying227
  a212 := Tryz.isAgg227
  z212 := Tryz.sizeOf227
  v212 := Tryz.zeroValue227
  t213 := Tryz.underlying228
  a213 := Tryz.isAgg228
  z213 := Tryz.sizeOf228
  t232 := Tryz.underlying246
  a232 := Tryz.isAgg246
  z232 := Tryz.sizeOf246
  v232 := Tryz.zeroValue246
  t233 := Tryz.underlying247
  a233 := Tryz.isAgg247
  z233 := Tryz.sizeOf247
  v233 := Tryz.zeroValue247
  g17 := by kernel_rfl
  g18 := by kernel_rfl
  g19 := by kernel_rfl
  i0 := by kernel_rfl
  i2 := by kernel_rfl
  i3 := by kernel_rfl
  i4 := by kernel_rfl
  i5 := by kernel_rfl
  i9 := by kernel_rfl
  i20 := by kernel_rfl
  i37 := by kernel_rfl
  i46 := by kernel_rfl
  i51 := by kernel_rfl
  i53 := by kernel_rfl
  i171 := by kernel_rfl
  i173 := by kernel_rfl
  i212 := by kernel_rfl
  i232 := by kernel_rfl
  i233 := by kernel_rfl
  m17 := by kernel_rfl
  m18 := by kernel_rfl
  m19 := by kernel_rfl }
def Tryz.laysC172_ren : Go.Shelf.Ren := ⟨fun | 172 => 149 | 244 => 168 | 245 => 169 | 247 => 181 | 279 => 182 | 280 => 183 | 281 => 184 | 282 => 185 | 287 => 170 | 316 => 191 | 171 => 48 | 205 => 192 | 321 => 186 | 322 => 187 | 243 => 100 | 246 => 141 | 283 => 158 | 284 => 159 | 285 => 160 | 286 => 161 | 129 => 128 | 317 => 172 | 318 => 173 | 319 => 174 | 320 => 175 | 337 => 188 | 338 => 189 | n => n, fun | 9 => 9 | 3 => 3 | 75 => 110 | 76 => 111 | 4 => 4 | 5 => 5 | 167 => 230 | 37 => 52 | 0 => 0 | 85 => 231 | 2 => 2 | 168 => 233 | 53 => 88 | 175 => 208 | 46 => 171 | 210 => 244 | 127 => 172 | 145 => 250 | 143 => 248 | 21 => 21 | 171 => 217 | 173 => 219 | 212 => 227 | 51 => 182 | 20 => 20 | 213 => 228 | 232 => 246 | 233 => 247 | 80 => 124 | n => n, fun | 15 => 7 | 16 => 8 | 17 => 4 | 18 => 9 | 19 => 10 | n => n⟩
theorem Tryz.laysC172 : Go.Proofs.LaysC.n172 Tryz.prog Tryz.laysC172_ren := {
  mixed := by kernel_rfl
  f129 := Tryz.func128.trans (congrArg some (by kernel_rfl))
  f171 := Tryz.func48.trans (congrArg some (by kernel_rfl))
  f172 := Tryz.func149.trans (congrArg some (by kernel_rfl))
  f205 := Tryz.func192.trans (congrArg some (by kernel_rfl))
  f243 := Tryz.func100.trans (congrArg some (by kernel_rfl))
  f244 := Tryz.func168.trans (congrArg some (by kernel_rfl))
  f245 := Tryz.func169.trans (congrArg some (by kernel_rfl))
  f246 := Tryz.func141.trans (congrArg some (by kernel_rfl))
  f247 := Tryz.func181.trans (congrArg some (by kernel_rfl))
  f279 := Tryz.func182.trans (congrArg some (by kernel_rfl))
  f280 := Tryz.func183.trans (congrArg some (by kernel_rfl))
  f281 := Tryz.func184.trans (congrArg some (by kernel_rfl))
  f282 := Tryz.func185.trans (congrArg some (by kernel_rfl))
  f283 := Tryz.func158.trans (congrArg some (by kernel_rfl))
  f284 := Tryz.func159.trans (congrArg some (by kernel_rfl))
  f285 := Tryz.func160.trans (congrArg some (by kernel_rfl))
  f286 := Tryz.func161.trans (congrArg some (by kernel_rfl))
  f287 := Tryz.func170.trans (congrArg some (by kernel_rfl))
  f316 := Tryz.func191.trans (congrArg some (by kernel_rfl))
  f317 := Tryz.func172.trans (congrArg some (by kernel_rfl))
  f318 := Tryz.func173.trans (congrArg some (by kernel_rfl))
  f319 := Tryz.func174.trans (congrArg some (by kernel_rfl))
  f320 := Tryz.func175.trans (congrArg some (by kernel_rfl))
  f321 := Tryz.func186.trans (congrArg some (by kernel_rfl))
  f322 := Tryz.func187.trans (congrArg some (by kernel_rfl))
  f337 := Tryz.func188.trans (congrArg some (by kernel_rfl))
  f338 := Tryz.func189.trans (congrArg some (by kernel_rfl))
  t0 := Tryz.underlying0
  a0 := Tryz.isAgg0
  z0 := Tryz.sizeOf0
  v0 := Tryz.zeroValue0
  t2 := Tryz.underlying2
  a2 := Tryz.isAgg2
  z2 := Tryz.sizeOf2
  v2 := Tryz.zeroValue2
  t3 := Tryz.underlying3
  a3 := Tryz.isAgg3
  z3 := Tryz.sizeOf3
  v3 := Tryz.zeroValue3
  t4 := Tryz.underlying4
  a4 := Tryz.isAgg4
  z4 := Tryz.sizeOf4
  v4 := Tryz.zeroValue4
  t5 := Tryz.underlying5
  a5 := Tryz.isAgg5
  z5 := Tryz.sizeOf5
  v5 := Tryz.zeroValue5
  t9 := Tryz.underlying9
  a9 := Tryz.isAgg9
  z9 := Tryz.sizeOf9
  v9 := Tryz.zeroValue9
  t20 := Tryz.underlying20
  a20 := Tryz.isAgg20
  z20 := Tryz.sizeOf20
  v20 := Tryz.zeroValue20
  t21 := Tryz.underlying21
  a21 := Tryz.isAgg21
  z21 := Tryz.sizeOf21
  v21 := Tryz.zeroValue21
  t37 := Tryz.underlying52
  a37 := Tryz.isAgg52
  z37 := Tryz.sizeOf52
  v37 := Tryz.zeroValue52
  t46 := Tryz.underlying171
  a46 := Tryz.isAgg171
  z46 := Tryz.sizeOf171
  v46 := Tryz.zeroValue171
  t51 := Tryz.underlying182
  a51 := Tryz.isAgg182
  z51 := Tryz.sizeOf182
  v51 := Tryz.zeroValue182
  t53 := Tryz.underlying88
  a53 := Tryz.isAgg88
  z53 := Tryz.sizeOf88
  v53 := Tryz.zeroValue88
  t75 := Tryz.underlying110
  a75 := Tryz.isAgg110
  z75 := Tryz.sizeOf110
  v75 := Tryz.zeroValue110
  t76 := Tryz.underlying111
  a76 := Tryz.isAgg111
  z76 := Tryz.sizeOf111
  v76 := Tryz.zeroValue111
  t85 := Tryz.underlying231
  a85 := Tryz.isAgg231
  z85 := Tryz.sizeOf231
  v85 := Tryz.zeroValue231
  t127 := Tryz.underlying172
  a127 := Tryz.isAgg172
  z127 := Tryz.sizeOf172
  v127 := Tryz.zeroValue172
  t143 := Tryz.underlying248
  a143 := Tryz.isAgg248
  z143 := Tryz.sizeOf248
  v143 := Tryz.zeroValue248
  t145 := Tryz.underlying250
  a145 := Tryz.isAgg250
  z145 := Tryz.sizeOf250
  v145 := Tryz.zeroValue250
  t167 := Tryz.underlying230
  a167 := Tryz.isAgg230
  z167 := Tryz.sizeOf230
  v167 := Tryz.zeroValue230
  t168 := Tryz.underlying233
  a168 := Tryz.isAgg233
  z168 := Tryz.sizeOf233
  v168 := Tryz.zeroValue233
  t171 := Tryz.underlying217
  a171 := Tryz.isAgg217
  z171 := Tryz.sizeOf217
  v171 := Tryz.zeroValue217
  t173 := Tryz.underlying219
  a173 := Tryz.isAgg219
  z173 := Tryz.sizeOf219
  v173 := Tryz.zeroValue219
  t175 := Tryz.underlying208
  a175 := Tryz.isAgg208
  z175 := Tryz.sizeOf208
  v175 := Tryz.zeroValue208
  t210 := Tryz.underlying244
  a210 := Tryz.isAgg244
  z210 := Tryz.sizeOf244
  v210 := Tryz.zeroValue244
  t212 := Tryz.underlying227
  a212 := Tryz.isAgg227
  z212 := Tryz.sizeOf227
  v212 := Tryz.zeroValue227
  t213 := Tryz.underlying228
  a213 := Tryz.isAgg228
  z213 := Tryz.sizeOf228
  t232 := Tryz.underlying246
  a232 := Tryz.isAgg246
  z232 := Tryz.sizeOf246
  v232 := Tryz.zeroValue246
  t233 := Tryz.underlying247
  a233 := Tryz.isAgg247
  z233 := Tryz.sizeOf247
  v233 := Tryz.zeroValue247
  g15 := by kernel_rfl
  g16 := by kernel_rfl
  g17 := by kernel_rfl
  g18 := by kernel_rfl
  g19 := by kernel_rfl
  t80 := Tryz.underlying124
  a80 := Tryz.isAgg124
  z80 := Tryz.sizeOf124
  v80 := Tryz.zeroValue124
  i0 := by kernel_rfl
  i2 := by kernel_rfl
  i3 := by kernel_rfl
  i4 := by kernel_rfl
  i5 := by kernel_rfl
  i9 := by kernel_rfl
  i20 := by kernel_rfl
  i21 := by kernel_rfl
  i37 := by kernel_rfl
  i46 := by kernel_rfl
  i51 := by kernel_rfl
  i53 := by kernel_rfl
  i75 := by kernel_rfl
  i76 := by kernel_rfl
  i80 := by kernel_rfl
  i85 := by kernel_rfl
  i127 := by kernel_rfl
  i143 := by kernel_rfl
  i145 := by kernel_rfl
  i167 := by kernel_rfl
  i168 := by kernel_rfl
  i171 := by kernel_rfl
  i173 := by kernel_rfl
  i175 := by kernel_rfl
  i210 := by kernel_rfl
  i212 := by kernel_rfl
  i232 := by kernel_rfl
  i233 := by kernel_rfl
  m15 := by kernel_rfl
  m16 := by kernel_rfl
  m17 := by kernel_rfl
  m18 := by kernel_rfl
  m19 := by kernel_rfl
  c0 := by kernel_rfl
  c2 := by kernel_rfl
  c3 := by kernel_rfl
  c4 := by kernel_rfl
  c5 := by kernel_rfl
  c9 := by kernel_rfl
  c20 := by kernel_rfl
  c21 := by kernel_rfl
  c37 := by kernel_rfl
  c46 := by kernel_rfl
  c51 := by kernel_rfl
  c53 := by kernel_rfl
  c75 := by kernel_rfl
  c76 := by kernel_rfl
  c80 := by kernel_rfl
  c85 := by kernel_rfl
  c127 := by kernel_rfl
  c143 := by kernel_rfl
  c145 := by kernel_rfl
  c167 := by kernel_rfl
  c168 := by kernel_rfl
  c171 := by kernel_rfl
  c173 := by kernel_rfl
  c175 := by kernel_rfl
  c210 := by kernel_rfl
  c212 := by kernel_rfl
  c213 := by kernel_rfl
  c232 := by kernel_rfl
  c233 := by kernel_rfl }
def Tryz.lays138_ren : Go.Shelf.Ren := ⟨fun | 138 => 145 | 195 => 162 | 218 => 164 | 143 => 146 | 219 => 165 | 217 => 147 | 225 => 177 | 224 => 178 | 267 => 179 | 266 => 166 | 314 => 190 | n => n, fun | 9 => 9 | 3 => 3 | 4 => 4 | 5 => 5 | 0 => 0 | 46 => 171 | 146 => 241 | 51 => 182 | n => n, fun | 1 => 1 | n => n⟩
theorem Tryz.lays138 : Go.Proofs.Lays.n138 Tryz.prog Tryz.lays138_ren := {
  mixed := by kernel_rfl
  f138 := Tryz.func145.trans (congrArg some (by kernel_rfl))
  f143 := Tryz.func146.trans (congrArg some (by kernel_rfl))
  f195 := Tryz.func162.trans (congrArg some (by kernel_rfl))
  f217 := Tryz.func147.trans (congrArg some (by kernel_rfl))
  f218 := Tryz.func164.trans (congrArg some (by kernel_rfl))
  f219 := Tryz.func165.trans (congrArg some (by kernel_rfl))
  f224 := Tryz.func178.trans (congrArg some (by kernel_rfl))
  f225 := Tryz.func177.trans (congrArg some (by kernel_rfl))
  f266 := Tryz.func166.trans (congrArg some (by kernel_rfl))
  f267 := Tryz.func179.trans (congrArg some (by kernel_rfl))
  f314 := Tryz.func190.trans (congrArg some (by kernel_rfl))
  t0 := Tryz.underlying0
  a0 := Tryz.isAgg0
  z0 := Tryz.sizeOf0
  v0 := Tryz.zeroValue0
  t3 := Tryz.underlying3
  a3 := Tryz.isAgg3
  z3 := Tryz.sizeOf3
  v3 := Tryz.zeroValue3
  t4 := Tryz.underlying4
  a4 := Tryz.isAgg4
  z4 := Tryz.sizeOf4
  v4 := Tryz.zeroValue4
  t5 := Tryz.underlying5
  a5 := Tryz.isAgg5
  z5 := Tryz.sizeOf5
  v5 := Tryz.zeroValue5
  t9 := Tryz.underlying9
  a9 := Tryz.isAgg9
  z9 := Tryz.sizeOf9
  v9 := Tryz.zeroValue9
  t46 := Tryz.underlying171
  a46 := Tryz.isAgg171
  z46 := Tryz.sizeOf171
  v46 := Tryz.zeroValue171
  t51 := Tryz.underlying182
  a51 := Tryz.isAgg182
  z51 := Tryz.sizeOf182
  v51 := Tryz.zeroValue182
  t146 := Tryz.underlying241
  a146 := Tryz.isAgg241
  z146 := Tryz.sizeOf241
  v146 := Tryz.zeroValue241
  g1 := by kernel_rfl }
def Tryz.lays240_ren : Go.Shelf.Ren := ⟨fun | 240 => 99 | 276 => 140 | n => n, fun | 0 => 0 | 4 => 4 | 9 => 9 | 20 => 20 | 70 => 106 | 72 => 108 | 164 => 198 | 37 => 52 | n => n, fun | n => n⟩
theorem Tryz.lays240 : Go.Proofs.Lays.n240 Tryz.prog Tryz.lays240_ren := {
  mixed := by kernel_rfl
  f240 := Tryz.func99.trans (congrArg some (by kernel_rfl))
  f276 := Tryz.func140.trans (congrArg some (by kernel_rfl))
  t0 := Tryz.underlying0
  a0 := Tryz.isAgg0
  z0 := Tryz.sizeOf0
  v0 := Tryz.zeroValue0
  t4 := Tryz.underlying4
  a4 := Tryz.isAgg4
  z4 := Tryz.sizeOf4
  v4 := Tryz.zeroValue4
  t9 := Tryz.underlying9
  a9 := Tryz.isAgg9
  z9 := Tryz.sizeOf9
  v9 := Tryz.zeroValue9
  t20 := Tryz.underlying20
  a20 := Tryz.isAgg20
  z20 := Tryz.sizeOf20
  v20 := Tryz.zeroValue20
  t70 := Tryz.underlying106
  a70 := Tryz.isAgg106
  z70 := Tryz.sizeOf106
  v70 := Tryz.zeroValue106
  t72 := Tryz.underlying108
  a72 := Tryz.isAgg108
  z72 := Tryz.sizeOf108
  v72 := Tryz.zeroValue108
  t164 := Tryz.underlying198
  a164 := Tryz.isAgg198
  z164 := Tryz.sizeOf198
  v164 := Tryz.zeroValue198 }
end Go.Proofs.YtnfoiocigicdnaaGreatDoor
