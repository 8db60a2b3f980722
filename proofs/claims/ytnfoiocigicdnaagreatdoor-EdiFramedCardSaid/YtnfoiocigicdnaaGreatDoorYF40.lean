/-
  Part 40.
-/
import Derived.Test.YtnfoiocigicdnaaGreatDoorProg
import Derived.Test.YtnfoiocigicdnaaGreatDoorRows
import Derived.Test.YtnfoiocigicdnaaGreatDoorYF26
import Derived.Test.YtnfoiocigicdnaaGreatDoorYF31
import Derived.Test.YtnfoiocigicdnaaGreatDoorYF39
import Derived.KernelRfl
import Derived.Lib.LaidTab
import Derived.WalkKit
import Derived.ProofKit
import Derived.OpenShut
import Derived.JoinedCond
import Derived.LaidMore
import Derived.Lay
import Derived.SevenTiedAt
import Derived.Stop.Joined
import Derived.Shelf.Strings.Builder1
import Derived.Shelf.Strconv.Itoa3
import Derived.Shelf.Strconv.AtoiAll
import Derived.Shelf.Strconv.ToError
import Derived.Shelf.Strconv.ToErrorRange
import Derived.Shelf.Strings.Count
namespace Go.Proofs.YtnfoiocigicdnaaGreatDoor
open Go.Rv
set_option linter.unusedVariables false
set_option linter.unusedSimpArgs false
set_option maxRecDepth 20000
def glob0 : Arr (List UInt8) 16 := ⟨[[], [82, 69, 65, 68], [83, 84, 65, 89], [68, 69, 76, 73, 86, 69, 82], [82, 69, 67, 69, 73, 86, 69], [87, 65, 89, 66, 73, 76, 76], [80, 76, 65, 67, 69, 68], [82, 69, 76, 69, 65, 83, 69, 68], [68, 65, 77, 65, 71, 69, 68], [82, 69, 80, 65, 73, 82, 69, 68], [82, 69, 67, 65, 76, 76], [84, 65, 82, 73, 70, 70], [65, 77, 69, 78, 68], [67, 65, 78, 67, 69, 76], [82, 69, 84, 82, 65, 67, 84], [79, 82, 68, 69, 82]], rfl⟩
attribute [go_sem_proc] reduceIte Nat.reduceLT Nat.reduceEqDiff Nat.reduceAdd Nat.reduceBEq Nat.reduceMul Nat.reduceSub Nat.reduceGT Nat.reducePow Nat.reduceLeDiff Int.reduceToNat
noncomputable def B : Base := Ab1 Tryz.prog (fun i => if i = 0 then some (C1 AV.str glob0.l) else if i = 7 then some [.iface 248 .junk] else if i = 8 then some [.iface 248 .junk] else none) (fun f xs => [29, 46, 47, 49, 50, 51, 52, 53, 54, 59, 68, 71, 81, 83, 84, 99, 116, 117, 118].contains f || (f == 31 && hdT [56] xs)) (fun _ => none) (fun i => if i = 4 then some ((Lib.pow10Tab).map fun z => Value.int .u64 z).toArray else none) (some 108) true (fun _ _ => rfl)
theorem tbk {t F x} (h : Xs Tryz.prog t = x) : (B.env F).tab t = x := (X8 Tryz.prog t).trans h
theorem ok : B.Ok := Aao _ _ _ _ _ _ _ _
theorem lm0 (F : Addr → Prop) : (B.env F).lm = true := rfl
theorem own3 (F : Addr → Prop) (xs : List Operand) : (B.env F).own 3 xs = false := rfl
theorem own4 (F : Addr → Prop) (xs : List Operand) : (B.env F).own 4 xs = false := rfl
theorem own5 (F : Addr → Prop) (xs : List Operand) : (B.env F).own 5 xs = false := rfl
theorem own6 (F : Addr → Prop) (xs : List Operand) : (B.env F).own 6 xs = false := rfl
theorem own7 (F : Addr → Prop) (xs : List Operand) : (B.env F).own 7 xs = false := rfl
theorem own8 (F : Addr → Prop) (xs : List Operand) : (B.env F).own 8 xs = false := rfl
theorem Am2 (F : Addr → Prop) (xs : List Operand) : (B.env F).own 10 xs = false := rfl
theorem Aod (F : Addr → Prop) (xs : List Operand) : (B.env F).own 11 xs = false := rfl
theorem Am9 (F : Addr → Prop) (xs : List Operand) : (B.env F).own 12 xs = false := rfl
theorem AmJ (F : Addr → Prop) (xs : List Operand) : (B.env F).own 14 xs = false := rfl
theorem AnV (F : Addr → Prop) (xs : List Operand) : (B.env F).own 15 xs = false := rfl
theorem Amj (F : Addr → Prop) (xs : List Operand) : (B.env F).own 16 xs = false := rfl
theorem Al4 (F : Addr → Prop) (xs : List Operand) : (B.env F).own 18 xs = false := rfl
theorem Amt (F : Addr → Prop) (xs : List Operand) : (B.env F).own 19 xs = false := rfl
theorem Al2 (F : Addr → Prop) (xs : List Operand) : (B.env F).own 20 xs = false := rfl
theorem AnH (F : Addr → Prop) (xs : List Operand) : (B.env F).own 21 xs = false := rfl
theorem Anb (F : Addr → Prop) (xs : List Operand) : (B.env F).own 22 xs = false := rfl
theorem Aoe (F : Addr → Prop) (xs : List Operand) : (B.env F).own 23 xs = false := rfl
theorem Amh (F : Addr → Prop) (xs : List Operand) : (B.env F).own 24 xs = false := rfl
theorem AnU (F : Addr → Prop) (xs : List Operand) : (B.env F).own 25 xs = false := rfl
theorem AnA (F : Addr → Prop) (xs : List Operand) : (B.env F).own 26 xs = false := rfl
theorem Ane (F : Addr → Prop) (xs : List Operand) : (B.env F).own 27 xs = false := rfl
theorem AlW (F : Addr → Prop) (xs : List Operand) : (B.env F).own 28 xs = false := rfl
theorem AnL (F : Addr → Prop) (xs : List Operand) : (B.env F).own 29 xs = true := rfl
theorem An2 (F : Addr → Prop) (xs : List Operand) : (B.env F).own 30 xs = false := rfl
theorem AnK (F : Addr → Prop) (xs : List Operand) : (B.env F).own 32 xs = false := rfl
theorem Amk (F : Addr → Prop) (xs : List Operand) : (B.env F).own 33 xs = false := rfl
theorem Al1 (F : Addr → Prop) (xs : List Operand) : (B.env F).own 34 xs = false := rfl
theorem Amm (F : Addr → Prop) (xs : List Operand) : (B.env F).own 35 xs = false := rfl
theorem Aoc (F : Addr → Prop) (xs : List Operand) : (B.env F).own 36 xs = false := rfl
theorem Anx (F : Addr → Prop) (xs : List Operand) : (B.env F).own 39 xs = false := rfl
theorem Anz (F : Addr → Prop) (xs : List Operand) : (B.env F).own 40 xs = false := rfl
theorem An7 (F : Addr → Prop) (xs : List Operand) : (B.env F).own 41 xs = false := rfl
theorem An3 (F : Addr → Prop) (xs : List Operand) : (B.env F).own 46 xs = true := rfl
theorem Anf (F : Addr → Prop) (xs : List Operand) : (B.env F).own 47 xs = true := rfl
theorem AnD (F : Addr → Prop) (xs : List Operand) : (B.env F).own 48 xs = false := rfl
theorem Amu (F : Addr → Prop) (xs : List Operand) : (B.env F).own 49 xs = true := rfl
theorem Anv (F : Addr → Prop) (xs : List Operand) : (B.env F).own 50 xs = true := rfl
theorem Am3 (F : Addr → Prop) (xs : List Operand) : (B.env F).own 51 xs = true := rfl
theorem AmE (F : Addr → Prop) (xs : List Operand) : (B.env F).own 52 xs = true := rfl
theorem Anw (F : Addr → Prop) (xs : List Operand) : (B.env F).own 53 xs = true := rfl
theorem AmO (F : Addr → Prop) (xs : List Operand) : (B.env F).own 54 xs = true := rfl
theorem Am1 (F : Addr → Prop) (xs : List Operand) : (B.env F).own 55 xs = false := rfl
theorem AnX (F : Addr → Prop) (xs : List Operand) : (B.env F).own 56 xs = false := rfl
theorem Anr (F : Addr → Prop) (xs : List Operand) : (B.env F).own 57 xs = false := rfl
theorem AmQ (F : Addr → Prop) (xs : List Operand) : (B.env F).own 58 xs = false := rfl
theorem Ans (F : Addr → Prop) (xs : List Operand) : (B.env F).own 59 xs = true := rfl
theorem An0 (F : Addr → Prop) (xs : List Operand) : (B.env F).own 60 xs = false := rfl
theorem Amd (F : Addr → Prop) (xs : List Operand) : (B.env F).own 61 xs = false := rfl
theorem AlY (F : Addr → Prop) (xs : List Operand) : (B.env F).own 62 xs = false := rfl
theorem AmD (F : Addr → Prop) (xs : List Operand) : (B.env F).own 63 xs = false := rfl
theorem And (F : Addr → Prop) (xs : List Operand) : (B.env F).own 64 xs = false := rfl
theorem AnS (F : Addr → Prop) (xs : List Operand) : (B.env F).own 65 xs = false := rfl
theorem An1 (F : Addr → Prop) (xs : List Operand) : (B.env F).own 66 xs = false := rfl
theorem AnW (F : Addr → Prop) (xs : List Operand) : (B.env F).own 67 xs = false := rfl
theorem Ams (F : Addr → Prop) (xs : List Operand) : (B.env F).own 68 xs = true := rfl
theorem AmI (F : Addr → Prop) (xs : List Operand) : (B.env F).own 69 xs = false := rfl
theorem AlZ (F : Addr → Prop) (xs : List Operand) : (B.env F).own 70 xs = false := rfl
theorem Anm (F : Addr → Prop) (xs : List Operand) : (B.env F).own 71 xs = true := rfl
theorem Amo (F : Addr → Prop) (xs : List Operand) : (B.env F).own 72 xs = false := rfl
theorem Ant (F : Addr → Prop) (xs : List Operand) : (B.env F).own 73 xs = false := rfl
theorem AmT (F : Addr → Prop) (xs : List Operand) : (B.env F).own 74 xs = false := rfl
theorem AnQ (F : Addr → Prop) (xs : List Operand) : (B.env F).own 75 xs = false := rfl
theorem Anj (F : Addr → Prop) (xs : List Operand) : (B.env F).own 76 xs = false := rfl
theorem Al3 (F : Addr → Prop) (xs : List Operand) : (B.env F).own 77 xs = false := rfl
theorem Amb (F : Addr → Prop) (xs : List Operand) : (B.env F).own 78 xs = false := rfl
theorem Al5 (F : Addr → Prop) (xs : List Operand) : (B.env F).own 79 xs = false := rfl
theorem AlU (F : Addr → Prop) (xs : List Operand) : (B.env F).own 80 xs = false := rfl
theorem Aob (F : Addr → Prop) (xs : List Operand) : (B.env F).own 81 xs = true := rfl
theorem Amx (F : Addr → Prop) (xs : List Operand) : (B.env F).own 83 xs = true := rfl
theorem AnE (F : Addr → Prop) (xs : List Operand) : (B.env F).own 84 xs = true := rfl
theorem AmK (F : Addr → Prop) (xs : List Operand) : (B.env F).own 87 xs = false := rfl
theorem Amy (F : Addr → Prop) (xs : List Operand) : (B.env F).own 98 xs = false := rfl
theorem AmF (F : Addr → Prop) (xs : List Operand) : (B.env F).own 99 xs = true := rfl
theorem Ajw (F : Addr → Prop) (xs : List Operand) : (B.env F).own 101 xs = false := rfl
theorem Ak9 (F : Addr → Prop) (xs : List Operand) : (B.env F).own 102 xs = false := rfl
theorem Ajn (F : Addr → Prop) (xs : List Operand) : (B.env F).own 103 xs = false := rfl
theorem Aj0 (F : Addr → Prop) (xs : List Operand) : (B.env F).own 104 xs = false := rfl
theorem Akp (F : Addr → Prop) (xs : List Operand) : (B.env F).own 105 xs = false := rfl
theorem Ai5 (F : Addr → Prop) (xs : List Operand) : (B.env F).own 106 xs = false := rfl
theorem AiO (F : Addr → Prop) (xs : List Operand) : (B.env F).own 107 xs = false := rfl
theorem Ake (F : Addr → Prop) (xs : List Operand) : (B.env F).own 108 xs = false := rfl
theorem AjH (F : Addr → Prop) (xs : List Operand) : (B.env F).own 109 xs = false := rfl
theorem AiT (F : Addr → Prop) (xs : List Operand) : (B.env F).own 110 xs = false := rfl
theorem Akm (F : Addr → Prop) (xs : List Operand) : (B.env F).own 111 xs = false := rfl
theorem Aj4 (F : Addr → Prop) (xs : List Operand) : (B.env F).own 112 xs = false := rfl
theorem AkE (F : Addr → Prop) (xs : List Operand) : (B.env F).own 113 xs = false := rfl
theorem Aj5 (F : Addr → Prop) (xs : List Operand) : (B.env F).own 114 xs = false := rfl
theorem AlF (F : Addr → Prop) (xs : List Operand) : (B.env F).own 115 xs = false := rfl
theorem AjF (F : Addr → Prop) (xs : List Operand) : (B.env F).own 116 xs = true := rfl
theorem Ai9 (F : Addr → Prop) (xs : List Operand) : (B.env F).own 117 xs = true := rfl
theorem AiX (F : Addr → Prop) (xs : List Operand) : (B.env F).own 118 xs = true := rfl
theorem AiD (F : Addr → Prop) (xs : List Operand) : (B.env F).own 128 xs = false := rfl
theorem AiA (F : Addr → Prop) (xs : List Operand) : (B.env F).own 142 xs = false := rfl
theorem AiI (F : Addr → Prop) (xs : List Operand) : (B.env F).own 143 xs = false := rfl
theorem Akt (F : Addr → Prop) (xs : List Operand) : (B.env F).own 145 xs = false := rfl
theorem Alt (F : Addr → Prop) (xs : List Operand) : (B.env F).own 146 xs = false := rfl
theorem AkL (F : Addr → Prop) (xs : List Operand) : (B.env F).own 147 xs = false := rfl
theorem Aiv (F : Addr → Prop) (xs : List Operand) : (B.env F).own 149 xs = false := rfl
theorem AkT (F : Addr → Prop) (xs : List Operand) : (B.env F).own 150 xs = false := rfl
theorem AiF (F : Addr → Prop) (xs : List Operand) : (B.env F).own 151 xs = false := rfl
theorem Ai0 (F : Addr → Prop) (xs : List Operand) : (B.env F).own 152 xs = false := rfl
theorem Alp (F : Addr → Prop) (xs : List Operand) : (B.env F).own 165 xs = false := rfl
theorem AjP (F : Addr → Prop) (xs : List Operand) : (B.env F).own 166 xs = false := rfl
theorem AjI (F : Addr → Prop) (xs : List Operand) : (B.env F).own 170 xs = false := rfl
theorem AkP (F : Addr → Prop) (xs : List Operand) : (B.env F).own 186 xs = false := rfl
theorem AeX (F : Addr → Prop) (xs : List Operand) : (B.env F).own 31 (.tmp 56 :: xs) = true := rfl
theorem Aec (F : Addr → Prop) (xs : List Operand) : (B.env F).own 31 (.tmp 65 :: xs) = false := rfl
theorem mixed : Tryz.prog.follows .mixedOrders = true := by kernel_rfl
structure Strings_Builder where
  addr : Unit
  buf : List UInt8
  deriving DecidableEq, Inhabited
def Nk (x : Strings_Builder) : List AV := [.val (.pointer none), .sl false (L cU8 x.buf)]
structure Api_Ref where
  Railway : Int
  No : Int
  deriving DecidableEq, Inhabited
def Zo (x : Api_Ref) : List AV := [i64 x.Railway, i64 x.No]
structure Api_Part where
  Kind : Int
  Serial : Int
  Fitted : Bool
  deriving DecidableEq, Inhabited
def Ac (x : Api_Part) : List AV := [i64 x.Kind, i64 x.Serial, .bool x.Fitted]
structure Api_Item where
  Kind : Int
  Ref : Api_Ref
  Wagon : Int
  Place : Int
  Other : Int
  Number : Int
  From : Int
  To : Int
  Code : Int
  Dest : Int
  Class : Int
  Weight : Int
  Amount : Int
  Text : List UInt8
  Parts : List Api_Part
  deriving DecidableEq, Inhabited
def Uh (x : Api_Item) : List AV := [i64 x.Kind, i64 x.Ref.Railway, i64 x.Ref.No, i64 x.Wagon, i64 x.Place, i64 x.Other, i64 x.Number, i64 x.From, i64 x.To, i64 x.Code, i64 x.Dest, i64 x.Class, i64 x.Weight, i64 x.Amount, .str x.Text, .sl false (L Ac x.Parts)]
inductive Api_Value where
  | mk (Kind : Int) (N : Int) (B : List UInt8) (L : List Api_Value)
instance : Inhabited Api_Value := ⟨.mk default default default default⟩
def Api_Value.Kind (x : Api_Value) : Int := match x with
  | .mk a _ _ _ => a
theorem P1 {x0 : Int} {x1 : Int} {x2 : List UInt8} {x3 : List Api_Value} : (Api_Value.mk x0 x1 x2 x3).Kind = x0 := rfl
def Api_Value.N (x : Api_Value) : Int := match x with
  | .mk _ a _ _ => a
theorem Yb {x0 : Int} {x1 : Int} {x2 : List UInt8} {x3 : List Api_Value} : (Api_Value.mk x0 x1 x2 x3).N = x1 := rfl
def Api_Value.B (x : Api_Value) : List UInt8 := match x with
  | .mk _ _ a _ => a
theorem Ww {x0 : Int} {x1 : Int} {x2 : List UInt8} {x3 : List Api_Value} : (Api_Value.mk x0 x1 x2 x3).B = x2 := rfl
def Api_Value.L (x : Api_Value) : List Api_Value := match x with
  | .mk _ _ _ a => a
theorem Wm {x0 : Int} {x1 : Int} {x2 : List UInt8} {x3 : List Api_Value} : (Api_Value.mk x0 x1 x2 x3).L = x3 := rfl
noncomputable def cApi_Value (v : Api_Value) : List AV := Api_Value.rec (motive_1 := fun _ => List AV) (motive_2 := fun _ => List (List AV)) (fun Kind_ N_ B_ L_ ih3 => [i64 Kind_, i64 N_, .sl false (L cU8 B_), .sl false ih3]) [] (fun _ _ x l => x :: l) v
theorem Uz (l : List Api_Value) : Api_Value.rec_1 (motive_1 := fun _ => List AV) (motive_2 := fun _ => List (List AV)) (fun Kind_ N_ B_ L_ ih3 => [i64 Kind_, i64 N_, .sl false (L cU8 B_), .sl false ih3]) [] (fun _ _ x l => x :: l) l = L cApi_Value l := by
  induction l with
  | nil => rfl
  | cons x l ih => exact congrArg (cApi_Value x :: ·) ih
theorem Le (x : Api_Value) : cApi_Value x = [i64 x.Kind, i64 x.N, .sl false (L cU8 x.B), .sl false (L cApi_Value x.L)] := by
  cases x with
  | mk a0 a1 a2 a3 =>
    show [i64 a0, i64 a1, .sl false (L cU8 a2), .sl false (Api_Value.rec_1 (motive_1 := fun _ => List AV) (motive_2 := fun _ => List (List AV)) (fun Kind_ N_ B_ L_ ih3 => [i64 Kind_, i64 N_, .sl false (L cU8 B_), .sl false ih3]) [] (fun _ _ x l => x :: l) a3)] = _
    rw [Uz]; rfl
structure Codec_decoder where
  b : List UInt8
  deriving DecidableEq, Inhabited
def Qd (x : Codec_decoder) : List AV := [.sl false (L cU8 x.b)]
structure Api_Deframer where
  Rest : List UInt8
  In : Bool
  Escape : Bool
  Bad : Bool
  deriving DecidableEq, Inhabited
def S4 (x : Api_Deframer) : List AV := [.sl false (L cU8 x.Rest), .bool x.In, .bool x.Escape, .bool x.Bad]
structure Api_Place where
  Kind : Int
  Railway : Int
  Other : Int
  deriving DecidableEq, Inhabited
def Ah (x : Api_Place) : List AV := [i64 x.Kind, i64 x.Railway, i64 x.Other]
structure Api_Edge where
  A : Int
  B : Int
  Railway : Int
  Minutes : Int
  Km : Int
  deriving DecidableEq, Inhabited
def Aq (x : Api_Edge) : List AV := [i64 x.A, i64 x.B, i64 x.Railway, i64 x.Minutes, i64 x.Km]
structure Api_Network where
  Places : List Api_Place
  Edges : List Api_Edge
  deriving DecidableEq, Inhabited
def Uk (x : Api_Network) : List AV := [.sl false (L Ah x.Places), .sl false (L Aq x.Edges)]
structure Api_WagonType where
  Load : Int
  Tare : Int
  Length : Int
  Gauge : Int
  Brake : Int
  Classes : UInt64
  Life : Int
  Floor : Int
  deriving DecidableEq, Inhabited
def Ak (x : Api_WagonType) : List AV := [i64 x.Load, i64 x.Tare, i64 x.Length, i64 x.Gauge, i64 x.Brake, u64 x.Classes, i64 x.Life, i64 x.Floor]
structure Api_Wagon where
  Type_ : Int
  Owner : Int
  Home : Int
  Built : Int
  Worth : Int
  deriving DecidableEq, Inhabited
def Ar (x : Api_Wagon) : List AV := [i64 x.Type_, i64 x.Owner, i64 x.Home, i64 x.Built, i64 x.Worth]
structure Api_Swap where
  Wanted : Int
  Given : Int
  Cost : Int
  deriving DecidableEq, Inhabited
def A9 (x : Api_Swap) : List AV := [i64 x.Wanted, i64 x.Given, i64 x.Cost]
structure Api_Wash where
  From : Int
  To : Int
  Minutes : Int
  deriving DecidableEq, Inhabited
def Ba (x : Api_Wash) : List AV := [i64 x.From, i64 x.To, i64 x.Minutes]
structure Api_Fleet where
  Types : List Api_WagonType
  Wagons : List Api_Wagon
  Swaps : List Api_Swap
  Washes : List Api_Wash
  deriving DecidableEq, Inhabited
def Aa2 (x : Api_Fleet) : List AV := [.sl false (L Ak x.Types), .sl false (L Ar x.Wagons), .sl false (L A9 x.Swaps), .sl false (L Ba x.Washes)]
structure Api_Reader where
  Place : Int
  Low : Int
  High : Int
  deriving DecidableEq, Inhabited
def An (x : Api_Reader) : List AV := [i64 x.Place, i64 x.Low, i64 x.High]
structure Api_Shipper where
  Place : Int
  deriving DecidableEq, Inhabited
def Al (x : Api_Shipper) : List AV := [i64 x.Place]
structure Api_Span where
  From : Int
  To : Int
  deriving DecidableEq, Inhabited
def AdQ (x : Api_Span) : List AV := [i64 x.From, i64 x.To]
structure Api_Calendar where
  Open : (Api_Span × Api_Span × Api_Span × Api_Span × Api_Span × Api_Span × Api_Span)
  Holidays : List Int
  deriving DecidableEq, Inhabited
def Tm (x : Api_Calendar) : List AV := [i64 x.Open.1.From, i64 x.Open.1.To, i64 x.Open.2.1.From, i64 x.Open.2.1.To, i64 x.Open.2.2.1.From, i64 x.Open.2.2.1.To, i64 x.Open.2.2.2.1.From, i64 x.Open.2.2.2.1.To, i64 x.Open.2.2.2.2.1.From, i64 x.Open.2.2.2.2.1.To, i64 x.Open.2.2.2.2.2.1.From, i64 x.Open.2.2.2.2.2.1.To, i64 x.Open.2.2.2.2.2.2.From, i64 x.Open.2.2.2.2.2.2.To, .sl false (L Na x.Holidays)]
structure Api_RailwayInfo where
  Key : UInt64
  Calendar : Api_Calendar
  deriving DecidableEq, Inhabited
def Af (x : Api_RailwayInfo) : List AV := [u64 x.Key, i64 x.Calendar.Open.1.From, i64 x.Calendar.Open.1.To, i64 x.Calendar.Open.2.1.From, i64 x.Calendar.Open.2.1.To, i64 x.Calendar.Open.2.2.1.From, i64 x.Calendar.Open.2.2.1.To, i64 x.Calendar.Open.2.2.2.1.From, i64 x.Calendar.Open.2.2.2.1.To, i64 x.Calendar.Open.2.2.2.2.1.From, i64 x.Calendar.Open.2.2.2.2.1.To, i64 x.Calendar.Open.2.2.2.2.2.1.From, i64 x.Calendar.Open.2.2.2.2.2.1.To, i64 x.Calendar.Open.2.2.2.2.2.2.From, i64 x.Calendar.Open.2.2.2.2.2.2.To, .sl false (L Na x.Calendar.Holidays)]
structure Api_Pool where
  Network : Api_Network
  Fleet : Api_Fleet
  Readers : List Api_Reader
  Shippers : List Api_Shipper
  Railways : List Api_RailwayInfo
  deriving DecidableEq, Inhabited
def AdB (x : Api_Pool) : List AV := [.sl false (L Ah x.Network.Places), .sl false (L Aq x.Network.Edges), .sl false (L Ak x.Fleet.Types), .sl false (L Ar x.Fleet.Wagons), .sl false (L A9 x.Fleet.Swaps), .sl false (L Ba x.Fleet.Washes), .sl false (L An x.Readers), .sl false (L Al x.Shippers), .sl false (L Af x.Railways)]
theorem tb3 (F) : (B.env F).tab 3 = some ⟨.int .i64, 1, 8, [i64 0]⟩ := tbk (by kernel_rfl)
theorem tb4 (F) : (B.env F).tab 4 = some ⟨.bool, 1, 1, [.bool false]⟩ := tbk (by kernel_rfl)
theorem tb5 (F) : (B.env F).tab 5 = some ⟨.int .u8, 1, 1, [u8 ((0 : UInt8))]⟩ := tbk (by kernel_rfl)
theorem tb9 (F) : (B.env F).tab 9 = some ⟨.string, 1, 16, [.str (([] : List UInt8))]⟩ := tbk (by kernel_rfl)
theorem AbB (F) : (B.env F).tab 21 = some ⟨.int .i32, 1, 4, [.int .i32 0]⟩ := tbk (by kernel_rfl)
theorem tb22 (F) : (B.env F).tab 22 = some ⟨.slice 99, 1, 24, [.sl true (L Ah ([]))]⟩ := tbk (by kernel_rfl)
theorem tb23 (F) : (B.env F).tab 23 = some ⟨.slice 103, 1, 24, [.sl true (L Aq ([]))]⟩ := tbk (by kernel_rfl)
theorem tb25 (F) : (B.env F).tab 25 = some ⟨.struct #[⟨"Places", 22, 0, false, "", "", 0⟩, ⟨"Edges", 23, 1, false, "", "", 24⟩], 2, 48, [.sl true (L Ah ([])), .sl true (L Aq ([]))]⟩ := tbk (by kernel_rfl)
theorem tb27 (F) : (B.env F).tab 27 = some ⟨.slice 101, 1, 24, [.sl true (L Ar ([]))]⟩ := tbk (by kernel_rfl)
theorem tb31 (F) : (B.env F).tab 31 = some ⟨.struct #[⟨"Types", 26, 0, false, "", "", 0⟩, ⟨"Wagons", 27, 1, false, "", "", 24⟩, ⟨"Swaps", 28, 2, false, "", "", 48⟩, ⟨"Washes", 29, 3, false, "", "", 72⟩], 4, 96, [.sl true (L Ak ([])), .sl true (L Ar ([])), .sl true (L A9 ([])), .sl true (L Ba ([]))]⟩ := tbk (by kernel_rfl)
theorem tb32 (F) : (B.env F).tab 32 = some ⟨.slice 94, 1, 24, [.sl true (L An ([]))]⟩ := tbk (by kernel_rfl)
theorem tb33 (F) : (B.env F).tab 33 = some ⟨.slice 97, 1, 24, [.sl true (L Al ([]))]⟩ := tbk (by kernel_rfl)
theorem tb34 (F) : (B.env F).tab 34 = some ⟨.slice 90, 1, 24, [.sl true (L Af ([]))]⟩ := tbk (by kernel_rfl)
theorem tb36 (F) : (B.env F).tab 36 = some ⟨.struct #[⟨"Network", 25, 0, false, "", "", 0⟩, ⟨"Fleet", 31, 2, false, "", "", 48⟩, ⟨"Readers", 32, 6, false, "", "", 144⟩, ⟨"Shippers", 33, 7, false, "", "", 168⟩, ⟨"Railways", 34, 8, false, "", "", 192⟩], 9, 216, [.sl true (L Ah ([])), .sl true (L Aq ([])), .sl true (L Ak ([])), .sl true (L Ar ([])), .sl true (L A9 ([])), .sl true (L Ba ([])), .sl true (L An ([])), .sl true (L Al ([])), .sl true (L Af ([]))]⟩ := tbk (by kernel_rfl)
theorem Aoa (F) : (B.env F).tab 38 = some ⟨.struct #[⟨"Railway", 3, 0, false, "", "", 0⟩, ⟨"No", 3, 1, false, "", "", 8⟩], 2, 16, [i64 0, i64 0]⟩ := tbk (by kernel_rfl)
theorem AlO (F) : (B.env F).tab 39 = some ⟨.slice 66, 1, 24, [.sl true (L Ac ([]))]⟩ := tbk (by kernel_rfl)
theorem tb41 (F) : (B.env F).tab 41 = some ⟨.struct #[⟨"Kind", 3, 0, false, "", "", 0⟩, ⟨"Ref", 38, 1, false, "", "", 8⟩, ⟨"Wagon", 3, 3, false, "", "", 24⟩, ⟨"Place", 3, 4, false, "", "", 32⟩, ⟨"Other", 3, 5, false, "", "", 40⟩, ⟨"Number", 3, 6, false, "", "", 48⟩, ⟨"From", 3, 7, false, "", "", 56⟩, ⟨"To", 3, 8, false, "", "", 64⟩, ⟨"Code", 3, 9, false, "", "", 72⟩, ⟨"Dest", 3, 10, false, "", "", 80⟩, ⟨"Class", 3, 11, false, "", "", 88⟩, ⟨"Weight", 3, 12, false, "", "", 96⟩, ⟨"Amount", 3, 13, false, "", "", 104⟩, ⟨"Text", 9, 14, false, "", "", 112⟩, ⟨"Parts", 39, 15, false, "", "", 128⟩], 16, 152, [i64 0, i64 0, i64 0, i64 0, i64 0, i64 0, i64 0, i64 0, i64 0, i64 0, i64 0, i64 0, i64 0, i64 0, .str (([] : List UInt8)), .sl true (L Ac ([]))]⟩ := tbk (by kernel_rfl)
theorem AeS (F) : (B.env F).tab 52 = some ⟨.slice 5, 1, 24, [.sl true (L cU8 ([]))]⟩ := tbk (by kernel_rfl)
theorem AlN (F) : (B.env F).tab 53 = some ⟨.slice 55, 1, 24, [.sl true (L cApi_Value ([]))]⟩ := tbk (by kernel_rfl)
theorem AmY (F) : (B.env F).tab 55 = some ⟨.struct #[⟨"Kind", 3, 0, false, "", "", 0⟩, ⟨"N", 3, 1, false, "", "", 8⟩, ⟨"B", 52, 2, false, "", "", 16⟩, ⟨"L", 53, 3, false, "", "", 40⟩], 4, 64, [i64 0, i64 0, .sl true (L cU8 ([])), .sl true (L cApi_Value ([]))]⟩ := tbk (by kernel_rfl)
theorem AlQ (F) : (B.env F).tab 66 = some ⟨.struct #[⟨"Kind", 3, 0, false, "", "", 0⟩, ⟨"Serial", 3, 1, false, "", "", 8⟩, ⟨"Fitted", 4, 2, false, "", "", 16⟩], 3, 24, [i64 0, i64 0, .bool false]⟩ := tbk (by kernel_rfl)
theorem tb71 (F) : (B.env F).tab 71 = some ⟨.struct #[⟨"Rest", 52, 0, false, "", "", 0⟩, ⟨"In", 4, 1, false, "", "", 24⟩, ⟨"Escape", 4, 2, false, "", "", 25⟩, ⟨"Bad", 4, 3, false, "", "", 26⟩], 4, 32, [.sl true (L cU8 ([])), .bool false, .bool false, .bool false]⟩ := tbk (by kernel_rfl)
theorem AlI (F) : (B.env F).tab 72 = some ⟨.slice 52, 1, 24, [.sl true (L (cSl cU8) ([]))]⟩ := tbk (by kernel_rfl)
theorem tb85 (F) : (B.env F).tab 85 = some ⟨.slice 3, 1, 24, [.sl true (L Na ([]))]⟩ := tbk (by kernel_rfl)
theorem tb88 (F) : (B.env F).tab 88 = some ⟨.int .u64, 1, 8, [u64 ((0 : UInt64))]⟩ := tbk (by kernel_rfl)
theorem tb90 (F) : (B.env F).tab 90 = some ⟨.struct #[⟨"Key", 88, 0, false, "", "", 0⟩, ⟨"Calendar", 87, 1, false, "", "", 8⟩], 16, 144, [u64 ((0 : UInt64)), i64 0, i64 0, i64 0, i64 0, i64 0, i64 0, i64 0, i64 0, i64 0, i64 0, i64 0, i64 0, i64 0, i64 0, .sl true (L Na ([]))]⟩ := tbk (by kernel_rfl)
theorem tb94 (F) : (B.env F).tab 94 = some ⟨.struct #[⟨"Place", 3, 0, false, "", "", 0⟩, ⟨"Low", 3, 1, false, "", "", 8⟩, ⟨"High", 3, 2, false, "", "", 16⟩], 3, 24, [i64 0, i64 0, i64 0]⟩ := tbk (by kernel_rfl)
theorem tb97 (F) : (B.env F).tab 97 = some ⟨.struct #[⟨"Place", 3, 0, false, "", "", 0⟩], 1, 8, [i64 0]⟩ := tbk (by kernel_rfl)
theorem tb99 (F) : (B.env F).tab 99 = some ⟨.struct #[⟨"Kind", 3, 0, false, "", "", 0⟩, ⟨"Railway", 3, 1, false, "", "", 8⟩, ⟨"Other", 3, 2, false, "", "", 16⟩], 3, 24, [i64 0, i64 0, i64 0]⟩ := tbk (by kernel_rfl)
theorem Alz (F) : (B.env F).tab 101 = some ⟨.struct #[⟨"Type", 3, 0, false, "", "", 0⟩, ⟨"Owner", 3, 1, false, "", "", 8⟩, ⟨"Home", 3, 2, false, "", "", 16⟩, ⟨"Built", 3, 3, false, "", "", 24⟩, ⟨"Worth", 3, 4, false, "", "", 32⟩], 5, 40, [i64 0, i64 0, i64 0, i64 0, i64 0]⟩ := tbk (by kernel_rfl)
theorem Aiz (F) : (B.env F).tab 103 = some ⟨.struct #[⟨"A", 3, 0, false, "", "", 0⟩, ⟨"B", 3, 1, false, "", "", 8⟩, ⟨"Railway", 3, 2, false, "", "", 16⟩, ⟨"Minutes", 3, 3, false, "", "", 24⟩, ⟨"Km", 3, 4, false, "", "", 32⟩], 5, 40, [i64 0, i64 0, i64 0, i64 0, i64 0]⟩ := tbk (by kernel_rfl)
theorem AhN (F) : (B.env F).tab 106 = some ⟨.pointer 108, 1, 8, [.val (.pointer none)]⟩ := tbk (by kernel_rfl)
theorem Am0 (F) : (B.env F).tab 108 = some ⟨.struct #[⟨"addr", 106, 0, false, "", "strings", 0⟩, ⟨"buf", 52, 1, false, "", "strings", 8⟩], 2, 32, [.val (.pointer none), .sl true (L cU8 ([]))]⟩ := tbk (by kernel_rfl)
theorem AkD (F) : (B.env F).tab 110 = some ⟨.interface #[("Error", 124)], 1, 16, [.val .nilIface]⟩ := tbk (by kernel_rfl)
theorem Aj7 (F) : (B.env F).tab 113 = some ⟨.array 16 9, 16, 256, [.str (([] : List UInt8)), .str (([] : List UInt8)), .str (([] : List UInt8)), .str (([] : List UInt8)), .str (([] : List UInt8)), .str (([] : List UInt8)), .str (([] : List UInt8)), .str (([] : List UInt8)), .str (([] : List UInt8)), .str (([] : List UInt8)), .str (([] : List UInt8)), .str (([] : List UInt8)), .str (([] : List UInt8)), .str (([] : List UInt8)), .str (([] : List UInt8)), .str (([] : List UInt8))]⟩ := tbk (by kernel_rfl)
theorem AgZ (F) : (B.env F).tab 117 = some ⟨.pointer 3, 1, 8, [.val (.pointer none)]⟩ := tbk (by kernel_rfl)
theorem Agd (F) : (B.env F).tab 118 = some ⟨.array 11 117, 11, 88, [.val (.pointer none), .val (.pointer none), .val (.pointer none), .val (.pointer none), .val (.pointer none), .val (.pointer none), .val (.pointer none), .val (.pointer none), .val (.pointer none), .val (.pointer none), .val (.pointer none)]⟩ := tbk (by kernel_rfl)
theorem Akd (F) : (B.env F).tab 122 = some ⟨.map 4 9, 1, 8, [.val (.map none)]⟩ := tbk (by kernel_rfl)
theorem AeY (F) : (B.env F).tab 134 = some ⟨.slice 9, 1, 24, [.sl true (L Q3 ([]))]⟩ := tbk (by kernel_rfl)
theorem AmB (F) : (B.env F).tab 171 = some ⟨.int .u64, 1, 8, [u64 ((0 : UInt64))]⟩ := tbk (by kernel_rfl)
theorem Ajb (F) : (B.env F).tab 182 = some ⟨.int .u32, 1, 4, [u32 ((0 : UInt32))]⟩ := tbk (by kernel_rfl)
theorem AkB (F) : (B.env F).tab 211 = some ⟨.array 16 182, 16, 64, (C1 u32 ((Arr.rep 16 (0 : UInt32))).l)⟩ := tbk (by kernel_rfl)
theorem Am5 (F) : (B.env F).tab 230 = some ⟨.int .i64, 1, 8, [i64 0]⟩ := tbk (by kernel_rfl)
theorem AkS : AV.int .u32 0 = u32 0 := rfl
theorem Ajo : AV.int .u32 1 = u32 1 := rfl
theorem AgC : AV.int .u32 15 = u32 15 := rfl
theorem Ov : AV.int .u32 3988292384 = u32 3988292384 := rfl
theorem Om : AV.int .u32 4294967295 = u32 4294967295 := rfl
theorem AiQ : AV.int .u64 0 = u64 0 := rfl
theorem Akz : AV.int .u64 1 = u64 1 := rfl
theorem AiH : AV.int .u64 4 = u64 4 := rfl
theorem Ajc : AV.int .u64 8 = u64 8 := rfl
theorem Aid : AV.int .u64 16 = u64 16 := rfl
theorem Ahc : AV.int .u64 24 = u64 24 := rfl
theorem Agk : AV.int .u64 32 = u64 32 := rfl
theorem Aeo : AV.int .u64 256 = u64 256 := rfl
theorem AaB : AV.int .u64 65536 = u64 65536 := rfl
theorem O8 : AV.int .u64 4294967296 = u64 4294967296 := rfl
theorem H2 : AV.int .u64 1152921504606846976 = u64 1152921504606846976 := rfl
theorem AnP : AV.int .u8 0 = u8 0 := rfl
theorem AkY : AV.int .u8 10 = u8 10 := rfl
theorem AjA : AV.int .u8 15 = u8 15 := rfl
theorem Ai8 : AV.int .u8 16 = u8 16 := rfl
theorem Alf : AV.int .u8 23 = u8 23 := rfl
theorem Aj2 : AV.int .u8 31 = u8 31 := rfl
theorem AiK : AV.int .u8 32 = u8 32 := rfl
theorem AkV : AV.int .u8 39 = u8 39 := rfl
theorem AkG : AV.int .u8 40 = u8 40 := rfl
theorem AjK : AV.int .u8 43 = u8 43 := rfl
theorem AjD : AV.int .u8 45 = u8 45 := rfl
theorem AiY : AV.int .u8 46 = u8 46 := rfl
theorem AjU : AV.int .u8 48 = u8 48 := rfl
theorem AjR : AV.int .u8 57 = u8 57 := rfl
theorem Ajz : AV.int .u8 63 = u8 63 := rfl
theorem Aj6 : AV.int .u8 64 = u8 64 := rfl
theorem AkF : AV.int .u8 95 = u8 95 := rfl
theorem Ak8 : AV.int .u8 97 = u8 97 := rfl
theorem Alj : AV.int .u8 99 = u8 99 := rfl
theorem Ahb : AV.int .u8 100 = u8 100 := rfl
theorem Aic : AV.int .u8 102 = u8 102 := rfl
theorem AhD : AV.int .u8 103 = u8 103 := rfl
theorem Ahu : AV.int .u8 107 = u8 107 := rfl
theorem Aht : AV.int .u8 110 = u8 110 := rfl
theorem Ahe : AV.int .u8 111 = u8 111 := rfl
theorem Ahd : AV.int .u8 112 = u8 112 := rfl
theorem AgN : AV.int .u8 113 = u8 113 := rfl
theorem Ah5 : AV.int .u8 114 = u8 114 := rfl
theorem Aib : AV.int .u8 116 = u8 116 := rfl
theorem Ag7 : AV.int .u8 119 = u8 119 := rfl
theorem Ah8 : AV.int .u8 120 = u8 120 := rfl
theorem Agy : AV.int .u8 122 = u8 122 := rfl
theorem Ah7 : AV.int .u8 125 = u8 125 := rfl
theorem AhI : AV.int .u8 126 = u8 126 := rfl
theorem Ahh : AV.int .u8 127 = u8 127 := rfl
theorem Agz : AV.int .u8 255 = u8 255 := rfl
theorem Ahm {F} {σ : Ad} (s x : AV) : Bm (B.env F) σ .append [52, 9] [s, x] = match F8 σ x with
      | some new => if Gs x 1 = true then none else if ∀ cs ∈ new, cs.length = 1 then (match s with
          | .sl full els =>
            if els = [] ∧ full = true then
              if Eg new.length 1 then some (.bs false σ.length new.length 0 new.length, σ ++ [.buf 1 new false]) else none
            else if new = [] then some (.sl full els, σ)
            else if full = true ∧ (∀ cs ∈ els, cs.length = 1) ∧ Eg (els.length + new.length) 1
            then some (.bs false σ.length (els.length + new.length) 0 (els.length + new.length), σ ++ [.buf 1 (els ++ new) false]) else none
          | .bs full id tot off len => match σ[id]? with
            | some (.buf k els ro) =>
              if els.length = tot ∧ k = 1 ∧ Eg (len + new.length) 1 then
                if off = 0 ∧ len = tot then some (.bs false id (tot + new.length) 0 (tot + new.length), σ.set id (.buf k (els ++ new) ro))
                else if new = [] then some (.bs full id tot off len, σ)
                else if full then some (.bs false σ.length (len + new.length) 0 (len + new.length), σ ++ [.buf k ((els.drop off).take len ++ new) false])
                else none
              else none
            | some (.tb T l) => Us σ id tot off len 1 1 5 T l new
            | _ => none
          | _ => none)
        else none
      | none => none := Jy (AeS F) (tb5 F) (by decide) (tb9 F) (.inr rfl) s x []
theorem AfN {F} {σ : Ad} (s x : AV) : Bm (B.env F) σ .append [52, 52] [s, x] = match F8 σ x with
      | some new => if Gs x 1 = true then none else if ∀ cs ∈ new, cs.length = 1 then (match s with
          | .sl full els =>
            if els = [] ∧ full = true then
              if Eg new.length 1 then some (.bs false σ.length new.length 0 new.length, σ ++ [.buf 1 new false]) else none
            else if new = [] then some (.sl full els, σ)
            else if full = true ∧ (∀ cs ∈ els, cs.length = 1) ∧ Eg (els.length + new.length) 1
            then some (.bs false σ.length (els.length + new.length) 0 (els.length + new.length), σ ++ [.buf 1 (els ++ new) false]) else none
          | .bs full id tot off len => match σ[id]? with
            | some (.buf k els ro) =>
              if els.length = tot ∧ k = 1 ∧ Eg (len + new.length) 1 then
                if off = 0 ∧ len = tot then some (.bs false id (tot + new.length) 0 (tot + new.length), σ.set id (.buf k (els ++ new) ro))
                else if new = [] then some (.bs full id tot off len, σ)
                else if full then some (.bs false σ.length (len + new.length) 0 (len + new.length), σ ++ [.buf k ((els.drop off).take len ++ new) false])
                else none
              else none
            | some (.tb T l) => Us σ id tot off len 1 1 5 T l new
            | _ => none
          | _ => none)
        else none
      | none => none := Jy (AeS F) (tb5 F) (by decide) (AeS F) (.inl ⟨_, rfl⟩) s x []
theorem AkR {F} (l : List UInt8) (x : AV) : Kj (B.env F) 9 (.str l) x = match idx x l.length with
    | some i => some (u8 (nth l i))
    | none => none := Abg (tb9 F) l x
theorem AnJ {F} : ((B.env F).bty = some 108) = True := eq_true rfl
theorem AcG {F} {σ : Ad} (x : AV) : Am (B.env F) σ 113 (.glob 0) x = match idx x 16 with
    | some i => some (.rp ((C1 AV.str glob0.l).drop i))
    | none => none := Afr (Aj7 F) (tb9 F) rfl x
theorem Ael {F} (a0 : Int) (a1 : Int) (b0 : Int) (b1 : Int) : Bg (B.env F) .neq 38 (.agg [i64 a0, i64 a1]) (.agg [i64 b0, i64 b1]) = some (.bool (!((a0 == b0) && (a1 == b1)))) :=
  Kn (Aoa F) (by kernel_rfl) (by kernel_rfl) (Lj (by decide) (tb3 F) rfl rfl (Mm a0 b0) (S2 (by decide) (tb3 F) rfl rfl (Mm a1 b1)))
theorem AmU {F} : ((B.env F).bty = some 118) = False := eq_false (fun h : (some 108 : Option TypeId) = some 118 => absurd (Option.some.inj h) (by decide))
theorem Ann {F} : Og (B.env F) 9 = true := Acf (tb9 F)
theorem AmL : (0 < (List.toArray ([119, 112, 111, 110, 102, 116, 99, 100, 107, 103, 97] : List UInt8)).size) = True := eq_true (by decide)
theorem Ai6 : Utf8.decode (ByteArray.mk (List.toArray ([119, 112, 111, 110, 102, 116, 99, 100, 107, 103, 97] : List UInt8))) 0 = (119, 1) := rfl
theorem Ahr {F} {σ : Ad} (id off : Nat) (x : AV) : Am (B.env F) σ 118 (.ref id off) x = match idx x 11 with
    | some i => some (.ref id (off + i * 1))
    | none => none := AbM (Agd F) (AgZ F) id off x
theorem Sh {F} {σ : Ad} : A3 (B.env F) σ 21 5 (.int .i32 119) = some (u8 (119 : UInt8), σ) := Cm (by rw [AbB F]; rfl) (by unfold Ec; rw [tb5 F]; rfl)
theorem Akj : (1 < (List.toArray ([119, 112, 111, 110, 102, 116, 99, 100, 107, 103, 97] : List UInt8)).size) = True := eq_true (by decide)
theorem AkM : Utf8.decode (ByteArray.mk (List.toArray ([119, 112, 111, 110, 102, 116, 99, 100, 107, 103, 97] : List UInt8))) 1 = (112, 1) := rfl
theorem Sy {F} {σ : Ad} : A3 (B.env F) σ 21 5 (.int .i32 112) = some (u8 (112 : UInt8), σ) := Cm (by rw [AbB F]; rfl) (by unfold Ec; rw [tb5 F]; rfl)
theorem AiW : (2 < (List.toArray ([119, 112, 111, 110, 102, 116, 99, 100, 107, 103, 97] : List UInt8)).size) = True := eq_true (by decide)
theorem AjV : Utf8.decode (ByteArray.mk (List.toArray ([119, 112, 111, 110, 102, 116, 99, 100, 107, 103, 97] : List UInt8))) 2 = (111, 1) := rfl
theorem Rm {F} {σ : Ad} : A3 (B.env F) σ 21 5 (.int .i32 111) = some (u8 (111 : UInt8), σ) := Cm (by rw [AbB F]; rfl) (by unfold Ec; rw [tb5 F]; rfl)
theorem Aiy : (3 < (List.toArray ([119, 112, 111, 110, 102, 116, 99, 100, 107, 103, 97] : List UInt8)).size) = True := eq_true (by decide)
theorem Alq : Utf8.decode (ByteArray.mk (List.toArray ([119, 112, 111, 110, 102, 116, 99, 100, 107, 103, 97] : List UInt8))) 3 = (110, 1) := rfl
theorem Tj {F} {σ : Ad} : A3 (B.env F) σ 21 5 (.int .i32 110) = some (u8 (110 : UInt8), σ) := Cm (by rw [AbB F]; rfl) (by unfold Ec; rw [tb5 F]; rfl)
theorem Aja : (4 < (List.toArray ([119, 112, 111, 110, 102, 116, 99, 100, 107, 103, 97] : List UInt8)).size) = True := eq_true (by decide)
theorem Akc : Utf8.decode (ByteArray.mk (List.toArray ([119, 112, 111, 110, 102, 116, 99, 100, 107, 103, 97] : List UInt8))) 4 = (102, 1) := rfl
theorem Rt {F} {σ : Ad} : A3 (B.env F) σ 21 5 (.int .i32 102) = some (u8 (102 : UInt8), σ) := Cm (by rw [AbB F]; rfl) (by unfold Ec; rw [tb5 F]; rfl)
theorem Aju : (5 < (List.toArray ([119, 112, 111, 110, 102, 116, 99, 100, 107, 103, 97] : List UInt8)).size) = True := eq_true (by decide)
theorem Aku : Utf8.decode (ByteArray.mk (List.toArray ([119, 112, 111, 110, 102, 116, 99, 100, 107, 103, 97] : List UInt8))) 5 = (116, 1) := rfl
theorem R1 {F} {σ : Ad} : A3 (B.env F) σ 21 5 (.int .i32 116) = some (u8 (116 : UInt8), σ) := Cm (by rw [AbB F]; rfl) (by unfold Ec; rw [tb5 F]; rfl)
theorem Ajs : (6 < (List.toArray ([119, 112, 111, 110, 102, 116, 99, 100, 107, 103, 97] : List UInt8)).size) = True := eq_true (by decide)
theorem AjJ : Utf8.decode (ByteArray.mk (List.toArray ([119, 112, 111, 110, 102, 116, 99, 100, 107, 103, 97] : List UInt8))) 6 = (99, 1) := rfl
theorem Tz {F} {σ : Ad} : A3 (B.env F) σ 21 5 (.int .i32 99) = some (u8 (99 : UInt8), σ) := Cm (by rw [AbB F]; rfl) (by unfold Ec; rw [tb5 F]; rfl)
theorem AiM : (7 < (List.toArray ([119, 112, 111, 110, 102, 116, 99, 100, 107, 103, 97] : List UInt8)).size) = True := eq_true (by decide)
theorem Aka : Utf8.decode (ByteArray.mk (List.toArray ([119, 112, 111, 110, 102, 116, 99, 100, 107, 103, 97] : List UInt8))) 7 = (100, 1) := rfl
theorem Ri {F} {σ : Ad} : A3 (B.env F) σ 21 5 (.int .i32 100) = some (u8 (100 : UInt8), σ) := Cm (by rw [AbB F]; rfl) (by unfold Ec; rw [tb5 F]; rfl)
theorem AkK : (8 < (List.toArray ([119, 112, 111, 110, 102, 116, 99, 100, 107, 103, 97] : List UInt8)).size) = True := eq_true (by decide)
theorem AkJ : Utf8.decode (ByteArray.mk (List.toArray ([119, 112, 111, 110, 102, 116, 99, 100, 107, 103, 97] : List UInt8))) 8 = (107, 1) := rfl
theorem Su {F} {σ : Ad} : A3 (B.env F) σ 21 5 (.int .i32 107) = some (u8 (107 : UInt8), σ) := Cm (by rw [AbB F]; rfl) (by unfold Ec; rw [tb5 F]; rfl)
theorem Alb : (9 < (List.toArray ([119, 112, 111, 110, 102, 116, 99, 100, 107, 103, 97] : List UInt8)).size) = True := eq_true (by decide)
theorem AjY : Utf8.decode (ByteArray.mk (List.toArray ([119, 112, 111, 110, 102, 116, 99, 100, 107, 103, 97] : List UInt8))) 9 = (103, 1) := rfl
theorem Rx {F} {σ : Ad} : A3 (B.env F) σ 21 5 (.int .i32 103) = some (u8 (103 : UInt8), σ) := Cm (by rw [AbB F]; rfl) (by unfold Ec; rw [tb5 F]; rfl)
theorem AiP : (10 < (List.toArray ([119, 112, 111, 110, 102, 116, 99, 100, 107, 103, 97] : List UInt8)).size) = True := eq_true (by decide)
theorem AkU : Utf8.decode (ByteArray.mk (List.toArray ([119, 112, 111, 110, 102, 116, 99, 100, 107, 103, 97] : List UInt8))) 10 = (97, 1) := rfl
theorem Vy {F} {σ : Ad} : A3 (B.env F) σ 21 5 (.int .i32 97) = some (u8 (97 : UInt8), σ) := Cm (by rw [AbB F]; rfl) (by unfold Ec; rw [tb5 F]; rfl)
theorem AlC : (11 < (List.toArray ([119, 112, 111, 110, 102, 116, 99, 100, 107, 103, 97] : List UInt8)).size) = False := eq_false (by decide)
theorem Ak6 {F} {σ : Ad} (f : Bool) (l : List Api_Part) (x : AV) : Am (B.env F) σ 39 (.sl f (L Ac l)) x = match idx x l.length with
    | some i => some (.rp (Ac (nth l i)))
    | none => none := Jv Ac (AlO F) (AlQ F) (fun _ => rfl) f l x
theorem nb66 {F} : ((B.env F).bty = some 66) = False := eq_false (fun h : (some 108 : Option TypeId) = some 66 => absurd (Option.some.inj h) (by decide))
theorem AgO {F} : Sm (B.env F) 122 = some .bool := AeN (Akd F) (tb4 F)
theorem Aki {F} {σ : Ad} (l c : Int) : Em (B.env F) σ 134 (i64 l) (i64 c) = if Mk l c 16 then some (.bs (l == c) σ.length l.toNat 0 l.toNat, σ ++ [.buf 1 (List.replicate l.toNat [.str (([] : List UInt8))]) false]) else none := Ab4 (AeY F) (tb9 F) (by decide) l c
theorem Ah9 {F} {σ : Ad} (f : Bool) (id tot off len : Nat) (x : AV) : Am (B.env F) σ 134 (.bs f id tot off len) x = match σ[id]?, idx x len with
    | some (.buf k els _), some i => if els.length = tot ∧ k = 1 then some (.eref id tot (off + i) 0) else none
    | _, _ => none := AcB (AeY F) (tb9 F) (by decide) f id tot off len x
theorem Agi {F} {σ : Ad} (f : Bool) (l : List (List UInt8)) (x : AV) : Am (B.env F) σ 134 (.sl f (L Q3 l)) x = match idx x l.length with
    | some i => some (.rp (Q3 (nth l i)))
    | none => none := Jv Q3 (AeY F) (tb9 F) (fun _ => rfl) f l x
theorem Akg {F} {σ : Ad} (f : Bool) (id tot off len : Nat) (x : AV) : Am (B.env F) σ 52 (.bs f id tot off len) x = match σ[id]?, idx x len with
    | some (.buf k els _), some i => if els.length = tot ∧ k = 1 then some (.eref id tot (off + i) 0) else none
    | _, _ => none := AcB (AeS F) (tb5 F) (by decide) f id tot off len x
theorem Aii {F} : Lc (B.env F) 110 = true := Afn (AkD F)
theorem AiG {F} (cs : List AV) (x : AV) : Kj (B.env F) 118 (.agg cs) x = match idx x 11 with
    | some i => partA (⟨.pointer 3, 1, 8, [.val (.pointer none)]⟩ : TD) cs (i * 1)
    | none => none := Aas (Agd F) (AgZ F) cs x
theorem Ajq {F} {σ : Ad} (f : Bool) (l : List Int) (x : AV) : Am (B.env F) σ 85 (.sl f (L Na l)) x = match idx x l.length with
    | some i => some (.rp (Na (nth l i)))
    | none => none := Jv Na (tb85 F) (tb3 F) (fun _ => rfl) f l x
theorem Afy {F} {σ : Ad} (s x : AV) : Bm (B.env F) σ .append [39, 39] [s, x] = match F8 σ x with
      | some new => if Gs x 3 = true then none else if ∀ cs ∈ new, cs.length = 3 then (match s with
          | .sl full els =>
            if els = [] ∧ full = true then
              if Eg new.length 24 then some (.bs false σ.length new.length 0 new.length, σ ++ [.buf 3 new false]) else none
            else if new = [] then some (.sl full els, σ)
            else if full = true ∧ (∀ cs ∈ els, cs.length = 3) ∧ Eg (els.length + new.length) 24
            then some (.bs false σ.length (els.length + new.length) 0 (els.length + new.length), σ ++ [.buf 3 (els ++ new) false]) else none
          | .bs full id tot off len => match σ[id]? with
            | some (.buf k els ro) =>
              if els.length = tot ∧ k = 3 ∧ Eg (len + new.length) 24 then
                if off = 0 ∧ len = tot then some (.bs false id (tot + new.length) 0 (tot + new.length), σ.set id (.buf k (els ++ new) ro))
                else if new = [] then some (.bs full id tot off len, σ)
                else if full then some (.bs false σ.length (len + new.length) 0 (len + new.length), σ ++ [.buf k ((els.drop off).take len ++ new) false])
                else none
              else none
            | some (.tb T l) => Us σ id tot off len 24 3 66 T l new
            | _ => none
          | _ => none)
        else none
      | none => none := Jy (AlO F) (AlQ F) (by decide) (AlO F) (.inl ⟨_, rfl⟩) s x []
theorem nb41 {F} : ((B.env F).bty = some 41) = False := eq_false (fun h : (some 108 : Option TypeId) = some 41 => absurd (Option.some.inj h) (by decide))
theorem Agl {F} : (B.env F).G 0 = some (C1 AV.str glob0.l) := rfl
theorem AgK : List.take 16 (List.map (fun c => [c]) (C1 AV.str glob0.l)) = L Q3 glob0.l := Wb
theorem nb55 {F} : ((B.env F).bty = some 55) = False := eq_false (fun h : (some 108 : Option TypeId) = some 55 => absurd (Option.some.inj h) (by decide))
theorem AeI {F} {σ : Ad} (s x : AV) : Bm (B.env F) σ .append [53, 53] [s, x] = match F8 σ x with
      | some new => if Gs x 4 = true then none else if ∀ cs ∈ new, cs.length = 4 then (match s with
          | .sl full els =>
            if els = [] ∧ full = true then
              if Eg new.length 64 then some (.bs false σ.length new.length 0 new.length, σ ++ [.buf 4 new false]) else none
            else if new = [] then some (.sl full els, σ)
            else if full = true ∧ (∀ cs ∈ els, cs.length = 4) ∧ Eg (els.length + new.length) 64
            then some (.bs false σ.length (els.length + new.length) 0 (els.length + new.length), σ ++ [.buf 4 (els ++ new) false]) else none
          | .bs full id tot off len => match σ[id]? with
            | some (.buf k els ro) =>
              if els.length = tot ∧ k = 4 ∧ Eg (len + new.length) 64 then
                if off = 0 ∧ len = tot then some (.bs false id (tot + new.length) 0 (tot + new.length), σ.set id (.buf k (els ++ new) ro))
                else if new = [] then some (.bs full id tot off len, σ)
                else if full then some (.bs false σ.length (len + new.length) 0 (len + new.length), σ ++ [.buf k ((els.drop off).take len ++ new) false])
                else none
              else none
            | some (.tb T l) => Us σ id tot off len 64 4 55 T l new
            | _ => none
          | _ => none)
        else none
      | none => none := Jy (AlN F) (AmY F) (by decide) (AlN F) (.inl ⟨_, rfl⟩) s x []
theorem AlD {F} {σ : Ad} (f : Bool) (l : List Api_Value) (x : AV) : Am (B.env F) σ 53 (.sl f (L cApi_Value l)) x = match idx x l.length with
    | some i => some (.rp (cApi_Value (nth l i)))
    | none => none := Jv cApi_Value (AlN F) (AmY F) (fun y => by rw [Le]; rfl) f l x
theorem Ajl {F} {σ : Ad} (f : Bool) (l : List UInt8) (x : AV) : Am (B.env F) σ 52 (.sl f (L cU8 l)) x = match idx x l.length with
    | some i => some (.rp (cU8 (nth l i)))
    | none => none := Jv cU8 (AeS F) (tb5 F) (fun _ => rfl) f l x
theorem AfM {F} (a0 : Int) (a1 : Int) (a2 : Bool) (b0 : Int) (b1 : Int) (b2 : Bool) : Bg (B.env F) .neq 66 (.agg [i64 a0, i64 a1, .bool a2]) (.agg [i64 b0, i64 b1, .bool b2]) = some (.bool (!((a0 == b0) && ((a1 == b1) && (a2 == b2))))) :=
  Kn (AlQ F) (by kernel_rfl) (by kernel_rfl) (Lj (by decide) (tb3 F) rfl rfl (Mm a0 b0) (Lj (by decide) (tb3 F) rfl rfl (Mm a1 b1) (S2 (by decide) (tb4 F) rfl rfl (Ad1 a2 b2))))
theorem Ad5 {F} (a0 : Int) (a1 : Int) (b0 : Int) (b1 : Int) : Bg (B.env F) .eql 38 (.agg [i64 a0, i64 a1]) (.agg [i64 b0, i64 b1]) = some (.bool (((a0 == b0) && (a1 == b1)))) :=
  Qe (Aoa F) (by kernel_rfl) (by kernel_rfl) (Lj (by decide) (tb3 F) rfl rfl (Mm a0 b0) (S2 (by decide) (tb3 F) rfl rfl (Mm a1 b1)))
theorem Ank {F} : ((B.env F).bty = some 211) = False := eq_false (fun h : (some 108 : Option TypeId) = some 211 => absurd (Option.some.inj h) (by decide))
theorem Ahk {F} {σ : Ad} (id off : Nat) (x : AV) : Am (B.env F) σ 211 (.ref id off) x = match idx x 16 with
    | some i => some (.ref id (off + i * 1))
    | none => none := AbM (AkB F) (Ajb F) id off x
theorem An9 {F} {σ : Ad} (l c : Int) : Em (B.env F) σ 52 (i64 l) (i64 c) = if Mk l c 1 then some (.bs (l == c) σ.length l.toNat 0 l.toNat, σ ++ [.buf 1 (List.replicate l.toNat [u8 ((0 : UInt8))]) false]) else none := Ab4 (AeS F) (tb5 F) (by decide) l c
theorem Ajv {F} {σ : Ad} (f : Bool) (id tot off len : Nat) (x : AV) : Am (B.env F) σ 72 (.bs f id tot off len) x = match σ[id]?, idx x len with
    | some (.buf k els _), some i => if els.length = tot ∧ k = 1 then some (.eref id tot (off + i) 0) else none
    | _, _ => none := AcB (AlI F) (AeS F) (by decide) f id tot off len x
theorem nb71 {F} : ((B.env F).bty = some 71) = False := eq_false (fun h : (some 108 : Option TypeId) = some 71 => absurd (Option.some.inj h) (by decide))
theorem Ad9 {F} {σ : Ad} (s x : AV) : Bm (B.env F) σ .append [72, 72] [s, x] = match F8 σ x with
      | some new => if Gs x 1 = true then none else if ∀ cs ∈ new, cs.length = 1 then (match s with
          | .sl full els =>
            if els = [] ∧ full = true then
              if Eg new.length 24 then some (.bs false σ.length new.length 0 new.length, σ ++ [.buf 1 new false]) else none
            else if new = [] then some (.sl full els, σ)
            else if full = true ∧ (∀ cs ∈ els, cs.length = 1) ∧ Eg (els.length + new.length) 24
            then some (.bs false σ.length (els.length + new.length) 0 (els.length + new.length), σ ++ [.buf 1 (els ++ new) false]) else none
          | .bs full id tot off len => match σ[id]? with
            | some (.buf k els ro) =>
              if els.length = tot ∧ k = 1 ∧ Eg (len + new.length) 24 then
                if off = 0 ∧ len = tot then some (.bs false id (tot + new.length) 0 (tot + new.length), σ.set id (.buf k (els ++ new) ro))
                else if new = [] then some (.bs full id tot off len, σ)
                else if full then some (.bs false σ.length (len + new.length) 0 (len + new.length), σ ++ [.buf k ((els.drop off).take len ++ new) false])
                else none
              else none
            | some (.tb T l) => Us σ id tot off len 24 1 52 T l new
            | _ => none
          | _ => none)
        else none
      | none => none := Jy (AlI F) (AeS F) (by decide) (AlI F) (.inl ⟨_, rfl⟩) s x []
theorem Alm {F} {σ : Ad} (f : Bool) (l : List Api_Place) (x : AV) : Am (B.env F) σ 22 (.sl f (L Ah l)) x = match idx x l.length with
    | some i => some (.rp (Ah (nth l i)))
    | none => none := Jv Ah (tb22 F) (tb99 F) (fun _ => rfl) f l x
theorem nb99 {F} : ((B.env F).bty = some 99) = False := eq_false (fun h : (some 108 : Option TypeId) = some 99 => absurd (Option.some.inj h) (by decide))
theorem AlE {F} {σ : Ad} (f : Bool) (l : List Api_Edge) (x : AV) : Am (B.env F) σ 23 (.sl f (L Aq l)) x = match idx x l.length with
    | some i => some (.rp (Aq (nth l i)))
    | none => none := Jv Aq (tb23 F) (Aiz F) (fun _ => rfl) f l x
theorem AmC {F} : ((B.env F).bty = some 103) = False := eq_false (fun h : (some 108 : Option TypeId) = some 103 => absurd (Option.some.inj h) (by decide))
theorem Aks {F} {σ : Ad} (f : Bool) (l : List Api_Reader) (x : AV) : Am (B.env F) σ 32 (.sl f (L An l)) x = match idx x l.length with
    | some i => some (.rp (An (nth l i)))
    | none => none := Jv An (tb32 F) (tb94 F) (fun _ => rfl) f l x
theorem nb94 {F} : ((B.env F).bty = some 94) = False := eq_false (fun h : (some 108 : Option TypeId) = some 94 => absurd (Option.some.inj h) (by decide))
theorem AkI {F} {σ : Ad} (f : Bool) (l : List Api_Shipper) (x : AV) : Am (B.env F) σ 33 (.sl f (L Al l)) x = match idx x l.length with
    | some i => some (.rp (Al (nth l i)))
    | none => none := Jv Al (tb33 F) (tb97 F) (fun _ => rfl) f l x
theorem nb97 {F} : ((B.env F).bty = some 97) = False := eq_false (fun h : (some 108 : Option TypeId) = some 97 => absurd (Option.some.inj h) (by decide))
theorem AkN {F} {σ : Ad} (f : Bool) (l : List Api_Wagon) (x : AV) : Am (B.env F) σ 27 (.sl f (L Ar l)) x = match idx x l.length with
    | some i => some (.rp (Ar (nth l i)))
    | none => none := Jv Ar (tb27 F) (Alz F) (fun _ => rfl) f l x
theorem Ami {F} : ((B.env F).bty = some 101) = False := eq_false (fun h : (some 108 : Option TypeId) = some 101 => absurd (Option.some.inj h) (by decide))
theorem Ajf {F} {σ : Ad} (f : Bool) (l : List Api_RailwayInfo) (x : AV) : Am (B.env F) σ 34 (.sl f (L Af l)) x = match idx x l.length with
    | some i => some (.rp (Af (nth l i)))
    | none => none := Jv Af (tb34 F) (tb90 F) (fun _ => rfl) f l x
theorem nb90 {F} : ((B.env F).bty = some 90) = False := eq_false (fun h : (some 108 : Option TypeId) = some 90 => absurd (Option.some.inj h) (by decide))
attribute [go_sem] lm0 own3 own4 own5 own6 own7 own8 Am2 Aod Am9 AmJ AnV Amj Al4 Amt Al2 AnH Anb Aoe Amh AnU AnA Ane AlW AnL An2 AnK Amk Al1 Amm Aoc Anx Anz An7 An3 Anf AnD Amu Anv Am3 AmE Anw AmO Am1 AnX Anr AmQ Ans An0 Amd AlY AmD And AnS An1 AnW Ams AmI AlZ Anm Amo Ant AmT AnQ Anj Al3 Amb Al5 AlU Aob Amx AnE AmK Amy AmF Ajw Ak9 Ajn Aj0 Akp Ai5 AiO Ake AjH AiT Akm Aj4 AkE Aj5 AlF AjF Ai9 AiX AiD AiA AiI Akt Alt AkL Aiv AkT AiF Ai0 Alp AjP AjI AkP AeX Aec Nk Zo Ac Uh P1 Yb Ww Wm Le Qd S4 Ah Aq Uk Ak Ar A9 Ba Aa2 An Al AdQ Tm Af AdB tb3 tb4 tb5 tb9 AbB tb22 tb23 tb25 tb27 tb31 tb32 tb33 tb34 tb36 Aoa AlO tb41 AeS AlN AmY AlQ tb71 AlI tb85 tb88 tb90 tb94 tb97 tb99 Alz Aiz AhN Am0 AkD Aj7 AgZ Agd Akd AeY AmB Ajb AkB Am5 AkS Ajo AgC Ov Om AiQ Akz AiH Ajc Aid Ahc Agk Aeo AaB O8 H2 AnP AkY AjA Ai8 Alf Aj2 AiK AkV AkG AjK AjD AiY AjU AjR Ajz Aj6 AkF Ak8 Alj Ahb Aic AhD Ahu Aht Ahe Ahd AgN Ah5 Aib Ag7 Ah8 Agy Ah7 AhI Ahh Agz Ahm AfN AkR AnJ AcG Ael AmU Ann AmL Ai6 Ahr Sh Akj AkM Sy AiW AjV Rm Aiy Alq Tj Aja Akc Rt Aju Aku R1 Ajs AjJ Tz AiM Aka Ri AkK AkJ Su Alb AjY Rx AiP AkU Vy AlC Ak6 nb66 AgO Aki Ah9 Agi Akg Aii AiG Ajq Afy nb41 Agl AgK nb55 AeI AlD Ajl AfM Ad5 Ank Ahk An9 Ajv nb71 Ad9 Alm nb99 AlE AmC Aks nb94 AkI nb97 AkN Ami Ajf nb90
def A5 (b : Strings_Builder) (a : List UInt8) : Option (Int × Bool × Strings_Builder) :=
 if Eg (b.buf.length + a.length) 1 then
  lt1 (b.buf ++ a) fun (c : List UInt8) =>
  some ((a.length : Int), false, ({ addr := (), buf := c } : Strings_Builder))
 else none
def Aj (a : Strings_Builder) (b : UInt8) : Option (Bool × Strings_Builder) :=
 if Eg (a.buf.length + 1) 1 then
  lt1 (a.buf ++ ([b] : List UInt8)) fun (c : List UInt8) =>
  some (false, ({ addr := (), buf := c } : Strings_Builder))
 else none
def Dw (b : List UInt8) (a : Int) (c : List UInt8) : Option ((Int × List UInt8) ⊕ (List UInt8)) :=
 if (decide (a < (b.length : Int))) = true then
  if InR a b.length then
   ((if (decide ((nth b a.toNat) < (32 : UInt8))) = true then
    some true
   else
    if (decide ((nth b a.toNat) > (126 : UInt8))) = true then
     some true
    else
     if ((nth b a.toNat) == (43 : UInt8)) = true then
      some true
     else
      if ((nth b a.toNat) == (39 : UInt8)) = true then
       some true
      else
       some ((nth b a.toNat) == (63 : UInt8)) : Option (Bool)).bind fun d =>
   if d = true then
    (Aj ({ addr := (), buf := c } : Strings_Builder) (63 : UInt8)).bind fun e =>
    lt1 e.2.buf fun (f : List UInt8) =>
    if InR ((Af4 (nth b a.toNat) (4 : UInt64).toNat).toNat : Int) (([48, 49, 50, 51, 52, 53, 54, 55, 56, 57, 97, 98, 99, 100, 101, 102] : List UInt8).length) then
     (Aj ({ addr := (), buf := f } : Strings_Builder) (nth ([48, 49, 50, 51, 52, 53, 54, 55, 56, 57, 97, 98, 99, 100, 101, 102] : List UInt8) ((Af4 (nth b a.toNat) (4 : UInt64).toNat).toNat))).bind fun g =>
     lt1 g.2.buf fun (i : List UInt8) =>
     if InR (((nth b a.toNat) &&& (15 : UInt8)).toNat : Int) (([48, 49, 50, 51, 52, 53, 54, 55, 56, 57, 97, 98, 99, 100, 101, 102] : List UInt8).length) then
      lt1 (nth ([48, 49, 50, 51, 52, 53, 54, 55, 56, 57, 97, 98, 99, 100, 101, 102] : List UInt8) (((nth b a.toNat) &&& (15 : UInt8)).toNat)) fun (j : UInt8) =>
      some (j, i)
     else none
    else none
   else
    some ((nth b a.toNat), c) : Option (UInt8 × List UInt8)).bind fun (k, l) =>
   (Aj ({ addr := (), buf := l } : Strings_Builder) k).bind fun m =>
   lt1 m.2.buf fun (n : List UInt8) =>
   some (.inl ((w64 (a + 1)), n))
  else none
 else
  some (.inr c)
def Gn (a : Strings_Builder) (b : List UInt8) : Option (Strings_Builder) :=
 (C4 (fun (v : Int × List UInt8) => Dw b v.1 v.2) (0, a.buf)).bind fun c =>
 some ({ addr := (), buf := c } : Strings_Builder)
def strconv_Itoa (n : Int) : Option (List UInt8) := Ahz n
def Ay (a : Int) (b : Strings_Builder) : Option (Strings_Builder) :=
 (strconv_Itoa a).bind fun c =>
 (A5 ({ addr := (), buf := b.buf } : Strings_Builder) c).bind fun d =>
 lt1 d.2.2.buf fun (e : List UInt8) =>
 some ({ addr := (), buf := e } : Strings_Builder)
def A0 (a : UInt8) (b : Strings_Builder) : Option (Strings_Builder) :=
 (Aj ({ addr := (), buf := b.buf } : Strings_Builder) (43 : UInt8)).bind fun c =>
 lt1 c.2.buf fun (d : List UInt8) =>
 (Aj ({ addr := (), buf := d } : Strings_Builder) a).bind fun e =>
 lt1 e.2.buf fun (f : List UInt8) =>
 some ({ addr := (), buf := f } : Strings_Builder)
def Dg (b : Api_Item) (a : Int) (c : List UInt8) : Option ((Int × List UInt8) ⊕ (List UInt8)) :=
 if (decide (a < (b.Parts.length : Int))) = true then
  if InR a b.Parts.length then
   lt1 ((nth b.Parts a.toNat).Kind) fun (d : Int) =>
   lt1 ((nth b.Parts a.toNat).Serial) fun (e : Int) =>
   lt1 ((nth b.Parts a.toNat).Fitted) fun (f : Bool) =>
   (A0 (113 : UInt8) ({ addr := (), buf := c } : Strings_Builder)).bind fun g =>
   (Ay d ({ addr := (), buf := g.buf } : Strings_Builder)).bind fun i =>
   (Aj ({ addr := (), buf := i.buf } : Strings_Builder) (46 : UInt8)).bind fun j =>
   (Ay e ({ addr := (), buf := j.2.buf } : Strings_Builder)).bind fun k =>
   (A5 ({ addr := (), buf := k.buf } : Strings_Builder) (if f = true then ([46, 49] : List UInt8) else ([46, 48] : List UInt8))).bind fun l =>
   some (.inl ((w64 (a + 1)), l.2.2.buf))
  else none
 else
  some (.inr c)
def Cu (a : Api_Item) : Option (List UInt8 × Int) :=
 (if (decide (a.Kind < 1)) = true then
  some true
 else
  some (decide (a.Kind ≥ 16)) : Option (Bool)).bind fun q =>
 if q = true then
  some (([] : List UInt8), 110)
 else
  if InR a.Kind 16 then
   (A5 ({ addr := (), buf := [] } : Strings_Builder) (glob0.get a.Kind.toNat)).bind fun c =>
   (if (!((a.Ref.Railway == 0) && (a.Ref.No == 0))) = true then
    (A0 (114 : UInt8) ({ addr := (), buf := c.2.2.buf } : Strings_Builder)).bind fun s =>
    (Ay a.Ref.Railway ({ addr := (), buf := s.buf } : Strings_Builder)).bind fun t =>
    (Aj ({ addr := (), buf := t.buf } : Strings_Builder) (46 : UInt8)).bind fun u =>
    (Ay a.Ref.No ({ addr := (), buf := u.2.buf } : Strings_Builder)).bind fun w =>
    some w.buf
   else
    some c.2.2.buf : Option (List UInt8)).bind fun d =>
   ((if (a.Wagon != 0) = true then
    (A0 (119 : UInt8) ({ addr := (), buf := d } : Strings_Builder)).bind fun x =>
    (Ay a.Wagon ({ addr := (), buf := x.buf } : Strings_Builder)).bind fun y =>
    some y.buf
   else
    some d : Option (List UInt8)).bind fun e =>
   (if (a.Place != 0) = true then
    (A0 (112 : UInt8) ({ addr := (), buf := e } : Strings_Builder)).bind fun z =>
    (Ay a.Place ({ addr := (), buf := z.buf } : Strings_Builder)).bind fun aa =>
    some aa.buf
   else
    some e : Option (List UInt8)).bind fun f =>
   (if (a.Other != 0) = true then
    (A0 (111 : UInt8) ({ addr := (), buf := f } : Strings_Builder)).bind fun ab =>
    (Ay a.Other ({ addr := (), buf := ab.buf } : Strings_Builder)).bind fun ac =>
    some ac.buf
   else
    some f : Option (List UInt8)).bind fun g =>
   (if (a.Number != 0) = true then
    (A0 (110 : UInt8) ({ addr := (), buf := g } : Strings_Builder)).bind fun ad =>
    (Ay a.Number ({ addr := (), buf := ad.buf } : Strings_Builder)).bind fun ae =>
    some ae.buf
   else
    some g : Option (List UInt8)).bind fun i =>
   (if (a.From != 0) = true then
    (A0 (102 : UInt8) ({ addr := (), buf := i } : Strings_Builder)).bind fun af =>
    (Ay a.From ({ addr := (), buf := af.buf } : Strings_Builder)).bind fun ag =>
    some ag.buf
   else
    some i : Option (List UInt8)).bind fun j =>
   (if (a.To != 0) = true then
    (A0 (116 : UInt8) ({ addr := (), buf := j } : Strings_Builder)).bind fun ah =>
    (Ay a.To ({ addr := (), buf := ah.buf } : Strings_Builder)).bind fun ai =>
    some ai.buf
   else
    some j : Option (List UInt8)).bind fun k =>
   (if (a.Code != 0) = true then
    (A0 (99 : UInt8) ({ addr := (), buf := k } : Strings_Builder)).bind fun aj =>
    (Ay a.Code ({ addr := (), buf := aj.buf } : Strings_Builder)).bind fun ak =>
    some ak.buf
   else
    some k : Option (List UInt8)).bind fun l =>
   (if (a.Dest != 0) = true then
    (A0 (100 : UInt8) ({ addr := (), buf := l } : Strings_Builder)).bind fun al =>
    (Ay a.Dest ({ addr := (), buf := al.buf } : Strings_Builder)).bind fun am =>
    some am.buf
   else
    some l : Option (List UInt8)).bind fun m =>
   (if (a.Class != 0) = true then
    (A0 (107 : UInt8) ({ addr := (), buf := m } : Strings_Builder)).bind fun an =>
    (Ay a.Class ({ addr := (), buf := an.buf } : Strings_Builder)).bind fun ao =>
    some ao.buf
   else
    some m : Option (List UInt8)).bind fun n =>
   (if (a.Weight != 0) = true then
    (A0 (103 : UInt8) ({ addr := (), buf := n } : Strings_Builder)).bind fun ap =>
    (Ay a.Weight ({ addr := (), buf := ap.buf } : Strings_Builder)).bind fun aq =>
    some aq.buf
   else
    some n : Option (List UInt8)).bind fun o =>
   (if (a.Amount != 0) = true then
    (A0 (97 : UInt8) ({ addr := (), buf := o } : Strings_Builder)).bind fun ar =>
    (Ay a.Amount ({ addr := (), buf := ar.buf } : Strings_Builder)).bind fun au =>
    some au.buf
   else
    some o : Option (List UInt8)).bind fun av =>
   some av : Option (List UInt8)).bind fun p =>
   (if (!(a.Text == ([] : List UInt8))) = true then
    (A0 (120 : UInt8) ({ addr := (), buf := p } : Strings_Builder)).bind fun aw =>
    (Gn ({ addr := (), buf := aw.buf } : Strings_Builder) a.Text).bind fun ax =>
    some ax.buf
   else
    some p : Option (List UInt8)).bind fun ay =>
   ((C4 (fun (v : Int × List UInt8) => Dg a v.1 v.2) (0, ay)).bind fun az =>
   some az : Option (List UInt8)).bind fun aA =>
   (Aj ({ addr := (), buf := aA } : Strings_Builder) (39 : UInt8)).bind fun b =>
   if (decide ((b.2.buf.length : Int) > 65536)) = true then
    some (([] : List UInt8), 2)
   else
    if ¬b.2.buf = [] then
     if Eg b.2.buf.length 1 then
      some (b.2.buf, 0)
     else none
    else none
  else none
def Gg (s sep : List UInt8) : Option Int := Ab7 s sep
def Cb (l : List UInt8) (c : UInt8) : Option (Int) := Rz l c
def Bp (a : List UInt8) (b : UInt8) : Option (Int) :=
 (Cb a b).bind fun c =>
 some c
def C8 (a : List UInt8) (b : UInt8) : Option (Int) :=
 (Bp a b).bind fun c =>
 some c
def D5 (b : List UInt8) (a : List UInt8) : Option (Int) :=
 (if ((a.length : Int) == 0) = true then
  some true
 else
  some (a == b) : Option (Bool)).bind fun c =>
 if c = true then
  some 0
 else
  if ((a.length : Int) == 1) = true then
   if InR 0 a.length then
    (Bp b (nth a 0)).bind fun d =>
    some d
   else none
  else
   if (decide ((a.length : Int) ≥ (b.length : Int))) = true then
    some (-1)
   else
    none
def Dy (a : List UInt8) (b : List UInt8) : Option (Int) :=
 (D5 a b).bind fun c =>
 some c
def B0 (d : List UInt8) (f : Int) (g : Int) (a : List UInt8) (b : Int) (e : List (List UInt8)) : Option ((List UInt8 × Int × List (List UInt8)) ⊕ (List UInt8 × Int × List (List UInt8))) :=
 if (decide (b < (w64 (g - 1)))) = true then
  (Dy a d).bind fun c =>
  if (decide (c < 0)) = true then
   some (.inr (a, b, e))
  else
   if InB (w64 (c + f)) a.length then
    if InR b e.length then
     lt1 (e.set b.toNat (a.take ((w64 (c + f)).toNat))) fun (i : List (List UInt8)) =>
     if InB (w64 (c + (d.length : Int))) a.length then
      lt1 ((a.drop ((w64 (c + (d.length : Int))).toNat)).take (a.length - (w64 (c + (d.length : Int))).toNat)) fun (j : List UInt8) =>
      some (.inl (j, (w64 (b + 1)), i))
     else none
    else none
   else none
 else
  some (.inr (a, b, e))
def Ef (c : List UInt8) (d : List UInt8) (i : Int) (e : Int) : Option (List (List UInt8)) :=
 if (e == 0) = true then
  some ([])
 else
  if (d == ([] : List UInt8)) = true then
   none
  else
   (if (decide (e < 0)) = true then
    (Gg c d).bind fun j =>
    some (w64 (j + 1))
   else
    some e : Option (Int)).bind fun k =>
   lt1 (V5 k (w64 ((c.length : Int) + 1))) fun (a : Int) =>
   if Mk a a 16 then
    lt1 (List.replicate a.toNat ([] : List UInt8)) fun (l : List (List UInt8)) =>
    ((C4 (fun (v : List UInt8 × Int × List (List UInt8)) => B0 d i a v.1 v.2.1 v.2.2) (c, 0, l)).bind fun (m, n, o) =>
    some (m, n, o) : Option (List UInt8 × Int × List (List UInt8))).bind fun (p, b, f) =>
    if InR b f.length then
     lt1 (f.set b.toNat p) fun (g : List (List UInt8)) =>
     if InB (w64 (b + 1)) g.length then
      some (g.take ((w64 (b + 1)).toNat))
     else none
    else none
   else none
def E2 (a : List UInt8) (b : List UInt8) : Option (List (List UInt8)) :=
 (Ef a b 0 (-1)).bind fun c =>
 some c
def Cz (a : List UInt8) (b : List UInt8) : Option (Bool) :=
 (if (decide ((a.length : Int) ≥ (b.length : Int))) = true then
  if InB (w64 ((a.length : Int) - (b.length : Int))) a.length then
   some (((a.drop ((w64 ((a.length : Int) - (b.length : Int))).toNat)).take (a.length - (w64 ((a.length : Int) - (b.length : Int))).toNat)) == b)
  else none
 else
  some false : Option (Bool)).bind fun c =>
 some c
def C2 (a : List UInt8) (b : List UInt8) : Option (List UInt8 × Bool) :=
 (Cz a b).bind fun c =>
 if (!c) = true then
  some (a, false)
 else
  if InB (w64 ((a.length : Int) - (b.length : Int))) a.length then
   lt1 (a.take ((w64 ((a.length : Int) - (b.length : Int))).toNat)) fun (d : List UInt8) =>
   some (d, true)
  else none
def Da (b : List UInt8) (c : List UInt8) : Option (List UInt8 × Bool) :=
 (C2 b c).bind fun a =>
 some (a.1, a.2)
def Cy (b : List (List UInt8)) (c : List UInt8) (a : Int) : Option ((Int) ⊕ ((Unit) ⊕ ((Unit) ⊕ (Int)))) :=
 if (decide (a < (b.length : Int))) = true then
  if InR a b.length then
   if (c == (nth b a.toNat)) = true then
    ((some a).bind fun d => some (.inr d)).bind fun e => some (.inr (.inr e))
   else
    some (.inl (w64 (a + 1)))
  else none
 else
  some (.inr (.inl ()))
def B6 (a : List (List UInt8)) (b : List UInt8) : Option (Int) :=
 ((C4 (fun (v : Int) => Cy a b v) 0).bind fun x => match x with
 | .inl () =>
  some (.inl ())
 | .inr z => some z : Option ((Unit) ⊕ (Int))).bind fun x => match x with
 | .inl () =>
  some (-1)
 | .inr z => some z
def Bc (s : List UInt8) (n : Int) : Option (List Int × Bool) := Pr s n
def Dx (a : UInt8) : Option (UInt8) :=
 some (a ||| (32 : UInt8))
def A8 (b : List UInt8) (g : UInt64) (e : UInt64) (f : UInt64) (a : Int) : Option ((UInt64 × Int) ⊕ ((UInt64) ⊕ ((UInt64) ⊕ (UInt64 × Int)))) :=
 if (decide (a < (b.length : Int))) = true then
  (if InR a b.length then
   ((if (nth b a.toNat == (95 : UInt8)) = true then
    some ()
   else
    some () : Option (Unit)).bind fun _ =>
   (if (decide ((48 : UInt8) ≤ nth b a.toNat)) = true then
    some (decide (nth b a.toNat ≤ (57 : UInt8)))
   else
    some false : Option (Bool)).bind fun i =>
   if i = true then
    lt1 (nth b a.toNat - (48 : UInt8)) fun (j : UInt8) =>
    some (.inl j)
   else
    ((Dx (nth b a.toNat)).bind fun k =>
    if (decide ((97 : UInt8) ≤ k)) = true then
     (Dx (nth b a.toNat)).bind fun l =>
     some (decide (l ≤ (122 : UInt8)))
    else
     some false : Option (Bool)).bind fun m =>
    if m = true then
     (Dx (nth b a.toNat)).bind fun n =>
     lt1 ((n - (97 : UInt8)) + (10 : UInt8)) fun (o : UInt8) =>
     some (.inl o)
    else
     ((((some ((0 : UInt64), 2)).bind fun p => some (.inr p)).bind fun q => some (.inr (.inr q))).bind fun s => some (.inr s)).bind fun t => some (.inr t) : Option ((UInt8) ⊕ ((UInt64) ⊕ ((UInt64 × Int) ⊕ ((UInt64) ⊕ ((UInt64) ⊕ (UInt64 × Int))))))).bind fun x => match x with
   | .inl c =>
    if (decide (c ≥ (UInt8.ofInt 16))) = true then
     (((some ((0 : UInt64), 2)).bind fun u => some (.inr u)).bind fun v => some (.inr (.inr v))).bind fun w => some (.inr w)
    else
     if (decide (f ≥ g)) = true then
      (((some (e, 1)).bind fun y => some (.inr y)).bind fun aa => some (.inr (.inr aa))).bind fun ab => some (.inr ab)
     else
      lt1 (f * (UInt64.ofInt 16)) fun (d : UInt64) =>
      (if (decide ((d + c.toUInt64) < d)) = true then
       some true
      else
       some (decide ((d + c.toUInt64) > e)) : Option (Bool)).bind fun ac =>
      if ac = true then
       (((some (e, 1)).bind fun ad => some (.inr ad)).bind fun ae => some (.inr (.inr ae))).bind fun af => some (.inr af)
      else
       some (.inl (d + c.toUInt64))
   | .inr z => some z
  else none : Option ((UInt64) ⊕ ((UInt64 × Int) ⊕ ((UInt64) ⊕ ((UInt64) ⊕ (UInt64 × Int)))))).bind fun x => match x with
  | .inl ag =>
   some (.inl (ag, (w64 (a + 1))))
  | .inr z => some z
 else
  some (.inr (.inl f))
def Bv (a : List UInt8) : Option (UInt64 × Int) :=
 if (a == ([] : List UInt8)) = true then
  some ((0 : UInt64), 2)
 else
  (some () : Option (Unit)).bind fun () =>
  (some () : Option (Unit)).bind fun () =>
  (lt1 (1152921504606846976 : UInt64) fun (b : UInt64) =>
  some b : Option (UInt64)).bind fun c =>
  lt1 ((Acr (1 : UInt64) (UInt64.ofInt 8).toNat) - (1 : UInt64)) fun (d : UInt64) =>
  ((C4 (fun (v : UInt64 × Int) => A8 a c d v.1 v.2) ((0 : UInt64), 0)).bind fun x => match x with
  | .inl e =>
   some (.inl e)
  | .inr z => some z : Option ((UInt64) ⊕ (UInt64 × Int))).bind fun x => match x with
  | .inl f =>
   some (f, 0)
  | .inr z => some z
def B1 (s : List UInt8) (b c : Int) : Option (UInt64 × Bool) := if b = 16 ∧ c = 8 ∧ s.length ≤ 281474976710656 then (Bv s).bind fun r => if r.2 = 0 ∨ r.2 = 1 ∨ r.2 = 2 then some (r.1, r.2 != 0) else none else none
def Bw (b : List UInt8) (a : Int) (c : List UInt8) : Option ((Int × List UInt8) ⊕ ((List UInt8) ⊕ ((List UInt8) ⊕ (List UInt8 × Bool)))) :=
 if (decide (a < (b.length : Int))) = true then
  if InR a b.length then
   (if ((nth b a.toNat) == (63 : UInt8)) = true then
    if (decide ((w64 (a + 2)) ≥ (b.length : Int))) = true then
     (((some (([] : List UInt8), false)).bind fun e => some (.inr e)).bind fun f => some (.inr (.inr f))).bind fun g => some (.inr g)
    else
     if InB (w64 (a + 3)) b.length then
      if InB (w64 (a + 1)) ((w64 (a + 3)).toNat) then
       (B1 ((b.drop ((w64 (a + 1)).toNat)).take ((w64 (a + 3)).toNat - (w64 (a + 1)).toNat)) 16 8).bind fun d =>
       if (!!d.2) = true then
        (((some (([] : List UInt8), false)).bind fun i => some (.inr i)).bind fun j => some (.inr (.inr j))).bind fun k => some (.inr k)
       else
        some (.inl ((w64 (a + 2)), d.1.toUInt8))
      else none
     else none
   else
    some (.inl (a, (nth b a.toNat))) : Option ((Int × UInt8) ⊕ ((Int × List UInt8) ⊕ ((List UInt8) ⊕ ((List UInt8) ⊕ (List UInt8 × Bool)))))).bind fun x => match x with
   | .inl (l, m) =>
    (Aj ({ addr := (), buf := c } : Strings_Builder) m).bind fun n =>
    some (.inl ((w64 (l + 1)), n.2.buf))
   | .inr z => some z
  else none
 else
  some (.inr (.inl c))
def Eb (b : List UInt8) : Option (List UInt8 × Bool) :=
 ((C4 (fun (v : Int × List UInt8) => Bw b v.1 v.2) (0, [])).bind fun x => match x with
 | .inl c =>
  some (.inl c)
 | .inr z => some z : Option ((List UInt8) ⊕ (List UInt8 × Bool))).bind fun x => match x with
 | .inl a =>
  if ¬a = [] then
   if Eg a.length 1 then
    some (a, true)
   else none
  else none
 | .inr z => some z
def Cx (s : List UInt8) : Option (List UInt8 × Bool) := if s = [] then some ([], true) else Eb s
def Cc (a : Api_Item) (b : List UInt8) : Option (Bool × Api_Item) :=
 if (b == ([] : List UInt8)) = true then
  some (false, a)
 else
  (if InR 0 b.length then
   (C8 ([119, 112, 111, 110, 102, 116, 99, 100, 107, 103, 97] : List UInt8) (nth b 0)).bind fun u =>
   lt1 u fun (c : Int) =>
   if (c == 0) = true then
    if InB 1 b.length then
     (Bc ((b.drop 1).take (b.length - 1)) 1).bind fun f =>
     if f.2 = true then
      if InR 0 f.1.length then
       some (f.2, a.Ref.Railway, a.Ref.No, nth f.1 0, a.Place, a.Other, a.Number, a.From, a.To, a.Code, a.Dest, a.Class, a.Weight, a.Amount, a.Text, a.Parts)
      else none
     else
      some (f.2, a.Ref.Railway, a.Ref.No, a.Wagon, a.Place, a.Other, a.Number, a.From, a.To, a.Code, a.Dest, a.Class, a.Weight, a.Amount, a.Text, a.Parts)
    else none
   else
    if (c == 1) = true then
     if InB 1 b.length then
      (Bc ((b.drop 1).take (b.length - 1)) 1).bind fun g =>
      if g.2 = true then
       if InR 0 g.1.length then
        some (g.2, a.Ref.Railway, a.Ref.No, a.Wagon, nth g.1 0, a.Other, a.Number, a.From, a.To, a.Code, a.Dest, a.Class, a.Weight, a.Amount, a.Text, a.Parts)
       else none
      else
       some (g.2, a.Ref.Railway, a.Ref.No, a.Wagon, a.Place, a.Other, a.Number, a.From, a.To, a.Code, a.Dest, a.Class, a.Weight, a.Amount, a.Text, a.Parts)
     else none
    else
     if (c == 2) = true then
      if InB 1 b.length then
       (Bc ((b.drop 1).take (b.length - 1)) 1).bind fun i =>
       if i.2 = true then
        if InR 0 i.1.length then
         some (i.2, a.Ref.Railway, a.Ref.No, a.Wagon, a.Place, nth i.1 0, a.Number, a.From, a.To, a.Code, a.Dest, a.Class, a.Weight, a.Amount, a.Text, a.Parts)
        else none
       else
        some (i.2, a.Ref.Railway, a.Ref.No, a.Wagon, a.Place, a.Other, a.Number, a.From, a.To, a.Code, a.Dest, a.Class, a.Weight, a.Amount, a.Text, a.Parts)
      else none
     else
      if (c == 3) = true then
       if InB 1 b.length then
        (Bc ((b.drop 1).take (b.length - 1)) 1).bind fun j =>
        if j.2 = true then
         if InR 0 j.1.length then
          some (j.2, a.Ref.Railway, a.Ref.No, a.Wagon, a.Place, a.Other, nth j.1 0, a.From, a.To, a.Code, a.Dest, a.Class, a.Weight, a.Amount, a.Text, a.Parts)
         else none
        else
         some (j.2, a.Ref.Railway, a.Ref.No, a.Wagon, a.Place, a.Other, a.Number, a.From, a.To, a.Code, a.Dest, a.Class, a.Weight, a.Amount, a.Text, a.Parts)
       else none
      else
       if (c == 4) = true then
        if InB 1 b.length then
         (Bc ((b.drop 1).take (b.length - 1)) 1).bind fun k =>
         if k.2 = true then
          if InR 0 k.1.length then
           some (k.2, a.Ref.Railway, a.Ref.No, a.Wagon, a.Place, a.Other, a.Number, nth k.1 0, a.To, a.Code, a.Dest, a.Class, a.Weight, a.Amount, a.Text, a.Parts)
          else none
         else
          some (k.2, a.Ref.Railway, a.Ref.No, a.Wagon, a.Place, a.Other, a.Number, a.From, a.To, a.Code, a.Dest, a.Class, a.Weight, a.Amount, a.Text, a.Parts)
        else none
       else
        if (c == 5) = true then
         if InB 1 b.length then
          (Bc ((b.drop 1).take (b.length - 1)) 1).bind fun l =>
          if l.2 = true then
           if InR 0 l.1.length then
            some (l.2, a.Ref.Railway, a.Ref.No, a.Wagon, a.Place, a.Other, a.Number, a.From, nth l.1 0, a.Code, a.Dest, a.Class, a.Weight, a.Amount, a.Text, a.Parts)
           else none
          else
           some (l.2, a.Ref.Railway, a.Ref.No, a.Wagon, a.Place, a.Other, a.Number, a.From, a.To, a.Code, a.Dest, a.Class, a.Weight, a.Amount, a.Text, a.Parts)
         else none
        else
         if (c == 6) = true then
          if InB 1 b.length then
           (Bc ((b.drop 1).take (b.length - 1)) 1).bind fun m =>
           if m.2 = true then
            if InR 0 m.1.length then
             some (m.2, a.Ref.Railway, a.Ref.No, a.Wagon, a.Place, a.Other, a.Number, a.From, a.To, nth m.1 0, a.Dest, a.Class, a.Weight, a.Amount, a.Text, a.Parts)
            else none
           else
            some (m.2, a.Ref.Railway, a.Ref.No, a.Wagon, a.Place, a.Other, a.Number, a.From, a.To, a.Code, a.Dest, a.Class, a.Weight, a.Amount, a.Text, a.Parts)
          else none
         else
          if (c == 7) = true then
           if InB 1 b.length then
            (Bc ((b.drop 1).take (b.length - 1)) 1).bind fun n =>
            if n.2 = true then
             if InR 0 n.1.length then
              some (n.2, a.Ref.Railway, a.Ref.No, a.Wagon, a.Place, a.Other, a.Number, a.From, a.To, a.Code, nth n.1 0, a.Class, a.Weight, a.Amount, a.Text, a.Parts)
             else none
            else
             some (n.2, a.Ref.Railway, a.Ref.No, a.Wagon, a.Place, a.Other, a.Number, a.From, a.To, a.Code, a.Dest, a.Class, a.Weight, a.Amount, a.Text, a.Parts)
           else none
          else
           if (c == 8) = true then
            if InB 1 b.length then
             (Bc ((b.drop 1).take (b.length - 1)) 1).bind fun o =>
             if o.2 = true then
              if InR 0 o.1.length then
               some (o.2, a.Ref.Railway, a.Ref.No, a.Wagon, a.Place, a.Other, a.Number, a.From, a.To, a.Code, a.Dest, nth o.1 0, a.Weight, a.Amount, a.Text, a.Parts)
              else none
             else
              some (o.2, a.Ref.Railway, a.Ref.No, a.Wagon, a.Place, a.Other, a.Number, a.From, a.To, a.Code, a.Dest, a.Class, a.Weight, a.Amount, a.Text, a.Parts)
            else none
           else
            if (c == 9) = true then
             if InB 1 b.length then
              (Bc ((b.drop 1).take (b.length - 1)) 1).bind fun p =>
              if p.2 = true then
               if InR 0 p.1.length then
                some (p.2, a.Ref.Railway, a.Ref.No, a.Wagon, a.Place, a.Other, a.Number, a.From, a.To, a.Code, a.Dest, a.Class, nth p.1 0, a.Amount, a.Text, a.Parts)
               else none
              else
               some (p.2, a.Ref.Railway, a.Ref.No, a.Wagon, a.Place, a.Other, a.Number, a.From, a.To, a.Code, a.Dest, a.Class, a.Weight, a.Amount, a.Text, a.Parts)
             else none
            else
             if (c == 10) = true then
              if InB 1 b.length then
               (Bc ((b.drop 1).take (b.length - 1)) 1).bind fun q =>
               if q.2 = true then
                if InR 0 q.1.length then
                 some (q.2, a.Ref.Railway, a.Ref.No, a.Wagon, a.Place, a.Other, a.Number, a.From, a.To, a.Code, a.Dest, a.Class, a.Weight, nth q.1 0, a.Text, a.Parts)
                else none
               else
                some (q.2, a.Ref.Railway, a.Ref.No, a.Wagon, a.Place, a.Other, a.Number, a.From, a.To, a.Code, a.Dest, a.Class, a.Weight, a.Amount, a.Text, a.Parts)
              else none
             else
              if (decide (c ≥ 0)) = true then
               if InB 1 b.length then
                (Bc ((b.drop 1).take (b.length - 1)) 1).bind fun s =>
                if s.2 = true then
                 none
                else
                 some (s.2, a.Ref.Railway, a.Ref.No, a.Wagon, a.Place, a.Other, a.Number, a.From, a.To, a.Code, a.Dest, a.Class, a.Weight, a.Amount, a.Text, a.Parts)
               else none
              else
               if InR 0 b.length then
                if ((nth b 0) == (114 : UInt8)) = true then
                 if InB 1 b.length then
                  (Bc ((b.drop 1).take (b.length - 1)) 2).bind fun e =>
                  if e.2 = true then
                   if InR 0 e.1.length then
                    if InR 1 e.1.length then
                     some (e.2, nth e.1 0, nth e.1 1, a.Wagon, a.Place, a.Other, a.Number, a.From, a.To, a.Code, a.Dest, a.Class, a.Weight, a.Amount, a.Text, a.Parts)
                    else none
                   else none
                  else
                   some (e.2, a.Ref.Railway, a.Ref.No, a.Wagon, a.Place, a.Other, a.Number, a.From, a.To, a.Code, a.Dest, a.Class, a.Weight, a.Amount, a.Text, a.Parts)
                 else none
                else
                 if InR 0 b.length then
                  if ((nth b 0) == (120 : UInt8)) = true then
                   if InB 1 b.length then
                    (Cx ((b.drop 1).take (b.length - 1))).bind fun t =>
                    some (t.2, a.Ref.Railway, a.Ref.No, a.Wagon, a.Place, a.Other, a.Number, a.From, a.To, a.Code, a.Dest, a.Class, a.Weight, a.Amount, t.1, a.Parts)
                   else none
                  else
                   if InR 0 b.length then
                    if ((nth b 0) == (113 : UInt8)) = true then
                     if InB 1 b.length then
                      (Bc ((b.drop 1).take (b.length - 1)) 3).bind fun d =>
                      if d.2 = true then
                       if InR 0 d.1.length then
                        if InR 1 d.1.length then
                         if InR 2 d.1.length then
                          if Eg (a.Parts.length + 1) 24 then
                           lt1 (a.Parts ++ ([({ Kind := nth d.1 0, Serial := nth d.1 1, Fitted := (nth d.1 2 == 1) } : Api_Part)] : List Api_Part)) fun (v : List Api_Part) =>
                           some (d.2, a.Ref.Railway, a.Ref.No, a.Wagon, a.Place, a.Other, a.Number, a.From, a.To, a.Code, a.Dest, a.Class, a.Weight, a.Amount, a.Text, v)
                          else none
                         else none
                        else none
                       else none
                      else
                       some (d.2, a.Ref.Railway, a.Ref.No, a.Wagon, a.Place, a.Other, a.Number, a.From, a.To, a.Code, a.Dest, a.Class, a.Weight, a.Amount, a.Text, a.Parts)
                     else none
                    else
                     some (false, a.Ref.Railway, a.Ref.No, a.Wagon, a.Place, a.Other, a.Number, a.From, a.To, a.Code, a.Dest, a.Class, a.Weight, a.Amount, a.Text, a.Parts)
                   else none
                 else none
               else none
  else none : Option (Bool × Int × Int × Int × Int × Int × Int × Int × Int × Int × Int × Int × Int × Int × List UInt8 × List Api_Part)).bind fun (w, x, y, z, aa, ab, ac, ad, ae, af, ag, ah, ai, aj, ak, al) =>
  some (w, ({ Kind := a.Kind, Ref := ({ Railway := x, No := y } : Api_Ref), Wagon := z, Place := aa, Other := ab, Number := ac, From := ad, To := ae, Code := af, Dest := ag, Class := ah, Weight := ai, Amount := aj, Text := ak, Parts := al } : Api_Item))
def En (b : List (List UInt8)) (c : Int) (d : Int) (e : Int) (f : Int) (g : Int) (i : Int) (j : Int) (k : Int) (l : Int) (m : Int) (n : Int) (o : Int) (p : Int) (q : Int) (s : Int) (t : List UInt8) (u : List Api_Part) : Option ((Int × Int × Int × Int × Int × Int × Int × Int × Int × Int × Int × Int × Int × Int × Int × List UInt8 × List Api_Part) ⊕ ((Int × Int × Int × Int × Int × Int × Int × Int × Int × Int × Int × Int × Int × Int × List UInt8 × List Api_Part) ⊕ ((Int × Int × Int × Int × Int × Int × Int × Int × Int × Int × Int × Int × Int × Int × List UInt8 × List Api_Part) ⊕ (Api_Item × Int)))) :=
 lt1 (decide (c < (((b.drop 1).take (b.length - 1)).length : Int))) fun (v : Bool) =>
 if v = true then
  if InR c (((b.drop 1).take (b.length - 1)).length) then
   lt1 (nth ((b.drop 1).take (b.length - 1)) c.toNat) fun (w : List UInt8) =>
   (Cc ({ Kind := d, Ref := ({ Railway := e, No := f } : Api_Ref), Wagon := g, Place := i, Other := j, Number := k, From := l, To := m, Code := n, Dest := o, Class := p, Weight := q, Amount := s, Text := t, Parts := u } : Api_Item) w).bind fun a =>
   lt1 a.2.Parts fun (x : List Api_Part) =>
   if (!a.1) = true then
    ((some (({ Kind := 0, Ref := ({ Railway := 0, No := 0 } : Api_Ref), Wagon := 0, Place := 0, Other := 0, Number := 0, From := 0, To := 0, Code := 0, Dest := 0, Class := 0, Weight := 0, Amount := 0, Text := ([] : List UInt8), Parts := [] } : Api_Item), 4)).bind fun y => some (.inr y)).bind fun z => some (.inr (.inr z))
   else
    some (.inl ((w64 (c + 1)), a.2.Kind, a.2.Ref.Railway, a.2.Ref.No, a.2.Wagon, a.2.Place, a.2.Other, a.2.Number, a.2.From, a.2.To, a.2.Code, a.2.Dest, a.2.Class, a.2.Weight, a.2.Amount, a.2.Text, x))
  else none
 else
  some (.inr (.inl (d, e, f, g, i, j, k, l, m, n, o, p, q, s, t, u)))
def Es (b : List UInt8) : Option (Api_Item × Int) :=
 if (decide ((b.length : Int) > 65536)) = true then
  some (({ Kind := 0, Ref := ({ Railway := 0, No := 0 } : Api_Ref), Wagon := 0, Place := 0, Other := 0, Number := 0, From := 0, To := 0, Code := 0, Dest := 0, Class := 0, Weight := 0, Amount := 0, Text := ([] : List UInt8), Parts := [] } : Api_Item), 2)
 else
  (Da b ([39] : List UInt8)).bind fun y =>
  (E2 y.1 ([43] : List UInt8)).bind fun a =>
  if InR 0 a.length then
   (B6 glob0.l (nth a 0)).bind fun aa =>
   (if InB 1 a.length then
    (C4 (fun (v : Int × Int × Int × Int × Int × Int × Int × Int × Int × Int × Int × Int × Int × Int × Int × List UInt8 × List Api_Part) => En a v.1 v.2.1 v.2.2.1 v.2.2.2.1 v.2.2.2.2.1 v.2.2.2.2.2.1 v.2.2.2.2.2.2.1 v.2.2.2.2.2.2.2.1 v.2.2.2.2.2.2.2.2.1 v.2.2.2.2.2.2.2.2.2.1 v.2.2.2.2.2.2.2.2.2.2.1 v.2.2.2.2.2.2.2.2.2.2.2.1 v.2.2.2.2.2.2.2.2.2.2.2.2.1 v.2.2.2.2.2.2.2.2.2.2.2.2.2.1 v.2.2.2.2.2.2.2.2.2.2.2.2.2.2.1 v.2.2.2.2.2.2.2.2.2.2.2.2.2.2.2.1 v.2.2.2.2.2.2.2.2.2.2.2.2.2.2.2.2) (0, aa, 0, 0, 0, 0, 0, 0, 0, 0, 0, 0, 0, 0, 0, ([] : List UInt8), [])).bind fun x => match x with
    | .inl (ab, ac, ad, ae, af, ag, ah, ai, aj, ak, al, am, an, ao, ap, aq) =>
     some (.inl (ab, ac, ad, ae, af, ag, ah, ai, aj, ak, al, am, an, ao, ap, aq))
    | .inr z => some z
   else none : Option ((Int × Int × Int × Int × Int × Int × Int × Int × Int × Int × Int × Int × Int × Int × List UInt8 × List Api_Part) ⊕ (Api_Item × Int))).bind fun x => match x with
   | .inl (c, d, e, f, g, i, j, k, m, n, o, p, q, s, t, u) =>
    (Cu ({ Kind := c, Ref := ({ Railway := d, No := e } : Api_Ref), Wagon := f, Place := g, Other := i, Number := j, From := k, To := m, Code := n, Dest := o, Class := p, Weight := q, Amount := s, Text := t, Parts := u } : Api_Item)).bind fun w =>
    (if (w.2 != 0) = true then
     some true
    else
     some (!(w.1 == b)) : Option (Bool)).bind fun ar =>
    if ar = true then
     some (({ Kind := 0, Ref := ({ Railway := 0, No := 0 } : Api_Ref), Wagon := 0, Place := 0, Other := 0, Number := 0, From := 0, To := 0, Code := 0, Dest := 0, Class := 0, Weight := 0, Amount := 0, Text := ([] : List UInt8), Parts := [] } : Api_Item), 4)
    else
     some (({ Kind := c, Ref := ({ Railway := d, No := e } : Api_Ref), Wagon := f, Place := g, Other := i, Number := j, From := k, To := m, Code := n, Dest := o, Class := p, Weight := q, Amount := s, Text := t, Parts := u } : Api_Item), 0)
   | .inr z => some z
  else none
def Gy (a : Api_Item) : Option (Bool) :=
 (if (decide ((a.Text.length : Int) ≤ 2000)) = true then
  some (decide ((a.Parts.length : Int) ≤ 20))
 else
  some false : Option (Bool)).bind fun b =>
 some b
def Be (a : Int) : Option (Api_Value) :=
 some (Api_Value.mk 1 a ([]) ([]))
def Tp (a : List UInt8) : Option (Api_Value) :=
 some (Api_Value.mk 2 0 a ([]))
def edi_list_cnil  : Option (Api_Value) :=
 some (Api_Value.mk 3 0 ([]) ([]))
def I0 (a : List Api_Value) : Option (Api_Value) :=
 some (Api_Value.mk 3 0 ([]) a)
def F9 (a : List Api_Value) : Option (Api_Value) :=
 some (Api_Value.mk 3 0 ([]) a)
def I1 (b : Api_Item) (a : Int) (c : List Api_Value) : Option ((Int × List Api_Value) ⊕ (List Api_Value)) :=
 if (decide (a < (b.Parts.length : Int))) = true then
  if InR a b.Parts.length then
   lt1 ((nth b.Parts a.toNat).Kind) fun (e : Int) =>
   lt1 ((nth b.Parts a.toNat).Serial) fun (f : Int) =>
   lt1 ((nth b.Parts a.toNat).Fitted) fun (g : Bool) =>
   (if g = true then
    some 1
   else
    some 0 : Option (Int)).bind fun i =>
   (Be e).bind fun j =>
   (Be f).bind fun k =>
   (Be i).bind fun l =>
   (F9 ([j, k, l] : List Api_Value)).bind fun d =>
   if Eg (c.length + 1) 64 then
    lt1 (c ++ ([(Api_Value.mk d.Kind d.N ([]) d.L)] : List Api_Value)) fun (m : List Api_Value) =>
    some (.inl ((w64 (a + 1)), m))
   else none
  else none
 else
  some (.inr c)
def Lv (a : Api_Item) : Option (Api_Value) :=
 (Be a.Kind).bind fun s =>
 (Be a.Ref.Railway).bind fun t =>
 (Be a.Ref.No).bind fun u =>
 (F9 ([t, u] : List Api_Value)).bind fun b =>
 lt1 ([s, (Api_Value.mk b.Kind b.N ([]) b.L)] : List Api_Value) fun (d : List Api_Value) =>
 ((Be a.Wagon).bind fun w =>
 if Eg (d.length + 1) 64 then
  lt1 (d ++ ([w] : List Api_Value)) fun (e : List Api_Value) =>
  (Be a.Place).bind fun x =>
  if Eg (e.length + 1) 64 then
   lt1 (e ++ ([x] : List Api_Value)) fun (f : List Api_Value) =>
   (Be a.Other).bind fun y =>
   if Eg (f.length + 1) 64 then
    lt1 (f ++ ([y] : List Api_Value)) fun (g : List Api_Value) =>
    (Be a.Number).bind fun z =>
    if Eg (g.length + 1) 64 then
     lt1 (g ++ ([z] : List Api_Value)) fun (i : List Api_Value) =>
     (Be a.From).bind fun aa =>
     if Eg (i.length + 1) 64 then
      lt1 (i ++ ([aa] : List Api_Value)) fun (j : List Api_Value) =>
      (Be a.To).bind fun ab =>
      if Eg (j.length + 1) 64 then
       lt1 (j ++ ([ab] : List Api_Value)) fun (k : List Api_Value) =>
       (Be a.Code).bind fun ac =>
       if Eg (k.length + 1) 64 then
        lt1 (k ++ ([ac] : List Api_Value)) fun (l : List Api_Value) =>
        (Be a.Dest).bind fun ad =>
        if Eg (l.length + 1) 64 then
         lt1 (l ++ ([ad] : List Api_Value)) fun (m : List Api_Value) =>
         (Be a.Class).bind fun ae =>
         if Eg (m.length + 1) 64 then
          lt1 (m ++ ([ae] : List Api_Value)) fun (n : List Api_Value) =>
          (Be a.Weight).bind fun af =>
          if Eg (n.length + 1) 64 then
           lt1 (n ++ ([af] : List Api_Value)) fun (o : List Api_Value) =>
           (Be a.Amount).bind fun ag =>
           if Eg (o.length + 1) 64 then
            lt1 (o ++ ([ag] : List Api_Value)) fun (ah : List Api_Value) =>
            some ah
           else none
          else none
         else none
        else none
       else none
      else none
     else none
    else none
   else none
  else none
 else none : Option (List Api_Value)).bind fun p =>
 edi_list_cnil.bind fun q =>
 ((C4 (fun (v : Int × List Api_Value) => I1 a v.1 v.2) (0, [])).bind fun ai =>
 some ai : Option (List Api_Value)).bind fun aj =>
 (Tp a.Text).bind fun ak =>
 if Eg (p.length + 2) 64 then
  (I0 (p ++ ([ak, (Api_Value.mk q.Kind q.N ([]) aj)] : List Api_Value))).bind fun c =>
  lt1 c.L fun (al : List Api_Value) =>
  some (Api_Value.mk c.Kind c.N ([]) al)
 else none
def I8 (a : List UInt8) (b : List UInt8) : Option (Int) := Ub a b
def Gc (a : Int) : Option (Bool) :=
 some (a != a)
def Fm (a : Int) (b : Int) : Option (Int) :=
 (Gc a).bind fun d =>
 (Gc b).bind fun c =>
 if d = true then
  if c = true then
   some 0
  else
   some (-1)
 else
  if c = true then
   some 1
  else
   if (decide (a < b)) = true then
    some (-1)
   else
    if (decide (a > b)) = true then
     some 1
    else
     some 0
def Ik (a : List UInt8) (b : List UInt8) : Option (Int) :=
 (I8 a b).bind fun c =>
 some c
def C9 (s1_3072 : List Api_Value) (s2_3073 : List Api_Value) (c : Api_Value → Api_Value → Option (Int)) (a : Int) : Option ((Int) ⊕ ((Unit) ⊕ ((Unit) ⊕ (Int)))) :=
 if (decide (a < (s1_3072.length : Int))) = true then
  if InR a s1_3072.length then
   lt1 ((nth s1_3072 a.toNat).Kind) fun (d : Int) =>
   lt1 ((nth s1_3072 a.toNat).N) fun (e : Int) =>
   lt1 ((nth s1_3072 a.toNat).B) fun (f : List UInt8) =>
   lt1 ((nth s1_3072 a.toNat).L) fun (g : List Api_Value) =>
   if (decide (a ≥ (s2_3073.length : Int))) = true then
    ((some 1).bind fun i => some (.inr i)).bind fun j => some (.inr (.inr j))
   else
    if InR a s2_3073.length then
     lt1 ((nth s2_3073 a.toNat).Kind) fun (k : Int) =>
     lt1 ((nth s2_3073 a.toNat).N) fun (l : Int) =>
     lt1 ((nth s2_3073 a.toNat).B) fun (m : List UInt8) =>
     lt1 ((nth s2_3073 a.toNat).L) fun (n : List Api_Value) =>
     (c (Api_Value.mk d e f g) (Api_Value.mk k l m n)).bind fun b =>
     if (b != 0) = true then
      ((some b).bind fun o => some (.inr o)).bind fun p => some (.inr (.inr p))
     else
      some (.inl (w64 (a + 1)))
    else none
  else none
 else
  some (.inr (.inl ()))
def Dp (b : Api_Value → Api_Value → Option (Int)) (s1_3072 : List Api_Value) (s2_3073 : List Api_Value) (a : Api_Value → Api_Value → Option (Int)) : Option (Int) :=
 ((C4 (fun (v : Int) => C9 s1_3072 s2_3073 a v) 0).bind fun x => match x with
 | .inl () =>
  some (.inl ())
 | .inr z => some z : Option ((Unit) ⊕ (Int))).bind fun x => match x with
 | .inl () =>
  if (decide ((s1_3072.length : Int) < (s2_3073.length : Int))) = true then
   some (-1)
  else
   some 0
 | .inr z => some z
def G4 (rec_ : Api_Value → Api_Value → Option (Int)) (a : Api_Value) (b : Api_Value) : Option (Int) :=
 (Fm a.Kind b.Kind).bind fun c =>
 if (c != 0) = true then
  some c
 else
  if (a.Kind == 1) = true then
   (Fm a.N b.N).bind fun d =>
   some d
  else
   if (a.Kind == 2) = true then
    (Ik a.B b.B).bind fun e =>
    some e
   else
    if (a.Kind == 3) = true then
     (Dp rec_ a.L b.L rec_).bind fun f =>
     some f
    else
     some 0
def Gx (n : Nat) : Api_Value → Api_Value → Option (Int) := match n with
 | 0 => fun _ _ => none
 | n + 1 => G4 (Gx n)
def Li (a : Api_Value) (b : Api_Value) : Option (Int) := Gx 18446744073709551616 a b
def K2 (b : Api_Value) (c : Api_Value) (rec_ : Api_Value → Api_Value → Option (Bool)) (a : Int) : Option ((Int) ⊕ ((Unit) ⊕ ((Unit) ⊕ (Bool)))) :=
 if (decide (a < (b.L.length : Int))) = true then
  if InR a b.L.length then
   if InR a c.L.length then
    (rec_ (nth b.L a.toNat) (nth c.L a.toNat)).bind fun d =>
    if (!d) = true then
     ((some false).bind fun e => some (.inr e)).bind fun f => some (.inr (.inr f))
    else
     some (.inl (w64 (a + 1)))
   else none
  else none
 else
  some (.inr (.inl ()))
def L4 (rec_ : Api_Value → Api_Value → Option (Bool)) (a : Api_Value) (b : Api_Value) : Option (Bool) :=
 (if (a.Kind != b.Kind) = true then
  some true
 else
  (Li a b).bind fun c =>
  if (c != 0) = true then
   some true
  else
   if (a.N != b.N) = true then
    some true
   else
    if ((a.B.length : Int) != (b.B.length : Int)) = true then
     some true
    else
     some ((a.L.length : Int) != (b.L.length : Int)) : Option (Bool)).bind fun d =>
 if d = true then
  some false
 else
  ((C4 (fun (v : Int) => K2 a b rec_ v) 0).bind fun x => match x with
  | .inl () =>
   some (.inl ())
  | .inr z => some z : Option ((Unit) ⊕ (Bool))).bind fun x => match x with
  | .inl () =>
   some true
  | .inr z => some z
def Md (n : Nat) : Api_Value → Api_Value → Option (Bool) := match n with
 | 0 => fun _ _ => none
 | n + 1 => L4 (Md n)
def Z0 (a : Api_Value) (b : Api_Value) : Option (Bool) := Md 18446744073709551616 a b
def F5 (c : Api_Value) (a : Int) (d : List Api_Part) : Option ((Int × List Api_Part) ⊕ ((List Api_Part) ⊕ ((List Api_Part) ⊕ (Api_Item × Int)))) :=
 if (decide (a < (((nth c.L 14).L).length : Int))) = true then
  if InR a (((nth c.L 14).L).length) then
   lt1 ((nth ((nth c.L 14).L) a.toNat).Kind) fun (i : Int) =>
   lt1 ((nth ((nth c.L 14).L) a.toNat).N) fun (j : Int) =>
   lt1 ((nth ((nth c.L 14).L) a.toNat).B) fun (k : List UInt8) =>
   lt1 ((nth ((nth c.L 14).L) a.toNat).L) fun (b : List Api_Value) =>
   if ((b.length : Int) != 3) = true then
    ((some (({ Kind := 0, Ref := ({ Railway := 0, No := 0 } : Api_Ref), Wagon := 0, Place := 0, Other := 0, Number := 0, From := 0, To := 0, Code := 0, Dest := 0, Class := 0, Weight := 0, Amount := 0, Text := ([] : List UInt8), Parts := [] } : Api_Item), 10)).bind fun e => some (.inr e)).bind fun f => some (.inr (.inr f))
   else
    if InR 0 b.length then
     if InR 1 b.length then
      if InR 2 b.length then
       if Eg (d.length + 1) 24 then
        lt1 (d ++ ([({ Kind := (nth b 0).N, Serial := (nth b 1).N, Fitted := ((nth b 2).N == 1) } : Api_Part)] : List Api_Part)) fun (g : List Api_Part) =>
        some (.inl ((w64 (a + 1)), g))
       else none
      else none
     else none
    else none
  else none
 else
  some (.inr (.inl d))
def Gi (a : Api_Value) : Option (Api_Item × Int) :=
 (if ((a.L.length : Int) != 15) = true then
  some true
 else
  if InR 1 a.L.length then
   some ((((nth a.L 1).L).length : Int) != 2)
  else none : Option (Bool)).bind fun e =>
 if e = true then
  some (({ Kind := 0, Ref := ({ Railway := 0, No := 0 } : Api_Ref), Wagon := 0, Place := 0, Other := 0, Number := 0, From := 0, To := 0, Code := 0, Dest := 0, Class := 0, Weight := 0, Amount := 0, Text := ([] : List UInt8), Parts := [] } : Api_Item), 10)
 else
  if InR 0 a.L.length then
   if InR 1 a.L.length then
    if InR 0 (((nth a.L 1).L).length) then
     if InR 1 a.L.length then
      if InR 1 (((nth a.L 1).L).length) then
       lt1 ((nth ((nth a.L 1).L) 0).N) fun (b : Int) =>
       lt1 ((nth ((nth a.L 1).L) 1).N) fun (c : Int) =>
       (if InR 2 a.L.length then
        if InR 3 a.L.length then
         if InR 4 a.L.length then
          if InR 5 a.L.length then
           if InR 6 a.L.length then
            if InR 7 a.L.length then
             if InR 8 a.L.length then
              if InR 9 a.L.length then
               if InR 10 a.L.length then
                if InR 11 a.L.length then
                 if InR 12 a.L.length then
                  some ()
                 else none
                else none
               else none
              else none
             else none
            else none
           else none
          else none
         else none
        else none
       else none : Option (Unit)).bind fun () =>
       if InR 13 a.L.length then
        (if InR 14 a.L.length then
         (C4 (fun (v : Int × List Api_Part) => F5 a v.1 v.2) (0, [])).bind fun x => match x with
         | .inl f =>
          some (.inl f)
         | .inr z => some z
        else none : Option ((List Api_Part) ⊕ (Api_Item × Int))).bind fun x => match x with
        | .inl d =>
         (Lv ({ Kind := (nth a.L 0).N, Ref := ({ Railway := b, No := c } : Api_Ref), Wagon := (nth a.L 2).N, Place := (nth a.L 3).N, Other := (nth a.L 4).N, Number := (nth a.L 5).N, From := (nth a.L 6).N, To := (nth a.L 7).N, Code := (nth a.L 8).N, Dest := (nth a.L 9).N, Class := (nth a.L 10).N, Weight := (nth a.L 11).N, Amount := (nth a.L 12).N, Text := (nth a.L 13).B, Parts := d } : Api_Item)).bind fun g =>
         (Z0 g a).bind fun i =>
         if (!i) = true then
          some (({ Kind := 0, Ref := ({ Railway := 0, No := 0 } : Api_Ref), Wagon := 0, Place := 0, Other := 0, Number := 0, From := 0, To := 0, Code := 0, Dest := 0, Class := 0, Weight := 0, Amount := 0, Text := ([] : List UInt8), Parts := [] } : Api_Item), 10)
         else
          some (({ Kind := (nth a.L 0).N, Ref := ({ Railway := b, No := c } : Api_Ref), Wagon := (nth a.L 2).N, Place := (nth a.L 3).N, Other := (nth a.L 4).N, Number := (nth a.L 5).N, From := (nth a.L 6).N, To := (nth a.L 7).N, Code := (nth a.L 8).N, Dest := (nth a.L 9).N, Class := (nth a.L 10).N, Weight := (nth a.L 11).N, Amount := (nth a.L 12).N, Text := (nth a.L 13).B, Parts := d } : Api_Item), 0)
        | .inr z => some z
       else none
      else none
     else none
    else none
   else none
  else none
def Gv (a : Api_Item) (b : UInt8) : Option (Int) :=
 if (b == (119 : UInt8)) = true then
  some a.Wagon
 else
  if (b == (112 : UInt8)) = true then
   some a.Place
  else
   if (b == (111 : UInt8)) = true then
    some a.Other
   else
    if (b == (110 : UInt8)) = true then
     some a.Number
    else
     if (b == (102 : UInt8)) = true then
      some a.From
     else
      if (b == (116 : UInt8)) = true then
       some a.To
      else
       if (b == (99 : UInt8)) = true then
        some a.Code
       else
        if (b == (100 : UInt8)) = true then
         some a.Dest
        else
         if (b == (107 : UInt8)) = true then
          some a.Class
         else
          if (b == (103 : UInt8)) = true then
           some a.Weight
          else
           some a.Amount
def AfX (b : List UInt8) (e : UInt8) (c : Int) (a : Int) (d : List (List UInt8)) : Option ((Int × Int × List (List UInt8)) ⊕ (Int × List (List UInt8))) :=
 if (decide (a < (b.length : Int))) = true then
  (if InR a b.length then
   if ((nth b a.toNat) == e) = true then
    if InB a b.length then
     if InB c a.toNat then
      if Eg (d.length + 1) 16 then
       lt1 (d ++ ([((b.drop c.toNat).take (a.toNat - c.toNat))] : List (List UInt8))) fun (f : List (List UInt8)) =>
       some ((w64 (a + 1)), f)
      else none
     else none
    else none
   else
    some (c, d)
  else none : Option (Int × List (List UInt8))).bind fun (g, i) =>
  some (.inl (g, (w64 (a + 1)), i))
 else
  some (.inr (c, d))
def L5 (a : UInt8) : Option (UInt8) :=
 (if (decide (a ≥ (48 : UInt8))) = true then
  some (decide (a ≤ (57 : UInt8)))
 else
  some false : Option (Bool)).bind fun b =>
 if b = true then
  some (a - (48 : UInt8))
 else
  (if (decide (a ≥ (97 : UInt8))) = true then
   some (decide (a ≤ (102 : UInt8)))
  else
   some false : Option (Bool)).bind fun c =>
  if c = true then
   some ((a - (97 : UInt8)) + (10 : UInt8))
  else
   some (0 : UInt8)
def Dh (b : List Api_Part) (c : List Api_Part) (a : Int) : Option ((Int) ⊕ ((Unit) ⊕ ((Unit) ⊕ (Bool)))) :=
 if (decide (a < (b.length : Int))) = true then
  if InR a b.length then
   if InR a c.length then
    lt1 (!(((nth b a.toNat).Kind == (nth c a.toNat).Kind) && (((nth b a.toNat).Serial == (nth c a.toNat).Serial) && ((nth b a.toNat).Fitted == (nth c a.toNat).Fitted)))) fun (d : Bool) =>
    if d = true then
     ((some false).bind fun e => some (.inr e)).bind fun f => some (.inr (.inr f))
    else
     some (.inl (w64 (a + 1)))
   else none
  else none
 else
  some (.inr (.inl ()))
def E7 (a : List Api_Part) (b : List Api_Part) : Option (Bool) :=
 if ((a.length : Int) != (b.length : Int)) = true then
  some false
 else
  ((C4 (fun (v : Int) => Dh a b v) 0).bind fun x => match x with
  | .inl () =>
   some (.inl ())
  | .inr z => some z : Option ((Unit) ⊕ (Bool))).bind fun x => match x with
  | .inl () =>
   some true
  | .inr z => some z
def G7 (b : Api_Item) (c : Api_Item) (a : Int) : Option ((Int) ⊕ ((Unit) ⊕ ((Unit) ⊕ (Bool)))) :=
 if (decide (a < 11)) = true then
  if InR a (([119, 112, 111, 110, 102, 116, 99, 100, 107, 103, 97] : List UInt8).length) then
   (Gv b (nth ([119, 112, 111, 110, 102, 116, 99, 100, 107, 103, 97] : List UInt8) a.toNat)).bind fun d =>
   if InR a (([119, 112, 111, 110, 102, 116, 99, 100, 107, 103, 97] : List UInt8).length) then
    (Gv c (nth ([119, 112, 111, 110, 102, 116, 99, 100, 107, 103, 97] : List UInt8) a.toNat)).bind fun e =>
    if (d != e) = true then
     ((some false).bind fun f => some (.inr f)).bind fun g => some (.inr (.inr g))
    else
     some (.inl (w64 (a + 1)))
   else none
  else none
 else
  some (.inr (.inl ()))
def Ga (a : Api_Item) (b : Api_Item) : Option (Bool) :=
 ((C4 (fun (v : Int) => G7 a b v) 0).bind fun x => match x with
 | .inl () =>
  some (.inl ())
 | .inr z => some z : Option ((Unit) ⊕ (Bool))).bind fun x => match x with
 | .inl () =>
  (if (a.Kind == b.Kind) = true then
   if ((a.Ref.Railway == b.Ref.Railway) && (a.Ref.No == b.Ref.No)) = true then
    if (a.Text == b.Text) = true then
     (E7 a.Parts b.Parts).bind fun c =>
     some c
    else
     some false
   else
    some false
  else
   some false : Option (Bool)).bind fun d =>
  some d
 | .inr z => some z
def K6 (a : List UInt8) (b : List UInt8) : Option (Bool) :=
 some (a == b)
def Cg (a : UInt32) (b : Int) : Option ((UInt32 × Int) ⊕ (UInt32)) :=
 if (decide (b < 4)) = true then
  lt1 ((Kt a (1 : UInt64).toNat) ^^^ ((3988292384 : UInt32) &&& (0 - (a &&& (1 : UInt32))))) fun (c : UInt32) =>
  some (.inl (c, (w64 (b + 1))))
 else
  some (.inr a)
def Dc (a : Int) (b : Arr UInt32 16) : Option ((Int × Arr UInt32 16) ⊕ (Arr UInt32 16)) :=
 if (decide (a < 16)) = true then
  (((C4 (fun (v : UInt32 × Int) => Cg v.1 v.2) ((UInt32.ofInt a), 0)).bind fun c =>
  some c : Option (UInt32)).bind fun d =>
  if InR a 16 then
   lt1 (b.set a.toNat d) fun (e : Arr UInt32 16) =>
   some e
  else none : Option (Arr UInt32 16)).bind fun f =>
  some (.inl ((w64 (a + 1)), f))
 else
  some (.inr b)
def Ds (b : List UInt8) (e : Arr UInt32 16) (f : UInt32) (a : Int) : Option ((UInt32 × Int) ⊕ (UInt32)) :=
 if (decide (a < (b.length : Int))) = true then
  if InR a b.length then
   lt1 (f ^^^ (nth b a.toNat).toUInt32) fun (c : UInt32) =>
   if InR ((c &&& (15 : UInt32)).toNat : Int) 16 then
    lt1 ((Kt c (4 : UInt64).toNat) ^^^ (e.get ((c &&& (15 : UInt32)).toNat))) fun (d : UInt32) =>
    if InR ((d &&& (15 : UInt32)).toNat : Int) 16 then
     lt1 ((Kt d (4 : UInt64).toNat) ^^^ (e.get ((d &&& (15 : UInt32)).toNat))) fun (g : UInt32) =>
     some (.inl (g, (w64 (a + 1))))
    else none
   else none
  else none
 else
  some (.inr f)
def Ji (a : List UInt8) : Option (UInt32) :=
 ((C4 (fun (v : Int × Arr UInt32 16) => Dc v.1 v.2) (0, (Arr.rep 16 (0 : UInt32)))).bind fun b =>
 some b : Option (Arr UInt32 16)).bind fun c =>
 ((C4 (fun (v : UInt32 × Int) => Ds a c v.1 v.2) ((4294967295 : UInt32), 0)).bind fun d =>
 some d : Option (UInt32)).bind fun e =>
 some (~~~e)
def Gm (b : List UInt8) : Option (List UInt8) :=
 (Ji b).bind fun a =>
 lt1 ([(Kt a (24 : UInt64).toNat).toUInt8, (Kt a (16 : UInt64).toNat).toUInt8, (Kt a (8 : UInt64).toNat).toUInt8, a.toUInt8] : List UInt8) fun (c : List UInt8) =>
 some c
def D2 (b : Api_Deframer) : Option (List UInt8 × Bool) :=
 lt1 (w64 ((b.Rest.length : Int) - 4)) fun (a : Int) =>
 (if b.Escape = true then
  some true
 else
  if b.Bad = true then
   some true
  else
   if (decide (a < 0)) = true then
    some true
   else
    some (decide (a > 8192)) : Option (Bool)).bind fun c =>
 if c = true then
  some ([], false)
 else
  if InB a b.Rest.length then
   if InB a a.toNat then
    if InB a b.Rest.length then
     (Gm (b.Rest.take a.toNat)).bind fun d =>
     if InB a b.Rest.length then
      (K6 d ((b.Rest.drop a.toNat).take (b.Rest.length - a.toNat))).bind fun e =>
      some ((b.Rest.take a.toNat), e)
     else none
    else none
   else none
  else none
def Df (d : List (List UInt8)) (e : Int) (a : Int) (b : List UInt8) : Option ((Int × List UInt8) ⊕ (List UInt8)) :=
 if (decide (a < ((nth d e.toNat).length : Int))) = true then
  if InR a ((nth d e.toNat).length) then
   lt1 (nth (nth d e.toNat) a.toNat) fun (c : UInt8) =>
   ((if (c == (126 : UInt8)) = true then
    some true
   else
    some (c == (125 : UInt8)) : Option (Bool)).bind fun g =>
   if g = true then
    if Eg (b.length + 1) 1 then
     lt1 (b ++ ([(125 : UInt8)] : List UInt8)) fun (i : List UInt8) =>
     some ((c ^^^ (32 : UInt8)), i)
    else none
   else
    some (c, b) : Option (UInt8 × List UInt8)).bind fun (j, f) =>
   if Eg (f.length + 1) 1 then
    lt1 (f ++ ([j] : List UInt8)) fun (k : List UInt8) =>
    some (.inl ((w64 (a + 1)), k))
   else none
  else none
 else
  some (.inr b)
def D1 (d : List UInt8) (e : List UInt8) (b : List (List UInt8)) (a : Int) (c : List UInt8) : Option ((Int × List UInt8) ⊕ (List UInt8)) :=
 lt1 (decide (a < (([d, e] : List (List UInt8)).length : Int))) fun (f : Bool) =>
 if f = true then
  (if InR a b.length then
   (C4 (fun (v : Int × List UInt8) => Df b a v.1 v.2) (0, c)).bind fun g =>
   some g
  else none : Option (List UInt8)).bind fun i =>
  some (.inl ((w64 (a + 1)), i))
 else
  some (.inr c)
def Hz (a : List UInt8) : Option (List UInt8 × Int) :=
 if (decide ((a.length : Int) > 8192)) = true then
  some ([], 2)
 else
  if Mk 1 (w64 ((a.length : Int) + 6)) 1 then
   lt1 (List.replicate 1 (0 : UInt8)) fun (b : List UInt8) =>
   if InR 0 b.length then
    lt1 (b.set 0 (126 : UInt8)) fun (e : List UInt8) =>
    ((Gm a).bind fun c =>
    lt1 ([a, c] : List (List UInt8)) fun (f : List (List UInt8)) =>
    (C4 (fun (v : Int × List UInt8) => D1 a c f v.1 v.2) (0, e)).bind fun g =>
    some g : Option (List UInt8)).bind fun d =>
    if Eg (d.length + 1) 1 then
     lt1 (d ++ ([(126 : UInt8)] : List UInt8)) fun (i : List UInt8) =>
     some (i, 0)
    else none
   else none
  else none
def Eh (g : List UInt8) (b : Int) (e : Int) (c : Bool) (i : Bool) (f : Bool) (a : List (List UInt8)) (d : List UInt8) : Option ((Int × Int × Bool × Bool × Bool × List (List UInt8) × List UInt8) ⊕ (Int × Bool × Bool × Bool × List (List UInt8) × List UInt8)) :=
 if (decide (e < (g.length : Int))) = true then
  (if InR e g.length then
   (if (nth g e.toNat == (126 : UInt8)) = true then
    ((if c = true then
     if (decide ((d.length : Int) > 0)) = true then
      some true
     else
      if i = true then
       some true
      else
       some f
    else
     some false : Option (Bool)).bind fun k =>
    if k = true then
     (D2 ({ Rest := d, In := c, Escape := i, Bad := f } : Api_Deframer)).bind fun j =>
     if j.2 = true then
      if Eg (a.length + 1) 24 then
       lt1 (a ++ ([j.1] : List (List UInt8))) fun (l : List (List UInt8)) =>
       some (b, l)
      else none
     else
      some ((w64 (b + 1)), a)
    else
     some (b, a) : Option (Int × List (List UInt8))).bind fun (m, n) =>
    (some (m, true, false, false, n, [])).bind fun o => some (.inr o)
   else
    (if (!c) = true then
     some true
    else
     some f : Option (Bool)).bind fun p =>
    if p = true then
     (some (b, c, i, f, a, d)).bind fun q => some (.inr q)
    else
     (if (nth g e.toNat == (125 : UInt8)) = true then
      some (!i)
     else
      some false : Option (Bool)).bind fun s =>
     if s = true then
      (some (b, c, true, f, a, d)).bind fun t => some (.inr t)
     else
      if i = true then
       lt1 (nth g e.toNat ^^^ (32 : UInt8)) fun (u : UInt8) =>
       some (.inl u)
      else
       some (.inl (nth g e.toNat)) : Option ((UInt8) ⊕ (Int × Bool × Bool × Bool × List (List UInt8) × List UInt8))).bind fun x => match x with
   | .inl v =>
    if (decide ((d.length : Int) ≥ 8196)) = true then
     some (b, c, false, true, a, [])
    else
     if Eg (d.length + 1) 1 then
      lt1 (d ++ ([v] : List UInt8)) fun (w : List UInt8) =>
      some (b, c, false, f, a, w)
     else none
   | .inr z => some z
  else none : Option (Int × Bool × Bool × Bool × List (List UInt8) × List UInt8)).bind fun (y, aa, ab, ac, ad, ae) =>
  some (.inl (y, (w64 (e + 1)), aa, ab, ac, ad, ae))
 else
  some (.inr (b, c, i, f, a, d))
def Cv (a : Api_Deframer) (c : List UInt8) : Option (Api_Deframer × List (List UInt8) × Int) :=
 if Mk (a.Rest.length : Int) (a.Rest.length : Int) 1 then
  lt1 (List.replicate ((a.Rest.length : Int).toNat) (0 : UInt8)) fun (b : List UInt8) =>
  lt1 (ovl b (a.Rest.take (min a.Rest.length b.length)) 0) fun (d : List UInt8) =>
  ((C4 (fun (v : Int × Int × Bool × Bool × Bool × List (List UInt8) × List UInt8) => Eh c v.1 v.2.1 v.2.2.1 v.2.2.2.1 v.2.2.2.2.1 v.2.2.2.2.2.1 v.2.2.2.2.2.2) (0, 0, a.In, a.Escape, a.Bad, [], d)).bind fun (e, f, g, i, j, k) =>
  some (e, f, g, i, j, k) : Option (Int × Bool × Bool × Bool × List (List UInt8) × List UInt8)).bind fun (l, m, n, o, p, q) =>
  some (({ Rest := q, In := m, Escape := n, Bad := o } : Api_Deframer), p, l)
 else none
def Bu (g : List UInt8) (b : Int) (e : Int) (c : Bool) (i : Bool) (f : Bool) (a : List (List UInt8)) (d : List UInt8) : Option ((Int × Int × Bool × Bool × Bool × List (List UInt8) × List UInt8) ⊕ (Int × Bool × Bool × Bool × List (List UInt8) × List UInt8)) :=
 if (decide (e < (g.length : Int))) = true then
  (if InR e g.length then
   (if (nth g e.toNat == (126 : UInt8)) = true then
    ((if c = true then
     if (decide ((d.length : Int) > 0)) = true then
      some true
     else
      if i = true then
       some true
      else
       some f
    else
     some false : Option (Bool)).bind fun k =>
    if k = true then
     (D2 ({ Rest := d, In := c, Escape := i, Bad := f } : Api_Deframer)).bind fun j =>
     if j.2 = true then
      if Eg (a.length + 1) 24 then
       lt1 (a ++ ([j.1] : List (List UInt8))) fun (l : List (List UInt8)) =>
       some (b, l)
      else none
     else
      some ((w64 (b + 1)), a)
    else
     some (b, a) : Option (Int × List (List UInt8))).bind fun (m, n) =>
    (some (m, true, false, false, n, [])).bind fun o => some (.inr o)
   else
    (if (!c) = true then
     some true
    else
     some f : Option (Bool)).bind fun p =>
    if p = true then
     (some (b, c, i, f, a, d)).bind fun q => some (.inr q)
    else
     (if (nth g e.toNat == (125 : UInt8)) = true then
      some (!i)
     else
      some false : Option (Bool)).bind fun s =>
     if s = true then
      (some (b, c, true, f, a, d)).bind fun t => some (.inr t)
     else
      if i = true then
       lt1 (nth g e.toNat ^^^ (32 : UInt8)) fun (u : UInt8) =>
       some (.inl u)
      else
       some (.inl (nth g e.toNat)) : Option ((UInt8) ⊕ (Int × Bool × Bool × Bool × List (List UInt8) × List UInt8))).bind fun x => match x with
   | .inl v =>
    if (decide ((d.length : Int) ≥ 8196)) = true then
     some (b, c, false, true, a, [])
    else
     if Eg (d.length + 1) 1 then
      lt1 (d ++ ([v] : List UInt8)) fun (w : List UInt8) =>
      some (b, c, false, f, a, w)
     else none
   | .inr z => some z
  else none : Option (Int × Bool × Bool × Bool × List (List UInt8) × List UInt8)).bind fun (y, aa, ab, ac, ad, ae) =>
  some (.inl (y, (w64 (e + 1)), aa, ab, ac, ad, ae))
 else
  some (.inr (b, c, i, f, a, d))
def B7 (a : Api_Deframer) (c : List UInt8) : Option (Api_Deframer × List (List UInt8) × Int) :=
 if Mk (a.Rest.length : Int) (a.Rest.length : Int) 1 then
  lt1 (List.replicate ((a.Rest.length : Int).toNat) (0 : UInt8)) fun (b : List UInt8) =>
  lt1 (ovl b (a.Rest.take (min a.Rest.length b.length)) 0) fun (d : List UInt8) =>
  ((C4 (fun (v : Int × Int × Bool × Bool × Bool × List (List UInt8) × List UInt8) => Bu c v.1 v.2.1 v.2.2.1 v.2.2.2.1 v.2.2.2.2.1 v.2.2.2.2.2.1 v.2.2.2.2.2.2) (0, 0, a.In, a.Escape, a.Bad, [], d)).bind fun (e, f, g, i, j, k) =>
  some (e, f, g, i, j, k) : Option (Int × Bool × Bool × Bool × List (List UInt8) × List UInt8)).bind fun (l, m, n, o, p, q) =>
  some (({ Rest := q, In := m, Escape := n, Bad := o } : Api_Deframer), p, l)
 else none
def Il (a : Api_Place) : Option (Bool) :=
 (if (decide (a.Kind < 1)) = true then
  some true
 else
  if (decide (a.Kind > 5)) = true then
   some true
  else
   if (decide (a.Railway < 0)) = true then
    some true
   else
    some (decide (a.Railway ≥ 16)) : Option (Bool)).bind fun b =>
 if b = true then
  some false
 else
  if (a.Kind != 3) = true then
   some (a.Other == (-1))
  else
   (if (decide (a.Other ≥ 0)) = true then
    if (decide (a.Other < 16)) = true then
     some (a.Other != a.Railway)
    else
     some false
   else
    some false : Option (Bool)).bind fun c =>
   some c
def F3 (b : Api_Network) (a : Int) : Option ((Int) ⊕ ((Unit) ⊕ ((Unit) ⊕ (Int)))) :=
 if (decide (a < (b.Places.length : Int))) = true then
  if InR a b.Places.length then
   lt1 ((nth b.Places a.toNat).Kind) fun (c : Int) =>
   lt1 ((nth b.Places a.toNat).Railway) fun (d : Int) =>
   lt1 ((nth b.Places a.toNat).Other) fun (e : Int) =>
   (Il ({ Kind := c, Railway := d, Other := e } : Api_Place)).bind fun f =>
   if (!f) = true then
    ((some 1).bind fun g => some (.inr g)).bind fun i => some (.inr (.inr i))
   else
    some (.inl (w64 (a + 1)))
  else none
 else
  some (.inr (.inl ()))
def F6 (b : Api_Network) (i : Int) (a : Int) : Option ((Int) ⊕ ((Unit) ⊕ ((Unit) ⊕ (Int)))) :=
 if (decide (a < (b.Edges.length : Int))) = true then
  if InR a b.Edges.length then
   lt1 ((nth b.Edges a.toNat).A) fun (c : Int) =>
   lt1 ((nth b.Edges a.toNat).B) fun (d : Int) =>
   lt1 ((nth b.Edges a.toNat).Railway) fun (e : Int) =>
   lt1 ((nth b.Edges a.toNat).Minutes) fun (f : Int) =>
   lt1 ((nth b.Edges a.toNat).Km) fun (g : Int) =>
   (if (decide ((V5 (V5 (V5 c d) e) g) < 0)) = true then
    some true
   else
    if (decide ((AbE c d) ≥ i)) = true then
     some true
    else
     if (c == d) = true then
      some true
     else
      if (decide (e ≥ 16)) = true then
       some true
      else
       if (decide (f < 1)) = true then
        some true
       else
        if (decide (f > 100000)) = true then
         some true
        else
         some (decide (g > 10000)) : Option (Bool)).bind fun j =>
   if j = true then
    ((some 1).bind fun k => some (.inr k)).bind fun l => some (.inr (.inr l))
   else
    some (.inl (w64 (a + 1)))
  else none
 else
  some (.inr (.inl ()))
def Ic (a : Api_Network) : Option (Int) :=
 lt1 (a.Places.length : Int) fun (b : Int) =>
 (if (decide (b > 512)) = true then
  some true
 else
  some (decide ((a.Edges.length : Int) > 2048)) : Option (Bool)).bind fun c =>
 if c = true then
  some 2
 else
  ((C4 (fun (v : Int) => F3 a v) 0).bind fun x => match x with
  | .inl () =>
   some (.inl ())
  | .inr z => some z : Option ((Unit) ⊕ (Int))).bind fun x => match x with
  | .inl () =>
   ((C4 (fun (v : Int) => F6 a b v) 0).bind fun x => match x with
   | .inl () =>
    some (.inl ())
   | .inr z => some z : Option ((Unit) ⊕ (Int))).bind fun x => match x with
   | .inl () =>
    some 0
   | .inr z => some z
  | .inr z => some z
def Gb (a : Int) (b : Int) (c : Int) : Option (Bool) :=
 (if (decide (a ≥ b)) = true then
  some (decide (a ≤ c))
 else
  some false : Option (Bool)).bind fun d =>
 some d
def K1 (f : Api_Fleet) : Option Int := if f.Types.length = 0 ∧ f.Wagons.length = 0 ∧ f.Swaps.length = 0 ∧ f.Washes.length = 0 then some 0 else none
def E3 (a : Api_Pool) (c : Bool) (b : Int) : Option ((Bool × Int) ⊕ (Bool)) :=
 if (decide (b < (a.Readers.length : Int))) = true then
  if InR b a.Readers.length then
   lt1 ((nth a.Readers b.toNat).Place) fun (f : Int) =>
   lt1 ((nth a.Readers b.toNat).Low) fun (d : Int) =>
   lt1 ((nth a.Readers b.toNat).High) fun (e : Int) =>
   (if c = true then
    some true
   else
    (Gb f 0 (w64 ((a.Network.Places.length : Int) - 1))).bind fun g =>
    if (!g) = true then
     some true
    else
     if (decide (d < (-1000))) = true then
      some true
     else
      if (decide (d > e)) = true then
       some true
      else
       some (decide (e > 1000)) : Option (Bool)).bind fun i =>
   some (.inl (i, (w64 (b + 1))))
  else none
 else
  some (.inr c)
def E6 (a : Api_Pool) (d : Bool) (b : Int) : Option ((Bool × Int) ⊕ (Bool)) :=
 if (decide (b < (a.Shippers.length : Int))) = true then
  if InR b a.Shippers.length then
   lt1 ((nth a.Shippers b.toNat).Place) fun (c : Int) =>
   (if d = true then
    some true
   else
    (Gb c 0 (w64 ((a.Network.Places.length : Int) - 1))).bind fun e =>
    if (!e) = true then
     some true
    else
     if InR c a.Network.Places.length then
      some ((nth a.Network.Places c.toNat).Kind != 4)
     else none : Option (Bool)).bind fun f =>
   some (.inl (f, (w64 (b + 1))))
  else none
 else
  some (.inr d)
def E0 (a : Api_Pool) (c : Bool) (b : Int) : Option ((Bool × Int) ⊕ (Bool)) :=
 if (decide (b < (a.Fleet.Wagons.length : Int))) = true then
  if InR b a.Fleet.Wagons.length then
   lt1 ((nth a.Fleet.Wagons b.toNat).Type_) fun (f : Int) =>
   lt1 ((nth a.Fleet.Wagons b.toNat).Owner) fun (g : Int) =>
   lt1 ((nth a.Fleet.Wagons b.toNat).Home) fun (d : Int) =>
   lt1 ((nth a.Fleet.Wagons b.toNat).Built) fun (i : Int) =>
   lt1 ((nth a.Fleet.Wagons b.toNat).Worth) fun (j : Int) =>
   (if c = true then
    some true
   else
    some (decide (d ≥ (a.Network.Places.length : Int))) : Option (Bool)).bind fun e =>
   some (.inl (e, (w64 (b + 1))))
  else none
 else
  some (.inr c)
def E1 (b : Api_Pool) (c : Int) (d : Bool) (a : Int) : Option ((Bool × Int) ⊕ (Bool)) :=
 if (decide (a < (b.Network.Places.length : Int))) = true then
  if InR a b.Network.Places.length then
   lt1 ((nth b.Network.Places a.toNat).Kind) fun (i : Int) =>
   lt1 ((nth b.Network.Places a.toNat).Railway) fun (e : Int) =>
   lt1 ((nth b.Network.Places a.toNat).Other) fun (f : Int) =>
   (if d = true then
    some true
   else
    if (decide (e ≥ c)) = true then
     some true
    else
     some (decide (f ≥ c)) : Option (Bool)).bind fun g =>
   some (.inl (g, (w64 (a + 1))))
  else none
 else
  some (.inr d)
def Ew (b : Api_Pool) (d : Int) (c : Bool) (a : Int) : Option ((Bool × Int) ⊕ (Bool)) :=
 if (decide (a < (b.Network.Edges.length : Int))) = true then
  if InR a b.Network.Edges.length then
   lt1 ((nth b.Network.Edges a.toNat).A) fun (g : Int) =>
   lt1 ((nth b.Network.Edges a.toNat).B) fun (i : Int) =>
   lt1 ((nth b.Network.Edges a.toNat).Railway) fun (e : Int) =>
   lt1 ((nth b.Network.Edges a.toNat).Minutes) fun (j : Int) =>
   lt1 ((nth b.Network.Edges a.toNat).Km) fun (k : Int) =>
   (if c = true then
    some true
   else
    some (decide (e ≥ d)) : Option (Bool)).bind fun f =>
   some (.inl (f, (w64 (a + 1))))
  else none
 else
  some (.inr c)
def E5 (a : Api_Pool) : Option ((Unit) ⊕ (Unit)) :=
 if (decide (0 < (a.Railways.length : Int))) = true then
  if InR 0 a.Railways.length then
   lt1 ((nth a.Railways 0).Key) fun (b : UInt64) =>
   lt1 (((((nth a.Railways 0).Calendar).Open).1).From) fun (c : Int) =>
   lt1 (((((nth a.Railways 0).Calendar).Open).1).To) fun (d : Int) =>
   lt1 (((((nth a.Railways 0).Calendar).Open).2.1).From) fun (e : Int) =>
   lt1 (((((nth a.Railways 0).Calendar).Open).2.1).To) fun (f : Int) =>
   lt1 (((((nth a.Railways 0).Calendar).Open).2.2.1).From) fun (g : Int) =>
   lt1 (((((nth a.Railways 0).Calendar).Open).2.2.1).To) fun (i : Int) =>
   lt1 (((((nth a.Railways 0).Calendar).Open).2.2.2.1).From) fun (j : Int) =>
   lt1 (((((nth a.Railways 0).Calendar).Open).2.2.2.1).To) fun (k : Int) =>
   lt1 (((((nth a.Railways 0).Calendar).Open).2.2.2.2.1).From) fun (l : Int) =>
   lt1 (((((nth a.Railways 0).Calendar).Open).2.2.2.2.1).To) fun (m : Int) =>
   lt1 (((((nth a.Railways 0).Calendar).Open).2.2.2.2.2.1).From) fun (n : Int) =>
   lt1 (((((nth a.Railways 0).Calendar).Open).2.2.2.2.2.1).To) fun (o : Int) =>
   lt1 (((((nth a.Railways 0).Calendar).Open).2.2.2.2.2.2).From) fun (p : Int) =>
   lt1 (((((nth a.Railways 0).Calendar).Open).2.2.2.2.2.2).To) fun (q : Int) =>
   lt1 (((nth a.Railways 0).Calendar).Holidays) fun (s : List Int) =>
   none
  else none
 else
  some (.inr ())
def G5 (a : Api_Pool) : Option (Int) :=
 (Ic a.Network).bind fun c =>
 if (c != 0) = true then
  some c
 else
  (K1 a.Fleet).bind fun d =>
  if (d != 0) = true then
   some d
  else
   (if (decide ((a.Readers.length : Int) > 256)) = true then
    some true
   else
    if (decide ((a.Shippers.length : Int) > 256)) = true then
     some true
    else
     some (decide ((a.Railways.length : Int) > 16)) : Option (Bool)).bind fun e =>
   if e = true then
    some 2
   else
    lt1 (a.Railways.length : Int) fun (b : Int) =>
    ((C4 (fun (v : Bool × Int) => E3 a v.1 v.2) ((b == 0), 0)).bind fun f =>
    some f : Option (Bool)).bind fun g =>
    ((C4 (fun (v : Bool × Int) => E6 a v.1 v.2) (g, 0)).bind fun i =>
    some i : Option (Bool)).bind fun j =>
    ((C4 (fun (v : Bool × Int) => E0 a v.1 v.2) (j, 0)).bind fun k =>
    some k : Option (Bool)).bind fun l =>
    ((C4 (fun (v : Bool × Int) => E1 a b v.1 v.2) (l, 0)).bind fun m =>
    some m : Option (Bool)).bind fun n =>
    ((C4 (fun (v : Bool × Int) => Ew a b v.1 v.2) (n, 0)).bind fun o =>
    some o : Option (Bool)).bind fun p =>
    ((C4 (fun (_ : Unit) => E5 a ) ()).bind fun () =>
    some () : Option (Unit)).bind fun () =>
    if p = true then
     some 1
    else
     some 0
def Pp (a : Api_Pool) (c : Api_Item) : Option (Int) :=
 (G5 ({ Network := a.Network, Fleet := a.Fleet, Readers := a.Readers, Shippers := a.Shippers, Railways := a.Railways } : Api_Pool)).bind fun b =>
 if (b != 0) = true then
  some b
 else
  none
def D3 (a : Api_Item) (b : List UInt8) : Option (Bool) :=
 (Cu a).bind fun c =>
 (Es b).bind fun d =>
 (if (c.2 == 0) = true then
  if (c.1 == b) = true then
   if (d.2 == 0) = true then
    (Ga d.1 a).bind fun e =>
    some e
   else
    some false
  else
   some false
 else
  some false : Option (Bool)).bind fun f =>
 some f
def Ca (b : List UInt8) : Option (Bool) :=
 (Es b).bind fun a =>
 (if (a.2 == 4) = true then
  (Ga a.1 ({ Kind := 0, Ref := ({ Railway := 0, No := 0 } : Api_Ref), Wagon := 0, Place := 0, Other := 0, Number := 0, From := 0, To := 0, Code := 0, Dest := 0, Class := 0, Weight := 0, Amount := 0, Text := ([] : List UInt8), Parts := [] } : Api_Item)).bind fun c =>
  some c
 else
  some false : Option (Bool)).bind fun d =>
 some d
def law11_sane  : Option (Bool) :=
 lt1 ([({ Kind := 1, Serial := 5, Fitted := false } : Api_Part), ({ Kind := 0, Serial := (-2), Fitted := true } : Api_Part)] : List Api_Part) fun (a : List Api_Part) =>
 ((D3 ({ Kind := 1, Ref := ({ Railway := 0, No := 0 } : Api_Ref), Wagon := 12, Place := 0, Other := 3, Number := 0, From := 100, To := 0, Code := 0, Dest := 0, Class := 0, Weight := 0, Amount := 0, Text := ([] : List UInt8), Parts := [] } : Api_Item) ([82, 69, 65, 68, 43, 119, 49, 50, 43, 111, 51, 43, 102, 49, 48, 48, 39] : List UInt8)).bind fun c =>
 if c = true then
  (D3 ({ Kind := 14, Ref := ({ Railway := 2, No := 7 } : Api_Ref), Wagon := 0, Place := 0, Other := 0, Number := 0, From := 0, To := 0, Code := 0, Dest := 0, Class := 0, Weight := 0, Amount := 0, Text := ([] : List UInt8), Parts := [] } : Api_Item) ([82, 69, 84, 82, 65, 67, 84, 43, 114, 50, 46, 55, 39] : List UInt8)).bind fun d =>
  if d = true then
   (D3 ({ Kind := 11, Ref := ({ Railway := 0, No := 0 } : Api_Ref), Wagon := 0, Place := 0, Other := 0, Number := 1, From := 0, To := 0, Code := 0, Dest := 0, Class := 0, Weight := 0, Amount := 0, Text := ([97, 43, 98, 10] : List UInt8), Parts := [] } : Api_Item) ([84, 65, 82, 73, 70, 70, 43, 110, 49, 43, 120, 97, 63, 50, 98, 98, 63, 48, 97, 39] : List UInt8)).bind fun e =>
   if e = true then
    (D3 ({ Kind := 10, Ref := ({ Railway := 0, No := 0 } : Api_Ref), Wagon := 0, Place := 0, Other := 0, Number := 0, From := 0, To := 0, Code := 0, Dest := 0, Class := 0, Weight := 0, Amount := 0, Text := ([] : List UInt8), Parts := a } : Api_Item) ([82, 69, 67, 65, 76, 76, 43, 113, 49, 46, 53, 46, 48, 43, 113, 48, 46, 45, 50, 46, 49, 39] : List UInt8)).bind fun f =>
    some f
   else
    some false
  else
   some false
 else
  some false : Option (Bool)).bind fun g =>
 (Cu ({ Kind := 16, Ref := ({ Railway := 0, No := 0 } : Api_Ref), Wagon := 0, Place := 0, Other := 0, Number := 0, From := 0, To := 0, Code := 0, Dest := 0, Class := 0, Weight := 0, Amount := 0, Text := ([] : List UInt8), Parts := [] } : Api_Item)).bind fun i =>
 (Gi (Api_Value.mk 1 1 ([]) ([]))).bind fun j =>
 ((Ca ([82, 69, 65, 68, 43, 119, 48, 49, 50, 39] : List UInt8)).bind fun k =>
 if k = true then
  (Ca ([82, 69, 65, 68, 43, 119, 48, 39] : List UInt8)).bind fun l =>
  if l = true then
   (Ca ([82, 69, 65, 68, 43, 111, 51, 43, 119, 49, 50, 39] : List UInt8)).bind fun m =>
   if m = true then
    (Ca ([82, 69, 65, 68, 43, 119, 49, 50] : List UInt8)).bind fun n =>
    if n = true then
     (Ca ([82, 69, 65, 68, 43, 119, 49, 50, 39, 32] : List UInt8)).bind fun o =>
     if o = true then
      (Ca ([84, 65, 82, 73, 70, 70, 43, 120, 63, 52, 49, 39] : List UInt8)).bind fun p =>
      if p = true then
       (Ca ([] : List UInt8)).bind fun q =>
       some q
      else
       some false
     else
      some false
    else
     some false
   else
    some false
  else
   some false
 else
  some false : Option (Bool)).bind fun s =>
 (Lv ({ Kind := 10, Ref := ({ Railway := 0, No := 0 } : Api_Ref), Wagon := 0, Place := 0, Other := 0, Number := 0, From := 0, To := 0, Code := 0, Dest := 0, Class := 0, Weight := 0, Amount := 0, Text := ([] : List UInt8), Parts := a } : Api_Item)).bind fun t =>
 (Gi t).bind fun b =>
 (if g = true then
  if (i.2 == 110) = true then
   if (j.2 == 10) = true then
    if s = true then
     if (b.2 == 0) = true then
      (Ga b.1 ({ Kind := 10, Ref := ({ Railway := 0, No := 0 } : Api_Ref), Wagon := 0, Place := 0, Other := 0, Number := 0, From := 0, To := 0, Code := 0, Dest := 0, Class := 0, Weight := 0, Amount := 0, Text := ([] : List UInt8), Parts := a } : Api_Item)).bind fun u =>
      if u = true then
       (Pp ({ Network := ({ Places := [], Edges := [] } : Api_Network), Fleet := ({ Types := [], Wagons := [], Swaps := [], Washes := [] } : Api_Fleet), Readers := [], Shippers := [], Railways := [] } : Api_Pool) ({ Kind := 10, Ref := ({ Railway := 0, No := 0 } : Api_Ref), Wagon := 0, Place := 0, Other := 0, Number := 0, From := 0, To := 0, Code := 0, Dest := 0, Class := 0, Weight := 0, Amount := 0, Text := ([] : List UInt8), Parts := a } : Api_Item)).bind fun v =>
       some (v != 0)
      else
       some false
     else
      some false
    else
     some false
   else
    some false
  else
   some false
 else
  some false : Option (Bool)).bind fun w =>
 some w
def Dq (c : Api_Item) (j : Int) : Option (Bool) :=
 law11_sane.bind fun k =>
 if (!k) = true then
  some false
 else
  ((Gy c).bind fun l =>
  if (!l) = true then
   some true
  else
   if (decide (c.Kind < 1)) = true then
    some true
   else
    some (decide (c.Kind > 15)) : Option (Bool)).bind fun m =>
  if m = true then
   some true
  else
   (Cu c).bind fun g =>
   (Hz g.1).bind fun a =>
   (if (g.2 != 0) = true then
    some true
   else
    some (a.2 != 0) : Option (Bool)).bind fun n =>
   if n = true then
    some false
   else
    lt1 (AbE 0 (V5 j (a.1.length : Int))) fun (d : Int) =>
    if InB d a.1.length then
     (Cv ({ Rest := [], In := false, Escape := false, Bad := false } : Api_Deframer) (a.1.take d.toNat)).bind fun b =>
     lt1 b.1.Rest fun (o : List UInt8) =>
     lt1 b.2.1 fun (f : List (List UInt8)) =>
     if InB d a.1.length then
      (B7 ({ Rest := o, In := b.1.In, Escape := b.1.Escape, Bad := b.1.Bad } : Api_Deframer) ((a.1.drop d.toNat).take (a.1.length - d.toNat))).bind fun e =>
      (if ((w64 ((f.length : Int) + (e.2.1.length : Int))) != 1) = true then
       some true
      else
       if (b.2.2 != 0) = true then
        some true
       else
        some (e.2.2 != 0) : Option (Bool)).bind fun p =>
      if p = true then
       some false
      else
       if Eg (f.length + e.2.1.length) 24 then
        if InR 0 ((f ++ e.2.1).length) then
         lt1 (nth (f ++ e.2.1) 0) fun (q : List UInt8) =>
         (Es q).bind fun i =>
         (if (i.2 == 0) = true then
          (Ga i.1 c).bind fun s =>
          some s
         else
          some false : Option (Bool)).bind fun t =>
         some t
        else none
       else none
     else none
    else none
set_option maxRecDepth 100000
theorem Qi : ∀ (k u : Nat), u < 10 ^ (k + 1) → Lib.nDigits u ≤ k + 1
  | 0, u, h => by rw [Lib.nDigits_small (by simpa using h)]; exact Nat.le_refl _
  | k + 1, u, h => by
    by_cases hu : u < 10
    · rw [Lib.nDigits_small hu]; omega
    · rw [Lib.nDigits_big hu]
      have := Qi k (u / 10) (by rw [Nat.pow_succ] at h; omega)
      omega
theorem Q7 {u : Nat} (h : u < 10 ^ 20) : (Lib.decDigits u).length ≤ 20 := by rw [Lib.decDigits_length]; exact Qi 19 u h
theorem Ff {d : Nat} (h : d < 10) : (UInt8.ofNat (48 + d)).toNat = 48 + d := by
  rw [UInt8.toNat_ofNat']; omega
theorem Tq : ∀ (u acc : Nat) (r : List UInt8), acc * 10 ^ Lib.nDigits u + u < 18446744073709551616 → Lib.parseUint10 acc (Lib.decDigits u ++ r) = Lib.parseUint10 (acc * 10 ^ Lib.nDigits u + u) r := by
  intro u
  induction u using Nat.strongRecOn with
  | ind u ih =>
    intro acc r h
    by_cases hu : u < 10
    · rw [Lib.decDigits, dif_pos hu, List.singleton_append, Lib.parseUint10, Lib.nDigits_small hu]
      rw [Lib.nDigits_small hu] at h
      simp only [Nat.pow_one] at h ⊢
      rw [Ff hu, if_pos (by omega), if_neg (by omega), if_neg (by omega)]
      congr 1
      omega
    · rw [Lib.decDigits, dif_neg hu, List.append_assoc]
      rw [Lib.nDigits_big hu] at h ⊢
      have hd : u % 10 < 10 := Nat.mod_lt _ (by omega)
      have hm : acc * 10 ^ (Lib.nDigits (u / 10) + 1) = acc * 10 ^ Lib.nDigits (u / 10) * 10 := by rw [Nat.pow_succ, Nat.mul_assoc]
      rw [hm] at h ⊢
      rw [ih (u / 10) (by omega) acc _ (by omega), List.singleton_append, Lib.parseUint10, Ff hd, if_pos (by omega), if_neg (by omega), if_neg (by omega)]
      congr 1
      omega
theorem U8 {u : Nat} (h : u < 18446744073709551616) : Lib.parseUint10 0 (Lib.decDigits u) = .ok u := by
  have := Tq u 0 [] (by omega)
  simpa [Lib.parseUint10] using this
theorem Y5 : ∀ (u : Nat), ∃ c r, Lib.decDigits u = c :: r ∧ 48 ≤ c.toNat ∧ c.toNat ≤ 57 := by
  intro u
  induction u using Nat.strongRecOn with
  | ind u ih =>
    by_cases hu : u < 10
    · rw [Lib.decDigits, dif_pos hu]
      exact ⟨_, [], rfl, by rw [Ff hu]; omega, by rw [Ff hu]; omega⟩
    · rw [Lib.decDigits, dif_neg hu]
      obtain ⟨c, r, h1, h2, h3⟩ := ih (u / 10) (by omega)
      exact ⟨c, r ++ _, by rw [h1]; rfl, h2, h3⟩
theorem AdI : ∀ (u : Nat), ∀ c ∈ Lib.decDigits u, 48 ≤ c.toNat ∧ c.toNat ≤ 57 := by
  intro u
  induction u using Nat.strongRecOn with
  | ind u ih =>
    by_cases hu : u < 10
    · rw [Lib.decDigits, dif_pos hu]
      intro c hc
      simp only [List.mem_singleton] at hc
      subst hc
      rw [Ff hu]; omega
    · rw [Lib.decDigits, dif_neg hu]
      intro c hc
      rcases List.mem_append.1 hc with hc | hc
      · exact ih (u / 10) (by omega) c hc
      · simp only [List.mem_singleton] at hc
        subst hc
        have hd : u % 10 < 10 := Nat.mod_lt _ (by omega)
        rw [Ff hd]; omega
theorem Jt {n : Int} (h1 : -9223372036854775808 ≤ n) (h2 : n ≤ 9223372036854775807) : Lib.atoiAll (Lib.itoa n) = .ok n := by
  unfold Lib.itoa
  split
  · rename_i hn
    obtain ⟨c, r, e, q1, q2⟩ := Y5 n.natAbs
    have hp : Lib.parseMag (Lib.decDigits n.natAbs) = .ok n.natAbs := by
      unfold Lib.parseMag
      rw [if_neg (by rw [e]; simp), U8 (by omega)]
    unfold Lib.atoiAll
    have h45 : (45 : UInt8).toNat = 45 := rfl
    simp only [h45, or_true, if_true, hp]
    rw [if_neg (by simp), if_neg (by omega)]
    congr 1
    omega
  · rename_i hn
    obtain ⟨c, r, e, q1, q2⟩ := Y5 n.toNat
    have hp : Lib.parseMag (Lib.decDigits n.toNat) = .ok n.toNat := by
      unfold Lib.parseMag
      rw [if_neg (by rw [e]; simp), U8 (by omega)]
    rw [e] at hp ⊢
    unfold Lib.atoiAll
    simp only
    rw [if_neg (by omega), hp]
    simp only
    rw [if_neg (by omega), if_neg (by omega), if_neg (by omega)]
    congr 1
    omega
theorem Dm {n : Int} (h1 : -9223372036854775808 ≤ n) (h2 : n ≤ 9223372036854775807) : (Lib.itoa n).length ≤ 21 := by
  unfold Lib.itoa
  split
  · have := Q7 (u := n.natAbs) (by omega)
    simp; omega
  · have := Q7 (u := n.toNat) (by omega)
    omega
theorem AbI {n : Nat} (h : n ≤ 1000000) : Eg n 1 := ⟨Nat.le_trans h (by decide), by rw [Nat.mul_one]; exact Nat.le_trans h (by decide)⟩
theorem Bq {l : List UInt8} {c : UInt8} (h : l.length ≤ 900000) : Aj { addr := (), buf := l } c = some (false, { addr := (), buf := l ++ [c] }) := by
  unfold Aj
  simp only [lt1]
  rw [if_pos (AbI (by omega))]
theorem Hs {l s : List UInt8} (h : l.length + s.length ≤ 900000) : A5 { addr := (), buf := l } s = some ((s.length : Int), false, { addr := (), buf := l ++ s }) := by
  unfold A5
  simp only [lt1]
  rw [if_pos (AbI (by omega))]
def Adm : List UInt8 := [48, 49, 50, 51, 52, 53, 54, 55, 56, 57, 97, 98, 99, 100, 101, 102]
def Af6 (c : UInt8) : Bool := decide (c < 32) || decide (c > 126) || c == 43 || c == 39 || c == 63
def Yt (c : UInt8) : List UInt8 := if Af6 c then [63, nth Adm (c.toNat / 16), nth Adm (c.toNat % 16)] else [c]
def esc (t : List UInt8) : List UInt8 := t.flatMap Yt
theorem Ad6 (c : UInt8) : (Yt c).length ≤ 3 := by unfold Yt; split <;> simp
theorem Ow (t : List UInt8) : (esc t).length ≤ 3 * t.length := by
  induction t with
  | nil => simp [esc]
  | cons c t ih =>
    have := Ad6 c
    simp only [esc, List.flatMap_cons, List.length_append, List.length_cons] at ih ⊢
    omega
theorem Zb (t : List UInt8) (k : Nat) (hk : k < t.length) : esc (t.take (k + 1)) = esc (t.take k) ++ Yt (nth t k) := by
  have h : t.take (k + 1) = t.take k ++ [nth t k] := by
    rw [List.take_add_one, List.getElem?_eq_getElem hk]
    simp [nth, List.getElem?_eq_getElem hk]
  rw [h]
  simp [esc]
theorem Qs {p : UInt8 → Prop} (h : ∀ n : Fin 256, p (UInt8.ofNat n.val)) (c : UInt8) : p c := by
  have := h ⟨c.toNat, c.toNat_lt⟩
  simpa using this
theorem AfR (c : UInt8) : (Af4 c ((4 : UInt64)).toNat).toNat = c.toNat / 16 := Qs (p := fun c => (Af4 c ((4 : UInt64)).toNat).toNat = c.toNat / 16) (by decide +kernel) c
theorem Af8 (c : UInt8) : (c &&& 15).toNat = c.toNat % 16 := Qs (p := fun c => (c &&& 15).toNat = c.toNat % 16) (by decide +kernel) c
theorem Gt {k : Nat} (h : k + 1 < 9223372036854775807) : w64 ((k : Int) + 1) = ((k + 1 : Nat) : Int) := by rw [Fc (by omega)]; omega
theorem AbZ (c : UInt8) : (if (decide (c < (32 : UInt8))) = true then some true else if (decide (c > (126 : UInt8))) = true then some true else if (c == (43 : UInt8)) = true then some true else if (c == (39 : UInt8)) = true then some true else some (c == (63 : UInt8)) : Option Bool) = some (Af6 c) := by
  unfold Af6
  cases decide (c < (32 : UInt8)) <;> cases decide (c > (126 : UInt8)) <;> cases (c == (43 : UInt8)) <;> cases (c == (39 : UInt8)) <;> simp
theorem Adk {l t : List UInt8} (h : l.length + 3 * t.length ≤ 800000) : Gn { addr := (), buf := l } t = some { addr := (), buf := l ++ esc t } := by
  unfold Gn
  obtain ⟨x, hx, rfl⟩ := Gu (f := fun (v : Int × List UInt8) => Dw t v.1 v.2) t.length (fun k v => v = ((k : Int), l ++ esc (t.take k))) (fun x => x = l ++ esc t) (by omega) (by
      rintro k v hk rfl
      refine ⟨_, ?_, rfl⟩
      have hl : (l ++ esc (t.take k)).length ≤ 800000 := by
        have := Ow (t.take k)
        simp only [List.length_append, List.length_take] at this ⊢
        omega
      have hin : InR (k : Int) t.length := ⟨by omega, by simpa using hk⟩
      have h1 : InR ((Af4 (nth t k) ((4 : UInt64)).toNat).toNat : Int) 16 := ⟨by omega, by have := (nth t k).toNat_lt; rw [AfR]; simp; omega⟩
      have h2 : InR (((nth t k) &&& 15).toNat : Int) 16 := ⟨by omega, by rw [Af8]; simp; omega⟩
      unfold Dw
      rw [if_pos (decide_eq_true (by omega)), if_pos hin, Gt (by omega), Zb t k hk]
      simp only [Int.toNat_natCast]
      rw [AbZ, Option.bind_some]
      rw [← List.append_assoc]
      generalize l ++ esc (t.take k) = b at hl ⊢
      cases hb : Af6 (nth t k) with
      | false =>
        simp only [Bool.false_eq_true, if_false, Option.bind_some, lt1]
        rw [Bq (by omega), Option.bind_some]
        simp [Yt, hb]
      | true =>
        simp only [if_true, lt1, List.length_cons, List.length_nil, Nat.zero_add, Nat.reduceAdd]
        rw [Bq (by omega), Option.bind_some, if_pos h1, Bq (by simp; omega), Option.bind_some, if_pos h2, Option.bind_some]
        simp only
        rw [Bq (by simp; omega), Option.bind_some, AfR, Af8]
        simp [Yt, hb, Adm]) (by
      rintro v rfl
      refine ⟨_, ?_, rfl⟩
      unfold Dw
      rw [if_neg (by simp)]
      simp) (v0 := (0, l)) (by simp [esc])
  rw [hx]; rfl
theorem Aih {n : Int} (h1 : -9223372036854775808 ≤ n) (h2 : n ≤ 9223372036854775807) : strconv_Itoa n = some (Lib.itoa n) := by
  unfold strconv_Itoa Ahz
  rw [if_pos (by omega)]
def num (c : UInt8) (n : Int) : List UInt8 := if n = 0 then [] else 43 :: c :: Lib.itoa n
def Jb (x : Api_Part) : List UInt8 := [43, 113] ++ Lib.itoa x.Kind ++ [46] ++ Lib.itoa x.Serial ++ (if x.Fitted then [46, 49] else [46, 48])
def AdV (r : Api_Ref) : List UInt8 := if r.Railway = 0 ∧ r.No = 0 then [] else [43, 114] ++ Lib.itoa r.Railway ++ [46] ++ Lib.itoa r.No
def W1 (it : Api_Item) : List UInt8 := num 119 it.Wagon ++ num 112 it.Place ++ num 111 it.Other ++ num 110 it.Number ++ num 102 it.From ++ num 116 it.To ++ num 99 it.Code ++ num 100 it.Dest ++ num 107 it.Class ++ num 103 it.Weight ++ num 97 it.Amount
def V4 (t : List UInt8) : List UInt8 := if t = [] then [] else [43, 120] ++ esc t
def Wy (it : Api_Item) : List UInt8 := glob0.get it.Kind.toNat ++ AdV it.Ref ++ W1 it ++ V4 it.Text ++ it.Parts.flatMap Jb
def msg (it : Api_Item) : List UInt8 := Wy it ++ [39]
def I64 (n : Int) : Prop := -9223372036854775808 ≤ n ∧ n ≤ 9223372036854775807
structure OkItem (it : Api_Item) : Prop where
  kind : I64 it.Kind
  ref : I64 it.Ref.Railway ∧ I64 it.Ref.No
  nums : I64 it.Wagon ∧ I64 it.Place ∧ I64 it.Other ∧ I64 it.Number ∧ I64 it.From ∧ I64 it.To ∧ I64 it.Code ∧ I64 it.Dest ∧ I64 it.Class ∧ I64 it.Weight ∧ I64 it.Amount
  text : it.Text.length ≤ 70000
  parts : it.Parts.length ≤ 2000
  part : ∀ x ∈ it.Parts, I64 x.Kind ∧ I64 x.Serial
theorem AcX {l : List UInt8} {n : Int} (hl : l.length ≤ 800000) (h : I64 n) : Ay n { addr := (), buf := l } = some { addr := (), buf := l ++ Lib.itoa n } := by
  have := Dm h.1 h.2
  unfold Ay
  rw [Aih h.1 h.2, Option.bind_some]
  simp only
  rw [Hs (by omega), Option.bind_some]
  rfl
theorem Afe {l : List UInt8} {c : UInt8} (hl : l.length ≤ 800000) : A0 c { addr := (), buf := l } = some { addr := (), buf := l ++ [43, c] } := by
  unfold A0
  simp only [lt1]
  rw [Bq (by omega), Option.bind_some]
  rw [Bq (by simp; omega), Option.bind_some]
  simp
theorem Et {l : List UInt8} {c : UInt8} {n : Int} (hl : l.length ≤ 700000) (h : I64 n) :
    (if (n != 0) = true then (A0 c { addr := (), buf := l }).bind fun y => (Ay n { addr := (), buf := y.buf }).bind fun y2 => some y2.buf else some l : Option (List UInt8)) = some (l ++ num c n) := by
  unfold num
  by_cases h0 : n = 0
  · subst h0; simp
  · rw [if_pos (by simpa using h0), if_neg h0, Afe (by omega), Option.bind_some]
    simp only
    rw [AcX (by simp; omega) h, Option.bind_some]
    simp
theorem Cp {c : UInt8} {n : Int} (h : I64 n) : (num c n).length ≤ 23 := by
  unfold num
  split
  · simp
  · have := Dm h.1 h.2
    simp; omega
theorem Afc {x : Api_Part} (h : I64 x.Kind ∧ I64 x.Serial) : (Jb x).length ≤ 47 := by
  have h1 := Dm h.1.1 h.1.2
  have h2 := Dm h.2.1 h.2.2
  unfold Jb
  cases x.Fitted <;> simp <;> omega
theorem Lb {l : List Api_Part} (h : ∀ x ∈ l, I64 x.Kind ∧ I64 x.Serial) : (l.flatMap Jb).length ≤ 47 * l.length := by
  induction l with
  | nil => simp
  | cons x l ih =>
    have h1 := Afc (h x (by simp))
    have h2 := ih (fun y hy => h y (by simp [hy]))
    simp only [List.flatMap_cons, List.length_append, List.length_cons]
    omega
theorem Aal (l : List Api_Part) (k : Nat) (hk : k < l.length) : (l.take (k + 1)).flatMap Jb = (l.take k).flatMap Jb ++ Jb (nth l k) := by
  have h : l.take (k + 1) = l.take k ++ [nth l k] := by
    rw [List.take_add_one, List.getElem?_eq_getElem hk]
    simp [nth, List.getElem?_eq_getElem hk]
  rw [h]
  simp
theorem AdS {α : Type} [Inhabited α] {l : List α} {k : Nat} (hk : k < l.length) : nth l k ∈ l := by
  simp [nth, List.getElem?_eq_getElem hk]
theorem Abs {it : Api_Item} (hi : OkItem it) {l : List UInt8} (hl : l.length ≤ 400000) : C4 (fun (v : Int × List UInt8) => Dg it v.1 v.2) (0, l) = some (l ++ it.Parts.flatMap Jb) := by
  obtain ⟨x, hx, rfl⟩ := Gu (f := fun (v : Int × List UInt8) => Dg it v.1 v.2) it.Parts.length (fun k v => v = ((k : Int), l ++ (it.Parts.take k).flatMap Jb)) (fun x => x = l ++ it.Parts.flatMap Jb) (by have := hi.parts; omega) (by
      rintro k v hk rfl
      refine ⟨_, ?_, rfl⟩
      have hp := hi.parts
      have hl2 : (l ++ (it.Parts.take k).flatMap Jb).length ≤ 500000 := by
        have := Lb (l := it.Parts.take k) (fun x hx => hi.part x (List.mem_of_mem_take hx))
        simp only [List.length_append, List.length_take] at this ⊢
        omega
      have hin : InR (k : Int) it.Parts.length := ⟨by omega, by simpa using hk⟩
      obtain ⟨p1, p2⟩ := hi.part _ (AdS hk)
      unfold Dg
      rw [if_pos (decide_eq_true (by omega)), if_pos hin, Gt (by omega), Aal _ k hk, ← List.append_assoc]
      simp only [Int.toNat_natCast, lt1]
      generalize l ++ (it.Parts.take k).flatMap Jb = b at hl2 ⊢
      have q1 := Dm p1.1 p1.2
      have q2 := Dm p2.1 p2.2
      rw [Afe (by omega), Option.bind_some]
      simp only
      rw [AcX (by simp; omega) p1, Option.bind_some]
      simp only
      rw [Bq (by simp; omega), Option.bind_some]
      simp only
      rw [AcX (by simp; omega) p2, Option.bind_some]
      simp only
      have hfl : (if (nth it.Parts k).Fitted = true then [46, 49] else [46, 48] : List UInt8).length = 2 := by split <;> rfl
      rw [Hs (by rw [hfl]; simp; omega), Option.bind_some]
      simp [Jb]) (by
      rintro v rfl
      refine ⟨_, ?_, rfl⟩
      unfold Dg
      rw [if_neg (by simp)]
      simp) (v0 := (0, l)) (by simp)
  exact hx
theorem R8 {it : Api_Item} (hi : OkItem it) : (W1 it).length ≤ 253 := by
  obtain ⟨h1, h2, h3, h4, h5, h6, h7, h8, h9, h10, h11⟩ := hi.nums
  have q1 := Cp (c := 119) h1
  have q2 := Cp (c := 112) h2
  have q3 := Cp (c := 111) h3
  have q4 := Cp (c := 110) h4
  have q5 := Cp (c := 102) h5
  have q6 := Cp (c := 116) h6
  have q7 := Cp (c := 99) h7
  have q8 := Cp (c := 100) h8
  have q9 := Cp (c := 107) h9
  have q10 := Cp (c := 103) h10
  have q11 := Cp (c := 97) h11
  unfold W1
  simp only [List.length_append]
  omega
theorem Xl : ∀ k : Fin 16, (glob0.get k.val).length ≤ 20 := by decide +kernel
theorem W4 {r : Api_Ref} (h : I64 r.Railway ∧ I64 r.No) : (AdV r).length ≤ 45 := by
  have h1 := Dm h.1.1 h.1.2
  have h2 := Dm h.2.1 h.2.2
  unfold AdV
  split
  · simp
  · simp; omega
theorem Sz {t : List UInt8} : (V4 t).length ≤ 2 + 3 * t.length := by
  have := Ow t
  unfold V4
  split
  · simp
  · simp; omega
theorem T3 {it : Api_Item} (hi : OkItem it) : Cu it = some (if 1 ≤ it.Kind ∧ it.Kind ≤ 15 then (if (msg it).length > 65536 then ([], 2) else (msg it, 0)) else ([], 110)) := by
  unfold Cu
  by_cases hk : 1 ≤ it.Kind ∧ it.Kind ≤ 15
  · rw [if_pos hk]
    have c1 : decide (it.Kind < 1) = false := decide_eq_false (by omega)
    have c2 : decide (it.Kind ≥ 16) = false := decide_eq_false (by omega)
    simp only [c1, c2, Bool.false_eq_true, if_false, Option.bind_some]
    have hin : InR it.Kind 16 := ⟨by omega, by omega⟩
    have hkk : it.Kind.toNat < 16 := by omega
    have htl := Xl ⟨it.Kind.toNat, hkk⟩
    simp only at htl
    rw [if_pos hin, Hs (by simp; omega), Option.bind_some]
    simp only [List.nil_append]
    generalize ht : glob0.get it.Kind.toNat = tg at htl ⊢
    have hrl := W4 hi.ref
    have href : (if (!((it.Ref.Railway == 0) && (it.Ref.No == 0))) = true then
        (A0 ((114 : UInt8)) (({ addr := (), buf := tg } : Strings_Builder))).bind fun y_390 =>
        (Ay it.Ref.Railway (({ addr := (), buf := y_390.buf } : Strings_Builder))).bind fun y_392 =>
        (Aj (({ addr := (), buf := y_392.buf } : Strings_Builder)) ((46 : UInt8))).bind fun y_394 =>
        (Ay it.Ref.No (({ addr := (), buf := y_394.2.buf } : Strings_Builder))).bind fun y_396 =>
        some y_396.buf
      else
        some tg : Option (List UInt8)) = some (tg ++ AdV it.Ref) := by
      unfold AdV
      by_cases h0 : it.Ref.Railway = 0 ∧ it.Ref.No = 0
      · rw [if_pos h0, if_neg (by simp [h0.1, h0.2])]; simp
      · rw [if_neg h0, if_pos (by simp; omega)]
        have q1 := Dm hi.ref.1.1 hi.ref.1.2
        rw [Afe (by omega), Option.bind_some]
        simp only
        rw [AcX (by simp; omega) hi.ref.1, Option.bind_some]
        simp only
        rw [Bq (by simp; omega), Option.bind_some]
        simp only
        rw [AcX (by simp; omega) hi.ref.2, Option.bind_some]
        simp
    rw [href, Option.bind_some]
    obtain ⟨h1, h2, h3, h4, h5, h6, h7, h8, h9, h10, h11⟩ := hi.nums
    have q1 := Cp (c := 119) h1
    have q2 := Cp (c := 112) h2
    have q3 := Cp (c := 111) h3
    have q4 := Cp (c := 110) h4
    have q5 := Cp (c := 102) h5
    have q6 := Cp (c := 116) h6
    have q7 := Cp (c := 99) h7
    have q8 := Cp (c := 100) h8
    have q9 := Cp (c := 107) h9
    have q10 := Cp (c := 103) h10
    have q11 := Cp (c := 97) h11
    rw [Et (by simp only [List.length_append]; omega) h1, Option.bind_some, Et (by simp only [List.length_append]; omega) h2, Option.bind_some, Et (by simp only [List.length_append]; omega) h3, Option.bind_some,
      Et (by simp only [List.length_append]; omega) h4, Option.bind_some, Et (by simp only [List.length_append]; omega) h5, Option.bind_some, Et (by simp only [List.length_append]; omega) h6, Option.bind_some,
      Et (by simp only [List.length_append]; omega) h7, Option.bind_some, Et (by simp only [List.length_append]; omega) h8, Option.bind_some, Et (by simp only [List.length_append]; omega) h9, Option.bind_some,
      Et (by simp only [List.length_append]; omega) h10, Option.bind_some, Et (by simp only [List.length_append]; omega) h11, Option.bind_some, Option.bind_some]
    have hb : tg ++ AdV it.Ref ++ num 119 it.Wagon ++ num 112 it.Place ++ num 111 it.Other ++ num 110 it.Number ++ num 102 it.From ++ num 116 it.To ++ num 99 it.Code ++ num 100 it.Dest ++ num 107 it.Class ++ num 103 it.Weight ++ num 97 it.Amount = tg ++ AdV it.Ref ++ W1 it := by
      simp [W1]
    rw [hb]
    have hnl := R8 hi
    have htx := hi.text
    have htl2 := Sz (t := it.Text)
    generalize hbb : tg ++ AdV it.Ref ++ W1 it = b
    have hbl : b.length ≤ 400 := by rw [← hbb]; simp only [List.length_append]; omega
    have htext : (if (!(it.Text == (([] : List UInt8)))) = true then
        (A0 ((120 : UInt8)) (({ addr := (), buf := b } : Strings_Builder))).bind fun y_765 =>
        (Gn (({ addr := (), buf := y_765.buf } : Strings_Builder)) it.Text).bind fun y_767 =>
        some y_767.buf
      else
        some b : Option (List UInt8)) = some (b ++ V4 it.Text) := by
      unfold V4
      by_cases h0 : it.Text = []
      · rw [if_pos h0, if_neg (by simp [h0])]; simp
      · rw [if_neg h0, if_pos (by simp [h0]), Afe (by omega), Option.bind_some]
        simp only
        rw [Adk (by simp; omega), Option.bind_some]
        simp
    rw [htext, Option.bind_some, Abs hi (by simp only [List.length_append]; omega), Option.bind_some, Option.bind_some]
    have hpl := Lb hi.part
    have hpp := hi.parts
    rw [Bq (by simp only [List.length_append]; omega), Option.bind_some]
    simp only
    have hm : b ++ V4 it.Text ++ it.Parts.flatMap Jb ++ [39] = msg it := by
      rw [← hbb, ← ht]; rfl
    rw [hm]
    have hml : (msg it).length ≤ 500000 := by rw [← hm]; simp only [List.length_append, List.length_singleton]; omega
    by_cases hbig : (msg it).length > 65536
    · rw [if_pos (decide_eq_true (by omega)), if_pos hbig]
    · rw [if_neg (by simp; omega), if_neg hbig, if_pos (by rw [← hm]; simp), if_pos (AbI (by omega))]
  · rw [if_neg hk]
    by_cases h1 : it.Kind < 1
    · simp [h1]
    · have h2 : it.Kind ≥ 16 := by omega
      simp [h1, h2]
def lets : List UInt8 := [119, 112, 111, 110, 102, 116, 99, 100, 107, 103, 97]
def Kq (it : Api_Item) : List (UInt8 × Int) := [(119, it.Wagon), (112, it.Place), (111, it.Other), (110, it.Number), (102, it.From), (116, it.To), (99, it.Code), (100, it.Dest), (107, it.Class), (103, it.Weight), (97, it.Amount)]
theorem Zc {it : Api_Item} (hi : OkItem it) {k : Nat} (hk : k < 11) : ∃ c n, (Kq it)[k]? = some (c, n) ∧ I64 n ∧ Gv it (nth lets k) = some n ∧ (lets.drop k).take (k + 1 - k) = [c] := by
  obtain ⟨h1, h2, h3, h4, h5, h6, h7, h8, h9, h10, h11⟩ := hi.nums
  have : k = 0 ∨ k = 1 ∨ k = 2 ∨ k = 3 ∨ k = 4 ∨ k = 5 ∨ k = 6 ∨ k = 7 ∨ k = 8 ∨ k = 9 ∨ k = 10 := by omega
  rcases this with rfl | rfl | rfl | rfl | rfl | rfl | rfl | rfl | rfl | rfl | rfl
  · exact ⟨_, _, rfl, h1, rfl, rfl⟩
  · exact ⟨_, _, rfl, h2, rfl, rfl⟩
  · exact ⟨_, _, rfl, h3, rfl, rfl⟩
  · exact ⟨_, _, rfl, h4, rfl, rfl⟩
  · exact ⟨_, _, rfl, h5, rfl, rfl⟩
  · exact ⟨_, _, rfl, h6, rfl, rfl⟩
  · exact ⟨_, _, rfl, h7, rfl, rfl⟩
  · exact ⟨_, _, rfl, h8, rfl, rfl⟩
  · exact ⟨_, _, rfl, h9, rfl, rfl⟩
  · exact ⟨_, _, rfl, h10, rfl, rfl⟩
  · exact ⟨_, _, rfl, h11, rfl, rfl⟩
def iV (n : Int) : Api_Value := Api_Value.mk 1 n [] []
def tV (s : List UInt8) : Api_Value := Api_Value.mk 2 0 s []
def lV (l : List Api_Value) : Api_Value := Api_Value.mk 3 0 [] l
def An8 (x : Api_Part) : Api_Value := lV [iV x.Kind, iV x.Serial, iV (if x.Fitted = true then 1 else 0)]
def Anu (it : Api_Item) : List Api_Value := [iV it.Kind, lV [iV it.Ref.Railway, iV it.Ref.No], iV it.Wagon, iV it.Place, iV it.Other, iV it.Number, iV it.From, iV it.To, iV it.Code, iV it.Dest, iV it.Class, iV it.Weight, iV it.Amount]
def val (it : Api_Item) : Api_Value := lV (Anu it ++ [tV it.Text, lV (it.Parts.map An8)])
theorem map_take {α β : Type} [Inhabited α] (f : α → β) (l : List α) (k : Nat) (hk : k < l.length) : (l.take (k + 1)).map f = (l.take k).map f ++ [f (nth l k)] := by
  have h : l.take (k + 1) = l.take k ++ [nth l k] := by
    rw [List.take_add_one, List.getElem?_eq_getElem hk]
    simp [nth, List.getElem?_eq_getElem hk]
  rw [h]; simp
theorem Ahi : law11_sane = some true := by decide +kernel
structure Ints (it : Api_Item) : Prop where
  kind : I64 it.Kind
  ref : I64 it.Ref.Railway ∧ I64 it.Ref.No
  nums : I64 it.Wagon ∧ I64 it.Place ∧ I64 it.Other ∧ I64 it.Number ∧ I64 it.From ∧ I64 it.To ∧ I64 it.Code ∧ I64 it.Dest ∧ I64 it.Class ∧ I64 it.Weight ∧ I64 it.Amount
  part : ∀ x ∈ it.Parts, I64 x.Kind ∧ I64 x.Serial
theorem Ints.ok {it : Api_Item} (h : Ints it) (ht : it.Text.length ≤ 2000) (hp : it.Parts.length ≤ 20) : OkItem it := ⟨h.kind, h.ref, h.nums, by omega, by omega, h.part⟩
theorem Aew (it : Api_Item) : Gy it = some (decide (it.Text.length ≤ 2000 ∧ it.Parts.length ≤ 20)) := by
  unfold Gy
  by_cases h1 : it.Text.length ≤ 2000
  · by_cases h2 : it.Parts.length ≤ 20
    · rw [if_pos (decide_eq_true (by omega)), Option.bind_some, decide_eq_true (show (it.Parts.length : Int) ≤ 20 by omega)]; simp [h1, h2]
    · rw [if_pos (decide_eq_true (by omega)), Option.bind_some, decide_eq_false (show ¬(it.Parts.length : Int) ≤ 20 by omega)]; simp [h2]
  · rw [if_neg (by simp; omega), Option.bind_some]; simp [h1]
theorem AbS {T : Tables} {f u : Nat} {i : TypeInfo} (hu : ¬ u < T.types.size) (h : Made.infoAt T (f + 1) u = some i) : ∃ d, Made.reckon (Made.infoAt T f) d = some i := by
  unfold Made.infoAt at h
  rw [if_neg hu] at h
  obtain ⟨d, _, h2⟩ := Option.bind_eq_some_iff.1 h
  exact ⟨d, h2⟩
theorem Aam {info : TypeId → Option TypeInfo} {d : TypeDesc} {i : TypeInfo} (h : Made.reckon info d = some i) : (∃ e j, i.desc = .pointer e ∧ info e = some j ∧ ∀ n r, j.desc ≠ .named n r) ∨ (∀ e, i.desc ≠ .pointer e) ∧ (∀ n r, i.desc ≠ .named n r) ∧ i.desc ≠ .bool ∧ (∀ k, i.desc ≠ .int k) ∧ (∀ k, i.desc ≠ .float k) ∧ i.desc ≠ .string := by
  cases d with
  | pointer e =>
    left
    simp only [Made.reckon, Option.bind_eq_bind, Option.bind_eq_some_iff] at h
    obtain ⟨j, h1, h2⟩ := h
    refine ⟨e, j, ?_, h1, ?_⟩
    · split at h2
      · cases h2
      · split at h2
        · cases h2
        · simp only [Option.pure_def, Option.bind_eq_some_iff] at h2; obtain ⟨s, _, h3⟩ := h2; cases h3; rfl
      · simp only [Option.pure_def, Option.bind_eq_some_iff] at h2; obtain ⟨s, _, h3⟩ := h2; cases h3; rfl
    · intro n r e2
      rw [e2] at h2
      cases h2
  | bool => cases h
  | string => cases h
  | int k => cases h
  | float k => cases h
  | named n r => cases h
  | slice e =>
    right
    simp only [Made.reckon, Option.bind_eq_bind, Option.bind_eq_some_iff, Option.pure_def] at h
    obtain ⟨j, _, s, _, h3⟩ := h
    cases h3
    exact ⟨fun e h => (by cases h), fun n r h => (by cases h), (by intro h; cases h), fun k h => (by cases h), fun k h => (by cases h), (by intro h; cases h)⟩
  | map k e =>
    right
    simp only [Made.reckon, Option.bind_eq_bind, Option.bind_eq_some_iff, Option.pure_def] at h
    obtain ⟨jk, _, sk, _, je, _, se, _, h3⟩ := h
    cases h3
    exact ⟨fun e h => (by cases h), fun n r h => (by cases h), (by intro h; cases h), fun k h => (by cases h), fun k h => (by cases h), (by intro h; cases h)⟩
  | chan dir e =>
    right
    simp only [Made.reckon, Option.bind_eq_bind, Option.bind_eq_some_iff, Option.pure_def] at h
    obtain ⟨j, _, s, _, h3⟩ := h
    cases h3
    exact ⟨fun e h => (by cases h), fun n r h => (by cases h), (by intro h; cases h), fun k h => (by cases h), fun k h => (by cases h), (by intro h; cases h)⟩
  | func ps rs v =>
    right
    simp only [Made.reckon, Option.bind_eq_bind, Option.bind_eq_some_iff, Option.pure_def] at h
    obtain ⟨s, _, h3⟩ := h
    cases h3
    exact ⟨fun e h => (by cases h), fun n r h => (by cases h), (by intro h; cases h), fun k h => (by cases h), fun k h => (by cases h), (by intro h; cases h)⟩
  | array n e =>
    right
    simp only [Made.reckon, Option.bind_eq_bind, Option.bind_eq_some_iff, Option.pure_def] at h
    obtain ⟨j, _, s, _, h3⟩ := h
    cases h3
    exact ⟨fun e h => (by cases h), fun n r h => (by cases h), (by intro h; cases h), fun k h => (by cases h), fun k h => (by cases h), (by intro h; cases h)⟩
  | struct fs =>
    right
    simp only [Made.reckon, Made.reckonStruct, Option.bind_eq_bind, Option.bind_eq_some_iff, Option.pure_def] at h
    obtain ⟨r, _, h3⟩ := h
    split at h3 <;> cases h3
    all_goals exact ⟨fun e h => (by cases h), fun n r h => (by cases h), (by intro h; cases h), fun k h => (by cases h), fun k h => (by cases h), (by intro h; cases h)⟩
  | _ => cases h
theorem Wz {a b : String} (h : "*" ++ a = "*" ++ b) : a = b := by
  have h2 := congrArg String.toList h
  simp only [String.toList_append] at h2
  exact String.toList_injective (List.append_cancel_left h2)
theorem AfJ : ((List.range Tryz.prog.types.size).all fun u => (Tryz.prog.typeName? 3 u != some "*errors.errorString") || (u == 248)) = true := by kernel_rfl
noncomputable def AlR (o : Option TypeInfo) : Bool := match o with | some j => (match j.desc with | .named _ _ => true | _ => false) | none => true
theorem Ac1 {j : TypeInfo} (h : AlR (some j) = true) : ∃ n r, j.desc = .named n r := by
  have h' : (match j.desc with | .named _ _ => true | _ => false) = true := h
  cases hd : j.desc with
  | named n r => exact ⟨n, r, rfl⟩
  | _ => rw [hd] at h'; cases h'
noncomputable def nmd (e : Nat) : Bool := AlR Tryz.prog.types[e]?
theorem Ae1 : ((List.range Tryz.prog.types.size).all fun e => (Tryz.prog.typeName? 2 e != some "errors.errorString") || nmd e) = true := by kernel_rfl
theorem AeR {u : Nat} (h : ¬ u < Tryz.prog.types.size) : Tryz.prog.info? u = Made.infoAt Tryz.prog.toTables 100 u := by
  show Tables.info? _ u = _
  unfold Tables.info?
  rw [if_neg h]
  rfl
theorem Af5 {d u : Nat} (hu : ¬ u < Tryz.prog.types.size) {s : String} (h : Tryz.prog.typeName? (d + 1) u = some s) :
    ∃ e j x, Made.infoAt Tryz.prog.toTables 99 e = some j ∧ (∀ n r, j.desc ≠ .named n r) ∧ Tryz.prog.typeName? d e = some x ∧ s = "*" ++ x := by
  unfold Program.typeName? at h
  rw [AeR hu] at h
  split at h
  · rename_i i hi
    obtain ⟨dd, hd⟩ := AbS hu hi
    rcases Aam hd with ⟨e, j, h1, h2, h3⟩ | ⟨h1, h2, h3, h4, h5, h6⟩
    · rw [h1] at h
      simp only [Option.map_eq_some_iff] at h
      obtain ⟨x, hx, rfl⟩ := h
      exact ⟨e, j, x, h2, h3, hx, rfl⟩
    · exfalso
      split at h
      · exact h2 _ _ (by assumption)
      · exact h1 _ (by assumption)
      · exact h3 (by assumption)
      · exact h4 _ (by assumption)
      · exact h5 _ (by assumption)
      · exact h6 (by assumption)
      · cases h
  · cases h
theorem AfG : ("errors.errorString" : String).toList.head? = some (Char.ofNat 101) := by decide +kernel
theorem Adg : ("*" : String).toList.head? = some (Char.ofNat 42) := by decide +kernel
theorem Ah4 {u : Nat} (h : Tryz.prog.typeName? 3 u = some "*errors.errorString") : u = 248 := by
  by_cases hu : u < Tryz.prog.types.size
  · have := List.all_eq_true.1 AfJ u (List.mem_range.2 hu)
    rw [h] at this
    simpa using this
  · exfalso
    obtain ⟨e, j, x, h1, h2, h3, h4⟩ := Af5 hu h
    have hx : x = "errors.errorString" := (Wz (a := "errors.errorString") (by rw [← h4]; decide +kernel)).symm
    subst hx
    by_cases he : e < Tryz.prog.types.size
    · have hb := List.all_eq_true.1 Ae1 e (List.mem_range.2 he)
      rw [h3] at hb
      have hn : nmd e = true := by simpa using hb
      unfold Made.infoAt at h1
      rw [if_pos he] at h1
      have h1' : Tryz.prog.types[e]? = some j := h1
      have hm : AlR (some j) = true := (congrArg AlR h1').symm.trans hn
      obtain ⟨n, r, hd⟩ := Ac1 hm
      exact h2 n r hd
    · obtain ⟨_, _, y, _, _, _, h8⟩ := Af5 he h3
      have := congrArg String.toList h8
      simp only [String.toList_append] at this
      have h9 := congrArg List.head? this
      rw [List.head?_append, AfG, Adg] at h9
      exact absurd (Option.some.inj h9) (by decide +kernel)
open Go.Rv Go.ChangeShapes Go.WideShapes Go.ChangeAt Go.RowKit
theorem Yz (H : Type) (l : List (DataW H)) : (l.map (Rows.uptoBulk (H := H))).sum = Rows.uptoBulkAll l := by
  induction l with
  | nil => rfl
  | cons x l ih => simp only [List.map_cons, List.sum_cons, ih, Rows.uptoBulkAll]
theorem K5 : BulkOk (fun H => Rows.uptoBulk (H := H)) where
  one := fun H d => by
    cases d with
    | lit l => cases l <;> simp [Rows.uptoBulk]
    | _ => simp [Rows.uptoBulk]
  str := fun H l => by simp [Rows.uptoBulk]
  slice := fun H e s => by rw [Yz]; simp only [Rows.uptoBulk]; omega
  agg := fun H p => by rw [Yz]; simp only [Rows.uptoBulk]; omega
theorem Bz : Tryz.prog.cellsOf 3 = 1 := by kernel_rfl
theorem AaR : Tryz.prog.cellsOf 4 = 1 := by kernel_rfl
theorem Aaj : Tryz.prog.cellsOf 9 = 1 := by kernel_rfl
theorem Pq : Tryz.prog.cellsOf 38 = 2 := by kernel_rfl
theorem Yg : Tryz.prog.cellsOf 39 = 1 := by kernel_rfl
theorem Ph : Tryz.prog.cellsOf 66 = 3 := by kernel_rfl
theorem Wx : Tryz.prog.cellsOf 41 = 16 := by kernel_rfl
theorem Fv : Opens Tryz.prog (fun H => Rows.uptoBulk (H := H)) 3 Na (fun _ => 1) I64 := AbP K5 Tryz.underlying3
theorem AlB : Opens Tryz.prog (fun H => Rows.uptoBulk (H := H)) 4 AgW (fun _ => 1) (fun _ => True) := AaW K5 Tryz.underlying4
theorem Alr : Opens Tryz.prog (fun H => Rows.uptoBulk (H := H)) 9 Q3 (fun l => l.length + 1) (fun l => l.length ≤ maxLen) := AdM K5 Tryz.underlying9
theorem AhX : Opens Tryz.prog (fun H => Rows.uptoBulk (H := H)) 38 Zo (fun _ => 0) (fun r => I64 r.Railway ∧ I64 r.No) :=
  Iu K5 Tryz.underlying38 (n := 2) Pq
    (A7 (k := 1) rfl Bz (fun _ => rfl) Fv (A7 (k := 1) rfl Bz (fun _ => rfl) Fv Kx))
    (fun x => (⟨x.1, x.2.1⟩ : Api_Ref)) (fun _ => rfl) (fun _ => rfl) (fun x => Nat.zero_le _) (fun x h => ⟨h.1, h.2.1⟩)
theorem Ag0 : Opens Tryz.prog (fun H => Rows.uptoBulk (H := H)) 66 Ac (fun _ => 0) (fun r => I64 r.Kind ∧ I64 r.Serial) :=
  Iu K5 Tryz.underlying66 (n := 3) Ph
    (A7 (k := 1) rfl Bz (fun _ => rfl) Fv (A7 (k := 1) rfl Bz (fun _ => rfl) Fv (A7 (k := 1) rfl AaR (fun _ => rfl) AlB Kx)))
    (fun x => (⟨x.1, x.2.1, x.2.2.1⟩ : Api_Part)) (fun _ => rfl) (fun _ => rfl) (fun x => Nat.zero_le _) (fun x h => ⟨h.1, h.2.1⟩)
theorem Aij : Opens Tryz.prog (fun H => Rows.uptoBulk (H := H)) 39 (cSl Ac) (szL fun _ => 0) (fun l => l.length ≤ maxLen ∧ ∀ x ∈ l, I64 x.Kind ∧ I64 x.Serial) :=
  W9 K5 Tryz.underlying39 Ph (fun _ => rfl) Ag0
theorem Ahg : Opens Tryz.prog (fun H => Rows.uptoBulk (H := H)) 41 Uh (fun _ => 0) Ints :=
  Iu K5 Tryz.underlying41 (n := 16) Wx
    (A7 (k := 1) rfl Bz (fun _ => rfl) Fv (A7 (k := 2) rfl Pq (fun _ => rfl) AhX (A7 (k := 1) rfl Bz (fun _ => rfl) Fv (A7 (k := 1) rfl Bz (fun _ => rfl) Fv
      (A7 (k := 1) rfl Bz (fun _ => rfl) Fv (A7 (k := 1) rfl Bz (fun _ => rfl) Fv (A7 (k := 1) rfl Bz (fun _ => rfl) Fv (A7 (k := 1) rfl Bz (fun _ => rfl) Fv
      (A7 (k := 1) rfl Bz (fun _ => rfl) Fv (A7 (k := 1) rfl Bz (fun _ => rfl) Fv (A7 (k := 1) rfl Bz (fun _ => rfl) Fv (A7 (k := 1) rfl Bz (fun _ => rfl) Fv
      (A7 (k := 1) rfl Bz (fun _ => rfl) Fv (A7 (k := 1) rfl Aaj (fun _ => rfl) Alr (A7 (k := 1) rfl Yg (fun _ => rfl) Aij Kx)))))))))))))))
    (fun x => (⟨x.1, x.2.1, x.2.2.1, x.2.2.2.1, x.2.2.2.2.1, x.2.2.2.2.2.1, x.2.2.2.2.2.2.1, x.2.2.2.2.2.2.2.1, x.2.2.2.2.2.2.2.2.1, x.2.2.2.2.2.2.2.2.2.1, x.2.2.2.2.2.2.2.2.2.2.1, x.2.2.2.2.2.2.2.2.2.2.2.1, x.2.2.2.2.2.2.2.2.2.2.2.2.1, x.2.2.2.2.2.2.2.2.2.2.2.2.2.1, x.2.2.2.2.2.2.2.2.2.2.2.2.2.2.1⟩ : Api_Item)) (fun _ => rfl) (fun _ => rfl) (fun x => Nat.zero_le _)
    (fun x h => ⟨h.1, h.2.1, ⟨h.2.2.1, h.2.2.2.1, h.2.2.2.2.1, h.2.2.2.2.2.1, h.2.2.2.2.2.2.1, h.2.2.2.2.2.2.2.1, h.2.2.2.2.2.2.2.2.1, h.2.2.2.2.2.2.2.2.2.1, h.2.2.2.2.2.2.2.2.2.2.1, h.2.2.2.2.2.2.2.2.2.2.2.1, h.2.2.2.2.2.2.2.2.2.2.2.2.1⟩, h.2.2.2.2.2.2.2.2.2.2.2.2.2.2.1.2⟩)
theorem own : ownKnob Tryz.prog.godebug = none := by kernel_rfl
theorem AgR : laidOutB Tryz.prog = true := by kernel_rfl
theorem Aau {H : Type} {enc : TypeId × Value → H} {P : Program} {w : World} {fuel t : Nat} {ms : Array (String × TypeId)} (ht : P.underlying t = some (.interface ms)) {cs : List Value} {nm : String} {d : DataW H} {p : List MemPlace}
    (h : DataW.trod enc P w 0 (fun _ => true) false fuel t cs = some (.iface nm d, p)) : ∃ u v, cs = [.iface u v] ∧ P.typeName? 3 u = some nm := by
  cases fuel with
  | zero => cases h
  | succ fuel =>
    unfold DataW.trod at h
    rw [ht] at h
    match cs, h with
    | [.nilIface], h => cases h
    | [.iface u v], h =>
      simp only at h
      cases hn : P.typeName? 3 u with
      | none => rw [hn] at h; cases h
      | some name =>
        rw [hn] at h
        simp only [Option.map_eq_some_iff, Prod.mk.injEq] at h
        obtain ⟨x, _, h2, _⟩ := h
        cases h2
        exact ⟨u, v, rfl, hn⟩
abbrev Nn : List (String × DataW Unit) := [("math/bits.deBruijn32tab", Rows.laid_math_bits_deBruijn32tab), ("math/bits.deBruijn64tab", Rows.laid_math_bits_deBruijn64tab), ("internal/strconv.uint64pow10", Rows.laid_internal_strconv_uint64pow10), ("unicode/utf8.acceptRanges", Rows.laid_unicode_utf8_acceptRanges), ("strconv.ErrRange", Rows.laid_strconv_ErrRange), ("strconv.ErrSyntax", Rows.laid_strconv_ErrSyntax), ("wagonpool/edi.tags", Rows.laid_wagonpool_edi_tags), ("unicode/utf8.first", Rows.laid_unicode_utf8_first)]
theorem AjO : (Rows.laid_wagonpool_edi_tags : DataW Unit) = .agg (glob0.l.map fun s => .lit (.string s)) := by kernel_rfl
theorem Ak3 : (Rows.laid_internal_strconv_uint64pow10 : DataW Unit) = Lib.tabData .u64 Lib.pow10Tab := by kernel_rfl
theorem AfO (os : Os) (args : Array Value) : laidMetH Tryz.prog Nn ((World.laidAll Tryz.prog os Nn).forCall (fun _ _ => 0) ⟨#[], args, []⟩).memory := by
  rw [MakeChecks.laidMetH_plain _ _ _ (by kernel_rfl)]
  exact laidMet_laidAll _ (by kernel_rfl) (by kernel_rfl)
theorem Lg {P : Program} {w : World} : ∀ {l : List (String × DataW Unit)} {ps : List MemPlace}, DataW.LaidVars P w l ps → ∀ x ∈ l, ∃ g t cs fuel p, P.globalNamed x.1 = some g ∧ (P.globals[g]?).map (·.type) = some t ∧ w.var? P x.1 = some cs ∧
    DataW.trod (fun _ => ()) P w 0 (fun _ => true) false fuel t cs.toList = some (x.2, p)
  | [], _, _, x, hx => by cases hx
  | (n, d) :: r, ps, ⟨g, t, cs, fuel, p, q, hg, ht, hv, hd, hr, _⟩, x, hx => by
    rcases List.mem_cons.1 hx with rfl | hx
    · exact ⟨g, t, cs, fuel, p, hg, ht, hv, hd⟩
    · exact Lg hr x hx
theorem AeK {W : World} {cs : Array Value} {f : Nat} {p : List MemPlace} (hv : W.var? Tryz.prog "wagonpool/edi.tags" = some cs) (hd : DataW.trod (fun _ => ()) Tryz.prog W 0 (fun _ => true) false f 113 cs.toList = some (Rows.laid_wagonpool_edi_tags, p)) (r : Nat) (hr : r < 16) :
    ∃ s : ByteArray, W.cell? ⟨0, r, none⟩ = some (.string s) ∧ s.data.toList = nth glob0.l r := by
  rw [AjO] at hd
  obtain ⟨xs, m, _, ex, _, hl, hel⟩ := DataW.trod_array Tryz.underlying113 hd
  have c5 : Tryz.prog.cellsOf 9 = 1 := by kernel_rfl
  have hE := hel r hr
  rw [c5, Nat.mul_one, List.getElem?_eq_getElem (by omega)] at hE
  obtain ⟨z, e1, e2, _⟩ := DataW.trod_string Tryz.underlying9 hE
  have hlen : glob0.l.length = 16 := glob0.h
  have e3 : (xs.map (·.1)) = glob0.l.map fun n => .lit (.string n) := (DataW.agg.inj (Prod.mk.inj ex).1).symm
  have e4 : (xs.map (·.1))[r]? = (glob0.l.map fun n => (DataW.lit (.string n) : DataW Unit))[r]? := by rw [e3]
  rw [List.getElem?_map, List.getElem?_map, List.getElem?_eq_getElem (by omega : r < xs.length), List.getElem?_eq_getElem (by omega : r < glob0.l.length), e2] at e4
  have hz : z.data.toList = nth glob0.l r := by
    simp only [Option.map_some, Option.some.injEq, DataW.lit.injEq, Lit.string.injEq] at e4
    rw [e4]
    simp [nth, List.getElem?_eq_getElem (by omega : r < glob0.l.length)]
  refine ⟨z, ?_, hz⟩
  rw [World.var?_cell (show Tryz.prog.globalNamed "wagonpool/edi.tags" = some 0 by kernel_rfl) hv r]
  have : cs.toList[r]? = some (.string z) := by
    have h0 : ((cs.toList.drop r).take 1)[0]? = some (.string z) := by rw [e1]; rfl
    simpa using h0
  simpa using this
theorem Zp {W : World} {n : String} {i : Nat} {cs : Array Value} {f : Nat} {p : List MemPlace} {d : DataW Unit} (hn : Tryz.prog.globalNamed n = some i) (hv : W.var? Tryz.prog n = some cs) (hd : DataW.trod (fun _ => ()) Tryz.prog W 0 (fun _ => true) false f 110 cs.toList = some (.iface "*errors.errorString" d, p)) :
    ∃ v, W.cell? ⟨i, 0, none⟩ = some (.iface 248 v) := by
  obtain ⟨u, v, e, hu⟩ := Aau Tryz.underlying110 hd
  obtain rfl := Ah4 hu
  refine ⟨v, ?_⟩
  rw [World.var?_cell hn hv 0, Array.eq_one_of_toList e]
  rfl
theorem AnM {W : World} (h : laidMetH Tryz.prog Nn W) : Mem (B.env fun _ => False) W [] [] := by
  rw [MakeChecks.laidMetH_plain _ _ _ (by kernel_rfl)] at h
  obtain ⟨ps, hl, _⟩ := h
  have hw : ∃ t o, W.heap[4]? = some (.cells ((Lib.pow10Tab.map fun z => Value.int .u64 z).toArray) t o) := by
    obtain ⟨g0, t0, cs0, f0, p0, hg0, ht0, hv0, hd0⟩ := Lg hl ("internal/strconv.uint64pow10", Rows.laid_internal_strconv_uint64pow10) (by simp [Nn])
    obtain rfl := Option.some.inj ((show Tryz.prog.globalNamed "internal/strconv.uint64pow10" = some 4 by kernel_rfl).symm.trans hg0)
    obtain rfl := Option.some.inj ((show (Tryz.prog.globals[4]?).map (·.type) = some 227 by kernel_rfl).symm.trans ht0)
    simp only [Ak3] at hd0
    have hc := Lib.cells_of_tab (n := 20) Tryz.underlying227 Tryz.underlying88 (by kernel_rfl) (by kernel_rfl) hd0
    unfold World.var? at hv0
    rw [show Tryz.prog.globalNamed "internal/strconv.uint64pow10" = some 4 by kernel_rfl, Option.bind_some] at hv0
    split at hv0
    · rename_i c t o hcell
      cases hv0
      rw [← hc]
      exact ⟨t, o, hcell⟩
    · cases hv0
  obtain ⟨g0, t0, cs0, f0, p0, hg0, ht0, hv0, hd0⟩ := Lg hl ("wagonpool/edi.tags", Rows.laid_wagonpool_edi_tags) (by simp [Nn])
  obtain rfl := Option.some.inj ((show Tryz.prog.globalNamed "wagonpool/edi.tags" = some 0 by kernel_rfl).symm.trans hg0)
  obtain rfl := Option.some.inj ((show (Tryz.prog.globals[0]?).map (·.type) = some 113 by kernel_rfl).symm.trans ht0)
  have htag := AeK hv0 hd0
  obtain ⟨g1, t1, cs1, f1, p1, hg1, ht1, hv1, hd1⟩ := Lg hl ("strconv.ErrSyntax", Rows.laid_strconv_ErrSyntax) (by simp [Nn])
  obtain rfl := Option.some.inj ((show Tryz.prog.globalNamed "strconv.ErrSyntax" = some 7 by kernel_rfl).symm.trans hg1)
  obtain rfl := Option.some.inj ((show (Tryz.prog.globals[7]?).map (·.type) = some 110 by kernel_rfl).symm.trans ht1)
  obtain ⟨v7, h7⟩ := Zp hg1 hv1 hd1
  obtain ⟨g2, t2, cs2, f2, p2, hg2, ht2, hv2, hd2⟩ := Lg hl ("strconv.ErrRange", Rows.laid_strconv_ErrRange) (by simp [Nn])
  obtain rfl := Option.some.inj ((show Tryz.prog.globalNamed "strconv.ErrRange" = some 8 by kernel_rfl).symm.trans hg2)
  obtain rfl := Option.some.inj ((show (Tryz.prog.globals[8]?).map (·.type) = some 110 by kernel_rfl).symm.trans ht2)
  obtain ⟨v8, h8⟩ := Zp hg2 hv2 hd2
  refine ⟨rfl, fun id b ab h => by simp at h, fun id id' b b' β h => by simp at h, fun a h => h.elim, fun i cs hG => ?_, fun t m h => (by have h' : (none : Option MapS) = some m := h; cases h'), fun i p h => ?_⟩
  · have nomine : ¬ Fy ([] : Gh) i := by rintro ⟨id, b, hb, _⟩; simp at hb
    have hG' : (if i = 0 then some (C1 .str glob0.l) else if i = 7 then some [AV.iface 248 .junk] else if i = 8 then some [AV.iface 248 .junk] else none) = some cs := hG
    by_cases hi : i = 0
    · rw [if_pos hi] at hG'
      cases hG'
      subst hi
      have hex : ∀ j : Nat, ∃ v : Value, j < 16 → ∃ s : ByteArray, v = .string s ∧ W.cell? ⟨0, j, none⟩ = some v ∧ s.data.toList = nth glob0.l j := by
        intro j
        by_cases hj : j < 16
        · obtain ⟨s, h1, h2⟩ := htag j hj
          exact ⟨.string s, fun _ => ⟨s, rfl, h1, h2⟩⟩
        · exact ⟨undef, fun h => absurd h hj⟩
      obtain ⟨c, hc⟩ := Classical.axiomOfChoice hex
      obtain ⟨s0, _, hs0, _⟩ := hc 0 (by omega)
      refine ⟨cell?_lt hs0, nomine, fun _ hf => hf, c, fun j x hj => ?_⟩
      have hlen : glob0.l.length = 16 := glob0.h
      have hj16 : j < 16 := by
        have := (List.getElem?_eq_some_iff.1 hj).1
        rw [Ace] at this; omega
      obtain ⟨s, e, h1, h2⟩ := hc j hj16
      have hx : x = .str (nth glob0.l j) := by
        simp only [C1, List.getElem?_map, Option.map_eq_some_iff] at hj
        obtain ⟨y, hy, rfl⟩ := hj
        simp [nth, hy]
      subst hx
      rw [e] at h1 ⊢
      exact ⟨h1, .str _ _ _ h2, rfl⟩
    · rw [if_neg hi] at hG'
      by_cases hi7 : i = 7
      · rw [if_pos hi7] at hG'
        cases hG'
        subst hi7
        refine ⟨cell?_lt h7, nomine, fun _ hf => hf, fun j => .iface 248 v7, fun j x hj => ?_⟩
        cases j with
        | zero => cases hj; exact ⟨h7, .iface _ _ _ _ (.junk _ _), rfl⟩
        | succ j => simp at hj
      · rw [if_neg hi7] at hG'
        by_cases hi8 : i = 8
        · rw [if_pos hi8] at hG'
          cases hG'
          subst hi8
          refine ⟨cell?_lt h8, nomine, fun _ hf => hf, fun j => .iface 248 v8, fun j x hj => ?_⟩
          cases j with
          | zero => cases hj; exact ⟨h8, .iface _ _ _ _ (.junk _ _), rfl⟩
          | succ j => simp at hj
        · rw [if_neg hi8] at hG'; cases hG'
  · have h' : (if i = 4 then some ((Lib.pow10Tab.map fun z => Value.int .u64 z).toArray) else none) = some p := h
    by_cases hi : i = 4
    · rw [if_pos hi] at h'
      cases h'
      subst hi
      exact ⟨(by rintro ⟨id, b, hb, _⟩; simp at hb), hw⟩
    · rw [if_neg hi] at h'; cases h'
theorem Abe {f : FuncId} {avs : List AV} (h : Con B f avs [] (fun r σ' => r = .bool true ∧ σ' = [])) {fn : Func} {c : Code} (hf : Tryz.prog.funcs[f]? = some fn) (hb : fn.body = some c) (hn : (fn.name == "runtime.NumGoroutine") = false) {W : World} (hL : laidMetH Tryz.prog Nn W) {args : Array Value}
    (ha : C5 W (Av (B.env fun _ => False) []) [] args.toList avs) : Calls Tryz.prog f args W fun e W' => e = .returned (.bool true) ∧ Below W.heap.size W W' := by
  refine ((h.call (fun _ => False) W [] args (AnM hL) ha).calls hf hb hn).mono ?_
  rintro e w' ⟨v, r, σ', g', rfl, ⟨rfl, rfl⟩, hm, he, hr⟩
  exact ⟨by rw [Ex hr], he.below⟩
open Go.Shelf
def Tryz.laysM171_ren : Go.Shelf.Ren := ⟨fun | 171 => 48 | 243 => 100 | 246 => 141 | 283 => 158 | 284 => 159 | 285 => 160 | 286 => 161 | 129 => 128 | 317 => 172 | 318 => 173 | 319 => 174 | 320 => 175 | 337 => 188 | 338 => 189 | n => n, fun | 3 => 3 | 9 => 9 | 2 => 2 | 4 => 4 | 171 => 217 | 0 => 0 | 53 => 88 | 37 => 52 | 5 => 5 | 173 => 219 | 212 => 227 | 51 => 182 | 20 => 20 | 213 => 228 | 46 => 171 | 232 => 246 | 233 => 247 | n => n, fun | 17 => 4 | 18 => 9 | 19 => 10 | n => n⟩
theorem Tryz.laysM171 : Go.Proofs.LaysM.n171 Tryz.prog Tryz.laysM171_ren := {
  mixed := by kernel_rfl
  f129 := Tryz.func128.trans (congrArg some (by kernel_rfl))
  f171 := Tryz.func48.trans (congrArg some (by kernel_rfl))
  f243 := Tryz.func100.trans (congrArg some (by kernel_rfl))
  f246 := Tryz.func141.trans (congrArg some (by kernel_rfl))
  f283 := Tryz.func158.trans (congrArg some (by kernel_rfl))
  f284 := Tryz.func159.trans (congrArg some (by kernel_rfl))
  f285 := Tryz.func160.trans (congrArg some (by kernel_rfl))
  f286 := Tryz.func161.trans (congrArg some (by kernel_rfl))
  f317 := Tryz.func172.trans (congrArg some (by kernel_rfl))
  f318 := Tryz.func173.trans (congrArg some (by kernel_rfl))
  f319 := Tryz.func174.trans (congrArg some (by kernel_rfl))
  f320 := Tryz.func175.trans (congrArg some (by kernel_rfl))
  f337 := Tryz.func188.trans (congrArg some (by kernel_rfl))
  f338 := Tryz.func189.trans (congrArg some (by kernel_rfl))
  t0 := Tryz.underlying0
  a0 := Tryz.isAgg0
  z0 := Tryz.sizeOf0
  v0 := Tryz.zeroValue0
  t2 := Tryz.underlying2
  a2 := Tryz.isAgg2
  z2 := Tryz.sizeOf2
  v2 := Tryz.zeroValue2
  t3 := Tryz.underlying3
  a3 := Tryz.isAgg3
  z3 := Tryz.sizeOf3
  v3 := Tryz.zeroValue3
  t4 := Tryz.underlying4
  a4 := Tryz.isAgg4
  z4 := Tryz.sizeOf4
  v4 := Tryz.zeroValue4
  t5 := Tryz.underlying5
  a5 := Tryz.isAgg5
  z5 := Tryz.sizeOf5
  v5 := Tryz.zeroValue5
  t9 := Tryz.underlying9
  a9 := Tryz.isAgg9
  z9 := Tryz.sizeOf9
  v9 := Tryz.zeroValue9
  t20 := Tryz.underlying20
  a20 := Tryz.isAgg20
  z20 := Tryz.sizeOf20
  v20 := Tryz.zeroValue20
  t37 := Tryz.underlying52
  a37 := Tryz.isAgg52
  z37 := Tryz.sizeOf52
  v37 := Tryz.zeroValue52
  t46 := Tryz.underlying171
  a46 := Tryz.isAgg171
  z46 := Tryz.sizeOf171
  v46 := Tryz.zeroValue171
  t51 := Tryz.underlying182
  a51 := Tryz.isAgg182
  z51 := Tryz.sizeOf182
  v51 := Tryz.zeroValue182
  t53 := Tryz.underlying88
  a53 := Tryz.isAgg88
  z53 := Tryz.sizeOf88
  v53 := Tryz.zeroValue88
  t171 := Tryz.underlying217
  a171 := Tryz.isAgg217
  z171 := Tryz.sizeOf217
  v171 := Tryz.zeroValue217
  t173 := Tryz.underlying219
  a173 := Tryz.isAgg219
  z173 := Tryz.sizeOf219
  v173 := Tryz.zeroValue219
  t212 := Tryz.underlying227
  a212 := Tryz.isAgg227
  z212 := Tryz.sizeOf227
  v212 := Tryz.zeroValue227
  t213 := Tryz.underlying228
  a213 := Tryz.isAgg228
  z213 := Tryz.sizeOf228
  t232 := Tryz.underlying246
  a232 := Tryz.isAgg246
  z232 := Tryz.sizeOf246
  v232 := Tryz.zeroValue246
  t233 := Tryz.underlying247
  a233 := Tryz.isAgg247
  z233 := Tryz.sizeOf247
  v233 := Tryz.zeroValue247
  g17 := by kernel_rfl
  g18 := by kernel_rfl
  g19 := by kernel_rfl
  i0 := by kernel_rfl
  i2 := by kernel_rfl
  i3 := by kernel_rfl
  i4 := by kernel_rfl
  i5 := by kernel_rfl
  i9 := by kernel_rfl
  i20 := by kernel_rfl
  i37 := by kernel_rfl
  i46 := by kernel_rfl
  i51 := by kernel_rfl
  i53 := by kernel_rfl
  i171 := by kernel_rfl
  i173 := by kernel_rfl
  i212 := by kernel_rfl
  i232 := by kernel_rfl
  i233 := by kernel_rfl
  m17 := by kernel_rfl
  m18 := by kernel_rfl
  m19 := by kernel_rfl }
def Tryz.laysC172_ren : Go.Shelf.Ren := ⟨fun | 172 => 149 | 244 => 168 | 245 => 169 | 247 => 181 | 279 => 182 | 280 => 183 | 281 => 184 | 282 => 185 | 287 => 170 | 316 => 191 | 171 => 48 | 205 => 192 | 321 => 186 | 322 => 187 | 243 => 100 | 246 => 141 | 283 => 158 | 284 => 159 | 285 => 160 | 286 => 161 | 129 => 128 | 317 => 172 | 318 => 173 | 319 => 174 | 320 => 175 | 337 => 188 | 338 => 189 | n => n, fun | 9 => 9 | 3 => 3 | 75 => 110 | 76 => 111 | 4 => 4 | 5 => 5 | 167 => 230 | 37 => 52 | 0 => 0 | 85 => 231 | 2 => 2 | 168 => 233 | 53 => 88 | 175 => 208 | 46 => 171 | 210 => 244 | 127 => 172 | 145 => 250 | 143 => 248 | 21 => 21 | 171 => 217 | 173 => 219 | 212 => 227 | 51 => 182 | 20 => 20 | 213 => 228 | 232 => 246 | 233 => 247 | 80 => 124 | n => n, fun | 15 => 7 | 16 => 8 | 17 => 4 | 18 => 9 | 19 => 10 | n => n⟩
theorem Tryz.laysC172 : Go.Proofs.LaysC.n172 Tryz.prog Tryz.laysC172_ren := {
  mixed := by kernel_rfl
  f129 := Tryz.func128.trans (congrArg some (by kernel_rfl))
  f171 := Tryz.func48.trans (congrArg some (by kernel_rfl))
  f172 := Tryz.func149.trans (congrArg some (by kernel_rfl))
  f205 := Tryz.func192.trans (congrArg some (by kernel_rfl))
  f243 := Tryz.func100.trans (congrArg some (by kernel_rfl))
  f244 := Tryz.func168.trans (congrArg some (by kernel_rfl))
  f245 := Tryz.func169.trans (congrArg some (by kernel_rfl))
  f246 := Tryz.func141.trans (congrArg some (by kernel_rfl))
  f247 := Tryz.func181.trans (congrArg some (by kernel_rfl))
  f279 := Tryz.func182.trans (congrArg some (by kernel_rfl))
  f280 := Tryz.func183.trans (congrArg some (by kernel_rfl))
  f281 := Tryz.func184.trans (congrArg some (by kernel_rfl))
  f282 := Tryz.func185.trans (congrArg some (by kernel_rfl))
  f283 := Tryz.func158.trans (congrArg some (by kernel_rfl))
  f284 := Tryz.func159.trans (congrArg some (by kernel_rfl))
  f285 := Tryz.func160.trans (congrArg some (by kernel_rfl))
  f286 := Tryz.func161.trans (congrArg some (by kernel_rfl))
  f287 := Tryz.func170.trans (congrArg some (by kernel_rfl))
  f316 := Tryz.func191.trans (congrArg some (by kernel_rfl))
  f317 := Tryz.func172.trans (congrArg some (by kernel_rfl))
  f318 := Tryz.func173.trans (congrArg some (by kernel_rfl))
  f319 := Tryz.func174.trans (congrArg some (by kernel_rfl))
  f320 := Tryz.func175.trans (congrArg some (by kernel_rfl))
  f321 := Tryz.func186.trans (congrArg some (by kernel_rfl))
  f322 := Tryz.func187.trans (congrArg some (by kernel_rfl))
  f337 := Tryz.func188.trans (congrArg some (by kernel_rfl))
  f338 := Tryz.func189.trans (congrArg some (by kernel_rfl))
  t0 := Tryz.underlying0
  a0 := Tryz.isAgg0
  z0 := Tryz.sizeOf0
  v0 := Tryz.zeroValue0
  t2 := Tryz.underlying2
  a2 := Tryz.isAgg2
  z2 := Tryz.sizeOf2
  v2 := Tryz.zeroValue2
  t3 := Tryz.underlying3
  a3 := Tryz.isAgg3
  z3 := Tryz.sizeOf3
  v3 := Tryz.zeroValue3
  t4 := Tryz.underlying4
  a4 := Tryz.isAgg4
  z4 := Tryz.sizeOf4
  v4 := Tryz.zeroValue4
  t5 := Tryz.underlying5
  a5 := Tryz.isAgg5
  z5 := Tryz.sizeOf5
  v5 := Tryz.zeroValue5
  t9 := Tryz.underlying9
  a9 := Tryz.isAgg9
  z9 := Tryz.sizeOf9
  v9 := Tryz.zeroValue9
  t20 := Tryz.underlying20
  a20 := Tryz.isAgg20
  z20 := Tryz.sizeOf20
  v20 := Tryz.zeroValue20
  t21 := Tryz.underlying21
  a21 := Tryz.isAgg21
  z21 := Tryz.sizeOf21
  v21 := Tryz.zeroValue21
  t37 := Tryz.underlying52
  a37 := Tryz.isAgg52
  z37 := Tryz.sizeOf52
  v37 := Tryz.zeroValue52
  t46 := Tryz.underlying171
  a46 := Tryz.isAgg171
  z46 := Tryz.sizeOf171
  v46 := Tryz.zeroValue171
  t51 := Tryz.underlying182
  a51 := Tryz.isAgg182
  z51 := Tryz.sizeOf182
  v51 := Tryz.zeroValue182
  t53 := Tryz.underlying88
  a53 := Tryz.isAgg88
  z53 := Tryz.sizeOf88
  v53 := Tryz.zeroValue88
  t75 := Tryz.underlying110
  a75 := Tryz.isAgg110
  z75 := Tryz.sizeOf110
  v75 := Tryz.zeroValue110
  t76 := Tryz.underlying111
  a76 := Tryz.isAgg111
  z76 := Tryz.sizeOf111
  v76 := Tryz.zeroValue111
  t85 := Tryz.underlying231
  a85 := Tryz.isAgg231
  z85 := Tryz.sizeOf231
  v85 := Tryz.zeroValue231
  t127 := Tryz.underlying172
  a127 := Tryz.isAgg172
  z127 := Tryz.sizeOf172
  v127 := Tryz.zeroValue172
  t143 := Tryz.underlying248
  a143 := Tryz.isAgg248
  z143 := Tryz.sizeOf248
  v143 := Tryz.zeroValue248
  t145 := Tryz.underlying250
  a145 := Tryz.isAgg250
  z145 := Tryz.sizeOf250
  v145 := Tryz.zeroValue250
  t167 := Tryz.underlying230
  a167 := Tryz.isAgg230
  z167 := Tryz.sizeOf230
  v167 := Tryz.zeroValue230
  t168 := Tryz.underlying233
  a168 := Tryz.isAgg233
  z168 := Tryz.sizeOf233
  v168 := Tryz.zeroValue233
  t171 := Tryz.underlying217
  a171 := Tryz.isAgg217
  z171 := Tryz.sizeOf217
  v171 := Tryz.zeroValue217
  t173 := Tryz.underlying219
  a173 := Tryz.isAgg219
  z173 := Tryz.sizeOf219
  v173 := Tryz.zeroValue219
  t175 := Tryz.underlying208
  a175 := Tryz.isAgg208
  z175 := Tryz.sizeOf208
  v175 := Tryz.zeroValue208
  t210 := Tryz.underlying244
  a210 := Tryz.isAgg244
  z210 := Tryz.sizeOf244
  v210 := Tryz.zeroValue244
  t212 := Tryz.underlying227
  a212 := Tryz.isAgg227
  z212 := Tryz.sizeOf227
  v212 := Tryz.zeroValue227
  t213 := Tryz.underlying228
  a213 := Tryz.isAgg228
  z213 := Tryz.sizeOf228
  t232 := Tryz.underlying246
  a232 := Tryz.isAgg246
  z232 := Tryz.sizeOf246
  v232 := Tryz.zeroValue246
  t233 := Tryz.underlying247
  a233 := Tryz.isAgg247
  z233 := Tryz.sizeOf247
  v233 := Tryz.zeroValue247
  g15 := by kernel_rfl
  g16 := by kernel_rfl
  g17 := by kernel_rfl
  g18 := by kernel_rfl
  g19 := by kernel_rfl
  t80 := Tryz.underlying124
  a80 := Tryz.isAgg124
  z80 := Tryz.sizeOf124
  v80 := Tryz.zeroValue124
  i0 := by kernel_rfl
  i2 := by kernel_rfl
  i3 := by kernel_rfl
  i4 := by kernel_rfl
  i5 := by kernel_rfl
  i9 := by kernel_rfl
  i20 := by kernel_rfl
  i21 := by kernel_rfl
  i37 := by kernel_rfl
  i46 := by kernel_rfl
  i51 := by kernel_rfl
  i53 := by kernel_rfl
  i75 := by kernel_rfl
  i76 := by kernel_rfl
  i80 := by kernel_rfl
  i85 := by kernel_rfl
  i127 := by kernel_rfl
  i143 := by kernel_rfl
  i145 := by kernel_rfl
  i167 := by kernel_rfl
  i168 := by kernel_rfl
  i171 := by kernel_rfl
  i173 := by kernel_rfl
  i175 := by kernel_rfl
  i210 := by kernel_rfl
  i212 := by kernel_rfl
  i232 := by kernel_rfl
  i233 := by kernel_rfl
  m15 := by kernel_rfl
  m16 := by kernel_rfl
  m17 := by kernel_rfl
  m18 := by kernel_rfl
  m19 := by kernel_rfl
  c0 := by kernel_rfl
  c2 := by kernel_rfl
  c3 := by kernel_rfl
  c4 := by kernel_rfl
  c5 := by kernel_rfl
  c9 := by kernel_rfl
  c20 := by kernel_rfl
  c21 := by kernel_rfl
  c37 := by kernel_rfl
  c46 := by kernel_rfl
  c51 := by kernel_rfl
  c53 := by kernel_rfl
  c75 := by kernel_rfl
  c76 := by kernel_rfl
  c80 := by kernel_rfl
  c85 := by kernel_rfl
  c127 := by kernel_rfl
  c143 := by kernel_rfl
  c145 := by kernel_rfl
  c167 := by kernel_rfl
  c168 := by kernel_rfl
  c171 := by kernel_rfl
  c173 := by kernel_rfl
  c175 := by kernel_rfl
  c210 := by kernel_rfl
  c212 := by kernel_rfl
  c213 := by kernel_rfl
  c232 := by kernel_rfl
  c233 := by kernel_rfl }
def Tryz.lays138_ren : Go.Shelf.Ren := ⟨fun | 138 => 145 | 195 => 162 | 218 => 164 | 143 => 146 | 219 => 165 | 217 => 147 | 225 => 177 | 224 => 178 | 267 => 179 | 266 => 166 | 314 => 190 | n => n, fun | 9 => 9 | 3 => 3 | 4 => 4 | 5 => 5 | 0 => 0 | 46 => 171 | 146 => 241 | 51 => 182 | n => n, fun | 1 => 1 | n => n⟩
theorem Tryz.lays138 : Go.Proofs.Lays.n138 Tryz.prog Tryz.lays138_ren := {
  mixed := by kernel_rfl
  f138 := Tryz.func145.trans (congrArg some (by kernel_rfl))
  f143 := Tryz.func146.trans (congrArg some (by kernel_rfl))
  f195 := Tryz.func162.trans (congrArg some (by kernel_rfl))
  f217 := Tryz.func147.trans (congrArg some (by kernel_rfl))
  f218 := Tryz.func164.trans (congrArg some (by kernel_rfl))
  f219 := Tryz.func165.trans (congrArg some (by kernel_rfl))
  f224 := Tryz.func178.trans (congrArg some (by kernel_rfl))
  f225 := Tryz.func177.trans (congrArg some (by kernel_rfl))
  f266 := Tryz.func166.trans (congrArg some (by kernel_rfl))
  f267 := Tryz.func179.trans (congrArg some (by kernel_rfl))
  f314 := Tryz.func190.trans (congrArg some (by kernel_rfl))
  t0 := Tryz.underlying0
  a0 := Tryz.isAgg0
  z0 := Tryz.sizeOf0
  v0 := Tryz.zeroValue0
  t3 := Tryz.underlying3
  a3 := Tryz.isAgg3
  z3 := Tryz.sizeOf3
  v3 := Tryz.zeroValue3
  t4 := Tryz.underlying4
  a4 := Tryz.isAgg4
  z4 := Tryz.sizeOf4
  v4 := Tryz.zeroValue4
  t5 := Tryz.underlying5
  a5 := Tryz.isAgg5
  z5 := Tryz.sizeOf5
  v5 := Tryz.zeroValue5
  t9 := Tryz.underlying9
  a9 := Tryz.isAgg9
  z9 := Tryz.sizeOf9
  v9 := Tryz.zeroValue9
  t46 := Tryz.underlying171
  a46 := Tryz.isAgg171
  z46 := Tryz.sizeOf171
  v46 := Tryz.zeroValue171
  t51 := Tryz.underlying182
  a51 := Tryz.isAgg182
  z51 := Tryz.sizeOf182
  v51 := Tryz.zeroValue182
  t146 := Tryz.underlying241
  a146 := Tryz.isAgg241
  z146 := Tryz.sizeOf241
  v146 := Tryz.zeroValue241
  g1 := by kernel_rfl }
def Tryz.lays240_ren : Go.Shelf.Ren := ⟨fun | 240 => 99 | 276 => 140 | n => n, fun | 0 => 0 | 4 => 4 | 9 => 9 | 20 => 20 | 70 => 106 | 72 => 108 | 164 => 198 | 37 => 52 | n => n, fun | n => n⟩
theorem Tryz.lays240 : Go.Proofs.Lays.n240 Tryz.prog Tryz.lays240_ren := {
  mixed := by kernel_rfl
  f240 := Tryz.func99.trans (congrArg some (by kernel_rfl))
  f276 := Tryz.func140.trans (congrArg some (by kernel_rfl))
  t0 := Tryz.underlying0
  a0 := Tryz.isAgg0
  z0 := Tryz.sizeOf0
  v0 := Tryz.zeroValue0
  t4 := Tryz.underlying4
  a4 := Tryz.isAgg4
  z4 := Tryz.sizeOf4
  v4 := Tryz.zeroValue4
  t9 := Tryz.underlying9
  a9 := Tryz.isAgg9
  z9 := Tryz.sizeOf9
  v9 := Tryz.zeroValue9
  t20 := Tryz.underlying20
  a20 := Tryz.isAgg20
  z20 := Tryz.sizeOf20
  v20 := Tryz.zeroValue20
  t70 := Tryz.underlying106
  a70 := Tryz.isAgg106
  z70 := Tryz.sizeOf106
  v70 := Tryz.zeroValue106
  t72 := Tryz.underlying108
  a72 := Tryz.isAgg108
  z72 := Tryz.sizeOf108
  v72 := Tryz.zeroValue108
  t164 := Tryz.underlying198
  a164 := Tryz.isAgg198
  z164 := Tryz.sizeOf198
  v164 := Tryz.zeroValue198 }
end Go.Proofs.YtnfoiocigicdnaaGreatDoor
