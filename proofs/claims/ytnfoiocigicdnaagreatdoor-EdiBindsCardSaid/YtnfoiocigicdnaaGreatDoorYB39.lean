/-
  Part 39.
-/
import Derived.Test.YtnfoiocigicdnaaGreatDoorProg
import Derived.Test.YtnfoiocigicdnaaGreatDoorYB38
namespace Go.Proofs.YtnfoiocigicdnaaGreatDoor
open Go.Rv
set_option linter.unusedVariables false
set_option linter.unusedSimpArgs false
set_option maxRecDepth 20000
def glob0 : Arr (List UInt8) 16 := ⟨[[], [82, 69, 65, 68], [83, 84, 65, 89], [68, 69, 76, 73, 86, 69, 82], [82, 69, 67, 69, 73, 86, 69], [87, 65, 89, 66, 73, 76, 76], [80, 76, 65, 67, 69, 68], [82, 69, 76, 69, 65, 83, 69, 68], [68, 65, 77, 65, 71, 69, 68], [82, 69, 80, 65, 73, 82, 69, 68], [82, 69, 67, 65, 76, 76], [84, 65, 82, 73, 70, 70], [65, 77, 69, 78, 68], [67, 65, 78, 67, 69, 76], [82, 69, 84, 82, 65, 67, 84], [79, 82, 68, 69, 82]], rfl⟩
attribute [go_sem_proc] reduceIte Nat.reduceLT Nat.reduceEqDiff Nat.reduceAdd Nat.reduceBEq Nat.reduceMul Nat.reduceSub Nat.reduceGT Nat.reducePow Nat.reduceLeDiff Int.reduceToNat
noncomputable def B : Base := Aep Tryz.prog (fun i => if i = 0 then some (C1 AV.str glob0.l) else if i = 7 then some [.iface 248 .junk] else if i = 8 then some [.iface 248 .junk] else none) (fun f => [29, 46, 47, 49, 50, 51, 52, 53, 54, 59, 68, 71, 81, 83, 84, 99, 116, 117, 118].contains f) (fun _ => none) (fun i => if i = 4 then some ((Lib.pow10Tab).map fun z => Value.int .u64 z).toArray else none) (some 108) true (fun _ _ => rfl)
theorem ok : B.Ok := Acg _ _ _ _ _ _ _ _
theorem lm0 (F : Addr → Prop) : (B.env F).lm = true := rfl
attribute [go_sem] lm0
theorem own3 (F : Addr → Prop) : (B.env F).own 3 = false := rfl
attribute [go_sem] own3
theorem own4 (F : Addr → Prop) : (B.env F).own 4 = false := rfl
attribute [go_sem] own4
theorem own5 (F : Addr → Prop) : (B.env F).own 5 = false := rfl
attribute [go_sem] own5
theorem own6 (F : Addr → Prop) : (B.env F).own 6 = false := rfl
attribute [go_sem] own6
theorem own7 (F : Addr → Prop) : (B.env F).own 7 = false := rfl
attribute [go_sem] own7
theorem own8 (F : Addr → Prop) : (B.env F).own 8 = false := rfl
attribute [go_sem] own8
theorem Aph (F : Addr → Prop) : (B.env F).own 11 = false := rfl
attribute [go_sem] Aph
theorem Anp (F : Addr → Prop) : (B.env F).own 12 = false := rfl
attribute [go_sem] Anp
theorem AoA (F : Addr → Prop) : (B.env F).own 14 = false := rfl
attribute [go_sem] AoA
theorem AnZ (F : Addr → Prop) : (B.env F).own 15 = false := rfl
attribute [go_sem] AnZ
theorem Aon (F : Addr → Prop) : (B.env F).own 16 = false := rfl
attribute [go_sem] Aon
theorem AoH (F : Addr → Prop) : (B.env F).own 18 = false := rfl
attribute [go_sem] AoH
theorem Anf (F : Addr → Prop) : (B.env F).own 19 = false := rfl
attribute [go_sem] Anf
theorem AoY (F : Addr → Prop) : (B.env F).own 20 = false := rfl
attribute [go_sem] AoY
theorem AoX (F : Addr → Prop) : (B.env F).own 21 = false := rfl
attribute [go_sem] AoX
theorem Ao3 (F : Addr → Prop) : (B.env F).own 22 = false := rfl
attribute [go_sem] Ao3
theorem Apj (F : Addr → Prop) : (B.env F).own 23 = false := rfl
attribute [go_sem] Apj
theorem Apq (F : Addr → Prop) : (B.env F).own 24 = false := rfl
attribute [go_sem] Apq
theorem Am9 (F : Addr → Prop) : (B.env F).own 25 = false := rfl
attribute [go_sem] Am9
theorem Anj (F : Addr → Prop) : (B.env F).own 26 = false := rfl
attribute [go_sem] Anj
theorem Apf (F : Addr → Prop) : (B.env F).own 27 = false := rfl
attribute [go_sem] Apf
theorem AnL (F : Addr → Prop) : (B.env F).own 28 = false := rfl
attribute [go_sem] AnL
theorem AnD (F : Addr → Prop) : (B.env F).own 29 = true := rfl
attribute [go_sem] AnD
theorem AnF (F : Addr → Prop) : (B.env F).own 30 = false := rfl
attribute [go_sem] AnF
theorem Apx (F : Addr → Prop) : (B.env F).own 31 = false := rfl
attribute [go_sem] Apx
theorem Apb (F : Addr → Prop) : (B.env F).own 32 = false := rfl
attribute [go_sem] Apb
theorem AoQ (F : Addr → Prop) : (B.env F).own 33 = false := rfl
attribute [go_sem] AoQ
theorem Apz (F : Addr → Prop) : (B.env F).own 34 = false := rfl
attribute [go_sem] Apz
theorem Anb (F : Addr → Prop) : (B.env F).own 35 = false := rfl
attribute [go_sem] Anb
theorem AoC (F : Addr → Prop) : (B.env F).own 36 = false := rfl
attribute [go_sem] AoC
theorem Anr (F : Addr → Prop) : (B.env F).own 39 = false := rfl
attribute [go_sem] Anr
theorem Ao0 (F : Addr → Prop) : (B.env F).own 40 = false := rfl
attribute [go_sem] Ao0
theorem AoE (F : Addr → Prop) : (B.env F).own 41 = false := rfl
attribute [go_sem] AoE
theorem An3 (F : Addr → Prop) : (B.env F).own 46 = true := rfl
attribute [go_sem] An3
theorem AoB (F : Addr → Prop) : (B.env F).own 47 = true := rfl
attribute [go_sem] AoB
theorem AnO (F : Addr → Prop) : (B.env F).own 48 = false := rfl
attribute [go_sem] AnO
theorem AoS (F : Addr → Prop) : (B.env F).own 49 = true := rfl
attribute [go_sem] AoS
theorem AoT (F : Addr → Prop) : (B.env F).own 50 = true := rfl
attribute [go_sem] AoT
theorem Aoh (F : Addr → Prop) : (B.env F).own 51 = true := rfl
attribute [go_sem] Aoh
theorem Anh (F : Addr → Prop) : (B.env F).own 52 = true := rfl
attribute [go_sem] Anh
theorem AoW (F : Addr → Prop) : (B.env F).own 53 = true := rfl
attribute [go_sem] AoW
theorem Anq (F : Addr → Prop) : (B.env F).own 54 = true := rfl
attribute [go_sem] Anq
theorem AnR (F : Addr → Prop) : (B.env F).own 55 = false := rfl
attribute [go_sem] AnR
theorem AnY (F : Addr → Prop) : (B.env F).own 56 = false := rfl
attribute [go_sem] AnY
theorem Apg (F : Addr → Prop) : (B.env F).own 57 = false := rfl
attribute [go_sem] Apg
theorem Ans (F : Addr → Prop) : (B.env F).own 58 = false := rfl
attribute [go_sem] Ans
theorem Aps (F : Addr → Prop) : (B.env F).own 59 = true := rfl
attribute [go_sem] Aps
theorem AoN (F : Addr → Prop) : (B.env F).own 60 = false := rfl
attribute [go_sem] AoN
theorem AnP (F : Addr → Prop) : (B.env F).own 61 = false := rfl
attribute [go_sem] AnP
theorem Apd (F : Addr → Prop) : (B.env F).own 62 = false := rfl
attribute [go_sem] Apd
theorem Apa (F : Addr → Prop) : (B.env F).own 63 = false := rfl
attribute [go_sem] Apa
theorem AnJ (F : Addr → Prop) : (B.env F).own 64 = false := rfl
attribute [go_sem] AnJ
theorem Ang (F : Addr → Prop) : (B.env F).own 65 = false := rfl
attribute [go_sem] Ang
theorem AoG (F : Addr → Prop) : (B.env F).own 66 = false := rfl
attribute [go_sem] AoG
theorem AoJ (F : Addr → Prop) : (B.env F).own 67 = false := rfl
attribute [go_sem] AoJ
theorem Anu (F : Addr → Prop) : (B.env F).own 68 = true := rfl
attribute [go_sem] Anu
theorem Ani (F : Addr → Prop) : (B.env F).own 69 = false := rfl
attribute [go_sem] Ani
theorem AnQ (F : Addr → Prop) : (B.env F).own 70 = false := rfl
attribute [go_sem] AnQ
theorem An9 (F : Addr → Prop) : (B.env F).own 71 = true := rfl
attribute [go_sem] An9
theorem Apv (F : Addr → Prop) : (B.env F).own 72 = false := rfl
attribute [go_sem] Apv
theorem Aoa (F : Addr → Prop) : (B.env F).own 73 = false := rfl
attribute [go_sem] Aoa
theorem Aov (F : Addr → Prop) : (B.env F).own 74 = false := rfl
attribute [go_sem] Aov
theorem Api (F : Addr → Prop) : (B.env F).own 75 = false := rfl
attribute [go_sem] Api
theorem AoF (F : Addr → Prop) : (B.env F).own 76 = false := rfl
attribute [go_sem] AoF
theorem Aoc (F : Addr → Prop) : (B.env F).own 77 = false := rfl
attribute [go_sem] Aoc
theorem Ant (F : Addr → Prop) : (B.env F).own 78 = false := rfl
attribute [go_sem] Ant
theorem AoL (F : Addr → Prop) : (B.env F).own 79 = false := rfl
attribute [go_sem] AoL
theorem Aog (F : Addr → Prop) : (B.env F).own 80 = false := rfl
attribute [go_sem] Aog
theorem Aoi (F : Addr → Prop) : (B.env F).own 81 = true := rfl
attribute [go_sem] Aoi
theorem An8 (F : Addr → Prop) : (B.env F).own 83 = true := rfl
attribute [go_sem] An8
theorem Am7 (F : Addr → Prop) : (B.env F).own 84 = true := rfl
attribute [go_sem] Am7
theorem Am8 (F : Addr → Prop) : (B.env F).own 87 = false := rfl
attribute [go_sem] Am8
theorem Aos (F : Addr → Prop) : (B.env F).own 98 = false := rfl
attribute [go_sem] Aos
theorem AnC (F : Addr → Prop) : (B.env F).own 99 = true := rfl
attribute [go_sem] AnC
theorem Amh (F : Addr → Prop) : (B.env F).own 101 = false := rfl
attribute [go_sem] Amh
theorem Amx (F : Addr → Prop) : (B.env F).own 102 = false := rfl
attribute [go_sem] Amx
theorem AkJ (F : Addr → Prop) : (B.env F).own 103 = false := rfl
attribute [go_sem] AkJ
theorem Amu (F : Addr → Prop) : (B.env F).own 104 = false := rfl
attribute [go_sem] Amu
theorem AmE (F : Addr → Prop) : (B.env F).own 105 = false := rfl
attribute [go_sem] AmE
theorem Amc (F : Addr → Prop) : (B.env F).own 106 = false := rfl
attribute [go_sem] Amc
theorem Ale (F : Addr → Prop) : (B.env F).own 107 = false := rfl
attribute [go_sem] Ale
theorem Akr (F : Addr → Prop) : (B.env F).own 108 = false := rfl
attribute [go_sem] Akr
theorem Alo (F : Addr → Prop) : (B.env F).own 109 = false := rfl
attribute [go_sem] Alo
theorem AmU (F : Addr → Prop) : (B.env F).own 110 = false := rfl
attribute [go_sem] AmU
theorem Aj4 (F : Addr → Prop) : (B.env F).own 111 = false := rfl
attribute [go_sem] Aj4
theorem Akb (F : Addr → Prop) : (B.env F).own 112 = false := rfl
attribute [go_sem] Akb
theorem AlW (F : Addr → Prop) : (B.env F).own 113 = false := rfl
attribute [go_sem] AlW
theorem AmR (F : Addr → Prop) : (B.env F).own 114 = false := rfl
attribute [go_sem] AmR
theorem AjN (F : Addr → Prop) : (B.env F).own 115 = false := rfl
attribute [go_sem] AjN
theorem Alr (F : Addr → Prop) : (B.env F).own 116 = true := rfl
attribute [go_sem] Alr
theorem AmQ (F : Addr → Prop) : (B.env F).own 117 = true := rfl
attribute [go_sem] AmQ
theorem AkG (F : Addr → Prop) : (B.env F).own 118 = true := rfl
attribute [go_sem] AkG
theorem Ams (F : Addr → Prop) : (B.env F).own 128 = false := rfl
attribute [go_sem] Ams
theorem AjL (F : Addr → Prop) : (B.env F).own 142 = false := rfl
attribute [go_sem] AjL
theorem Alj (F : Addr → Prop) : (B.env F).own 143 = false := rfl
attribute [go_sem] Alj
theorem AkO (F : Addr → Prop) : (B.env F).own 145 = false := rfl
attribute [go_sem] AkO
theorem Alw (F : Addr → Prop) : (B.env F).own 146 = false := rfl
attribute [go_sem] Alw
theorem AlY (F : Addr → Prop) : (B.env F).own 147 = false := rfl
attribute [go_sem] AlY
theorem Akt (F : Addr → Prop) : (B.env F).own 149 = false := rfl
attribute [go_sem] Akt
theorem AlA (F : Addr → Prop) : (B.env F).own 150 = false := rfl
attribute [go_sem] AlA
theorem AmV (F : Addr → Prop) : (B.env F).own 151 = false := rfl
attribute [go_sem] AmV
theorem Alf (F : Addr → Prop) : (B.env F).own 152 = false := rfl
attribute [go_sem] Alf
theorem Aln (F : Addr → Prop) : (B.env F).own 165 = false := rfl
attribute [go_sem] Aln
theorem AmB (F : Addr → Prop) : (B.env F).own 166 = false := rfl
attribute [go_sem] AmB
theorem Akx (F : Addr → Prop) : (B.env F).own 170 = false := rfl
attribute [go_sem] Akx
theorem AjE (F : Addr → Prop) : (B.env F).own 186 = false := rfl
attribute [go_sem] AjE
theorem mixed : Tryz.prog.follows .mixedOrders = true := by kernel_rfl
structure Strings_Builder where
  addr : Unit
  buf : List UInt8
  deriving DecidableEq, Inhabited
def O3 (x : Strings_Builder) : List AV := [.val (.pointer none), .sl false (L cU8 x.buf)]
attribute [go_sem] O3
structure Api_Ref where
  Railway : Int
  No : Int
  deriving DecidableEq, Inhabited
def Abw (x : Api_Ref) : List AV := [i64 x.Railway, i64 x.No]
attribute [go_sem] Abw
structure Api_Part where
  Kind : Int
  Serial : Int
  Fitted : Bool
  deriving DecidableEq, Inhabited
def Ab (x : Api_Part) : List AV := [i64 x.Kind, i64 x.Serial, .bool x.Fitted]
attribute [go_sem] Ab
structure Api_Item where
  Kind : Int
  Ref : Api_Ref
  Wagon : Int
  Place : Int
  Other : Int
  Number : Int
  From : Int
  To : Int
  Code : Int
  Dest : Int
  Class : Int
  Weight : Int
  Amount : Int
  Text : List UInt8
  Parts : List Api_Part
  deriving DecidableEq, Inhabited
def Xi (x : Api_Item) : List AV := [i64 x.Kind, i64 x.Ref.Railway, i64 x.Ref.No, i64 x.Wagon, i64 x.Place, i64 x.Other, i64 x.Number, i64 x.From, i64 x.To, i64 x.Code, i64 x.Dest, i64 x.Class, i64 x.Weight, i64 x.Amount, .str x.Text, .sl false (L Ab x.Parts)]
attribute [go_sem] Xi
inductive Api_Value where
  | mk (Kind : Int) (N : Int) (B : List UInt8) (L : List Api_Value)
instance : Inhabited Api_Value := ⟨.mk default default default default⟩
def Api_Value.Kind (x : Api_Value) : Int := match x with
  | .mk a _ _ _ => a
theorem Sh {x0 : Int} {x1 : Int} {x2 : List UInt8} {x3 : List Api_Value} : (Api_Value.mk x0 x1 x2 x3).Kind = x0 := rfl
attribute [go_sem] Sh
def Api_Value.N (x : Api_Value) : Int := match x with
  | .mk _ a _ _ => a
theorem Aah {x0 : Int} {x1 : Int} {x2 : List UInt8} {x3 : List Api_Value} : (Api_Value.mk x0 x1 x2 x3).N = x1 := rfl
attribute [go_sem] Aah
def Api_Value.B (x : Api_Value) : List UInt8 := match x with
  | .mk _ _ a _ => a
theorem Aai {x0 : Int} {x1 : Int} {x2 : List UInt8} {x3 : List Api_Value} : (Api_Value.mk x0 x1 x2 x3).B = x2 := rfl
attribute [go_sem] Aai
def Api_Value.L (x : Api_Value) : List Api_Value := match x with
  | .mk _ _ _ a => a
theorem Aaj {x0 : Int} {x1 : Int} {x2 : List UInt8} {x3 : List Api_Value} : (Api_Value.mk x0 x1 x2 x3).L = x3 := rfl
attribute [go_sem] Aaj
noncomputable def cApi_Value (v : Api_Value) : List AV := Api_Value.rec (motive_1 := fun _ => List AV) (motive_2 := fun _ => List (List AV)) (fun Kind_ N_ B_ L_ ih3 => [i64 Kind_, i64 N_, .sl false (L cU8 B_), .sl false ih3]) [] (fun _ _ x l => x :: l) v
theorem Wx (l : List Api_Value) : Api_Value.rec_1 (motive_1 := fun _ => List AV) (motive_2 := fun _ => List (List AV)) (fun Kind_ N_ B_ L_ ih3 => [i64 Kind_, i64 N_, .sl false (L cU8 B_), .sl false ih3]) [] (fun _ _ x l => x :: l) l = L cApi_Value l := by
  induction l with
  | nil => rfl
  | cons x l ih => exact congrArg (cApi_Value x :: ·) ih
theorem Mz (x : Api_Value) : cApi_Value x = [i64 x.Kind, i64 x.N, .sl false (L cU8 x.B), .sl false (L cApi_Value x.L)] := by
  cases x with
  | mk a0 a1 a2 a3 =>
    show [i64 a0, i64 a1, .sl false (L cU8 a2), .sl false (Api_Value.rec_1 (motive_1 := fun _ => List AV) (motive_2 := fun _ => List (List AV)) (fun Kind_ N_ B_ L_ ih3 => [i64 Kind_, i64 N_, .sl false (L cU8 B_), .sl false ih3]) [] (fun _ _ x l => x :: l) a3)] = _
    rw [Wx]; rfl
attribute [go_sem] Mz
structure Codec_decoder where
  b : List UInt8
  deriving DecidableEq, Inhabited
def R4 (x : Codec_decoder) : List AV := [.sl false (L cU8 x.b)]
attribute [go_sem] R4
structure Api_Deframer where
  Rest : List UInt8
  In : Bool
  Escape : Bool
  Bad : Bool
  deriving DecidableEq, Inhabited
def Tt (x : Api_Deframer) : List AV := [.sl false (L cU8 x.Rest), .bool x.In, .bool x.Escape, .bool x.Bad]
attribute [go_sem] Tt
structure Api_Place where
  Kind : Int
  Railway : Int
  Other : Int
  deriving DecidableEq, Inhabited
def Ah (x : Api_Place) : List AV := [i64 x.Kind, i64 x.Railway, i64 x.Other]
attribute [go_sem] Ah
structure Api_Edge where
  A : Int
  B : Int
  Railway : Int
  Minutes : Int
  Km : Int
  deriving DecidableEq, Inhabited
def Ap (x : Api_Edge) : List AV := [i64 x.A, i64 x.B, i64 x.Railway, i64 x.Minutes, i64 x.Km]
attribute [go_sem] Ap
structure Api_Network where
  Places : List Api_Place
  Edges : List Api_Edge
  deriving DecidableEq, Inhabited
def Xr (x : Api_Network) : List AV := [.sl false (L Ah x.Places), .sl false (L Ap x.Edges)]
attribute [go_sem] Xr
structure Api_WagonType where
  Load : Int
  Tare : Int
  Length : Int
  Gauge : Int
  Brake : Int
  Classes : UInt64
  Life : Int
  Floor : Int
  deriving DecidableEq, Inhabited
def Ai (x : Api_WagonType) : List AV := [i64 x.Load, i64 x.Tare, i64 x.Length, i64 x.Gauge, i64 x.Brake, u64 x.Classes, i64 x.Life, i64 x.Floor]
attribute [go_sem] Ai
structure Api_Wagon where
  Type_ : Int
  Owner : Int
  Home : Int
  Built : Int
  Worth : Int
  deriving DecidableEq, Inhabited
def An (x : Api_Wagon) : List AV := [i64 x.Type_, i64 x.Owner, i64 x.Home, i64 x.Built, i64 x.Worth]
attribute [go_sem] An
structure Api_Swap where
  Wanted : Int
  Given : Int
  Cost : Int
  deriving DecidableEq, Inhabited
def A8 (x : Api_Swap) : List AV := [i64 x.Wanted, i64 x.Given, i64 x.Cost]
attribute [go_sem] A8
structure Api_Wash where
  From : Int
  To : Int
  Minutes : Int
  deriving DecidableEq, Inhabited
def A6 (x : Api_Wash) : List AV := [i64 x.From, i64 x.To, i64 x.Minutes]
attribute [go_sem] A6
structure Api_Fleet where
  Types : List Api_WagonType
  Wagons : List Api_Wagon
  Swaps : List Api_Swap
  Washes : List Api_Wash
  deriving DecidableEq, Inhabited
def AcT (x : Api_Fleet) : List AV := [.sl false (L Ai x.Types), .sl false (L An x.Wagons), .sl false (L A8 x.Swaps), .sl false (L A6 x.Washes)]
attribute [go_sem] AcT
structure Api_Reader where
  Place : Int
  Low : Int
  High : Int
  deriving DecidableEq, Inhabited
def Am (x : Api_Reader) : List AV := [i64 x.Place, i64 x.Low, i64 x.High]
attribute [go_sem] Am
structure Api_Shipper where
  Place : Int
  deriving DecidableEq, Inhabited
def Al (x : Api_Shipper) : List AV := [i64 x.Place]
attribute [go_sem] Al
structure Api_Span where
  From : Int
  To : Int
  deriving DecidableEq, Inhabited
def AeG (x : Api_Span) : List AV := [i64 x.From, i64 x.To]
attribute [go_sem] AeG
structure Api_Calendar where
  Open : (Api_Span × Api_Span × Api_Span × Api_Span × Api_Span × Api_Span × Api_Span)
  Holidays : List Int
  deriving DecidableEq, Inhabited
def Uz (x : Api_Calendar) : List AV := [i64 x.Open.1.From, i64 x.Open.1.To, i64 x.Open.2.1.From, i64 x.Open.2.1.To, i64 x.Open.2.2.1.From, i64 x.Open.2.2.1.To, i64 x.Open.2.2.2.1.From, i64 x.Open.2.2.2.1.To, i64 x.Open.2.2.2.2.1.From, i64 x.Open.2.2.2.2.1.To, i64 x.Open.2.2.2.2.2.1.From, i64 x.Open.2.2.2.2.2.1.To, i64 x.Open.2.2.2.2.2.2.From, i64 x.Open.2.2.2.2.2.2.To, .sl false (L M8 x.Holidays)]
attribute [go_sem] Uz
structure Api_RailwayInfo where
  Key : UInt64
  Calendar : Api_Calendar
  deriving DecidableEq, Inhabited
def Af (x : Api_RailwayInfo) : List AV := [u64 x.Key, i64 x.Calendar.Open.1.From, i64 x.Calendar.Open.1.To, i64 x.Calendar.Open.2.1.From, i64 x.Calendar.Open.2.1.To, i64 x.Calendar.Open.2.2.1.From, i64 x.Calendar.Open.2.2.1.To, i64 x.Calendar.Open.2.2.2.1.From, i64 x.Calendar.Open.2.2.2.1.To, i64 x.Calendar.Open.2.2.2.2.1.From, i64 x.Calendar.Open.2.2.2.2.1.To, i64 x.Calendar.Open.2.2.2.2.2.1.From, i64 x.Calendar.Open.2.2.2.2.2.1.To, i64 x.Calendar.Open.2.2.2.2.2.2.From, i64 x.Calendar.Open.2.2.2.2.2.2.To, .sl false (L M8 x.Calendar.Holidays)]
attribute [go_sem] Af
structure Api_Pool where
  Network : Api_Network
  Fleet : Api_Fleet
  Readers : List Api_Reader
  Shippers : List Api_Shipper
  Railways : List Api_RailwayInfo
  deriving DecidableEq, Inhabited
def Adh (x : Api_Pool) : List AV := [.sl false (L Ah x.Network.Places), .sl false (L Ap x.Network.Edges), .sl false (L Ai x.Fleet.Types), .sl false (L An x.Fleet.Wagons), .sl false (L A8 x.Fleet.Swaps), .sl false (L A6 x.Fleet.Washes), .sl false (L Am x.Readers), .sl false (L Al x.Shippers), .sl false (L Af x.Railways)]
attribute [go_sem] Adh
theorem tt3 : Dl Tryz.prog 3 = some ⟨.int .i64, 1, 8, [i64 0]⟩ := by kernel_rfl
theorem tb3 (F : Addr → Prop) : (B.env F).tab 3 = some ⟨.int .i64, 1, 8, [i64 0]⟩ := tt3
attribute [go_sem] tb3
theorem tt4 : Dl Tryz.prog 4 = some ⟨.bool, 1, 1, [.bool false]⟩ := by kernel_rfl
theorem tb4 (F : Addr → Prop) : (B.env F).tab 4 = some ⟨.bool, 1, 1, [.bool false]⟩ := tt4
attribute [go_sem] tb4
theorem tt5 : Dl Tryz.prog 5 = some ⟨.int .u8, 1, 1, [u8 ((0 : UInt8))]⟩ := by kernel_rfl
theorem tb5 (F : Addr → Prop) : (B.env F).tab 5 = some ⟨.int .u8, 1, 1, [u8 ((0 : UInt8))]⟩ := tt5
attribute [go_sem] tb5
theorem tt9 : Dl Tryz.prog 9 = some ⟨.string, 1, 16, [.str (([] : List UInt8))]⟩ := by kernel_rfl
theorem tb9 (F : Addr → Prop) : (B.env F).tab 9 = some ⟨.string, 1, 16, [.str (([] : List UInt8))]⟩ := tt9
attribute [go_sem] tb9
theorem tt21 : Dl Tryz.prog 21 = some ⟨.int .i32, 1, 4, [.int .i32 0]⟩ := by kernel_rfl
theorem Ac5 (F : Addr → Prop) : (B.env F).tab 21 = some ⟨.int .i32, 1, 4, [.int .i32 0]⟩ := tt21
attribute [go_sem] Ac5
theorem tt22 : Dl Tryz.prog 22 = some ⟨.slice 99, 1, 24, [.sl true (L Ah ([]))]⟩ := by kernel_rfl
theorem tb22 (F : Addr → Prop) : (B.env F).tab 22 = some ⟨.slice 99, 1, 24, [.sl true (L Ah ([]))]⟩ := tt22
attribute [go_sem] tb22
theorem tt23 : Dl Tryz.prog 23 = some ⟨.slice 103, 1, 24, [.sl true (L Ap ([]))]⟩ := by kernel_rfl
theorem tb23 (F : Addr → Prop) : (B.env F).tab 23 = some ⟨.slice 103, 1, 24, [.sl true (L Ap ([]))]⟩ := tt23
attribute [go_sem] tb23
theorem tt25 : Dl Tryz.prog 25 = some ⟨.struct #[⟨"Places", 22, 0, false, "", "", 0⟩, ⟨"Edges", 23, 1, false, "", "", 24⟩], 2, 48, [.sl true (L Ah ([])), .sl true (L Ap ([]))]⟩ := by kernel_rfl
theorem tb25 (F : Addr → Prop) : (B.env F).tab 25 = some ⟨.struct #[⟨"Places", 22, 0, false, "", "", 0⟩, ⟨"Edges", 23, 1, false, "", "", 24⟩], 2, 48, [.sl true (L Ah ([])), .sl true (L Ap ([]))]⟩ := tt25
attribute [go_sem] tb25
theorem tt27 : Dl Tryz.prog 27 = some ⟨.slice 101, 1, 24, [.sl true (L An ([]))]⟩ := by kernel_rfl
theorem tb27 (F : Addr → Prop) : (B.env F).tab 27 = some ⟨.slice 101, 1, 24, [.sl true (L An ([]))]⟩ := tt27
attribute [go_sem] tb27
theorem tt31 : Dl Tryz.prog 31 = some ⟨.struct #[⟨"Types", 26, 0, false, "", "", 0⟩, ⟨"Wagons", 27, 1, false, "", "", 24⟩, ⟨"Swaps", 28, 2, false, "", "", 48⟩, ⟨"Washes", 29, 3, false, "", "", 72⟩], 4, 96, [.sl true (L Ai ([])), .sl true (L An ([])), .sl true (L A8 ([])), .sl true (L A6 ([]))]⟩ := by kernel_rfl
theorem tb31 (F : Addr → Prop) : (B.env F).tab 31 = some ⟨.struct #[⟨"Types", 26, 0, false, "", "", 0⟩, ⟨"Wagons", 27, 1, false, "", "", 24⟩, ⟨"Swaps", 28, 2, false, "", "", 48⟩, ⟨"Washes", 29, 3, false, "", "", 72⟩], 4, 96, [.sl true (L Ai ([])), .sl true (L An ([])), .sl true (L A8 ([])), .sl true (L A6 ([]))]⟩ := tt31
attribute [go_sem] tb31
theorem tt32 : Dl Tryz.prog 32 = some ⟨.slice 94, 1, 24, [.sl true (L Am ([]))]⟩ := by kernel_rfl
theorem tb32 (F : Addr → Prop) : (B.env F).tab 32 = some ⟨.slice 94, 1, 24, [.sl true (L Am ([]))]⟩ := tt32
attribute [go_sem] tb32
theorem tt33 : Dl Tryz.prog 33 = some ⟨.slice 97, 1, 24, [.sl true (L Al ([]))]⟩ := by kernel_rfl
theorem tb33 (F : Addr → Prop) : (B.env F).tab 33 = some ⟨.slice 97, 1, 24, [.sl true (L Al ([]))]⟩ := tt33
attribute [go_sem] tb33
theorem tt34 : Dl Tryz.prog 34 = some ⟨.slice 90, 1, 24, [.sl true (L Af ([]))]⟩ := by kernel_rfl
theorem tb34 (F : Addr → Prop) : (B.env F).tab 34 = some ⟨.slice 90, 1, 24, [.sl true (L Af ([]))]⟩ := tt34
attribute [go_sem] tb34
theorem tt36 : Dl Tryz.prog 36 = some ⟨.struct #[⟨"Network", 25, 0, false, "", "", 0⟩, ⟨"Fleet", 31, 2, false, "", "", 48⟩, ⟨"Readers", 32, 6, false, "", "", 144⟩, ⟨"Shippers", 33, 7, false, "", "", 168⟩, ⟨"Railways", 34, 8, false, "", "", 192⟩], 9, 216, [.sl true (L Ah ([])), .sl true (L Ap ([])), .sl true (L Ai ([])), .sl true (L An ([])), .sl true (L A8 ([])), .sl true (L A6 ([])), .sl true (L Am ([])), .sl true (L Al ([])), .sl true (L Af ([]))]⟩ := by kernel_rfl
theorem tb36 (F : Addr → Prop) : (B.env F).tab 36 = some ⟨.struct #[⟨"Network", 25, 0, false, "", "", 0⟩, ⟨"Fleet", 31, 2, false, "", "", 48⟩, ⟨"Readers", 32, 6, false, "", "", 144⟩, ⟨"Shippers", 33, 7, false, "", "", 168⟩, ⟨"Railways", 34, 8, false, "", "", 192⟩], 9, 216, [.sl true (L Ah ([])), .sl true (L Ap ([])), .sl true (L Ai ([])), .sl true (L An ([])), .sl true (L A8 ([])), .sl true (L A6 ([])), .sl true (L Am ([])), .sl true (L Al ([])), .sl true (L Af ([]))]⟩ := tt36
attribute [go_sem] tb36
theorem tt38 : Dl Tryz.prog 38 = some ⟨.struct #[⟨"Railway", 3, 0, false, "", "", 0⟩, ⟨"No", 3, 1, false, "", "", 8⟩], 2, 16, [i64 0, i64 0]⟩ := by kernel_rfl
theorem AoM (F : Addr → Prop) : (B.env F).tab 38 = some ⟨.struct #[⟨"Railway", 3, 0, false, "", "", 0⟩, ⟨"No", 3, 1, false, "", "", 8⟩], 2, 16, [i64 0, i64 0]⟩ := tt38
attribute [go_sem] AoM
theorem tt39 : Dl Tryz.prog 39 = some ⟨.slice 66, 1, 24, [.sl true (L Ab ([]))]⟩ := by kernel_rfl
theorem AmX (F : Addr → Prop) : (B.env F).tab 39 = some ⟨.slice 66, 1, 24, [.sl true (L Ab ([]))]⟩ := tt39
attribute [go_sem] AmX
theorem tt41 : Dl Tryz.prog 41 = some ⟨.struct #[⟨"Kind", 3, 0, false, "", "", 0⟩, ⟨"Ref", 38, 1, false, "", "", 8⟩, ⟨"Wagon", 3, 3, false, "", "", 24⟩, ⟨"Place", 3, 4, false, "", "", 32⟩, ⟨"Other", 3, 5, false, "", "", 40⟩, ⟨"Number", 3, 6, false, "", "", 48⟩, ⟨"From", 3, 7, false, "", "", 56⟩, ⟨"To", 3, 8, false, "", "", 64⟩, ⟨"Code", 3, 9, false, "", "", 72⟩, ⟨"Dest", 3, 10, false, "", "", 80⟩, ⟨"Class", 3, 11, false, "", "", 88⟩, ⟨"Weight", 3, 12, false, "", "", 96⟩, ⟨"Amount", 3, 13, false, "", "", 104⟩, ⟨"Text", 9, 14, false, "", "", 112⟩, ⟨"Parts", 39, 15, false, "", "", 128⟩], 16, 152, [i64 0, i64 0, i64 0, i64 0, i64 0, i64 0, i64 0, i64 0, i64 0, i64 0, i64 0, i64 0, i64 0, i64 0, .str (([] : List UInt8)), .sl true (L Ab ([]))]⟩ := by kernel_rfl
theorem tb41 (F : Addr → Prop) : (B.env F).tab 41 = some ⟨.struct #[⟨"Kind", 3, 0, false, "", "", 0⟩, ⟨"Ref", 38, 1, false, "", "", 8⟩, ⟨"Wagon", 3, 3, false, "", "", 24⟩, ⟨"Place", 3, 4, false, "", "", 32⟩, ⟨"Other", 3, 5, false, "", "", 40⟩, ⟨"Number", 3, 6, false, "", "", 48⟩, ⟨"From", 3, 7, false, "", "", 56⟩, ⟨"To", 3, 8, false, "", "", 64⟩, ⟨"Code", 3, 9, false, "", "", 72⟩, ⟨"Dest", 3, 10, false, "", "", 80⟩, ⟨"Class", 3, 11, false, "", "", 88⟩, ⟨"Weight", 3, 12, false, "", "", 96⟩, ⟨"Amount", 3, 13, false, "", "", 104⟩, ⟨"Text", 9, 14, false, "", "", 112⟩, ⟨"Parts", 39, 15, false, "", "", 128⟩], 16, 152, [i64 0, i64 0, i64 0, i64 0, i64 0, i64 0, i64 0, i64 0, i64 0, i64 0, i64 0, i64 0, i64 0, i64 0, .str (([] : List UInt8)), .sl true (L Ab ([]))]⟩ := tt41
attribute [go_sem] tb41
theorem tt52 : Dl Tryz.prog 52 = some ⟨.slice 5, 1, 24, [.sl true (L cU8 ([]))]⟩ := by kernel_rfl
theorem AjT (F : Addr → Prop) : (B.env F).tab 52 = some ⟨.slice 5, 1, 24, [.sl true (L cU8 ([]))]⟩ := tt52
attribute [go_sem] AjT
theorem tt53 : Dl Tryz.prog 53 = some ⟨.slice 55, 1, 24, [.sl true (L cApi_Value ([]))]⟩ := by kernel_rfl
theorem Am4 (F : Addr → Prop) : (B.env F).tab 53 = some ⟨.slice 55, 1, 24, [.sl true (L cApi_Value ([]))]⟩ := tt53
attribute [go_sem] Am4
theorem tt55 : Dl Tryz.prog 55 = some ⟨.struct #[⟨"Kind", 3, 0, false, "", "", 0⟩, ⟨"N", 3, 1, false, "", "", 8⟩, ⟨"B", 52, 2, false, "", "", 16⟩, ⟨"L", 53, 3, false, "", "", 40⟩], 4, 64, [i64 0, i64 0, .sl true (L cU8 ([])), .sl true (L cApi_Value ([]))]⟩ := by kernel_rfl
theorem AoI (F : Addr → Prop) : (B.env F).tab 55 = some ⟨.struct #[⟨"Kind", 3, 0, false, "", "", 0⟩, ⟨"N", 3, 1, false, "", "", 8⟩, ⟨"B", 52, 2, false, "", "", 16⟩, ⟨"L", 53, 3, false, "", "", 40⟩], 4, 64, [i64 0, i64 0, .sl true (L cU8 ([])), .sl true (L cApi_Value ([]))]⟩ := tt55
attribute [go_sem] AoI
theorem tt66 : Dl Tryz.prog 66 = some ⟨.struct #[⟨"Kind", 3, 0, false, "", "", 0⟩, ⟨"Serial", 3, 1, false, "", "", 8⟩, ⟨"Fitted", 4, 2, false, "", "", 16⟩], 3, 24, [i64 0, i64 0, .bool false]⟩ := by kernel_rfl
theorem AmW (F : Addr → Prop) : (B.env F).tab 66 = some ⟨.struct #[⟨"Kind", 3, 0, false, "", "", 0⟩, ⟨"Serial", 3, 1, false, "", "", 8⟩, ⟨"Fitted", 4, 2, false, "", "", 16⟩], 3, 24, [i64 0, i64 0, .bool false]⟩ := tt66
attribute [go_sem] AmW
theorem tt85 : Dl Tryz.prog 85 = some ⟨.slice 3, 1, 24, [.sl true (L M8 ([]))]⟩ := by kernel_rfl
theorem tb85 (F : Addr → Prop) : (B.env F).tab 85 = some ⟨.slice 3, 1, 24, [.sl true (L M8 ([]))]⟩ := tt85
attribute [go_sem] tb85
theorem tt88 : Dl Tryz.prog 88 = some ⟨.int .u64, 1, 8, [u64 ((0 : UInt64))]⟩ := by kernel_rfl
theorem tb88 (F : Addr → Prop) : (B.env F).tab 88 = some ⟨.int .u64, 1, 8, [u64 ((0 : UInt64))]⟩ := tt88
attribute [go_sem] tb88
theorem tt90 : Dl Tryz.prog 90 = some ⟨.struct #[⟨"Key", 88, 0, false, "", "", 0⟩, ⟨"Calendar", 87, 1, false, "", "", 8⟩], 16, 144, [u64 ((0 : UInt64)), i64 0, i64 0, i64 0, i64 0, i64 0, i64 0, i64 0, i64 0, i64 0, i64 0, i64 0, i64 0, i64 0, i64 0, .sl true (L M8 ([]))]⟩ := by kernel_rfl
theorem tb90 (F : Addr → Prop) : (B.env F).tab 90 = some ⟨.struct #[⟨"Key", 88, 0, false, "", "", 0⟩, ⟨"Calendar", 87, 1, false, "", "", 8⟩], 16, 144, [u64 ((0 : UInt64)), i64 0, i64 0, i64 0, i64 0, i64 0, i64 0, i64 0, i64 0, i64 0, i64 0, i64 0, i64 0, i64 0, i64 0, .sl true (L M8 ([]))]⟩ := tt90
attribute [go_sem] tb90
theorem tt94 : Dl Tryz.prog 94 = some ⟨.struct #[⟨"Place", 3, 0, false, "", "", 0⟩, ⟨"Low", 3, 1, false, "", "", 8⟩, ⟨"High", 3, 2, false, "", "", 16⟩], 3, 24, [i64 0, i64 0, i64 0]⟩ := by kernel_rfl
theorem tb94 (F : Addr → Prop) : (B.env F).tab 94 = some ⟨.struct #[⟨"Place", 3, 0, false, "", "", 0⟩, ⟨"Low", 3, 1, false, "", "", 8⟩, ⟨"High", 3, 2, false, "", "", 16⟩], 3, 24, [i64 0, i64 0, i64 0]⟩ := tt94
attribute [go_sem] tb94
theorem tt97 : Dl Tryz.prog 97 = some ⟨.struct #[⟨"Place", 3, 0, false, "", "", 0⟩], 1, 8, [i64 0]⟩ := by kernel_rfl
theorem tb97 (F : Addr → Prop) : (B.env F).tab 97 = some ⟨.struct #[⟨"Place", 3, 0, false, "", "", 0⟩], 1, 8, [i64 0]⟩ := tt97
attribute [go_sem] tb97
theorem tt99 : Dl Tryz.prog 99 = some ⟨.struct #[⟨"Kind", 3, 0, false, "", "", 0⟩, ⟨"Railway", 3, 1, false, "", "", 8⟩, ⟨"Other", 3, 2, false, "", "", 16⟩], 3, 24, [i64 0, i64 0, i64 0]⟩ := by kernel_rfl
theorem tb99 (F : Addr → Prop) : (B.env F).tab 99 = some ⟨.struct #[⟨"Kind", 3, 0, false, "", "", 0⟩, ⟨"Railway", 3, 1, false, "", "", 8⟩, ⟨"Other", 3, 2, false, "", "", 16⟩], 3, 24, [i64 0, i64 0, i64 0]⟩ := tt99
attribute [go_sem] tb99
theorem Ape : Dl Tryz.prog 101 = some ⟨.struct #[⟨"Type", 3, 0, false, "", "", 0⟩, ⟨"Owner", 3, 1, false, "", "", 8⟩, ⟨"Home", 3, 2, false, "", "", 16⟩, ⟨"Built", 3, 3, false, "", "", 24⟩, ⟨"Worth", 3, 4, false, "", "", 32⟩], 5, 40, [i64 0, i64 0, i64 0, i64 0, i64 0]⟩ := by kernel_rfl
theorem Alb (F : Addr → Prop) : (B.env F).tab 101 = some ⟨.struct #[⟨"Type", 3, 0, false, "", "", 0⟩, ⟨"Owner", 3, 1, false, "", "", 8⟩, ⟨"Home", 3, 2, false, "", "", 16⟩, ⟨"Built", 3, 3, false, "", "", 24⟩, ⟨"Worth", 3, 4, false, "", "", 32⟩], 5, 40, [i64 0, i64 0, i64 0, i64 0, i64 0]⟩ := Ape
attribute [go_sem] Alb
theorem AoP : Dl Tryz.prog 103 = some ⟨.struct #[⟨"A", 3, 0, false, "", "", 0⟩, ⟨"B", 3, 1, false, "", "", 8⟩, ⟨"Railway", 3, 2, false, "", "", 16⟩, ⟨"Minutes", 3, 3, false, "", "", 24⟩, ⟨"Km", 3, 4, false, "", "", 32⟩], 5, 40, [i64 0, i64 0, i64 0, i64 0, i64 0]⟩ := by kernel_rfl
theorem AmM (F : Addr → Prop) : (B.env F).tab 103 = some ⟨.struct #[⟨"A", 3, 0, false, "", "", 0⟩, ⟨"B", 3, 1, false, "", "", 8⟩, ⟨"Railway", 3, 2, false, "", "", 16⟩, ⟨"Minutes", 3, 3, false, "", "", 24⟩, ⟨"Km", 3, 4, false, "", "", 32⟩], 5, 40, [i64 0, i64 0, i64 0, i64 0, i64 0]⟩ := AoP
attribute [go_sem] AmM
theorem Apy : Dl Tryz.prog 106 = some ⟨.pointer 108, 1, 8, [.val (.pointer none)]⟩ := by kernel_rfl
theorem Ai0 (F : Addr → Prop) : (B.env F).tab 106 = some ⟨.pointer 108, 1, 8, [.val (.pointer none)]⟩ := Apy
attribute [go_sem] Ai0
theorem Aou : Dl Tryz.prog 108 = some ⟨.struct #[⟨"addr", 106, 0, false, "", "strings", 0⟩, ⟨"buf", 52, 1, false, "", "strings", 8⟩], 2, 32, [.val (.pointer none), .sl true (L cU8 ([]))]⟩ := by kernel_rfl
theorem Aoj (F : Addr → Prop) : (B.env F).tab 108 = some ⟨.struct #[⟨"addr", 106, 0, false, "", "strings", 0⟩, ⟨"buf", 52, 1, false, "", "strings", 8⟩], 2, 32, [.val (.pointer none), .sl true (L cU8 ([]))]⟩ := Aou
attribute [go_sem] Aoj
theorem Ao5 : Dl Tryz.prog 110 = some ⟨.interface #[("Error", 124)], 1, 16, [.val .nilIface]⟩ := by kernel_rfl
theorem AlU (F : Addr → Prop) : (B.env F).tab 110 = some ⟨.interface #[("Error", 124)], 1, 16, [.val .nilIface]⟩ := Ao5
attribute [go_sem] AlU
theorem AnH : Dl Tryz.prog 113 = some ⟨.array 16 9, 16, 256, [.str (([] : List UInt8)), .str (([] : List UInt8)), .str (([] : List UInt8)), .str (([] : List UInt8)), .str (([] : List UInt8)), .str (([] : List UInt8)), .str (([] : List UInt8)), .str (([] : List UInt8)), .str (([] : List UInt8)), .str (([] : List UInt8)), .str (([] : List UInt8)), .str (([] : List UInt8)), .str (([] : List UInt8)), .str (([] : List UInt8)), .str (([] : List UInt8)), .str (([] : List UInt8))]⟩ := by kernel_rfl
theorem Ak5 (F : Addr → Prop) : (B.env F).tab 113 = some ⟨.array 16 9, 16, 256, [.str (([] : List UInt8)), .str (([] : List UInt8)), .str (([] : List UInt8)), .str (([] : List UInt8)), .str (([] : List UInt8)), .str (([] : List UInt8)), .str (([] : List UInt8)), .str (([] : List UInt8)), .str (([] : List UInt8)), .str (([] : List UInt8)), .str (([] : List UInt8)), .str (([] : List UInt8)), .str (([] : List UInt8)), .str (([] : List UInt8)), .str (([] : List UInt8)), .str (([] : List UInt8))]⟩ := AnH
attribute [go_sem] Ak5
theorem Aoo : Dl Tryz.prog 117 = some ⟨.pointer 3, 1, 8, [.val (.pointer none)]⟩ := by kernel_rfl
theorem Ajm (F : Addr → Prop) : (B.env F).tab 117 = some ⟨.pointer 3, 1, 8, [.val (.pointer none)]⟩ := Aoo
attribute [go_sem] Ajm
theorem Apl : Dl Tryz.prog 118 = some ⟨.array 11 117, 11, 88, [.val (.pointer none), .val (.pointer none), .val (.pointer none), .val (.pointer none), .val (.pointer none), .val (.pointer none), .val (.pointer none), .val (.pointer none), .val (.pointer none), .val (.pointer none), .val (.pointer none)]⟩ := by kernel_rfl
theorem Aim (F : Addr → Prop) : (B.env F).tab 118 = some ⟨.array 11 117, 11, 88, [.val (.pointer none), .val (.pointer none), .val (.pointer none), .val (.pointer none), .val (.pointer none), .val (.pointer none), .val (.pointer none), .val (.pointer none), .val (.pointer none), .val (.pointer none), .val (.pointer none)]⟩ := Apl
attribute [go_sem] Aim
theorem Apm : Dl Tryz.prog 122 = some ⟨.map 4 9, 1, 8, [.val (.map none)]⟩ := by kernel_rfl
theorem Ako (F : Addr → Prop) : (B.env F).tab 122 = some ⟨.map 4 9, 1, 8, [.val (.map none)]⟩ := Apm
attribute [go_sem] Ako
theorem Ao8 : Dl Tryz.prog 134 = some ⟨.slice 9, 1, 24, [.sl true (L J6 ([]))]⟩ := by kernel_rfl
theorem Acq (F : Addr → Prop) : (B.env F).tab 134 = some ⟨.slice 9, 1, 24, [.sl true (L J6 ([]))]⟩ := Ao8
attribute [go_sem] Acq
theorem Ane : Dl Tryz.prog 171 = some ⟨.int .u64, 1, 8, [u64 ((0 : UInt64))]⟩ := by kernel_rfl
theorem AnS (F : Addr → Prop) : (B.env F).tab 171 = some ⟨.int .u64, 1, 8, [u64 ((0 : UInt64))]⟩ := Ane
attribute [go_sem] AnS
theorem AnA : Dl Tryz.prog 230 = some ⟨.int .i64, 1, 8, [i64 0]⟩ := by kernel_rfl
theorem Anc (F : Addr → Prop) : (B.env F).tab 230 = some ⟨.int .i64, 1, 8, [i64 0]⟩ := AnA
attribute [go_sem] Anc
theorem Aka : AV.int .u32 0 = u32 0 := rfl
attribute [go_sem] Aka
theorem Aj9 : AV.int .u32 1 = u32 1 := rfl
attribute [go_sem] Aj9
theorem Aia : AV.int .u32 15 = u32 15 := rfl
attribute [go_sem] Aia
theorem Pw : AV.int .u32 3988292384 = u32 3988292384 := rfl
attribute [go_sem] Pw
theorem P8 : AV.int .u32 4294967295 = u32 4294967295 := rfl
attribute [go_sem] P8
theorem Ak0 : AV.int .u64 0 = u64 0 := rfl
attribute [go_sem] Ak0
theorem AlV : AV.int .u64 1 = u64 1 := rfl
attribute [go_sem] AlV
theorem AkS : AV.int .u64 4 = u64 4 := rfl
attribute [go_sem] AkS
theorem AmN : AV.int .u64 8 = u64 8 := rfl
attribute [go_sem] AmN
theorem Aii : AV.int .u64 16 = u64 16 := rfl
attribute [go_sem] Aii
theorem AhB : AV.int .u64 24 = u64 24 := rfl
attribute [go_sem] AhB
theorem Ail : AV.int .u64 32 = u64 32 := rfl
attribute [go_sem] Ail
theorem Af7 : AV.int .u64 256 = u64 256 := rfl
attribute [go_sem] Af7
theorem AbM : AV.int .u64 65536 = u64 65536 := rfl
attribute [go_sem] AbM
theorem Pr : AV.int .u64 4294967296 = u64 4294967296 := rfl
attribute [go_sem] Pr
theorem I4 : AV.int .u64 1152921504606846976 = u64 1152921504606846976 := rfl
attribute [go_sem] I4
theorem Apn : AV.int .u8 0 = u8 0 := rfl
attribute [go_sem] Apn
theorem Al7 : AV.int .u8 10 = u8 10 := rfl
attribute [go_sem] Al7
theorem Aly : AV.int .u8 15 = u8 15 := rfl
attribute [go_sem] Aly
theorem AjF : AV.int .u8 16 = u8 16 := rfl
attribute [go_sem] AjF
theorem Amr : AV.int .u8 23 = u8 23 := rfl
attribute [go_sem] Amr
theorem Amp : AV.int .u8 31 = u8 31 := rfl
attribute [go_sem] Amp
theorem AkB : AV.int .u8 32 = u8 32 := rfl
attribute [go_sem] AkB
theorem Alc : AV.int .u8 39 = u8 39 := rfl
attribute [go_sem] Alc
theorem AlB : AV.int .u8 40 = u8 40 := rfl
attribute [go_sem] AlB
theorem Ak9 : AV.int .u8 43 = u8 43 := rfl
attribute [go_sem] Ak9
theorem AjJ : AV.int .u8 45 = u8 45 := rfl
attribute [go_sem] AjJ
theorem AkD : AV.int .u8 46 = u8 46 := rfl
attribute [go_sem] AkD
theorem AkR : AV.int .u8 48 = u8 48 := rfl
attribute [go_sem] AkR
theorem AmG : AV.int .u8 57 = u8 57 := rfl
attribute [go_sem] AmG
theorem Aj2 : AV.int .u8 63 = u8 63 := rfl
attribute [go_sem] Aj2
theorem Akc : AV.int .u8 64 = u8 64 := rfl
attribute [go_sem] Akc
theorem AlX : AV.int .u8 95 = u8 95 := rfl
attribute [go_sem] AlX
theorem AlN : AV.int .u8 97 = u8 97 := rfl
attribute [go_sem] AlN
theorem AmD : AV.int .u8 99 = u8 99 := rfl
attribute [go_sem] AmD
theorem Ajb : AV.int .u8 100 = u8 100 := rfl
attribute [go_sem] Ajb
theorem Ah1 : AV.int .u8 102 = u8 102 := rfl
attribute [go_sem] Ah1
theorem Aif : AV.int .u8 103 = u8 103 := rfl
attribute [go_sem] Aif
theorem Ah2 : AV.int .u8 107 = u8 107 := rfl
attribute [go_sem] Ah2
theorem AiY : AV.int .u8 110 = u8 110 := rfl
attribute [go_sem] AiY
theorem AiO : AV.int .u8 111 = u8 111 := rfl
attribute [go_sem] AiO
theorem AiB : AV.int .u8 112 = u8 112 := rfl
attribute [go_sem] AiB
theorem AiM : AV.int .u8 113 = u8 113 := rfl
attribute [go_sem] AiM
theorem Aid : AV.int .u8 114 = u8 114 := rfl
attribute [go_sem] Aid
theorem Air : AV.int .u8 116 = u8 116 := rfl
attribute [go_sem] Air
theorem Ahx : AV.int .u8 119 = u8 119 := rfl
attribute [go_sem] Ahx
theorem Ahs : AV.int .u8 120 = u8 120 := rfl
attribute [go_sem] Ahs
theorem AhJ : AV.int .u8 122 = u8 122 := rfl
attribute [go_sem] AhJ
theorem Ai3 : AV.int .u8 125 = u8 125 := rfl
attribute [go_sem] Ai3
theorem AhT : AV.int .u8 126 = u8 126 := rfl
attribute [go_sem] AhT
theorem Aie : AV.int .u8 127 = u8 127 := rfl
attribute [go_sem] Aie
theorem Ah0 : AV.int .u8 255 = u8 255 := rfl
attribute [go_sem] Ah0
theorem Ai1 {F} {σ : Ad} (s x : AV) : Cc (B.env F) σ .append [52, 9] [s, x] = match Hc σ x with
      | some new => if Ht x 1 = true then none else if ∀ cs ∈ new, cs.length = 1 then (match s with
          | .sl full els =>
            if els = [] ∧ full = true then
              if F9 new.length 1 then some (.bs false σ.length new.length 0 new.length, σ ++ [.buf 1 new false]) else none
            else if new = [] then some (.sl full els, σ)
            else if full = true ∧ (∀ cs ∈ els, cs.length = 1) ∧ F9 (els.length + new.length) 1
            then some (.bs false σ.length (els.length + new.length) 0 (els.length + new.length), σ ++ [.buf 1 (els ++ new) false]) else none
          | .bs full id tot off len => match σ[id]? with
            | some (.buf k els ro) =>
              if els.length = tot ∧ k = 1 ∧ F9 (len + new.length) 1 then
                if off = 0 ∧ len = tot then some (.bs false id (tot + new.length) 0 (tot + new.length), σ.set id (.buf k (els ++ new) ro))
                else if new = [] then some (.bs full id tot off len, σ)
                else if full then some (.bs false σ.length (len + new.length) 0 (len + new.length), σ ++ [.buf k ((els.drop off).take len ++ new) false])
                else none
              else none
            | some (.tb T l) => Ws σ id tot off len 1 1 5 T l new
            | _ => none
          | _ => none)
        else none
      | none => none := J1 (AjT F) (tb5 F) (by decide) (tb9 F) (.inr rfl) s x []
attribute [go_sem] Ai1
theorem Afz {F} {σ : Ad} (s x : AV) : Cc (B.env F) σ .append [52, 52] [s, x] = match Hc σ x with
      | some new => if Ht x 1 = true then none else if ∀ cs ∈ new, cs.length = 1 then (match s with
          | .sl full els =>
            if els = [] ∧ full = true then
              if F9 new.length 1 then some (.bs false σ.length new.length 0 new.length, σ ++ [.buf 1 new false]) else none
            else if new = [] then some (.sl full els, σ)
            else if full = true ∧ (∀ cs ∈ els, cs.length = 1) ∧ F9 (els.length + new.length) 1
            then some (.bs false σ.length (els.length + new.length) 0 (els.length + new.length), σ ++ [.buf 1 (els ++ new) false]) else none
          | .bs full id tot off len => match σ[id]? with
            | some (.buf k els ro) =>
              if els.length = tot ∧ k = 1 ∧ F9 (len + new.length) 1 then
                if off = 0 ∧ len = tot then some (.bs false id (tot + new.length) 0 (tot + new.length), σ.set id (.buf k (els ++ new) ro))
                else if new = [] then some (.bs full id tot off len, σ)
                else if full then some (.bs false σ.length (len + new.length) 0 (len + new.length), σ ++ [.buf k ((els.drop off).take len ++ new) false])
                else none
              else none
            | some (.tb T l) => Ws σ id tot off len 1 1 5 T l new
            | _ => none
          | _ => none)
        else none
      | none => none := J1 (AjT F) (tb5 F) (by decide) (AjT F) (.inl ⟨_, rfl⟩) s x []
attribute [go_sem] Afz
theorem AjV {F} (l : List UInt8) (x : AV) : Li (B.env F) 9 (.str l) x = match idx x l.length with
    | some i => some (u8 (nth l i))
    | none => none := Acj (tb9 F) l x
attribute [go_sem] AjV
theorem AoR {F} : ((B.env F).bty = some 108) = True := eq_true rfl
attribute [go_sem] AoR
theorem Aeo {F} {σ : Ad} (x : AV) : Ar (B.env F) σ 113 (.glob 0) x = match idx x 16 with
    | some i => some (.rp ((C1 AV.str glob0.l).drop i))
    | none => none := AfH (Ak5 F) (tb9 F) rfl x
attribute [go_sem] Aeo
theorem AgF {F} (a0 : Int) (a1 : Int) (b0 : Int) (b1 : Int) : Bg (B.env F) .neq 38 (.agg [i64 a0, i64 a1]) (.agg [i64 b0, i64 b1]) = some (.bool (!((a0 == b0) && (a1 == b1)))) :=
  Lh (AoM F) (by kernel_rfl) (by kernel_rfl) (My (by decide) (tb3 F) rfl rfl (Og a0 b0) (Uu (by decide) (tb3 F) rfl rfl (Og a1 b1)))
attribute [go_sem] AgF
theorem An6 {F} : ((B.env F).bty = some 118) = False := eq_false (fun h : (some 108 : Option TypeId) = some 118 => absurd (Option.some.inj h) (by decide))
attribute [go_sem] An6
theorem AoK {F} : Ru (B.env F) 9 = true := Afe (tb9 F)
attribute [go_sem] AoK
theorem Apc : (0 < (List.toArray ([119, 112, 111, 110, 102, 116, 99, 100, 107, 103, 97] : List UInt8)).size) = True := eq_true (by decide)
attribute [go_sem] Apc
theorem Aj7 : Utf8.decode (ByteArray.mk (List.toArray ([119, 112, 111, 110, 102, 116, 99, 100, 107, 103, 97] : List UInt8))) 0 = (119, 1) := rfl
attribute [go_sem] Aj7
theorem AhI {F} {σ : Ad} (id off : Nat) (x : AV) : Ar (B.env F) σ 118 (.ref id off) x = match idx x 11 with
    | some i => some (.ref id (off + i * 1))
    | none => none := AiV (Aim F) (Ajm F) id off x
attribute [go_sem] AhI
theorem Vr {F} {σ : Ad} : A9 (B.env F) σ 21 5 (.int .i32 119) = some (u8 (119 : UInt8), σ) := Dn (by rw [Ac5 F]; rfl) (by unfold F7; rw [tb5 F]; rfl)
attribute [go_sem] Vr
theorem Akw : (1 < (List.toArray ([119, 112, 111, 110, 102, 116, 99, 100, 107, 103, 97] : List UInt8)).size) = True := eq_true (by decide)
attribute [go_sem] Akw
theorem Amd : Utf8.decode (ByteArray.mk (List.toArray ([119, 112, 111, 110, 102, 116, 99, 100, 107, 103, 97] : List UInt8))) 1 = (112, 1) := rfl
attribute [go_sem] Amd
theorem Vk {F} {σ : Ad} : A9 (B.env F) σ 21 5 (.int .i32 112) = some (u8 (112 : UInt8), σ) := Dn (by rw [Ac5 F]; rfl) (by unfold F7; rw [tb5 F]; rfl)
attribute [go_sem] Vk
theorem Aku : (2 < (List.toArray ([119, 112, 111, 110, 102, 116, 99, 100, 107, 103, 97] : List UInt8)).size) = True := eq_true (by decide)
attribute [go_sem] Aku
theorem AkN : Utf8.decode (ByteArray.mk (List.toArray ([119, 112, 111, 110, 102, 116, 99, 100, 107, 103, 97] : List UInt8))) 2 = (111, 1) := rfl
attribute [go_sem] AkN
theorem Vt {F} {σ : Ad} : A9 (B.env F) σ 21 5 (.int .i32 111) = some (u8 (111 : UInt8), σ) := Dn (by rw [Ac5 F]; rfl) (by unfold F7; rw [tb5 F]; rfl)
attribute [go_sem] Vt
theorem AmC : (3 < (List.toArray ([119, 112, 111, 110, 102, 116, 99, 100, 107, 103, 97] : List UInt8)).size) = True := eq_true (by decide)
attribute [go_sem] AmC
theorem Akj : Utf8.decode (ByteArray.mk (List.toArray ([119, 112, 111, 110, 102, 116, 99, 100, 107, 103, 97] : List UInt8))) 3 = (110, 1) := rfl
attribute [go_sem] Akj
theorem Tf {F} {σ : Ad} : A9 (B.env F) σ 21 5 (.int .i32 110) = some (u8 (110 : UInt8), σ) := Dn (by rw [Ac5 F]; rfl) (by unfold F7; rw [tb5 F]; rfl)
attribute [go_sem] Tf
theorem AlF : (4 < (List.toArray ([119, 112, 111, 110, 102, 116, 99, 100, 107, 103, 97] : List UInt8)).size) = True := eq_true (by decide)
attribute [go_sem] AlF
theorem Amn : Utf8.decode (ByteArray.mk (List.toArray ([119, 112, 111, 110, 102, 116, 99, 100, 107, 103, 97] : List UInt8))) 4 = (102, 1) := rfl
attribute [go_sem] Amn
theorem Vu {F} {σ : Ad} : A9 (B.env F) σ 21 5 (.int .i32 102) = some (u8 (102 : UInt8), σ) := Dn (by rw [Ac5 F]; rfl) (by unfold F7; rw [tb5 F]; rfl)
attribute [go_sem] Vu
theorem All : (5 < (List.toArray ([119, 112, 111, 110, 102, 116, 99, 100, 107, 103, 97] : List UInt8)).size) = True := eq_true (by decide)
attribute [go_sem] All
theorem AjC : Utf8.decode (ByteArray.mk (List.toArray ([119, 112, 111, 110, 102, 116, 99, 100, 107, 103, 97] : List UInt8))) 5 = (116, 1) := rfl
attribute [go_sem] AjC
theorem T4 {F} {σ : Ad} : A9 (B.env F) σ 21 5 (.int .i32 116) = some (u8 (116 : UInt8), σ) := Dn (by rw [Ac5 F]; rfl) (by unfold F7; rw [tb5 F]; rfl)
attribute [go_sem] T4
theorem Al2 : (6 < (List.toArray ([119, 112, 111, 110, 102, 116, 99, 100, 107, 103, 97] : List UInt8)).size) = True := eq_true (by decide)
attribute [go_sem] Al2
theorem Ajz : Utf8.decode (ByteArray.mk (List.toArray ([119, 112, 111, 110, 102, 116, 99, 100, 107, 103, 97] : List UInt8))) 6 = (99, 1) := rfl
attribute [go_sem] Ajz
theorem Xf {F} {σ : Ad} : A9 (B.env F) σ 21 5 (.int .i32 99) = some (u8 (99 : UInt8), σ) := Dn (by rw [Ac5 F]; rfl) (by unfold F7; rw [tb5 F]; rfl)
attribute [go_sem] Xf
theorem AkA : (7 < (List.toArray ([119, 112, 111, 110, 102, 116, 99, 100, 107, 103, 97] : List UInt8)).size) = True := eq_true (by decide)
attribute [go_sem] AkA
theorem Al9 : Utf8.decode (ByteArray.mk (List.toArray ([119, 112, 111, 110, 102, 116, 99, 100, 107, 103, 97] : List UInt8))) 7 = (100, 1) := rfl
attribute [go_sem] Al9
theorem Uo {F} {σ : Ad} : A9 (B.env F) σ 21 5 (.int .i32 100) = some (u8 (100 : UInt8), σ) := Dn (by rw [Ac5 F]; rfl) (by unfold F7; rw [tb5 F]; rfl)
attribute [go_sem] Uo
theorem Amf : (8 < (List.toArray ([119, 112, 111, 110, 102, 116, 99, 100, 107, 103, 97] : List UInt8)).size) = True := eq_true (by decide)
attribute [go_sem] Amf
theorem AmH : Utf8.decode (ByteArray.mk (List.toArray ([119, 112, 111, 110, 102, 116, 99, 100, 107, 103, 97] : List UInt8))) 8 = (107, 1) := rfl
attribute [go_sem] AmH
theorem Tz {F} {σ : Ad} : A9 (B.env F) σ 21 5 (.int .i32 107) = some (u8 (107 : UInt8), σ) := Dn (by rw [Ac5 F]; rfl) (by unfold F7; rw [tb5 F]; rfl)
attribute [go_sem] Tz
theorem Al6 : (9 < (List.toArray ([119, 112, 111, 110, 102, 116, 99, 100, 107, 103, 97] : List UInt8)).size) = True := eq_true (by decide)
attribute [go_sem] Al6
theorem Amm : Utf8.decode (ByteArray.mk (List.toArray ([119, 112, 111, 110, 102, 116, 99, 100, 107, 103, 97] : List UInt8))) 9 = (103, 1) := rfl
attribute [go_sem] Amm
theorem Uj {F} {σ : Ad} : A9 (B.env F) σ 21 5 (.int .i32 103) = some (u8 (103 : UInt8), σ) := Dn (by rw [Ac5 F]; rfl) (by unfold F7; rw [tb5 F]; rfl)
attribute [go_sem] Uj
theorem AkT : (10 < (List.toArray ([119, 112, 111, 110, 102, 116, 99, 100, 107, 103, 97] : List UInt8)).size) = True := eq_true (by decide)
attribute [go_sem] AkT
theorem Alq : Utf8.decode (ByteArray.mk (List.toArray ([119, 112, 111, 110, 102, 116, 99, 100, 107, 103, 97] : List UInt8))) 10 = (97, 1) := rfl
attribute [go_sem] Alq
theorem Xm {F} {σ : Ad} : A9 (B.env F) σ 21 5 (.int .i32 97) = some (u8 (97 : UInt8), σ) := Dn (by rw [Ac5 F]; rfl) (by unfold F7; rw [tb5 F]; rfl)
attribute [go_sem] Xm
theorem AjI : (11 < (List.toArray ([119, 112, 111, 110, 102, 116, 99, 100, 107, 103, 97] : List UInt8)).size) = False := eq_false (by decide)
attribute [go_sem] AjI
theorem Al8 {F} {σ : Ad} (f : Bool) (l : List Api_Part) (x : AV) : Ar (B.env F) σ 39 (.sl f (L Ab l)) x = match idx x l.length with
    | some i => some (.rp (Ab (nth l i)))
    | none => none := Lq Ab (AmX F) (AmW F) (fun _ => rfl) f l x
attribute [go_sem] Al8
theorem nb66 {F} : ((B.env F).bty = some 66) = False := eq_false (fun h : (some 108 : Option TypeId) = some 66 => absurd (Option.some.inj h) (by decide))
attribute [go_sem] nb66
theorem AiZ {F} : T8 (B.env F) 122 = some .bool := Agq (Ako F) (tb4 F)
attribute [go_sem] AiZ
theorem Akn {F} {σ : Ad} (l c : Int) : Gf (B.env F) σ 134 (i64 l) (i64 c) = if Mk l c 16 then some (.bs (l == c) σ.length l.toNat 0 l.toNat, σ ++ [.buf 1 (List.replicate l.toNat [.str (([] : List UInt8))]) false]) else none := Ahu (Acq F) (tb9 F) (by decide) l c
attribute [go_sem] Akn
theorem Ajg {F} {σ : Ad} (f : Bool) (id tot off len : Nat) (x : AV) : Ar (B.env F) σ 134 (.bs f id tot off len) x = match σ[id]?, idx x len with
    | some (.buf k els _), some i => if els.length = tot ∧ k = 1 then some (.eref id tot (off + i) 0) else none
    | _, _ => none := Ahp (Acq F) (tb9 F) (by decide) f id tot off len x
attribute [go_sem] Ajg
theorem AhP {F} {σ : Ad} (f : Bool) (l : List (List UInt8)) (x : AV) : Ar (B.env F) σ 134 (.sl f (L J6 l)) x = match idx x l.length with
    | some i => some (.rp (J6 (nth l i)))
    | none => none := Lq J6 (Acq F) (tb9 F) (fun _ => rfl) f l x
attribute [go_sem] AhP
theorem AlT {F} {σ : Ad} (f : Bool) (id tot off len : Nat) (x : AV) : Ar (B.env F) σ 52 (.bs f id tot off len) x = match σ[id]?, idx x len with
    | some (.buf k els _), some i => if els.length = tot ∧ k = 1 then some (.eref id tot (off + i) 0) else none
    | _, _ => none := Ahp (AjT F) (tb5 F) (by decide) f id tot off len x
attribute [go_sem] AlT
theorem Ah9 {F} : Mo (B.env F) 110 = true := Agf (AlU F)
attribute [go_sem] Ah9
theorem AmJ {F} (cs : List AV) (x : AV) : Li (B.env F) 118 (.agg cs) x = match idx x 11 with
    | some i => partA (⟨.pointer 3, 1, 8, [.val (.pointer none)]⟩ : TD) cs (i * 1)
    | none => none := AbL (Aim F) (Ajm F) cs x
attribute [go_sem] AmJ
theorem AkK {F} {σ : Ad} (f : Bool) (l : List Int) (x : AV) : Ar (B.env F) σ 85 (.sl f (L M8 l)) x = match idx x l.length with
    | some i => some (.rp (M8 (nth l i)))
    | none => none := Lq M8 (tb85 F) (tb3 F) (fun _ => rfl) f l x
attribute [go_sem] AkK
theorem AfP {F} {σ : Ad} (s x : AV) : Cc (B.env F) σ .append [39, 39] [s, x] = match Hc σ x with
      | some new => if Ht x 3 = true then none else if ∀ cs ∈ new, cs.length = 3 then (match s with
          | .sl full els =>
            if els = [] ∧ full = true then
              if F9 new.length 24 then some (.bs false σ.length new.length 0 new.length, σ ++ [.buf 3 new false]) else none
            else if new = [] then some (.sl full els, σ)
            else if full = true ∧ (∀ cs ∈ els, cs.length = 3) ∧ F9 (els.length + new.length) 24
            then some (.bs false σ.length (els.length + new.length) 0 (els.length + new.length), σ ++ [.buf 3 (els ++ new) false]) else none
          | .bs full id tot off len => match σ[id]? with
            | some (.buf k els ro) =>
              if els.length = tot ∧ k = 3 ∧ F9 (len + new.length) 24 then
                if off = 0 ∧ len = tot then some (.bs false id (tot + new.length) 0 (tot + new.length), σ.set id (.buf k (els ++ new) ro))
                else if new = [] then some (.bs full id tot off len, σ)
                else if full then some (.bs false σ.length (len + new.length) 0 (len + new.length), σ ++ [.buf k ((els.drop off).take len ++ new) false])
                else none
              else none
            | some (.tb T l) => Ws σ id tot off len 24 3 66 T l new
            | _ => none
          | _ => none)
        else none
      | none => none := J1 (AmX F) (AmW F) (by decide) (AmX F) (.inl ⟨_, rfl⟩) s x []
attribute [go_sem] AfP
theorem nb41 {F} : ((B.env F).bty = some 41) = False := eq_false (fun h : (some 108 : Option TypeId) = some 41 => absurd (Option.some.inj h) (by decide))
attribute [go_sem] nb41
theorem Aiy {F} : (B.env F).G 0 = some (C1 AV.str glob0.l) := rfl
attribute [go_sem] Aiy
theorem Aip : List.take 16 (List.map (fun c => [c]) (C1 AV.str glob0.l)) = L J6 glob0.l := Zw
attribute [go_sem] Aip
theorem nb55 {F} : ((B.env F).bty = some 55) = False := eq_false (fun h : (some 108 : Option TypeId) = some 55 => absurd (Option.some.inj h) (by decide))
attribute [go_sem] nb55
theorem Af0 {F} {σ : Ad} (s x : AV) : Cc (B.env F) σ .append [53, 53] [s, x] = match Hc σ x with
      | some new => if Ht x 4 = true then none else if ∀ cs ∈ new, cs.length = 4 then (match s with
          | .sl full els =>
            if els = [] ∧ full = true then
              if F9 new.length 64 then some (.bs false σ.length new.length 0 new.length, σ ++ [.buf 4 new false]) else none
            else if new = [] then some (.sl full els, σ)
            else if full = true ∧ (∀ cs ∈ els, cs.length = 4) ∧ F9 (els.length + new.length) 64
            then some (.bs false σ.length (els.length + new.length) 0 (els.length + new.length), σ ++ [.buf 4 (els ++ new) false]) else none
          | .bs full id tot off len => match σ[id]? with
            | some (.buf k els ro) =>
              if els.length = tot ∧ k = 4 ∧ F9 (len + new.length) 64 then
                if off = 0 ∧ len = tot then some (.bs false id (tot + new.length) 0 (tot + new.length), σ.set id (.buf k (els ++ new) ro))
                else if new = [] then some (.bs full id tot off len, σ)
                else if full then some (.bs false σ.length (len + new.length) 0 (len + new.length), σ ++ [.buf k ((els.drop off).take len ++ new) false])
                else none
              else none
            | some (.tb T l) => Ws σ id tot off len 64 4 55 T l new
            | _ => none
          | _ => none)
        else none
      | none => none := J1 (Am4 F) (AoI F) (by decide) (Am4 F) (.inl ⟨_, rfl⟩) s x []
attribute [go_sem] Af0
theorem AkC {F} {σ : Ad} (f : Bool) (l : List Api_Value) (x : AV) : Ar (B.env F) σ 53 (.sl f (L cApi_Value l)) x = match idx x l.length with
    | some i => some (.rp (cApi_Value (nth l i)))
    | none => none := Lq cApi_Value (Am4 F) (AoI F) (fun y => by rw [Mz]; rfl) f l x
attribute [go_sem] AkC
theorem AcB {F} {σ : Ad} (s x : AV) : Cc (B.env F) σ .append [134, 134] [s, x] = match Hc σ x with
      | some new => if Ht x 1 = true then none else if ∀ cs ∈ new, cs.length = 1 then (match s with
          | .sl full els =>
            if els = [] ∧ full = true then
              if F9 new.length 16 then some (.bs false σ.length new.length 0 new.length, σ ++ [.buf 1 new false]) else none
            else if new = [] then some (.sl full els, σ)
            else if full = true ∧ (∀ cs ∈ els, cs.length = 1) ∧ F9 (els.length + new.length) 16
            then some (.bs false σ.length (els.length + new.length) 0 (els.length + new.length), σ ++ [.buf 1 (els ++ new) false]) else none
          | .bs full id tot off len => match σ[id]? with
            | some (.buf k els ro) =>
              if els.length = tot ∧ k = 1 ∧ F9 (len + new.length) 16 then
                if off = 0 ∧ len = tot then some (.bs false id (tot + new.length) 0 (tot + new.length), σ.set id (.buf k (els ++ new) ro))
                else if new = [] then some (.bs full id tot off len, σ)
                else if full then some (.bs false σ.length (len + new.length) 0 (len + new.length), σ ++ [.buf k ((els.drop off).take len ++ new) false])
                else none
              else none
            | some (.tb T l) => Ws σ id tot off len 16 1 9 T l new
            | _ => none
          | _ => none)
        else none
      | none => none := J1 (Acq F) (tb9 F) (by decide) (Acq F) (.inl ⟨_, rfl⟩) s x []
attribute [go_sem] AcB
theorem Agx {F} (a0 : Int) (a1 : Int) (a2 : Bool) (b0 : Int) (b1 : Int) (b2 : Bool) : Bg (B.env F) .neq 66 (.agg [i64 a0, i64 a1, .bool a2]) (.agg [i64 b0, i64 b1, .bool b2]) = some (.bool (!((a0 == b0) && ((a1 == b1) && (a2 == b2))))) :=
  Lh (AmW F) (by kernel_rfl) (by kernel_rfl) (My (by decide) (tb3 F) rfl rfl (Og a0 b0) (My (by decide) (tb3 F) rfl rfl (Og a1 b1) (Uu (by decide) (tb4 F) rfl rfl (Agj a2 b2))))
attribute [go_sem] Agx
theorem AfQ {F} (a0 : Int) (a1 : Int) (b0 : Int) (b1 : Int) : Bg (B.env F) .eql 38 (.agg [i64 a0, i64 a1]) (.agg [i64 b0, i64 b1]) = some (.bool (((a0 == b0) && (a1 == b1)))) :=
  R8 (AoM F) (by kernel_rfl) (by kernel_rfl) (My (by decide) (tb3 F) rfl rfl (Og a0 b0) (Uu (by decide) (tb3 F) rfl rfl (Og a1 b1)))
attribute [go_sem] AfQ
theorem Ama {F} {σ : Ad} (f : Bool) (l : List Api_Place) (x : AV) : Ar (B.env F) σ 22 (.sl f (L Ah l)) x = match idx x l.length with
    | some i => some (.rp (Ah (nth l i)))
    | none => none := Lq Ah (tb22 F) (tb99 F) (fun _ => rfl) f l x
attribute [go_sem] Ama
theorem nb99 {F} : ((B.env F).bty = some 99) = False := eq_false (fun h : (some 108 : Option TypeId) = some 99 => absurd (Option.some.inj h) (by decide))
attribute [go_sem] nb99
theorem Ajx {F} {σ : Ad} (f : Bool) (l : List Api_Edge) (x : AV) : Ar (B.env F) σ 23 (.sl f (L Ap l)) x = match idx x l.length with
    | some i => some (.rp (Ap (nth l i)))
    | none => none := Lq Ap (tb23 F) (AmM F) (fun _ => rfl) f l x
attribute [go_sem] Ajx
theorem Ao4 {F} : ((B.env F).bty = some 103) = False := eq_false (fun h : (some 108 : Option TypeId) = some 103 => absurd (Option.some.inj h) (by decide))
attribute [go_sem] Ao4
theorem Alu {F} {σ : Ad} (f : Bool) (l : List Api_Reader) (x : AV) : Ar (B.env F) σ 32 (.sl f (L Am l)) x = match idx x l.length with
    | some i => some (.rp (Am (nth l i)))
    | none => none := Lq Am (tb32 F) (tb94 F) (fun _ => rfl) f l x
attribute [go_sem] Alu
theorem nb94 {F} : ((B.env F).bty = some 94) = False := eq_false (fun h : (some 108 : Option TypeId) = some 94 => absurd (Option.some.inj h) (by decide))
attribute [go_sem] nb94
theorem Aj1 {F} {σ : Ad} (f : Bool) (l : List Api_Shipper) (x : AV) : Ar (B.env F) σ 33 (.sl f (L Al l)) x = match idx x l.length with
    | some i => some (.rp (Al (nth l i)))
    | none => none := Lq Al (tb33 F) (tb97 F) (fun _ => rfl) f l x
attribute [go_sem] Aj1
theorem nb97 {F} : ((B.env F).bty = some 97) = False := eq_false (fun h : (some 108 : Option TypeId) = some 97 => absurd (Option.some.inj h) (by decide))
attribute [go_sem] nb97
theorem Al5 {F} {σ : Ad} (f : Bool) (l : List Api_Wagon) (x : AV) : Ar (B.env F) σ 27 (.sl f (L An l)) x = match idx x l.length with
    | some i => some (.rp (An (nth l i)))
    | none => none := Lq An (tb27 F) (Alb F) (fun _ => rfl) f l x
attribute [go_sem] Al5
theorem Aor {F} : ((B.env F).bty = some 101) = False := eq_false (fun h : (some 108 : Option TypeId) = some 101 => absurd (Option.some.inj h) (by decide))
attribute [go_sem] Aor
theorem Amv {F} {σ : Ad} (f : Bool) (l : List Api_RailwayInfo) (x : AV) : Ar (B.env F) σ 34 (.sl f (L Af l)) x = match idx x l.length with
    | some i => some (.rp (Af (nth l i)))
    | none => none := Lq Af (tb34 F) (tb90 F) (fun _ => rfl) f l x
attribute [go_sem] Amv
theorem nb90 {F} : ((B.env F).bty = some 90) = False := eq_false (fun h : (some 108 : Option TypeId) = some 90 => absurd (Option.some.inj h) (by decide))
attribute [go_sem] nb90
theorem Alp {F} (x y : Bool) : Bg (B.env F) .neq 4 (.bool x) (.bool y) = some (.bool (!(x == y))) := V4 (tb4 F) x y
attribute [go_sem] Alp
theorem Alv {F} (x y : Bool) : Bg (B.env F) .eql 4 (.bool x) (.bool y) = some (.bool (x == y)) := X2 (tb4 F) x y
attribute [go_sem] Alv
def A5 (b : Strings_Builder) (a : List UInt8) : Option (Int × Bool × Strings_Builder) :=
  if F9 (b.buf.length + a.length) 1 then
    lt1 ((b.buf ++ a)) fun (c : List UInt8) =>
    some (((a.length : Int), false, ({ addr := (), buf := c } : Strings_Builder)))
  else none
def Ak (a : Strings_Builder) (b : UInt8) : Option (Bool × Strings_Builder) :=
  if F9 (a.buf.length + 1) 1 then
    lt1 ((a.buf ++ (([b] : List UInt8)))) fun (c : List UInt8) =>
    some ((false, ({ addr := (), buf := c } : Strings_Builder)))
  else none
def Ei (b : List UInt8) (a : Int) (c : List UInt8) : Option ((Int × List UInt8) ⊕ (List UInt8)) :=
  if (decide (a < (b.length : Int))) = true then
    if InR a b.length then
      ((if (decide ((nth b a.toNat) < (32 : UInt8))) = true then
        some true
      else
        if (decide ((nth b a.toNat) > (126 : UInt8))) = true then
          some true
        else
          if ((nth b a.toNat) == (43 : UInt8)) = true then
            some true
          else
            if ((nth b a.toNat) == (39 : UInt8)) = true then
              some true
            else
              some (((nth b a.toNat) == (63 : UInt8))) : Option (Bool)).bind fun d =>
      if d = true then
        (Ak (({ addr := (), buf := c } : Strings_Builder)) ((63 : UInt8))).bind fun e =>
        lt1 e.2.buf fun (f : List UInt8) =>
        if InR (((Ahl ((nth b a.toNat)) ((4 : UInt64)).toNat).toNat : Int)) ((([48, 49, 50, 51, 52, 53, 54, 55, 56, 57, 97, 98, 99, 100, 101, 102] : List UInt8)).length) then
          (Ak (({ addr := (), buf := f } : Strings_Builder)) ((nth (([48, 49, 50, 51, 52, 53, 54, 55, 56, 57, 97, 98, 99, 100, 101, 102] : List UInt8)) (((Ahl ((nth b a.toNat)) ((4 : UInt64)).toNat)).toNat)))).bind fun g =>
          lt1 g.2.buf fun (i : List UInt8) =>
          if InR ((((nth b a.toNat) &&& (15 : UInt8)).toNat : Int)) ((([48, 49, 50, 51, 52, 53, 54, 55, 56, 57, 97, 98, 99, 100, 101, 102] : List UInt8)).length) then
            lt1 ((nth (([48, 49, 50, 51, 52, 53, 54, 55, 56, 57, 97, 98, 99, 100, 101, 102] : List UInt8)) ((((nth b a.toNat) &&& (15 : UInt8))).toNat))) fun (j : UInt8) =>
            some ((j, i))
          else none
        else none
      else
        some (((nth b a.toNat), c)) : Option (UInt8 × List UInt8)).bind fun (k, l) =>
      (Ak (({ addr := (), buf := l } : Strings_Builder)) k).bind fun m =>
      lt1 m.2.buf fun (n : List UInt8) =>
      some (.inl (((w64 (a + 1)), n)))
    else none
  else
    some (.inr c)
def Hn (a : Strings_Builder) (b : List UInt8) : Option (Strings_Builder) :=
  (Cx (fun (v : Int × List UInt8) => Ei b v.1 v.2) ((0, a.buf))).bind fun c =>
  some (({ addr := (), buf := c } : Strings_Builder))
def strconv_Itoa (n : Int) : Option (List UInt8) := AhU n
def Az (a : Int) (b : Strings_Builder) : Option (Strings_Builder) :=
  (strconv_Itoa a).bind fun c =>
  (A5 (({ addr := (), buf := b.buf } : Strings_Builder)) c).bind fun d =>
  lt1 d.2.2.buf fun (e : List UInt8) =>
  some (({ addr := (), buf := e } : Strings_Builder))
def A1 (a : UInt8) (b : Strings_Builder) : Option (Strings_Builder) :=
  (Ak (({ addr := (), buf := b.buf } : Strings_Builder)) ((43 : UInt8))).bind fun c =>
  lt1 c.2.buf fun (d : List UInt8) =>
  (Ak (({ addr := (), buf := d } : Strings_Builder)) a).bind fun e =>
  lt1 e.2.buf fun (f : List UInt8) =>
  some (({ addr := (), buf := f } : Strings_Builder))
def Dy (b : Api_Item) (a : Int) (c : List UInt8) : Option ((Int × List UInt8) ⊕ (List UInt8)) :=
  if (decide (a < (b.Parts.length : Int))) = true then
    if InR a b.Parts.length then
      lt1 ((nth b.Parts a.toNat).Kind) fun (d : Int) =>
      lt1 ((nth b.Parts a.toNat).Serial) fun (e : Int) =>
      lt1 ((nth b.Parts a.toNat).Fitted) fun (f : Bool) =>
      (A1 ((113 : UInt8)) (({ addr := (), buf := c } : Strings_Builder))).bind fun g =>
      (Az d (({ addr := (), buf := g.buf } : Strings_Builder))).bind fun i =>
      (Ak (({ addr := (), buf := i.buf } : Strings_Builder)) ((46 : UInt8))).bind fun j =>
      (Az e (({ addr := (), buf := j.2.buf } : Strings_Builder))).bind fun k =>
      (A5 (({ addr := (), buf := k.buf } : Strings_Builder)) ((if f = true then ([46, 49] : List UInt8) else ([46, 48] : List UInt8)))).bind fun l =>
      some (.inl (((w64 (a + 1)), l.2.2.buf)))
    else none
  else
    some (.inr c)
def B6 (a : Api_Item) : Option (List UInt8 × Int) :=
  (if (decide (a.Kind < 1)) = true then
    some true
  else
    some ((decide (a.Kind ≥ 16))) : Option (Bool)).bind fun q =>
  if q = true then
    some ((([] : List UInt8), 110))
  else
    if InR a.Kind 16 then
      (A5 (({ addr := (), buf := [] } : Strings_Builder)) ((glob0.get a.Kind.toNat))).bind fun c =>
      (if (!((a.Ref.Railway == 0) && (a.Ref.No == 0))) = true then
        (A1 ((114 : UInt8)) (({ addr := (), buf := c.2.2.buf } : Strings_Builder))).bind fun s =>
        (Az a.Ref.Railway (({ addr := (), buf := s.buf } : Strings_Builder))).bind fun t =>
        (Ak (({ addr := (), buf := t.buf } : Strings_Builder)) ((46 : UInt8))).bind fun u =>
        (Az a.Ref.No (({ addr := (), buf := u.2.buf } : Strings_Builder))).bind fun w =>
        some w.buf
      else
        some c.2.2.buf : Option (List UInt8)).bind fun d =>
      ((if (a.Wagon != 0) = true then
        (A1 ((119 : UInt8)) (({ addr := (), buf := d } : Strings_Builder))).bind fun x =>
        (Az a.Wagon (({ addr := (), buf := x.buf } : Strings_Builder))).bind fun y =>
        some y.buf
      else
        some d : Option (List UInt8)).bind fun e =>
      (if (a.Place != 0) = true then
        (A1 ((112 : UInt8)) (({ addr := (), buf := e } : Strings_Builder))).bind fun z =>
        (Az a.Place (({ addr := (), buf := z.buf } : Strings_Builder))).bind fun aa =>
        some aa.buf
      else
        some e : Option (List UInt8)).bind fun f =>
      (if (a.Other != 0) = true then
        (A1 ((111 : UInt8)) (({ addr := (), buf := f } : Strings_Builder))).bind fun ab =>
        (Az a.Other (({ addr := (), buf := ab.buf } : Strings_Builder))).bind fun ac =>
        some ac.buf
      else
        some f : Option (List UInt8)).bind fun g =>
      (if (a.Number != 0) = true then
        (A1 ((110 : UInt8)) (({ addr := (), buf := g } : Strings_Builder))).bind fun ad =>
        (Az a.Number (({ addr := (), buf := ad.buf } : Strings_Builder))).bind fun ae =>
        some ae.buf
      else
        some g : Option (List UInt8)).bind fun i =>
      (if (a.From != 0) = true then
        (A1 ((102 : UInt8)) (({ addr := (), buf := i } : Strings_Builder))).bind fun af =>
        (Az a.From (({ addr := (), buf := af.buf } : Strings_Builder))).bind fun ag =>
        some ag.buf
      else
        some i : Option (List UInt8)).bind fun j =>
      (if (a.To != 0) = true then
        (A1 ((116 : UInt8)) (({ addr := (), buf := j } : Strings_Builder))).bind fun ah =>
        (Az a.To (({ addr := (), buf := ah.buf } : Strings_Builder))).bind fun ai =>
        some ai.buf
      else
        some j : Option (List UInt8)).bind fun k =>
      (if (a.Code != 0) = true then
        (A1 ((99 : UInt8)) (({ addr := (), buf := k } : Strings_Builder))).bind fun aj =>
        (Az a.Code (({ addr := (), buf := aj.buf } : Strings_Builder))).bind fun ak =>
        some ak.buf
      else
        some k : Option (List UInt8)).bind fun l =>
      (if (a.Dest != 0) = true then
        (A1 ((100 : UInt8)) (({ addr := (), buf := l } : Strings_Builder))).bind fun al =>
        (Az a.Dest (({ addr := (), buf := al.buf } : Strings_Builder))).bind fun am =>
        some am.buf
      else
        some l : Option (List UInt8)).bind fun m =>
      (if (a.Class != 0) = true then
        (A1 ((107 : UInt8)) (({ addr := (), buf := m } : Strings_Builder))).bind fun an =>
        (Az a.Class (({ addr := (), buf := an.buf } : Strings_Builder))).bind fun ao =>
        some ao.buf
      else
        some m : Option (List UInt8)).bind fun n =>
      (if (a.Weight != 0) = true then
        (A1 ((103 : UInt8)) (({ addr := (), buf := n } : Strings_Builder))).bind fun ap =>
        (Az a.Weight (({ addr := (), buf := ap.buf } : Strings_Builder))).bind fun aq =>
        some aq.buf
      else
        some n : Option (List UInt8)).bind fun o =>
      (if (a.Amount != 0) = true then
        (A1 ((97 : UInt8)) (({ addr := (), buf := o } : Strings_Builder))).bind fun ar =>
        (Az a.Amount (({ addr := (), buf := ar.buf } : Strings_Builder))).bind fun au =>
        some au.buf
      else
        some o : Option (List UInt8)).bind fun av =>
      some av : Option (List UInt8)).bind fun p =>
      (if (!(a.Text == (([] : List UInt8)))) = true then
        (A1 ((120 : UInt8)) (({ addr := (), buf := p } : Strings_Builder))).bind fun aw =>
        (Hn (({ addr := (), buf := aw.buf } : Strings_Builder)) a.Text).bind fun ax =>
        some ax.buf
      else
        some p : Option (List UInt8)).bind fun ay =>
      ((Cx (fun (v : Int × List UInt8) => Dy a v.1 v.2) ((0, ay))).bind fun az =>
      some az : Option (List UInt8)).bind fun aA =>
      (Ak (({ addr := (), buf := aA } : Strings_Builder)) ((39 : UInt8))).bind fun b =>
      if (decide ((b.2.buf.length : Int) > 65536)) = true then
        some ((([] : List UInt8), 2))
      else
        if ¬b.2.buf = [] then
          if F9 b.2.buf.length 1 then
            some ((b.2.buf, 0))
          else none
        else none
    else none
def Hf (s sep : List UInt8) : Option Int := AeR s sep
def Cn (l : List UInt8) (c : UInt8) : Option (Int) := Vs l c
def B0 (a : List UInt8) (b : UInt8) : Option (Int) :=
  (Cn a b).bind fun c =>
  some c
def Ds (a : List UInt8) (b : UInt8) : Option (Int) :=
  (B0 a b).bind fun c =>
  some c
def Ej (b : List UInt8) (a : List UInt8) : Option (Int) :=
  (if ((a.length : Int) == 0) = true then
    some true
  else
    some ((a == b)) : Option (Bool)).bind fun c =>
  if c = true then
    some 0
  else
    if ((a.length : Int) == 1) = true then
      if InR 0 a.length then
        (B0 b ((nth a 0))).bind fun d =>
        some d
      else none
    else
      if (decide ((a.length : Int) ≥ (b.length : Int))) = true then
        some ((-1))
      else
        none
def Es (a : List UInt8) (b : List UInt8) : Option (Int) :=
  (Ej a b).bind fun c =>
  some c
def B8 (d : List UInt8) (f : Int) (g : Int) (a : List UInt8) (b : Int) (e : List (List UInt8)) : Option ((List UInt8 × Int × List (List UInt8)) ⊕ (List UInt8 × Int × List (List UInt8))) :=
  if (decide (b < (w64 (g - 1)))) = true then
    (Es a d).bind fun c =>
    if (decide (c < 0)) = true then
      some (.inr ((a, b, e)))
    else
      if InB ((w64 (c + f))) a.length then
        if InR b e.length then
          lt1 ((e.set b.toNat ((a.take (((w64 (c + f))).toNat))))) fun (i : List (List UInt8)) =>
          if InB ((w64 (c + (d.length : Int)))) a.length then
            lt1 (((a.drop (((w64 (c + (d.length : Int)))).toNat)).take (a.length - ((w64 (c + (d.length : Int)))).toNat))) fun (j : List UInt8) =>
            some (.inl ((j, (w64 (b + 1)), i)))
          else none
        else none
      else none
  else
    some (.inr ((a, b, e)))
def E0 (c : List UInt8) (d : List UInt8) (i : Int) (e : Int) : Option (List (List UInt8)) :=
  if (e == 0) = true then
    some ([])
  else
    if (d == (([] : List UInt8))) = true then
      none
    else
      (if (decide (e < 0)) = true then
        (Hf c d).bind fun j =>
        some ((w64 (j + 1)))
      else
        some e : Option (Int)).bind fun k =>
      lt1 ((Am2 k ((w64 ((c.length : Int) + 1))))) fun (a : Int) =>
      if Mk a a 16 then
        lt1 ((List.replicate a.toNat (([] : List UInt8)))) fun (l : List (List UInt8)) =>
        ((Cx (fun (v : List UInt8 × Int × List (List UInt8)) => B8 d i a v.1 v.2.1 v.2.2) ((c, 0, l))).bind fun (m, n, o) =>
        some ((m, n, o)) : Option (List UInt8 × Int × List (List UInt8))).bind fun (p, b, f) =>
        if InR b f.length then
          lt1 ((f.set b.toNat p)) fun (g : List (List UInt8)) =>
          if InB ((w64 (b + 1))) g.length then
            some ((g.take (((w64 (b + 1))).toNat)))
          else none
        else none
      else none
def Fl (a : List UInt8) (b : List UInt8) : Option (List (List UInt8)) :=
  (E0 a b 0 ((-1))).bind fun c =>
  some c
def C8 (a : List UInt8) (b : List UInt8) : Option (Bool) :=
  (if (decide ((a.length : Int) ≥ (b.length : Int))) = true then
    if InB ((w64 ((a.length : Int) - (b.length : Int)))) a.length then
      some (((((a.drop (((w64 ((a.length : Int) - (b.length : Int)))).toNat)).take (a.length - ((w64 ((a.length : Int) - (b.length : Int)))).toNat))) == b))
    else none
  else
    some false : Option (Bool)).bind fun c =>
  some c
def C9 (a : List UInt8) (b : List UInt8) : Option (List UInt8 × Bool) :=
  (C8 a b).bind fun c =>
  if (!c) = true then
    some ((a, false))
  else
    if InB ((w64 ((a.length : Int) - (b.length : Int)))) a.length then
      lt1 ((a.take (((w64 ((a.length : Int) - (b.length : Int)))).toNat))) fun (d : List UInt8) =>
      some ((d, true))
    else none
def Do (b : List UInt8) (c : List UInt8) : Option (List UInt8 × Bool) :=
  (C9 b c).bind fun a =>
  some ((a.1, a.2))
def Da (b : List (List UInt8)) (c : List UInt8) (a : Int) : Option ((Int) ⊕ ((Unit) ⊕ ((Unit) ⊕ (Int)))) :=
  if (decide (a < (b.length : Int))) = true then
    if InR a b.length then
      if (c == (nth b a.toNat)) = true then
        ((some a).bind fun d => some (.inr d)).bind fun e => some (.inr (.inr e))
      else
        some (.inl ((w64 (a + 1))))
    else none
  else
    some (.inr (.inl (())))
def Ch (a : List (List UInt8)) (b : List UInt8) : Option (Int) :=
  ((Cx (fun (v : Int) => Da a b v) 0).bind fun x => match x with
  | .inl () =>
    some (.inl (()))
  | .inr z => some z : Option ((Unit) ⊕ (Int))).bind fun x => match x with
  | .inl () =>
    some ((-1))
  | .inr z => some z
def Bh (s : List UInt8) (n : Int) : Option (List Int × Bool) := Qv s n
def Ek (a : UInt8) : Option (UInt8) :=
  some ((a ||| (32 : UInt8)))
def Bb (b : List UInt8) (g : UInt64) (e : UInt64) (f : UInt64) (a : Int) : Option ((UInt64 × Int) ⊕ ((UInt64) ⊕ ((UInt64) ⊕ (UInt64 × Int)))) :=
  if (decide (a < (b.length : Int))) = true then
    (if InR a b.length then
      ((if (nth b a.toNat == (95 : UInt8)) = true then
        some (())
      else
        some (()) : Option (Unit)).bind fun _ =>
      (if (decide ((48 : UInt8) ≤ nth b a.toNat)) = true then
        some ((decide (nth b a.toNat ≤ (57 : UInt8))))
      else
        some false : Option (Bool)).bind fun i =>
      if i = true then
        lt1 ((nth b a.toNat - (48 : UInt8))) fun (j : UInt8) =>
        some (.inl j)
      else
        ((Ek (nth b a.toNat)).bind fun k =>
        if (decide ((97 : UInt8) ≤ k)) = true then
          (Ek (nth b a.toNat)).bind fun l =>
          some ((decide (l ≤ (122 : UInt8))))
        else
          some false : Option (Bool)).bind fun m =>
        if m = true then
          (Ek (nth b a.toNat)).bind fun n =>
          lt1 (((n - (97 : UInt8)) + (10 : UInt8))) fun (o : UInt8) =>
          some (.inl o)
        else
          ((((some (((0 : UInt64), 2))).bind fun p => some (.inr p)).bind fun q => some (.inr (.inr q))).bind fun s => some (.inr s)).bind fun t => some (.inr t) : Option ((UInt8) ⊕ ((UInt64) ⊕ ((UInt64 × Int) ⊕ ((UInt64) ⊕ ((UInt64) ⊕ (UInt64 × Int))))))).bind fun x => match x with
      | .inl c =>
        if (decide (c ≥ (UInt8.ofInt 16))) = true then
          (((some (((0 : UInt64), 2))).bind fun u => some (.inr u)).bind fun v => some (.inr (.inr v))).bind fun w => some (.inr w)
        else
          if (decide (f ≥ g)) = true then
            (((some ((e, 1))).bind fun y => some (.inr y)).bind fun aa => some (.inr (.inr aa))).bind fun ab => some (.inr ab)
          else
            lt1 ((f * (UInt64.ofInt 16))) fun (d : UInt64) =>
            (if (decide ((d + c.toUInt64) < d)) = true then
              some true
            else
              some ((decide ((d + c.toUInt64) > e))) : Option (Bool)).bind fun ac =>
            if ac = true then
              (((some ((e, 1))).bind fun ad => some (.inr ad)).bind fun ae => some (.inr (.inr ae))).bind fun af => some (.inr af)
            else
              some (.inl ((d + c.toUInt64)))
      | .inr z => some z
    else none : Option ((UInt64) ⊕ ((UInt64 × Int) ⊕ ((UInt64) ⊕ ((UInt64) ⊕ (UInt64 × Int)))))).bind fun x => match x with
    | .inl ag =>
      some (.inl ((ag, (w64 (a + 1)))))
    | .inr z => some z
  else
    some (.inr (.inl f))
def B4 (a : List UInt8) : Option (UInt64 × Int) :=
  if (a == (([] : List UInt8))) = true then
    some (((0 : UInt64), 2))
  else
    (some (()) : Option (Unit)).bind fun () =>
    (some (()) : Option (Unit)).bind fun () =>
    (lt1 ((1152921504606846976 : UInt64)) fun (b : UInt64) =>
    some b : Option (UInt64)).bind fun c =>
    lt1 (((AeK ((1 : UInt64)) ((UInt64.ofInt 8)).toNat) - (1 : UInt64))) fun (d : UInt64) =>
    ((Cx (fun (v : UInt64 × Int) => Bb a c d v.1 v.2) (((0 : UInt64), 0))).bind fun x => match x with
    | .inl e =>
      some (.inl e)
    | .inr z => some z : Option ((UInt64) ⊕ (UInt64 × Int))).bind fun x => match x with
    | .inl f =>
      some ((f, 0))
    | .inr z => some z
def Cb (s : List UInt8) (b c : Int) : Option (UInt64 × Bool) := if b = 16 ∧ c = 8 ∧ s.length ≤ 281474976710656 then (B4 s).bind fun r => if r.2 = 0 ∨ r.2 = 1 ∨ r.2 = 2 then some (r.1, r.2 != 0) else none else none
def B3 (b : List UInt8) (a : Int) (c : List UInt8) : Option ((Int × List UInt8) ⊕ ((List UInt8) ⊕ ((List UInt8) ⊕ (List UInt8 × Bool)))) :=
  if (decide (a < (b.length : Int))) = true then
    if InR a b.length then
      (if ((nth b a.toNat) == (63 : UInt8)) = true then
        if (decide ((w64 (a + 2)) ≥ (b.length : Int))) = true then
          (((some ((([] : List UInt8), false))).bind fun e => some (.inr e)).bind fun f => some (.inr (.inr f))).bind fun g => some (.inr g)
        else
          if InB ((w64 (a + 3))) b.length then
            if InB ((w64 (a + 1))) (((w64 (a + 3))).toNat) then
              (Cb (((b.drop (((w64 (a + 1))).toNat)).take (((w64 (a + 3))).toNat - ((w64 (a + 1))).toNat))) 16 8).bind fun d =>
              if (!!d.2) = true then
                (((some ((([] : List UInt8), false))).bind fun i => some (.inr i)).bind fun j => some (.inr (.inr j))).bind fun k => some (.inr k)
              else
                some (.inl (((w64 (a + 2)), d.1.toUInt8)))
            else none
          else none
      else
        some (.inl ((a, (nth b a.toNat)))) : Option ((Int × UInt8) ⊕ ((Int × List UInt8) ⊕ ((List UInt8) ⊕ ((List UInt8) ⊕ (List UInt8 × Bool)))))).bind fun x => match x with
      | .inl (l, m) =>
        (Ak (({ addr := (), buf := c } : Strings_Builder)) m).bind fun n =>
        some (.inl (((w64 (l + 1)), n.2.buf)))
      | .inr z => some z
    else none
  else
    some (.inr (.inl c))
def Ex (b : List UInt8) : Option (List UInt8 × Bool) :=
  ((Cx (fun (v : Int × List UInt8) => B3 b v.1 v.2) ((0, []))).bind fun x => match x with
  | .inl c =>
    some (.inl c)
  | .inr z => some z : Option ((List UInt8) ⊕ (List UInt8 × Bool))).bind fun x => match x with
  | .inl a =>
    if ¬a = [] then
      if F9 a.length 1 then
        some ((a, true))
      else none
    else none
  | .inr z => some z
def C7 (s : List UInt8) : Option (List UInt8 × Bool) := if s = [] then some ([], true) else Ex s
def Cp (a : Api_Item) (b : List UInt8) : Option (Bool × Api_Item) :=
  if (b == (([] : List UInt8))) = true then
    some ((false, a))
  else
    (if InR 0 b.length then
      (Ds (([119, 112, 111, 110, 102, 116, 99, 100, 107, 103, 97] : List UInt8)) ((nth b 0))).bind fun u =>
      lt1 u fun (c : Int) =>
      if (c == 0) = true then
        if InB 1 b.length then
          (Bh (((b.drop 1).take (b.length - 1))) 1).bind fun f =>
          if f.2 = true then
            if InR 0 f.1.length then
              some ((f.2, a.Ref.Railway, a.Ref.No, nth f.1 0, a.Place, a.Other, a.Number, a.From, a.To, a.Code, a.Dest, a.Class, a.Weight, a.Amount, a.Text, a.Parts))
            else none
          else
            some ((f.2, a.Ref.Railway, a.Ref.No, a.Wagon, a.Place, a.Other, a.Number, a.From, a.To, a.Code, a.Dest, a.Class, a.Weight, a.Amount, a.Text, a.Parts))
        else none
      else
        if (c == 1) = true then
          if InB 1 b.length then
            (Bh (((b.drop 1).take (b.length - 1))) 1).bind fun g =>
            if g.2 = true then
              if InR 0 g.1.length then
                some ((g.2, a.Ref.Railway, a.Ref.No, a.Wagon, nth g.1 0, a.Other, a.Number, a.From, a.To, a.Code, a.Dest, a.Class, a.Weight, a.Amount, a.Text, a.Parts))
              else none
            else
              some ((g.2, a.Ref.Railway, a.Ref.No, a.Wagon, a.Place, a.Other, a.Number, a.From, a.To, a.Code, a.Dest, a.Class, a.Weight, a.Amount, a.Text, a.Parts))
          else none
        else
          if (c == 2) = true then
            if InB 1 b.length then
              (Bh (((b.drop 1).take (b.length - 1))) 1).bind fun i =>
              if i.2 = true then
                if InR 0 i.1.length then
                  some ((i.2, a.Ref.Railway, a.Ref.No, a.Wagon, a.Place, nth i.1 0, a.Number, a.From, a.To, a.Code, a.Dest, a.Class, a.Weight, a.Amount, a.Text, a.Parts))
                else none
              else
                some ((i.2, a.Ref.Railway, a.Ref.No, a.Wagon, a.Place, a.Other, a.Number, a.From, a.To, a.Code, a.Dest, a.Class, a.Weight, a.Amount, a.Text, a.Parts))
            else none
          else
            if (c == 3) = true then
              if InB 1 b.length then
                (Bh (((b.drop 1).take (b.length - 1))) 1).bind fun j =>
                if j.2 = true then
                  if InR 0 j.1.length then
                    some ((j.2, a.Ref.Railway, a.Ref.No, a.Wagon, a.Place, a.Other, nth j.1 0, a.From, a.To, a.Code, a.Dest, a.Class, a.Weight, a.Amount, a.Text, a.Parts))
                  else none
                else
                  some ((j.2, a.Ref.Railway, a.Ref.No, a.Wagon, a.Place, a.Other, a.Number, a.From, a.To, a.Code, a.Dest, a.Class, a.Weight, a.Amount, a.Text, a.Parts))
              else none
            else
              if (c == 4) = true then
                if InB 1 b.length then
                  (Bh (((b.drop 1).take (b.length - 1))) 1).bind fun k =>
                  if k.2 = true then
                    if InR 0 k.1.length then
                      some ((k.2, a.Ref.Railway, a.Ref.No, a.Wagon, a.Place, a.Other, a.Number, nth k.1 0, a.To, a.Code, a.Dest, a.Class, a.Weight, a.Amount, a.Text, a.Parts))
                    else none
                  else
                    some ((k.2, a.Ref.Railway, a.Ref.No, a.Wagon, a.Place, a.Other, a.Number, a.From, a.To, a.Code, a.Dest, a.Class, a.Weight, a.Amount, a.Text, a.Parts))
                else none
              else
                if (c == 5) = true then
                  if InB 1 b.length then
                    (Bh (((b.drop 1).take (b.length - 1))) 1).bind fun l =>
                    if l.2 = true then
                      if InR 0 l.1.length then
                        some ((l.2, a.Ref.Railway, a.Ref.No, a.Wagon, a.Place, a.Other, a.Number, a.From, nth l.1 0, a.Code, a.Dest, a.Class, a.Weight, a.Amount, a.Text, a.Parts))
                      else none
                    else
                      some ((l.2, a.Ref.Railway, a.Ref.No, a.Wagon, a.Place, a.Other, a.Number, a.From, a.To, a.Code, a.Dest, a.Class, a.Weight, a.Amount, a.Text, a.Parts))
                  else none
                else
                  if (c == 6) = true then
                    if InB 1 b.length then
                      (Bh (((b.drop 1).take (b.length - 1))) 1).bind fun m =>
                      if m.2 = true then
                        if InR 0 m.1.length then
                          some ((m.2, a.Ref.Railway, a.Ref.No, a.Wagon, a.Place, a.Other, a.Number, a.From, a.To, nth m.1 0, a.Dest, a.Class, a.Weight, a.Amount, a.Text, a.Parts))
                        else none
                      else
                        some ((m.2, a.Ref.Railway, a.Ref.No, a.Wagon, a.Place, a.Other, a.Number, a.From, a.To, a.Code, a.Dest, a.Class, a.Weight, a.Amount, a.Text, a.Parts))
                    else none
                  else
                    if (c == 7) = true then
                      if InB 1 b.length then
                        (Bh (((b.drop 1).take (b.length - 1))) 1).bind fun n =>
                        if n.2 = true then
                          if InR 0 n.1.length then
                            some ((n.2, a.Ref.Railway, a.Ref.No, a.Wagon, a.Place, a.Other, a.Number, a.From, a.To, a.Code, nth n.1 0, a.Class, a.Weight, a.Amount, a.Text, a.Parts))
                          else none
                        else
                          some ((n.2, a.Ref.Railway, a.Ref.No, a.Wagon, a.Place, a.Other, a.Number, a.From, a.To, a.Code, a.Dest, a.Class, a.Weight, a.Amount, a.Text, a.Parts))
                      else none
                    else
                      if (c == 8) = true then
                        if InB 1 b.length then
                          (Bh (((b.drop 1).take (b.length - 1))) 1).bind fun o =>
                          if o.2 = true then
                            if InR 0 o.1.length then
                              some ((o.2, a.Ref.Railway, a.Ref.No, a.Wagon, a.Place, a.Other, a.Number, a.From, a.To, a.Code, a.Dest, nth o.1 0, a.Weight, a.Amount, a.Text, a.Parts))
                            else none
                          else
                            some ((o.2, a.Ref.Railway, a.Ref.No, a.Wagon, a.Place, a.Other, a.Number, a.From, a.To, a.Code, a.Dest, a.Class, a.Weight, a.Amount, a.Text, a.Parts))
                        else none
                      else
                        if (c == 9) = true then
                          if InB 1 b.length then
                            (Bh (((b.drop 1).take (b.length - 1))) 1).bind fun p =>
                            if p.2 = true then
                              if InR 0 p.1.length then
                                some ((p.2, a.Ref.Railway, a.Ref.No, a.Wagon, a.Place, a.Other, a.Number, a.From, a.To, a.Code, a.Dest, a.Class, nth p.1 0, a.Amount, a.Text, a.Parts))
                              else none
                            else
                              some ((p.2, a.Ref.Railway, a.Ref.No, a.Wagon, a.Place, a.Other, a.Number, a.From, a.To, a.Code, a.Dest, a.Class, a.Weight, a.Amount, a.Text, a.Parts))
                          else none
                        else
                          if (c == 10) = true then
                            if InB 1 b.length then
                              (Bh (((b.drop 1).take (b.length - 1))) 1).bind fun q =>
                              if q.2 = true then
                                if InR 0 q.1.length then
                                  some ((q.2, a.Ref.Railway, a.Ref.No, a.Wagon, a.Place, a.Other, a.Number, a.From, a.To, a.Code, a.Dest, a.Class, a.Weight, nth q.1 0, a.Text, a.Parts))
                                else none
                              else
                                some ((q.2, a.Ref.Railway, a.Ref.No, a.Wagon, a.Place, a.Other, a.Number, a.From, a.To, a.Code, a.Dest, a.Class, a.Weight, a.Amount, a.Text, a.Parts))
                            else none
                          else
                            if (decide (c ≥ 0)) = true then
                              if InB 1 b.length then
                                (Bh (((b.drop 1).take (b.length - 1))) 1).bind fun s =>
                                if s.2 = true then
                                  none
                                else
                                  some ((s.2, a.Ref.Railway, a.Ref.No, a.Wagon, a.Place, a.Other, a.Number, a.From, a.To, a.Code, a.Dest, a.Class, a.Weight, a.Amount, a.Text, a.Parts))
                              else none
                            else
                              if InR 0 b.length then
                                if ((nth b 0) == (114 : UInt8)) = true then
                                  if InB 1 b.length then
                                    (Bh (((b.drop 1).take (b.length - 1))) 2).bind fun e =>
                                    if e.2 = true then
                                      if InR 0 e.1.length then
                                        if InR 1 e.1.length then
                                          some ((e.2, nth e.1 0, nth e.1 1, a.Wagon, a.Place, a.Other, a.Number, a.From, a.To, a.Code, a.Dest, a.Class, a.Weight, a.Amount, a.Text, a.Parts))
                                        else none
                                      else none
                                    else
                                      some ((e.2, a.Ref.Railway, a.Ref.No, a.Wagon, a.Place, a.Other, a.Number, a.From, a.To, a.Code, a.Dest, a.Class, a.Weight, a.Amount, a.Text, a.Parts))
                                  else none
                                else
                                  if InR 0 b.length then
                                    if ((nth b 0) == (120 : UInt8)) = true then
                                      if InB 1 b.length then
                                        (C7 (((b.drop 1).take (b.length - 1)))).bind fun t =>
                                        some ((t.2, a.Ref.Railway, a.Ref.No, a.Wagon, a.Place, a.Other, a.Number, a.From, a.To, a.Code, a.Dest, a.Class, a.Weight, a.Amount, t.1, a.Parts))
                                      else none
                                    else
                                      if InR 0 b.length then
                                        if ((nth b 0) == (113 : UInt8)) = true then
                                          if InB 1 b.length then
                                            (Bh (((b.drop 1).take (b.length - 1))) 3).bind fun d =>
                                            if d.2 = true then
                                              if InR 0 d.1.length then
                                                if InR 1 d.1.length then
                                                  if InR 2 d.1.length then
                                                    if F9 (a.Parts.length + 1) 24 then
                                                      lt1 ((a.Parts ++ (([({ Kind := nth d.1 0, Serial := nth d.1 1, Fitted := (nth d.1 2 == 1) } : Api_Part)] : List Api_Part)))) fun (v : List Api_Part) =>
                                                      some ((d.2, a.Ref.Railway, a.Ref.No, a.Wagon, a.Place, a.Other, a.Number, a.From, a.To, a.Code, a.Dest, a.Class, a.Weight, a.Amount, a.Text, v))
                                                    else none
                                                  else none
                                                else none
                                              else none
                                            else
                                              some ((d.2, a.Ref.Railway, a.Ref.No, a.Wagon, a.Place, a.Other, a.Number, a.From, a.To, a.Code, a.Dest, a.Class, a.Weight, a.Amount, a.Text, a.Parts))
                                          else none
                                        else
                                          some ((false, a.Ref.Railway, a.Ref.No, a.Wagon, a.Place, a.Other, a.Number, a.From, a.To, a.Code, a.Dest, a.Class, a.Weight, a.Amount, a.Text, a.Parts))
                                      else none
                                  else none
                              else none
    else none : Option (Bool × Int × Int × Int × Int × Int × Int × Int × Int × Int × Int × Int × Int × Int × List UInt8 × List Api_Part)).bind fun (w, x, y, z, aa, ab, ac, ad, ae, af, ag, ah, ai, aj, ak, al) =>
    some ((w, ({ Kind := a.Kind, Ref := ({ Railway := x, No := y } : Api_Ref), Wagon := z, Place := aa, Other := ab, Number := ac, From := ad, To := ae, Code := af, Dest := ag, Class := ah, Weight := ai, Amount := aj, Text := ak, Parts := al } : Api_Item)))
def E7 (b : List (List UInt8)) (c : Int) (d : Int) (e : Int) (f : Int) (g : Int) (i : Int) (j : Int) (k : Int) (l : Int) (m : Int) (n : Int) (o : Int) (p : Int) (q : Int) (s : Int) (t : List UInt8) (u : List Api_Part) : Option ((Int × Int × Int × Int × Int × Int × Int × Int × Int × Int × Int × Int × Int × Int × Int × List UInt8 × List Api_Part) ⊕ ((Int × Int × Int × Int × Int × Int × Int × Int × Int × Int × Int × Int × Int × Int × List UInt8 × List Api_Part) ⊕ ((Int × Int × Int × Int × Int × Int × Int × Int × Int × Int × Int × Int × Int × Int × List UInt8 × List Api_Part) ⊕ (Api_Item × Int)))) :=
  lt1 ((decide (c < ((((b.drop 1).take (b.length - 1))).length : Int)))) fun (v : Bool) =>
  if v = true then
    if InR c ((((b.drop 1).take (b.length - 1))).length) then
      lt1 (nth (((b.drop 1).take (b.length - 1))) c.toNat) fun (w : List UInt8) =>
      (Cp (({ Kind := d, Ref := ({ Railway := e, No := f } : Api_Ref), Wagon := g, Place := i, Other := j, Number := k, From := l, To := m, Code := n, Dest := o, Class := p, Weight := q, Amount := s, Text := t, Parts := u } : Api_Item)) w).bind fun a =>
      lt1 a.2.Parts fun (x : List Api_Part) =>
      if (!a.1) = true then
        ((some ((({ Kind := 0, Ref := ({ Railway := 0, No := 0 } : Api_Ref), Wagon := 0, Place := 0, Other := 0, Number := 0, From := 0, To := 0, Code := 0, Dest := 0, Class := 0, Weight := 0, Amount := 0, Text := ([] : List UInt8), Parts := [] } : Api_Item), 4))).bind fun y => some (.inr y)).bind fun z => some (.inr (.inr z))
      else
        some (.inl (((w64 (c + 1)), a.2.Kind, a.2.Ref.Railway, a.2.Ref.No, a.2.Wagon, a.2.Place, a.2.Other, a.2.Number, a.2.From, a.2.To, a.2.Code, a.2.Dest, a.2.Class, a.2.Weight, a.2.Amount, a.2.Text, x)))
    else none
  else
    some (.inr (.inl ((d, e, f, g, i, j, k, l, m, n, o, p, q, s, t, u))))
def D0 (b : List UInt8) : Option (Api_Item × Int) :=
  if (decide ((b.length : Int) > 65536)) = true then
    some ((({ Kind := 0, Ref := ({ Railway := 0, No := 0 } : Api_Ref), Wagon := 0, Place := 0, Other := 0, Number := 0, From := 0, To := 0, Code := 0, Dest := 0, Class := 0, Weight := 0, Amount := 0, Text := ([] : List UInt8), Parts := [] } : Api_Item), 2))
  else
    (Do b (([39] : List UInt8))).bind fun y =>
    (Fl y.1 (([43] : List UInt8))).bind fun a =>
    if InR 0 a.length then
      (Ch glob0.l (nth a 0)).bind fun aa =>
      (if InB 1 a.length then
        (Cx (fun (v : Int × Int × Int × Int × Int × Int × Int × Int × Int × Int × Int × Int × Int × Int × Int × List UInt8 × List Api_Part) => E7 a v.1 v.2.1 v.2.2.1 v.2.2.2.1 v.2.2.2.2.1 v.2.2.2.2.2.1 v.2.2.2.2.2.2.1 v.2.2.2.2.2.2.2.1 v.2.2.2.2.2.2.2.2.1 v.2.2.2.2.2.2.2.2.2.1 v.2.2.2.2.2.2.2.2.2.2.1 v.2.2.2.2.2.2.2.2.2.2.2.1 v.2.2.2.2.2.2.2.2.2.2.2.2.1 v.2.2.2.2.2.2.2.2.2.2.2.2.2.1 v.2.2.2.2.2.2.2.2.2.2.2.2.2.2.1 v.2.2.2.2.2.2.2.2.2.2.2.2.2.2.2.1 v.2.2.2.2.2.2.2.2.2.2.2.2.2.2.2.2) ((0, aa, 0, 0, 0, 0, 0, 0, 0, 0, 0, 0, 0, 0, 0, ([] : List UInt8), []))).bind fun x => match x with
        | .inl (ab, ac, ad, ae, af, ag, ah, ai, aj, ak, al, am, an, ao, ap, aq) =>
          some (.inl ((ab, ac, ad, ae, af, ag, ah, ai, aj, ak, al, am, an, ao, ap, aq)))
        | .inr z => some z
      else none : Option ((Int × Int × Int × Int × Int × Int × Int × Int × Int × Int × Int × Int × Int × Int × List UInt8 × List Api_Part) ⊕ (Api_Item × Int))).bind fun x => match x with
      | .inl (c, d, e, f, g, i, j, k, m, n, o, p, q, s, t, u) =>
        (B6 (({ Kind := c, Ref := ({ Railway := d, No := e } : Api_Ref), Wagon := f, Place := g, Other := i, Number := j, From := k, To := m, Code := n, Dest := o, Class := p, Weight := q, Amount := s, Text := t, Parts := u } : Api_Item))).bind fun w =>
        (if (w.2 != 0) = true then
          some true
        else
          some ((!(w.1 == b))) : Option (Bool)).bind fun ar =>
        if ar = true then
          some ((({ Kind := 0, Ref := ({ Railway := 0, No := 0 } : Api_Ref), Wagon := 0, Place := 0, Other := 0, Number := 0, From := 0, To := 0, Code := 0, Dest := 0, Class := 0, Weight := 0, Amount := 0, Text := ([] : List UInt8), Parts := [] } : Api_Item), 4))
        else
          some ((({ Kind := c, Ref := ({ Railway := d, No := e } : Api_Ref), Wagon := f, Place := g, Other := i, Number := j, From := k, To := m, Code := n, Dest := o, Class := p, Weight := q, Amount := s, Text := t, Parts := u } : Api_Item), 0))
      | .inr z => some z
    else none
def E2 (a : Api_Item) : Option (Bool) :=
  (if (decide ((a.Text.length : Int) ≤ 2000)) = true then
    some ((decide ((a.Parts.length : Int) ≤ 20)))
  else
    some false : Option (Bool)).bind fun b =>
  some b
def Bc (a : Int) : Option (Api_Value) :=
  some ((Api_Value.mk 1 a ([]) ([])))
def Pb (a : List UInt8) : Option (Api_Value) :=
  some ((Api_Value.mk 2 0 a ([])))
def edi_list_cnil  : Option (Api_Value) :=
  some ((Api_Value.mk 3 0 ([]) ([])))
def H7 (a : List Api_Value) : Option (Api_Value) :=
  some ((Api_Value.mk 3 0 ([]) a))
def Em (a : List Api_Value) : Option (Api_Value) :=
  some ((Api_Value.mk 3 0 ([]) a))
def Ed (b : Api_Item) (a : Int) (c : List Api_Value) : Option ((Int × List Api_Value) ⊕ (List Api_Value)) :=
  if (decide (a < (b.Parts.length : Int))) = true then
    if InR a b.Parts.length then
      lt1 ((nth b.Parts a.toNat).Kind) fun (e : Int) =>
      lt1 ((nth b.Parts a.toNat).Serial) fun (f : Int) =>
      lt1 ((nth b.Parts a.toNat).Fitted) fun (g : Bool) =>
      (if g = true then
        some 1
      else
        some 0 : Option (Int)).bind fun i =>
      (Bc e).bind fun j =>
      (Bc f).bind fun k =>
      (Bc i).bind fun l =>
      (Em (([j, k, l] : List Api_Value))).bind fun d =>
      if F9 (c.length + 1) 64 then
        lt1 ((c ++ (([(Api_Value.mk d.Kind d.N ([]) d.L)] : List Api_Value)))) fun (m : List Api_Value) =>
        some (.inl (((w64 (a + 1)), m)))
      else none
    else none
  else
    some (.inr c)
def Gy (a : Api_Item) : Option (Api_Value) :=
  (Bc a.Kind).bind fun s =>
  (Bc a.Ref.Railway).bind fun t =>
  (Bc a.Ref.No).bind fun u =>
  (Em (([t, u] : List Api_Value))).bind fun b =>
  lt1 (([s, (Api_Value.mk b.Kind b.N ([]) b.L)] : List Api_Value)) fun (d : List Api_Value) =>
  ((Bc a.Wagon).bind fun w =>
  if F9 (d.length + 1) 64 then
    lt1 ((d ++ (([w] : List Api_Value)))) fun (e : List Api_Value) =>
    (Bc a.Place).bind fun x =>
    if F9 (e.length + 1) 64 then
      lt1 ((e ++ (([x] : List Api_Value)))) fun (f : List Api_Value) =>
      (Bc a.Other).bind fun y =>
      if F9 (f.length + 1) 64 then
        lt1 ((f ++ (([y] : List Api_Value)))) fun (g : List Api_Value) =>
        (Bc a.Number).bind fun z =>
        if F9 (g.length + 1) 64 then
          lt1 ((g ++ (([z] : List Api_Value)))) fun (i : List Api_Value) =>
          (Bc a.From).bind fun aa =>
          if F9 (i.length + 1) 64 then
            lt1 ((i ++ (([aa] : List Api_Value)))) fun (j : List Api_Value) =>
            (Bc a.To).bind fun ab =>
            if F9 (j.length + 1) 64 then
              lt1 ((j ++ (([ab] : List Api_Value)))) fun (k : List Api_Value) =>
              (Bc a.Code).bind fun ac =>
              if F9 (k.length + 1) 64 then
                lt1 ((k ++ (([ac] : List Api_Value)))) fun (l : List Api_Value) =>
                (Bc a.Dest).bind fun ad =>
                if F9 (l.length + 1) 64 then
                  lt1 ((l ++ (([ad] : List Api_Value)))) fun (m : List Api_Value) =>
                  (Bc a.Class).bind fun ae =>
                  if F9 (m.length + 1) 64 then
                    lt1 ((m ++ (([ae] : List Api_Value)))) fun (n : List Api_Value) =>
                    (Bc a.Weight).bind fun af =>
                    if F9 (n.length + 1) 64 then
                      lt1 ((n ++ (([af] : List Api_Value)))) fun (o : List Api_Value) =>
                      (Bc a.Amount).bind fun ag =>
                      if F9 (o.length + 1) 64 then
                        lt1 ((o ++ (([ag] : List Api_Value)))) fun (ah : List Api_Value) =>
                        some ah
                      else none
                    else none
                  else none
                else none
              else none
            else none
          else none
        else none
      else none
    else none
  else none : Option (List Api_Value)).bind fun p =>
  edi_list_cnil.bind fun q =>
  ((Cx (fun (v : Int × List Api_Value) => Ed a v.1 v.2) ((0, []))).bind fun ai =>
  some ai : Option (List Api_Value)).bind fun aj =>
  (Pb a.Text).bind fun ak =>
  if F9 (p.length + 2) 64 then
    (H7 ((p ++ (([ak, (Api_Value.mk q.Kind q.N ([]) aj)] : List Api_Value))))).bind fun c =>
    lt1 c.L fun (al : List Api_Value) =>
    some ((Api_Value.mk c.Kind c.N ([]) al))
  else none
def Hx (a : List UInt8) (b : List UInt8) : Option (Int) := Re a b
def F8 (a : Int) : Option (Bool) :=
  some ((a != a))
def D4 (a : Int) (b : Int) : Option (Int) :=
  (F8 a).bind fun d =>
  (F8 b).bind fun c =>
  if d = true then
    if c = true then
      some 0
    else
      some ((-1))
  else
    if c = true then
      some 1
    else
      if (decide (a < b)) = true then
        some ((-1))
      else
        if (decide (a > b)) = true then
          some 1
        else
          some 0
def Fq (a : List UInt8) (b : List UInt8) : Option (Int) :=
  (Hx a b).bind fun c =>
  some c
def Bq (s1_3072 : List Api_Value) (s2_3073 : List Api_Value) (c : Api_Value → Api_Value → Option (Int)) (a : Int) : Option ((Int) ⊕ ((Unit) ⊕ ((Unit) ⊕ (Int)))) :=
  if (decide (a < (s1_3072.length : Int))) = true then
    if InR a s1_3072.length then
      lt1 ((nth s1_3072 a.toNat).Kind) fun (d : Int) =>
      lt1 ((nth s1_3072 a.toNat).N) fun (e : Int) =>
      lt1 ((nth s1_3072 a.toNat).B) fun (f : List UInt8) =>
      lt1 ((nth s1_3072 a.toNat).L) fun (g : List Api_Value) =>
      if (decide (a ≥ (s2_3073.length : Int))) = true then
        ((some 1).bind fun i => some (.inr i)).bind fun j => some (.inr (.inr j))
      else
        if InR a s2_3073.length then
          lt1 ((nth s2_3073 a.toNat).Kind) fun (k : Int) =>
          lt1 ((nth s2_3073 a.toNat).N) fun (l : Int) =>
          lt1 ((nth s2_3073 a.toNat).B) fun (m : List UInt8) =>
          lt1 ((nth s2_3073 a.toNat).L) fun (n : List Api_Value) =>
          (c ((Api_Value.mk d e f g)) ((Api_Value.mk k l m n))).bind fun b =>
          if (b != 0) = true then
            ((some b).bind fun o => some (.inr o)).bind fun p => some (.inr (.inr p))
          else
            some (.inl ((w64 (a + 1))))
        else none
    else none
  else
    some (.inr (.inl (())))
def Cj (b : Api_Value → Api_Value → Option (Int)) (s1_3072 : List Api_Value) (s2_3073 : List Api_Value) (a : Api_Value → Api_Value → Option (Int)) : Option (Int) :=
  ((Cx (fun (v : Int) => Bq s1_3072 s2_3073 a v) 0).bind fun x => match x with
  | .inl () =>
    some (.inl (()))
  | .inr z => some z : Option ((Unit) ⊕ (Int))).bind fun x => match x with
  | .inl () =>
    if (decide ((s1_3072.length : Int) < (s2_3073.length : Int))) = true then
      some ((-1))
    else
      some 0
  | .inr z => some z
def Eh (rec_ : Api_Value → Api_Value → Option (Int)) (a : Api_Value) (b : Api_Value) : Option (Int) :=
  (D4 a.Kind b.Kind).bind fun c =>
  if (c != 0) = true then
    some c
  else
    if (a.Kind == 1) = true then
      (D4 a.N b.N).bind fun d =>
      some d
    else
      if (a.Kind == 2) = true then
        (Fq a.B b.B).bind fun e =>
        some e
      else
        if (a.Kind == 3) = true then
          (Cj rec_ a.L b.L rec_).bind fun f =>
          some f
        else
          some 0
def Ee (n : Nat) : Api_Value → Api_Value → Option (Int) := match n with
  | 0 => fun _ _ => none
  | n + 1 => Eh (Ee n)
def Fg (a : Api_Value) (b : Api_Value) : Option (Int) := Ee 18446744073709551616 a b
def Lw (b : Api_Value) (c : Api_Value) (rec_ : Api_Value → Api_Value → Option (Bool)) (a : Int) : Option ((Int) ⊕ ((Unit) ⊕ ((Unit) ⊕ (Bool)))) :=
  if (decide (a < (b.L.length : Int))) = true then
    if InR a b.L.length then
      if InR a c.L.length then
        (rec_ (nth b.L a.toNat) (nth c.L a.toNat)).bind fun d =>
        if (!d) = true then
          ((some false).bind fun e => some (.inr e)).bind fun f => some (.inr (.inr f))
        else
          some (.inl ((w64 (a + 1))))
      else none
    else none
  else
    some (.inr (.inl (())))
def Nm (rec_ : Api_Value → Api_Value → Option (Bool)) (a : Api_Value) (b : Api_Value) : Option (Bool) :=
  (if (a.Kind != b.Kind) = true then
    some true
  else
    (Fg a b).bind fun c =>
    if (c != 0) = true then
      some true
    else
      if (a.N != b.N) = true then
        some true
      else
        if ((a.B.length : Int) != (b.B.length : Int)) = true then
          some true
        else
          some (((a.L.length : Int) != (b.L.length : Int))) : Option (Bool)).bind fun d =>
  if d = true then
    some false
  else
    ((Cx (fun (v : Int) => Lw a b rec_ v) 0).bind fun x => match x with
    | .inl () =>
      some (.inl (()))
    | .inr z => some z : Option ((Unit) ⊕ (Bool))).bind fun x => match x with
    | .inl () =>
      some true
    | .inr z => some z
def Nk (n : Nat) : Api_Value → Api_Value → Option (Bool) := match n with
  | 0 => fun _ _ => none
  | n + 1 => Nm (Nk n)
def Abf (a : Api_Value) (b : Api_Value) : Option (Bool) := Nk 18446744073709551616 a b
def G8 (c : Api_Value) (a : Int) (d : List Api_Part) : Option ((Int × List Api_Part) ⊕ ((List Api_Part) ⊕ ((List Api_Part) ⊕ (Api_Item × Int)))) :=
  if (decide (a < (((nth c.L 14).L).length : Int))) = true then
    if InR a (((nth c.L 14).L).length) then
      lt1 ((nth ((nth c.L 14).L) a.toNat).Kind) fun (i : Int) =>
      lt1 ((nth ((nth c.L 14).L) a.toNat).N) fun (j : Int) =>
      lt1 ((nth ((nth c.L 14).L) a.toNat).B) fun (k : List UInt8) =>
      lt1 ((nth ((nth c.L 14).L) a.toNat).L) fun (b : List Api_Value) =>
      if ((b.length : Int) != 3) = true then
        ((some ((({ Kind := 0, Ref := ({ Railway := 0, No := 0 } : Api_Ref), Wagon := 0, Place := 0, Other := 0, Number := 0, From := 0, To := 0, Code := 0, Dest := 0, Class := 0, Weight := 0, Amount := 0, Text := ([] : List UInt8), Parts := [] } : Api_Item), 10))).bind fun e => some (.inr e)).bind fun f => some (.inr (.inr f))
      else
        if InR 0 b.length then
          if InR 1 b.length then
            if InR 2 b.length then
              if F9 (d.length + 1) 24 then
                lt1 ((d ++ (([({ Kind := (nth b 0).N, Serial := (nth b 1).N, Fitted := ((nth b 2).N == 1) } : Api_Part)] : List Api_Part)))) fun (g : List Api_Part) =>
                some (.inl (((w64 (a + 1)), g)))
              else none
            else none
          else none
        else none
    else none
  else
    some (.inr (.inl d))
def Hl (a : Api_Value) : Option (Api_Item × Int) :=
  (if ((a.L.length : Int) != 15) = true then
    some true
  else
    if InR 1 a.L.length then
      some (((((nth a.L 1).L).length : Int) != 2))
    else none : Option (Bool)).bind fun e =>
  if e = true then
    some ((({ Kind := 0, Ref := ({ Railway := 0, No := 0 } : Api_Ref), Wagon := 0, Place := 0, Other := 0, Number := 0, From := 0, To := 0, Code := 0, Dest := 0, Class := 0, Weight := 0, Amount := 0, Text := ([] : List UInt8), Parts := [] } : Api_Item), 10))
  else
    if InR 0 a.L.length then
      if InR 1 a.L.length then
        if InR 0 (((nth a.L 1).L).length) then
          if InR 1 a.L.length then
            if InR 1 (((nth a.L 1).L).length) then
              lt1 ((nth ((nth a.L 1).L) 0).N) fun (b : Int) =>
              lt1 ((nth ((nth a.L 1).L) 1).N) fun (c : Int) =>
              (if InR 2 a.L.length then
                if InR 3 a.L.length then
                  if InR 4 a.L.length then
                    if InR 5 a.L.length then
                      if InR 6 a.L.length then
                        if InR 7 a.L.length then
                          if InR 8 a.L.length then
                            if InR 9 a.L.length then
                              if InR 10 a.L.length then
                                if InR 11 a.L.length then
                                  if InR 12 a.L.length then
                                    some (())
                                  else none
                                else none
                              else none
                            else none
                          else none
                        else none
                      else none
                    else none
                  else none
                else none
              else none : Option (Unit)).bind fun () =>
              if InR 13 a.L.length then
                (if InR 14 a.L.length then
                  (Cx (fun (v : Int × List Api_Part) => G8 a v.1 v.2) ((0, []))).bind fun x => match x with
                  | .inl f =>
                    some (.inl f)
                  | .inr z => some z
                else none : Option ((List Api_Part) ⊕ (Api_Item × Int))).bind fun x => match x with
                | .inl d =>
                  (Gy (({ Kind := (nth a.L 0).N, Ref := ({ Railway := b, No := c } : Api_Ref), Wagon := (nth a.L 2).N, Place := (nth a.L 3).N, Other := (nth a.L 4).N, Number := (nth a.L 5).N, From := (nth a.L 6).N, To := (nth a.L 7).N, Code := (nth a.L 8).N, Dest := (nth a.L 9).N, Class := (nth a.L 10).N, Weight := (nth a.L 11).N, Amount := (nth a.L 12).N, Text := (nth a.L 13).B, Parts := d } : Api_Item))).bind fun g =>
                  (Abf g a).bind fun i =>
                  if (!i) = true then
                    some ((({ Kind := 0, Ref := ({ Railway := 0, No := 0 } : Api_Ref), Wagon := 0, Place := 0, Other := 0, Number := 0, From := 0, To := 0, Code := 0, Dest := 0, Class := 0, Weight := 0, Amount := 0, Text := ([] : List UInt8), Parts := [] } : Api_Item), 10))
                  else
                    some ((({ Kind := (nth a.L 0).N, Ref := ({ Railway := b, No := c } : Api_Ref), Wagon := (nth a.L 2).N, Place := (nth a.L 3).N, Other := (nth a.L 4).N, Number := (nth a.L 5).N, From := (nth a.L 6).N, To := (nth a.L 7).N, Code := (nth a.L 8).N, Dest := (nth a.L 9).N, Class := (nth a.L 10).N, Weight := (nth a.L 11).N, Amount := (nth a.L 12).N, Text := (nth a.L 13).B, Parts := d } : Api_Item), 0))
                | .inr z => some z
              else none
            else none
          else none
        else none
      else none
    else none
def Qp (b : List UInt8) (c : UInt8) (a : Int) : Option ((Int) ⊕ ((Unit) ⊕ ((Unit) ⊕ (Bool)))) :=
  if (decide (a < (b.length : Int))) = true then
    if InR a b.length then
      if ((nth b a.toNat) == c) = true then
        ((some true).bind fun d => some (.inr d)).bind fun e => some (.inr (.inr e))
      else
        some (.inl ((w64 (a + 1))))
    else none
  else
    some (.inr (.inl (())))
def Rh (a : List UInt8) (b : UInt8) : Option (Bool) :=
  ((Cx (fun (v : Int) => Qp a b v) 0).bind fun x => match x with
  | .inl () =>
    some (.inl (()))
  | .inr z => some z : Option ((Unit) ⊕ (Bool))).bind fun x => match x with
  | .inl () =>
    some false
  | .inr z => some z
def Mm (a : Api_Item) (c : UInt8) (b : Int) : Option (Api_Item) :=
  (if (c == (119 : UInt8)) = true then
    some ((b, a.Place, a.Other, a.Number, a.From, a.To, a.Code, a.Dest, a.Class, a.Weight, a.Amount))
  else
    if (c == (112 : UInt8)) = true then
      some ((a.Wagon, b, a.Other, a.Number, a.From, a.To, a.Code, a.Dest, a.Class, a.Weight, a.Amount))
    else
      if (c == (111 : UInt8)) = true then
        some ((a.Wagon, a.Place, b, a.Number, a.From, a.To, a.Code, a.Dest, a.Class, a.Weight, a.Amount))
      else
        if (c == (110 : UInt8)) = true then
          some ((a.Wagon, a.Place, a.Other, b, a.From, a.To, a.Code, a.Dest, a.Class, a.Weight, a.Amount))
        else
          if (c == (102 : UInt8)) = true then
            some ((a.Wagon, a.Place, a.Other, a.Number, b, a.To, a.Code, a.Dest, a.Class, a.Weight, a.Amount))
          else
            if (c == (116 : UInt8)) = true then
              some ((a.Wagon, a.Place, a.Other, a.Number, a.From, b, a.Code, a.Dest, a.Class, a.Weight, a.Amount))
            else
              if (c == (99 : UInt8)) = true then
                some ((a.Wagon, a.Place, a.Other, a.Number, a.From, a.To, b, a.Dest, a.Class, a.Weight, a.Amount))
              else
                if (c == (100 : UInt8)) = true then
                  some ((a.Wagon, a.Place, a.Other, a.Number, a.From, a.To, a.Code, b, a.Class, a.Weight, a.Amount))
                else
                  if (c == (107 : UInt8)) = true then
                    some ((a.Wagon, a.Place, a.Other, a.Number, a.From, a.To, a.Code, a.Dest, b, a.Weight, a.Amount))
                  else
                    if (c == (103 : UInt8)) = true then
                      some ((a.Wagon, a.Place, a.Other, a.Number, a.From, a.To, a.Code, a.Dest, a.Class, b, a.Amount))
                    else
                      some ((a.Wagon, a.Place, a.Other, a.Number, a.From, a.To, a.Code, a.Dest, a.Class, a.Weight, b)) : Option (Int × Int × Int × Int × Int × Int × Int × Int × Int × Int × Int)).bind fun (d, e, f, g, i, j, k, l, m, n, o) =>
  some (({ Kind := a.Kind, Ref := a.Ref, Wagon := d, Place := e, Other := f, Number := g, From := i, To := j, Code := k, Dest := l, Class := m, Weight := n, Amount := o, Text := a.Text, Parts := a.Parts } : Api_Item))
def M9 (a : Int) : Option (List UInt8) :=
  lt1 (([([82, 69, 65, 68] : List UInt8), ([83, 84, 65, 89] : List UInt8), ([68, 69, 76, 73, 86, 69, 82] : List UInt8), ([82, 69, 67, 69, 73, 86, 69] : List UInt8), ([87, 65, 89, 66, 73, 76, 76] : List UInt8), ([80, 76, 65, 67, 69, 68] : List UInt8), ([82, 69, 76, 69, 65, 83, 69, 68] : List UInt8), ([68, 65, 77, 65, 71, 69, 68] : List UInt8), ([82, 69, 80, 65, 73, 82, 69, 68] : List UInt8), ([82, 69, 67, 65, 76, 76] : List UInt8), ([84, 65, 82, 73, 70, 70] : List UInt8), ([65, 77, 69, 78, 68] : List UInt8), ([67, 65, 78, 67, 69, 76] : List UInt8), ([82, 69, 84, 82, 65, 67, 84] : List UInt8), ([79, 82, 68, 69, 82] : List UInt8)] : List (List UInt8))) fun (b : List (List UInt8)) =>
  if InR ((w64 (a - 1))) b.length then
    some (nth b (((w64 (a - 1))).toNat))
  else none
def Fy (a : Api_Item) (b : UInt8) : Option (Int) :=
  if (b == (119 : UInt8)) = true then
    some a.Wagon
  else
    if (b == (112 : UInt8)) = true then
      some a.Place
    else
      if (b == (111 : UInt8)) = true then
        some a.Other
      else
        if (b == (110 : UInt8)) = true then
          some a.Number
        else
          if (b == (102 : UInt8)) = true then
            some a.From
          else
            if (b == (116 : UInt8)) = true then
              some a.To
            else
              if (b == (99 : UInt8)) = true then
                some a.Code
              else
                if (b == (100 : UInt8)) = true then
                  some a.Dest
                else
                  if (b == (107 : UInt8)) = true then
                    some a.Class
                  else
                    if (b == (103 : UInt8)) = true then
                      some a.Weight
                    else
                      some a.Amount
def Dz (rec_ : Int → Option (List UInt8)) (a : Int) : Option (List UInt8) :=
  (if (decide (a < 0)) = true then
    some ((decide (a > (-10))))
  else
    some false : Option (Bool)).bind fun g =>
  if g = true then
    (rec_ ((w64 (0 - a)))).bind fun b =>
    if Mi (1 + b.length) then
      some (((([45] : List UInt8)) ++ b))
    else none
  else
    if (decide (a < 0)) = true then
      (rec_ ((w64 ((a : Int).tdiv 10)))).bind fun c =>
      (rec_ ((w64 (0 - ((a : Int).tmod 10))))).bind fun d =>
      if Mi (c.length + d.length) then
        some ((c ++ d))
      else none
    else
      if (decide (a < 10)) = true then
        some (([(UInt8.ofInt ((w64 (48 + a))))] : List UInt8))
      else
        (rec_ ((w64 ((a : Int).tdiv 10)))).bind fun e =>
        (rec_ (((a : Int).tmod 10))).bind fun f =>
        if Mi (e.length + f.length) then
          some ((e ++ f))
        else none
def Dw (n : Nat) : Int → Option (List UInt8) := match n with
  | 0 => fun _ => none
  | n + 1 => Dz (Dw n)
def Dj (a : Int) : Option (List UInt8) := Dw 18446744073709551616 a
def Jb (a : UInt8) : Option (Bool) :=
  (if (decide (a ≥ (32 : UInt8))) = true then
    if (decide (a ≤ (126 : UInt8))) = true then
      if (a != (43 : UInt8)) = true then
        if (a != (39 : UInt8)) = true then
          some ((a != (63 : UInt8)))
        else
          some false
      else
        some false
    else
      some false
  else
    some false : Option (Bool)).bind fun b =>
  some b
def D6 (b : List UInt8) (a : Int) (c : List UInt8) : Option ((Int × List UInt8) ⊕ (List UInt8)) :=
  if (decide (a < (b.length : Int))) = true then
    (if InR a b.length then
      (Jb ((nth b a.toNat))).bind fun d =>
      if d = true then
        if InR a b.length then
          if F9 (c.length + 1) 1 then
            lt1 ((c ++ (([(nth b a.toNat)] : List UInt8)))) fun (e : List UInt8) =>
            some e
          else none
        else none
      else
        if InR a b.length then
          if InR ((((nth b a.toNat) / (16 : UInt8)).toNat : Int)) ((([48, 49, 50, 51, 52, 53, 54, 55, 56, 57, 97, 98, 99, 100, 101, 102] : List UInt8)).length) then
            if InR a b.length then
              if InR ((((nth b a.toNat) % (16 : UInt8)).toNat : Int)) ((([48, 49, 50, 51, 52, 53, 54, 55, 56, 57, 97, 98, 99, 100, 101, 102] : List UInt8)).length) then
                if F9 (c.length + 3) 1 then
                  lt1 ((c ++ (([(63 : UInt8), (nth (([48, 49, 50, 51, 52, 53, 54, 55, 56, 57, 97, 98, 99, 100, 101, 102] : List UInt8)) ((((nth b a.toNat) / (16 : UInt8))).toNat)), (nth (([48, 49, 50, 51, 52, 53, 54, 55, 56, 57, 97, 98, 99, 100, 101, 102] : List UInt8)) ((((nth b a.toNat) % (16 : UInt8))).toNat))] : List UInt8)))) fun (f : List UInt8) =>
                  some f
                else none
              else none
            else none
          else none
        else none
    else none : Option (List UInt8)).bind fun g =>
    some (.inl (((w64 (a + 1)), g)))
  else
    some (.inr c)
def Gg (a : List UInt8) : Option (List UInt8) :=
  lt1 (([] : List UInt8)) fun (b : List UInt8) =>
  ((Cx (fun (v : Int × List UInt8) => D6 a v.1 v.2) ((0, b))).bind fun c =>
  some c : Option (List UInt8)).bind fun d =>
  some d
def E9 (b : List UInt8) (e : UInt8) (c : Int) (a : Int) (d : List (List UInt8)) : Option ((Int × Int × List (List UInt8)) ⊕ (Int × List (List UInt8))) :=
  if (decide (a < (b.length : Int))) = true then
    (if InR a b.length then
      if ((nth b a.toNat) == e) = true then
        if InB a b.length then
          if InB c a.toNat then
            if F9 (d.length + 1) 16 then
              lt1 ((d ++ (([((b.drop c.toNat).take (a.toNat - c.toNat))] : List (List UInt8))))) fun (f : List (List UInt8)) =>
              some (((w64 (a + 1)), f))
            else none
          else none
        else none
      else
        some ((c, d))
    else none : Option (Int × List (List UInt8))).bind fun (g, i) =>
    some (.inl ((g, (w64 (a + 1)), i)))
  else
    some (.inr ((c, d)))
def I5 (a : List UInt8) (d : UInt8) : Option (List (List UInt8)) :=
  lt1 (([] : List (List UInt8))) fun (e : List (List UInt8)) =>
  ((Cx (fun (v : Int × Int × List (List UInt8)) => E9 a d v.1 v.2.1 v.2.2) ((0, 0, e))).bind fun (f, g) =>
  some ((f, g)) : Option (Int × List (List UInt8))).bind fun (b, c) =>
  if InB b a.length then
    if F9 (c.length + 1) 16 then
      lt1 ((c ++ (([((a.drop b.toNat).take (a.length - b.toNat))] : List (List UInt8))))) fun (i : List (List UInt8)) =>
      some i
    else none
  else none
def Cg (b : List UInt8) (d : Bool) (c : Int) (a : Int) : Option ((Int × Int) ⊕ (Int)) :=
  if (decide (a < (b.length : Int))) = true then
    ((if d = true then
      some ((decide (a > 0)))
    else
      some false : Option (Bool)).bind fun e =>
    if e = true then
      if InR a b.length then
        lt1 ((w64 ((w64 ((w64 (10 * c)) - (((nth b a.toNat)).toNat : Int))) + 48))) fun (f : Int) =>
        some f
      else none
    else
      if (!d) = true then
        if InR a b.length then
          lt1 ((w64 ((w64 ((w64 (10 * c)) + (((nth b a.toNat)).toNat : Int))) - 48))) fun (g : Int) =>
          some g
        else none
      else
        some c : Option (Int)).bind fun i =>
    some (.inl ((i, (w64 (a + 1)))))
  else
    some (.inr c)
def Av (a : List UInt8) : Option (Int) :=
  (if (decide ((a.length : Int) > 0)) = true then
    if InR 0 a.length then
      some (((nth a 0) == (45 : UInt8)))
    else none
  else
    some false : Option (Bool)).bind fun b =>
  ((Cx (fun (v : Int × Int) => Cg a b v.1 v.2) ((0, 0))).bind fun c =>
  some c : Option (Int)).bind fun d =>
  some d
def Gr (a : UInt8) : Option (UInt8) :=
  (if (decide (a ≥ (48 : UInt8))) = true then
    some ((decide (a ≤ (57 : UInt8))))
  else
    some false : Option (Bool)).bind fun b =>
  if b = true then
    some ((a - (48 : UInt8)))
  else
    (if (decide (a ≥ (97 : UInt8))) = true then
      some ((decide (a ≤ (102 : UInt8))))
    else
      some false : Option (Bool)).bind fun c =>
    if c = true then
      some (((a - (97 : UInt8)) + (10 : UInt8)))
    else
      some ((0 : UInt8))
def Dx (b : List UInt8) (a : Int) (c : List UInt8) : Option ((Int × List UInt8) ⊕ (List UInt8)) :=
  if (decide (a < (b.length : Int))) = true then
    ((if InR a b.length then
      if ((nth b a.toNat) == (63 : UInt8)) = true then
        some ((decide ((w64 (a + 2)) < (b.length : Int))))
      else
        some false
    else none : Option (Bool)).bind fun d =>
    if d = true then
      if InR ((w64 (a + 1))) b.length then
        (Gr ((nth b (((w64 (a + 1))).toNat)))).bind fun e =>
        if InR ((w64 (a + 2))) b.length then
          (Gr ((nth b (((w64 (a + 2))).toNat)))).bind fun f =>
          if F9 (c.length + 1) 1 then
            lt1 ((c ++ (([(((16 : UInt8) * e) + f)] : List UInt8)))) fun (g : List UInt8) =>
            some (((w64 (a + 2)), g))
          else none
        else none
      else none
    else
      if InR a b.length then
        if F9 (c.length + 1) 1 then
          lt1 ((c ++ (([(nth b a.toNat)] : List UInt8)))) fun (i : List UInt8) =>
          some ((a, i))
        else none
      else none : Option (Int × List UInt8)).bind fun (j, k) =>
    some (.inl (((w64 (j + 1)), k)))
  else
    some (.inr c)
def H4 (a : List UInt8) : Option (List UInt8) :=
  lt1 (([] : List UInt8)) fun (b : List UInt8) =>
  ((Cx (fun (v : Int × List UInt8) => Dx a v.1 v.2) ((0, b))).bind fun c =>
  some c : Option (List UInt8)).bind fun d =>
  some d
def F5 (b : Api_Part) : Option (List UInt8) :=
  (Dj b.Kind).bind fun c =>
  if Mi (c.length + 1) then
    (Dj b.Serial).bind fun d =>
    if Mi (((c ++ (([46] : List UInt8)))).length + d.length) then
      lt1 ((((c ++ (([46] : List UInt8)))) ++ d)) fun (a : List UInt8) =>
      if b.Fitted = true then
        if Mi (a.length + 2) then
          some ((a ++ (([46, 49] : List UInt8))))
        else none
      else
        if Mi (a.length + 2) then
          some ((a ++ (([46, 48] : List UInt8))))
        else none
    else none
  else none
def Bk (a : Api_Item) (b : List UInt8) : Option (Api_Item) :=
  if (b == (([] : List UInt8))) = true then
    some (({ Kind := a.Kind, Ref := a.Ref, Wagon := a.Wagon, Place := a.Place, Other := a.Other, Number := a.Number, From := a.From, To := a.To, Code := a.Code, Dest := a.Dest, Class := a.Class, Weight := a.Weight, Amount := a.Amount, Text := a.Text, Parts := a.Parts } : Api_Item))
  else
    if InB 1 b.length then
      (I5 (((b.drop 1).take (b.length - 1))) ((46 : UInt8))).bind fun d =>
      if InR 0 b.length then
        if ((nth b 0) == (114 : UInt8)) = true then
          (if ((d.length : Int) == 2) = true then
            if InR 0 d.length then
              (Av (nth d 0)).bind fun e =>
              if InR 1 d.length then
                (Av (nth d 1)).bind fun f =>
                some ((e, f))
              else none
            else none
          else
            some ((a.Ref.Railway, a.Ref.No)) : Option (Int × Int)).bind fun (g, i) =>
          some (({ Kind := a.Kind, Ref := ({ Railway := g, No := i } : Api_Ref), Wagon := a.Wagon, Place := a.Place, Other := a.Other, Number := a.Number, From := a.From, To := a.To, Code := a.Code, Dest := a.Dest, Class := a.Class, Weight := a.Weight, Amount := a.Amount, Text := a.Text, Parts := a.Parts } : Api_Item))
        else
          if ((nth b 0) == (120 : UInt8)) = true then
            if InB 1 b.length then
              (H4 (((b.drop 1).take (b.length - 1)))).bind fun j =>
              some (({ Kind := a.Kind, Ref := a.Ref, Wagon := a.Wagon, Place := a.Place, Other := a.Other, Number := a.Number, From := a.From, To := a.To, Code := a.Code, Dest := a.Dest, Class := a.Class, Weight := a.Weight, Amount := a.Amount, Text := j, Parts := a.Parts } : Api_Item))
            else none
          else
            if ((nth b 0) == (113 : UInt8)) = true then
              (if ((d.length : Int) == 3) = true then
                if InR 0 d.length then
                  (Av (nth d 0)).bind fun k =>
                  if InR 1 d.length then
                    (Av (nth d 1)).bind fun l =>
                    if InR 2 d.length then
                      if F9 (a.Parts.length + 1) 24 then
                        lt1 ((a.Parts ++ (([({ Kind := k, Serial := l, Fitted := ((nth d 2) == (([49] : List UInt8))) } : Api_Part)] : List Api_Part)))) fun (m : List Api_Part) =>
                        some m
                      else none
                    else none
                  else none
                else none
              else
                some a.Parts : Option (List Api_Part)).bind fun n =>
              some (({ Kind := a.Kind, Ref := a.Ref, Wagon := a.Wagon, Place := a.Place, Other := a.Other, Number := a.Number, From := a.From, To := a.To, Code := a.Code, Dest := a.Dest, Class := a.Class, Weight := a.Weight, Amount := a.Amount, Text := a.Text, Parts := n } : Api_Item))
            else
              if InR 0 b.length then
                (Rh (([119, 112, 111, 110, 102, 116, 99, 100, 107, 103, 97] : List UInt8)) ((nth b 0))).bind fun o =>
                if o = true then
                  if InR 0 b.length then
                    if InB 1 b.length then
                      (Av (((b.drop 1).take (b.length - 1)))).bind fun p =>
                      (Mm (({ Kind := a.Kind, Ref := a.Ref, Wagon := a.Wagon, Place := a.Place, Other := a.Other, Number := a.Number, From := a.From, To := a.To, Code := a.Code, Dest := a.Dest, Class := a.Class, Weight := a.Weight, Amount := a.Amount, Text := a.Text, Parts := a.Parts } : Api_Item)) ((nth b 0)) p).bind fun c =>
                      lt1 c.Parts fun (q : List Api_Part) =>
                      some (({ Kind := c.Kind, Ref := c.Ref, Wagon := c.Wagon, Place := c.Place, Other := c.Other, Number := c.Number, From := c.From, To := c.To, Code := c.Code, Dest := c.Dest, Class := c.Class, Weight := c.Weight, Amount := c.Amount, Text := c.Text, Parts := q } : Api_Item))
                    else none
                  else none
                else
                  some (({ Kind := a.Kind, Ref := a.Ref, Wagon := a.Wagon, Place := a.Place, Other := a.Other, Number := a.Number, From := a.From, To := a.To, Code := a.Code, Dest := a.Dest, Class := a.Class, Weight := a.Weight, Amount := a.Amount, Text := a.Text, Parts := a.Parts } : Api_Item))
              else none
      else none
    else none
def Dg (e : Api_Item) (b : List UInt8) (a : Int) : Option ((List UInt8 × Int) ⊕ (List UInt8)) :=
  if (decide (a < 11)) = true then
    (if InR a ((([119, 112, 111, 110, 102, 116, 99, 100, 107, 103, 97] : List UInt8)).length) then
      (Fy e ((nth (([119, 112, 111, 110, 102, 116, 99, 100, 107, 103, 97] : List UInt8)) a.toNat))).bind fun c =>
      if (c != 0) = true then
        if Mi (b.length + 1) then
          if InB ((w64 (a + 1))) ((([119, 112, 111, 110, 102, 116, 99, 100, 107, 103, 97] : List UInt8)).length) then
            if InB a (((w64 (a + 1))).toNat) then
              if Mi (((b ++ (([43] : List UInt8)))).length + ((((([119, 112, 111, 110, 102, 116, 99, 100, 107, 103, 97] : List UInt8)).drop a.toNat).take (((w64 (a + 1))).toNat - a.toNat))).length) then
                (Dj c).bind fun d =>
                if Mi (((((b ++ (([43] : List UInt8)))) ++ ((((([119, 112, 111, 110, 102, 116, 99, 100, 107, 103, 97] : List UInt8)).drop a.toNat).take (((w64 (a + 1))).toNat - a.toNat))))).length + d.length) then
                  lt1 ((((((b ++ (([43] : List UInt8)))) ++ ((((([119, 112, 111, 110, 102, 116, 99, 100, 107, 103, 97] : List UInt8)).drop a.toNat).take (((w64 (a + 1))).toNat - a.toNat))))) ++ d)) fun (f : List UInt8) =>
                  some f
                else none
              else none
            else none
          else none
        else none
      else
        some b
    else none : Option (List UInt8)).bind fun g =>
    some (.inl ((g, (w64 (a + 1)))))
  else
    some (.inr b)
def Dh (c : Api_Item) (a : List UInt8) (b : Int) : Option ((List UInt8 × Int) ⊕ (List UInt8)) :=
  if (decide (b < (c.Parts.length : Int))) = true then
    if Mi (a.length + 2) then
      if InR b c.Parts.length then
        (F5 (nth c.Parts b.toNat)).bind fun d =>
        if Mi (((a ++ (([43, 113] : List UInt8)))).length + d.length) then
          lt1 ((((a ++ (([43, 113] : List UInt8)))) ++ d)) fun (e : List UInt8) =>
          some (.inl ((e, (w64 (b + 1)))))
        else none
      else none
    else none
  else
    some (.inr a)
def Dv (a : Api_Item) : Option (List UInt8) :=
  (M9 a.Kind).bind fun b =>
  (if (!((a.Ref.Railway == 0) && (a.Ref.No == 0))) = true then
    if Mi (b.length + 2) then
      (Dj a.Ref.Railway).bind fun c =>
      if Mi (((b ++ (([43, 114] : List UInt8)))).length + c.length) then
        if Mi (((((b ++ (([43, 114] : List UInt8)))) ++ c)).length + 1) then
          (Dj a.Ref.No).bind fun e =>
          if Mi (((((((b ++ (([43, 114] : List UInt8)))) ++ c)) ++ (([46] : List UInt8)))).length + e.length) then
            lt1 ((((((((b ++ (([43, 114] : List UInt8)))) ++ c)) ++ (([46] : List UInt8)))) ++ e)) fun (i : List UInt8) =>
            some i
          else none
        else none
      else none
    else none
  else
    some b : Option (List UInt8)).bind fun j =>
  ((Cx (fun (v : List UInt8 × Int) => Dg a v.1 v.2) ((j, 0))).bind fun k =>
  some k : Option (List UInt8)).bind fun d =>
  (if (!(a.Text == (([] : List UInt8)))) = true then
    if Mi (d.length + 2) then
      (Gg a.Text).bind fun f =>
      if Mi (((d ++ (([43, 120] : List UInt8)))).length + f.length) then
        lt1 ((((d ++ (([43, 120] : List UInt8)))) ++ f)) fun (l : List UInt8) =>
        some l
      else none
    else none
  else
    some d : Option (List UInt8)).bind fun m =>
  ((Cx (fun (v : List UInt8 × Int) => Dh a v.1 v.2) ((m, 0))).bind fun n =>
  some n : Option (List UInt8)).bind fun g =>
  if Mi (g.length + 1) then
    some ((g ++ (([39] : List UInt8))))
  else none
def D2 (b : List Api_Part) (c : List Api_Part) (a : Int) : Option ((Int) ⊕ ((Unit) ⊕ ((Unit) ⊕ (Bool)))) :=
  if (decide (a < (b.length : Int))) = true then
    if InR a b.length then
      if InR a c.length then
        lt1 ((!(((nth b a.toNat).Kind == (nth c a.toNat).Kind) && (((nth b a.toNat).Serial == (nth c a.toNat).Serial) && ((nth b a.toNat).Fitted == (nth c a.toNat).Fitted))))) fun (d : Bool) =>
        if d = true then
          ((some false).bind fun e => some (.inr e)).bind fun f => some (.inr (.inr f))
        else
          some (.inl ((w64 (a + 1))))
      else none
    else none
  else
    some (.inr (.inl (())))
def Fs (a : List Api_Part) (b : List Api_Part) : Option (Bool) :=
  if ((a.length : Int) != (b.length : Int)) = true then
    some false
  else
    ((Cx (fun (v : Int) => D2 a b v) 0).bind fun x => match x with
    | .inl () =>
      some (.inl (()))
    | .inr z => some z : Option ((Unit) ⊕ (Bool))).bind fun x => match x with
    | .inl () =>
      some true
    | .inr z => some z
def Hs (b : Api_Item) (c : Api_Item) (a : Int) : Option ((Int) ⊕ ((Unit) ⊕ ((Unit) ⊕ (Bool)))) :=
  if (decide (a < 11)) = true then
    if InR a ((([119, 112, 111, 110, 102, 116, 99, 100, 107, 103, 97] : List UInt8)).length) then
      (Fy b ((nth (([119, 112, 111, 110, 102, 116, 99, 100, 107, 103, 97] : List UInt8)) a.toNat))).bind fun d =>
      if InR a ((([119, 112, 111, 110, 102, 116, 99, 100, 107, 103, 97] : List UInt8)).length) then
        (Fy c ((nth (([119, 112, 111, 110, 102, 116, 99, 100, 107, 103, 97] : List UInt8)) a.toNat))).bind fun e =>
        if (d != e) = true then
          ((some false).bind fun f => some (.inr f)).bind fun g => some (.inr (.inr g))
        else
          some (.inl ((w64 (a + 1))))
      else none
    else none
  else
    some (.inr (.inl (())))
def Ez (a : Api_Item) (b : Api_Item) : Option (Bool) :=
  ((Cx (fun (v : Int) => Hs a b v) 0).bind fun x => match x with
  | .inl () =>
    some (.inl (()))
  | .inr z => some z : Option ((Unit) ⊕ (Bool))).bind fun x => match x with
  | .inl () =>
    (if (a.Kind == b.Kind) = true then
      if ((a.Ref.Railway == b.Ref.Railway) && (a.Ref.No == b.Ref.No)) = true then
        if (a.Text == b.Text) = true then
          (Fs a.Parts b.Parts).bind fun c =>
          some c
        else
          some false
      else
        some false
    else
      some false : Option (Bool)).bind fun d =>
    some d
  | .inr z => some z
def Bp (b : List (List UInt8)) (a : Int) (c : Int) : Option ((Int × Int) ⊕ (Int)) :=
  if (decide (a ≤ 15)) = true then
    ((M9 a).bind fun d =>
    if InR 0 b.length then
      if (d == (nth b 0)) = true then
        some a
      else
        some c
    else none : Option (Int)).bind fun e =>
    some (.inl (((w64 (a + 1)), e)))
  else
    some (.inr c)
def E8 (c : List (List UInt8)) (b : Int) (d : Int) (e : Int) (f : Int) (g : Int) (i : Int) (j : Int) (k : Int) (l : Int) (m : Int) (n : Int) (o : Int) (p : Int) (q : Int) (s : Int) (t : List UInt8) (u : List Api_Part) : Option ((Int × Int × Int × Int × Int × Int × Int × Int × Int × Int × Int × Int × Int × Int × Int × List UInt8 × List Api_Part) ⊕ (Int × Int × Int × Int × Int × Int × Int × Int × Int × Int × Int × Int × Int × Int × List UInt8 × List Api_Part)) :=
  if (decide (b < (c.length : Int))) = true then
    if InR b c.length then
      (Bk (({ Kind := d, Ref := ({ Railway := e, No := f } : Api_Ref), Wagon := g, Place := i, Other := j, Number := k, From := l, To := m, Code := n, Dest := o, Class := p, Weight := q, Amount := s, Text := t, Parts := u } : Api_Item)) (nth c b.toNat)).bind fun a =>
      lt1 a.Parts fun (v : List Api_Part) =>
      some (.inl (((w64 (b + 1)), a.Kind, a.Ref.Railway, a.Ref.No, a.Wagon, a.Place, a.Other, a.Number, a.From, a.To, a.Code, a.Dest, a.Class, a.Weight, a.Amount, a.Text, v)))
    else none
  else
    some (.inr ((d, e, f, g, i, j, k, l, m, n, o, p, q, s, t, u)))
def G2 (a : List UInt8) : Option (Api_Item × Int) :=
  if (decide ((a.length : Int) > 65536)) = true then
    some ((({ Kind := 0, Ref := ({ Railway := 0, No := 0 } : Api_Ref), Wagon := 0, Place := 0, Other := 0, Number := 0, From := 0, To := 0, Code := 0, Dest := 0, Class := 0, Weight := 0, Amount := 0, Text := ([] : List UInt8), Parts := [] } : Api_Item), 2))
  else
    if (a == (([] : List UInt8))) = true then
      some ((({ Kind := 0, Ref := ({ Railway := 0, No := 0 } : Api_Ref), Wagon := 0, Place := 0, Other := 0, Number := 0, From := 0, To := 0, Code := 0, Dest := 0, Class := 0, Weight := 0, Amount := 0, Text := ([] : List UInt8), Parts := [] } : Api_Item), 4))
    else
      if InB ((w64 ((a.length : Int) - 1))) a.length then
        (I5 ((a.take (((w64 ((a.length : Int) - 1))).toNat))) ((43 : UInt8))).bind fun c =>
        ((Cx (fun (v : Int × Int) => Bp c v.1 v.2) ((1, 0))).bind fun u =>
        some u : Option (Int)).bind fun w =>
        ((Cx (fun (v : Int × Int × Int × Int × Int × Int × Int × Int × Int × Int × Int × Int × Int × Int × Int × List UInt8 × List Api_Part) => E8 c v.1 v.2.1 v.2.2.1 v.2.2.2.1 v.2.2.2.2.1 v.2.2.2.2.2.1 v.2.2.2.2.2.2.1 v.2.2.2.2.2.2.2.1 v.2.2.2.2.2.2.2.2.1 v.2.2.2.2.2.2.2.2.2.1 v.2.2.2.2.2.2.2.2.2.2.1 v.2.2.2.2.2.2.2.2.2.2.2.1 v.2.2.2.2.2.2.2.2.2.2.2.2.1 v.2.2.2.2.2.2.2.2.2.2.2.2.2.1 v.2.2.2.2.2.2.2.2.2.2.2.2.2.2.1 v.2.2.2.2.2.2.2.2.2.2.2.2.2.2.2.1 v.2.2.2.2.2.2.2.2.2.2.2.2.2.2.2.2) ((1, w, 0, 0, 0, 0, 0, 0, 0, 0, 0, 0, 0, 0, 0, ([] : List UInt8), []))).bind fun (x, y, z, aa, ab, ac, ad, ae, af, ag, ah, ai, aj, ak, al, am) =>
        some ((x, y, z, aa, ab, ac, ad, ae, af, ag, ah, ai, aj, ak, al, am)) : Option (Int × Int × Int × Int × Int × Int × Int × Int × Int × Int × Int × Int × Int × Int × List UInt8 × List Api_Part)).bind fun (b, d, e, f, g, i, j, k, l, m, n, o, p, q, s, t) =>
        (if (b == 0) = true then
          some true
        else
          (Dv (({ Kind := b, Ref := ({ Railway := d, No := e } : Api_Ref), Wagon := f, Place := g, Other := i, Number := j, From := k, To := l, Code := m, Dest := n, Class := o, Weight := p, Amount := q, Text := s, Parts := t } : Api_Item))).bind fun an =>
          some ((!(an == a))) : Option (Bool)).bind fun ao =>
        if ao = true then
          some ((({ Kind := 0, Ref := ({ Railway := 0, No := 0 } : Api_Ref), Wagon := 0, Place := 0, Other := 0, Number := 0, From := 0, To := 0, Code := 0, Dest := 0, Class := 0, Weight := 0, Amount := 0, Text := ([] : List UInt8), Parts := [] } : Api_Item), 4))
        else
          some ((({ Kind := b, Ref := ({ Railway := d, No := e } : Api_Ref), Wagon := f, Place := g, Other := i, Number := j, From := k, To := l, Code := m, Dest := n, Class := o, Weight := p, Amount := q, Text := s, Parts := t } : Api_Item), 0))
      else none
def Ji (a : Api_Place) : Option (Bool) :=
  (if (decide (a.Kind < 1)) = true then
    some true
  else
    if (decide (a.Kind > 5)) = true then
      some true
    else
      if (decide (a.Railway < 0)) = true then
        some true
      else
        some ((decide (a.Railway ≥ 16))) : Option (Bool)).bind fun b =>
  if b = true then
    some false
  else
    if (a.Kind != 3) = true then
      some ((a.Other == (-1)))
    else
      (if (decide (a.Other ≥ 0)) = true then
        if (decide (a.Other < 16)) = true then
          some ((a.Other != a.Railway))
        else
          some false
      else
        some false : Option (Bool)).bind fun c =>
      some c
def G7 (b : Api_Network) (a : Int) : Option ((Int) ⊕ ((Unit) ⊕ ((Unit) ⊕ (Int)))) :=
  if (decide (a < (b.Places.length : Int))) = true then
    if InR a b.Places.length then
      lt1 ((nth b.Places a.toNat).Kind) fun (c : Int) =>
      lt1 ((nth b.Places a.toNat).Railway) fun (d : Int) =>
      lt1 ((nth b.Places a.toNat).Other) fun (e : Int) =>
      (Ji (({ Kind := c, Railway := d, Other := e } : Api_Place))).bind fun f =>
      if (!f) = true then
        ((some 1).bind fun g => some (.inr g)).bind fun i => some (.inr (.inr i))
      else
        some (.inl ((w64 (a + 1))))
    else none
  else
    some (.inr (.inl (())))
def Hd (a : Api_Network) : Option ((Unit) ⊕ (Unit)) :=
  if (decide (0 < (a.Edges.length : Int))) = true then
    if InR 0 a.Edges.length then
      lt1 ((nth a.Edges 0).Railway) fun (b : Int) =>
      lt1 ((nth a.Edges 0).Minutes) fun (c : Int) =>
      none
    else none
  else
    some (.inr (()))
def Jl (a : Api_Network) : Option (Int) :=
  lt1 ((a.Places.length : Int)) fun (b : Int) =>
  (if (decide (b > 512)) = true then
    some true
  else
    some ((decide ((a.Edges.length : Int) > 2048))) : Option (Bool)).bind fun c =>
  if c = true then
    some 2
  else
    ((Cx (fun (v : Int) => G7 a v) 0).bind fun x => match x with
    | .inl () =>
      some (.inl (()))
    | .inr z => some z : Option ((Unit) ⊕ (Int))).bind fun x => match x with
    | .inl () =>
      ((Cx (fun (_ : Unit) => Hd a ) (())).bind fun () =>
      some (()) : Option (Unit)).bind fun () =>
      some 0
    | .inr z => some z
def Hh (a : Int) (b : Int) (c : Int) : Option (Bool) :=
  (if (decide (a ≥ b)) = true then
    some ((decide (a ≤ c)))
  else
    some false : Option (Bool)).bind fun d =>
  some d
def L8 (f : Api_Fleet) : Option Int := if f.Types.length = 0 ∧ f.Wagons.length = 0 ∧ f.Swaps.length = 0 ∧ f.Washes.length = 0 then some 0 else none
def Fk (a : Api_Pool) (c : Bool) (b : Int) : Option ((Bool × Int) ⊕ (Bool)) :=
  if (decide (b < (a.Readers.length : Int))) = true then
    if InR b a.Readers.length then
      lt1 ((nth a.Readers b.toNat).Place) fun (f : Int) =>
      lt1 ((nth a.Readers b.toNat).Low) fun (d : Int) =>
      lt1 ((nth a.Readers b.toNat).High) fun (e : Int) =>
      (if c = true then
        some true
      else
        (Hh f 0 ((w64 ((a.Network.Places.length : Int) - 1)))).bind fun g =>
        if (!g) = true then
          some true
        else
          if (decide (d < (-1000))) = true then
            some true
          else
            if (decide (d > e)) = true then
              some true
            else
              some ((decide (e > 1000))) : Option (Bool)).bind fun i =>
      some (.inl ((i, (w64 (b + 1)))))
    else none
  else
    some (.inr c)
def Fx (a : Api_Pool) (d : Bool) (b : Int) : Option ((Bool × Int) ⊕ (Bool)) :=
  if (decide (b < (a.Shippers.length : Int))) = true then
    if InR b a.Shippers.length then
      lt1 ((nth a.Shippers b.toNat).Place) fun (c : Int) =>
      (if d = true then
        some true
      else
        (Hh c 0 ((w64 ((a.Network.Places.length : Int) - 1)))).bind fun e =>
        if (!e) = true then
          some true
        else
          if InR c a.Network.Places.length then
            some (((nth a.Network.Places c.toNat).Kind != 4))
          else none : Option (Bool)).bind fun f =>
      some (.inl ((f, (w64 (b + 1)))))
    else none
  else
    some (.inr d)
def F6 (a : Api_Pool) (c : Bool) (b : Int) : Option ((Bool × Int) ⊕ (Bool)) :=
  if (decide (b < (a.Fleet.Wagons.length : Int))) = true then
    if InR b a.Fleet.Wagons.length then
      lt1 ((nth a.Fleet.Wagons b.toNat).Type_) fun (f : Int) =>
      lt1 ((nth a.Fleet.Wagons b.toNat).Owner) fun (g : Int) =>
      lt1 ((nth a.Fleet.Wagons b.toNat).Home) fun (d : Int) =>
      lt1 ((nth a.Fleet.Wagons b.toNat).Built) fun (i : Int) =>
      lt1 ((nth a.Fleet.Wagons b.toNat).Worth) fun (j : Int) =>
      (if c = true then
        some true
      else
        some ((decide (d ≥ (a.Network.Places.length : Int)))) : Option (Bool)).bind fun e =>
      some (.inl ((e, (w64 (b + 1)))))
    else none
  else
    some (.inr c)
def Fu (b : Api_Pool) (c : Int) (d : Bool) (a : Int) : Option ((Bool × Int) ⊕ (Bool)) :=
  if (decide (a < (b.Network.Places.length : Int))) = true then
    if InR a b.Network.Places.length then
      lt1 ((nth b.Network.Places a.toNat).Kind) fun (i : Int) =>
      lt1 ((nth b.Network.Places a.toNat).Railway) fun (e : Int) =>
      lt1 ((nth b.Network.Places a.toNat).Other) fun (f : Int) =>
      (if d = true then
        some true
      else
        if (decide (e ≥ c)) = true then
          some true
        else
          some ((decide (f ≥ c))) : Option (Bool)).bind fun g =>
      some (.inl ((g, (w64 (a + 1)))))
    else none
  else
    some (.inr d)
def Fj (b : Api_Pool) (d : Int) (c : Bool) (a : Int) : Option ((Bool × Int) ⊕ (Bool)) :=
  if (decide (a < (b.Network.Edges.length : Int))) = true then
    if InR a b.Network.Edges.length then
      lt1 ((nth b.Network.Edges a.toNat).A) fun (g : Int) =>
      lt1 ((nth b.Network.Edges a.toNat).B) fun (i : Int) =>
      lt1 ((nth b.Network.Edges a.toNat).Railway) fun (e : Int) =>
      lt1 ((nth b.Network.Edges a.toNat).Minutes) fun (j : Int) =>
      lt1 ((nth b.Network.Edges a.toNat).Km) fun (k : Int) =>
      (if c = true then
        some true
      else
        some ((decide (e ≥ d))) : Option (Bool)).bind fun f =>
      some (.inl ((f, (w64 (a + 1)))))
    else none
  else
    some (.inr c)
def Fd (a : Api_Pool) : Option ((Unit) ⊕ (Unit)) :=
  if (decide (0 < (a.Railways.length : Int))) = true then
    if InR 0 a.Railways.length then
      lt1 ((nth a.Railways 0).Key) fun (b : UInt64) =>
      lt1 (((((nth a.Railways 0).Calendar).Open).1).From) fun (c : Int) =>
      lt1 (((((nth a.Railways 0).Calendar).Open).1).To) fun (d : Int) =>
      lt1 (((((nth a.Railways 0).Calendar).Open).2.1).From) fun (e : Int) =>
      lt1 (((((nth a.Railways 0).Calendar).Open).2.1).To) fun (f : Int) =>
      lt1 (((((nth a.Railways 0).Calendar).Open).2.2.1).From) fun (g : Int) =>
      lt1 (((((nth a.Railways 0).Calendar).Open).2.2.1).To) fun (i : Int) =>
      lt1 (((((nth a.Railways 0).Calendar).Open).2.2.2.1).From) fun (j : Int) =>
      lt1 (((((nth a.Railways 0).Calendar).Open).2.2.2.1).To) fun (k : Int) =>
      lt1 (((((nth a.Railways 0).Calendar).Open).2.2.2.2.1).From) fun (l : Int) =>
      lt1 (((((nth a.Railways 0).Calendar).Open).2.2.2.2.1).To) fun (m : Int) =>
      lt1 (((((nth a.Railways 0).Calendar).Open).2.2.2.2.2.1).From) fun (n : Int) =>
      lt1 (((((nth a.Railways 0).Calendar).Open).2.2.2.2.2.1).To) fun (o : Int) =>
      lt1 (((((nth a.Railways 0).Calendar).Open).2.2.2.2.2.2).From) fun (p : Int) =>
      lt1 (((((nth a.Railways 0).Calendar).Open).2.2.2.2.2.2).To) fun (q : Int) =>
      lt1 (((nth a.Railways 0).Calendar).Holidays) fun (s : List Int) =>
      none
    else none
  else
    some (.inr (()))
def Hw (a : Api_Pool) : Option (Int) :=
  (Jl a.Network).bind fun c =>
  if (c != 0) = true then
    some c
  else
    (L8 a.Fleet).bind fun d =>
    if (d != 0) = true then
      some d
    else
      (if (decide ((a.Readers.length : Int) > 256)) = true then
        some true
      else
        if (decide ((a.Shippers.length : Int) > 256)) = true then
          some true
        else
          some ((decide ((a.Railways.length : Int) > 16))) : Option (Bool)).bind fun e =>
      if e = true then
        some 2
      else
        lt1 ((a.Railways.length : Int)) fun (b : Int) =>
        ((Cx (fun (v : Bool × Int) => Fk a v.1 v.2) (((b == 0), 0))).bind fun f =>
        some f : Option (Bool)).bind fun g =>
        ((Cx (fun (v : Bool × Int) => Fx a v.1 v.2) ((g, 0))).bind fun i =>
        some i : Option (Bool)).bind fun j =>
        ((Cx (fun (v : Bool × Int) => F6 a v.1 v.2) ((j, 0))).bind fun k =>
        some k : Option (Bool)).bind fun l =>
        ((Cx (fun (v : Bool × Int) => Fu a b v.1 v.2) ((l, 0))).bind fun m =>
        some m : Option (Bool)).bind fun n =>
        ((Cx (fun (v : Bool × Int) => Fj a b v.1 v.2) ((n, 0))).bind fun o =>
        some o : Option (Bool)).bind fun p =>
        ((Cx (fun (_ : Unit) => Fd a ) (())).bind fun () =>
        some (()) : Option (Unit)).bind fun () =>
        if p = true then
          some 1
        else
          some 0
def Qc (a : Api_Pool) (c : Api_Item) : Option (Int) :=
  (Hw (({ Network := a.Network, Fleet := a.Fleet, Readers := a.Readers, Shippers := a.Shippers, Railways := a.Railways } : Api_Pool))).bind fun b =>
  if (b != 0) = true then
    some b
  else
    none
def Et (a : Api_Item) (b : List UInt8) : Option (Bool) :=
  (B6 a).bind fun c =>
  (D0 b).bind fun d =>
  (if (c.2 == 0) = true then
    if (c.1 == b) = true then
      if (d.2 == 0) = true then
        (Ez d.1 a).bind fun e =>
        some e
      else
        some false
    else
      some false
  else
    some false : Option (Bool)).bind fun f =>
  some f
def Cq (b : List UInt8) : Option (Bool) :=
  (D0 b).bind fun a =>
  (if (a.2 == 4) = true then
    (Ez a.1 (({ Kind := 0, Ref := ({ Railway := 0, No := 0 } : Api_Ref), Wagon := 0, Place := 0, Other := 0, Number := 0, From := 0, To := 0, Code := 0, Dest := 0, Class := 0, Weight := 0, Amount := 0, Text := ([] : List UInt8), Parts := [] } : Api_Item))).bind fun c =>
    some c
  else
    some false : Option (Bool)).bind fun d =>
  some d
def law11_sane  : Option (Bool) :=
  lt1 (([({ Kind := 1, Serial := 5, Fitted := false } : Api_Part), ({ Kind := 0, Serial := (-2), Fitted := true } : Api_Part)] : List Api_Part)) fun (a : List Api_Part) =>
  ((Et (({ Kind := 1, Ref := ({ Railway := 0, No := 0 } : Api_Ref), Wagon := 12, Place := 0, Other := 3, Number := 0, From := 100, To := 0, Code := 0, Dest := 0, Class := 0, Weight := 0, Amount := 0, Text := ([] : List UInt8), Parts := [] } : Api_Item)) (([82, 69, 65, 68, 43, 119, 49, 50, 43, 111, 51, 43, 102, 49, 48, 48, 39] : List UInt8))).bind fun c =>
  if c = true then
    (Et (({ Kind := 14, Ref := ({ Railway := 2, No := 7 } : Api_Ref), Wagon := 0, Place := 0, Other := 0, Number := 0, From := 0, To := 0, Code := 0, Dest := 0, Class := 0, Weight := 0, Amount := 0, Text := ([] : List UInt8), Parts := [] } : Api_Item)) (([82, 69, 84, 82, 65, 67, 84, 43, 114, 50, 46, 55, 39] : List UInt8))).bind fun d =>
    if d = true then
      (Et (({ Kind := 11, Ref := ({ Railway := 0, No := 0 } : Api_Ref), Wagon := 0, Place := 0, Other := 0, Number := 1, From := 0, To := 0, Code := 0, Dest := 0, Class := 0, Weight := 0, Amount := 0, Text := ([97, 43, 98, 10] : List UInt8), Parts := [] } : Api_Item)) (([84, 65, 82, 73, 70, 70, 43, 110, 49, 43, 120, 97, 63, 50, 98, 98, 63, 48, 97, 39] : List UInt8))).bind fun e =>
      if e = true then
        (Et (({ Kind := 10, Ref := ({ Railway := 0, No := 0 } : Api_Ref), Wagon := 0, Place := 0, Other := 0, Number := 0, From := 0, To := 0, Code := 0, Dest := 0, Class := 0, Weight := 0, Amount := 0, Text := ([] : List UInt8), Parts := a } : Api_Item)) (([82, 69, 67, 65, 76, 76, 43, 113, 49, 46, 53, 46, 48, 43, 113, 48, 46, 45, 50, 46, 49, 39] : List UInt8))).bind fun f =>
        some f
      else
        some false
    else
      some false
  else
    some false : Option (Bool)).bind fun g =>
  (B6 (({ Kind := 16, Ref := ({ Railway := 0, No := 0 } : Api_Ref), Wagon := 0, Place := 0, Other := 0, Number := 0, From := 0, To := 0, Code := 0, Dest := 0, Class := 0, Weight := 0, Amount := 0, Text := ([] : List UInt8), Parts := [] } : Api_Item))).bind fun i =>
  (Hl ((Api_Value.mk 1 1 ([]) ([])))).bind fun j =>
  ((Cq (([82, 69, 65, 68, 43, 119, 48, 49, 50, 39] : List UInt8))).bind fun k =>
  if k = true then
    (Cq (([82, 69, 65, 68, 43, 119, 48, 39] : List UInt8))).bind fun l =>
    if l = true then
      (Cq (([82, 69, 65, 68, 43, 111, 51, 43, 119, 49, 50, 39] : List UInt8))).bind fun m =>
      if m = true then
        (Cq (([82, 69, 65, 68, 43, 119, 49, 50] : List UInt8))).bind fun n =>
        if n = true then
          (Cq (([82, 69, 65, 68, 43, 119, 49, 50, 39, 32] : List UInt8))).bind fun o =>
          if o = true then
            (Cq (([84, 65, 82, 73, 70, 70, 43, 120, 63, 52, 49, 39] : List UInt8))).bind fun p =>
            if p = true then
              (Cq (([] : List UInt8))).bind fun q =>
              some q
            else
              some false
          else
            some false
        else
          some false
      else
        some false
    else
      some false
  else
    some false : Option (Bool)).bind fun s =>
  (Gy (({ Kind := 10, Ref := ({ Railway := 0, No := 0 } : Api_Ref), Wagon := 0, Place := 0, Other := 0, Number := 0, From := 0, To := 0, Code := 0, Dest := 0, Class := 0, Weight := 0, Amount := 0, Text := ([] : List UInt8), Parts := a } : Api_Item))).bind fun t =>
  (Hl t).bind fun b =>
  (if g = true then
    if (i.2 == 110) = true then
      if (j.2 == 10) = true then
        if s = true then
          if (b.2 == 0) = true then
            (Ez b.1 (({ Kind := 10, Ref := ({ Railway := 0, No := 0 } : Api_Ref), Wagon := 0, Place := 0, Other := 0, Number := 0, From := 0, To := 0, Code := 0, Dest := 0, Class := 0, Weight := 0, Amount := 0, Text := ([] : List UInt8), Parts := a } : Api_Item))).bind fun u =>
            if u = true then
              (Qc (({ Network := ({ Places := [], Edges := [] } : Api_Network), Fleet := ({ Types := [], Wagons := [], Swaps := [], Washes := [] } : Api_Fleet), Readers := [], Shippers := [], Railways := [] } : Api_Pool)) (({ Kind := 10, Ref := ({ Railway := 0, No := 0 } : Api_Ref), Wagon := 0, Place := 0, Other := 0, Number := 0, From := 0, To := 0, Code := 0, Dest := 0, Class := 0, Weight := 0, Amount := 0, Text := ([] : List UInt8), Parts := a } : Api_Item))).bind fun v =>
              some ((v != 0))
            else
              some false
          else
            some false
        else
          some false
      else
        some false
    else
      some false
  else
    some false : Option (Bool)).bind fun w =>
  some w
def Bi (a : List UInt8) : Option (Bool) :=
  law11_sane.bind fun d =>
  if (!d) = true then
    some false
  else
    if (decide ((a.length : Int) > 2000)) = true then
      some true
    else
      (D0 a).bind fun b =>
      (G2 a).bind fun c =>
      (if (b.2 == c.2) = true then
        (Ez b.1 c.1).bind fun e =>
        some e
      else
        some false : Option (Bool)).bind fun f =>
      some f
def D9 (a : Api_Item) : Option (Bool) :=
  law11_sane.bind fun d =>
  if (!d) = true then
    some false
  else
    (E2 a).bind fun e =>
    if (!e) = true then
      some true
    else
      (B6 a).bind fun b =>
      (if (decide (a.Kind < 1)) = true then
        some true
      else
        some ((decide (a.Kind > 15))) : Option (Bool)).bind fun f =>
      if f = true then
        (if (b.2 == 110) = true then
          some ((b.1 == (([] : List UInt8))))
        else
          some false : Option (Bool)).bind fun g =>
        some g
      else
        (D0 b.1).bind fun c =>
        (if (b.2 == 0) = true then
          if (c.2 == 0) = true then
            (Ez c.1 a).bind fun i =>
            some i
          else
            some false
        else
          some false : Option (Bool)).bind fun j =>
        some j
def Bf (b : List UInt8) (a : Int) : Option ((Int) ⊕ ((Unit) ⊕ ((Unit) ⊕ (Bool)))) :=
  if (decide (a < (b.length : Int))) = true then
    (if InR a b.length then
      if (decide ((nth b a.toNat) < (32 : UInt8))) = true then
        some true
      else
        if InR a b.length then
          if (decide ((nth b a.toNat) > (126 : UInt8))) = true then
            some true
          else
            if InR a b.length then
              some ((!(((nth b a.toNat) == (39 : UInt8)) == (a == (w64 ((b.length : Int) - 1))))))
            else none
        else none
    else none : Option (Bool)).bind fun c =>
    if c = true then
      ((some false).bind fun d => some (.inr d)).bind fun e => some (.inr (.inr e))
    else
      some (.inl ((w64 (a + 1))))
  else
    some (.inr (.inl (())))
def Bw (a : List UInt8) : Option (Bool) :=
  law11_sane.bind fun d =>
  if (!d) = true then
    some false
  else
    if (decide ((a.length : Int) > 2000)) = true then
      some true
    else
      (D0 a).bind fun b =>
      if (b.2 != 0) = true then
        (if (b.2 == 4) = true then
          (Ez b.1 (({ Kind := 0, Ref := ({ Railway := 0, No := 0 } : Api_Ref), Wagon := 0, Place := 0, Other := 0, Number := 0, From := 0, To := 0, Code := 0, Dest := 0, Class := 0, Weight := 0, Amount := 0, Text := ([] : List UInt8), Parts := [] } : Api_Item))).bind fun e =>
          some e
        else
          some false : Option (Bool)).bind fun f =>
        some f
      else
        ((Cx (fun (v : Int) => Bf a v) 0).bind fun x => match x with
        | .inl () =>
          some (.inl (()))
        | .inr z => some z : Option ((Unit) ⊕ (Bool))).bind fun x => match x with
        | .inl () =>
          (B6 b.1).bind fun c =>
          (if (c.2 == 0) = true then
            some ((c.1 == a))
          else
            some false : Option (Bool)).bind fun g =>
          some g
        | .inr z => some z
def Gs (a : Api_Item) (b : Api_Item) : Option (Bool) :=
  law11_sane.bind fun f =>
  if (!f) = true then
    some false
  else
    ((E2 a).bind fun g =>
    if (!g) = true then
      some true
    else
      (E2 b).bind fun i =>
      some ((!i)) : Option (Bool)).bind fun j =>
    if j = true then
      some true
    else
      (Ez a b).bind fun c =>
      (B6 a).bind fun d =>
      (B6 b).bind fun e =>
      (Gy a).bind fun k =>
      (Gy b).bind fun l =>
      (Fg k l).bind fun m =>
      if (!((m == 0) == c)) = true then
        some false
      else
        (if (d.2 != 0) = true then
          some true
        else
          if (e.2 != 0) = true then
            some true
          else
            some (((d.1 == e.1) == c)) : Option (Bool)).bind fun n =>
        some n
set_option maxRecDepth 100000
theorem Ta : ∀ (k u : Nat), u < 10 ^ (k + 1) → Lib.nDigits u ≤ k + 1
  | 0, u, h => by rw [Lib.nDigits_small (by simpa using h)]; exact Nat.le_refl _
  | k + 1, u, h => by
    by_cases hu : u < 10
    · rw [Lib.nDigits_small hu]; omega
    · rw [Lib.nDigits_big hu]
      have := Ta k (u / 10) (by rw [Nat.pow_succ] at h; omega)
      omega
theorem Gi {u : Nat} (h : u < 10 ^ 20) : (Lib.decDigits u).length ≤ 20 := by rw [Lib.decDigits_length]; exact Ta 19 u h
theorem Eb {d : Nat} (h : d < 10) : (UInt8.ofNat (48 + d)).toNat = 48 + d := by
  rw [UInt8.toNat_ofNat']; omega
theorem Xg : ∀ (u acc : Nat) (r : List UInt8), acc * 10 ^ Lib.nDigits u + u < 18446744073709551616 → Lib.parseUint10 acc (Lib.decDigits u ++ r) = Lib.parseUint10 (acc * 10 ^ Lib.nDigits u + u) r := by
  intro u
  induction u using Nat.strongRecOn with
  | ind u ih =>
    intro acc r h
    by_cases hu : u < 10
    · rw [Lib.decDigits, dif_pos hu, List.singleton_append, Lib.parseUint10, Lib.nDigits_small hu]
      rw [Lib.nDigits_small hu] at h
      simp only [Nat.pow_one] at h ⊢
      rw [Eb hu, if_pos (by omega), if_neg (by omega), if_neg (by omega)]
      congr 1
      omega
    · rw [Lib.decDigits, dif_neg hu, List.append_assoc]
      rw [Lib.nDigits_big hu] at h ⊢
      have hd : u % 10 < 10 := Nat.mod_lt _ (by omega)
      have hm : acc * 10 ^ (Lib.nDigits (u / 10) + 1) = acc * 10 ^ Lib.nDigits (u / 10) * 10 := by rw [Nat.pow_succ, Nat.mul_assoc]
      rw [hm] at h ⊢
      rw [ih (u / 10) (by omega) acc _ (by omega), List.singleton_append, Lib.parseUint10, Eb hd, if_pos (by omega), if_neg (by omega), if_neg (by omega)]
      congr 1
      omega
theorem Wk {u : Nat} (h : u < 18446744073709551616) : Lib.parseUint10 0 (Lib.decDigits u) = .ok u := by
  have := Xg u 0 [] (by omega)
  simpa [Lib.parseUint10] using this
theorem Vq : ∀ (u : Nat), ∃ c r, Lib.decDigits u = c :: r ∧ 48 ≤ c.toNat ∧ c.toNat ≤ 57 := by
  intro u
  induction u using Nat.strongRecOn with
  | ind u ih =>
    by_cases hu : u < 10
    · rw [Lib.decDigits, dif_pos hu]
      exact ⟨_, [], rfl, by rw [Eb hu]; omega, by rw [Eb hu]; omega⟩
    · rw [Lib.decDigits, dif_neg hu]
      obtain ⟨c, r, h1, h2, h3⟩ := ih (u / 10) (by omega)
      exact ⟨c, r ++ _, by rw [h1]; rfl, h2, h3⟩
theorem Ad7 : ∀ (u : Nat), ∀ c ∈ Lib.decDigits u, 48 ≤ c.toNat ∧ c.toNat ≤ 57 := by
  intro u
  induction u using Nat.strongRecOn with
  | ind u ih =>
    by_cases hu : u < 10
    · rw [Lib.decDigits, dif_pos hu]
      intro c hc
      simp only [List.mem_singleton] at hc
      subst hc
      rw [Eb hu]; omega
    · rw [Lib.decDigits, dif_neg hu]
      intro c hc
      rcases List.mem_append.1 hc with hc | hc
      · exact ih (u / 10) (by omega) c hc
      · simp only [List.mem_singleton] at hc
        subst hc
        have hd : u % 10 < 10 := Nat.mod_lt _ (by omega)
        rw [Eb hd]; omega
theorem Kn {n : Int} (h1 : -9223372036854775808 ≤ n) (h2 : n ≤ 9223372036854775807) : Lib.atoiAll (Lib.itoa n) = .ok n := by
  unfold Lib.itoa
  split
  · rename_i hn
    obtain ⟨c, r, e, q1, q2⟩ := Vq n.natAbs
    have hp : Lib.parseMag (Lib.decDigits n.natAbs) = .ok n.natAbs := by
      unfold Lib.parseMag
      rw [if_neg (by rw [e]; simp), Wk (by omega)]
    unfold Lib.atoiAll
    have h45 : (45 : UInt8).toNat = 45 := rfl
    simp only [h45, or_true, if_true, hp]
    rw [if_neg (by simp), if_neg (by omega)]
    congr 1
    omega
  · rename_i hn
    obtain ⟨c, r, e, q1, q2⟩ := Vq n.toNat
    have hp : Lib.parseMag (Lib.decDigits n.toNat) = .ok n.toNat := by
      unfold Lib.parseMag
      rw [if_neg (by rw [e]; simp), Wk (by omega)]
    rw [e] at hp ⊢
    unfold Lib.atoiAll
    simp only
    rw [if_neg (by omega), hp]
    simp only
    rw [if_neg (by omega), if_neg (by omega), if_neg (by omega)]
    congr 1
    omega
theorem K3 {n : Nat} (h : n ≤ 1000000) : Mi n := Nat.le_trans h (by decide)
theorem AdK {u : Nat} (h : u < 10) : [UInt8.ofInt (w64 (48 + (u : Int)))] = Lib.decDigits u := by
  rw [Lib.decDigits, dif_pos h, C0 (by omega)]
  congr 1
  show UInt8.ofInt ((48 + u : Nat) : Int) = _
  have : ∀ k : Fin 10, UInt8.ofInt ((48 + k.val : Nat) : Int) = UInt8.ofNat (48 + k.val) := by decide
  exact this ⟨u, h⟩
theorem AaC {u : Nat} (h : ¬ u < 10) : Lib.decDigits (u / 10) ++ Lib.decDigits (u % 10) = Lib.decDigits u := by
  have hd : u % 10 < 10 := Nat.mod_lt _ (by omega)
  rw [Lib.decDigits.eq_1 u, dif_neg h, Lib.decDigits.eq_1 (u % 10), dif_pos hd]
theorem L6 : ∀ (u f : Nat), u ≤ 9223372036854775807 → u + 12 < f → Dw f (u : Int) = some (Lib.decDigits u) := by
  intro u
  induction u using Nat.strongRecOn with
  | ind u ih =>
    intro f h63 hf
    obtain ⟨f, rfl⟩ : ∃ f', f = f' + 1 := ⟨f - 1, by omega⟩
    show Dz (Dw f) (u : Int) = _
    unfold Dz
    have hn : decide ((u : Int) < 0) = false := by simp
    simp only [hn, Bool.false_eq_true, if_false, Option.bind_some]
    by_cases hu : u < 10
    · rw [if_pos (decide_eq_true (by omega)), AdK hu]
    · rw [if_neg (by simp; omega)]
      have e1 : w64 ((u : Int).tdiv 10) = ((u / 10 : Nat) : Int) := by
        have : (u : Int).tdiv 10 = ((u / 10 : Nat) : Int) := rfl
        rw [this, C0 (by omega)]
      have e2 : (u : Int).tmod 10 = ((u % 10 : Nat) : Int) := rfl
      have hd : u % 10 < 10 := Nat.mod_lt _ (by omega)
      rw [e1, e2, ih (u / 10) (by omega) f (by omega) (by omega), Option.bind_some, ih (u % 10) (by omega) f (by omega) (by omega), Option.bind_some]
      have l1 := Gi (u := u / 10) (by omega)
      have l2 := Gi (u := u % 10) (by omega)
      rw [if_pos (K3 (by omega)), AaC hu]
theorem Ze : ∀ (u f : Nat), 0 < u → u ≤ 9223372036854775808 → u + 14 < f → Dw f (-(u : Int)) = some (45 :: Lib.decDigits u) := by
  intro u
  induction u using Nat.strongRecOn with
  | ind u ih =>
    intro f h0 h63 hf
    obtain ⟨f, rfl⟩ : ∃ f', f = f' + 1 := ⟨f - 1, by omega⟩
    show Dz (Dw f) (-(u : Int)) = _
    unfold Dz
    have hn : decide (-(u : Int) < 0) = true := decide_eq_true (by omega)
    simp only [hn, if_true, Option.bind_some]
    by_cases hu : u < 10
    · rw [if_pos (decide_eq_true (by omega))]
      have e0 : w64 (0 - -(u : Int)) = (u : Int) := by rw [C0 (by omega)]; omega
      rw [e0, L6 u f (by omega) (by omega), Option.bind_some]
      have l1 := Gi (u := u) (by omega)
      rw [if_pos (K3 (by omega))]
      rfl
    · rw [if_neg (by simp; omega)]
      have e1 : w64 ((-(u : Int)).tdiv 10) = -((u / 10 : Nat) : Int) := by
        have : (-(u : Int)).tdiv 10 = -((u / 10 : Nat) : Int) := by rw [Int.neg_tdiv]; rfl
        rw [this, C0 (by omega)]
      have e2 : w64 (0 - (-(u : Int)).tmod 10) = ((u % 10 : Nat) : Int) := by
        have : (-(u : Int)).tmod 10 = -((u % 10 : Nat) : Int) := by rw [Int.neg_tmod]; rfl
        rw [this, C0 (by omega)]; omega
      have hd : u % 10 < 10 := Nat.mod_lt _ (by omega)
      rw [e1, e2, ih (u / 10) (by omega) f (by omega) (by omega) (by omega), Option.bind_some, L6 (u % 10) f (by omega) (by omega), Option.bind_some]
      have l1 := Gi (u := u / 10) (by omega)
      have l2 := Gi (u := u % 10) (by omega)
      rw [if_pos (K3 (by simp; omega)), List.cons_append, AaC hu]
theorem I1 {n : Int} (h1 : -9223372036854775808 ≤ n) (h2 : n ≤ 9223372036854775807) : Dj n = some (Lib.itoa n) := by
  unfold Dj Lib.itoa
  by_cases hn : n < 0
  · rw [if_pos hn]
    have := Ze n.natAbs 18446744073709551616 (by omega) (by omega) (by omega)
    rwa [show -((n.natAbs : Nat) : Int) = n by omega] at this
  · rw [if_neg hn]
    have := L6 n.toNat 18446744073709551616 (by omega) (by omega)
    rwa [show ((n.toNat : Nat) : Int) = n by omega] at this
theorem Bz {n : Int} (h1 : -9223372036854775808 ≤ n) (h2 : n ≤ 9223372036854775807) : (Lib.itoa n).length ≤ 21 := by
  unfold Lib.itoa
  split
  · have := Gi (u := n.natAbs) (by omega)
    simp; omega
  · have := Gi (u := n.toNat) (by omega)
    omega
theorem Qk {n : Nat} (h : n ≤ 1000000) : F9 n 1 := ⟨Nat.le_trans h (by decide), by rw [Nat.mul_one]; exact Nat.le_trans h (by decide)⟩
theorem B1 {l : List UInt8} {c : UInt8} (h : l.length ≤ 900000) : Ak { addr := (), buf := l } c = some (false, { addr := (), buf := l ++ [c] }) := by
  unfold Ak
  simp only [lt1]
  rw [if_pos (Qk (by omega))]
theorem Iu {l s : List UInt8} (h : l.length + s.length ≤ 900000) : A5 { addr := (), buf := l } s = some ((s.length : Int), false, { addr := (), buf := l ++ s }) := by
  unfold A5
  simp only [lt1]
  rw [if_pos (Qk (by omega))]
def Ac3 : List UInt8 := [48, 49, 50, 51, 52, 53, 54, 55, 56, 57, 97, 98, 99, 100, 101, 102]
def Ac7 (c : UInt8) : Bool := decide (c < 32) || decide (c > 126) || c == 43 || c == 39 || c == 63
def Ri (c : UInt8) : List UInt8 := if Ac7 c then [63, nth Ac3 (c.toNat / 16), nth Ac3 (c.toNat % 16)] else [c]
def esc (t : List UInt8) : List UInt8 := t.flatMap Ri
theorem Ud (c : UInt8) : (Ri c).length ≤ 3 := by unfold Ri; split <;> simp
theorem Mf (t : List UInt8) : (esc t).length ≤ 3 * t.length := by
  induction t with
  | nil => simp [esc]
  | cons c t ih =>
    have := Ud c
    simp only [esc, List.flatMap_cons, List.length_append, List.length_cons] at ih ⊢
    omega
theorem Pi (t : List UInt8) (k : Nat) (hk : k < t.length) : esc (t.take (k + 1)) = esc (t.take k) ++ Ri (nth t k) := by
  have h : t.take (k + 1) = t.take k ++ [nth t k] := by
    rw [List.take_add_one, List.getElem?_eq_getElem hk]
    simp [nth, List.getElem?_eq_getElem hk]
  rw [h]
  simp [esc]
theorem Ju {p : UInt8 → Prop} (h : ∀ n : Fin 256, p (UInt8.ofNat n.val)) (c : UInt8) : p c := by
  have := h ⟨c.toNat, c.toNat_lt⟩
  simpa using this
theorem Ahe (c : UInt8) : (Ahl c ((4 : UInt64)).toNat).toNat = c.toNat / 16 := Ju (p := fun c => (Ahl c ((4 : UInt64)).toNat).toNat = c.toNat / 16) (by decide +kernel) c
theorem Ahb (c : UInt8) : (c &&& 15).toNat = c.toNat % 16 := Ju (p := fun c => (c &&& 15).toNat = c.toNat % 16) (by decide +kernel) c
theorem Ag6 (c : UInt8) : (c / 16).toNat = c.toNat / 16 := Ju (p := fun c => (c / 16).toNat = c.toNat / 16) (by decide +kernel) c
theorem AgX (c : UInt8) : (c % 16).toNat = c.toNat % 16 := Ju (p := fun c => (c % 16).toNat = c.toNat % 16) (by decide +kernel) c
theorem Cr {k : Nat} (h : k + 1 < 9223372036854775807) : w64 ((k : Int) + 1) = ((k + 1 : Nat) : Int) := by rw [C0 (by omega)]; omega
theorem Ad4 (c : UInt8) : (if (decide (c < (32 : UInt8))) = true then some true else if (decide (c > (126 : UInt8))) = true then some true else if (c == (43 : UInt8)) = true then some true else if (c == (39 : UInt8)) = true then some true else some (c == (63 : UInt8)) : Option Bool) = some (Ac7 c) := by
  unfold Ac7
  cases decide (c < (32 : UInt8)) <;> cases decide (c > (126 : UInt8)) <;> cases (c == (43 : UInt8)) <;> cases (c == (39 : UInt8)) <;> simp
theorem AdH {l t : List UInt8} (h : l.length + 3 * t.length ≤ 800000) : Hn { addr := (), buf := l } t = some { addr := (), buf := l ++ esc t } := by
  unfold Hn
  obtain ⟨x, hx, rfl⟩ := Dq (f := fun (v : Int × List UInt8) => Ei t v.1 v.2) t.length (fun k v => v = ((k : Int), l ++ esc (t.take k))) (fun x => x = l ++ esc t) (by omega) (by
      rintro k v hk rfl
      refine ⟨_, ?_, rfl⟩
      have hl : (l ++ esc (t.take k)).length ≤ 800000 := by
        have := Mf (t.take k)
        simp only [List.length_append, List.length_take] at this ⊢
        omega
      have hin : InR (k : Int) t.length := ⟨by omega, by simpa using hk⟩
      have h1 : InR ((Ahl (nth t k) ((4 : UInt64)).toNat).toNat : Int) 16 := ⟨by omega, by have := (nth t k).toNat_lt; rw [Ahe]; simp; omega⟩
      have h2 : InR (((nth t k) &&& 15).toNat : Int) 16 := ⟨by omega, by rw [Ahb]; simp; omega⟩
      unfold Ei
      rw [if_pos (decide_eq_true (by omega)), if_pos hin, Cr (by omega), Pi t k hk]
      simp only [Int.toNat_natCast]
      rw [Ad4, Option.bind_some]
      rw [← List.append_assoc]
      generalize l ++ esc (t.take k) = b at hl ⊢
      cases hb : Ac7 (nth t k) with
      | false =>
        simp only [Bool.false_eq_true, if_false, Option.bind_some, lt1]
        rw [B1 (by omega), Option.bind_some]
        simp [Ri, hb]
      | true =>
        simp only [if_true, lt1, List.length_cons, List.length_nil, Nat.zero_add, Nat.reduceAdd]
        rw [B1 (by omega), Option.bind_some, if_pos h1, B1 (by simp; omega), Option.bind_some, if_pos h2, Option.bind_some]
        simp only
        rw [B1 (by simp; omega), Option.bind_some, Ahe, Ahb]
        simp [Ri, hb, Ac3]) (by
      rintro v rfl
      refine ⟨_, ?_, rfl⟩
      unfold Ei
      rw [if_neg (by simp)]
      simp) (v0 := (0, l)) (by simp [esc])
  rw [hx]; rfl
theorem Agv (c : UInt8) : Jb c = some (!Ac7 c) := by
  have h : ∀ c : UInt8, Jb c = some (!Ac7 c) := fun c => Ju (p := fun c => Jb c = some (!Ac7 c)) (by decide +kernel) c
  exact h c
theorem AcC {t : List UInt8} (h : t.length ≤ 200000) : Gg t = some (esc t) := by
  unfold Gg
  simp only [lt1]
  obtain ⟨x, hx, rfl⟩ := Dq (f := fun (v : Int × List UInt8) => D6 t v.1 v.2) t.length (fun k v => v = ((k : Int), esc (t.take k))) (fun x => x = esc t) (by omega) (by
      rintro k v hk rfl
      refine ⟨_, ?_, rfl⟩
      have hl : (esc (t.take k)).length ≤ 600000 := by
        have := Mf (t.take k)
        simp only [List.length_take] at this ⊢
        omega
      have hin : InR (k : Int) t.length := ⟨by omega, by simpa using hk⟩
      have h1 : InR (((nth t k) / 16).toNat : Int) 16 := ⟨by omega, by have := (nth t k).toNat_lt; rw [Ag6]; simp; omega⟩
      have h2 : InR (((nth t k) % 16).toNat : Int) 16 := ⟨by omega, by rw [AgX]; simp; omega⟩
      unfold D6
      rw [if_pos (decide_eq_true (by omega)), if_pos hin, Cr (by omega), Pi t k hk]
      simp only [Int.toNat_natCast]
      rw [Agv, Option.bind_some]
      generalize esc (t.take k) = b at hl ⊢
      cases hb : Ac7 (nth t k) with
      | false =>
        simp only [Bool.not_false, if_true, lt1]
        rw [if_pos hin, if_pos (Qk (by omega)), Option.bind_some]
        simp [Ri, hb]
      | true =>
        simp only [Bool.not_true, Bool.false_eq_true, if_false, lt1, List.length_cons, List.length_nil, Nat.zero_add, Nat.reduceAdd]
        rw [if_pos hin, if_pos h1, if_pos hin, if_pos h2, if_pos (Qk (by omega)), Option.bind_some, Ag6, AgX]
        simp [Ri, hb, Ac3]) (by
      rintro v rfl
      refine ⟨_, ?_, rfl⟩
      unfold D6
      rw [if_neg (by simp)]
      simp) (v0 := (0, [])) (by simp [esc])
  rw [hx]; rfl
theorem AiJ {n : Int} (h1 : -9223372036854775808 ≤ n) (h2 : n ≤ 9223372036854775807) : strconv_Itoa n = some (Lib.itoa n) := by
  unfold strconv_Itoa AhU
  rw [if_pos (by omega)]
def num (c : UInt8) (n : Int) : List UInt8 := if n = 0 then [] else 43 :: c :: Lib.itoa n
def Ha (x : Api_Part) : List UInt8 := [43, 113] ++ Lib.itoa x.Kind ++ [46] ++ Lib.itoa x.Serial ++ (if x.Fitted then [46, 49] else [46, 48])
def AbH (r : Api_Ref) : List UInt8 := if r.Railway = 0 ∧ r.No = 0 then [] else [43, 114] ++ Lib.itoa r.Railway ++ [46] ++ Lib.itoa r.No
def O4 (it : Api_Item) : List UInt8 := num 119 it.Wagon ++ num 112 it.Place ++ num 111 it.Other ++ num 110 it.Number ++ num 102 it.From ++ num 116 it.To ++ num 99 it.Code ++ num 100 it.Dest ++ num 107 it.Class ++ num 103 it.Weight ++ num 97 it.Amount
def Rk (t : List UInt8) : List UInt8 := if t = [] then [] else [43, 120] ++ esc t
def Io (it : Api_Item) : List UInt8 := glob0.get it.Kind.toNat ++ AbH it.Ref ++ O4 it ++ Rk it.Text ++ it.Parts.flatMap Ha
def msg (it : Api_Item) : List UInt8 := Io it ++ [39]
def I64 (n : Int) : Prop := -9223372036854775808 ≤ n ∧ n ≤ 9223372036854775807
structure OkItem (it : Api_Item) : Prop where
  kind : I64 it.Kind
  ref : I64 it.Ref.Railway ∧ I64 it.Ref.No
  nums : I64 it.Wagon ∧ I64 it.Place ∧ I64 it.Other ∧ I64 it.Number ∧ I64 it.From ∧ I64 it.To ∧ I64 it.Code ∧ I64 it.Dest ∧ I64 it.Class ∧ I64 it.Weight ∧ I64 it.Amount
  text : it.Text.length ≤ 70000
  parts : it.Parts.length ≤ 2000
  part : ∀ x ∈ it.Parts, I64 x.Kind ∧ I64 x.Serial
theorem Aea {l : List UInt8} {n : Int} (hl : l.length ≤ 800000) (h : I64 n) : Az n { addr := (), buf := l } = some { addr := (), buf := l ++ Lib.itoa n } := by
  have := Bz h.1 h.2
  unfold Az
  rw [AiJ h.1 h.2, Option.bind_some]
  simp only
  rw [Iu (by omega), Option.bind_some]
  rfl
theorem Afn {l : List UInt8} {c : UInt8} (hl : l.length ≤ 800000) : A1 c { addr := (), buf := l } = some { addr := (), buf := l ++ [43, c] } := by
  unfold A1
  simp only [lt1]
  rw [B1 (by omega), Option.bind_some]
  rw [B1 (by simp; omega), Option.bind_some]
  simp
theorem F4 {l : List UInt8} {c : UInt8} {n : Int} (hl : l.length ≤ 700000) (h : I64 n) :
    (if (n != 0) = true then (A1 c { addr := (), buf := l }).bind fun y => (Az n { addr := (), buf := y.buf }).bind fun y2 => some y2.buf else some l : Option (List UInt8)) = some (l ++ num c n) := by
  unfold num
  by_cases h0 : n = 0
  · subst h0; simp
  · rw [if_pos (by simpa using h0), if_neg h0, Afn (by omega), Option.bind_some]
    simp only
    rw [Aea (by simp; omega) h, Option.bind_some]
    simp
theorem C4 {c : UInt8} {n : Int} (h : I64 n) : (num c n).length ≤ 23 := by
  unfold num
  split
  · simp
  · have := Bz h.1 h.2
    simp; omega
theorem Abc {x : Api_Part} (h : I64 x.Kind ∧ I64 x.Serial) : (Ha x).length ≤ 47 := by
  have h1 := Bz h.1.1 h.1.2
  have h2 := Bz h.2.1 h.2.2
  unfold Ha
  cases x.Fitted <;> simp <;> omega
theorem Kb {l : List Api_Part} (h : ∀ x ∈ l, I64 x.Kind ∧ I64 x.Serial) : (l.flatMap Ha).length ≤ 47 * l.length := by
  induction l with
  | nil => simp
  | cons x l ih =>
    have h1 := Abc (h x (by simp))
    have h2 := ih (fun y hy => h y (by simp [hy]))
    simp only [List.flatMap_cons, List.length_append, List.length_cons]
    omega
theorem Sv (l : List Api_Part) (k : Nat) (hk : k < l.length) : (l.take (k + 1)).flatMap Ha = (l.take k).flatMap Ha ++ Ha (nth l k) := by
  have h : l.take (k + 1) = l.take k ++ [nth l k] := by
    rw [List.take_add_one, List.getElem?_eq_getElem hk]
    simp [nth, List.getElem?_eq_getElem hk]
  rw [h]
  simp
theorem Nt {α : Type} [Inhabited α] {l : List α} {k : Nat} (hk : k < l.length) : nth l k ∈ l := by
  simp [nth, List.getElem?_eq_getElem hk]
theorem AbA {it : Api_Item} (hi : OkItem it) {l : List UInt8} (hl : l.length ≤ 400000) : Cx (fun (v : Int × List UInt8) => Dy it v.1 v.2) (0, l) = some (l ++ it.Parts.flatMap Ha) := by
  obtain ⟨x, hx, rfl⟩ := Dq (f := fun (v : Int × List UInt8) => Dy it v.1 v.2) it.Parts.length (fun k v => v = ((k : Int), l ++ (it.Parts.take k).flatMap Ha)) (fun x => x = l ++ it.Parts.flatMap Ha) (by have := hi.parts; omega) (by
      rintro k v hk rfl
      refine ⟨_, ?_, rfl⟩
      have hp := hi.parts
      have hl2 : (l ++ (it.Parts.take k).flatMap Ha).length ≤ 500000 := by
        have := Kb (l := it.Parts.take k) (fun x hx => hi.part x (List.mem_of_mem_take hx))
        simp only [List.length_append, List.length_take] at this ⊢
        omega
      have hin : InR (k : Int) it.Parts.length := ⟨by omega, by simpa using hk⟩
      obtain ⟨p1, p2⟩ := hi.part _ (Nt hk)
      unfold Dy
      rw [if_pos (decide_eq_true (by omega)), if_pos hin, Cr (by omega), Sv _ k hk, ← List.append_assoc]
      simp only [Int.toNat_natCast, lt1]
      generalize l ++ (it.Parts.take k).flatMap Ha = b at hl2 ⊢
      have q1 := Bz p1.1 p1.2
      have q2 := Bz p2.1 p2.2
      rw [Afn (by omega), Option.bind_some]
      simp only
      rw [Aea (by simp; omega) p1, Option.bind_some]
      simp only
      rw [B1 (by simp; omega), Option.bind_some]
      simp only
      rw [Aea (by simp; omega) p2, Option.bind_some]
      simp only
      have hfl : (if (nth it.Parts k).Fitted = true then [46, 49] else [46, 48] : List UInt8).length = 2 := by split <;> rfl
      rw [Iu (by rw [hfl]; simp; omega), Option.bind_some]
      simp [Ha]) (by
      rintro v rfl
      refine ⟨_, ?_, rfl⟩
      unfold Dy
      rw [if_neg (by simp)]
      simp) (v0 := (0, l)) (by simp)
  exact hx
theorem Pn {it : Api_Item} (hi : OkItem it) : (O4 it).length ≤ 253 := by
  obtain ⟨h1, h2, h3, h4, h5, h6, h7, h8, h9, h10, h11⟩ := hi.nums
  have q1 := C4 (c := 119) h1
  have q2 := C4 (c := 112) h2
  have q3 := C4 (c := 111) h3
  have q4 := C4 (c := 110) h4
  have q5 := C4 (c := 102) h5
  have q6 := C4 (c := 116) h6
  have q7 := C4 (c := 99) h7
  have q8 := C4 (c := 100) h8
  have q9 := C4 (c := 107) h9
  have q10 := C4 (c := 103) h10
  have q11 := C4 (c := 97) h11
  unfold O4
  simp only [List.length_append]
  omega
theorem Aaq : ∀ k : Fin 16, (glob0.get k.val).length ≤ 20 := by decide +kernel
theorem Zf {r : Api_Ref} (h : I64 r.Railway ∧ I64 r.No) : (AbH r).length ≤ 45 := by
  have h1 := Bz h.1.1 h.1.2
  have h2 := Bz h.2.1 h.2.2
  unfold AbH
  split
  · simp
  · simp; omega
theorem Uw {t : List UInt8} : (Rk t).length ≤ 2 + 3 * t.length := by
  have := Mf t
  unfold Rk
  split
  · simp
  · simp; omega
theorem Kr {it : Api_Item} (hi : OkItem it) : B6 it = some (if 1 ≤ it.Kind ∧ it.Kind ≤ 15 then (if (msg it).length > 65536 then ([], 2) else (msg it, 0)) else ([], 110)) := by
  unfold B6
  by_cases hk : 1 ≤ it.Kind ∧ it.Kind ≤ 15
  · rw [if_pos hk]
    have c1 : decide (it.Kind < 1) = false := decide_eq_false (by omega)
    have c2 : decide (it.Kind ≥ 16) = false := decide_eq_false (by omega)
    simp only [c1, c2, Bool.false_eq_true, if_false, Option.bind_some]
    have hin : InR it.Kind 16 := ⟨by omega, by omega⟩
    have hkk : it.Kind.toNat < 16 := by omega
    have htl := Aaq ⟨it.Kind.toNat, hkk⟩
    simp only at htl
    rw [if_pos hin, Iu (by simp; omega), Option.bind_some]
    simp only [List.nil_append]
    generalize ht : glob0.get it.Kind.toNat = tg at htl ⊢
    have hrl := Zf hi.ref
    have href : (if (!((it.Ref.Railway == 0) && (it.Ref.No == 0))) = true then
        (A1 ((114 : UInt8)) (({ addr := (), buf := tg } : Strings_Builder))).bind fun y_390 =>
        (Az it.Ref.Railway (({ addr := (), buf := y_390.buf } : Strings_Builder))).bind fun y_392 =>
        (Ak (({ addr := (), buf := y_392.buf } : Strings_Builder)) ((46 : UInt8))).bind fun y_394 =>
        (Az it.Ref.No (({ addr := (), buf := y_394.2.buf } : Strings_Builder))).bind fun y_396 =>
        some y_396.buf
      else
        some tg : Option (List UInt8)) = some (tg ++ AbH it.Ref) := by
      unfold AbH
      by_cases h0 : it.Ref.Railway = 0 ∧ it.Ref.No = 0
      · rw [if_pos h0, if_neg (by simp [h0.1, h0.2])]; simp
      · rw [if_neg h0, if_pos (by simp; omega)]
        have q1 := Bz hi.ref.1.1 hi.ref.1.2
        rw [Afn (by omega), Option.bind_some]
        simp only
        rw [Aea (by simp; omega) hi.ref.1, Option.bind_some]
        simp only
        rw [B1 (by simp; omega), Option.bind_some]
        simp only
        rw [Aea (by simp; omega) hi.ref.2, Option.bind_some]
        simp
    rw [href, Option.bind_some]
    obtain ⟨h1, h2, h3, h4, h5, h6, h7, h8, h9, h10, h11⟩ := hi.nums
    have q1 := C4 (c := 119) h1
    have q2 := C4 (c := 112) h2
    have q3 := C4 (c := 111) h3
    have q4 := C4 (c := 110) h4
    have q5 := C4 (c := 102) h5
    have q6 := C4 (c := 116) h6
    have q7 := C4 (c := 99) h7
    have q8 := C4 (c := 100) h8
    have q9 := C4 (c := 107) h9
    have q10 := C4 (c := 103) h10
    have q11 := C4 (c := 97) h11
    rw [F4 (by simp only [List.length_append]; omega) h1, Option.bind_some, F4 (by simp only [List.length_append]; omega) h2, Option.bind_some, F4 (by simp only [List.length_append]; omega) h3, Option.bind_some,
      F4 (by simp only [List.length_append]; omega) h4, Option.bind_some, F4 (by simp only [List.length_append]; omega) h5, Option.bind_some, F4 (by simp only [List.length_append]; omega) h6, Option.bind_some,
      F4 (by simp only [List.length_append]; omega) h7, Option.bind_some, F4 (by simp only [List.length_append]; omega) h8, Option.bind_some, F4 (by simp only [List.length_append]; omega) h9, Option.bind_some,
      F4 (by simp only [List.length_append]; omega) h10, Option.bind_some, F4 (by simp only [List.length_append]; omega) h11, Option.bind_some, Option.bind_some]
    have hb : tg ++ AbH it.Ref ++ num 119 it.Wagon ++ num 112 it.Place ++ num 111 it.Other ++ num 110 it.Number ++ num 102 it.From ++ num 116 it.To ++ num 99 it.Code ++ num 100 it.Dest ++ num 107 it.Class ++ num 103 it.Weight ++ num 97 it.Amount = tg ++ AbH it.Ref ++ O4 it := by
      simp [O4]
    rw [hb]
    have hnl := Pn hi
    have htx := hi.text
    have htl2 := Uw (t := it.Text)
    generalize hbb : tg ++ AbH it.Ref ++ O4 it = b
    have hbl : b.length ≤ 400 := by rw [← hbb]; simp only [List.length_append]; omega
    have htext : (if (!(it.Text == (([] : List UInt8)))) = true then
        (A1 ((120 : UInt8)) (({ addr := (), buf := b } : Strings_Builder))).bind fun y_765 =>
        (Hn (({ addr := (), buf := y_765.buf } : Strings_Builder)) it.Text).bind fun y_767 =>
        some y_767.buf
      else
        some b : Option (List UInt8)) = some (b ++ Rk it.Text) := by
      unfold Rk
      by_cases h0 : it.Text = []
      · rw [if_pos h0, if_neg (by simp [h0])]; simp
      · rw [if_neg h0, if_pos (by simp [h0]), Afn (by omega), Option.bind_some]
        simp only
        rw [AdH (by simp; omega), Option.bind_some]
        simp
    rw [htext, Option.bind_some, AbA hi (by simp only [List.length_append]; omega), Option.bind_some, Option.bind_some]
    have hpl := Kb hi.part
    have hpp := hi.parts
    rw [B1 (by simp only [List.length_append]; omega), Option.bind_some]
    simp only
    have hm : b ++ Rk it.Text ++ it.Parts.flatMap Ha ++ [39] = msg it := by
      rw [← hbb, ← ht]; rfl
    rw [hm]
    have hml : (msg it).length ≤ 500000 := by rw [← hm]; simp only [List.length_append, List.length_singleton]; omega
    by_cases hbig : (msg it).length > 65536
    · rw [if_pos (decide_eq_true (by omega)), if_pos hbig]
    · rw [if_neg (by simp; omega), if_neg hbig, if_pos (by rw [← hm]; simp), if_pos (Qk (by omega))]
  · rw [if_neg hk]
    by_cases h1 : it.Kind < 1
    · simp [h1]
    · have h2 : it.Kind ≥ 16 := by omega
      simp [h1, h2]
def lets : List UInt8 := [119, 112, 111, 110, 102, 116, 99, 100, 107, 103, 97]
def Ga (it : Api_Item) : List (UInt8 × Int) := [(119, it.Wagon), (112, it.Place), (111, it.Other), (110, it.Number), (102, it.From), (116, it.To), (99, it.Code), (100, it.Dest), (107, it.Class), (103, it.Weight), (97, it.Amount)]
theorem Aa0 (it : Api_Item) : (Ga it).flatMap (fun p => num p.1 p.2) = O4 it := by
  simp [Ga, O4]
theorem Le {n : Nat} (h : n ≤ 1000000) : Mi n := K3 h
theorem Uh {it : Api_Item} (hi : OkItem it) {k : Nat} (hk : k < 11) : ∃ c n, (Ga it)[k]? = some (c, n) ∧ I64 n ∧ Fy it (nth lets k) = some n ∧ (lets.drop k).take (k + 1 - k) = [c] := by
  obtain ⟨h1, h2, h3, h4, h5, h6, h7, h8, h9, h10, h11⟩ := hi.nums
  have : k = 0 ∨ k = 1 ∨ k = 2 ∨ k = 3 ∨ k = 4 ∨ k = 5 ∨ k = 6 ∨ k = 7 ∨ k = 8 ∨ k = 9 ∨ k = 10 := by omega
  rcases this with rfl | rfl | rfl | rfl | rfl | rfl | rfl | rfl | rfl | rfl | rfl
  · exact ⟨_, _, rfl, h1, rfl, rfl⟩
  · exact ⟨_, _, rfl, h2, rfl, rfl⟩
  · exact ⟨_, _, rfl, h3, rfl, rfl⟩
  · exact ⟨_, _, rfl, h4, rfl, rfl⟩
  · exact ⟨_, _, rfl, h5, rfl, rfl⟩
  · exact ⟨_, _, rfl, h6, rfl, rfl⟩
  · exact ⟨_, _, rfl, h7, rfl, rfl⟩
  · exact ⟨_, _, rfl, h8, rfl, rfl⟩
  · exact ⟨_, _, rfl, h9, rfl, rfl⟩
  · exact ⟨_, _, rfl, h10, rfl, rfl⟩
  · exact ⟨_, _, rfl, h11, rfl, rfl⟩
theorem Us {it : Api_Item} (hi : OkItem it) (k : Nat) : (((Ga it).take k).flatMap (fun p => num p.1 p.2)).length ≤ 253 := by
  have h := Pn hi
  rw [← Aa0] at h
  have e : (Ga it) = (Ga it).take k ++ (Ga it).drop k := (List.take_append_drop _ _).symm
  rw [e, List.flatMap_append, List.length_append] at h
  omega
theorem Aex {it : Api_Item} (hi : OkItem it) {l : List UInt8} (hl : l.length ≤ 400) : Cx (fun (v : List UInt8 × Int) => Dg it v.1 v.2) (l, 0) = some (l ++ O4 it) := by
  obtain ⟨x, hx, rfl⟩ := Dq (f := fun (v : List UInt8 × Int) => Dg it v.1 v.2) 11 (fun k v => v = (l ++ ((Ga it).take k).flatMap (fun p => num p.1 p.2), (k : Int))) (fun x => x = l ++ O4 it) (by omega) (by
      rintro k v hk rfl
      refine ⟨_, ?_, rfl⟩
      obtain ⟨c, n, f1, f2, f3, f4⟩ := Uh hi hk
      have ht : (Ga it).take (k + 1) = (Ga it).take k ++ [(c, n)] := by rw [List.take_add_one, f1]; rfl
      have hl2 := Us hi k
      unfold Dg
      rw [if_pos (decide_eq_true (by omega)), if_pos ⟨by omega, by simp; omega⟩, Cr (by omega), ht, List.flatMap_append, ← List.append_assoc]
      simp only [Int.toNat_natCast]
      have f3' : Fy it (nth [119, 112, 111, 110, 102, 116, 99, 100, 107, 103, 97] k) = some n := f3
      have f4' : (List.drop k [119, 112, 111, 110, 102, 116, 99, 100, 107, 103, 97]).take (k + 1 - k) = [c] := f4
      have hbl : (l ++ ((Ga it).take k).flatMap (fun p => num p.1 p.2)).length ≤ 700 := by rw [List.length_append]; omega
      generalize l ++ ((Ga it).take k).flatMap (fun p => num p.1 p.2) = b at hbl ⊢
      rw [f3', Option.bind_some, f4']
      have hil := Bz f2.1 f2.2
      by_cases h0 : n = 0
      · subst h0; simp [num]
      · rw [if_pos (by simpa using h0), if_pos (Le (by omega)), if_pos ⟨by omega, by simp; omega⟩, if_pos ⟨by omega, by simp⟩, if_pos (Le (by simp; omega)), I1 f2.1 f2.2, Option.bind_some, if_pos (Le (by simp; omega))]
        simp [lt1, num, h0]) (by
      rintro v rfl
      refine ⟨_, ?_, rfl⟩
      unfold Dg
      rw [if_neg (by simp)]
      have : (Ga it).take 11 = Ga it := rfl
      simp only [this, Aa0]) (v0 := (l, 0)) (by simp)
  exact hx
theorem X1 {x : Api_Part} (h : I64 x.Kind ∧ I64 x.Serial) : F5 x = some (Lib.itoa x.Kind ++ [46] ++ Lib.itoa x.Serial ++ (if x.Fitted then [46, 49] else [46, 48])) := by
  have h1 := Bz h.1.1 h.1.2
  have h2 := Bz h.2.1 h.2.2
  unfold F5
  rw [I1 h.1.1 h.1.2, Option.bind_some, if_pos (Le (by omega)), I1 h.2.1 h.2.2, Option.bind_some, if_pos (Le (by simp; omega))]
  simp only [lt1]
  cases x.Fitted
  · rw [if_neg (by simp), if_pos (Le (by simp; omega))]; rfl
  · rw [if_pos rfl, if_pos (Le (by simp; omega))]; rfl
theorem W4 {it : Api_Item} (hi : OkItem it) {l : List UInt8} (hl : l.length ≤ 400000) : Cx (fun (v : List UInt8 × Int) => Dh it v.1 v.2) (l, 0) = some (l ++ it.Parts.flatMap Ha) := by
  obtain ⟨x, hx, rfl⟩ := Dq (f := fun (v : List UInt8 × Int) => Dh it v.1 v.2) it.Parts.length (fun k v => v = (l ++ (it.Parts.take k).flatMap Ha, (k : Int))) (fun x => x = l ++ it.Parts.flatMap Ha) (by have := hi.parts; omega) (by
      rintro k v hk rfl
      refine ⟨_, ?_, rfl⟩
      have hp := hi.parts
      have hl2 : (l ++ (it.Parts.take k).flatMap Ha).length ≤ 500000 := by
        have := Kb (l := it.Parts.take k) (fun x hx => hi.part x (List.mem_of_mem_take hx))
        simp only [List.length_append, List.length_take] at this ⊢
        omega
      have hin : InR (k : Int) it.Parts.length := ⟨by omega, by simpa using hk⟩
      have hpt := hi.part _ (Nt hk)
      have hpl := Abc hpt
      unfold Dh
      rw [if_pos (decide_eq_true (by omega)), Cr (by omega), Sv _ k hk, ← List.append_assoc]
      simp only [Int.toNat_natCast, lt1]
      generalize l ++ (it.Parts.take k).flatMap Ha = b at hl2 ⊢
      rw [if_pos (Le (by omega)), if_pos hin, X1 hpt, Option.bind_some]
      have e : b ++ [43, 113] ++ (Lib.itoa (nth it.Parts k).Kind ++ [46] ++ Lib.itoa (nth it.Parts k).Serial ++ (if (nth it.Parts k).Fitted then [46, 49] else [46, 48])) = b ++ Ha (nth it.Parts k) := by
        simp [Ha]
      rw [if_pos (Le (by rw [← List.length_append, e, List.length_append]; omega)), e]) (by
      rintro v rfl
      refine ⟨_, ?_, rfl⟩
      unfold Dh
      rw [if_neg (by simp)]
      simp) (v0 := (l, 0)) (by simp)
  exact hx
theorem AbD : ∀ k : Fin 15, M9 ((k.val : Int) + 1) = some (glob0.get (k.val + 1)) := by decide +kernel
theorem Ahc {k : Int} (h1 : 1 ≤ k) (h2 : k ≤ 15) : M9 k = some (glob0.get k.toNat) := by
  have := AbD ⟨k.toNat - 1, by omega⟩
  simp only at this
  rw [show ((k.toNat - 1 : Nat) : Int) + 1 = k by omega, show k.toNat - 1 + 1 = k.toNat by omega] at this
  exact this
theorem S9 {it : Api_Item} (hi : OkItem it) (h1 : 1 ≤ it.Kind) (h2 : it.Kind ≤ 15) : Dv it = some (msg it) ∧ (msg it).length ≤ 500000 := by
  unfold Dv
  have hkk : it.Kind.toNat < 16 := by omega
  have htl := Aaq ⟨it.Kind.toNat, hkk⟩
  simp only at htl
  rw [Ahc h1 h2, Option.bind_some]
  generalize ht : glob0.get it.Kind.toNat = tg at htl ⊢
  have hrl := Zf hi.ref
  have q1 := Bz hi.ref.1.1 hi.ref.1.2
  have q2 := Bz hi.ref.2.1 hi.ref.2.2
  have href : (if (!((it.Ref.Railway == 0) && (it.Ref.No == 0))) = true then
      if Mi (tg.length + 2) then
        (Dj it.Ref.Railway).bind fun y_4873 =>
        if Mi (((tg ++ (([43, 114] : List UInt8)))).length + y_4873.length) then
          if Mi (((((tg ++ (([43, 114] : List UInt8)))) ++ y_4873)).length + 1) then
            (Dj it.Ref.No).bind fun y_4874 =>
            if Mi (((((((tg ++ (([43, 114] : List UInt8)))) ++ y_4873)) ++ (([46] : List UInt8)))).length + y_4874.length) then
              lt1 ((((((((tg ++ (([43, 114] : List UInt8)))) ++ y_4873)) ++ (([46] : List UInt8)))) ++ y_4874)) fun (s_4884 : List UInt8) =>
              some s_4884
            else none
          else none
        else none
      else none
    else
      some tg : Option (List UInt8)) = some (tg ++ AbH it.Ref) := by
    unfold AbH
    by_cases h0 : it.Ref.Railway = 0 ∧ it.Ref.No = 0
    · rw [if_pos h0, if_neg (by simp [h0.1, h0.2])]; simp
    · rw [if_neg h0, if_pos (by simp; omega), if_pos (Le (by omega)), I1 hi.ref.1.1 hi.ref.1.2, Option.bind_some, if_pos (Le (by simp; omega)), if_pos (Le (by simp; omega)), I1 hi.ref.2.1 hi.ref.2.2, Option.bind_some, if_pos (Le (by simp; omega))]
      simp [lt1]
  rw [href, Option.bind_some, Aex hi (by rw [List.length_append]; omega), Option.bind_some, Option.bind_some]
  have hnl := Pn hi
  have htx := hi.text
  have htl2 := Uw (t := it.Text)
  generalize hbb : tg ++ AbH it.Ref ++ O4 it = b
  have hbl : b.length ≤ 400 := by rw [← hbb]; simp only [List.length_append]; omega
  have htext : (if (!(it.Text == (([] : List UInt8)))) = true then
      if Mi (b.length + 2) then
        (Gg it.Text).bind fun y_5133 =>
        if Mi (((b ++ (([43, 120] : List UInt8)))).length + y_5133.length) then
          lt1 ((((b ++ (([43, 120] : List UInt8)))) ++ y_5133)) fun (s_5138 : List UInt8) =>
          some s_5138
        else none
      else none
    else
      some b : Option (List UInt8)) = some (b ++ Rk it.Text) := by
    have he := Mf it.Text
    unfold Rk
    by_cases h0 : it.Text = []
    · rw [if_pos h0, if_neg (by simp [h0])]; simp
    · rw [if_neg h0, if_pos (by simp [h0]), if_pos (Le (by omega)), AcC (by omega), Option.bind_some, if_pos (Le (by simp; omega))]
      simp [lt1]
  rw [htext, Option.bind_some, W4 hi (by simp only [List.length_append]; omega), Option.bind_some, Option.bind_some]
  have hpl := Kb hi.part
  have hpp := hi.parts
  have hm : b ++ Rk it.Text ++ it.Parts.flatMap Ha ++ [39] = msg it := by
    rw [← hbb, ← ht]; rfl
  rw [if_pos (Le (by simp only [List.length_append]; omega)), hm]
  exact ⟨rfl, by rw [← hm]; simp only [List.length_append, List.length_singleton]; omega⟩
theorem AeD {n : Nat} (h : n ≤ 2100000) : F9 n 64 := ⟨Nat.le_trans h (by decide), Nat.le_trans (Nat.mul_le_mul_right 64 h) (by decide)⟩
def iV (n : Int) : Api_Value := Api_Value.mk 1 n [] []
def tV (s : List UInt8) : Api_Value := Api_Value.mk 2 0 s []
def lV (l : List Api_Value) : Api_Value := Api_Value.mk 3 0 [] l
def Q4 (x : Api_Part) : Api_Value := lV [iV x.Kind, iV x.Serial, iV (if x.Fitted = true then 1 else 0)]
def AiF (it : Api_Item) : List Api_Value := [iV it.Kind, lV [iV it.Ref.Railway, iV it.Ref.No], iV it.Wagon, iV it.Place, iV it.Other, iV it.Number, iV it.From, iV it.To, iV it.Code, iV it.Dest, iV it.Class, iV it.Weight, iV it.Amount]
def val (it : Api_Item) : Api_Value := lV (AiF it ++ [tV it.Text, lV (it.Parts.map Q4)])
theorem map_take {α β : Type} [Inhabited α] (f : α → β) (l : List α) (k : Nat) (hk : k < l.length) : (l.take (k + 1)).map f = (l.take k).map f ++ [f (nth l k)] := by
  have h : l.take (k + 1) = l.take k ++ [nth l k] := by
    rw [List.take_add_one, List.getElem?_eq_getElem hk]
    simp [nth, List.getElem?_eq_getElem hk]
  rw [h]; simp
theorem AhG {it : Api_Item} (hp : it.Parts.length ≤ 2000000) : Cx (fun (v : Int × List Api_Value) => Ed it v.1 v.2) (0, []) = some (it.Parts.map Q4) := by
  obtain ⟨x, hx, rfl⟩ := Dq (f := fun (v : Int × List Api_Value) => Ed it v.1 v.2) it.Parts.length (fun k v => v = ((k : Int), (it.Parts.take k).map Q4)) (fun x => x = it.Parts.map Q4) (by omega) (by
      rintro k v hk rfl
      refine ⟨_, ?_, rfl⟩
      have hin : InR (k : Int) it.Parts.length := ⟨by omega, by simpa using hk⟩
      unfold Ed
      rw [if_pos (decide_eq_true (by omega)), if_pos hin, Cr (by omega), map_take _ _ k hk]
      simp only [Int.toNat_natCast, lt1]
      have e : (if (nth it.Parts k).Fitted = true then some 1 else some 0 : Option Int) = some (if (nth it.Parts k).Fitted = true then 1 else 0) := by split <;> rfl
      rw [e]
      simp only [Option.bind_some, Bc, Em]
      rw [if_pos (AeD (by simp; omega))]
      rfl) (by
      rintro v rfl
      refine ⟨_, ?_, rfl⟩
      unfold Ed
      rw [if_neg (by simp)]
      simp) (v0 := (0, [])) (by simp)
  exact hx
theorem Abi {it : Api_Item} (hp : it.Parts.length ≤ 2000000) : Gy it = some (val it) := by
  unfold Gy
  simp only [Option.bind_some, Bc, Em, H7, edi_list_cnil, Pb, lt1, AhG hp]
  repeat rw [if_pos (AeD (by simp))]
  simp only [Option.bind_some]
  rw [if_pos (AeD (by simp))]
  rfl
theorem Tj : law11_sane = some true := by decide +kernel
structure Ints (it : Api_Item) : Prop where
  kind : I64 it.Kind
  ref : I64 it.Ref.Railway ∧ I64 it.Ref.No
  nums : I64 it.Wagon ∧ I64 it.Place ∧ I64 it.Other ∧ I64 it.Number ∧ I64 it.From ∧ I64 it.To ∧ I64 it.Code ∧ I64 it.Dest ∧ I64 it.Class ∧ I64 it.Weight ∧ I64 it.Amount
  part : ∀ x ∈ it.Parts, I64 x.Kind ∧ I64 x.Serial
theorem Ints.ok {it : Api_Item} (h : Ints it) (ht : it.Text.length ≤ 2000) (hp : it.Parts.length ≤ 20) : OkItem it := ⟨h.kind, h.ref, h.nums, by omega, by omega, h.part⟩
theorem T3 (it : Api_Item) : E2 it = some (decide (it.Text.length ≤ 2000 ∧ it.Parts.length ≤ 20)) := by
  unfold E2
  by_cases h1 : it.Text.length ≤ 2000
  · by_cases h2 : it.Parts.length ≤ 20
    · rw [if_pos (decide_eq_true (by omega)), Option.bind_some, decide_eq_true (show (it.Parts.length : Int) ≤ 20 by omega)]; simp [h1, h2]
    · rw [if_pos (decide_eq_true (by omega)), Option.bind_some, decide_eq_false (show ¬(it.Parts.length : Int) ≤ 20 by omega)]; simp [h2]
  · rw [if_neg (by simp; omega), Option.bind_some]; simp [h1]
end Go.Proofs.YtnfoiocigicdnaaGreatDoor
