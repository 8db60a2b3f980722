/-
  Part 40.
-/
import Derived.Test.YtnfoiocigicdnaaGreatDoorProg
import Derived.Test.YtnfoiocigicdnaaGreatDoorYH39
namespace Go.Proofs.YtnfoiocigicdnaaGreatDoor
open Go.Rv
set_option linter.unusedVariables false
set_option linter.unusedSimpArgs false
set_option maxRecDepth 20000
def glob0 : Arr (List UInt8) 16:=⟨[[],[82,69,65,68],[83,84,65,89],[68,69,76,73,86,69,82],[82,69,67,69,73,86,69],[87,65,89,66,73,76,76],[80,76,65,67,69,68],[82,69,76,69,65,83,69,68],[68,65,77,65,71,69,68],[82,69,80,65,73,82,69,68],[82,69,67,65,76,76],[84,65,82,73,70,70],[65,77,69,78,68],[67,65,78,67,69,76],[82,69,84,82,65,67,84],[79,82,68,69,82]],rfl⟩
attribute [go_sem_proc] reduceIte Nat.reduceLT Nat.reduceEqDiff Nat.reduceAdd Nat.reduceBEq Nat.reduceMul Nat.reduceSub Nat.reduceGT Nat.reducePow Nat.reduceLeDiff Int.reduceToNat Int.reduceLT Int.reduceAdd Int.reduceSub Nat.reduceGT Nat.reduceLeDiff Int.reduceBEq Int.reduceGT Int.reduceLE Int.reduceGE
attribute [go_sem] ArJ decide_true decide_false Bool.false_eq_true beq_self_eq_true
noncomputable def B : Base:=Afe Tryz.prog (fun i => if i = 0 then some (C1 AV.str glob0.l) else if i = 7 then some [.iface 248 .junk] else if i = 8 then some [.iface 248 .junk] else none) (fun f xs => [46,47,49,50,51,52,53,54,59,68,71,81,83,84,85,86,88,99,116,117,118,119,120,121,122,123,124,125,127,153].contains f || (f == 29 && hdT [64] xs) || (f == 31 && hdT [56] xs)) (fun _ => none) (fun i => if i = 4 then some ((Lib.pow10Tab).map fun z => Value.int .u64 z).toArray else none) (some 108) true (fun _ _ => rfl)
theorem tbk {t F x} (h : Tb Tryz.prog t = x) : (B.env F).tab t = x:=(Rf Tryz.prog t).trans h
theorem ok : B.Ok:=Add _ _ _ _ _ _ _ _
theorem lm0 (F : Addr→Prop) : (B.env F).lm = true:=rfl
theorem own3 (F : Addr→Prop) (xs : List Operand) : (B.env F).own 3 xs = false:=rfl
theorem own4 (F : Addr→Prop) (xs : List Operand) : (B.env F).own 4 xs = false:=rfl
theorem own5 (F : Addr→Prop) (xs : List Operand) : (B.env F).own 5 xs = false:=rfl
theorem own6 (F : Addr→Prop) (xs : List Operand) : (B.env F).own 6 xs = false:=rfl
theorem own7 (F : Addr→Prop) (xs : List Operand) : (B.env F).own 7 xs = false:=rfl
theorem own8 (F : Addr→Prop) (xs : List Operand) : (B.env F).own 8 xs = false:=rfl
theorem own9 (F : Addr→Prop) (xs : List Operand) : (B.env F).own 9 xs = false:=rfl
theorem Aqz (F : Addr→Prop) (xs : List Operand) : (B.env F).own 10 xs = false:=rfl
theorem Ard (F : Addr→Prop) (xs : List Operand) : (B.env F).own 11 xs = false:=rfl
theorem ApW (F : Addr→Prop) (xs : List Operand) : (B.env F).own 12 xs = false:=rfl
theorem Aqh (F : Addr→Prop) (xs : List Operand) : (B.env F).own 13 xs = false:=rfl
theorem Arx (F : Addr→Prop) (xs : List Operand) : (B.env F).own 14 xs = false:=rfl
theorem Aqj (F : Addr→Prop) (xs : List Operand) : (B.env F).own 15 xs = false:=rfl
theorem Aso (F : Addr→Prop) (xs : List Operand) : (B.env F).own 16 xs = false:=rfl
theorem Asb (F : Addr→Prop) (xs : List Operand) : (B.env F).own 17 xs = false:=rfl
theorem Aq7 (F : Addr→Prop) (xs : List Operand) : (B.env F).own 18 xs = false:=rfl
theorem AqE (F : Addr→Prop) (xs : List Operand) : (B.env F).own 19 xs = false:=rfl
theorem Aqn (F : Addr→Prop) (xs : List Operand) : (B.env F).own 20 xs = false:=rfl
theorem Arh (F : Addr→Prop) (xs : List Operand) : (B.env F).own 21 xs = false:=rfl
theorem Apz (F : Addr→Prop) (xs : List Operand) : (B.env F).own 22 xs = false:=rfl
theorem Aqr (F : Addr→Prop) (xs : List Operand) : (B.env F).own 23 xs = false:=rfl
theorem Aqq (F : Addr→Prop) (xs : List Operand) : (B.env F).own 24 xs = false:=rfl
theorem AqK (F : Addr→Prop) (xs : List Operand) : (B.env F).own 25 xs = false:=rfl
theorem Aqm (F : Addr→Prop) (xs : List Operand) : (B.env F).own 26 xs = false:=rfl
theorem ApJ (F : Addr→Prop) (xs : List Operand) : (B.env F).own 27 xs = false:=rfl
theorem Aqv (F : Addr→Prop) (xs : List Operand) : (B.env F).own 28 xs = false:=rfl
theorem Arl (F : Addr→Prop) (xs : List Operand) : (B.env F).own 30 xs = false:=rfl
theorem ApE (F : Addr→Prop) (xs : List Operand) : (B.env F).own 32 xs = false:=rfl
theorem Aq2 (F : Addr→Prop) (xs : List Operand) : (B.env F).own 33 xs = false:=rfl
theorem ArB (F : Addr→Prop) (xs : List Operand) : (B.env F).own 34 xs = false:=rfl
theorem Ap4 (F : Addr→Prop) (xs : List Operand) : (B.env F).own 35 xs = false:=rfl
theorem AqT (F : Addr→Prop) (xs : List Operand) : (B.env F).own 36 xs = false:=rfl
theorem Aql (F : Addr→Prop) (xs : List Operand) : (B.env F).own 37 xs = false:=rfl
theorem Ar6 (F : Addr→Prop) (xs : List Operand) : (B.env F).own 38 xs = false:=rfl
theorem Aqb (F : Addr→Prop) (xs : List Operand) : (B.env F).own 39 xs = false:=rfl
theorem Aq8 (F : Addr→Prop) (xs : List Operand) : (B.env F).own 40 xs = false:=rfl
theorem Asl (F : Addr→Prop) (xs : List Operand) : (B.env F).own 41 xs = false:=rfl
theorem Aq6 (F : Addr→Prop) (xs : List Operand) : (B.env F).own 42 xs = false:=rfl
theorem Asi (F : Addr→Prop) (xs : List Operand) : (B.env F).own 43 xs = false:=rfl
theorem AqF (F : Addr→Prop) (xs : List Operand) : (B.env F).own 44 xs = false:=rfl
theorem Ar4 (F : Addr→Prop) (xs : List Operand) : (B.env F).own 45 xs = false:=rfl
theorem Aq1 (F : Addr→Prop) (xs : List Operand) : (B.env F).own 46 xs = true:=rfl
theorem Apw (F : Addr→Prop) (xs : List Operand) : (B.env F).own 47 xs = true:=rfl
theorem Ary (F : Addr→Prop) (xs : List Operand) : (B.env F).own 48 xs = false:=rfl
theorem ApZ (F : Addr→Prop) (xs : List Operand) : (B.env F).own 49 xs = true:=rfl
theorem Arb (F : Addr→Prop) (xs : List Operand) : (B.env F).own 50 xs = true:=rfl
theorem AqZ (F : Addr→Prop) (xs : List Operand) : (B.env F).own 51 xs = true:=rfl
theorem ApF (F : Addr→Prop) (xs : List Operand) : (B.env F).own 52 xs = true:=rfl
theorem Apv (F : Addr→Prop) (xs : List Operand) : (B.env F).own 53 xs = true:=rfl
theorem ArC (F : Addr→Prop) (xs : List Operand) : (B.env F).own 54 xs = true:=rfl
theorem Arj (F : Addr→Prop) (xs : List Operand) : (B.env F).own 55 xs = false:=rfl
theorem Aq4 (F : Addr→Prop) (xs : List Operand) : (B.env F).own 56 xs = false:=rfl
theorem AqN (F : Addr→Prop) (xs : List Operand) : (B.env F).own 57 xs = false:=rfl
theorem AqU (F : Addr→Prop) (xs : List Operand) : (B.env F).own 58 xs = false:=rfl
theorem Asm (F : Addr→Prop) (xs : List Operand) : (B.env F).own 59 xs = true:=rfl
theorem Aqo (F : Addr→Prop) (xs : List Operand) : (B.env F).own 60 xs = false:=rfl
theorem Aqk (F : Addr→Prop) (xs : List Operand) : (B.env F).own 61 xs = false:=rfl
theorem Aqx (F : Addr→Prop) (xs : List Operand) : (B.env F).own 62 xs = false:=rfl
theorem Ari (F : Addr→Prop) (xs : List Operand) : (B.env F).own 63 xs = false:=rfl
theorem Aqc (F : Addr→Prop) (xs : List Operand) : (B.env F).own 64 xs = false:=rfl
theorem Art (F : Addr→Prop) (xs : List Operand) : (B.env F).own 65 xs = false:=rfl
theorem Asu (F : Addr→Prop) (xs : List Operand) : (B.env F).own 66 xs = false:=rfl
theorem App (F : Addr→Prop) (xs : List Operand) : (B.env F).own 67 xs = false:=rfl
theorem Ass (F : Addr→Prop) (xs : List Operand) : (B.env F).own 68 xs = true:=rfl
theorem AqV (F : Addr→Prop) (xs : List Operand) : (B.env F).own 69 xs = false:=rfl
theorem Arv (F : Addr→Prop) (xs : List Operand) : (B.env F).own 70 xs = false:=rfl
theorem AqS (F : Addr→Prop) (xs : List Operand) : (B.env F).own 71 xs = true:=rfl
theorem Ar2 (F : Addr→Prop) (xs : List Operand) : (B.env F).own 72 xs = false:=rfl
theorem AqD (F : Addr→Prop) (xs : List Operand) : (B.env F).own 73 xs = false:=rfl
theorem Aqa (F : Addr→Prop) (xs : List Operand) : (B.env F).own 74 xs = false:=rfl
theorem ApT (F : Addr→Prop) (xs : List Operand) : (B.env F).own 75 xs = false:=rfl
theorem ArS (F : Addr→Prop) (xs : List Operand) : (B.env F).own 76 xs = false:=rfl
theorem ApM (F : Addr→Prop) (xs : List Operand) : (B.env F).own 77 xs = false:=rfl
theorem Asd (F : Addr→Prop) (xs : List Operand) : (B.env F).own 78 xs = false:=rfl
theorem Ar0 (F : Addr→Prop) (xs : List Operand) : (B.env F).own 79 xs = false:=rfl
theorem Apn (F : Addr→Prop) (xs : List Operand) : (B.env F).own 80 xs = false:=rfl
theorem Apu (F : Addr→Prop) (xs : List Operand) : (B.env F).own 81 xs = true:=rfl
theorem Asc (F : Addr→Prop) (xs : List Operand) : (B.env F).own 83 xs = true:=rfl
theorem Ara (F : Addr→Prop) (xs : List Operand) : (B.env F).own 84 xs = true:=rfl
theorem AqJ (F : Addr→Prop) (xs : List Operand) : (B.env F).own 85 xs = true:=rfl
theorem ApH (F : Addr→Prop) (xs : List Operand) : (B.env F).own 86 xs = true:=rfl
theorem AqG (F : Addr→Prop) (xs : List Operand) : (B.env F).own 87 xs = false:=rfl
theorem ArV (F : Addr→Prop) (xs : List Operand) : (B.env F).own 88 xs = true:=rfl
theorem ArI (F : Addr→Prop) (xs : List Operand) : (B.env F).own 89 xs = false:=rfl
theorem ApC (F : Addr→Prop) (xs : List Operand) : (B.env F).own 90 xs = false:=rfl
theorem Apm (F : Addr→Prop) (xs : List Operand) : (B.env F).own 91 xs = false:=rfl
theorem Aqi (F : Addr→Prop) (xs : List Operand) : (B.env F).own 92 xs = false:=rfl
theorem Arp (F : Addr→Prop) (xs : List Operand) : (B.env F).own 93 xs = false:=rfl
theorem Ase (F : Addr→Prop) (xs : List Operand) : (B.env F).own 94 xs = false:=rfl
theorem Aqe (F : Addr→Prop) (xs : List Operand) : (B.env F).own 95 xs = false:=rfl
theorem Asq (F : Addr→Prop) (xs : List Operand) : (B.env F).own 96 xs = false:=rfl
theorem ArU (F : Addr→Prop) (xs : List Operand) : (B.env F).own 97 xs = false:=rfl
theorem ApP (F : Addr→Prop) (xs : List Operand) : (B.env F).own 98 xs = false:=rfl
theorem ApQ (F : Addr→Prop) (xs : List Operand) : (B.env F).own 99 xs = true:=rfl
theorem Am2 (F : Addr→Prop) (xs : List Operand) : (B.env F).own 101 xs = false:=rfl
theorem Ald (F : Addr→Prop) (xs : List Operand) : (B.env F).own 102 xs = false:=rfl
theorem Aoo (F : Addr→Prop) (xs : List Operand) : (B.env F).own 103 xs = false:=rfl
theorem Alm (F : Addr→Prop) (xs : List Operand) : (B.env F).own 104 xs = false:=rfl
theorem AmX (F : Addr→Prop) (xs : List Operand) : (B.env F).own 105 xs = false:=rfl
theorem AlB (F : Addr→Prop) (xs : List Operand) : (B.env F).own 106 xs = false:=rfl
theorem Amu (F : Addr→Prop) (xs : List Operand) : (B.env F).own 107 xs = false:=rfl
theorem Alj (F : Addr→Prop) (xs : List Operand) : (B.env F).own 108 xs = false:=rfl
theorem AlH (F : Addr→Prop) (xs : List Operand) : (B.env F).own 109 xs = false:=rfl
theorem And (F : Addr→Prop) (xs : List Operand) : (B.env F).own 110 xs = false:=rfl
theorem AlD (F : Addr→Prop) (xs : List Operand) : (B.env F).own 111 xs = false:=rfl
theorem Amm (F : Addr→Prop) (xs : List Operand) : (B.env F).own 112 xs = false:=rfl
theorem AlC (F : Addr→Prop) (xs : List Operand) : (B.env F).own 113 xs = false:=rfl
theorem Anb (F : Addr→Prop) (xs : List Operand) : (B.env F).own 114 xs = false:=rfl
theorem AmI (F : Addr→Prop) (xs : List Operand) : (B.env F).own 115 xs = false:=rfl
theorem Aoc (F : Addr→Prop) (xs : List Operand) : (B.env F).own 116 xs = true:=rfl
theorem An0 (F : Addr→Prop) (xs : List Operand) : (B.env F).own 117 xs = true:=rfl
theorem AmF (F : Addr→Prop) (xs : List Operand) : (B.env F).own 118 xs = true:=rfl
theorem AlV (F : Addr→Prop) (xs : List Operand) : (B.env F).own 119 xs = true:=rfl
theorem An7 (F : Addr→Prop) (xs : List Operand) : (B.env F).own 120 xs = true:=rfl
theorem Amo (F : Addr→Prop) (xs : List Operand) : (B.env F).own 121 xs = true:=rfl
theorem An9 (F : Addr→Prop) (xs : List Operand) : (B.env F).own 122 xs = true:=rfl
theorem AoC (F : Addr→Prop) (xs : List Operand) : (B.env F).own 123 xs = true:=rfl
theorem AmW (F : Addr→Prop) (xs : List Operand) : (B.env F).own 124 xs = true:=rfl
theorem AlS (F : Addr→Prop) (xs : List Operand) : (B.env F).own 125 xs = true:=rfl
theorem AmQ (F : Addr→Prop) (xs : List Operand) : (B.env F).own 126 xs = false:=rfl
theorem AlW (F : Addr→Prop) (xs : List Operand) : (B.env F).own 127 xs = true:=rfl
theorem Ana (F : Addr→Prop) (xs : List Operand) : (B.env F).own 128 xs = false:=rfl
theorem Ao1 (F : Addr→Prop) (xs : List Operand) : (B.env F).own 129 xs = false:=rfl
theorem Al4 (F : Addr→Prop) (xs : List Operand) : (B.env F).own 130 xs = false:=rfl
theorem AnP (F : Addr→Prop) (xs : List Operand) : (B.env F).own 131 xs = false:=rfl
theorem AoO (F : Addr→Prop) (xs : List Operand) : (B.env F).own 132 xs = false:=rfl
theorem Aoi (F : Addr→Prop) (xs : List Operand) : (B.env F).own 133 xs = false:=rfl
theorem AoD (F : Addr→Prop) (xs : List Operand) : (B.env F).own 134 xs = false:=rfl
theorem AlP (F : Addr→Prop) (xs : List Operand) : (B.env F).own 135 xs = false:=rfl
theorem AoM (F : Addr→Prop) (xs : List Operand) : (B.env F).own 136 xs = false:=rfl
theorem AmY (F : Addr→Prop) (xs : List Operand) : (B.env F).own 137 xs = false:=rfl
theorem AmP (F : Addr→Prop) (xs : List Operand) : (B.env F).own 138 xs = false:=rfl
theorem AmB (F : Addr→Prop) (xs : List Operand) : (B.env F).own 139 xs = false:=rfl
theorem An4 (F : Addr→Prop) (xs : List Operand) : (B.env F).own 142 xs = false:=rfl
theorem Als (F : Addr→Prop) (xs : List Operand) : (B.env F).own 143 xs = false:=rfl
theorem AnT (F : Addr→Prop) (xs : List Operand) : (B.env F).own 145 xs = false:=rfl
theorem An8 (F : Addr→Prop) (xs : List Operand) : (B.env F).own 146 xs = false:=rfl
theorem AmD (F : Addr→Prop) (xs : List Operand) : (B.env F).own 147 xs = false:=rfl
theorem AnM (F : Addr→Prop) (xs : List Operand) : (B.env F).own 149 xs = false:=rfl
theorem AlE (F : Addr→Prop) (xs : List Operand) : (B.env F).own 150 xs = false:=rfl
theorem AoT (F : Addr→Prop) (xs : List Operand) : (B.env F).own 151 xs = false:=rfl
theorem Aoy (F : Addr→Prop) (xs : List Operand) : (B.env F).own 152 xs = false:=rfl
theorem Aly (F : Addr→Prop) (xs : List Operand) : (B.env F).own 153 xs = true:=rfl
theorem Amr (F : Addr→Prop) (xs : List Operand) : (B.env F).own 154 xs = false:=rfl
theorem Ak8 (F : Addr→Prop) (xs : List Operand) : (B.env F).own 155 xs = false:=rfl
theorem An5 (F : Addr→Prop) (xs : List Operand) : (B.env F).own 156 xs = false:=rfl
theorem AmT (F : Addr→Prop) (xs : List Operand) : (B.env F).own 157 xs = false:=rfl
theorem Am5 (F : Addr→Prop) (xs : List Operand) : (B.env F).own 165 xs = false:=rfl
theorem Al7 (F : Addr→Prop) (xs : List Operand) : (B.env F).own 166 xs = false:=rfl
theorem AmJ (F : Addr→Prop) (xs : List Operand) : (B.env F).own 170 xs = false:=rfl
theorem AmZ (F : Addr→Prop) (xs : List Operand) : (B.env F).own 171 xs = false:=rfl
theorem AmS (F : Addr→Prop) (xs : List Operand) : (B.env F).own 186 xs = false:=rfl
theorem AgP (F : Addr→Prop) (xs : List Operand) : (B.env F).own 29 (.tmp 45 :: xs) = false:=rfl
theorem Af6 (F : Addr→Prop) (xs : List Operand) : (B.env F).own 29 (.tmp 64 :: xs) = true:=rfl
theorem AgI (F : Addr→Prop) (xs : List Operand) : (B.env F).own 31 (.tmp 56 :: xs) = true:=rfl
theorem AhV (F : Addr→Prop) (xs : List Operand) : (B.env F).own 31 (.tmp 65 :: xs) = false:=rfl
theorem mixed : Tryz.prog.follows .mixedOrders = true:=by kernel_rfl
structure Strings_Builder where
 addr : Unit
 buf : List UInt8
 deriving DecidableEq,Inhabited
def Qr (x : Strings_Builder) : List AV:=[.val (.pointer none),.sl false (L cU8 x.buf)]
structure Api_Ref where
 Za : Int
 No : Int
 deriving DecidableEq,Inhabited
def Ab9 (x : Api_Ref) : List AV:=[i64 x.Za,i64 x.No]
structure Api_Part where
 Zb : Int
 Zc : Int
 Zd : Bool
 deriving DecidableEq,Inhabited
def Ad (x : Api_Part) : List AV:=[i64 x.Zb,i64 x.Zc,.bool x.Zd]
structure Api_Item where
 Zb : Int
 Ref : Api_Ref
 Ze : Int
 Zf : Int
 Zg : Int
 Zh : Int
 Zi : Int
 To : Int
 Code : Int
 Zj : Int
 Zk : Int
 Zl : Int
 Zm : Int
 Zn : List UInt8
 Zo : List Api_Part
 deriving DecidableEq,Inhabited
def Xp (x : Api_Item) : List AV:=[i64 x.Zb,i64 x.Ref.Za,i64 x.Ref.No,i64 x.Ze,i64 x.Zf,i64 x.Zg,i64 x.Zh,i64 x.Zi,i64 x.To,i64 x.Code,i64 x.Zj,i64 x.Zk,i64 x.Zl,i64 x.Zm,.str x.Zn,.sl false (L Ad x.Zo)]
inductive Api_Value where
 | mk (Zb : Int) (N : Int) (B : List UInt8) (L : List Api_Value)
instance : Inhabited Api_Value:=⟨.mk default default default default⟩
def Api_Value.Zb (x : Api_Value) : Int:=match x with
 | .mk a _ _ _ => a
theorem Uf {x0 : Int} {x1 : Int} {x2 : List UInt8} {x3 : List Api_Value} : (Api_Value.mk x0 x1 x2 x3).Zb = x0:=rfl
def Api_Value.N (x : Api_Value) : Int:=match x with
 | .mk _ a _ _ => a
theorem Abf {x0 : Int} {x1 : Int} {x2 : List UInt8} {x3 : List Api_Value} : (Api_Value.mk x0 x1 x2 x3).N = x1:=rfl
def Api_Value.B (x : Api_Value) : List UInt8:=match x with
 | .mk _ _ a _ => a
theorem Aaz {x0 : Int} {x1 : Int} {x2 : List UInt8} {x3 : List Api_Value} : (Api_Value.mk x0 x1 x2 x3).B = x2:=rfl
def Api_Value.L (x : Api_Value) : List Api_Value:=match x with
 | .mk _ _ _ a => a
theorem AaL {x0 : Int} {x1 : Int} {x2 : List UInt8} {x3 : List Api_Value} : (Api_Value.mk x0 x1 x2 x3).L = x3:=rfl
noncomputable def cApi_Value (v : Api_Value) : List AV:=Api_Value.rec (motive_1:=fun _ => List AV) (motive_2:=fun _ => List (List AV)) (fun Kind_ N_ B_ L_ ih3 => [i64 Kind_,i64 N_,.sl false (L cU8 B_),.sl false ih3]) [] (fun _ _ x l => x :: l) v
theorem Yo (l : List Api_Value) : Api_Value.rec_1 (motive_1:=fun _ => List AV) (motive_2:=fun _ => List (List AV)) (fun Kind_ N_ B_ L_ ih3 => [i64 Kind_,i64 N_,.sl false (L cU8 B_),.sl false ih3]) [] (fun _ _ x l => x :: l) l = L cApi_Value l:=by
  induction l with
  | nil => rfl
  | cons x l ih => exact congrArg (cApi_Value x :: ·) ih
theorem Nx (x : Api_Value) : cApi_Value x = [i64 x.Zb,i64 x.N,.sl false (L cU8 x.B),.sl false (L cApi_Value x.L)]:=by
  cases x with
  | mk a0 a1 a2 a3 =>
    show [i64 a0,i64 a1,.sl false (L cU8 a2),.sl false (Api_Value.rec_1 (motive_1:=fun _ => List AV) (motive_2:=fun _ => List (List AV)) (fun Kind_ N_ B_ L_ ih3 => [i64 Kind_,i64 N_,.sl false (L cU8 B_),.sl false ih3]) [] (fun _ _ x l => x :: l) a3)] = _
    rw [Yo];rfl
structure Codec_decoder where
 b : List UInt8
 deriving DecidableEq,Inhabited
def T8 (x : Codec_decoder) : List AV:=[.sl false (L cU8 x.b)]
structure Api_Deframer where
 Zp : List UInt8
 In : Bool
 Zq : Bool
 Bad : Bool
 deriving DecidableEq,Inhabited
def Wm (x : Api_Deframer) : List AV:=[.sl false (L cU8 x.Zp),.bool x.In,.bool x.Zq,.bool x.Bad]
structure Api_Span where
 Zi : Int
 To : Int
 deriving DecidableEq,Inhabited
def Ov (x : Api_Span) : List AV:=[i64 x.Zi,i64 x.To]
structure Api_Calendar where
 Zr : (Api_Span×Api_Span×Api_Span×Api_Span×Api_Span×Api_Span×Api_Span)
 Zs : List Int
 deriving DecidableEq,Inhabited
def Od (x : Api_Calendar) : List AV:=[i64 x.Zr.1.Zi,i64 x.Zr.1.To,i64 x.Zr.2.1.Zi,i64 x.Zr.2.1.To,i64 x.Zr.2.2.1.Zi,i64 x.Zr.2.2.1.To,i64 x.Zr.2.2.2.1.Zi,i64 x.Zr.2.2.2.1.To,i64 x.Zr.2.2.2.2.1.Zi,i64 x.Zr.2.2.2.2.1.To,i64 x.Zr.2.2.2.2.2.1.Zi,i64 x.Zr.2.2.2.2.2.1.To,i64 x.Zr.2.2.2.2.2.2.Zi,i64 x.Zr.2.2.2.2.2.2.To,.sl false (L Jk x.Zs)]
structure Api_Place where
 Zb : Int
 Za : Int
 Zg : Int
 deriving DecidableEq,Inhabited
def Ah (x : Api_Place) : List AV:=[i64 x.Zb,i64 x.Za,i64 x.Zg]
structure Api_Edge where
 A : Int
 B : Int
 Za : Int
 Zt : Int
 Km : Int
 deriving DecidableEq,Inhabited
def Ak (x : Api_Edge) : List AV:=[i64 x.A,i64 x.B,i64 x.Za,i64 x.Zt,i64 x.Km]
structure Api_Network where
 Zu : List Api_Place
 Zv : List Api_Edge
 deriving DecidableEq,Inhabited
def Qd (x : Api_Network) : List AV:=[.sl false (L Ah x.Zu),.sl false (L Ak x.Zv)]
structure Api_WagonType where
 Zw : Int
 Zx : Int
 Zy : Int
 Zz : Int
 Za1 : Int
 Zb1 : UInt64
 Zc1 : Int
 Zd1 : Int
 deriving DecidableEq,Inhabited
def Aa (x : Api_WagonType) : List AV:=[i64 x.Zw,i64 x.Zx,i64 x.Zy,i64 x.Zz,i64 x.Za1,u64 x.Zb1,i64 x.Zc1,i64 x.Zd1]
structure Api_Wagon where
 Ze1 : Int
 Zf1 : Int
 Zg1 : Int
 Zh1 : Int
 Zi1 : Int
 deriving DecidableEq,Inhabited
def Af (x : Api_Wagon) : List AV:=[i64 x.Ze1,i64 x.Zf1,i64 x.Zg1,i64 x.Zh1,i64 x.Zi1]
structure Api_Swap where
 Zj1 : Int
 Zk1 : Int
 Zl1 : Int
 deriving DecidableEq,Inhabited
def Aj (x : Api_Swap) : List AV:=[i64 x.Zj1,i64 x.Zk1,i64 x.Zl1]
structure Api_Wash where
 Zi : Int
 To : Int
 Zt : Int
 deriving DecidableEq,Inhabited
def Ai (x : Api_Wash) : List AV:=[i64 x.Zi,i64 x.To,i64 x.Zt]
structure Api_Fleet where
 Zm1 : List Api_WagonType
 Zn1 : List Api_Wagon
 Zo1 : List Api_Swap
 Zp1 : List Api_Wash
 deriving DecidableEq,Inhabited
def Vc (x : Api_Fleet) : List AV:=[.sl false (L Aa x.Zm1),.sl false (L Af x.Zn1),.sl false (L Aj x.Zo1),.sl false (L Ai x.Zp1)]
structure Api_Reader where
 Zf : Int
 Low : Int
 Zq1 : Int
 deriving DecidableEq,Inhabited
def Ag (x : Api_Reader) : List AV:=[i64 x.Zf,i64 x.Low,i64 x.Zq1]
structure Api_Shipper where
 Zf : Int
 deriving DecidableEq,Inhabited
def Ae (x : Api_Shipper) : List AV:=[i64 x.Zf]
structure Api_RailwayInfo where
 Key : UInt64
 Zr1 : Api_Calendar
 deriving DecidableEq,Inhabited
def Ab (x : Api_RailwayInfo) : List AV:=[u64 x.Key,i64 x.Zr1.Zr.1.Zi,i64 x.Zr1.Zr.1.To,i64 x.Zr1.Zr.2.1.Zi,i64 x.Zr1.Zr.2.1.To,i64 x.Zr1.Zr.2.2.1.Zi,i64 x.Zr1.Zr.2.2.1.To,i64 x.Zr1.Zr.2.2.2.1.Zi,i64 x.Zr1.Zr.2.2.2.1.To,i64 x.Zr1.Zr.2.2.2.2.1.Zi,i64 x.Zr1.Zr.2.2.2.2.1.To,i64 x.Zr1.Zr.2.2.2.2.2.1.Zi,i64 x.Zr1.Zr.2.2.2.2.2.1.To,i64 x.Zr1.Zr.2.2.2.2.2.2.Zi,i64 x.Zr1.Zr.2.2.2.2.2.2.To,.sl false (L Jk x.Zr1.Zs)]
structure Api_Pool where
 Zs1 : Api_Network
 Zt1 : Api_Fleet
 Zu1 : List Api_Reader
 Zv1 : List Api_Shipper
 Zw1 : List Api_RailwayInfo
 deriving DecidableEq,Inhabited
def Xo (x : Api_Pool) : List AV:=[.sl false (L Ah x.Zs1.Zu),.sl false (L Ak x.Zs1.Zv),.sl false (L Aa x.Zt1.Zm1),.sl false (L Af x.Zt1.Zn1),.sl false (L Aj x.Zt1.Zo1),.sl false (L Ai x.Zt1.Zp1),.sl false (L Ag x.Zu1),.sl false (L Ae x.Zv1),.sl false (L Ab x.Zw1)]
structure Edi_checker where
 p : Api_Pool
 it : Api_Item
 ok : Bool
 deriving DecidableEq,Inhabited
def Xv (x : Edi_checker) : List AV:=[.sl false (L Ah x.p.Zs1.Zu),.sl false (L Ak x.p.Zs1.Zv),.sl false (L Aa x.p.Zt1.Zm1),.sl false (L Af x.p.Zt1.Zn1),.sl false (L Aj x.p.Zt1.Zo1),.sl false (L Ai x.p.Zt1.Zp1),.sl false (L Ag x.p.Zu1),.sl false (L Ae x.p.Zv1),.sl false (L Ab x.p.Zw1),i64 x.it.Zb,i64 x.it.Ref.Za,i64 x.it.Ref.No,i64 x.it.Ze,i64 x.it.Zf,i64 x.it.Zg,i64 x.it.Zh,i64 x.it.Zi,i64 x.it.To,i64 x.it.Code,i64 x.it.Zj,i64 x.it.Zk,i64 x.it.Zl,i64 x.it.Zm,.str x.it.Zn,.sl false (L Ad x.it.Zo),.bool x.ok]
theorem tb3 (F) : (B.env F).tab 3 = some ⟨.int .i64,1,8,[i64 0]⟩:=tbk (by kernel_rfl)
theorem tb4 (F) : (B.env F).tab 4 = some ⟨.bool,1,1,[.bool false]⟩:=tbk (by kernel_rfl)
theorem tb5 (F) : (B.env F).tab 5 = some ⟨.int .u8,1,1,[u8 ((0 : UInt8))]⟩:=tbk (by kernel_rfl)
theorem tb9 (F) : (B.env F).tab 9 = some ⟨.string,1,16,[.str (([] : List UInt8))]⟩:=tbk (by kernel_rfl)
theorem Aeb (F) : (B.env F).tab 21 = some ⟨.int .i32,1,4,[.int .i32 0]⟩:=tbk (by kernel_rfl)
theorem tb22 (F) : (B.env F).tab 22 = some ⟨.slice 99,1,24,[.sl true (L Ah ([]))]⟩:=tbk (by kernel_rfl)
theorem tb23 (F) : (B.env F).tab 23 = some ⟨.slice 103,1,24,[.sl true (L Ak ([]))]⟩:=tbk (by kernel_rfl)
theorem tb25 (F) : (B.env F).tab 25 = some ⟨.struct #[⟨"Places", 22,0,false,"","", 0⟩,⟨"Edges", 23,1,false,"","", 24⟩],2,48,[.sl true (L Ah ([])),.sl true (L Ak ([]))]⟩:=tbk (by kernel_rfl)
theorem tb26 (F) : (B.env F).tab 26 = some ⟨.slice 162,1,24,[.sl true (L Aa ([]))]⟩:=tbk (by kernel_rfl)
theorem tb27 (F) : (B.env F).tab 27 = some ⟨.slice 101,1,24,[.sl true (L Af ([]))]⟩:=tbk (by kernel_rfl)
theorem tb28 (F) : (B.env F).tab 28 = some ⟨.slice 164,1,24,[.sl true (L Aj ([]))]⟩:=tbk (by kernel_rfl)
theorem tb29 (F) : (B.env F).tab 29 = some ⟨.slice 168,1,24,[.sl true (L Ai ([]))]⟩:=tbk (by kernel_rfl)
theorem tb31 (F) : (B.env F).tab 31 = some ⟨.struct #[⟨"Types", 26,0,false,"","", 0⟩,⟨"Wagons", 27,1,false,"","", 24⟩,⟨"Swaps", 28,2,false,"","", 48⟩,⟨"Washes", 29,3,false,"","", 72⟩],4,96,[.sl true (L Aa ([])),.sl true (L Af ([])),.sl true (L Aj ([])),.sl true (L Ai ([]))]⟩:=tbk (by kernel_rfl)
theorem tb32 (F) : (B.env F).tab 32 = some ⟨.slice 94,1,24,[.sl true (L Ag ([]))]⟩:=tbk (by kernel_rfl)
theorem tb33 (F) : (B.env F).tab 33 = some ⟨.slice 97,1,24,[.sl true (L Ae ([]))]⟩:=tbk (by kernel_rfl)
theorem tb34 (F) : (B.env F).tab 34 = some ⟨.slice 90,1,24,[.sl true (L Ab ([]))]⟩:=tbk (by kernel_rfl)
theorem tb36 (F) : (B.env F).tab 36 = some ⟨.struct #[⟨"Network", 25,0,false,"","", 0⟩,⟨"Fleet", 31,2,false,"","", 48⟩,⟨"Readers", 32,6,false,"","", 144⟩,⟨"Shippers", 33,7,false,"","", 168⟩,⟨"Railways", 34,8,false,"","", 192⟩],9,216,[.sl true (L Ah ([])),.sl true (L Ak ([])),.sl true (L Aa ([])),.sl true (L Af ([])),.sl true (L Aj ([])),.sl true (L Ai ([])),.sl true (L Ag ([])),.sl true (L Ae ([])),.sl true (L Ab ([]))]⟩:=tbk (by kernel_rfl)
theorem Are (F) : (B.env F).tab 38 = some ⟨.struct #[⟨"Railway", 3,0,false,"","", 0⟩,⟨"No", 3,1,false,"","", 8⟩],2,16,[i64 0,i64 0]⟩:=tbk (by kernel_rfl)
theorem Apj (F) : (B.env F).tab 39 = some ⟨.slice 66,1,24,[.sl true (L Ad ([]))]⟩:=tbk (by kernel_rfl)
theorem tb41 (F) : (B.env F).tab 41 = some ⟨.struct #[⟨"Kind", 3,0,false,"","", 0⟩,⟨"Ref", 38,1,false,"","", 8⟩,⟨"Wagon", 3,3,false,"","", 24⟩,⟨"Place", 3,4,false,"","", 32⟩,⟨"Other", 3,5,false,"","", 40⟩,⟨"Number", 3,6,false,"","", 48⟩,⟨"From", 3,7,false,"","", 56⟩,⟨"To", 3,8,false,"","", 64⟩,⟨"Code", 3,9,false,"","", 72⟩,⟨"Dest", 3,10,false,"","", 80⟩,⟨"Class", 3,11,false,"","", 88⟩,⟨"Weight", 3,12,false,"","", 96⟩,⟨"Amount", 3,13,false,"","", 104⟩,⟨"Text", 9,14,false,"","", 112⟩,⟨"Parts", 39,15,false,"","", 128⟩],16,152,[i64 0,i64 0,i64 0,i64 0,i64 0,i64 0,i64 0,i64 0,i64 0,i64 0,i64 0,i64 0,i64 0,i64 0,.str (([] : List UInt8)),.sl true (L Ad ([]))]⟩:=tbk (by kernel_rfl)
theorem tb45 (F) : (B.env F).tab 45 = some ⟨.int .i64,1,8,[i64 0]⟩:=tbk (by kernel_rfl)
theorem Aou (F) : (B.env F).tab 52 = some ⟨.slice 5,1,24,[.sl true (L cU8 ([]))]⟩:=tbk (by kernel_rfl)
theorem Apg (F) : (B.env F).tab 53 = some ⟨.slice 55,1,24,[.sl true (L cApi_Value ([]))]⟩:=tbk (by kernel_rfl)
theorem Ash (F) : (B.env F).tab 55 = some ⟨.struct #[⟨"Kind", 3,0,false,"","", 0⟩,⟨"N", 3,1,false,"","", 8⟩,⟨"B", 52,2,false,"","", 16⟩,⟨"L", 53,3,false,"","", 40⟩],4,64,[i64 0,i64 0,.sl true (L cU8 ([])),.sl true (L cApi_Value ([]))]⟩:=tbk (by kernel_rfl)
theorem Apd (F) : (B.env F).tab 66 = some ⟨.struct #[⟨"Kind", 3,0,false,"","", 0⟩,⟨"Serial", 3,1,false,"","", 8⟩,⟨"Fitted", 4,2,false,"","", 16⟩],3,24,[i64 0,i64 0,.bool false]⟩:=tbk (by kernel_rfl)
theorem tb83 (F) : (B.env F).tab 83 = some ⟨.struct #[⟨"From", 3,0,false,"","", 0⟩,⟨"To", 3,1,false,"","", 8⟩],2,16,[i64 0,i64 0]⟩:=tbk (by kernel_rfl)
theorem tb84 (F) : (B.env F).tab 84 = some ⟨.array 7 83,14,112,[i64 0,i64 0,i64 0,i64 0,i64 0,i64 0,i64 0,i64 0,i64 0,i64 0,i64 0,i64 0,i64 0,i64 0]⟩:=tbk (by kernel_rfl)
theorem Aqt (F) : (B.env F).tab 85 = some ⟨.slice 3,1,24,[.sl true (L Jk ([]))]⟩:=tbk (by kernel_rfl)
theorem tb87 (F) : (B.env F).tab 87 = some ⟨.struct #[⟨"Open", 84,0,false,"","", 0⟩,⟨"Holidays", 85,14,false,"","", 112⟩],15,136,[i64 0,i64 0,i64 0,i64 0,i64 0,i64 0,i64 0,i64 0,i64 0,i64 0,i64 0,i64 0,i64 0,i64 0,.sl true (L Jk ([]))]⟩:=tbk (by kernel_rfl)
theorem tb88 (F) : (B.env F).tab 88 = some ⟨.int .u64,1,8,[u64 ((0 : UInt64))]⟩:=tbk (by kernel_rfl)
theorem tb90 (F) : (B.env F).tab 90 = some ⟨.struct #[⟨"Key", 88,0,false,"","", 0⟩,⟨"Calendar", 87,1,false,"","", 8⟩],16,144,[u64 ((0 : UInt64)),i64 0,i64 0,i64 0,i64 0,i64 0,i64 0,i64 0,i64 0,i64 0,i64 0,i64 0,i64 0,i64 0,i64 0,.sl true (L Jk ([]))]⟩:=tbk (by kernel_rfl)
theorem tb94 (F) : (B.env F).tab 94 = some ⟨.struct #[⟨"Place", 3,0,false,"","", 0⟩,⟨"Low", 3,1,false,"","", 8⟩,⟨"High", 3,2,false,"","", 16⟩],3,24,[i64 0,i64 0,i64 0]⟩:=tbk (by kernel_rfl)
theorem tb97 (F) : (B.env F).tab 97 = some ⟨.struct #[⟨"Place", 3,0,false,"","", 0⟩],1,8,[i64 0]⟩:=tbk (by kernel_rfl)
theorem tb99 (F) : (B.env F).tab 99 = some ⟨.struct #[⟨"Kind", 3,0,false,"","", 0⟩,⟨"Railway", 3,1,false,"","", 8⟩,⟨"Other", 3,2,false,"","", 16⟩],3,24,[i64 0,i64 0,i64 0]⟩:=tbk (by kernel_rfl)
theorem Al9 (F) : (B.env F).tab 101 = some ⟨.struct #[⟨"Type", 3,0,false,"","", 0⟩,⟨"Owner", 3,1,false,"","", 8⟩,⟨"Home", 3,2,false,"","", 16⟩,⟨"Built", 3,3,false,"","", 24⟩,⟨"Worth", 3,4,false,"","", 32⟩],5,40,[i64 0,i64 0,i64 0,i64 0,i64 0]⟩:=tbk (by kernel_rfl)
theorem Ao9 (F) : (B.env F).tab 103 = some ⟨.struct #[⟨"A", 3,0,false,"","", 0⟩,⟨"B", 3,1,false,"","", 8⟩,⟨"Railway", 3,2,false,"","", 16⟩,⟨"Minutes", 3,3,false,"","", 24⟩,⟨"Km", 3,4,false,"","", 32⟩],5,40,[i64 0,i64 0,i64 0,i64 0,i64 0]⟩:=tbk (by kernel_rfl)
theorem AiG (F) : (B.env F).tab 106 = some ⟨.pointer 108,1,8,[.val (.pointer none)]⟩:=tbk (by kernel_rfl)
theorem AqW (F) : (B.env F).tab 108 = some ⟨.struct #[⟨"addr", 106,0,false,"","strings", 0⟩,⟨"buf", 52,1,false,"","strings", 8⟩],2,32,[.val (.pointer none),.sl true (L cU8 ([]))]⟩:=tbk (by kernel_rfl)
theorem Al3 (F) : (B.env F).tab 110 = some ⟨.interface #[("Error", 124)],1,16,[.val .nilIface]⟩:=tbk (by kernel_rfl)
theorem Am1 (F) : (B.env F).tab 113 = some ⟨.array 16 9,16,256,[.str (([] : List UInt8)),.str (([] : List UInt8)),.str (([] : List UInt8)),.str (([] : List UInt8)),.str (([] : List UInt8)),.str (([] : List UInt8)),.str (([] : List UInt8)),.str (([] : List UInt8)),.str (([] : List UInt8)),.str (([] : List UInt8)),.str (([] : List UInt8)),.str (([] : List UInt8)),.str (([] : List UInt8)),.str (([] : List UInt8)),.str (([] : List UInt8)),.str (([] : List UInt8))]⟩:=tbk (by kernel_rfl)
theorem AiL (F) : (B.env F).tab 117 = some ⟨.pointer 3,1,8,[.val (.pointer none)]⟩:=tbk (by kernel_rfl)
theorem Ail (F) : (B.env F).tab 118 = some ⟨.array 11 117,11,88,[.val (.pointer none),.val (.pointer none),.val (.pointer none),.val (.pointer none),.val (.pointer none),.val (.pointer none),.val (.pointer none),.val (.pointer none),.val (.pointer none),.val (.pointer none),.val (.pointer none)]⟩:=tbk (by kernel_rfl)
theorem Am0 (F) : (B.env F).tab 122 = some ⟨.map 4 9,1,8,[.val (.map none)]⟩:=tbk (by kernel_rfl)
theorem Age (F) : (B.env F).tab 134 = some ⟨.slice 9,1,24,[.sl true (L Ve ([]))]⟩:=tbk (by kernel_rfl)
theorem ArH (F) : (B.env F).tab 158 = some ⟨.struct #[⟨"p", 36,0,false,"","wagonpool/edi", 0⟩,⟨"it", 41,9,false,"","wagonpool/edi", 216⟩,⟨"ok", 4,25,false,"","wagonpool/edi", 368⟩],26,376,[.sl true (L Ah ([])),.sl true (L Ak ([])),.sl true (L Aa ([])),.sl true (L Af ([])),.sl true (L Aj ([])),.sl true (L Ai ([])),.sl true (L Ag ([])),.sl true (L Ae ([])),.sl true (L Ab ([])),i64 0,i64 0,i64 0,i64 0,i64 0,i64 0,i64 0,i64 0,i64 0,i64 0,i64 0,i64 0,i64 0,i64 0,.str (([] : List UInt8)),.sl true (L Ad ([])),.bool false]⟩:=tbk (by kernel_rfl)
theorem Alg (F) : (B.env F).tab 162 = some ⟨.struct #[⟨"Load", 3,0,false,"","", 0⟩,⟨"Tare", 3,1,false,"","", 8⟩,⟨"Length", 3,2,false,"","", 16⟩,⟨"Gauge", 3,3,false,"","", 24⟩,⟨"Brake", 3,4,false,"","", 32⟩,⟨"Classes", 88,5,false,"","", 40⟩,⟨"Life", 3,6,false,"","", 48⟩,⟨"Floor", 3,7,false,"","", 56⟩],8,64,[i64 0,i64 0,i64 0,i64 0,i64 0,u64 ((0 : UInt64)),i64 0,i64 0]⟩:=tbk (by kernel_rfl)
theorem AoA (F) : (B.env F).tab 164 = some ⟨.struct #[⟨"Wanted", 3,0,false,"","", 0⟩,⟨"Given", 3,1,false,"","", 8⟩,⟨"Cost", 3,2,false,"","", 16⟩],3,24,[i64 0,i64 0,i64 0]⟩:=tbk (by kernel_rfl)
theorem ArG : Tb Tryz.prog 165 = some ⟨.array 64 4,64,64,(C1 AV.bool ((Arr.rep 64 false)).l)⟩:=Vb (by kernel_rfl) (by kernel_rfl)
theorem Akt (F : Addr→Prop) : (B.env F).tab 165 = some ⟨.array 64 4,64,64,(C1 AV.bool ((Arr.rep 64 false)).l)⟩:=(Rf Tryz.prog 165).trans ArG
theorem Aqw : Tb Tryz.prog 166 = some ⟨.array 64 165,4096,4096,(C1 AV.bool ((Arr.rep 4096 false)).l)⟩:=Vb (by kernel_rfl) (by kernel_rfl)
theorem Anj (F : Addr→Prop) : (B.env F).tab 166 = some ⟨.array 64 165,4096,4096,(C1 AV.bool ((Arr.rep 4096 false)).l)⟩:=(Rf Tryz.prog 166).trans Aqw
theorem Aln (F) : (B.env F).tab 168 = some ⟨.struct #[⟨"From", 3,0,false,"","", 0⟩,⟨"To", 3,1,false,"","", 8⟩,⟨"Minutes", 3,2,false,"","", 16⟩],3,24,[i64 0,i64 0,i64 0]⟩:=tbk (by kernel_rfl)
theorem Ap2 (F) : (B.env F).tab 171 = some ⟨.int .u64,1,8,[u64 ((0 : UInt64))]⟩:=tbk (by kernel_rfl)
theorem AqR (F) : (B.env F).tab 230 = some ⟨.int .i64,1,8,[i64 0]⟩:=tbk (by kernel_rfl)
theorem AmV : AV.int .u32 0 = u32 0:=rfl
theorem Al6 : AV.int .u32 1 = u32 1:=rfl
theorem Ait : AV.int .u32 15 = u32 15:=rfl
theorem S0 : AV.int .u32 3988292384 = u32 3988292384:=rfl
theorem Rm : AV.int .u32 4294967295 = u32 4294967295:=rfl
theorem Aot : AV.int .u64 0 = u64 0:=rfl
theorem Anq : AV.int .u64 1 = u64 1:=rfl
theorem AoP : AV.int .u64 2 = u64 2:=rfl
theorem Amh : AV.int .u64 4 = u64 4:=rfl
theorem Al1 : AV.int .u64 8 = u64 8:=rfl
theorem Ajd : AV.int .u64 16 = u64 16:=rfl
theorem Ajb : AV.int .u64 24 = u64 24:=rfl
theorem Ai2 : AV.int .u64 32 = u64 32:=rfl
theorem Aiv : AV.int .u64 64 = u64 64:=rfl
theorem AgY : AV.int .u64 256 = u64 256:=rfl
theorem Adj : AV.int .u64 65536 = u64 65536:=rfl
theorem Sy : AV.int .u64 4294967295 = u64 4294967295:=rfl
theorem Rd : AV.int .u64 4294967296 = u64 4294967296:=rfl
theorem Kn : AV.int .u64 1152921504606845399 = u64 1152921504606845399:=rfl
theorem Kd : AV.int .u64 1152921504606846976 = u64 1152921504606846976:=rfl
theorem J5 : AV.int .u64 2305843009213690799 = u64 2305843009213690799:=rfl
theorem ArW : AV.int .u8 0 = u8 0:=rfl
theorem An1 : AV.int .u8 10 = u8 10:=rfl
theorem AlU : AV.int .u8 15 = u8 15:=rfl
theorem Am7 : AV.int .u8 16 = u8 16:=rfl
theorem Ama : AV.int .u8 23 = u8 23:=rfl
theorem Amf : AV.int .u8 31 = u8 31:=rfl
theorem Anu : AV.int .u8 32 = u8 32:=rfl
theorem Amw : AV.int .u8 39 = u8 39:=rfl
theorem Aom : AV.int .u8 40 = u8 40:=rfl
theorem Alp : AV.int .u8 43 = u8 43:=rfl
theorem AnN : AV.int .u8 45 = u8 45:=rfl
theorem Ane : AV.int .u8 46 = u8 46:=rfl
theorem Alc : AV.int .u8 48 = u8 48:=rfl
theorem AoF : AV.int .u8 57 = u8 57:=rfl
theorem AmU : AV.int .u8 63 = u8 63:=rfl
theorem Ao2 : AV.int .u8 64 = u8 64:=rfl
theorem Aok : AV.int .u8 95 = u8 95:=rfl
theorem Aoz : AV.int .u8 97 = u8 97:=rfl
theorem AlG : AV.int .u8 99 = u8 99:=rfl
theorem AjA : AV.int .u8 100 = u8 100:=rfl
theorem AjW : AV.int .u8 102 = u8 102:=rfl
theorem Aj7 : AV.int .u8 103 = u8 103:=rfl
theorem AkL : AV.int .u8 107 = u8 107:=rfl
theorem Ajq : AV.int .u8 110 = u8 110:=rfl
theorem AiO : AV.int .u8 111 = u8 111:=rfl
theorem Akc : AV.int .u8 112 = u8 112:=rfl
theorem Ako : AV.int .u8 113 = u8 113:=rfl
theorem Aj9 : AV.int .u8 114 = u8 114:=rfl
theorem AjV : AV.int .u8 116 = u8 116:=rfl
theorem Akd : AV.int .u8 119 = u8 119:=rfl
theorem Aj5 : AV.int .u8 120 = u8 120:=rfl
theorem AiI : AV.int .u8 122 = u8 122:=rfl
theorem AiH : AV.int .u8 125 = u8 125:=rfl
theorem AjL : AV.int .u8 126 = u8 126:=rfl
theorem AjC : AV.int .u8 127 = u8 127:=rfl
theorem Akh : AV.int .u8 255 = u8 255:=rfl
theorem Ajc {F} {σ : Am} (s x : AV) : Ch (B.env F) σ .append [52,9] [s,x] = match H3 σ x with
      | some new => if I9 x 1 = true then none else if ∀ cs ∈ new,cs.length = 1 then (match s with
          | .sl full els =>
            if els = []∧full = true then
              if Jf new.length 1 then some (.bs false σ.length new.length 0 new.length,σ ++ [.buf 1 new false]) else none
            else if new = [] then some (.sl full els,σ)
            else if full = true∧(∀ cs ∈ els,cs.length = 1)∧Jf (els.length + new.length) 1
            then some (.bs false σ.length (els.length + new.length) 0 (els.length + new.length),σ ++ [.buf 1 (els ++ new) false]) else none
          | .bs full id tot off len => match σ[id]? with
            | some (.buf k els ro) =>
              if els.length = tot∧k = 1∧Jf (len + new.length) 1 then
                if off = 0∧len = tot then some (.bs false id (tot + new.length) 0 (tot + new.length),σ.set id (.buf k (els ++ new) ro))
                else if new = [] then some (.bs full id tot off len,σ)
                else if full then some (.bs false σ.length (len + new.length) 0 (len + new.length),σ ++ [.buf k ((els.drop off).take len ++ new) false])
                else none
              else none
            | some (.tb T l) => AbI σ id tot off len 1 1 5 T l new
            | _ => none
          | _ => none)
        else none
      | none => none:=Oy (Aou F) (tb5 F) (by decide) (tb9 F) (.inr rfl) s x []
theorem Agx {F} {σ : Am} (s x : AV) : Ch (B.env F) σ .append [52,52] [s,x] = match H3 σ x with
      | some new => if I9 x 1 = true then none else if ∀ cs ∈ new,cs.length = 1 then (match s with
          | .sl full els =>
            if els = []∧full = true then
              if Jf new.length 1 then some (.bs false σ.length new.length 0 new.length,σ ++ [.buf 1 new false]) else none
            else if new = [] then some (.sl full els,σ)
            else if full = true∧(∀ cs ∈ els,cs.length = 1)∧Jf (els.length + new.length) 1
            then some (.bs false σ.length (els.length + new.length) 0 (els.length + new.length),σ ++ [.buf 1 (els ++ new) false]) else none
          | .bs full id tot off len => match σ[id]? with
            | some (.buf k els ro) =>
              if els.length = tot∧k = 1∧Jf (len + new.length) 1 then
                if off = 0∧len = tot then some (.bs false id (tot + new.length) 0 (tot + new.length),σ.set id (.buf k (els ++ new) ro))
                else if new = [] then some (.bs full id tot off len,σ)
                else if full then some (.bs false σ.length (len + new.length) 0 (len + new.length),σ ++ [.buf k ((els.drop off).take len ++ new) false])
                else none
              else none
            | some (.tb T l) => AbI σ id tot off len 1 1 5 T l new
            | _ => none
          | _ => none)
        else none
      | none => none:=Oy (Aou F) (tb5 F) (by decide) (Aou F) (.inl ⟨_,rfl⟩) s x []
theorem AnA {F} (l : List UInt8) (x : AV) : L4 (B.env F) 9 (.str l) x = match idx x l.length with
    | some i => some (u8 (nth l i))
    | none => none:=Ac9 (tb9 F) l x
theorem ApI {F} : ((B.env F).bty = some 108) = True:=eq_true rfl
theorem AfH {F} {σ : Am} (x : AV) : Av (B.env F) σ 113 (.glob 0) x = match idx x 16 with
    | some i => some (.rp ((C1 AV.str glob0.l).drop i))
    | none => none:=AhM (Am1 F) (tb9 F) rfl x
theorem Ag1 {F} (a0 : Int) (a1 : Int) (b0 : Int) (b1 : Int) : Bg (B.env F) .neq 38 (.agg [i64 a0,i64 a1]) (.agg [i64 b0,i64 b1]) = some (.bool (!((a0 == b0) && (a1 == b1)))) :=
 M8 (Are F) (by kernel_rfl) (by kernel_rfl) (Of (by decide) (tb3 F) rfl rfl (Pl a0 b0) (Wq (by decide) (tb3 F) rfl rfl (Pl a1 b1)))
theorem Apx {F} : ((B.env F).bty = some 118) = False:=eq_false (fun h : (some 108 : Option TypeId) = some 118 => absurd (Option.some.inj h) (by decide))
theorem ArM {F} : S7 (B.env F) 9 = true:=Afg (tb9 F)
theorem ApV : (0 < (List.toArray ([119,112,111,110,102,116,99,100,107,103,97] : List UInt8)).size) = True:=eq_true (by decide)
theorem Apa : Utf8.decode (ByteArray.mk (List.toArray ([119,112,111,110,102,116,99,100,107,103,97] : List UInt8))) 0 = (119,1):=rfl
theorem AkT {F} {σ : Am} (id off : Nat) (x : AV) : Av (B.env F) σ 118 (.ref id off) x = match idx x 11 with
    | some i => some (.ref id (off + i * 1))
    | none => none:=AaT (Ail F) (AiL F) id off x
theorem W6 {F} {σ : Am} : Be (B.env F) σ 21 5 (.int .i32 119) = some (u8 (119 : UInt8),σ):=D5 (by rw [Aeb F];rfl) (by unfold F8;rw [tb5 F];rfl)
theorem Ann : (1 < (List.toArray ([119,112,111,110,102,116,99,100,107,103,97] : List UInt8)).size) = True:=eq_true (by decide)
theorem Am3 : Utf8.decode (ByteArray.mk (List.toArray ([119,112,111,110,102,116,99,100,107,103,97] : List UInt8))) 1 = (112,1):=rfl
theorem Wb {F} {σ : Am} : Be (B.env F) σ 21 5 (.int .i32 112) = some (u8 (112 : UInt8),σ):=D5 (by rw [Aeb F];rfl) (by unfold F8;rw [tb5 F];rfl)
theorem AmM : (2 < (List.toArray ([119,112,111,110,102,116,99,100,107,103,97] : List UInt8)).size) = True:=eq_true (by decide)
theorem AoH : Utf8.decode (ByteArray.mk (List.toArray ([119,112,111,110,102,116,99,100,107,103,97] : List UInt8))) 2 = (111,1):=rfl
theorem Vw {F} {σ : Am} : Be (B.env F) σ 21 5 (.int .i32 111) = some (u8 (111 : UInt8),σ):=D5 (by rw [Aeb F];rfl) (by unfold F8;rw [tb5 F];rfl)
theorem Al5 : (3 < (List.toArray ([119,112,111,110,102,116,99,100,107,103,97] : List UInt8)).size) = True:=eq_true (by decide)
theorem Alh : Utf8.decode (ByteArray.mk (List.toArray ([119,112,111,110,102,116,99,100,107,103,97] : List UInt8))) 3 = (110,1):=rfl
theorem Vz {F} {σ : Am} : Be (B.env F) σ 21 5 (.int .i32 110) = some (u8 (110 : UInt8),σ):=D5 (by rw [Aeb F];rfl) (by unfold F8;rw [tb5 F];rfl)
theorem Alb : (4 < (List.toArray ([119,112,111,110,102,116,99,100,107,103,97] : List UInt8)).size) = True:=eq_true (by decide)
theorem Aon : Utf8.decode (ByteArray.mk (List.toArray ([119,112,111,110,102,116,99,100,107,103,97] : List UInt8))) 4 = (102,1):=rfl
theorem Xc {F} {σ : Am} : Be (B.env F) σ 21 5 (.int .i32 102) = some (u8 (102 : UInt8),σ):=D5 (by rw [Aeb F];rfl) (by unfold F8;rw [tb5 F];rfl)
theorem Alz : (5 < (List.toArray ([119,112,111,110,102,116,99,100,107,103,97] : List UInt8)).size) = True:=eq_true (by decide)
theorem AmE : Utf8.decode (ByteArray.mk (List.toArray ([119,112,111,110,102,116,99,100,107,103,97] : List UInt8))) 5 = (116,1):=rfl
theorem Vv {F} {σ : Am} : Be (B.env F) σ 21 5 (.int .i32 116) = some (u8 (116 : UInt8),σ):=D5 (by rw [Aeb F];rfl) (by unfold F8;rw [tb5 F];rfl)
theorem Aop : (6 < (List.toArray ([119,112,111,110,102,116,99,100,107,103,97] : List UInt8)).size) = True:=eq_true (by decide)
theorem Ans : Utf8.decode (ByteArray.mk (List.toArray ([119,112,111,110,102,116,99,100,107,103,97] : List UInt8))) 6 = (99,1):=rfl
theorem Aac {F} {σ : Am} : Be (B.env F) σ 21 5 (.int .i32 99) = some (u8 (99 : UInt8),σ):=D5 (by rw [Aeb F];rfl) (by unfold F8;rw [tb5 F];rfl)
theorem Al2 : (7 < (List.toArray ([119,112,111,110,102,116,99,100,107,103,97] : List UInt8)).size) = True:=eq_true (by decide)
theorem Alt : Utf8.decode (ByteArray.mk (List.toArray ([119,112,111,110,102,116,99,100,107,103,97] : List UInt8))) 7 = (100,1):=rfl
theorem Vu {F} {σ : Am} : Be (B.env F) σ 21 5 (.int .i32 100) = some (u8 (100 : UInt8),σ):=D5 (by rw [Aeb F];rfl) (by unfold F8;rw [tb5 F];rfl)
theorem AlO : (8 < (List.toArray ([119,112,111,110,102,116,99,100,107,103,97] : List UInt8)).size) = True:=eq_true (by decide)
theorem AoX : Utf8.decode (ByteArray.mk (List.toArray ([119,112,111,110,102,116,99,100,107,103,97] : List UInt8))) 8 = (107,1):=rfl
theorem Xb {F} {σ : Am} : Be (B.env F) σ 21 5 (.int .i32 107) = some (u8 (107 : UInt8),σ):=D5 (by rw [Aeb F];rfl) (by unfold F8;rw [tb5 F];rfl)
theorem AlJ : (9 < (List.toArray ([119,112,111,110,102,116,99,100,107,103,97] : List UInt8)).size) = True:=eq_true (by decide)
theorem Amb : Utf8.decode (ByteArray.mk (List.toArray ([119,112,111,110,102,116,99,100,107,103,97] : List UInt8))) 9 = (103,1):=rfl
theorem W5 {F} {σ : Am} : Be (B.env F) σ 21 5 (.int .i32 103) = some (u8 (103 : UInt8),σ):=D5 (by rw [Aeb F];rfl) (by unfold F8;rw [tb5 F];rfl)
theorem AlZ : (10 < (List.toArray ([119,112,111,110,102,116,99,100,107,103,97] : List UInt8)).size) = True:=eq_true (by decide)
theorem AlK : Utf8.decode (ByteArray.mk (List.toArray ([119,112,111,110,102,116,99,100,107,103,97] : List UInt8))) 10 = (97,1):=rfl
theorem Ys {F} {σ : Am} : Be (B.env F) σ 21 5 (.int .i32 97) = some (u8 (97 : UInt8),σ):=D5 (by rw [Aeb F];rfl) (by unfold F8;rw [tb5 F];rfl)
theorem Ale : (11 < (List.toArray ([119,112,111,110,102,116,99,100,107,103,97] : List UInt8)).size) = False:=eq_false (by decide)
theorem AoI {F} {σ : Am} (f : Bool) (l : List Api_Part) (x : AV) : Av (B.env F) σ 39 (.sl f (L Ad l)) x = match idx x l.length with
    | some i => some (.rp (Ad (nth l i)))
    | none => none:=Ki Ad (Apj F) (Apd F) (fun _ => rfl) f l x
theorem nb66 {F} : ((B.env F).bty = some 66) = False:=eq_false (fun h : (some 108 : Option TypeId) = some 66 => absurd (Option.some.inj h) (by decide))
theorem AkD {F} : Xf (B.env F) 122 = some .bool:=Agr (Am0 F) (tb4 F)
theorem AnJ {F} {σ : Am} (l c : Int) : Gv (B.env F) σ 134 (i64 l) (i64 c) = if Mk l c 16 then some (.bs (l == c) σ.length l.toNat 0 l.toNat,σ ++ [.buf 1 (List.replicate l.toNat [.str (([] : List UInt8))]) false]) else none:=Ajs (Age F) (tb9 F) (by decide) l c
theorem AjN {F} {σ : Am} (f : Bool) (id tot off len : Nat) (x : AV) : Av (B.env F) σ 134 (.bs f id tot off len) x = match σ[id]?,idx x len with
    | some (.buf k els _),some i => if els.length = tot∧k = 1 then some (.eref id tot (off + i) 0) else none
    | _,_ => none:=AeM (Age F) (tb9 F) (by decide) f id tot off len x
theorem Ajr {F} {σ : Am} (f : Bool) (l : List (List UInt8)) (x : AV) : Av (B.env F) σ 134 (.sl f (L Ve l)) x = match idx x l.length with
    | some i => some (.rp (Ve (nth l i)))
    | none => none:=Ki Ve (Age F) (tb9 F) (fun _ => rfl) f l x
theorem Ani {F} {σ : Am} (f : Bool) (id tot off len : Nat) (x : AV) : Av (B.env F) σ 52 (.bs f id tot off len) x = match σ[id]?,idx x len with
    | some (.buf k els _),some i => if els.length = tot∧k = 1 then some (.eref id tot (off + i) 0) else none
    | _,_ => none:=AeM (Aou F) (tb5 F) (by decide) f id tot off len x
theorem AiA {F} : Oq (B.env F) 110 = true:=AhN (Al3 F)
theorem Anc {F} (cs : List AV) (x : AV) : L4 (B.env F) 118 (.agg cs) x = match idx x 11 with
    | some i => partA (⟨.pointer 3,1,8,[.val (.pointer none)]⟩ : TD) cs (i * 1)
    | none => none:=U3 (Ail F) (AiL F) cs x
theorem AnZ {F} {σ : Am} (f : Bool) (l : List Int) (x : AV) : Av (B.env F) σ 85 (.sl f (L Jk l)) x = match idx x l.length with
    | some i => some (.rp (Jk (nth l i)))
    | none => none:=Ki Jk (Aqt F) (tb3 F) (fun _ => rfl) f l x
theorem Agl {F} {σ : Am} (s x : AV) : Ch (B.env F) σ .append [39,39] [s,x] = match H3 σ x with
      | some new => if I9 x 3 = true then none else if ∀ cs ∈ new,cs.length = 3 then (match s with
          | .sl full els =>
            if els = []∧full = true then
              if Jf new.length 24 then some (.bs false σ.length new.length 0 new.length,σ ++ [.buf 3 new false]) else none
            else if new = [] then some (.sl full els,σ)
            else if full = true∧(∀ cs ∈ els,cs.length = 3)∧Jf (els.length + new.length) 24
            then some (.bs false σ.length (els.length + new.length) 0 (els.length + new.length),σ ++ [.buf 3 (els ++ new) false]) else none
          | .bs full id tot off len => match σ[id]? with
            | some (.buf k els ro) =>
              if els.length = tot∧k = 3∧Jf (len + new.length) 24 then
                if off = 0∧len = tot then some (.bs false id (tot + new.length) 0 (tot + new.length),σ.set id (.buf k (els ++ new) ro))
                else if new = [] then some (.bs full id tot off len,σ)
                else if full then some (.bs false σ.length (len + new.length) 0 (len + new.length),σ ++ [.buf k ((els.drop off).take len ++ new) false])
                else none
              else none
            | some (.tb T l) => AbI σ id tot off len 24 3 66 T l new
            | _ => none
          | _ => none)
        else none
      | none => none:=Oy (Apj F) (Apd F) (by decide) (Apj F) (.inl ⟨_,rfl⟩) s x []
theorem nb41 {F} : ((B.env F).bty = some 41) = False:=eq_false (fun h : (some 108 : Option TypeId) = some 41 => absurd (Option.some.inj h) (by decide))
theorem AiS {F} : (B.env F).G 0 = some (C1 AV.str glob0.l):=rfl
theorem AkI : List.take 16 (List.map (fun c => [c]) (C1 AV.str glob0.l)) = L Ve glob0.l:=Aat
theorem nb55 {F} : ((B.env F).bty = some 55) = False:=eq_false (fun h : (some 108 : Option TypeId) = some 55 => absurd (Option.some.inj h) (by decide))
theorem Ahj {F} {σ : Am} (s x : AV) : Ch (B.env F) σ .append [53,53] [s,x] = match H3 σ x with
      | some new => if I9 x 4 = true then none else if ∀ cs ∈ new,cs.length = 4 then (match s with
          | .sl full els =>
            if els = []∧full = true then
              if Jf new.length 64 then some (.bs false σ.length new.length 0 new.length,σ ++ [.buf 4 new false]) else none
            else if new = [] then some (.sl full els,σ)
            else if full = true∧(∀ cs ∈ els,cs.length = 4)∧Jf (els.length + new.length) 64
            then some (.bs false σ.length (els.length + new.length) 0 (els.length + new.length),σ ++ [.buf 4 (els ++ new) false]) else none
          | .bs full id tot off len => match σ[id]? with
            | some (.buf k els ro) =>
              if els.length = tot∧k = 4∧Jf (len + new.length) 64 then
                if off = 0∧len = tot then some (.bs false id (tot + new.length) 0 (tot + new.length),σ.set id (.buf k (els ++ new) ro))
                else if new = [] then some (.bs full id tot off len,σ)
                else if full then some (.bs false σ.length (len + new.length) 0 (len + new.length),σ ++ [.buf k ((els.drop off).take len ++ new) false])
                else none
              else none
            | some (.tb T l) => AbI σ id tot off len 64 4 55 T l new
            | _ => none
          | _ => none)
        else none
      | none => none:=Oy (Apg F) (Ash F) (by decide) (Apg F) (.inl ⟨_,rfl⟩) s x []
theorem Alf {F} {σ : Am} (f : Bool) (l : List Api_Value) (x : AV) : Av (B.env F) σ 53 (.sl f (L cApi_Value l)) x = match idx x l.length with
    | some i => some (.rp (cApi_Value (nth l i)))
    | none => none:=Ki cApi_Value (Apg F) (Ash F) (fun y => by rw [Nx];rfl) f l x
theorem AhO {F} (a0 : Int) (a1 : Int) (a2 : Bool) (b0 : Int) (b1 : Int) (b2 : Bool) : Bg (B.env F) .neq 66 (.agg [i64 a0,i64 a1,.bool a2]) (.agg [i64 b0,i64 b1,.bool b2]) = some (.bool (!((a0 == b0) && ((a1 == b1) && (a2 == b2))))) :=
 M8 (Apd F) (by kernel_rfl) (by kernel_rfl) (Of (by decide) (tb3 F) rfl rfl (Pl a0 b0) (Of (by decide) (tb3 F) rfl rfl (Pl a1 b1) (Wq (by decide) (tb4 F) rfl rfl (Ag8 a2 b2))))
theorem AhQ {F} (a0 : Int) (a1 : Int) (b0 : Int) (b1 : Int) : Bg (B.env F) .eql 38 (.agg [i64 a0,i64 a1]) (.agg [i64 b0,i64 b1]) = some (.bool (((a0 == b0) && (a1 == b1)))) :=
 Uq (Are F) (by kernel_rfl) (by kernel_rfl) (Of (by decide) (tb3 F) rfl rfl (Pl a0 b0) (Wq (by decide) (tb3 F) rfl rfl (Pl a1 b1)))
theorem nb45 {F} : ((B.env F).bty = some 45) = False:=eq_false (fun h : (some 108 : Option TypeId) = some 45 => absurd (Option.some.inj h) (by decide))
theorem Asr {F} (cs : List AV) (x : AV) : L4 (B.env F) 84 (.agg cs) x = match idx x 7 with
    | some i => partA (⟨.struct #[⟨"From", 3,0,false,"","", 0⟩,⟨"To", 3,1,false,"","", 8⟩],2,16,[i64 0,i64 0]⟩ : TD) cs (i * 2)
    | none => none:=U3 (tb84 F) (tb83 F) cs x
theorem nb83 {F} : ((B.env F).bty = some 83) = False:=eq_false (fun h : (some 108 : Option TypeId) = some 83 => absurd (Option.some.inj h) (by decide))
theorem Amj {F} {σ : Am} (f : Bool) (l : List Api_Place) (x : AV) : Av (B.env F) σ 22 (.sl f (L Ah l)) x = match idx x l.length with
    | some i => some (.rp (Ah (nth l i)))
    | none => none:=Ki Ah (tb22 F) (tb99 F) (fun _ => rfl) f l x
theorem nb99 {F} : ((B.env F).bty = some 99) = False:=eq_false (fun h : (some 108 : Option TypeId) = some 99 => absurd (Option.some.inj h) (by decide))
theorem Anl {F} {σ : Am} (f : Bool) (l : List Api_Edge) (x : AV) : Av (B.env F) σ 23 (.sl f (L Ak l)) x = match idx x l.length with
    | some i => some (.rp (Ak (nth l i)))
    | none => none:=Ki Ak (tb23 F) (Ao9 F) (fun _ => rfl) f l x
theorem Aro {F} : ((B.env F).bty = some 103) = False:=eq_false (fun h : (some 108 : Option TypeId) = some 103 => absurd (Option.some.inj h) (by decide))
theorem AmA {F} {σ : Am} (f : Bool) (l : List Api_WagonType) (x : AV) : Av (B.env F) σ 26 (.sl f (L Aa l)) x = match idx x l.length with
    | some i => some (.rp (Aa (nth l i)))
    | none => none:=Ki Aa (tb26 F) (Alg F) (fun _ => rfl) f l x
theorem Ar5 {F} : ((B.env F).bty = some 162) = False:=eq_false (fun h : (some 108 : Option TypeId) = some 162 => absurd (Option.some.inj h) (by decide))
theorem AlT {F} {σ : Am} (f : Bool) (id tot off len : Nat) (x : AV) : Av (B.env F) σ 85 (.bs f id tot off len) x = match σ[id]?,idx x len with
    | some (.buf k els _),some i => if els.length = tot∧k = 1 then some (.eref id tot (off + i) 0) else none
    | _,_ => none:=AeM (Aqt F) (tb3 F) (by decide) f id tot off len x
theorem AmG {F} {σ : Am} (f : Bool) (l : List Api_Wagon) (x : AV) : Av (B.env F) σ 27 (.sl f (L Af l)) x = match idx x l.length with
    | some i => some (.rp (Af (nth l i)))
    | none => none:=Ki Af (tb27 F) (Al9 F) (fun _ => rfl) f l x
theorem Aq5 {F} : ((B.env F).bty = some 101) = False:=eq_false (fun h : (some 108 : Option TypeId) = some 101 => absurd (Option.some.inj h) (by decide))
theorem AnE {F} {σ : Am} (f : Bool) (l : List Api_Swap) (x : AV) : Av (B.env F) σ 28 (.sl f (L Aj l)) x = match idx x l.length with
    | some i => some (.rp (Aj (nth l i)))
    | none => none:=Ki Aj (tb28 F) (AoA F) (fun _ => rfl) f l x
theorem Aqd {F} : ((B.env F).bty = some 164) = False:=eq_false (fun h : (some 108 : Option TypeId) = some 164 => absurd (Option.some.inj h) (by decide))
theorem Aqp {F} : ((B.env F).bty = some 166) = False:=eq_false (fun h : (some 108 : Option TypeId) = some 166 => absurd (Option.some.inj h) (by decide))
theorem An3 {F} {σ : Am} (f : Bool) (l : List Api_Wash) (x : AV) : Av (B.env F) σ 29 (.sl f (L Ai l)) x = match idx x l.length with
    | some i => some (.rp (Ai (nth l i)))
    | none => none:=Ki Ai (tb29 F) (Aln F) (fun _ => rfl) f l x
theorem Ap9 {F} : ((B.env F).bty = some 168) = False:=eq_false (fun h : (some 108 : Option TypeId) = some 168 => absurd (Option.some.inj h) (by decide))
theorem AiB {F} (id off : Nat) (x : AV) {σ : Am} : Av (B.env F) σ 166 (.ref id off) x = match idx x 64 with
    | some i => some (.ref id (off + i * 64))
    | none => none:=AaT (Anj F) (Akt F) id off x
theorem AjF {F} (id off : Nat) (x : AV) {σ : Am} : Av (B.env F) σ 165 (.ref id off) x = match idx x 64 with
    | some i => some (.ref id (off + i * 1))
    | none => none:=AaT (Akt F) (tb4 F) id off x
theorem Ams {F} {σ : Am} (f : Bool) (l : List Api_Reader) (x : AV) : Av (B.env F) σ 32 (.sl f (L Ag l)) x = match idx x l.length with
    | some i => some (.rp (Ag (nth l i)))
    | none => none:=Ki Ag (tb32 F) (tb94 F) (fun _ => rfl) f l x
theorem nb94 {F} : ((B.env F).bty = some 94) = False:=eq_false (fun h : (some 108 : Option TypeId) = some 94 => absurd (Option.some.inj h) (by decide))
theorem Aos {F} {σ : Am} (f : Bool) (l : List Api_Shipper) (x : AV) : Av (B.env F) σ 33 (.sl f (L Ae l)) x = match idx x l.length with
    | some i => some (.rp (Ae (nth l i)))
    | none => none:=Ki Ae (tb33 F) (tb97 F) (fun _ => rfl) f l x
theorem nb97 {F} : ((B.env F).bty = some 97) = False:=eq_false (fun h : (some 108 : Option TypeId) = some 97 => absurd (Option.some.inj h) (by decide))
theorem Aof {F} {σ : Am} (f : Bool) (l : List Api_RailwayInfo) (x : AV) : Av (B.env F) σ 34 (.sl f (L Ab l)) x = match idx x l.length with
    | some i => some (.rp (Ab (nth l i)))
    | none => none:=Ki Ab (tb34 F) (tb90 F) (fun _ => rfl) f l x
theorem nb90 {F} : ((B.env F).bty = some 90) = False:=eq_false (fun h : (some 108 : Option TypeId) = some 90 => absurd (Option.some.inj h) (by decide))
theorem ArZ {F} : ((B.env F).bty = some 158) = False:=eq_false (fun h : (some 108 : Option TypeId) = some 158 => absurd (Option.some.inj h) (by decide))
attribute [go_sem] lm0 own3 own4 own5 own6 own7 own8 own9 Aqz Ard ApW Aqh Arx Aqj Aso Asb Aq7 AqE Aqn Arh Apz Aqr Aqq AqK Aqm ApJ Aqv Arl ApE Aq2 ArB Ap4 AqT Aql Ar6 Aqb Aq8 Asl Aq6 Asi AqF Ar4 Aq1 Apw Ary ApZ Arb AqZ ApF Apv ArC Arj Aq4 AqN AqU Asm Aqo Aqk Aqx Ari Aqc Art Asu App Ass AqV Arv AqS Ar2 AqD Aqa ApT ArS ApM Asd Ar0 Apn Apu Asc Ara AqJ ApH AqG ArV ArI ApC Apm Aqi Arp Ase Aqe Asq ArU ApP ApQ Am2 Ald Aoo Alm AmX AlB Amu Alj AlH And AlD Amm AlC Anb AmI Aoc An0 AmF AlV An7 Amo An9 AoC AmW AlS AmQ AlW Ana Ao1 Al4 AnP AoO Aoi AoD AlP AoM AmY AmP AmB An4 Als AnT An8 AmD AnM AlE AoT Aoy Aly Amr Ak8 An5 AmT Am5 Al7 AmJ AmZ AmS AgP Af6 AgI AhV Qr Ab9 Ad Xp Uf Abf Aaz AaL Nx T8 Wm Ov Od Ah Ak Qd Aa Af Aj Ai Vc Ag Ae Ab Xo Xv tb3 tb4 tb5 tb9 Aeb tb22 tb23 tb25 tb26 tb27 tb28 tb29 tb31 tb32 tb33 tb34 tb36 Are Apj tb41 tb45 Aou Apg Ash Apd tb83 tb84 Aqt tb87 tb88 tb90 tb94 tb97 tb99 Al9 Ao9 AiG AqW Al3 Am1 AiL Ail Am0 Age ArH Alg AoA Akt Anj Aln Ap2 AqR AmV Al6 Ait S0 Rm Aot Anq AoP Amh Al1 Ajd Ajb Ai2 Aiv AgY Adj Sy Rd Kn Kd J5 ArW An1 AlU Am7 Ama Amf Anu Amw Aom Alp AnN Ane Alc AoF AmU Ao2 Aok Aoz AlG AjA AjW Aj7 AkL Ajq AiO Akc Ako Aj9 AjV Akd Aj5 AiI AiH AjL AjC Akh Ajc Agx AnA ApI AfH Ag1 Apx ArM ApV Apa AkT W6 Ann Am3 Wb AmM AoH Vw Al5 Alh Vz Alb Aon Xc Alz AmE Vv Aop Ans Aac Al2 Alt Vu AlO AoX Xb AlJ Amb W5 AlZ AlK Ys Ale AoI nb66 AkD AnJ AjN Ajr Ani AiA Anc AnZ Agl nb41 AiS AkI nb55 Ahj Alf AhO AhQ nb45 Asr nb83 Amj nb99 Anl Aro AmA Ar5 AlT AmG Aq5 AnE Aqd Aqp An3 Ap9 AiB AjF Ams nb94 Aos nb97 Aof nb90 ArZ
def B4 (b : Strings_Builder) (a : List UInt8) : Option (Int×Bool×Strings_Builder) :=
 if Jf (b.buf.length + a.length) 1 then
  lt1 (b.buf ++ a) fun (c : List UInt8) =>
  some ((a.length : Int),false,({ addr:=(),buf:=c } : Strings_Builder))
 else none
def Aw (a : Strings_Builder) (b : UInt8) : Option (Bool×Strings_Builder) :=
 if Jf (a.buf.length + 1) 1 then
  lt1 (a.buf ++ ([b] : List UInt8)) fun (c : List UInt8) =>
  some (false,({ addr:=(),buf:=c } : Strings_Builder))
 else none
def K3 (b : List UInt8) (a : Int) (c : List UInt8) : Option ((Int×List UInt8) ⊕ (List UInt8)) :=
 if (decide (a < (b.length : Int))) = true then
  if InR a b.length then
   ((if (decide ((nth b a.toNat) < (32 : UInt8))) = true then
    some true
   else
    if (decide ((nth b a.toNat) > (126 : UInt8))) = true then
     some true
    else
     if ((nth b a.toNat) == (43 : UInt8)) = true then
      some true
     else
      if ((nth b a.toNat) == (39 : UInt8)) = true then
       some true
      else
       some ((nth b a.toNat) == (63 : UInt8)) : Option (Bool)).bind fun d =>
   if d = true then
    (Aw ({ addr:=(),buf:=c } : Strings_Builder) (63 : UInt8)).bind fun e =>
    lt1 e.2.buf fun (f : List UInt8) =>
    if InR ((AlR (nth b a.toNat) (4 : UInt64).toNat).toNat : Int) (([48,49,50,51,52,53,54,55,56,57,97,98,99,100,101,102] : List UInt8).length) then
     (Aw ({ addr:=(),buf:=f } : Strings_Builder) (nth ([48,49,50,51,52,53,54,55,56,57,97,98,99,100,101,102] : List UInt8) ((AlR (nth b a.toNat) (4 : UInt64).toNat).toNat))).bind fun g =>
     lt1 g.2.buf fun (i : List UInt8) =>
     if InR (((nth b a.toNat) &&& (15 : UInt8)).toNat : Int) (([48,49,50,51,52,53,54,55,56,57,97,98,99,100,101,102] : List UInt8).length) then
      lt1 (nth ([48,49,50,51,52,53,54,55,56,57,97,98,99,100,101,102] : List UInt8) (((nth b a.toNat) &&& (15 : UInt8)).toNat)) fun (j : UInt8) =>
      some (j,i)
     else none
    else none
   else
    some ((nth b a.toNat),c) : Option (UInt8×List UInt8)).bind fun (k,l) =>
   (Aw ({ addr:=(),buf:=l } : Strings_Builder) k).bind fun m =>
   lt1 m.2.buf fun (n : List UInt8) =>
   some (.inl ((w64 (a + 1)),n))
  else none
 else
  some (.inr c)
def Px (a : Strings_Builder) (b : List UInt8) : Option (Strings_Builder) :=
 (A6 (fun (v : Int×List UInt8) => K3 b v.1 v.2) (0,a.buf)).bind fun c =>
 some ({ addr:=(),buf:=c } : Strings_Builder)
def strconv_Itoa (n : Int) : Option (List UInt8):=Ao0 n
def Bh (a : Int) (b : Strings_Builder) : Option (Strings_Builder) :=
 (strconv_Itoa a).bind fun c =>
 (B4 ({ addr:=(),buf:=b.buf } : Strings_Builder) c).bind fun d =>
 lt1 d.2.2.buf fun (e : List UInt8) =>
 some ({ addr:=(),buf:=e } : Strings_Builder)
def Bv (a : UInt8) (b : Strings_Builder) : Option (Strings_Builder) :=
 (Aw ({ addr:=(),buf:=b.buf } : Strings_Builder) (43 : UInt8)).bind fun c =>
 lt1 c.2.buf fun (d : List UInt8) =>
 (Aw ({ addr:=(),buf:=d } : Strings_Builder) a).bind fun e =>
 lt1 e.2.buf fun (f : List UInt8) =>
 some ({ addr:=(),buf:=f } : Strings_Builder)
def K1 (b : Api_Item) (a : Int) (c : List UInt8) : Option ((Int×List UInt8) ⊕ (List UInt8)) :=
 if (decide (a < (b.Zo.length : Int))) = true then
  if InR a b.Zo.length then
   lt1 ((nth b.Zo a.toNat).Zb) fun (d : Int) =>
   lt1 ((nth b.Zo a.toNat).Zc) fun (e : Int) =>
   lt1 ((nth b.Zo a.toNat).Zd) fun (f : Bool) =>
   (Bv (113 : UInt8) ({ addr:=(),buf:=c } : Strings_Builder)).bind fun g =>
   (Bh d ({ addr:=(),buf:=g.buf } : Strings_Builder)).bind fun i =>
   (Aw ({ addr:=(),buf:=i.buf } : Strings_Builder) (46 : UInt8)).bind fun j =>
   (Bh e ({ addr:=(),buf:=j.2.buf } : Strings_Builder)).bind fun k =>
   (B4 ({ addr:=(),buf:=k.buf } : Strings_Builder) (if f = true then ([46,49] : List UInt8) else ([46,48] : List UInt8))).bind fun l =>
   some (.inl ((w64 (a + 1)),l.2.2.buf))
  else none
 else
  some (.inr c)
def J3 (a : Api_Item) : Option (List UInt8×Int) :=
 (if (decide (a.Zb < 1)) = true then
  some true
 else
  some (decide (a.Zb ≥ 16)) : Option (Bool)).bind fun q =>
 if q = true then
  some (([] : List UInt8),110)
 else
  if InR a.Zb 16 then
   (B4 ({ addr:=(),buf:=[] } : Strings_Builder) (glob0.get a.Zb.toNat)).bind fun c =>
   (if (!((a.Ref.Za == 0) && (a.Ref.No == 0))) = true then
    (Bv (114 : UInt8) ({ addr:=(),buf:=c.2.2.buf } : Strings_Builder)).bind fun s =>
    (Bh a.Ref.Za ({ addr:=(),buf:=s.buf } : Strings_Builder)).bind fun t =>
    (Aw ({ addr:=(),buf:=t.buf } : Strings_Builder) (46 : UInt8)).bind fun u =>
    (Bh a.Ref.No ({ addr:=(),buf:=u.2.buf } : Strings_Builder)).bind fun w =>
    some w.buf
   else
    some c.2.2.buf : Option (List UInt8)).bind fun d =>
   ((if (a.Ze != 0) = true then
    (Bv (119 : UInt8) ({ addr:=(),buf:=d } : Strings_Builder)).bind fun x =>
    (Bh a.Ze ({ addr:=(),buf:=x.buf } : Strings_Builder)).bind fun y =>
    some y.buf
   else
    some d : Option (List UInt8)).bind fun e =>
   (if (a.Zf != 0) = true then
    (Bv (112 : UInt8) ({ addr:=(),buf:=e } : Strings_Builder)).bind fun z =>
    (Bh a.Zf ({ addr:=(),buf:=z.buf } : Strings_Builder)).bind fun aa =>
    some aa.buf
   else
    some e : Option (List UInt8)).bind fun f =>
   (if (a.Zg != 0) = true then
    (Bv (111 : UInt8) ({ addr:=(),buf:=f } : Strings_Builder)).bind fun ab =>
    (Bh a.Zg ({ addr:=(),buf:=ab.buf } : Strings_Builder)).bind fun ac =>
    some ac.buf
   else
    some f : Option (List UInt8)).bind fun g =>
   (if (a.Zh != 0) = true then
    (Bv (110 : UInt8) ({ addr:=(),buf:=g } : Strings_Builder)).bind fun ad =>
    (Bh a.Zh ({ addr:=(),buf:=ad.buf } : Strings_Builder)).bind fun ae =>
    some ae.buf
   else
    some g : Option (List UInt8)).bind fun i =>
   (if (a.Zi != 0) = true then
    (Bv (102 : UInt8) ({ addr:=(),buf:=i } : Strings_Builder)).bind fun af =>
    (Bh a.Zi ({ addr:=(),buf:=af.buf } : Strings_Builder)).bind fun ag =>
    some ag.buf
   else
    some i : Option (List UInt8)).bind fun j =>
   (if (a.To != 0) = true then
    (Bv (116 : UInt8) ({ addr:=(),buf:=j } : Strings_Builder)).bind fun ah =>
    (Bh a.To ({ addr:=(),buf:=ah.buf } : Strings_Builder)).bind fun ai =>
    some ai.buf
   else
    some j : Option (List UInt8)).bind fun k =>
   (if (a.Code != 0) = true then
    (Bv (99 : UInt8) ({ addr:=(),buf:=k } : Strings_Builder)).bind fun aj =>
    (Bh a.Code ({ addr:=(),buf:=aj.buf } : Strings_Builder)).bind fun ak =>
    some ak.buf
   else
    some k : Option (List UInt8)).bind fun l =>
   (if (a.Zj != 0) = true then
    (Bv (100 : UInt8) ({ addr:=(),buf:=l } : Strings_Builder)).bind fun al =>
    (Bh a.Zj ({ addr:=(),buf:=al.buf } : Strings_Builder)).bind fun am =>
    some am.buf
   else
    some l : Option (List UInt8)).bind fun m =>
   (if (a.Zk != 0) = true then
    (Bv (107 : UInt8) ({ addr:=(),buf:=m } : Strings_Builder)).bind fun an =>
    (Bh a.Zk ({ addr:=(),buf:=an.buf } : Strings_Builder)).bind fun ao =>
    some ao.buf
   else
    some m : Option (List UInt8)).bind fun n =>
   (if (a.Zl != 0) = true then
    (Bv (103 : UInt8) ({ addr:=(),buf:=n } : Strings_Builder)).bind fun ap =>
    (Bh a.Zl ({ addr:=(),buf:=ap.buf } : Strings_Builder)).bind fun aq =>
    some aq.buf
   else
    some n : Option (List UInt8)).bind fun o =>
   (if (a.Zm != 0) = true then
    (Bv (97 : UInt8) ({ addr:=(),buf:=o } : Strings_Builder)).bind fun ar =>
    (Bh a.Zm ({ addr:=(),buf:=ar.buf } : Strings_Builder)).bind fun au =>
    some au.buf
   else
    some o : Option (List UInt8)).bind fun av =>
   some av : Option (List UInt8)).bind fun p =>
   (if (!(a.Zn == ([] : List UInt8))) = true then
    (Bv (120 : UInt8) ({ addr:=(),buf:=p } : Strings_Builder)).bind fun aw =>
    (Px ({ addr:=(),buf:=aw.buf } : Strings_Builder) a.Zn).bind fun ax =>
    some ax.buf
   else
    some p : Option (List UInt8)).bind fun ay =>
   ((A6 (fun (v : Int×List UInt8) => K1 a v.1 v.2) (0,ay)).bind fun az =>
   some az : Option (List UInt8)).bind fun aA =>
   (Aw ({ addr:=(),buf:=aA } : Strings_Builder) (39 : UInt8)).bind fun b =>
   if (decide ((b.2.buf.length : Int) > 65536)) = true then
    some (([] : List UInt8),2)
   else
    if ¬b.2.buf = [] then
     if Jf b.2.buf.length 1 then
      some (b.2.buf,0)
     else none
    else none
  else none
def K0 (s sep : List UInt8) : Option Int:=Ah8 s sep
def F7 (l : List UInt8) (c : UInt8) : Option (Int):=AeN l c
def Ds (a : List UInt8) (b : UInt8) : Option (Int) :=
 (F7 a b).bind fun c =>
 some c
def Gn (a : List UInt8) (b : UInt8) : Option (Int) :=
 (Ds a b).bind fun c =>
 some c
def Gs (b : List UInt8) (a : List UInt8) : Option (Int) :=
 (if ((a.length : Int) == 0) = true then
  some true
 else
  some (a == b) : Option (Bool)).bind fun c =>
 if c = true then
  some 0
 else
  if ((a.length : Int) == 1) = true then
   if InR 0 a.length then
    (Ds b (nth a 0)).bind fun d =>
    some d
   else none
  else
   if (decide ((a.length : Int) ≥ (b.length : Int))) = true then
    some (-1)
   else
    none
def K7 (a : List UInt8) (b : List UInt8) : Option (Int) :=
 (Gs a b).bind fun c =>
 some c
def Fu (d : List UInt8) (f : Int) (g : Int) (a : List UInt8) (b : Int) (e : List (List UInt8)) : Option ((List UInt8×Int×List (List UInt8)) ⊕ (List UInt8×Int×List (List UInt8))) :=
 if (decide (b < (w64 (g - 1)))) = true then
  (K7 a d).bind fun c =>
  if (decide (c < 0)) = true then
   some (.inr (a,b,e))
  else
   if InB (w64 (c + f)) a.length then
    if InR b e.length then
     lt1 (e.set b.toNat (a.take ((w64 (c + f)).toNat))) fun (i : List (List UInt8)) =>
     if InB (w64 (c + (d.length : Int))) a.length then
      lt1 ((a.drop ((w64 (c + (d.length : Int))).toNat)).take (a.length - (w64 (c + (d.length : Int))).toNat)) fun (j : List UInt8) =>
      some (.inl (j,(w64 (b + 1)),i))
     else none
    else none
   else none
 else
  some (.inr (a,b,e))
def Hq (c : List UInt8) (d : List UInt8) (i : Int) (e : Int) : Option (List (List UInt8)) :=
 if (e == 0) = true then
  some ([])
 else
  if (d == ([] : List UInt8)) = true then
   none
  else
   (if (decide (e < 0)) = true then
    (K0 c d).bind fun j =>
    some (w64 (j + 1))
   else
    some e : Option (Int)).bind fun k =>
   lt1 (AaP k (w64 ((c.length : Int) + 1))) fun (a : Int) =>
   if Mk a a 16 then
    lt1 (List.replicate a.toNat ([] : List UInt8)) fun (l : List (List UInt8)) =>
    ((A6 (fun (v : List UInt8×Int×List (List UInt8)) => Fu d i a v.1 v.2.1 v.2.2) (c,0,l)).bind fun (m,n,o) =>
    some (m,n,o) : Option (List UInt8×Int×List (List UInt8))).bind fun (p,b,f) =>
    if InR b f.length then
     lt1 (f.set b.toNat p) fun (g : List (List UInt8)) =>
     if InB (w64 (b + 1)) g.length then
      some (g.take ((w64 (b + 1)).toNat))
     else none
    else none
   else none
def Ku (a : List UInt8) (b : List UInt8) : Option (List (List UInt8)) :=
 (Hq a b 0 (-1)).bind fun c =>
 some c
def Er (a : List UInt8) (b : List UInt8) : Option (Bool) :=
 (if (decide ((a.length : Int) ≥ (b.length : Int))) = true then
  if InB (w64 ((a.length : Int) - (b.length : Int))) a.length then
   some (((a.drop ((w64 ((a.length : Int) - (b.length : Int))).toNat)).take (a.length - (w64 ((a.length : Int) - (b.length : Int))).toNat)) == b)
  else none
 else
  some false : Option (Bool)).bind fun c =>
 some c
def Ew (a : List UInt8) (b : List UInt8) : Option (List UInt8×Bool) :=
 (Er a b).bind fun c =>
 if (!c) = true then
  some (a,false)
 else
  if InB (w64 ((a.length : Int) - (b.length : Int))) a.length then
   lt1 (a.take ((w64 ((a.length : Int) - (b.length : Int))).toNat)) fun (d : List UInt8) =>
   some (d,true)
  else none
def Gz (b : List UInt8) (c : List UInt8) : Option (List UInt8×Bool) :=
 (Ew b c).bind fun a =>
 some (a.1,a.2)
def Gi (b : List (List UInt8)) (c : List UInt8) (a : Int) : Option ((Int) ⊕ ((Unit) ⊕ ((Unit) ⊕ (Int)))) :=
 if (decide (a < (b.length : Int))) = true then
  if InR a b.length then
   if (c == (nth b a.toNat)) = true then
    ((some a).bind fun d => some (.inr d)).bind fun e => some (.inr (.inr e))
   else
    some (.inl (w64 (a + 1)))
  else none
 else
  some (.inr (.inl ()))
def Ij (a : List (List UInt8)) (b : List UInt8) : Option (Int) :=
 ((A6 (fun (v : Int) => Gi a b v) 0).bind fun x => match x with
 | .inl () =>
  some (.inl ())
 | .inr z => some z : Option ((Unit) ⊕ (Int))).bind fun x => match x with
 | .inl () =>
  some (-1)
 | .inr z => some z
def Bz (s : List UInt8) (n : Int) : Option (List Int×Bool):=Aag s n
def F4 (a : UInt8) : Option (UInt8) :=
 some (a ||| (32 : UInt8))
def Dl (b : List UInt8) (g : UInt64) (e : UInt64) (f : UInt64) (a : Int) : Option ((UInt64×Int) ⊕ ((UInt64) ⊕ ((UInt64) ⊕ (UInt64×Int)))) :=
 if (decide (a < (b.length : Int))) = true then
  (if InR a b.length then
   ((if (nth b a.toNat == (95 : UInt8)) = true then
    some ()
   else
    some () : Option (Unit)).bind fun _ =>
   (if (decide ((48 : UInt8)≤nth b a.toNat)) = true then
    some (decide (nth b a.toNat≤(57 : UInt8)))
   else
    some false : Option (Bool)).bind fun i =>
   if i = true then
    lt1 (nth b a.toNat - (48 : UInt8)) fun (j : UInt8) =>
    some (.inl j)
   else
    ((F4 (nth b a.toNat)).bind fun k =>
    if (decide ((97 : UInt8)≤k)) = true then
     (F4 (nth b a.toNat)).bind fun l =>
     some (decide (l≤(122 : UInt8)))
    else
     some false : Option (Bool)).bind fun m =>
    if m = true then
     (F4 (nth b a.toNat)).bind fun n =>
     lt1 ((n - (97 : UInt8)) + (10 : UInt8)) fun (o : UInt8) =>
     some (.inl o)
    else
     ((((some ((0 : UInt64),2)).bind fun p => some (.inr p)).bind fun q => some (.inr (.inr q))).bind fun s => some (.inr s)).bind fun t => some (.inr t) : Option ((UInt8) ⊕ ((UInt64) ⊕ ((UInt64×Int) ⊕ ((UInt64) ⊕ ((UInt64) ⊕ (UInt64×Int))))))).bind fun x => match x with
   | .inl c =>
    if (decide (c ≥ (UInt8.ofInt 16))) = true then
     (((some ((0 : UInt64),2)).bind fun u => some (.inr u)).bind fun v => some (.inr (.inr v))).bind fun w => some (.inr w)
    else
     if (decide (f ≥ g)) = true then
      (((some (e,1)).bind fun y => some (.inr y)).bind fun aa => some (.inr (.inr aa))).bind fun ab => some (.inr ab)
     else
      lt1 (f * (UInt64.ofInt 16)) fun (d : UInt64) =>
      (if (decide ((d + c.toUInt64) < d)) = true then
       some true
      else
       some (decide ((d + c.toUInt64) > e)) : Option (Bool)).bind fun ac =>
      if ac = true then
       (((some (e,1)).bind fun ad => some (.inr ad)).bind fun ae => some (.inr (.inr ae))).bind fun af => some (.inr af)
      else
       some (.inl (d + c.toUInt64))
   | .inr z => some z
  else none : Option ((UInt64) ⊕ ((UInt64×Int) ⊕ ((UInt64) ⊕ ((UInt64) ⊕ (UInt64×Int)))))).bind fun x => match x with
  | .inl ag =>
   some (.inl (ag,(w64 (a + 1))))
  | .inr z => some z
 else
  some (.inr (.inl f))
def Ef (a : List UInt8) : Option (UInt64×Int) :=
 if (a == ([] : List UInt8)) = true then
  some ((0 : UInt64),2)
 else
  (some () : Option (Unit)).bind fun () =>
  (some () : Option (Unit)).bind fun () =>
  (lt1 (1152921504606846976 : UInt64) fun (b : UInt64) =>
  some b : Option (UInt64)).bind fun c =>
  lt1 ((Lh (1 : UInt64) (UInt64.ofInt 8).toNat) - (1 : UInt64)) fun (d : UInt64) =>
  ((A6 (fun (v : UInt64×Int) => Dl a c d v.1 v.2) ((0 : UInt64),0)).bind fun x => match x with
  | .inl e =>
   some (.inl e)
  | .inr z => some z : Option ((UInt64) ⊕ (UInt64×Int))).bind fun x => match x with
  | .inl f =>
   some (f,0)
  | .inr z => some z
def Gp (s : List UInt8) (b c : Int) : Option (UInt64×Bool):=if b = 16∧c = 8∧s.length≤281474976710656 then (Ef s).bind fun r => if r.2 = 0∨r.2 = 1∨r.2 = 2 then some (r.1,r.2 != 0) else none else none
def Ib (b : List UInt8) (a : Int) (c : List UInt8) : Option ((Int×List UInt8) ⊕ ((List UInt8) ⊕ ((List UInt8) ⊕ (List UInt8×Bool)))) :=
 if (decide (a < (b.length : Int))) = true then
  if InR a b.length then
   (if ((nth b a.toNat) == (63 : UInt8)) = true then
    if (decide ((w64 (a + 2)) ≥ (b.length : Int))) = true then
     (((some (([] : List UInt8),false)).bind fun e => some (.inr e)).bind fun f => some (.inr (.inr f))).bind fun g => some (.inr g)
    else
     if InB (w64 (a + 3)) b.length then
      if InB (w64 (a + 1)) ((w64 (a + 3)).toNat) then
       (Gp ((b.drop ((w64 (a + 1)).toNat)).take ((w64 (a + 3)).toNat - (w64 (a + 1)).toNat)) 16 8).bind fun d =>
       if (!!d.2) = true then
        (((some (([] : List UInt8),false)).bind fun i => some (.inr i)).bind fun j => some (.inr (.inr j))).bind fun k => some (.inr k)
       else
        some (.inl ((w64 (a + 2)),d.1.toUInt8))
      else none
     else none
   else
    some (.inl (a,(nth b a.toNat))) : Option ((Int×UInt8) ⊕ ((Int×List UInt8) ⊕ ((List UInt8) ⊕ ((List UInt8) ⊕ (List UInt8×Bool)))))).bind fun x => match x with
   | .inl (l,m) =>
    (Aw ({ addr:=(),buf:=c } : Strings_Builder) m).bind fun n =>
    some (.inl ((w64 (l + 1)),n.2.buf))
   | .inr z => some z
  else none
 else
  some (.inr (.inl c))
def Jq (b : List UInt8) : Option (List UInt8×Bool) :=
 ((A6 (fun (v : Int×List UInt8) => Ib b v.1 v.2) (0,[])).bind fun x => match x with
 | .inl c =>
  some (.inl c)
 | .inr z => some z : Option ((List UInt8) ⊕ (List UInt8×Bool))).bind fun x => match x with
 | .inl a =>
  if ¬a = [] then
   if Jf a.length 1 then
    some (a,true)
   else none
  else none
 | .inr z => some z
def L8 (s : List UInt8) : Option (List UInt8×Bool):=if s = [] then some ([],true) else Jq s
def V7 (a : Api_Item) (b : List UInt8) : Option (Bool×Api_Item) :=
 if (b == ([] : List UInt8)) = true then
  some (false,a)
 else
  (if InR 0 b.length then
   (Gn ([119,112,111,110,102,116,99,100,107,103,97] : List UInt8) (nth b 0)).bind fun u =>
   lt1 u fun (c : Int) =>
   if (c == 0) = true then
    if InB 1 b.length then
     (Bz ((b.drop 1).take (b.length - 1)) 1).bind fun f =>
     if f.2 = true then
      if InR 0 f.1.length then
       some (f.2,a.Ref.Za,a.Ref.No,nth f.1 0,a.Zf,a.Zg,a.Zh,a.Zi,a.To,a.Code,a.Zj,a.Zk,a.Zl,a.Zm,a.Zn,a.Zo)
      else none
     else
      some (f.2,a.Ref.Za,a.Ref.No,a.Ze,a.Zf,a.Zg,a.Zh,a.Zi,a.To,a.Code,a.Zj,a.Zk,a.Zl,a.Zm,a.Zn,a.Zo)
    else none
   else
    if (c == 1) = true then
     if InB 1 b.length then
      (Bz ((b.drop 1).take (b.length - 1)) 1).bind fun g =>
      if g.2 = true then
       if InR 0 g.1.length then
        some (g.2,a.Ref.Za,a.Ref.No,a.Ze,nth g.1 0,a.Zg,a.Zh,a.Zi,a.To,a.Code,a.Zj,a.Zk,a.Zl,a.Zm,a.Zn,a.Zo)
       else none
      else
       some (g.2,a.Ref.Za,a.Ref.No,a.Ze,a.Zf,a.Zg,a.Zh,a.Zi,a.To,a.Code,a.Zj,a.Zk,a.Zl,a.Zm,a.Zn,a.Zo)
     else none
    else
     if (c == 2) = true then
      if InB 1 b.length then
       (Bz ((b.drop 1).take (b.length - 1)) 1).bind fun i =>
       if i.2 = true then
        if InR 0 i.1.length then
         some (i.2,a.Ref.Za,a.Ref.No,a.Ze,a.Zf,nth i.1 0,a.Zh,a.Zi,a.To,a.Code,a.Zj,a.Zk,a.Zl,a.Zm,a.Zn,a.Zo)
        else none
       else
        some (i.2,a.Ref.Za,a.Ref.No,a.Ze,a.Zf,a.Zg,a.Zh,a.Zi,a.To,a.Code,a.Zj,a.Zk,a.Zl,a.Zm,a.Zn,a.Zo)
      else none
     else
      if (c == 3) = true then
       if InB 1 b.length then
        (Bz ((b.drop 1).take (b.length - 1)) 1).bind fun j =>
        if j.2 = true then
         if InR 0 j.1.length then
          some (j.2,a.Ref.Za,a.Ref.No,a.Ze,a.Zf,a.Zg,nth j.1 0,a.Zi,a.To,a.Code,a.Zj,a.Zk,a.Zl,a.Zm,a.Zn,a.Zo)
         else none
        else
         some (j.2,a.Ref.Za,a.Ref.No,a.Ze,a.Zf,a.Zg,a.Zh,a.Zi,a.To,a.Code,a.Zj,a.Zk,a.Zl,a.Zm,a.Zn,a.Zo)
       else none
      else
       if (c == 4) = true then
        if InB 1 b.length then
         (Bz ((b.drop 1).take (b.length - 1)) 1).bind fun k =>
         if k.2 = true then
          if InR 0 k.1.length then
           some (k.2,a.Ref.Za,a.Ref.No,a.Ze,a.Zf,a.Zg,a.Zh,nth k.1 0,a.To,a.Code,a.Zj,a.Zk,a.Zl,a.Zm,a.Zn,a.Zo)
          else none
         else
          some (k.2,a.Ref.Za,a.Ref.No,a.Ze,a.Zf,a.Zg,a.Zh,a.Zi,a.To,a.Code,a.Zj,a.Zk,a.Zl,a.Zm,a.Zn,a.Zo)
        else none
       else
        if (c == 5) = true then
         if InB 1 b.length then
          (Bz ((b.drop 1).take (b.length - 1)) 1).bind fun l =>
          if l.2 = true then
           if InR 0 l.1.length then
            some (l.2,a.Ref.Za,a.Ref.No,a.Ze,a.Zf,a.Zg,a.Zh,a.Zi,nth l.1 0,a.Code,a.Zj,a.Zk,a.Zl,a.Zm,a.Zn,a.Zo)
           else none
          else
           some (l.2,a.Ref.Za,a.Ref.No,a.Ze,a.Zf,a.Zg,a.Zh,a.Zi,a.To,a.Code,a.Zj,a.Zk,a.Zl,a.Zm,a.Zn,a.Zo)
         else none
        else
         if (c == 6) = true then
          if InB 1 b.length then
           (Bz ((b.drop 1).take (b.length - 1)) 1).bind fun m =>
           if m.2 = true then
            if InR 0 m.1.length then
             some (m.2,a.Ref.Za,a.Ref.No,a.Ze,a.Zf,a.Zg,a.Zh,a.Zi,a.To,nth m.1 0,a.Zj,a.Zk,a.Zl,a.Zm,a.Zn,a.Zo)
            else none
           else
            some (m.2,a.Ref.Za,a.Ref.No,a.Ze,a.Zf,a.Zg,a.Zh,a.Zi,a.To,a.Code,a.Zj,a.Zk,a.Zl,a.Zm,a.Zn,a.Zo)
          else none
         else
          if (c == 7) = true then
           if InB 1 b.length then
            (Bz ((b.drop 1).take (b.length - 1)) 1).bind fun n =>
            if n.2 = true then
             if InR 0 n.1.length then
              some (n.2,a.Ref.Za,a.Ref.No,a.Ze,a.Zf,a.Zg,a.Zh,a.Zi,a.To,a.Code,nth n.1 0,a.Zk,a.Zl,a.Zm,a.Zn,a.Zo)
             else none
            else
             some (n.2,a.Ref.Za,a.Ref.No,a.Ze,a.Zf,a.Zg,a.Zh,a.Zi,a.To,a.Code,a.Zj,a.Zk,a.Zl,a.Zm,a.Zn,a.Zo)
           else none
          else
           if (c == 8) = true then
            if InB 1 b.length then
             (Bz ((b.drop 1).take (b.length - 1)) 1).bind fun o =>
             if o.2 = true then
              if InR 0 o.1.length then
               some (o.2,a.Ref.Za,a.Ref.No,a.Ze,a.Zf,a.Zg,a.Zh,a.Zi,a.To,a.Code,a.Zj,nth o.1 0,a.Zl,a.Zm,a.Zn,a.Zo)
              else none
             else
              some (o.2,a.Ref.Za,a.Ref.No,a.Ze,a.Zf,a.Zg,a.Zh,a.Zi,a.To,a.Code,a.Zj,a.Zk,a.Zl,a.Zm,a.Zn,a.Zo)
            else none
           else
            if (c == 9) = true then
             if InB 1 b.length then
              (Bz ((b.drop 1).take (b.length - 1)) 1).bind fun p =>
              if p.2 = true then
               if InR 0 p.1.length then
                some (p.2,a.Ref.Za,a.Ref.No,a.Ze,a.Zf,a.Zg,a.Zh,a.Zi,a.To,a.Code,a.Zj,a.Zk,nth p.1 0,a.Zm,a.Zn,a.Zo)
               else none
              else
               some (p.2,a.Ref.Za,a.Ref.No,a.Ze,a.Zf,a.Zg,a.Zh,a.Zi,a.To,a.Code,a.Zj,a.Zk,a.Zl,a.Zm,a.Zn,a.Zo)
             else none
            else
             if (c == 10) = true then
              if InB 1 b.length then
               (Bz ((b.drop 1).take (b.length - 1)) 1).bind fun q =>
               if q.2 = true then
                if InR 0 q.1.length then
                 some (q.2,a.Ref.Za,a.Ref.No,a.Ze,a.Zf,a.Zg,a.Zh,a.Zi,a.To,a.Code,a.Zj,a.Zk,a.Zl,nth q.1 0,a.Zn,a.Zo)
                else none
               else
                some (q.2,a.Ref.Za,a.Ref.No,a.Ze,a.Zf,a.Zg,a.Zh,a.Zi,a.To,a.Code,a.Zj,a.Zk,a.Zl,a.Zm,a.Zn,a.Zo)
              else none
             else
              if (decide (c ≥ 0)) = true then
               if InB 1 b.length then
                (Bz ((b.drop 1).take (b.length - 1)) 1).bind fun s =>
                if s.2 = true then
                 none
                else
                 some (s.2,a.Ref.Za,a.Ref.No,a.Ze,a.Zf,a.Zg,a.Zh,a.Zi,a.To,a.Code,a.Zj,a.Zk,a.Zl,a.Zm,a.Zn,a.Zo)
               else none
              else
               if InR 0 b.length then
                if ((nth b 0) == (114 : UInt8)) = true then
                 if InB 1 b.length then
                  (Bz ((b.drop 1).take (b.length - 1)) 2).bind fun e =>
                  if e.2 = true then
                   if InR 0 e.1.length then
                    if InR 1 e.1.length then
                     some (e.2,nth e.1 0,nth e.1 1,a.Ze,a.Zf,a.Zg,a.Zh,a.Zi,a.To,a.Code,a.Zj,a.Zk,a.Zl,a.Zm,a.Zn,a.Zo)
                    else none
                   else none
                  else
                   some (e.2,a.Ref.Za,a.Ref.No,a.Ze,a.Zf,a.Zg,a.Zh,a.Zi,a.To,a.Code,a.Zj,a.Zk,a.Zl,a.Zm,a.Zn,a.Zo)
                 else none
                else
                 if InR 0 b.length then
                  if ((nth b 0) == (120 : UInt8)) = true then
                   if InB 1 b.length then
                    (L8 ((b.drop 1).take (b.length - 1))).bind fun t =>
                    some (t.2,a.Ref.Za,a.Ref.No,a.Ze,a.Zf,a.Zg,a.Zh,a.Zi,a.To,a.Code,a.Zj,a.Zk,a.Zl,a.Zm,t.1,a.Zo)
                   else none
                  else
                   if InR 0 b.length then
                    if ((nth b 0) == (113 : UInt8)) = true then
                     if InB 1 b.length then
                      (Bz ((b.drop 1).take (b.length - 1)) 3).bind fun d =>
                      if d.2 = true then
                       if InR 0 d.1.length then
                        if InR 1 d.1.length then
                         if InR 2 d.1.length then
                          if Jf (a.Zo.length + 1) 24 then
                           lt1 (a.Zo ++ ([({ Zb:=nth d.1 0,Zc:=nth d.1 1,Zd:=(nth d.1 2 == 1) } : Api_Part)] : List Api_Part)) fun (v : List Api_Part) =>
                           some (d.2,a.Ref.Za,a.Ref.No,a.Ze,a.Zf,a.Zg,a.Zh,a.Zi,a.To,a.Code,a.Zj,a.Zk,a.Zl,a.Zm,a.Zn,v)
                          else none
                         else none
                        else none
                       else none
                      else
                       some (d.2,a.Ref.Za,a.Ref.No,a.Ze,a.Zf,a.Zg,a.Zh,a.Zi,a.To,a.Code,a.Zj,a.Zk,a.Zl,a.Zm,a.Zn,a.Zo)
                     else none
                    else
                     some (false,a.Ref.Za,a.Ref.No,a.Ze,a.Zf,a.Zg,a.Zh,a.Zi,a.To,a.Code,a.Zj,a.Zk,a.Zl,a.Zm,a.Zn,a.Zo)
                   else none
                 else none
               else none
  else none : Option (Bool×Int×Int×Int×Int×Int×Int×Int×Int×Int×Int×Int×Int×Int×List UInt8×List Api_Part)).bind fun (w,x,y,z,aa,ab,ac,ad,ae,af,ag,ah,ai,aj,ak,al) =>
  some (w,({ Zb:=a.Zb,Ref:=({ Za:=x,No:=y } : Api_Ref),Ze:=z,Zf:=aa,Zg:=ab,Zh:=ac,Zi:=ad,To:=ae,Code:=af,Zj:=ag,Zk:=ah,Zl:=ai,Zm:=aj,Zn:=ak,Zo:=al } : Api_Item))
def Lw (b : List (List UInt8)) (c : Int) (d : Int) (e : Int) (f : Int) (g : Int) (i : Int) (j : Int) (k : Int) (l : Int) (m : Int) (n : Int) (o : Int) (p : Int) (q : Int) (s : Int) (t : List UInt8) (u : List Api_Part) : Option ((Int×Int×Int×Int×Int×Int×Int×Int×Int×Int×Int×Int×Int×Int×Int×List UInt8×List Api_Part) ⊕ ((Int×Int×Int×Int×Int×Int×Int×Int×Int×Int×Int×Int×Int×Int×List UInt8×List Api_Part) ⊕ ((Int×Int×Int×Int×Int×Int×Int×Int×Int×Int×Int×Int×Int×Int×List UInt8×List Api_Part) ⊕ (Api_Item×Int)))) :=
 lt1 (decide (c < (((b.drop 1).take (b.length - 1)).length : Int))) fun (v : Bool) =>
 if v = true then
  if InR c (((b.drop 1).take (b.length - 1)).length) then
   lt1 (nth ((b.drop 1).take (b.length - 1)) c.toNat) fun (w : List UInt8) =>
   (V7 ({ Zb:=d,Ref:=({ Za:=e,No:=f } : Api_Ref),Ze:=g,Zf:=i,Zg:=j,Zh:=k,Zi:=l,To:=m,Code:=n,Zj:=o,Zk:=p,Zl:=q,Zm:=s,Zn:=t,Zo:=u } : Api_Item) w).bind fun a =>
   lt1 a.2.Zo fun (x : List Api_Part) =>
   if (!a.1) = true then
    ((some (({ Zb:=0,Ref:=({ Za:=0,No:=0 } : Api_Ref),Ze:=0,Zf:=0,Zg:=0,Zh:=0,Zi:=0,To:=0,Code:=0,Zj:=0,Zk:=0,Zl:=0,Zm:=0,Zn:=([] : List UInt8),Zo:=[] } : Api_Item),4)).bind fun y => some (.inr y)).bind fun z => some (.inr (.inr z))
   else
    some (.inl ((w64 (c + 1)),a.2.Zb,a.2.Ref.Za,a.2.Ref.No,a.2.Ze,a.2.Zf,a.2.Zg,a.2.Zh,a.2.Zi,a.2.To,a.2.Code,a.2.Zj,a.2.Zk,a.2.Zl,a.2.Zm,a.2.Zn,x))
  else none
 else
  some (.inr (.inl (d,e,f,g,i,j,k,l,m,n,o,p,q,s,t,u)))
def Ox (b : List UInt8) : Option (Api_Item×Int) :=
 if (decide ((b.length : Int) > 65536)) = true then
  some (({ Zb:=0,Ref:=({ Za:=0,No:=0 } : Api_Ref),Ze:=0,Zf:=0,Zg:=0,Zh:=0,Zi:=0,To:=0,Code:=0,Zj:=0,Zk:=0,Zl:=0,Zm:=0,Zn:=([] : List UInt8),Zo:=[] } : Api_Item),2)
 else
  (Gz b ([39] : List UInt8)).bind fun y =>
  (Ku y.1 ([43] : List UInt8)).bind fun a =>
  if InR 0 a.length then
   (Ij glob0.l (nth a 0)).bind fun aa =>
   (if InB 1 a.length then
    (A6 (fun (v : Int×Int×Int×Int×Int×Int×Int×Int×Int×Int×Int×Int×Int×Int×Int×List UInt8×List Api_Part) => Lw a v.1 v.2.1 v.2.2.1 v.2.2.2.1 v.2.2.2.2.1 v.2.2.2.2.2.1 v.2.2.2.2.2.2.1 v.2.2.2.2.2.2.2.1 v.2.2.2.2.2.2.2.2.1 v.2.2.2.2.2.2.2.2.2.1 v.2.2.2.2.2.2.2.2.2.2.1 v.2.2.2.2.2.2.2.2.2.2.2.1 v.2.2.2.2.2.2.2.2.2.2.2.2.1 v.2.2.2.2.2.2.2.2.2.2.2.2.2.1 v.2.2.2.2.2.2.2.2.2.2.2.2.2.2.1 v.2.2.2.2.2.2.2.2.2.2.2.2.2.2.2.1 v.2.2.2.2.2.2.2.2.2.2.2.2.2.2.2.2) (0,aa,0,0,0,0,0,0,0,0,0,0,0,0,0,([] : List UInt8),[])).bind fun x => match x with
    | .inl (ab,ac,ad,ae,af,ag,ah,ai,aj,ak,al,am,an,ao,ap,aq) =>
     some (.inl (ab,ac,ad,ae,af,ag,ah,ai,aj,ak,al,am,an,ao,ap,aq))
    | .inr z => some z
   else none : Option ((Int×Int×Int×Int×Int×Int×Int×Int×Int×Int×Int×Int×Int×Int×List UInt8×List Api_Part) ⊕ (Api_Item×Int))).bind fun x => match x with
   | .inl (c,d,e,f,g,i,j,k,m,n,o,p,q,s,t,u) =>
    (J3 ({ Zb:=c,Ref:=({ Za:=d,No:=e } : Api_Ref),Ze:=f,Zf:=g,Zg:=i,Zh:=j,Zi:=k,To:=m,Code:=n,Zj:=o,Zk:=p,Zl:=q,Zm:=s,Zn:=t,Zo:=u } : Api_Item)).bind fun w =>
    (if (w.2 != 0) = true then
     some true
    else
     some (!(w.1 == b)) : Option (Bool)).bind fun ar =>
    if ar = true then
     some (({ Zb:=0,Ref:=({ Za:=0,No:=0 } : Api_Ref),Ze:=0,Zf:=0,Zg:=0,Zh:=0,Zi:=0,To:=0,Code:=0,Zj:=0,Zk:=0,Zl:=0,Zm:=0,Zn:=([] : List UInt8),Zo:=[] } : Api_Item),4)
    else
     some (({ Zb:=c,Ref:=({ Za:=d,No:=e } : Api_Ref),Ze:=f,Zf:=g,Zg:=i,Zh:=j,Zi:=k,To:=m,Code:=n,Zj:=o,Zk:=p,Zl:=q,Zm:=s,Zn:=t,Zo:=u } : Api_Item),0)
   | .inr z => some z
  else none
def Ii (a : Api_Item) : Option (Bool) :=
 (if (decide ((a.Zn.length : Int)≤2000)) = true then
  some (decide ((a.Zo.length : Int)≤20))
 else
  some false : Option (Bool)).bind fun b =>
 some b
def Bm (a : Int) : Option (Api_Value) :=
 some (Api_Value.mk 1 a ([]) ([]))
def Wa (a : List UInt8) : Option (Api_Value) :=
 some (Api_Value.mk 2 0 a ([]))
def edi_list_cnil  : Option (Api_Value) :=
 some (Api_Value.mk 3 0 ([]) ([]))
def L7 (a : List Api_Value) : Option (Api_Value) :=
 some (Api_Value.mk 3 0 ([]) a)
def Hy (a : List Api_Value) : Option (Api_Value) :=
 some (Api_Value.mk 3 0 ([]) a)
def Mb (b : Api_Item) (a : Int) (c : List Api_Value) : Option ((Int×List Api_Value) ⊕ (List Api_Value)) :=
 if (decide (a < (b.Zo.length : Int))) = true then
  if InR a b.Zo.length then
   lt1 ((nth b.Zo a.toNat).Zb) fun (e : Int) =>
   lt1 ((nth b.Zo a.toNat).Zc) fun (f : Int) =>
   lt1 ((nth b.Zo a.toNat).Zd) fun (g : Bool) =>
   (if g = true then
    some 1
   else
    some 0 : Option (Int)).bind fun i =>
   (Bm e).bind fun j =>
   (Bm f).bind fun k =>
   (Bm i).bind fun l =>
   (Hy ([j,k,l] : List Api_Value)).bind fun d =>
   if Jf (c.length + 1) 64 then
    lt1 (c ++ ([(Api_Value.mk d.Zb d.N ([]) d.L)] : List Api_Value)) fun (m : List Api_Value) =>
    some (.inl ((w64 (a + 1)),m))
   else none
  else none
 else
  some (.inr c)
def N5 (a : Api_Item) : Option (Api_Value) :=
 (Bm a.Zb).bind fun s =>
 (Bm a.Ref.Za).bind fun t =>
 (Bm a.Ref.No).bind fun u =>
 (Hy ([t,u] : List Api_Value)).bind fun b =>
 lt1 ([s,(Api_Value.mk b.Zb b.N ([]) b.L)] : List Api_Value) fun (d : List Api_Value) =>
 ((Bm a.Ze).bind fun w =>
 if Jf (d.length + 1) 64 then
  lt1 (d ++ ([w] : List Api_Value)) fun (e : List Api_Value) =>
  (Bm a.Zf).bind fun x =>
  if Jf (e.length + 1) 64 then
   lt1 (e ++ ([x] : List Api_Value)) fun (f : List Api_Value) =>
   (Bm a.Zg).bind fun y =>
   if Jf (f.length + 1) 64 then
    lt1 (f ++ ([y] : List Api_Value)) fun (g : List Api_Value) =>
    (Bm a.Zh).bind fun z =>
    if Jf (g.length + 1) 64 then
     lt1 (g ++ ([z] : List Api_Value)) fun (i : List Api_Value) =>
     (Bm a.Zi).bind fun aa =>
     if Jf (i.length + 1) 64 then
      lt1 (i ++ ([aa] : List Api_Value)) fun (j : List Api_Value) =>
      (Bm a.To).bind fun ab =>
      if Jf (j.length + 1) 64 then
       lt1 (j ++ ([ab] : List Api_Value)) fun (k : List Api_Value) =>
       (Bm a.Code).bind fun ac =>
       if Jf (k.length + 1) 64 then
        lt1 (k ++ ([ac] : List Api_Value)) fun (l : List Api_Value) =>
        (Bm a.Zj).bind fun ad =>
        if Jf (l.length + 1) 64 then
         lt1 (l ++ ([ad] : List Api_Value)) fun (m : List Api_Value) =>
         (Bm a.Zk).bind fun ae =>
         if Jf (m.length + 1) 64 then
          lt1 (m ++ ([ae] : List Api_Value)) fun (n : List Api_Value) =>
          (Bm a.Zl).bind fun af =>
          if Jf (n.length + 1) 64 then
           lt1 (n ++ ([af] : List Api_Value)) fun (o : List Api_Value) =>
           (Bm a.Zm).bind fun ag =>
           if Jf (o.length + 1) 64 then
            lt1 (o ++ ([ag] : List Api_Value)) fun (ah : List Api_Value) =>
            some ah
           else none
          else none
         else none
        else none
       else none
      else none
     else none
    else none
   else none
  else none
 else none : Option (List Api_Value)).bind fun p =>
 edi_list_cnil.bind fun q =>
 ((A6 (fun (v : Int×List Api_Value) => Mb a v.1 v.2) (0,[])).bind fun ai =>
 some ai : Option (List Api_Value)).bind fun aj =>
 (Wa a.Zn).bind fun ak =>
 if Jf (p.length + 2) 64 then
  (L7 (p ++ ([ak,(Api_Value.mk q.Zb q.N ([]) aj)] : List Api_Value))).bind fun c =>
  lt1 c.L fun (al : List Api_Value) =>
  some (Api_Value.mk c.Zb c.N ([]) al)
 else none
def Mo (a : List UInt8) (b : List UInt8) : Option (Int):=Ya a b
def H2 (a : Int) : Option (Bool) :=
 some (a != a)
def G3 (a : Int) (b : Int) : Option (Int) :=
 (H2 a).bind fun d =>
 (H2 b).bind fun c =>
 if d = true then
  if c = true then
   some 0
  else
   some (-1)
 else
  if c = true then
   some 1
  else
   if (decide (a < b)) = true then
    some (-1)
   else
    if (decide (a > b)) = true then
     some 1
    else
     some 0
def Kv (a : List UInt8) (b : List UInt8) : Option (Int) :=
 (Mo a b).bind fun c =>
 some c
def D6 (s1_3072 : List Api_Value) (s2_3073 : List Api_Value) (c : Api_Value→Api_Value→Option (Int)) (a : Int) : Option ((Int) ⊕ ((Unit) ⊕ ((Unit) ⊕ (Int)))) :=
 if (decide (a < (s1_3072.length : Int))) = true then
  if InR a s1_3072.length then
   lt1 ((nth s1_3072 a.toNat).Zb) fun (d : Int) =>
   lt1 ((nth s1_3072 a.toNat).N) fun (e : Int) =>
   lt1 ((nth s1_3072 a.toNat).B) fun (f : List UInt8) =>
   lt1 ((nth s1_3072 a.toNat).L) fun (g : List Api_Value) =>
   if (decide (a ≥ (s2_3073.length : Int))) = true then
    ((some 1).bind fun i => some (.inr i)).bind fun j => some (.inr (.inr j))
   else
    if InR a s2_3073.length then
     lt1 ((nth s2_3073 a.toNat).Zb) fun (k : Int) =>
     lt1 ((nth s2_3073 a.toNat).N) fun (l : Int) =>
     lt1 ((nth s2_3073 a.toNat).B) fun (m : List UInt8) =>
     lt1 ((nth s2_3073 a.toNat).L) fun (n : List Api_Value) =>
     (c (Api_Value.mk d e f g) (Api_Value.mk k l m n)).bind fun b =>
     if (b != 0) = true then
      ((some b).bind fun o => some (.inr o)).bind fun p => some (.inr (.inr p))
     else
      some (.inl (w64 (a + 1)))
    else none
  else none
 else
  some (.inr (.inl ()))
def Ep (b : Api_Value→Api_Value→Option (Int)) (s1_3072 : List Api_Value) (s2_3073 : List Api_Value) (a : Api_Value→Api_Value→Option (Int)) : Option (Int) :=
 ((A6 (fun (v : Int) => D6 s1_3072 s2_3073 a v) 0).bind fun x => match x with
 | .inl () =>
  some (.inl ())
 | .inr z => some z : Option ((Unit) ⊕ (Int))).bind fun x => match x with
 | .inl () =>
  if (decide ((s1_3072.length : Int) < (s2_3073.length : Int))) = true then
   some (-1)
  else
   some 0
 | .inr z => some z
def Ik (rec_ : Api_Value→Api_Value→Option (Int)) (a : Api_Value) (b : Api_Value) : Option (Int) :=
 (G3 a.Zb b.Zb).bind fun c =>
 if (c != 0) = true then
  some c
 else
  if (a.Zb == 1) = true then
   (G3 a.N b.N).bind fun d =>
   some d
  else
   if (a.Zb == 2) = true then
    (Kv a.B b.B).bind fun e =>
    some e
   else
    if (a.Zb == 3) = true then
     (Ep rec_ a.L b.L rec_).bind fun f =>
     some f
    else
     some 0
def Id (n : Nat) : Api_Value→Api_Value→Option (Int):=match n with
 | 0 => fun _ _ => none
 | n + 1 => Ik (Id n)
def Oo (a : Api_Value) (b : Api_Value) : Option (Int):=Id 18446744073709551616 a b
def Nh (b : Api_Value) (c : Api_Value) (rec_ : Api_Value→Api_Value→Option (Bool)) (a : Int) : Option ((Int) ⊕ ((Unit) ⊕ ((Unit) ⊕ (Bool)))) :=
 if (decide (a < (b.L.length : Int))) = true then
  if InR a b.L.length then
   if InR a c.L.length then
    (rec_ (nth b.L a.toNat) (nth c.L a.toNat)).bind fun d =>
    if (!d) = true then
     ((some false).bind fun e => some (.inr e)).bind fun f => some (.inr (.inr f))
    else
     some (.inl (w64 (a + 1)))
   else none
  else none
 else
  some (.inr (.inl ()))
def Pq (rec_ : Api_Value→Api_Value→Option (Bool)) (a : Api_Value) (b : Api_Value) : Option (Bool) :=
 (if (a.Zb != b.Zb) = true then
  some true
 else
  (Oo a b).bind fun c =>
  if (c != 0) = true then
   some true
  else
   if (a.N != b.N) = true then
    some true
   else
    if ((a.B.length : Int) != (b.B.length : Int)) = true then
     some true
    else
     some ((a.L.length : Int) != (b.L.length : Int)) : Option (Bool)).bind fun d =>
 if d = true then
  some false
 else
  ((A6 (fun (v : Int) => Nh a b rec_ v) 0).bind fun x => match x with
  | .inl () =>
   some (.inl ())
  | .inr z => some z : Option ((Unit) ⊕ (Bool))).bind fun x => match x with
  | .inl () =>
   some true
  | .inr z => some z
def Ps (n : Nat) : Api_Value→Api_Value→Option (Bool):=match n with
 | 0 => fun _ _ => none
 | n + 1 => Pq (Ps n)
def Ab8 (a : Api_Value) (b : Api_Value) : Option (Bool):=Ps 18446744073709551616 a b
def Hp (c : Api_Value) (a : Int) (d : List Api_Part) : Option ((Int×List Api_Part) ⊕ ((List Api_Part) ⊕ ((List Api_Part) ⊕ (Api_Item×Int)))) :=
 if (decide (a < (((nth c.L 14).L).length : Int))) = true then
  if InR a (((nth c.L 14).L).length) then
   lt1 ((nth ((nth c.L 14).L) a.toNat).Zb) fun (i : Int) =>
   lt1 ((nth ((nth c.L 14).L) a.toNat).N) fun (j : Int) =>
   lt1 ((nth ((nth c.L 14).L) a.toNat).B) fun (k : List UInt8) =>
   lt1 ((nth ((nth c.L 14).L) a.toNat).L) fun (b : List Api_Value) =>
   if ((b.length : Int) != 3) = true then
    ((some (({ Zb:=0,Ref:=({ Za:=0,No:=0 } : Api_Ref),Ze:=0,Zf:=0,Zg:=0,Zh:=0,Zi:=0,To:=0,Code:=0,Zj:=0,Zk:=0,Zl:=0,Zm:=0,Zn:=([] : List UInt8),Zo:=[] } : Api_Item),10)).bind fun e => some (.inr e)).bind fun f => some (.inr (.inr f))
   else
    if InR 0 b.length then
     if InR 1 b.length then
      if InR 2 b.length then
       if Jf (d.length + 1) 24 then
        lt1 (d ++ ([({ Zb:=(nth b 0).N,Zc:=(nth b 1).N,Zd:=((nth b 2).N == 1) } : Api_Part)] : List Api_Part)) fun (g : List Api_Part) =>
        some (.inl ((w64 (a + 1)),g))
       else none
      else none
     else none
    else none
  else none
 else
  some (.inr (.inl d))
def H4 (a : Api_Value) : Option (Api_Item×Int) :=
 (if ((a.L.length : Int) != 15) = true then
  some true
 else
  if InR 1 a.L.length then
   some ((((nth a.L 1).L).length : Int) != 2)
  else none : Option (Bool)).bind fun e =>
 if e = true then
  some (({ Zb:=0,Ref:=({ Za:=0,No:=0 } : Api_Ref),Ze:=0,Zf:=0,Zg:=0,Zh:=0,Zi:=0,To:=0,Code:=0,Zj:=0,Zk:=0,Zl:=0,Zm:=0,Zn:=([] : List UInt8),Zo:=[] } : Api_Item),10)
 else
  if InR 0 a.L.length then
   if InR 1 a.L.length then
    if InR 0 (((nth a.L 1).L).length) then
     if InR 1 a.L.length then
      if InR 1 (((nth a.L 1).L).length) then
       lt1 ((nth ((nth a.L 1).L) 0).N) fun (b : Int) =>
       lt1 ((nth ((nth a.L 1).L) 1).N) fun (c : Int) =>
       (if InR 2 a.L.length then
        if InR 3 a.L.length then
         if InR 4 a.L.length then
          if InR 5 a.L.length then
           if InR 6 a.L.length then
            if InR 7 a.L.length then
             if InR 8 a.L.length then
              if InR 9 a.L.length then
               if InR 10 a.L.length then
                if InR 11 a.L.length then
                 if InR 12 a.L.length then
                  some ()
                 else none
                else none
               else none
              else none
             else none
            else none
           else none
          else none
         else none
        else none
       else none : Option (Unit)).bind fun () =>
       if InR 13 a.L.length then
        (if InR 14 a.L.length then
         (A6 (fun (v : Int×List Api_Part) => Hp a v.1 v.2) (0,[])).bind fun x => match x with
         | .inl f =>
          some (.inl f)
         | .inr z => some z
        else none : Option ((List Api_Part) ⊕ (Api_Item×Int))).bind fun x => match x with
        | .inl d =>
         (N5 ({ Zb:=(nth a.L 0).N,Ref:=({ Za:=b,No:=c } : Api_Ref),Ze:=(nth a.L 2).N,Zf:=(nth a.L 3).N,Zg:=(nth a.L 4).N,Zh:=(nth a.L 5).N,Zi:=(nth a.L 6).N,To:=(nth a.L 7).N,Code:=(nth a.L 8).N,Zj:=(nth a.L 9).N,Zk:=(nth a.L 10).N,Zl:=(nth a.L 11).N,Zm:=(nth a.L 12).N,Zn:=(nth a.L 13).B,Zo:=d } : Api_Item)).bind fun g =>
         (Ab8 g a).bind fun i =>
         if (!i) = true then
          some (({ Zb:=0,Ref:=({ Za:=0,No:=0 } : Api_Ref),Ze:=0,Zf:=0,Zg:=0,Zh:=0,Zi:=0,To:=0,Code:=0,Zj:=0,Zk:=0,Zl:=0,Zm:=0,Zn:=([] : List UInt8),Zo:=[] } : Api_Item),10)
         else
          some (({ Zb:=(nth a.L 0).N,Ref:=({ Za:=b,No:=c } : Api_Ref),Ze:=(nth a.L 2).N,Zf:=(nth a.L 3).N,Zg:=(nth a.L 4).N,Zh:=(nth a.L 5).N,Zi:=(nth a.L 6).N,To:=(nth a.L 7).N,Code:=(nth a.L 8).N,Zj:=(nth a.L 9).N,Zk:=(nth a.L 10).N,Zl:=(nth a.L 11).N,Zm:=(nth a.L 12).N,Zn:=(nth a.L 13).B,Zo:=d } : Api_Item),0)
        | .inr z => some z
       else none
      else none
     else none
    else none
   else none
  else none
def A4 (a : Int) (b : Int) (c : Int) : Option (Bool) :=
 (if (decide (b≤a)) = true then
  some (decide (a≤c))
 else
  some false : Option (Bool)).bind fun d =>
 some d
def Ig (b : List UInt8) (c : UInt8) (a : Int) : Option ((Int) ⊕ ((Unit) ⊕ ((Unit) ⊕ (Bool)))) :=
 if (decide (a < (b.length : Int))) = true then
  if InR a b.length then
   if ((nth b a.toNat) == c) = true then
    ((some true).bind fun d => some (.inr d)).bind fun e => some (.inr (.inr e))
   else
    some (.inl (w64 (a + 1)))
  else none
 else
  some (.inr (.inl ()))
def I8 (a : List UInt8) (b : UInt8) : Option (Bool) :=
 ((A6 (fun (v : Int) => Ig a b v) 0).bind fun x => match x with
 | .inl () =>
  some (.inl ())
 | .inr z => some z : Option ((Unit) ⊕ (Bool))).bind fun x => match x with
 | .inl () =>
  some false
 | .inr z => some z
def Em (a : Int) : Option (List UInt8) :=
 if (a == 1) = true then
  some ([119,111,102] : List UInt8)
 else
  if (a == 2) = true then
   some ([119,112,102,116] : List UInt8)
  else
   (if (a == 3) = true then
    some (a == 3)
   else
    some (a == 4) : Option (Bool)).bind fun b =>
   if b = true then
    some ([119,112,111,102,99] : List UInt8)
   else
    if (a == 5) = true then
     some ([110,119,111,112,100,107,103,102] : List UInt8)
    else
     if (a == 6) = true then
      some ([119,112,111,102,99] : List UInt8)
     else
      if (a == 7) = true then
       some ([119,112,111,102] : List UInt8)
      else
       if (a == 8) = true then
        some ([119,102,99] : List UInt8)
       else
        if (a == 9) = true then
         some ([119,112,102,116,99,97,113] : List UInt8)
        else
         if (a == 10) = true then
          some ([111,113] : List UInt8)
         else
          (if (a == 11) = true then
           some (a == 11)
          else
           some (a == 12) : Option (Bool)).bind fun c =>
          if c = true then
           some ([110,102,120] : List UInt8)
          else
           if (a == 13) = true then
            some ([110,102] : List UInt8)
           else
            if (a == 15) = true then
             some ([111,112,107,110,103,102,116,97] : List UInt8)
            else
             some ([] : List UInt8)
def AcL (a : Api_Item) (c : UInt8) (b : Int) : Option (Api_Item) :=
 (if (c == (119 : UInt8)) = true then
  some (b,a.Zf,a.Zg,a.Zh,a.Zi,a.To,a.Code,a.Zj,a.Zk,a.Zl,a.Zm)
 else
  if (c == (112 : UInt8)) = true then
   some (a.Ze,b,a.Zg,a.Zh,a.Zi,a.To,a.Code,a.Zj,a.Zk,a.Zl,a.Zm)
  else
   if (c == (111 : UInt8)) = true then
    some (a.Ze,a.Zf,b,a.Zh,a.Zi,a.To,a.Code,a.Zj,a.Zk,a.Zl,a.Zm)
   else
    if (c == (110 : UInt8)) = true then
     some (a.Ze,a.Zf,a.Zg,b,a.Zi,a.To,a.Code,a.Zj,a.Zk,a.Zl,a.Zm)
    else
     if (c == (102 : UInt8)) = true then
      some (a.Ze,a.Zf,a.Zg,a.Zh,b,a.To,a.Code,a.Zj,a.Zk,a.Zl,a.Zm)
     else
      if (c == (116 : UInt8)) = true then
       some (a.Ze,a.Zf,a.Zg,a.Zh,a.Zi,b,a.Code,a.Zj,a.Zk,a.Zl,a.Zm)
      else
       if (c == (99 : UInt8)) = true then
        some (a.Ze,a.Zf,a.Zg,a.Zh,a.Zi,a.To,b,a.Zj,a.Zk,a.Zl,a.Zm)
       else
        if (c == (100 : UInt8)) = true then
         some (a.Ze,a.Zf,a.Zg,a.Zh,a.Zi,a.To,a.Code,b,a.Zk,a.Zl,a.Zm)
        else
         if (c == (107 : UInt8)) = true then
          some (a.Ze,a.Zf,a.Zg,a.Zh,a.Zi,a.To,a.Code,a.Zj,b,a.Zl,a.Zm)
         else
          if (c == (103 : UInt8)) = true then
           some (a.Ze,a.Zf,a.Zg,a.Zh,a.Zi,a.To,a.Code,a.Zj,a.Zk,b,a.Zm)
          else
           some (a.Ze,a.Zf,a.Zg,a.Zh,a.Zi,a.To,a.Code,a.Zj,a.Zk,a.Zl,b) : Option (Int×Int×Int×Int×Int×Int×Int×Int×Int×Int×Int)).bind fun (d,e,f,g,i,j,k,l,m,n,o) =>
 some ({ Zb:=a.Zb,Ref:=a.Ref,Ze:=d,Zf:=e,Zg:=f,Zh:=g,Zi:=i,To:=j,Code:=k,Zj:=l,Zk:=m,Zl:=n,Zm:=o,Zn:=a.Zn,Zo:=a.Zo } : Api_Item)
def Hw (a : Api_Item) (c : UInt8) (b : Int) : Option (Api_Item) :=
 (if (c == (119 : UInt8)) = true then
  some (b,a.Zf,a.Zg,a.Zh,a.Zi,a.To,a.Code,a.Zj,a.Zk,a.Zl,a.Zm)
 else
  if (c == (112 : UInt8)) = true then
   some (a.Ze,b,a.Zg,a.Zh,a.Zi,a.To,a.Code,a.Zj,a.Zk,a.Zl,a.Zm)
  else
   if (c == (111 : UInt8)) = true then
    some (a.Ze,a.Zf,b,a.Zh,a.Zi,a.To,a.Code,a.Zj,a.Zk,a.Zl,a.Zm)
   else
    if (c == (110 : UInt8)) = true then
     some (a.Ze,a.Zf,a.Zg,b,a.Zi,a.To,a.Code,a.Zj,a.Zk,a.Zl,a.Zm)
    else
     if (c == (102 : UInt8)) = true then
      some (a.Ze,a.Zf,a.Zg,a.Zh,b,a.To,a.Code,a.Zj,a.Zk,a.Zl,a.Zm)
     else
      if (c == (116 : UInt8)) = true then
       some (a.Ze,a.Zf,a.Zg,a.Zh,a.Zi,b,a.Code,a.Zj,a.Zk,a.Zl,a.Zm)
      else
       if (c == (99 : UInt8)) = true then
        some (a.Ze,a.Zf,a.Zg,a.Zh,a.Zi,a.To,b,a.Zj,a.Zk,a.Zl,a.Zm)
       else
        if (c == (100 : UInt8)) = true then
         some (a.Ze,a.Zf,a.Zg,a.Zh,a.Zi,a.To,a.Code,b,a.Zk,a.Zl,a.Zm)
        else
         if (c == (107 : UInt8)) = true then
          some (a.Ze,a.Zf,a.Zg,a.Zh,a.Zi,a.To,a.Code,a.Zj,b,a.Zl,a.Zm)
         else
          if (c == (103 : UInt8)) = true then
           some (a.Ze,a.Zf,a.Zg,a.Zh,a.Zi,a.To,a.Code,a.Zj,a.Zk,b,a.Zm)
          else
           some (a.Ze,a.Zf,a.Zg,a.Zh,a.Zi,a.To,a.Code,a.Zj,a.Zk,a.Zl,b) : Option (Int×Int×Int×Int×Int×Int×Int×Int×Int×Int×Int)).bind fun (d,e,f,g,i,j,k,l,m,n,o) =>
 some ({ Zb:=a.Zb,Ref:=a.Ref,Ze:=d,Zf:=e,Zg:=f,Zh:=g,Zi:=i,To:=j,Code:=k,Zj:=l,Zk:=m,Zl:=n,Zm:=o,Zn:=a.Zn,Zo:=a.Zo } : Api_Item)
def Cb (a : Api_Item) (b : UInt8) : Option (Int) :=
 if (b == (119 : UInt8)) = true then
  some a.Ze
 else
  if (b == (112 : UInt8)) = true then
   some a.Zf
  else
   if (b == (111 : UInt8)) = true then
    some a.Zg
   else
    if (b == (110 : UInt8)) = true then
     some a.Zh
    else
     if (b == (102 : UInt8)) = true then
      some a.Zi
     else
      if (b == (116 : UInt8)) = true then
       some a.To
      else
       if (b == (99 : UInt8)) = true then
        some a.Code
       else
        if (b == (100 : UInt8)) = true then
         some a.Zj
        else
         if (b == (107 : UInt8)) = true then
          some a.Zk
         else
          if (b == (103 : UInt8)) = true then
           some a.Zl
          else
           some a.Zm
def Hm (a : Api_Item) (b : Int) : Option ((Int) ⊕ ((Unit) ⊕ ((Unit) ⊕ (Bool)))) :=
 if (decide (b < (a.Zo.length : Int))) = true then
  if InR b a.Zo.length then
   lt1 ((nth a.Zo b.toNat).Zb) fun (c : Int) =>
   lt1 ((nth a.Zo b.toNat).Zc) fun (d : Int) =>
   lt1 ((nth a.Zo b.toNat).Zd) fun (e : Bool) =>
   ((A4 c 1 3).bind fun f =>
   if (!f) = true then
    some true
   else
    (A4 d 0 1073741824).bind fun g =>
    if (!g) = true then
     some true
    else
     if (a.Zb == 10) = true then
      some e
     else
      some false : Option (Bool)).bind fun i =>
   if i = true then
    ((some false).bind fun j => some (.inr j)).bind fun k => some (.inr (.inr k))
   else
    some (.inl (w64 (b + 1)))
  else none
 else
  some (.inr (.inl ()))
def Tp (a : Api_Item) : Option (Bool) :=
 (if (decide ((a.Zo.length : Int) > 16)) = true then
  some true
 else
  if (a.Zb == 10) = true then
   some ((a.Zo.length : Int) == 0)
  else
   some false : Option (Bool)).bind fun b =>
 if b = true then
  some false
 else
  ((A6 (fun (v : Int) => Hm a v) 0).bind fun x => match x with
  | .inl () =>
   some (.inl ())
  | .inr z => some z : Option ((Unit) ⊕ (Bool))).bind fun x => match x with
  | .inl () =>
   some true
  | .inr z => some z
def Hr (b : List Api_Part) (c : List Api_Part) (a : Int) : Option ((Int) ⊕ ((Unit) ⊕ ((Unit) ⊕ (Bool)))) :=
 if (decide (a < (b.length : Int))) = true then
  if InR a b.length then
   if InR a c.length then
    lt1 (!(((nth b a.toNat).Zb == (nth c a.toNat).Zb) && (((nth b a.toNat).Zc == (nth c a.toNat).Zc) && ((nth b a.toNat).Zd == (nth c a.toNat).Zd)))) fun (d : Bool) =>
    if d = true then
     ((some false).bind fun e => some (.inr e)).bind fun f => some (.inr (.inr f))
    else
     some (.inl (w64 (a + 1)))
   else none
  else none
 else
  some (.inr (.inl ()))
def Kq (a : List Api_Part) (b : List Api_Part) : Option (Bool) :=
 if ((a.length : Int) != (b.length : Int)) = true then
  some false
 else
  ((A6 (fun (v : Int) => Hr a b v) 0).bind fun x => match x with
  | .inl () =>
   some (.inl ())
  | .inr z => some z : Option ((Unit) ⊕ (Bool))).bind fun x => match x with
  | .inl () =>
   some true
  | .inr z => some z
def Nm (b : Api_Item) (c : Api_Item) (a : Int) : Option ((Int) ⊕ ((Unit) ⊕ ((Unit) ⊕ (Bool)))) :=
 if (decide (a < 11)) = true then
  if InR a (([119,112,111,110,102,116,99,100,107,103,97] : List UInt8).length) then
   (Cb b (nth ([119,112,111,110,102,116,99,100,107,103,97] : List UInt8) a.toNat)).bind fun d =>
   if InR a (([119,112,111,110,102,116,99,100,107,103,97] : List UInt8).length) then
    (Cb c (nth ([119,112,111,110,102,116,99,100,107,103,97] : List UInt8) a.toNat)).bind fun e =>
    if (d != e) = true then
     ((some false).bind fun f => some (.inr f)).bind fun g => some (.inr (.inr g))
    else
     some (.inl (w64 (a + 1)))
   else none
  else none
 else
  some (.inr (.inl ()))
def N2 (a : Api_Item) (b : Api_Item) : Option (Bool) :=
 ((A6 (fun (v : Int) => Nm a b v) 0).bind fun x => match x with
 | .inl () =>
  some (.inl ())
 | .inr z => some z : Option ((Unit) ⊕ (Bool))).bind fun x => match x with
 | .inl () =>
  (if (a.Zb == b.Zb) = true then
   if ((a.Ref.Za == b.Ref.Za) && (a.Ref.No == b.Ref.No)) = true then
    if (a.Zn == b.Zn) = true then
     (Kq a.Zo b.Zo).bind fun c =>
     some c
    else
     some false
   else
    some false
  else
   some false : Option (Bool)).bind fun d =>
  some d
 | .inr z => some z
def Fz (a : UInt64) : Option (Int) :=
 (if (decide (a ≥ (4294967296 : UInt64))) = true then
  lt1 (Hn a (32 : UInt64).toNat) fun (g : UInt64) =>
  some (g,32)
 else
  some (a,0) : Option (UInt64×Int)).bind fun (b,d) =>
 (if (decide (b ≥ (65536 : UInt64))) = true then
  lt1 (Hn b (16 : UInt64).toNat) fun (i : UInt64) =>
  some (i,(w64 (d + 16)))
 else
  some (b,d) : Option (UInt64×Int)).bind fun (c,e) =>
 (if (decide (c ≥ (256 : UInt64))) = true then
  lt1 (Hn c (8 : UInt64).toNat) fun (j : UInt64) =>
  some (j,(w64 (e + 8)))
 else
  some (c,e) : Option (UInt64×Int)).bind fun (f,k) =>
 if InR (f.toUInt8.toNat : Int) (([0,1,2,2,3,3,3,3,4,4,4,4,4,4,4,4,5,5,5,5,5,5,5,5,5,5,5,5,5,5,5,5,6,6,6,6,6,6,6,6,6,6,6,6,6,6,6,6,6,6,6,6,6,6,6,6,6,6,6,6,6,6,6,6,7,7,7,7,7,7,7,7,7,7,7,7,7,7,7,7,7,7,7,7,7,7,7,7,7,7,7,7,7,7,7,7,7,7,7,7,7,7,7,7,7,7,7,7,7,7,7,7,7,7,7,7,7,7,7,7,7,7,7,7,7,7,7,7,8,8,8,8,8,8,8,8,8,8,8,8,8,8,8,8,8,8,8,8,8,8,8,8,8,8,8,8,8,8,8,8,8,8,8,8,8,8,8,8,8,8,8,8,8,8,8,8,8,8,8,8,8,8,8,8,8,8,8,8,8,8,8,8,8,8,8,8,8,8,8,8,8,8,8,8,8,8,8,8,8,8,8,8,8,8,8,8,8,8,8,8,8,8,8,8,8,8,8,8,8,8,8,8,8,8,8,8,8,8,8,8,8,8,8,8,8,8,8,8,8,8,8,8,8,8,8,8] : List UInt8).length) then
  lt1 (w64 (k + ((nth ([0,1,2,2,3,3,3,3,4,4,4,4,4,4,4,4,5,5,5,5,5,5,5,5,5,5,5,5,5,5,5,5,6,6,6,6,6,6,6,6,6,6,6,6,6,6,6,6,6,6,6,6,6,6,6,6,6,6,6,6,6,6,6,6,7,7,7,7,7,7,7,7,7,7,7,7,7,7,7,7,7,7,7,7,7,7,7,7,7,7,7,7,7,7,7,7,7,7,7,7,7,7,7,7,7,7,7,7,7,7,7,7,7,7,7,7,7,7,7,7,7,7,7,7,7,7,7,7,8,8,8,8,8,8,8,8,8,8,8,8,8,8,8,8,8,8,8,8,8,8,8,8,8,8,8,8,8,8,8,8,8,8,8,8,8,8,8,8,8,8,8,8,8,8,8,8,8,8,8,8,8,8,8,8,8,8,8,8,8,8,8,8,8,8,8,8,8,8,8,8,8,8,8,8,8,8,8,8,8,8,8,8,8,8,8,8,8,8,8,8,8,8,8,8,8,8,8,8,8,8,8,8,8,8,8,8,8,8,8,8,8,8,8,8,8,8,8,8,8,8,8,8,8,8,8,8] : List UInt8) f.toUInt8.toNat).toNat : Int))) fun (l : Int) =>
  some l
 else none
def Ke (a : UInt64) (b : UInt64) : Option (UInt64×UInt64) :=
 lt1 (a &&& (4294967295 : UInt64)) fun (x0_8928 : UInt64) =>
 lt1 (Hn a (32 : UInt64).toNat) fun (x1_8930 : UInt64) =>
 lt1 (b &&& (4294967295 : UInt64)) fun (y0_8932 : UInt64) =>
 lt1 (Hn b (32 : UInt64).toNat) fun (y1_8934 : UInt64) =>
 lt1 ((x1_8930 * y0_8932) + (Hn (x0_8928 * y0_8932) (32 : UInt64).toNat)) fun (c : UInt64) =>
 lt1 (c &&& (4294967295 : UInt64)) fun (w1_8938 : UInt64) =>
 lt1 (Hn c (32 : UInt64).toNat) fun (w2_8940 : UInt64) =>
 lt1 (w1_8938 + (x0_8928 * y1_8934)) fun (w1_8942 : UInt64) =>
 lt1 (((x1_8930 * y1_8934) + w2_8940) + (Hn w1_8942 (32 : UInt64).toNat)) fun (d : UInt64) =>
 some (d,(a * b))
def Dj (a : UInt64) : Option (Int) :=
 (Fz a).bind fun b =>
 some (w64 (64 - b))
def Fc (yn1_8958 : UInt64) (yn0_8960 : UInt64) (un1_8966 : UInt64) (q1_9001 : UInt64) (a : UInt64) : Option ((UInt64×UInt64) ⊕ (UInt64)) :=
 (if (decide (q1_9001 ≥ (4294967296 : UInt64))) = true then
  some true
 else
  some (decide ((q1_9001 * yn0_8960) > (((4294967296 : UInt64) * a) + un1_8966))) : Option (Bool)).bind fun b =>
 if b = true then
  if (decide ((a + yn1_8958) ≥ (4294967296 : UInt64))) = true then
   some (.inr (q1_9001 - (1 : UInt64)))
  else
   some (.inl ((q1_9001 - (1 : UInt64)),(a + yn1_8958)))
 else
  some (.inr q1_9001)
def E3 (yn1_8958 : UInt64) (yn0_8960 : UInt64) (un0_8968 : UInt64) (a : UInt64) (q0_9049 : UInt64) : Option ((UInt64×UInt64) ⊕ (UInt64)) :=
 (if (decide (q0_9049 ≥ (4294967296 : UInt64))) = true then
  some true
 else
  some (decide ((q0_9049 * yn0_8960) > (((4294967296 : UInt64) * a) + un0_8968))) : Option (Bool)).bind fun b =>
 if b = true then
  if (decide ((a + yn1_8958) ≥ (4294967296 : UInt64))) = true then
   some (.inr (q0_9049 - (1 : UInt64)))
  else
   some (.inl ((a + yn1_8958),(q0_9049 - (1 : UInt64))))
 else
  some (.inr q0_9049)
def H9 (e : UInt64) (c : UInt64) (a : UInt64) : Option (UInt64×UInt64) :=
 if (a == (0 : UInt64)) = true then
  none
 else
  if (decide (a≤e)) = true then
   none
  else
   if (e == (0 : UInt64)) = true then
    if ¬a = 0 then
     if ¬a = 0 then
      some ((c / a),(c % a))
     else none
    else none
   else
    (Dj a).bind fun b =>
    lt1 (Lh a (UInt64.ofInt b).toNat) fun (d : UInt64) =>
    lt1 (Hn d (32 : UInt64).toNat) fun (yn1_8958 : UInt64) =>
    lt1 (d &&& (4294967295 : UInt64)) fun (yn0_8960 : UInt64) =>
    lt1 ((Lh e (UInt64.ofInt b).toNat) ||| (Hn c ((64 : UInt64) - (UInt64.ofInt b)).toNat)) fun (un32_8962 : UInt64) =>
    lt1 (Lh c (UInt64.ofInt b).toNat) fun (un10_8964 : UInt64) =>
    lt1 (Hn un10_8964 (32 : UInt64).toNat) fun (un1_8966 : UInt64) =>
    lt1 (un10_8964 &&& (4294967295 : UInt64)) fun (un0_8968 : UInt64) =>
    if ¬yn1_8958 = 0 then
     lt1 (un32_8962 - ((un32_8962 / yn1_8958) * yn1_8958)) fun (f : UInt64) =>
     ((A6 (fun (v : UInt64×UInt64) => Fc yn1_8958 yn0_8960 un1_8966 v.1 v.2) ((un32_8962 / yn1_8958),f)).bind fun q1_9006 =>
     some q1_9006 : Option (UInt64)).bind fun q1_8992 =>
     lt1 (((un32_8962 * (4294967296 : UInt64)) + un1_8966) - (q1_8992 * d)) fun (un21_9015 : UInt64) =>
     if ¬yn1_8958 = 0 then
      lt1 (un21_9015 - ((un21_9015 / yn1_8958) * yn1_8958)) fun (g : UInt64) =>
      ((A6 (fun (v : UInt64×UInt64) => E3 yn1_8958 yn0_8960 un0_8968 v.1 v.2) (g,(un21_9015 / yn1_8958))).bind fun q0_9053 =>
      some q0_9053 : Option (UInt64)).bind fun q0_9039 =>
      lt1 ((q1_8992 * (4294967296 : UInt64)) + q0_9039) fun (i : UInt64) =>
      lt1 (Hn (((un21_9015 * (4294967296 : UInt64)) + un0_8968) - (q0_9039 * d)) (UInt64.ofInt b).toNat) fun (j : UInt64) =>
      some (i,j)
     else none
    else none
def Dc (b : Api_Calendar) (d : Int) (a : Int) : Option ((Int×Int) ⊕ ((Unit) ⊕ ((Unit) ⊕ (Int)))) :=
 if (decide (a < (b.Zs.length : Int))) = true then
  if InR a b.Zs.length then
   lt1 (nth b.Zs a.toNat) fun (c : Int) =>
   (if (decide (c≤d)) = true then
    some true
   else
    some (decide (c > 745654)) : Option (Bool)).bind fun e =>
   if e = true then
    ((some 1).bind fun f => some (.inr f)).bind fun g => some (.inr (.inr g))
   else
    some (.inl (c,(w64 (a + 1))))
  else none
 else
  some (.inr (.inl ()))
def Dy (a : Api_Calendar) : Option (Int) :=
 lt1 a.Zr.2.2.2.2.2.1.Zi fun (b : Int) =>
 lt1 a.Zr.2.2.2.2.2.2.Zi fun (c : Int) =>
 ((if (decide (a.Zr.1.Zi < 0)) = true then
  some true
 else
  if (decide (a.Zr.1.To < a.Zr.1.Zi)) = true then
   some true
  else
   some (decide (a.Zr.1.To > 1440)) : Option (Bool)).bind fun d =>
 if d = true then
  (some 1).bind fun e => some (.inr e)
 else
  (if (decide (a.Zr.2.1.Zi < 0)) = true then
   some true
  else
   if (decide (a.Zr.2.1.To < a.Zr.2.1.Zi)) = true then
    some true
   else
    some (decide (a.Zr.2.1.To > 1440)) : Option (Bool)).bind fun f =>
  if f = true then
   (some 1).bind fun g => some (.inr g)
  else
   (if (decide (a.Zr.2.2.1.Zi < 0)) = true then
    some true
   else
    if (decide (a.Zr.2.2.1.To < a.Zr.2.2.1.Zi)) = true then
     some true
    else
     some (decide (a.Zr.2.2.1.To > 1440)) : Option (Bool)).bind fun i =>
   if i = true then
    (some 1).bind fun j => some (.inr j)
   else
    (if (decide (a.Zr.2.2.2.1.Zi < 0)) = true then
     some true
    else
     if (decide (a.Zr.2.2.2.1.To < a.Zr.2.2.2.1.Zi)) = true then
      some true
     else
      some (decide (a.Zr.2.2.2.1.To > 1440)) : Option (Bool)).bind fun k =>
    if k = true then
     (some 1).bind fun l => some (.inr l)
    else
     (if (decide (a.Zr.2.2.2.2.1.Zi < 0)) = true then
      some true
     else
      if (decide (a.Zr.2.2.2.2.1.To < a.Zr.2.2.2.2.1.Zi)) = true then
       some true
      else
       some (decide (a.Zr.2.2.2.2.1.To > 1440)) : Option (Bool)).bind fun m =>
     if m = true then
      (some 1).bind fun n => some (.inr n)
     else
      (if (decide (b < 0)) = true then
       some true
      else
       if (decide (a.Zr.2.2.2.2.2.1.To < b)) = true then
        some true
       else
        some (decide (a.Zr.2.2.2.2.2.1.To > 1440)) : Option (Bool)).bind fun o =>
      if o = true then
       (some 1).bind fun p => some (.inr p)
      else
       (if (decide (c < 0)) = true then
        some true
       else
        if (decide (a.Zr.2.2.2.2.2.2.To < c)) = true then
         some true
        else
         some (decide (a.Zr.2.2.2.2.2.2.To > 1440)) : Option (Bool)).bind fun q =>
       if q = true then
        (some 1).bind fun s => some (.inr s)
       else
        some (.inl ()) : Option ((Unit) ⊕ (Int))).bind fun x => match x with
 | .inl () =>
  ((A6 (fun (v : Int×Int) => Dc a v.1 v.2) ((-1),0)).bind fun x => match x with
  | .inl () =>
   some (.inl ())
  | .inr z => some z : Option ((Unit) ⊕ (Int))).bind fun x => match x with
  | .inl () =>
   some 0
  | .inr z => some z
 | .inr z => some z
def Gc (a : Api_Place) : Option (Bool) :=
 (if (decide (a.Zb < 1)) = true then
  some true
 else
  if (decide (a.Zb > 5)) = true then
   some true
  else
   if (decide (a.Za < 0)) = true then
    some true
   else
    some (decide (a.Za ≥ 16)) : Option (Bool)).bind fun b =>
 if b = true then
  some false
 else
  if (a.Zb != 3) = true then
   some (a.Zg == (-1))
  else
   (if (decide (a.Zg ≥ 0)) = true then
    if (decide (a.Zg < 16)) = true then
     some (a.Zg != a.Za)
    else
     some false
   else
    some false : Option (Bool)).bind fun c =>
   some c
def C8 (b : Api_Network) (a : Int) : Option ((Int) ⊕ ((Unit) ⊕ ((Unit) ⊕ (Int)))) :=
 if (decide (a < (b.Zu.length : Int))) = true then
  if InR a b.Zu.length then
   lt1 ((nth b.Zu a.toNat).Zb) fun (c : Int) =>
   lt1 ((nth b.Zu a.toNat).Za) fun (d : Int) =>
   lt1 ((nth b.Zu a.toNat).Zg) fun (e : Int) =>
   (Gc ({ Zb:=c,Za:=d,Zg:=e } : Api_Place)).bind fun f =>
   if (!f) = true then
    ((some 1).bind fun g => some (.inr g)).bind fun i => some (.inr (.inr i))
   else
    some (.inl (w64 (a + 1)))
  else none
 else
  some (.inr (.inl ()))
def C7 (b : Api_Network) (i : Int) (a : Int) : Option ((Int) ⊕ ((Unit) ⊕ ((Unit) ⊕ (Int)))) :=
 if (decide (a < (b.Zv.length : Int))) = true then
  if InR a b.Zv.length then
   lt1 ((nth b.Zv a.toNat).A) fun (c : Int) =>
   lt1 ((nth b.Zv a.toNat).B) fun (d : Int) =>
   lt1 ((nth b.Zv a.toNat).Za) fun (e : Int) =>
   lt1 ((nth b.Zv a.toNat).Zt) fun (f : Int) =>
   lt1 ((nth b.Zv a.toNat).Km) fun (g : Int) =>
   (if (decide ((AaP (AaP (AaP c d) e) g) < 0)) = true then
    some true
   else
    if (decide ((AcP c d) ≥ i)) = true then
     some true
    else
     if (c == d) = true then
      some true
     else
      if (decide (e ≥ 16)) = true then
       some true
      else
       if (decide (f < 1)) = true then
        some true
       else
        if (decide (f > 100000)) = true then
         some true
        else
         some (decide (g > 10000)) : Option (Bool)).bind fun j =>
   if j = true then
    ((some 1).bind fun k => some (.inr k)).bind fun l => some (.inr (.inr l))
   else
    some (.inl (w64 (a + 1)))
  else none
 else
  some (.inr (.inl ()))
def Gg (a : Api_Network) : Option (Int) :=
 lt1 (a.Zu.length : Int) fun (b : Int) =>
 (if (decide (b > 512)) = true then
  some true
 else
  some (decide ((a.Zv.length : Int) > 2048)) : Option (Bool)).bind fun c =>
 if c = true then
  some 2
 else
  ((A6 (fun (v : Int) => C8 a v) 0).bind fun x => match x with
  | .inl () =>
   some (.inl ())
  | .inr z => some z : Option ((Unit) ⊕ (Int))).bind fun x => match x with
  | .inl () =>
   ((A6 (fun (v : Int) => C7 a b v) 0).bind fun x => match x with
   | .inl () =>
    some (.inl ())
   | .inr z => some z : Option ((Unit) ⊕ (Int))).bind fun x => match x with
   | .inl () =>
    some 0
   | .inr z => some z
  | .inr z => some z
def E5 (c : UInt64) (d : UInt64) (a : UInt64) : Option (UInt64×UInt64) :=
 if ¬a = 0 then
  if ¬a = 0 then
   (Ke (c % a) (d % a)).bind fun b =>
   (H9 b.1 b.2 a).bind fun e =>
   some (e.2,a)
  else none
 else none
def K6 (a : UInt64) : Option (UInt64) :=
 some a
def Fq (g : UInt64) (d : UInt64) (i : Int) (c : UInt64) (a : Int) (j : UInt64) : Option ((UInt64×Int×UInt64) ⊕ (UInt64)) :=
 if (decide (a < i)) = true then
  ((E5 c c j).bind fun b =>
  (Fz d).bind fun e =>
  if Xz (w64 ((w64 (e - 1)) - a)) then
   lt1 (((Hn d ((w64 ((w64 (e - 1)) - a)).toNat)) &&& (1 : UInt64)) == (1 : UInt64)) fun (k : Bool) =>
   if k = true then
    (E5 b.1 g b.2).bind fun f =>
    some (f.1,f.2)
   else
    some (b.1,b.2)
  else none : Option (UInt64×UInt64)).bind fun (l,m) =>
  some (.inl (l,(w64 (a + 1)),m))
 else
  some (.inr c)
def Oi (b : UInt64) (a : UInt64) : Option (UInt64) :=
 (K6 (2305843009213690799 : UInt64)).bind fun c =>
 ((Fz a).bind fun d =>
 (A6 (fun (v : UInt64×Int×UInt64) => Fq b a d v.1 v.2.1 v.2.2) ((1 : UInt64),0,c)).bind fun e =>
 some e : Option (UInt64)).bind fun f =>
 some f
def H7 (a : UInt64) : Option (Bool) :=
 (if (decide (a ≥ (2 : UInt64))) = true then
  if (decide (a < (2305843009213690799 : UInt64))) = true then
   (Oi a (1152921504606845399 : UInt64)).bind fun b =>
   some (b == (1 : UInt64))
  else
   some false
 else
  some false : Option (Bool)).bind fun c =>
 some c
def A2 (a : Int) (b : Int) (c : Int) : Option (Bool) :=
 (if (decide (a ≥ b)) = true then
  some (decide (a≤c))
 else
  some false : Option (Bool)).bind fun d =>
 some d
def A7 (a : Bool) (b : Int) : Option (Int) :=
 if (!a) = true then
  some 1
 else
  some b
def Ek (d : Int) (b : List Int) (a : Int) (c : Int) : Option ((Int×Int) ⊕ (Int)) :=
 if (decide (a < d)) = true then
  if InR a b.length then
   (A2 (nth b a.toNat) 0 1000000).bind fun e =>
   (A7 e c).bind fun f =>
   some (.inl ((w64 (a + 1)),f))
  else none
 else
  some (.inr c)
def D1 (b : Api_Fleet) (a : Int) (d : Int) : Option ((Int×Int) ⊕ (Int)) :=
 if (decide (a < (b.Zm1.length : Int))) = true then
  (if InR a b.Zm1.length then
   lt1 ((nth b.Zm1 a.toNat).Zw) fun (e : Int) =>
   lt1 ((nth b.Zm1 a.toNat).Zx) fun (f : Int) =>
   lt1 ((nth b.Zm1 a.toNat).Zy) fun (g : Int) =>
   lt1 ((nth b.Zm1 a.toNat).Zz) fun (j : Int) =>
   lt1 ((nth b.Zm1 a.toNat).Za1) fun (i : Int) =>
   lt1 ((nth b.Zm1 a.toNat).Zb1) fun (z : UInt64) =>
   lt1 ((nth b.Zm1 a.toNat).Zc1) fun (k : Int) =>
   lt1 ((nth b.Zm1 a.toNat).Zd1) fun (l : Int) =>
   (lt1 (([e,f,g,i] : List Int).length : Int) fun (m : Int) =>
   lt1 ([e,f,g,i] : List Int) fun (n : List Int) =>
   (A6 (fun (v : Int×Int) => Ek m n v.1 v.2) (0,d)).bind fun o =>
   some o : Option (Int)).bind fun c =>
   ((A2 j 0 7).bind fun p =>
   if p = true then
    (A2 k 1 1073741824).bind fun q =>
    if q = true then
     (A2 l 0 100).bind fun s =>
     (A7 s c).bind fun t =>
     some t
    else
     (A7 false c).bind fun u =>
     some u
   else
    (A7 false c).bind fun w =>
    some w : Option (Int)).bind fun x =>
   some x
  else none : Option (Int)).bind fun y =>
  some (.inl ((w64 (a + 1)),y))
 else
  some (.inr d)
def Dt (a : Api_Fleet) (b : Int) (c : Int) : Option ((Int×Int) ⊕ (Int)) :=
 if (decide (b < (a.Zn1.length : Int))) = true then
  if InR b a.Zn1.length then
   lt1 ((nth a.Zn1 b.toNat).Ze1) fun (e : Int) =>
   lt1 ((nth a.Zn1 b.toNat).Zf1) fun (f : Int) =>
   lt1 ((nth a.Zn1 b.toNat).Zg1) fun (g : Int) =>
   lt1 ((nth a.Zn1 b.toNat).Zh1) fun (i : Int) =>
   lt1 ((nth a.Zn1 b.toNat).Zi1) fun (j : Int) =>
   ((A2 e 0 (w64 ((a.Zm1.length : Int) - 1))).bind fun k =>
   if k = true then
    (A2 f 0 63).bind fun l =>
    if l = true then
     (A2 g 0 511).bind fun m =>
     (A7 m c).bind fun n =>
     some n
    else
     (A7 false c).bind fun o =>
     some o
   else
    (A7 false c).bind fun p =>
    some p : Option (Int)).bind fun d =>
   ((A2 i 0 1073741824).bind fun q =>
   if q = true then
    (A2 j 0 1099511627776).bind fun s =>
    (A7 s d).bind fun t =>
    some t
   else
    (A7 false d).bind fun u =>
    some u : Option (Int)).bind fun v =>
   some (.inl ((w64 (b + 1)),v))
  else none
 else
  some (.inr c)
def Du (a : Api_Fleet) (b : Int) (c : Int) : Option ((Int×Int) ⊕ (Int)) :=
 if (decide (b < (a.Zo1.length : Int))) = true then
  if InR b a.Zo1.length then
   lt1 ((nth a.Zo1 b.toNat).Zj1) fun (d : Int) =>
   lt1 ((nth a.Zo1 b.toNat).Zk1) fun (e : Int) =>
   lt1 ((nth a.Zo1 b.toNat).Zl1) fun (f : Int) =>
   ((A2 d 0 (w64 ((a.Zm1.length : Int) - 1))).bind fun g =>
   if g = true then
    (A2 e 0 (w64 ((a.Zm1.length : Int) - 1))).bind fun i =>
    if i = true then
     if (d != e) = true then
      (A2 f 0 1000000000).bind fun j =>
      (A7 j c).bind fun k =>
      some k
     else
      (A7 false c).bind fun l =>
      some l
    else
     (A7 false c).bind fun m =>
     some m
   else
    (A7 false c).bind fun n =>
    some n : Option (Int)).bind fun o =>
   some (.inl ((w64 (b + 1)),o))
  else none
 else
  some (.inr c)
def D2 (d : Api_Fleet) (a : Int) (f : Int) (e : Arr Bool 4096) : Option ((Int×Int×Arr Bool 4096) ⊕ (Int)) :=
 if (decide (a < (d.Zp1.length : Int))) = true then
  (if InR a d.Zp1.length then
   lt1 ((nth d.Zp1 a.toNat).Zi) fun (b : Int) =>
   lt1 ((nth d.Zp1 a.toNat).To) fun (c : Int) =>
   lt1 ((nth d.Zp1 a.toNat).Zt) fun (j : Int) =>
   ((A2 b 0 63).bind fun k =>
   if k = true then
    (A2 c 0 63).bind fun l =>
    if l = true then
     if (b != c) = true then
      (A2 j 0 100000).bind fun m =>
      some m
     else
      some false
    else
     some false
   else
    some false : Option (Bool)).bind fun g =>
   (A7 g f).bind fun i =>
   if g = true then
    if InR b 64 then
     if InR c 64 then
      (A7 (!(e.get (b.toNat * 64 + c.toNat))) i).bind fun n =>
      if InR b 64 then
       if InR c 64 then
        lt1 (e.set (b.toNat * 64 + c.toNat) true) fun (o : Arr Bool 4096) =>
        some (n,o)
       else none
      else none
     else none
    else none
   else
    some (i,e)
  else none : Option (Int×Arr Bool 4096)).bind fun (p,q) =>
  some (.inl ((w64 (a + 1)),p,q))
 else
  some (.inr f)
def Im (a : Api_Fleet) : Option (Int) :=
 (if (decide ((a.Zm1.length : Int) > 32)) = true then
  some true
 else
  if (decide ((a.Zn1.length : Int) > 4096)) = true then
   some true
  else
   if (decide ((a.Zo1.length : Int) > 1024)) = true then
    some true
   else
    some (decide ((a.Zp1.length : Int) > 4096)) : Option (Bool)).bind fun b =>
 if b = true then
  some 2
 else
  ((A6 (fun (v : Int×Int) => D1 a v.1 v.2) (0,0)).bind fun c =>
  some c : Option (Int)).bind fun d =>
  ((A6 (fun (v : Int×Int) => Dt a v.1 v.2) (0,d)).bind fun e =>
  some e : Option (Int)).bind fun f =>
  ((A6 (fun (v : Int×Int) => Du a v.1 v.2) (0,f)).bind fun g =>
  some g : Option (Int)).bind fun i =>
  ((A6 (fun (v : Int×Int×Arr Bool 4096) => D2 a v.1 v.2.1 v.2.2) (0,i,(Arr.rep 4096 false))).bind fun j =>
  some j : Option (Int)).bind fun k =>
  some k
def Cm (a : Api_Pool) (c : Bool) (b : Int) : Option ((Bool×Int) ⊕ (Bool)) :=
 if (decide (b < (a.Zu1.length : Int))) = true then
  if InR b a.Zu1.length then
   lt1 ((nth a.Zu1 b.toNat).Zf) fun (f : Int) =>
   lt1 ((nth a.Zu1 b.toNat).Low) fun (d : Int) =>
   lt1 ((nth a.Zu1 b.toNat).Zq1) fun (e : Int) =>
   (if c = true then
    some true
   else
    (A2 f 0 (w64 ((a.Zs1.Zu.length : Int) - 1))).bind fun g =>
    if (!g) = true then
     some true
    else
     if (decide (d < (-1000))) = true then
      some true
     else
      if (decide (d > e)) = true then
       some true
      else
       some (decide (e > 1000)) : Option (Bool)).bind fun i =>
   some (.inl (i,(w64 (b + 1))))
  else none
 else
  some (.inr c)
def Cn (a : Api_Pool) (d : Bool) (b : Int) : Option ((Bool×Int) ⊕ (Bool)) :=
 if (decide (b < (a.Zv1.length : Int))) = true then
  if InR b a.Zv1.length then
   lt1 ((nth a.Zv1 b.toNat).Zf) fun (c : Int) =>
   (if d = true then
    some true
   else
    (A2 c 0 (w64 ((a.Zs1.Zu.length : Int) - 1))).bind fun e =>
    if (!e) = true then
     some true
    else
     if InR c a.Zs1.Zu.length then
      some ((nth a.Zs1.Zu c.toNat).Zb != 4)
     else none : Option (Bool)).bind fun f =>
   some (.inl (f,(w64 (b + 1))))
  else none
 else
  some (.inr d)
def Cq (a : Api_Pool) (c : Bool) (b : Int) : Option ((Bool×Int) ⊕ (Bool)) :=
 if (decide (b < (a.Zt1.Zn1.length : Int))) = true then
  if InR b a.Zt1.Zn1.length then
   lt1 ((nth a.Zt1.Zn1 b.toNat).Ze1) fun (f : Int) =>
   lt1 ((nth a.Zt1.Zn1 b.toNat).Zf1) fun (g : Int) =>
   lt1 ((nth a.Zt1.Zn1 b.toNat).Zg1) fun (d : Int) =>
   lt1 ((nth a.Zt1.Zn1 b.toNat).Zh1) fun (i : Int) =>
   lt1 ((nth a.Zt1.Zn1 b.toNat).Zi1) fun (j : Int) =>
   (if c = true then
    some true
   else
    some (decide (d ≥ (a.Zs1.Zu.length : Int))) : Option (Bool)).bind fun e =>
   some (.inl (e,(w64 (b + 1))))
  else none
 else
  some (.inr c)
def Cl (b : Api_Pool) (c : Int) (d : Bool) (a : Int) : Option ((Bool×Int) ⊕ (Bool)) :=
 if (decide (a < (b.Zs1.Zu.length : Int))) = true then
  if InR a b.Zs1.Zu.length then
   lt1 ((nth b.Zs1.Zu a.toNat).Zb) fun (i : Int) =>
   lt1 ((nth b.Zs1.Zu a.toNat).Za) fun (e : Int) =>
   lt1 ((nth b.Zs1.Zu a.toNat).Zg) fun (f : Int) =>
   (if d = true then
    some true
   else
    if (decide (e ≥ c)) = true then
     some true
    else
     some (decide (f ≥ c)) : Option (Bool)).bind fun g =>
   some (.inl (g,(w64 (a + 1))))
  else none
 else
  some (.inr d)
def Ci (b : Api_Pool) (d : Int) (c : Bool) (a : Int) : Option ((Bool×Int) ⊕ (Bool)) :=
 if (decide (a < (b.Zs1.Zv.length : Int))) = true then
  if InR a b.Zs1.Zv.length then
   lt1 ((nth b.Zs1.Zv a.toNat).A) fun (g : Int) =>
   lt1 ((nth b.Zs1.Zv a.toNat).B) fun (i : Int) =>
   lt1 ((nth b.Zs1.Zv a.toNat).Za) fun (e : Int) =>
   lt1 ((nth b.Zs1.Zv a.toNat).Zt) fun (j : Int) =>
   lt1 ((nth b.Zs1.Zv a.toNat).Km) fun (k : Int) =>
   (if c = true then
    some true
   else
    some (decide (e ≥ d)) : Option (Bool)).bind fun f =>
   some (.inl (f,(w64 (a + 1))))
  else none
 else
  some (.inr c)
def Cj (b : Api_Pool) (c : Bool) (a : Int) : Option ((Bool×Int) ⊕ (Bool)) :=
 if (decide (a < (b.Zw1.length : Int))) = true then
  if InR a b.Zw1.length then
   lt1 ((nth b.Zw1 a.toNat).Key) fun (d : UInt64) =>
   lt1 (((((nth b.Zw1 a.toNat).Zr1).Zr).1).Zi) fun (e : Int) =>
   lt1 (((((nth b.Zw1 a.toNat).Zr1).Zr).1).To) fun (f : Int) =>
   lt1 (((((nth b.Zw1 a.toNat).Zr1).Zr).2.1).Zi) fun (g : Int) =>
   lt1 (((((nth b.Zw1 a.toNat).Zr1).Zr).2.1).To) fun (i : Int) =>
   lt1 (((((nth b.Zw1 a.toNat).Zr1).Zr).2.2.1).Zi) fun (j : Int) =>
   lt1 (((((nth b.Zw1 a.toNat).Zr1).Zr).2.2.1).To) fun (k : Int) =>
   lt1 (((((nth b.Zw1 a.toNat).Zr1).Zr).2.2.2.1).Zi) fun (l : Int) =>
   lt1 (((((nth b.Zw1 a.toNat).Zr1).Zr).2.2.2.1).To) fun (m : Int) =>
   lt1 (((((nth b.Zw1 a.toNat).Zr1).Zr).2.2.2.2.1).Zi) fun (n : Int) =>
   lt1 (((((nth b.Zw1 a.toNat).Zr1).Zr).2.2.2.2.1).To) fun (o : Int) =>
   lt1 (((((nth b.Zw1 a.toNat).Zr1).Zr).2.2.2.2.2.1).Zi) fun (p : Int) =>
   lt1 (((((nth b.Zw1 a.toNat).Zr1).Zr).2.2.2.2.2.1).To) fun (q : Int) =>
   lt1 (((((nth b.Zw1 a.toNat).Zr1).Zr).2.2.2.2.2.2).Zi) fun (s : Int) =>
   lt1 (((((nth b.Zw1 a.toNat).Zr1).Zr).2.2.2.2.2.2).To) fun (t : Int) =>
   lt1 (((nth b.Zw1 a.toNat).Zr1).Zs) fun (u : List Int) =>
   (if c = true then
    some true
   else
    (Dy ({ Zr:=(({ Zi:=e,To:=f } : Api_Span),({ Zi:=g,To:=i } : Api_Span),({ Zi:=j,To:=k } : Api_Span),({ Zi:=l,To:=m } : Api_Span),({ Zi:=n,To:=o } : Api_Span),({ Zi:=p,To:=q } : Api_Span),({ Zi:=s,To:=t } : Api_Span)),Zs:=u } : Api_Calendar)).bind fun v =>
    if (v != 0) = true then
     some true
    else
     (H7 d).bind fun w =>
     some (!w) : Option (Bool)).bind fun x =>
   some (.inl (x,(w64 (a + 1))))
  else none
 else
  some (.inr c)
def Ea (a : Api_Pool) : Option (Int) :=
 (Gg a.Zs1).bind fun c =>
 if (c != 0) = true then
  some c
 else
  (Im a.Zt1).bind fun d =>
  if (d != 0) = true then
   some d
  else
   (if (decide ((a.Zu1.length : Int) > 256)) = true then
    some true
   else
    if (decide ((a.Zv1.length : Int) > 256)) = true then
     some true
    else
     some (decide ((a.Zw1.length : Int) > 16)) : Option (Bool)).bind fun e =>
   if e = true then
    some 2
   else
    lt1 (a.Zw1.length : Int) fun (b : Int) =>
    ((A6 (fun (v : Bool×Int) => Cm a v.1 v.2) ((b == 0),0)).bind fun f =>
    some f : Option (Bool)).bind fun g =>
    ((A6 (fun (v : Bool×Int) => Cn a v.1 v.2) (g,0)).bind fun i =>
    some i : Option (Bool)).bind fun j =>
    ((A6 (fun (v : Bool×Int) => Cq a v.1 v.2) (j,0)).bind fun k =>
    some k : Option (Bool)).bind fun l =>
    ((A6 (fun (v : Bool×Int) => Cl a b v.1 v.2) (l,0)).bind fun m =>
    some m : Option (Bool)).bind fun n =>
    ((A6 (fun (v : Bool×Int) => Ci a b v.1 v.2) (n,0)).bind fun o =>
    some o : Option (Bool)).bind fun p =>
    ((A6 (fun (v : Bool×Int) => Cj a v.1 v.2) (p,0)).bind fun q =>
    some q : Option (Bool)).bind fun s =>
    if s = true then
     some 1
    else
     some 0
def G7 (b : Api_Pool) (a : Int) : Option ((Int) ⊕ ((Unit) ⊕ ((Unit) ⊕ (Bool)))) :=
 (if (decide (a < (b.Zw1.length : Int))) = true then
  some (decide (a < 18))
 else
  some false : Option (Bool)).bind fun c =>
 if c = true then
  if InR a b.Zw1.length then
   lt1 (decide (((((nth b.Zw1 a.toNat).Zr1).Zs).length : Int) > 10)) fun (d : Bool) =>
   if d = true then
    ((some false).bind fun e => some (.inr e)).bind fun f => some (.inr (.inr f))
   else
    some (.inl (w64 (a + 1)))
  else none
 else
  some (.inr (.inl ()))
def J4 (a : Api_Pool) : Option (Bool) :=
 ((A6 (fun (v : Int) => G7 a v) 0).bind fun x => match x with
 | .inl () =>
  some (.inl ())
 | .inr z => some z : Option ((Unit) ⊕ (Bool))).bind fun x => match x with
 | .inl () =>
  (if (decide ((a.Zs1.Zu.length : Int)≤40)) = true then
   some (decide ((a.Zs1.Zv.length : Int)≤40))
  else
   some false : Option (Bool)).bind fun b =>
  (if (decide ((a.Zt1.Zn1.length : Int)≤40)) = true then
   if (decide ((a.Zt1.Zm1.length : Int)≤40)) = true then
    if (decide ((a.Zt1.Zo1.length : Int)≤40)) = true then
     some (decide ((a.Zt1.Zp1.length : Int)≤40))
    else
     some false
   else
    some false
  else
   some false : Option (Bool)).bind fun c =>
  (if b = true then
   if c = true then
    if (decide ((a.Zu1.length : Int)≤40)) = true then
     if (decide ((a.Zv1.length : Int)≤40)) = true then
      some (decide ((a.Zw1.length : Int)≤17))
     else
      some false
    else
     some false
   else
    some false
  else
   some false : Option (Bool)).bind fun d =>
  some d
 | .inr z => some z
def D0 (a : Int) (b : Int) (c : Int) : Option (Bool) :=
 (if (decide (b≤a)) = true then
  some (decide (a≤c))
 else
  some false : Option (Bool)).bind fun d =>
 some d
def J2 (a : Api_Place) : Option (Bool) :=
 ((D0 a.Zb 1 5).bind fun b =>
 if (!b) = true then
  some true
 else
  (D0 a.Za 0 15).bind fun c =>
  some (!c) : Option (Bool)).bind fun d =>
 if d = true then
  some false
 else
  if (a.Zb == 3) = true then
   ((D0 a.Zg 0 15).bind fun e =>
   if e = true then
    some (a.Zg != a.Za)
   else
    some false : Option (Bool)).bind fun f =>
   some f
  else
   some (a.Zg == (-1))
def Oe (a : Api_Edge) (b : Int) : Option (Bool) :=
 ((D0 a.A 0 (w64 (b - 1))).bind fun c =>
 if c = true then
  (D0 a.B 0 (w64 (b - 1))).bind fun d =>
  if d = true then
   if (a.A != a.B) = true then
    (D0 a.Za 0 15).bind fun e =>
    if e = true then
     (D0 a.Zt 1 100000).bind fun f =>
     if f = true then
      (D0 a.Km 0 10000).bind fun g =>
      some g
     else
      some false
    else
     some false
   else
    some false
  else
   some false
 else
  some false : Option (Bool)).bind fun i =>
 some i
def Hi (b : Api_Network) (a : Int) : Option ((Int) ⊕ ((Unit) ⊕ ((Unit) ⊕ (Int)))) :=
 if (decide (a < (b.Zu.length : Int))) = true then
  if InR a b.Zu.length then
   (J2 (nth b.Zu a.toNat)).bind fun c =>
   if (!c) = true then
    ((some 1).bind fun d => some (.inr d)).bind fun e => some (.inr (.inr e))
   else
    some (.inl (w64 (a + 1)))
  else none
 else
  some (.inr (.inl ()))
def G9 (a : Api_Network) (b : Int) : Option ((Int) ⊕ ((Unit) ⊕ ((Unit) ⊕ (Int)))) :=
 if (decide (b < (a.Zv.length : Int))) = true then
  if InR b a.Zv.length then
   (Oe (nth a.Zv b.toNat) (a.Zu.length : Int)).bind fun c =>
   if (!c) = true then
    ((some 1).bind fun d => some (.inr d)).bind fun e => some (.inr (.inr e))
   else
    some (.inl (w64 (b + 1)))
  else none
 else
  some (.inr (.inl ()))
def Tg (a : Api_Network) : Option (Int) :=
 (if (decide ((a.Zu.length : Int) > 512)) = true then
  some true
 else
  some (decide ((a.Zv.length : Int) > 2048)) : Option (Bool)).bind fun b =>
 if b = true then
  some 2
 else
  ((A6 (fun (v : Int) => Hi a v) 0).bind fun x => match x with
  | .inl () =>
   some (.inl ())
  | .inr z => some z : Option ((Unit) ⊕ (Int))).bind fun x => match x with
  | .inl () =>
   ((A6 (fun (v : Int) => G9 a v) 0).bind fun x => match x with
   | .inl () =>
    some (.inl ())
   | .inr z => some z : Option ((Unit) ⊕ (Int))).bind fun x => match x with
   | .inl () =>
    some 0
   | .inr z => some z
  | .inr z => some z
def Bk (a : Int) (b : Int) (c : Int) : Option (Bool) :=
 (if (decide (a ≥ b)) = true then
  some (decide (a≤c))
 else
  some false : Option (Bool)).bind fun d =>
 some d
def F5 (a : Api_WagonType) : Option (Bool) :=
 ((Bk a.Zw 0 1000000).bind fun b =>
 if b = true then
  (Bk a.Zx 0 1000000).bind fun c =>
  if c = true then
   (Bk a.Zy 0 1000000).bind fun d =>
   if d = true then
    (Bk a.Za1 0 1000000).bind fun e =>
    if e = true then
     (Bk a.Zz 0 7).bind fun f =>
     if f = true then
      (Bk a.Zc1 1 1073741824).bind fun g =>
      if g = true then
       (Bk a.Zd1 0 100).bind fun i =>
       some i
      else
       some false
     else
      some false
    else
     some false
   else
    some false
  else
   some false
 else
  some false : Option (Bool)).bind fun j =>
 some j
def Fi (a : Api_Wagon) (b : Int) : Option (Bool) :=
 ((Bk a.Ze1 0 (w64 (b - 1))).bind fun c =>
 if c = true then
  (Bk a.Zf1 0 63).bind fun d =>
  if d = true then
   (Bk a.Zg1 0 511).bind fun e =>
   if e = true then
    (Bk a.Zh1 0 1073741824).bind fun f =>
    if f = true then
     (Bk a.Zi1 0 1099511627776).bind fun g =>
     some g
    else
     some false
   else
    some false
  else
   some false
 else
  some false : Option (Bool)).bind fun i =>
 some i
def Ks (d : List Api_Wash) (a : Int) (e : List Bool) : Option ((Int×List Bool) ⊕ ((Unit) ⊕ ((Unit) ⊕ (Int)))) :=
 if (decide (a < (d.length : Int))) = true then
  if InR a d.length then
   lt1 ((nth d a.toNat).Zi) fun (b : Int) =>
   lt1 ((nth d a.toNat).To) fun (c : Int) =>
   lt1 ((nth d a.toNat).Zt) fun (f : Int) =>
   ((Bk b 0 63).bind fun g =>
   if (!g) = true then
    some true
   else
    (Bk c 0 63).bind fun i =>
    if (!i) = true then
     some true
    else
     if (b == c) = true then
      some true
     else
      (Bk f 0 100000).bind fun j =>
      some (!j) : Option (Bool)).bind fun k =>
   if k = true then
    ((some 1).bind fun l => some (.inr l)).bind fun m => some (.inr (.inr m))
   else
    if InR (w64 ((w64 (64 * b)) + c)) e.length then
     if nth e ((w64 ((w64 (64 * b)) + c)).toNat) = true then
      ((some 1).bind fun n => some (.inr n)).bind fun o => some (.inr (.inr o))
     else
      if InR (w64 ((w64 (64 * b)) + c)) e.length then
       lt1 (e.set ((w64 ((w64 (64 * b)) + c)).toNat) true) fun (p : List Bool) =>
       some (.inl ((w64 (a + 1)),p))
      else none
    else none
  else none
 else
  some (.inr (.inl ()))
def P3 (a : List Api_Wash) : Option (Int) :=
 if Mk 4096 4096 1 then
  lt1 (List.replicate 4096 false) fun (b : List Bool) =>
  ((A6 (fun (v : Int×List Bool) => Ks a v.1 v.2) (0,b)).bind fun x => match x with
  | .inl () =>
   some (.inl ())
  | .inr z => some z : Option ((Unit) ⊕ (Int))).bind fun x => match x with
  | .inl () =>
   some 0
  | .inr z => some z
 else none
def Hh (b : Api_Fleet) (a : Int) : Option ((Int) ⊕ ((Unit) ⊕ ((Unit) ⊕ (Int)))) :=
 if (decide (a < (b.Zm1.length : Int))) = true then
  if InR a b.Zm1.length then
   (F5 (nth b.Zm1 a.toNat)).bind fun c =>
   if (!c) = true then
    ((some 1).bind fun d => some (.inr d)).bind fun e => some (.inr (.inr e))
   else
    some (.inl (w64 (a + 1)))
  else none
 else
  some (.inr (.inl ()))
def He (a : Api_Fleet) (b : Int) : Option ((Int) ⊕ ((Unit) ⊕ ((Unit) ⊕ (Int)))) :=
 if (decide (b < (a.Zn1.length : Int))) = true then
  if InR b a.Zn1.length then
   (Fi (nth a.Zn1 b.toNat) (a.Zm1.length : Int)).bind fun c =>
   if (!c) = true then
    ((some 1).bind fun d => some (.inr d)).bind fun e => some (.inr (.inr e))
   else
    some (.inl (w64 (b + 1)))
  else none
 else
  some (.inr (.inl ()))
def G8 (a : Api_Fleet) (b : Int) : Option ((Int) ⊕ ((Unit) ⊕ ((Unit) ⊕ (Int)))) :=
 if (decide (b < (a.Zo1.length : Int))) = true then
  if InR b a.Zo1.length then
   lt1 ((nth a.Zo1 b.toNat).Zj1) fun (c : Int) =>
   lt1 ((nth a.Zo1 b.toNat).Zk1) fun (d : Int) =>
   lt1 ((nth a.Zo1 b.toNat).Zl1) fun (e : Int) =>
   ((Bk c 0 (w64 ((a.Zm1.length : Int) - 1))).bind fun f =>
   if (!f) = true then
    some true
   else
    (Bk d 0 (w64 ((a.Zm1.length : Int) - 1))).bind fun g =>
    if (!g) = true then
     some true
    else
     if (c == d) = true then
      some true
     else
      (Bk e 0 1000000000).bind fun i =>
      some (!i) : Option (Bool)).bind fun j =>
   if j = true then
    ((some 1).bind fun k => some (.inr k)).bind fun l => some (.inr (.inr l))
   else
    some (.inl (w64 (b + 1)))
  else none
 else
  some (.inr (.inl ()))
def Sf (a : Api_Fleet) : Option (Int) :=
 (if (decide ((a.Zm1.length : Int) > 32)) = true then
  some true
 else
  if (decide ((a.Zn1.length : Int) > 4096)) = true then
   some true
  else
   if (decide ((a.Zo1.length : Int) > 1024)) = true then
    some true
   else
    some (decide ((a.Zp1.length : Int) > 4096)) : Option (Bool)).bind fun b =>
 if b = true then
  some 2
 else
  ((A6 (fun (v : Int) => Hh a v) 0).bind fun x => match x with
  | .inl () =>
   some (.inl ())
  | .inr z => some z : Option ((Unit) ⊕ (Int))).bind fun x => match x with
  | .inl () =>
   ((A6 (fun (v : Int) => He a v) 0).bind fun x => match x with
   | .inl () =>
    some (.inl ())
   | .inr z => some z : Option ((Unit) ⊕ (Int))).bind fun x => match x with
   | .inl () =>
    ((A6 (fun (v : Int) => G8 a v) 0).bind fun x => match x with
    | .inl () =>
     some (.inl ())
    | .inr z => some z : Option ((Unit) ⊕ (Int))).bind fun x => match x with
    | .inl () =>
     (P3 a.Zp1).bind fun c =>
     some c
    | .inr z => some z
   | .inr z => some z
  | .inr z => some z
def Ie (b : Api_Pool) (e : Int) (a : Int) : Option ((Int) ⊕ ((Unit) ⊕ ((Unit) ⊕ (Bool)))) :=
 if (decide (a < (b.Zu1.length : Int))) = true then
  if InR a b.Zu1.length then
   lt1 ((nth b.Zu1 a.toNat).Zf) fun (f : Int) =>
   lt1 ((nth b.Zu1 a.toNat).Low) fun (c : Int) =>
   lt1 ((nth b.Zu1 a.toNat).Zq1) fun (d : Int) =>
   ((Bk f 0 (w64 (e - 1))).bind fun g =>
   if (!g) = true then
    some true
   else
    if (decide (c < (-1000))) = true then
     some true
    else
     if (decide (d < c)) = true then
      some true
     else
      some (decide (d > 1000)) : Option (Bool)).bind fun i =>
   if i = true then
    ((some false).bind fun j => some (.inr j)).bind fun k => some (.inr (.inr k))
   else
    some (.inl (w64 (a + 1)))
  else none
 else
  some (.inr (.inl ()))
def Il (a : Api_Pool) (c : Int) (b : Int) : Option ((Int) ⊕ ((Unit) ⊕ ((Unit) ⊕ (Bool)))) :=
 if (decide (b < (a.Zv1.length : Int))) = true then
  (if InR b a.Zv1.length then
   (Bk ((nth a.Zv1 b.toNat).Zf) 0 (w64 (c - 1))).bind fun d =>
   if (!d) = true then
    some true
   else
    if InR b a.Zv1.length then
     if InR ((nth a.Zv1 b.toNat).Zf) a.Zs1.Zu.length then
      some ((nth a.Zs1.Zu (((nth a.Zv1 b.toNat).Zf).toNat)).Zb != 4)
     else none
    else none
  else none : Option (Bool)).bind fun e =>
  if e = true then
   ((some false).bind fun f => some (.inr f)).bind fun g => some (.inr (.inr g))
  else
   some (.inl (w64 (b + 1)))
 else
  some (.inr (.inl ()))
def Iw (b : Api_Pool) (c : Int) (a : Int) : Option ((Int) ⊕ ((Unit) ⊕ ((Unit) ⊕ (Bool)))) :=
 if (decide (a < (b.Zt1.Zn1.length : Int))) = true then
  if InR a b.Zt1.Zn1.length then
   lt1 (decide ((nth b.Zt1.Zn1 a.toNat).Zg1 ≥ c)) fun (d : Bool) =>
   if d = true then
    ((some false).bind fun e => some (.inr e)).bind fun f => some (.inr (.inr f))
   else
    some (.inl (w64 (a + 1)))
  else none
 else
  some (.inr (.inl ()))
def V4 (a : Api_Pool) : Option (Bool) :=
 lt1 (a.Zs1.Zu.length : Int) fun (b : Int) =>
 ((A6 (fun (v : Int) => Ie a b v) 0).bind fun x => match x with
 | .inl () =>
  some (.inl ())
 | .inr z => some z : Option ((Unit) ⊕ (Bool))).bind fun x => match x with
 | .inl () =>
  ((A6 (fun (v : Int) => Il a b v) 0).bind fun x => match x with
  | .inl () =>
   some (.inl ())
  | .inr z => some z : Option ((Unit) ⊕ (Bool))).bind fun x => match x with
  | .inl () =>
   ((A6 (fun (v : Int) => Iw a b v) 0).bind fun x => match x with
   | .inl () =>
    some (.inl ())
   | .inr z => some z : Option ((Unit) ⊕ (Bool))).bind fun x => match x with
   | .inl () =>
    some true
   | .inr z => some z
  | .inr z => some z
 | .inr z => some z
def Hf (b : Api_Pool) (c : Int) (a : Int) : Option ((Int) ⊕ ((Unit) ⊕ ((Unit) ⊕ (Bool)))) :=
 if (decide (a < (b.Zs1.Zu.length : Int))) = true then
  if InR a b.Zs1.Zu.length then
   lt1 ((nth b.Zs1.Zu a.toNat).Zb) fun (j : Int) =>
   lt1 ((nth b.Zs1.Zu a.toNat).Za) fun (d : Int) =>
   lt1 ((nth b.Zs1.Zu a.toNat).Zg) fun (e : Int) =>
   (if (decide (d ≥ c)) = true then
    some true
   else
    some (decide (e ≥ c)) : Option (Bool)).bind fun f =>
   if f = true then
    ((some false).bind fun g => some (.inr g)).bind fun i => some (.inr (.inr i))
   else
    some (.inl (w64 (a + 1)))
  else none
 else
  some (.inr (.inl ()))
def Hd (b : Api_Pool) (c : Int) (a : Int) : Option ((Int) ⊕ ((Unit) ⊕ ((Unit) ⊕ (Bool)))) :=
 if (decide (a < (b.Zs1.Zv.length : Int))) = true then
  if InR a b.Zs1.Zv.length then
   lt1 (decide ((nth b.Zs1.Zv a.toNat).Za ≥ c)) fun (d : Bool) =>
   if d = true then
    ((some false).bind fun e => some (.inr e)).bind fun f => some (.inr (.inr f))
   else
    some (.inl (w64 (a + 1)))
  else none
 else
  some (.inr (.inl ()))
def Rz (a : Api_Pool) : Option (Bool) :=
 lt1 (a.Zw1.length : Int) fun (b : Int) =>
 ((A6 (fun (v : Int) => Hf a b v) 0).bind fun x => match x with
 | .inl () =>
  some (.inl ())
 | .inr z => some z : Option ((Unit) ⊕ (Bool))).bind fun x => match x with
 | .inl () =>
  ((A6 (fun (v : Int) => Hd a b v) 0).bind fun x => match x with
  | .inl () =>
   some (.inl ())
  | .inr z => some z : Option ((Unit) ⊕ (Bool))).bind fun x => match x with
  | .inl () =>
   some true
  | .inr z => some z
 | .inr z => some z
def Ml (a : UInt64) (b : UInt64) (c : UInt64) (d : UInt64) : Option ((UInt64×UInt64×UInt64) ⊕ (UInt64)) :=
 if (decide (c > (0 : UInt64))) = true then
  (if ((c % (2 : UInt64)) == (1 : UInt64)) = true then
   if ¬a = 0 then
    lt1 ((d + b) % a) fun (e : UInt64) =>
    some e
   else none
  else
   some d : Option (UInt64)).bind fun f =>
  if ¬a = 0 then
   lt1 ((b + b) % a) fun (g : UInt64) =>
   some (.inl (g,(c / (2 : UInt64)),f))
  else none
 else
  some (.inr d)
def Oa (a : UInt64) (b : UInt64) (c : UInt64) : Option (UInt64) :=
 ((A6 (fun (v : UInt64×UInt64×UInt64) => Ml c v.1 v.2.1 v.2.2) (a,b,(0 : UInt64))).bind fun d =>
 some d : Option (UInt64)).bind fun e =>
 some e
def O4 (a : UInt64) (b : UInt64) (c : UInt64) : Option ((UInt64×UInt64×UInt64) ⊕ (UInt64)) :=
 if (decide (b > (0 : UInt64))) = true then
  (if ((b % (2 : UInt64)) == (1 : UInt64)) = true then
   (Oa c a (2305843009213690799 : UInt64)).bind fun d =>
   some d
  else
   some c : Option (UInt64)).bind fun e =>
  (Oa a a (2305843009213690799 : UInt64)).bind fun f =>
  some (.inl (f,(b / (2 : UInt64)),e))
 else
  some (.inr c)
def AbP (a : UInt64) (b : UInt64) : Option (UInt64) :=
 (lt1 (a % (2305843009213690799 : UInt64)) fun (c : UInt64) =>
 (A6 (fun (v : UInt64×UInt64×UInt64) => O4 v.1 v.2.1 v.2.2) (c,b,(1 : UInt64))).bind fun d =>
 some d : Option (UInt64)).bind fun e =>
 some e
def Lg (a : UInt64) : Option (Bool) :=
 (if (decide (a ≥ (2 : UInt64))) = true then
  if (decide (a < (2305843009213690799 : UInt64))) = true then
   (AbP a (1152921504606845399 : UInt64)).bind fun b =>
   some (b == (1 : UInt64))
  else
   some false
 else
  some false : Option (Bool)).bind fun c =>
 some c
def Hl (b : Api_Calendar) (a : Int) : Option ((Int) ⊕ ((Unit) ⊕ ((Unit) ⊕ (Int)))) :=
 if (decide (a < (b.Zs.length : Int))) = true then
  if InR a b.Zs.length then
   lt1 (nth b.Zs a.toNat) fun (c : Int) =>
   (if (decide (c < 0)) = true then
    some true
   else
    if (decide (c > 745654)) = true then
     some true
    else
     if (decide (a > 0)) = true then
      if InR (w64 (a - 1)) b.Zs.length then
       some (decide (nth b.Zs ((w64 (a - 1)).toNat) ≥ c))
      else none
     else
      some false : Option (Bool)).bind fun d =>
   if d = true then
    ((some 1).bind fun e => some (.inr e)).bind fun f => some (.inr (.inr f))
   else
    some (.inl (w64 (a + 1)))
  else none
 else
  some (.inr (.inl ()))
def J7 (a : Api_Calendar) : Option (Int) :=
 lt1 a.Zr.2.2.2.2.1.Zi fun (b : Int) =>
 lt1 a.Zr.2.2.2.2.2.1.Zi fun (c : Int) =>
 lt1 a.Zr.2.2.2.2.2.1.To fun (d : Int) =>
 lt1 a.Zr.2.2.2.2.2.2.Zi fun (e : Int) =>
 lt1 a.Zr.2.2.2.2.2.2.To fun (f : Int) =>
 ((if (decide (a.Zr.1.Zi < 0)) = true then
  some true
 else
  if (decide (a.Zr.1.To < a.Zr.1.Zi)) = true then
   some true
  else
   some (decide (a.Zr.1.To > 1440)) : Option (Bool)).bind fun g =>
 if g = true then
  (some 1).bind fun i => some (.inr i)
 else
  (if (decide (a.Zr.2.1.Zi < 0)) = true then
   some true
  else
   if (decide (a.Zr.2.1.To < a.Zr.2.1.Zi)) = true then
    some true
   else
    some (decide (a.Zr.2.1.To > 1440)) : Option (Bool)).bind fun j =>
  if j = true then
   (some 1).bind fun k => some (.inr k)
  else
   (if (decide (a.Zr.2.2.1.Zi < 0)) = true then
    some true
   else
    if (decide (a.Zr.2.2.1.To < a.Zr.2.2.1.Zi)) = true then
     some true
    else
     some (decide (a.Zr.2.2.1.To > 1440)) : Option (Bool)).bind fun l =>
   if l = true then
    (some 1).bind fun m => some (.inr m)
   else
    (if (decide (a.Zr.2.2.2.1.Zi < 0)) = true then
     some true
    else
     if (decide (a.Zr.2.2.2.1.To < a.Zr.2.2.2.1.Zi)) = true then
      some true
     else
      some (decide (a.Zr.2.2.2.1.To > 1440)) : Option (Bool)).bind fun n =>
    if n = true then
     (some 1).bind fun o => some (.inr o)
    else
     (if (decide (b < 0)) = true then
      some true
     else
      if (decide (a.Zr.2.2.2.2.1.To < b)) = true then
       some true
      else
       some (decide (a.Zr.2.2.2.2.1.To > 1440)) : Option (Bool)).bind fun p =>
     if p = true then
      (some 1).bind fun q => some (.inr q)
     else
      (if (decide (c < 0)) = true then
       some true
      else
       if (decide (d < c)) = true then
        some true
       else
        some (decide (d > 1440)) : Option (Bool)).bind fun s =>
      if s = true then
       (some 1).bind fun t => some (.inr t)
      else
       (if (decide (e < 0)) = true then
        some true
       else
        if (decide (f < e)) = true then
         some true
        else
         some (decide (f > 1440)) : Option (Bool)).bind fun u =>
       if u = true then
        (some 1).bind fun w => some (.inr w)
       else
        some (.inl ()) : Option ((Unit) ⊕ (Int))).bind fun x => match x with
 | .inl () =>
  ((A6 (fun (v : Int) => Hl a v) 0).bind fun x => match x with
  | .inl () =>
   some (.inl ())
  | .inr z => some z : Option ((Unit) ⊕ (Int))).bind fun x => match x with
  | .inl () =>
   some 0
  | .inr z => some z
 | .inr z => some z
def Ei (b : Api_Pool) (a : Int) : Option ((Int) ⊕ ((Unit) ⊕ ((Unit) ⊕ (Int)))) :=
 if (decide (a < (b.Zw1.length : Int))) = true then
  (if InR a b.Zw1.length then
   (J7 ({ Zr:=((((nth b.Zw1 a.toNat).Zr1).Zr).1,(((nth b.Zw1 a.toNat).Zr1).Zr).2.1,(((nth b.Zw1 a.toNat).Zr1).Zr).2.2.1,(((nth b.Zw1 a.toNat).Zr1).Zr).2.2.2.1,(((nth b.Zw1 a.toNat).Zr1).Zr).2.2.2.2.1,(((nth b.Zw1 a.toNat).Zr1).Zr).2.2.2.2.2.1,(((nth b.Zw1 a.toNat).Zr1).Zr).2.2.2.2.2.2),Zs:=((nth b.Zw1 a.toNat).Zr1).Zs } : Api_Calendar)).bind fun c =>
   if (c != 0) = true then
    some true
   else
    if InR a b.Zw1.length then
     (Lg ((nth b.Zw1 a.toNat).Key)).bind fun d =>
     some (!d)
    else none
  else none : Option (Bool)).bind fun e =>
  if e = true then
   ((some 1).bind fun f => some (.inr f)).bind fun g => some (.inr (.inr g))
  else
   some (.inl (w64 (a + 1)))
 else
  some (.inr (.inl ()))
def Ky (a : Api_Pool) : Option (Int) :=
 (Tg a.Zs1).bind fun b =>
 if (b != 0) = true then
  some b
 else
  (Sf a.Zt1).bind fun c =>
  if (c != 0) = true then
   some c
  else
   (if (decide ((a.Zu1.length : Int) > 256)) = true then
    some true
   else
    if (decide ((a.Zv1.length : Int) > 256)) = true then
     some true
    else
     some (decide ((a.Zw1.length : Int) > 16)) : Option (Bool)).bind fun d =>
   if d = true then
    some 2
   else
    ((V4 a).bind fun e =>
    if (!e) = true then
     some true
    else
     (Rz a).bind fun f =>
     some (!f) : Option (Bool)).bind fun g =>
    if g = true then
     some 1
    else
     ((A6 (fun (v : Int) => Ei a v) 0).bind fun x => match x with
     | .inl () =>
      some (.inl ())
     | .inr z => some z : Option ((Unit) ⊕ (Int))).bind fun x => match x with
     | .inl () =>
      if ((a.Zw1.length : Int) == 0) = true then
       some 1
      else
       some 0
     | .inr z => some z
def Ez (a : Api_Item) : Option (Bool) :=
 if ((a.Ref.Za == 0) && (a.Ref.No == 0)) = true then
  some (a.Zb != 14)
 else
  ((A4 a.Ref.Za 0 15).bind fun b =>
  if b = true then
   (A4 a.Ref.No 1 4096).bind fun c =>
   some c
  else
   some false : Option (Bool)).bind fun d =>
  some d
def Tc (b : Api_Pool) (a : Api_Item) : Option (Bool) :=
 (A4 a.Zf 0 (w64 ((b.Zs1.Zu.length : Int) - 1))).bind fun d =>
 if (!d) = true then
  some false
 else
  if InR a.Zf b.Zs1.Zu.length then
   lt1 ((nth b.Zs1.Zu a.Zf.toNat).Zb) fun (c : Int) =>
   (if (a.Zb == 3) = true then
    some (a.Zb == 3)
   else
    some (a.Zb == 4) : Option (Bool)).bind fun e =>
   if e = true then
    some (c == 3)
   else
    if (a.Zb == 9) = true then
     some (c == 5)
    else
     some true
  else none
def Th (b : Api_Pool) (a : Api_Item) : Option (Bool) :=
 if (a.Zb == 1) = true then
  (A4 a.Zg 0 (w64 ((b.Zu1.length : Int) - 1))).bind fun c =>
  some c
 else
  (if (a.Zb == 3) = true then
   some (a.Zb == 3)
  else
   some (a.Zb == 4) : Option (Bool)).bind fun d =>
  if d = true then
   if InR a.Zf b.Zs1.Zu.length then
    lt1 ((nth b.Zs1.Zu a.Zf.toNat).Zb) fun (k : Int) =>
    lt1 ((nth b.Zs1.Zu a.Zf.toNat).Za) fun (e : Int) =>
    lt1 ((nth b.Zs1.Zu a.Zf.toNat).Zg) fun (f : Int) =>
    (if (a.Zg == e) = true then
     some true
    else
     some (a.Zg == f) : Option (Bool)).bind fun g =>
    some g
   else none
  else
   if (a.Zb == 10) = true then
    (A4 a.Zg 0 63).bind fun i =>
    some i
   else
    (A4 a.Zg 0 (w64 ((b.Zv1.length : Int) - 1))).bind fun j =>
    some j
def Pz (b : Api_Pool) (a : Api_Item) : Option (Bool) :=
 if (a.Zb == 5) = true then
  (A4 a.Zh 1 1000000000).bind fun c =>
  some c
 else
  if (a.Zb == 15) = true then
   (A4 a.Zh 0 (w64 ((b.Zt1.Zm1.length : Int) - 1))).bind fun d =>
   some d
  else
   (A4 a.Zh 1 6).bind fun e =>
   some e
def Vy (a : Api_Item) : Option (Bool) :=
 (if (a.Zb == 3) = true then
  some (a.Zb == 3)
 else
  some (a.Zb == 4) : Option (Bool)).bind fun b =>
 if b = true then
  (A4 a.Code 0 8).bind fun c =>
  some c
 else
  if (a.Zb == 6) = true then
   (A4 a.Code 0 1).bind fun d =>
   some d
  else
   if (a.Zb == 8) = true then
    (A4 a.Code 1 9).bind fun e =>
    some e
   else
    (A4 a.Code 1 2).bind fun f =>
    some f
def Ra (c : Api_Pool) (a : Api_Item) (b : UInt8) : Option (Bool) :=
 if (b == (119 : UInt8)) = true then
  (A4 a.Ze 0 (w64 ((c.Zt1.Zn1.length : Int) - 1))).bind fun d =>
  some d
 else
  if (b == (112 : UInt8)) = true then
   (Tc c a).bind fun e =>
   some e
  else
   if (b == (111 : UInt8)) = true then
    (Th c a).bind fun f =>
    some f
   else
    if (b == (110 : UInt8)) = true then
     (Pz c a).bind fun g =>
     some g
    else
     if (b == (102 : UInt8)) = true then
      (A4 a.Zi 0 1073741824).bind fun i =>
      some i
     else
      if (b == (116 : UInt8)) = true then
       (A4 a.To a.Zi 1073741824).bind fun j =>
       some j
      else
       if (b == (99 : UInt8)) = true then
        (Vy a).bind fun k =>
        some k
       else
        if (b == (100 : UInt8)) = true then
         (A4 a.Zj 0 (w64 ((c.Zs1.Zu.length : Int) - 1))).bind fun l =>
         some l
        else
         if (b == (107 : UInt8)) = true then
          (A4 a.Zk 0 63).bind fun m =>
          some m
         else
          if (b == (103 : UInt8)) = true then
           if (a.Zb == 15) = true then
            (A4 a.Zl 1 1000).bind fun n =>
            some n
           else
            (A4 a.Zl 0 1000000).bind fun o =>
            some o
          else
           (A4 a.Zm 0 1000000000).bind fun p =>
           some p
def Hk (e : Api_Pool) (c : Api_Item) (d : List UInt8) (b : Int) : Option ((Int) ⊕ ((Unit) ⊕ ((Unit) ⊕ (Bool)))) :=
 if (decide (b < 11)) = true then
  if InR b (([119,112,111,110,102,116,99,100,107,103,97] : List UInt8).length) then
   lt1 (nth ([119,112,111,110,102,116,99,100,107,103,97] : List UInt8) b.toNat) fun (a : UInt8) =>
   ((I8 d a).bind fun f =>
   if f = true then
    (Ra e c a).bind fun g =>
    if (!g) = true then
     some true
    else
     (I8 d a).bind fun i =>
     if (!i) = true then
      (Cb c a).bind fun j =>
      some (j != 0)
     else
      some false
   else
    (I8 d a).bind fun k =>
    if (!k) = true then
     (Cb c a).bind fun l =>
     some (l != 0)
    else
     some false : Option (Bool)).bind fun m =>
   if m = true then
    ((some false).bind fun n => some (.inr n)).bind fun o => some (.inr (.inr o))
   else
    some (.inl (w64 (b + 1)))
  else none
 else
  some (.inr (.inl ()))
def Nz (c : Api_Pool) (a : Api_Item) : Option (Bool) :=
 (Em a.Zb).bind fun b =>
 ((A4 a.Zb 1 15).bind fun d =>
 if (!d) = true then
  some true
 else
  (Ez a).bind fun e =>
  some (!e) : Option (Bool)).bind fun f =>
 if f = true then
  some false
 else
  ((A6 (fun (v : Int) => Hk c a b v) 0).bind fun x => match x with
  | .inl () =>
   some (.inl ())
  | .inr z => some z : Option ((Unit) ⊕ (Bool))).bind fun x => match x with
  | .inl () =>
   ((I8 b (120 : UInt8)).bind fun g =>
   if (!(g == (!(a.Zn == ([] : List UInt8))))) = true then
    some true
   else
    some (decide ((a.Zn.length : Int) > 2000)) : Option (Bool)).bind fun i =>
   if i = true then
    some false
   else
    ((I8 b (113 : UInt8)).bind fun j =>
    if j = true then
     (Tp a).bind fun k =>
     if k = true then
      some true
     else
      if ((a.Zo.length : Int) == 0) = true then
       (I8 b (113 : UInt8)).bind fun l =>
       some (!l)
      else
       some false
    else
     if ((a.Zo.length : Int) == 0) = true then
      (I8 b (113 : UInt8)).bind fun m =>
      some (!m)
     else
      some false : Option (Bool)).bind fun n =>
    some n
  | .inr z => some z
def Ry (a : Api_Pool) (c : Api_Item) : Option (Int) :=
 (Ky a).bind fun b =>
 if (b != 0) = true then
  some b
 else
  (Nz a c).bind fun d =>
  if (!d) = true then
   some 110
  else
   some 0
def Ga (a : Api_Item) : Option (Bool) :=
 if ((a.Ref.Za == 0) && (a.Ref.No == 0)) = true then
  some (a.Zb != 14)
 else
  (if (decide (a.Ref.Za ≥ 0)) = true then
   if (decide (a.Ref.Za < 16)) = true then
    if (decide (a.Ref.No ≥ 1)) = true then
     some (decide (a.Ref.No≤4096))
    else
     some false
   else
    some false
  else
   some false : Option (Bool)).bind fun b =>
  some b
def Ex (b : List Api_Part) (e : Bool) (a : Int) : Option ((Int) ⊕ ((Unit) ⊕ ((Unit) ⊕ (Bool)))) :=
 if (decide (a < (b.length : Int))) = true then
  if InR a b.length then
   lt1 ((nth b a.toNat).Zb) fun (c : Int) =>
   lt1 ((nth b a.toNat).Zc) fun (d : Int) =>
   lt1 ((nth b a.toNat).Zd) fun (f : Bool) =>
   (if (decide (c < 1)) = true then
    some true
   else
    if (decide (c > 3)) = true then
     some true
    else
     if (decide (d < 0)) = true then
      some true
     else
      if (decide (d > 1073741824)) = true then
       some true
      else
       if f = true then
        some (!e)
       else
        some false : Option (Bool)).bind fun g =>
   if g = true then
    ((some false).bind fun i => some (.inr i)).bind fun j => some (.inr (.inr j))
   else
    some (.inl (w64 (a + 1)))
  else none
 else
  some (.inr (.inl ()))
def Ka (a : List Api_Part) (b : Bool) : Option (Bool) :=
 ((A6 (fun (v : Int) => Ex a b v) 0).bind fun x => match x with
 | .inl () =>
  some (.inl ())
 | .inr z => some z : Option ((Unit) ⊕ (Bool))).bind fun x => match x with
 | .inl () =>
  some (decide ((a.length : Int)≤16))
 | .inr z => some z
def Cy (a : Edi_checker) (b : Int) (c : Int) : Option (Edi_checker) :=
 (if a.ok = true then
  if (decide (b≤a.it.Ze)) = true then
   some (decide (a.it.Ze≤c))
  else
   some false
 else
  some false : Option (Bool)).bind fun d =>
 some ({ p:=a.p,it:=({ Zb:=a.it.Zb,Ref:=a.it.Ref,Ze:=0,Zf:=a.it.Zf,Zg:=a.it.Zg,Zh:=a.it.Zh,Zi:=a.it.Zi,To:=a.it.To,Code:=a.it.Code,Zj:=a.it.Zj,Zk:=a.it.Zk,Zl:=a.it.Zl,Zm:=a.it.Zm,Zn:=a.it.Zn,Zo:=a.it.Zo } : Api_Item),ok:=d } : Edi_checker)
def B2 (a : Edi_checker) (b : Int) (c : Int) : Option (Edi_checker) :=
 (if a.ok = true then
  if (decide (b≤a.it.Zg)) = true then
   some (decide (a.it.Zg≤c))
  else
   some false
 else
  some false : Option (Bool)).bind fun d =>
 some ({ p:=a.p,it:=({ Zb:=a.it.Zb,Ref:=a.it.Ref,Ze:=a.it.Ze,Zf:=a.it.Zf,Zg:=0,Zh:=a.it.Zh,Zi:=a.it.Zi,To:=a.it.To,Code:=a.it.Code,Zj:=a.it.Zj,Zk:=a.it.Zk,Zl:=a.it.Zl,Zm:=a.it.Zm,Zn:=a.it.Zn,Zo:=a.it.Zo } : Api_Item),ok:=d } : Edi_checker)
def B3 (a : Edi_checker) (b : Int) (c : Int) : Option (Edi_checker) :=
 (if a.ok = true then
  if (decide (b≤a.it.Zh)) = true then
   some (decide (a.it.Zh≤c))
  else
   some false
 else
  some false : Option (Bool)).bind fun d =>
 some ({ p:=a.p,it:=({ Zb:=a.it.Zb,Ref:=a.it.Ref,Ze:=a.it.Ze,Zf:=a.it.Zf,Zg:=a.it.Zg,Zh:=0,Zi:=a.it.Zi,To:=a.it.To,Code:=a.it.Code,Zj:=a.it.Zj,Zk:=a.it.Zk,Zl:=a.it.Zl,Zm:=a.it.Zm,Zn:=a.it.Zn,Zo:=a.it.Zo } : Api_Item),ok:=d } : Edi_checker)
def Cx (a : Edi_checker) (b : Int) (c : Int) : Option (Edi_checker) :=
 (if a.ok = true then
  if (decide (b≤a.it.Zi)) = true then
   some (decide (a.it.Zi≤c))
  else
   some false
 else
  some false : Option (Bool)).bind fun d =>
 some ({ p:=a.p,it:=({ Zb:=a.it.Zb,Ref:=a.it.Ref,Ze:=a.it.Ze,Zf:=a.it.Zf,Zg:=a.it.Zg,Zh:=a.it.Zh,Zi:=0,To:=a.it.To,Code:=a.it.Code,Zj:=a.it.Zj,Zk:=a.it.Zk,Zl:=a.it.Zl,Zm:=a.it.Zm,Zn:=a.it.Zn,Zo:=a.it.Zo } : Api_Item),ok:=d } : Edi_checker)
def C2 (a : Edi_checker) (b : Int) (c : Int) : Option (Edi_checker) :=
 (if a.ok = true then
  if (decide (b≤a.it.To)) = true then
   some (decide (a.it.To≤c))
  else
   some false
 else
  some false : Option (Bool)).bind fun d =>
 some ({ p:=a.p,it:=({ Zb:=a.it.Zb,Ref:=a.it.Ref,Ze:=a.it.Ze,Zf:=a.it.Zf,Zg:=a.it.Zg,Zh:=a.it.Zh,Zi:=a.it.Zi,To:=0,Code:=a.it.Code,Zj:=a.it.Zj,Zk:=a.it.Zk,Zl:=a.it.Zl,Zm:=a.it.Zm,Zn:=a.it.Zn,Zo:=a.it.Zo } : Api_Item),ok:=d } : Edi_checker)
def Bi (a : Edi_checker) (b : Int) (c : Int) : Option (Edi_checker) :=
 (if a.ok = true then
  if (decide (b≤a.it.Code)) = true then
   some (decide (a.it.Code≤c))
  else
   some false
 else
  some false : Option (Bool)).bind fun d =>
 some ({ p:=a.p,it:=({ Zb:=a.it.Zb,Ref:=a.it.Ref,Ze:=a.it.Ze,Zf:=a.it.Zf,Zg:=a.it.Zg,Zh:=a.it.Zh,Zi:=a.it.Zi,To:=a.it.To,Code:=0,Zj:=a.it.Zj,Zk:=a.it.Zk,Zl:=a.it.Zl,Zm:=a.it.Zm,Zn:=a.it.Zn,Zo:=a.it.Zo } : Api_Item),ok:=d } : Edi_checker)
def C3 (a : Edi_checker) (b : Int) (c : Int) : Option (Edi_checker) :=
 (if a.ok = true then
  if (decide (b≤a.it.Zj)) = true then
   some (decide (a.it.Zj≤c))
  else
   some false
 else
  some false : Option (Bool)).bind fun d =>
 some ({ p:=a.p,it:=({ Zb:=a.it.Zb,Ref:=a.it.Ref,Ze:=a.it.Ze,Zf:=a.it.Zf,Zg:=a.it.Zg,Zh:=a.it.Zh,Zi:=a.it.Zi,To:=a.it.To,Code:=a.it.Code,Zj:=0,Zk:=a.it.Zk,Zl:=a.it.Zl,Zm:=a.it.Zm,Zn:=a.it.Zn,Zo:=a.it.Zo } : Api_Item),ok:=d } : Edi_checker)
def Cz (a : Edi_checker) (b : Int) (c : Int) : Option (Edi_checker) :=
 (if a.ok = true then
  if (decide (b≤a.it.Zk)) = true then
   some (decide (a.it.Zk≤c))
  else
   some false
 else
  some false : Option (Bool)).bind fun d =>
 some ({ p:=a.p,it:=({ Zb:=a.it.Zb,Ref:=a.it.Ref,Ze:=a.it.Ze,Zf:=a.it.Zf,Zg:=a.it.Zg,Zh:=a.it.Zh,Zi:=a.it.Zi,To:=a.it.To,Code:=a.it.Code,Zj:=a.it.Zj,Zk:=0,Zl:=a.it.Zl,Zm:=a.it.Zm,Zn:=a.it.Zn,Zo:=a.it.Zo } : Api_Item),ok:=d } : Edi_checker)
def Ce (a : Edi_checker) (b : Int) (c : Int) : Option (Edi_checker) :=
 (if a.ok = true then
  if (decide (b≤a.it.Zl)) = true then
   some (decide (a.it.Zl≤c))
  else
   some false
 else
  some false : Option (Bool)).bind fun d =>
 some ({ p:=a.p,it:=({ Zb:=a.it.Zb,Ref:=a.it.Ref,Ze:=a.it.Ze,Zf:=a.it.Zf,Zg:=a.it.Zg,Zh:=a.it.Zh,Zi:=a.it.Zi,To:=a.it.To,Code:=a.it.Code,Zj:=a.it.Zj,Zk:=a.it.Zk,Zl:=0,Zm:=a.it.Zm,Zn:=a.it.Zn,Zo:=a.it.Zo } : Api_Item),ok:=d } : Edi_checker)
def Cg (a : Edi_checker) (b : Int) (c : Int) : Option (Edi_checker) :=
 (if a.ok = true then
  if (decide (b≤a.it.Zm)) = true then
   some (decide (a.it.Zm≤c))
  else
   some false
 else
  some false : Option (Bool)).bind fun d =>
 some ({ p:=a.p,it:=({ Zb:=a.it.Zb,Ref:=a.it.Ref,Ze:=a.it.Ze,Zf:=a.it.Zf,Zg:=a.it.Zg,Zh:=a.it.Zh,Zi:=a.it.Zi,To:=a.it.To,Code:=a.it.Code,Zj:=a.it.Zj,Zk:=a.it.Zk,Zl:=a.it.Zl,Zm:=0,Zn:=a.it.Zn,Zo:=a.it.Zo } : Api_Item),ok:=d } : Edi_checker)
def Dd (a : Edi_checker) : Option (Edi_checker) :=
 (Cy a 0 (w64 ((a.p.Zt1.Zn1.length : Int) - 1))).bind fun b =>
 some b
def B6 (a : Edi_checker) : Option (Edi_checker) :=
 (Cx a 0 1073741824).bind fun b =>
 some b
def Cr (a : Edi_checker) : Option (Edi_checker) :=
 (B2 a 0 (w64 ((a.p.Zv1.length : Int) - 1))).bind fun b =>
 some b
def D8 (a : Edi_checker) : Option (Edi_checker) :=
 (Cz a 0 63).bind fun b =>
 some b
def Bt (a : Edi_checker) (c : Int) : Option (Api_Place×Edi_checker) :=
 ((if (decide (a.it.Zf ≥ 0)) = true then
  some (decide (a.it.Zf < (a.p.Zs1.Zu.length : Int)))
 else
  some false : Option (Bool)).bind fun d =>
 if d = true then
  if InR a.it.Zf a.p.Zs1.Zu.length then
   lt1 ((nth a.p.Zs1.Zu a.it.Zf.toNat).Zb) fun (e : Int) =>
   lt1 ((nth a.p.Zs1.Zu a.it.Zf.toNat).Za) fun (f : Int) =>
   lt1 ((nth a.p.Zs1.Zu a.it.Zf.toNat).Zg) fun (g : Int) =>
   some (e,f,g)
  else none
 else
  some (0,0,0) : Option (Int×Int×Int)).bind fun (b,i,j) =>
 (if a.ok = true then
  if (b != 0) = true then
   if (c == 0) = true then
    some true
   else
    some (b == c)
  else
   some false
 else
  some false : Option (Bool)).bind fun k =>
 some (({ Zb:=b,Za:=i,Zg:=j } : Api_Place),({ p:=a.p,it:=({ Zb:=a.it.Zb,Ref:=a.it.Ref,Ze:=a.it.Ze,Zf:=0,Zg:=a.it.Zg,Zh:=a.it.Zh,Zi:=a.it.Zi,To:=a.it.To,Code:=a.it.Code,Zj:=a.it.Zj,Zk:=a.it.Zk,Zl:=a.it.Zl,Zm:=a.it.Zm,Zn:=a.it.Zn,Zo:=a.it.Zo } : Api_Item),ok:=k } : Edi_checker))
def Dm (a : Edi_checker) : Option (Edi_checker) :=
 (C2 a (AcP a.it.Zi 0) 1073741824).bind fun b =>
 (B6 b).bind fun c =>
 some c
def C9 (c : Edi_checker) : Option (Edi_checker) :=
 if (decide (c.it.Zb < 1)) = true then
  some ({ p:=c.p,it:=c.it,ok:=false } : Edi_checker)
 else
  (Dd c).bind fun b =>
  if (b.it.Zb == 1) = true then
   (B2 b 0 (w64 ((b.p.Zu1.length : Int) - 1))).bind fun f =>
   (B6 f).bind fun g =>
   some g
  else
   if (b.it.Zb == 2) = true then
    (Bt b 0).bind fun i =>
    (Dm (i.2)).bind fun j =>
    some j
   else
    (if (b.it.Zb == 3) = true then
     some (b.it.Zb == 3)
    else
     some (b.it.Zb == 4) : Option (Bool)).bind fun k =>
    if k = true then
     (Bt b 3).bind fun a =>
     (if a.2.ok = true then
      if (a.2.it.Zg == a.1.Za) = true then
       some true
      else
       some (a.2.it.Zg == a.1.Zg)
     else
      some false : Option (Bool)).bind fun l =>
     (B6 ({ p:=a.2.p,it:=({ Zb:=a.2.it.Zb,Ref:=a.2.it.Ref,Ze:=a.2.it.Ze,Zf:=a.2.it.Zf,Zg:=0,Zh:=a.2.it.Zh,Zi:=a.2.it.Zi,To:=a.2.it.To,Code:=a.2.it.Code,Zj:=a.2.it.Zj,Zk:=a.2.it.Zk,Zl:=a.2.it.Zl,Zm:=a.2.it.Zm,Zn:=a.2.it.Zn,Zo:=a.2.it.Zo } : Api_Item),ok:=l } : Edi_checker)).bind fun m =>
     (Bi m 0 8).bind fun n =>
     some n
    else
     if (b.it.Zb == 5) = true then
      (B3 b 1 1000000000).bind fun o =>
      (Cr o).bind fun q =>
      (Bt q 0).bind fun e =>
      (C3 (e.2) 0 (w64 ((e.2.p.Zs1.Zu.length : Int) - 1))).bind fun s =>
      (D8 s).bind fun t =>
      (Ce t 0 1000000).bind fun u =>
      (B6 u).bind fun v =>
      some v
     else
      (if (b.it.Zb == 6) = true then
       some (b.it.Zb == 6)
      else
       some (b.it.Zb == 7) : Option (Bool)).bind fun w =>
      if w = true then
       (Bt b 0).bind fun x =>
       (Cr (x.2)).bind fun y =>
       (B6 y).bind fun d =>
       if (d.it.Zb == 6) = true then
        (Bi d 0 1).bind fun z =>
        some z
       else
        some d
      else
       some b
def D9 (b : Edi_checker) : Option (Edi_checker) :=
 if (b.it.Zb == 8) = true then
  (Dd b).bind fun f =>
  (B6 f).bind fun g =>
  (Bi g 1 9).bind fun i =>
  some i
 else
  if (b.it.Zb == 9) = true then
   (Dd b).bind fun j =>
   (Bt j 5).bind fun k =>
   (Dm (k.2)).bind fun l =>
   (Bi l 1 2).bind fun m =>
   (Cg m 0 1000000000).bind fun d =>
   (if d.ok = true then
    (Ka d.it.Zo true).bind fun n =>
    some n
   else
    some false : Option (Bool)).bind fun o =>
   some ({ p:=d.p,it:=({ Zb:=d.it.Zb,Ref:=d.it.Ref,Ze:=d.it.Ze,Zf:=d.it.Zf,Zg:=d.it.Zg,Zh:=d.it.Zh,Zi:=d.it.Zi,To:=d.it.To,Code:=d.it.Code,Zj:=d.it.Zj,Zk:=d.it.Zk,Zl:=d.it.Zl,Zm:=d.it.Zm,Zn:=d.it.Zn,Zo:=[] } : Api_Item),ok:=o } : Edi_checker)
  else
   if (b.it.Zb == 10) = true then
    (B2 b 0 63).bind fun c =>
    (if c.ok = true then
     if (decide ((c.it.Zo.length : Int) > 0)) = true then
      (Ka c.it.Zo false).bind fun q =>
      some q
     else
      some false
    else
     some false : Option (Bool)).bind fun s =>
    some ({ p:=c.p,it:=({ Zb:=c.it.Zb,Ref:=c.it.Ref,Ze:=c.it.Ze,Zf:=c.it.Zf,Zg:=c.it.Zg,Zh:=c.it.Zh,Zi:=c.it.Zi,To:=c.it.To,Code:=c.it.Code,Zj:=c.it.Zj,Zk:=c.it.Zk,Zl:=c.it.Zl,Zm:=c.it.Zm,Zn:=c.it.Zn,Zo:=[] } : Api_Item),ok:=s } : Edi_checker)
   else
    (if (b.it.Zb == 11) = true then
     some (b.it.Zb == 11)
    else
     if (b.it.Zb == 12) = true then
      some (b.it.Zb == 12)
     else
      some (b.it.Zb == 13) : Option (Bool)).bind fun t =>
    if t = true then
     (B3 b 1 6).bind fun u =>
     (B6 u).bind fun a =>
     if (a.it.Zb != 13) = true then
      (if a.ok = true then
       if (decide ((a.it.Zn.length : Int) ≥ 1)) = true then
        some (decide ((a.it.Zn.length : Int)≤2000))
       else
        some false
      else
       some false : Option (Bool)).bind fun v =>
      some ({ p:=a.p,it:=({ Zb:=a.it.Zb,Ref:=a.it.Ref,Ze:=a.it.Ze,Zf:=a.it.Zf,Zg:=a.it.Zg,Zh:=a.it.Zh,Zi:=a.it.Zi,To:=a.it.To,Code:=a.it.Code,Zj:=a.it.Zj,Zk:=a.it.Zk,Zl:=a.it.Zl,Zm:=a.it.Zm,Zn:=([] : List UInt8),Zo:=a.it.Zo } : Api_Item),ok:=v } : Edi_checker)
     else
      some a
    else
     if (b.it.Zb == 14) = true then
      some b
     else
      if (b.it.Zb == 15) = true then
       (Cr b).bind fun w =>
       (Bt w 0).bind fun x =>
       (D8 (x.2)).bind fun e =>
       (B3 e 0 (w64 ((e.p.Zt1.Zm1.length : Int) - 1))).bind fun y =>
       (Ce y 1 1000).bind fun z =>
       (Dm z).bind fun aa =>
       (Cg aa 0 1000000000).bind fun ab =>
       some ab
      else
       some ({ p:=b.p,it:=b.it,ok:=false } : Edi_checker)
def E9 (d : Api_Pool) (c : Api_Item) : Option (Bool) :=
 (if (decide (c.Zb≤7)) = true then
  (C9 ({ p:=d,it:=c,ok:=true } : Edi_checker)).bind fun a =>
  some (a.p.Zs1.Zu,a.p.Zs1.Zv,a.p.Zt1.Zm1,a.p.Zt1.Zn1,a.p.Zt1.Zo1,a.p.Zt1.Zp1,a.p.Zu1,a.p.Zv1,a.p.Zw1,a.it.Zb,a.it.Ref.Za,a.it.Ref.No,a.it.Ze,a.it.Zf,a.it.Zg,a.it.Zh,a.it.Zi,a.it.To,a.it.Code,a.it.Zj,a.it.Zk,a.it.Zl,a.it.Zm,a.it.Zn,a.it.Zo,a.ok)
 else
  (D9 ({ p:=d,it:=c,ok:=true } : Edi_checker)).bind fun b =>
  some (b.p.Zs1.Zu,b.p.Zs1.Zv,b.p.Zt1.Zm1,b.p.Zt1.Zn1,b.p.Zt1.Zo1,b.p.Zt1.Zp1,b.p.Zu1,b.p.Zv1,b.p.Zw1,b.it.Zb,b.it.Ref.Za,b.it.Ref.No,b.it.Ze,b.it.Zf,b.it.Zg,b.it.Zh,b.it.Zi,b.it.To,b.it.Code,b.it.Zj,b.it.Zk,b.it.Zl,b.it.Zm,b.it.Zn,b.it.Zo,b.ok) : Option (List Api_Place×List Api_Edge×List Api_WagonType×List Api_Wagon×List Api_Swap×List Api_Wash×List Api_Reader×List Api_Shipper×List Api_RailwayInfo×Int×Int×Int×Int×Int×Int×Int×Int×Int×Int×Int×Int×Int×Int×List UInt8×List Api_Part×Bool)).bind fun (ai,aj,ak,al,am,an,ao,ap,aq,ar,au,av,e,f,g,i,j,k,l,m,n,o,q,s,t,u) =>
 ((if u = true then
  some (e == 0)
 else
  some false : Option (Bool)).bind fun v =>
 (if v = true then
  some (f == 0)
 else
  some false : Option (Bool)).bind fun w =>
 (if w = true then
  some (g == 0)
 else
  some false : Option (Bool)).bind fun x =>
 (if x = true then
  some (i == 0)
 else
  some false : Option (Bool)).bind fun y =>
 (if y = true then
  some (j == 0)
 else
  some false : Option (Bool)).bind fun z =>
 (if z = true then
  some (k == 0)
 else
  some false : Option (Bool)).bind fun aa =>
 (if aa = true then
  some (l == 0)
 else
  some false : Option (Bool)).bind fun ab =>
 (if ab = true then
  some (m == 0)
 else
  some false : Option (Bool)).bind fun ac =>
 (if ac = true then
  some (n == 0)
 else
  some false : Option (Bool)).bind fun ad =>
 (if ad = true then
  some (o == 0)
 else
  some false : Option (Bool)).bind fun ae =>
 (if ae = true then
  some (q == 0)
 else
  some false : Option (Bool)).bind fun af =>
 some af : Option (Bool)).bind fun ag =>
 (if ag = true then
  if (s == ([] : List UInt8)) = true then
   some ((t.length : Int) == 0)
  else
   some false
 else
  some false : Option (Bool)).bind fun ah =>
 some ah
def Dn (a : Api_Pool) (b : Api_Item) : Option (Int) :=
 (Ea a).bind fun c =>
 if (c != 0) = true then
  some c
 else
  ((Ga b).bind fun d =>
  if (!d) = true then
   some true
  else
   (E9 a b).bind fun e =>
   some (!e) : Option (Bool)).bind fun f =>
  if f = true then
   some 110
  else
   some 0
def E6 (a : Api_Item) (b : List UInt8) : Option (Bool) :=
 (J3 a).bind fun c =>
 (Ox b).bind fun d =>
 (if (c.2 == 0) = true then
  if (c.1 == b) = true then
   if (d.2 == 0) = true then
    (N2 d.1 a).bind fun e =>
    some e
   else
    some false
  else
   some false
 else
  some false : Option (Bool)).bind fun f =>
 some f
def Da (b : List UInt8) : Option (Bool) :=
 (Ox b).bind fun a =>
 (if (a.2 == 4) = true then
  (N2 a.1 ({ Zb:=0,Ref:=({ Za:=0,No:=0 } : Api_Ref),Ze:=0,Zf:=0,Zg:=0,Zh:=0,Zi:=0,To:=0,Code:=0,Zj:=0,Zk:=0,Zl:=0,Zm:=0,Zn:=([] : List UInt8),Zo:=[] } : Api_Item)).bind fun c =>
  some c
 else
  some false : Option (Bool)).bind fun d =>
 some d
def law11_sane  : Option (Bool) :=
 lt1 ([({ Zb:=1,Zc:=5,Zd:=false } : Api_Part),({ Zb:=0,Zc:=(-2),Zd:=true } : Api_Part)] : List Api_Part) fun (a : List Api_Part) =>
 ((E6 ({ Zb:=1,Ref:=({ Za:=0,No:=0 } : Api_Ref),Ze:=12,Zf:=0,Zg:=3,Zh:=0,Zi:=100,To:=0,Code:=0,Zj:=0,Zk:=0,Zl:=0,Zm:=0,Zn:=([] : List UInt8),Zo:=[] } : Api_Item) ([82,69,65,68,43,119,49,50,43,111,51,43,102,49,48,48,39] : List UInt8)).bind fun c =>
 if c = true then
  (E6 ({ Zb:=14,Ref:=({ Za:=2,No:=7 } : Api_Ref),Ze:=0,Zf:=0,Zg:=0,Zh:=0,Zi:=0,To:=0,Code:=0,Zj:=0,Zk:=0,Zl:=0,Zm:=0,Zn:=([] : List UInt8),Zo:=[] } : Api_Item) ([82,69,84,82,65,67,84,43,114,50,46,55,39] : List UInt8)).bind fun d =>
  if d = true then
   (E6 ({ Zb:=11,Ref:=({ Za:=0,No:=0 } : Api_Ref),Ze:=0,Zf:=0,Zg:=0,Zh:=1,Zi:=0,To:=0,Code:=0,Zj:=0,Zk:=0,Zl:=0,Zm:=0,Zn:=([97,43,98,10] : List UInt8),Zo:=[] } : Api_Item) ([84,65,82,73,70,70,43,110,49,43,120,97,63,50,98,98,63,48,97,39] : List UInt8)).bind fun e =>
   if e = true then
    (E6 ({ Zb:=10,Ref:=({ Za:=0,No:=0 } : Api_Ref),Ze:=0,Zf:=0,Zg:=0,Zh:=0,Zi:=0,To:=0,Code:=0,Zj:=0,Zk:=0,Zl:=0,Zm:=0,Zn:=([] : List UInt8),Zo:=a } : Api_Item) ([82,69,67,65,76,76,43,113,49,46,53,46,48,43,113,48,46,45,50,46,49,39] : List UInt8)).bind fun f =>
    some f
   else
    some false
  else
   some false
 else
  some false : Option (Bool)).bind fun g =>
 (J3 ({ Zb:=16,Ref:=({ Za:=0,No:=0 } : Api_Ref),Ze:=0,Zf:=0,Zg:=0,Zh:=0,Zi:=0,To:=0,Code:=0,Zj:=0,Zk:=0,Zl:=0,Zm:=0,Zn:=([] : List UInt8),Zo:=[] } : Api_Item)).bind fun i =>
 (H4 (Api_Value.mk 1 1 ([]) ([]))).bind fun j =>
 ((Da ([82,69,65,68,43,119,48,49,50,39] : List UInt8)).bind fun k =>
 if k = true then
  (Da ([82,69,65,68,43,119,48,39] : List UInt8)).bind fun l =>
  if l = true then
   (Da ([82,69,65,68,43,111,51,43,119,49,50,39] : List UInt8)).bind fun m =>
   if m = true then
    (Da ([82,69,65,68,43,119,49,50] : List UInt8)).bind fun n =>
    if n = true then
     (Da ([82,69,65,68,43,119,49,50,39,32] : List UInt8)).bind fun o =>
     if o = true then
      (Da ([84,65,82,73,70,70,43,120,63,52,49,39] : List UInt8)).bind fun p =>
      if p = true then
       (Da ([] : List UInt8)).bind fun q =>
       some q
      else
       some false
     else
      some false
    else
     some false
   else
    some false
  else
   some false
 else
  some false : Option (Bool)).bind fun s =>
 (N5 ({ Zb:=10,Ref:=({ Za:=0,No:=0 } : Api_Ref),Ze:=0,Zf:=0,Zg:=0,Zh:=0,Zi:=0,To:=0,Code:=0,Zj:=0,Zk:=0,Zl:=0,Zm:=0,Zn:=([] : List UInt8),Zo:=a } : Api_Item)).bind fun t =>
 (H4 t).bind fun b =>
 (if g = true then
  if (i.2 == 110) = true then
   if (j.2 == 10) = true then
    if s = true then
     if (b.2 == 0) = true then
      (N2 b.1 ({ Zb:=10,Ref:=({ Za:=0,No:=0 } : Api_Ref),Ze:=0,Zf:=0,Zg:=0,Zh:=0,Zi:=0,To:=0,Code:=0,Zj:=0,Zk:=0,Zl:=0,Zm:=0,Zn:=([] : List UInt8),Zo:=a } : Api_Item)).bind fun u =>
      if u = true then
       (Dn ({ Zs1:=({ Zu:=[],Zv:=[] } : Api_Network),Zt1:=({ Zm1:=[],Zn1:=[],Zo1:=[],Zp1:=[] } : Api_Fleet),Zu1:=[],Zv1:=[],Zw1:=[] } : Api_Pool) ({ Zb:=10,Ref:=({ Za:=0,No:=0 } : Api_Ref),Ze:=0,Zf:=0,Zg:=0,Zh:=0,Zi:=0,To:=0,Code:=0,Zj:=0,Zk:=0,Zl:=0,Zm:=0,Zn:=([] : List UInt8),Zo:=a } : Api_Item)).bind fun v =>
       some (v != 0)
      else
       some false
     else
      some false
    else
     some false
   else
    some false
  else
   some false
 else
  some false : Option (Bool)).bind fun w =>
 some w
def Fl (d : Api_Pool) (a : Api_Item) (g : UInt8) (f : Int) : Option (Bool) :=
 law11_sane.bind fun i =>
 if (!i) = true then
  some false
 else
  ((J4 d).bind fun j =>
  if (!j) = true then
   some true
  else
   (Ii a).bind fun k =>
   if (!k) = true then
    some true
   else
    if (f == 0) = true then
     some true
    else
     (Dn d a).bind fun l =>
     some (l != 0) : Option (Bool)).bind fun m =>
  if m = true then
   some true
  else
   (Em a.Zb).bind fun e =>
   lt1 (((g.toNat : Int) : Int).tmod 13) fun (c : Int) =>
   (if (decide (c < 11)) = true then
    if InR c (([119,112,111,110,102,116,99,100,107,103,97] : List UInt8).length) then
     (I8 e (nth ([119,112,111,110,102,116,99,100,107,103,97] : List UInt8) c.toNat)).bind fun n =>
     if n = true then
      (some true).bind fun o => some (.inr o)
     else
      if InR c (([119,112,111,110,102,116,99,100,107,103,97] : List UInt8).length) then
       (Hw a (nth ([119,112,111,110,102,116,99,100,107,103,97] : List UInt8) c.toNat) f).bind fun b =>
       some (.inl (b.Zb,b.Ref.Za,b.Ref.No,b.Ze,b.Zf,b.Zg,b.Zh,b.Zi,b.To,b.Code,b.Zj,b.Zk,b.Zl,b.Zm,b.Zn,b.Zo))
      else none
    else none
   else
    if (c == 11) = true then
     (I8 e (120 : UInt8)).bind fun p =>
     if p = true then
      (some true).bind fun q => some (.inr q)
     else
      some (.inl (a.Zb,a.Ref.Za,a.Ref.No,a.Ze,a.Zf,a.Zg,a.Zh,a.Zi,a.To,a.Code,a.Zj,a.Zk,a.Zl,a.Zm,([97] : List UInt8),a.Zo))
    else
     (I8 e (113 : UInt8)).bind fun s =>
     if s = true then
      (some true).bind fun t => some (.inr t)
     else
      lt1 ([({ Zb:=1,Zc:=0,Zd:=false } : Api_Part)] : List Api_Part) fun (u : List Api_Part) =>
      some (.inl (a.Zb,a.Ref.Za,a.Ref.No,a.Ze,a.Zf,a.Zg,a.Zh,a.Zi,a.To,a.Code,a.Zj,a.Zk,a.Zl,a.Zm,a.Zn,u)) : Option ((Int×Int×Int×Int×Int×Int×Int×Int×Int×Int×Int×Int×Int×Int×List UInt8×List Api_Part) ⊕ (Bool))).bind fun x => match x with
   | .inl (v,w,y,aa,ab,ac,ad,ae,af,ag,ah,ai,aj,ak,al,am) =>
    ((Dn d ({ Zb:=v,Ref:=({ Za:=w,No:=y } : Api_Ref),Ze:=aa,Zf:=ab,Zg:=ac,Zh:=ad,Zi:=ae,To:=af,Code:=ag,Zj:=ah,Zk:=ai,Zl:=aj,Zm:=ak,Zn:=al,Zo:=am } : Api_Item)).bind fun an =>
    if (an == 110) = true then
     (Dn d a).bind fun ao =>
     some (ao == 0)
    else
     some false : Option (Bool)).bind fun ap =>
    some ap
   | .inr z => some z
end Go.Proofs.YtnfoiocigicdnaaGreatDoor
