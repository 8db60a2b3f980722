/-
  Part 43.
-/
import Derived.Test.YtioapcamanmoiaaDoorProg
import Derived.Test.YtioapcamanmoiaaDoorYX339
import Derived.Test.YtioapcamanmoiaaDoorYX340
import Derived.KernelRfl
namespace Go.Proofs.YtioapcamanmoiaaDoor
open Go.Rv
set_option linter.unusedVariables false
set_option linter.unusedSimpArgs false
set_option maxRecDepth 20000
def glob2 : Arr UInt32 64:=⟨[1116352408,1899447441,3049323471,3921009573,961987163,1508970993,2453635748,2870763221,3624381080,310598401,607225278,1426881987,1925078388,2162078206,2614888103,3248222580,3835390401,4022224774,264347078,604807628,770255983,1249150122,1555081692,1996064986,2554220882,2821834349,2952996808,3210313671,3336571891,3584528711,113926993,338241895,666307205,773529912,1294757372,1396182291,1695183700,1986661051,2177026350,2456956037,2730485921,2820302411,3259730800,3345764771,3516065817,3600352804,4094571909,275423344,430227734,506948616,659060556,883997877,958139571,1322822218,1537002063,1747873779,1955562222,2024104815,2227730452,2361852424,2428436474,2756734187,3204031479,3329325298],rfl⟩
theorem As0 : MpLaw Tryd.prog 119 43 89:=Akb (m:=6) (by kernel_rfl) (by decide) (by kernel_rfl) (by kernel_rfl) (by kernel_rfl) (fun a b h => AmS (m:=216) ⟨"Railway", 3,0,false,"","", 0⟩ ⟨"No", 3,1,false,"","", 8⟩ (by kernel_rfl) (by kernel_rfl) (by kernel_rfl) (by kernel_rfl) (by kernel_rfl) (by kernel_rfl) (by kernel_rfl) rfl rfl (by decide) (by decide) (by kernel_rfl) h)
attribute [go_sem_proc] reduceIte Nat.reduceLT Nat.reduceEqDiff Nat.reduceAdd Nat.reduceBEq Nat.reduceMul Nat.reduceSub Nat.reduceGT Nat.reducePow Nat.reduceLeDiff Int.reduceToNat Int.reduceLT Int.reduceAdd Int.reduceSub Nat.reduceGT Nat.reduceLeDiff Int.reduceBEq Int.reduceGT Int.reduceLE Int.reduceGE
attribute [go_sem] AtG decide_true decide_false Bool.false_eq_true beq_self_eq_true
noncomputable def B : Base:=Ahq Tryd.prog (fun i => if i = 2 then some (C1 u32 glob2.l) else none) (fun f _ => [39,40,41,42,45,47,50,65,67,70,78,85,86,88,92,93,97,98,99,100,101,102,103].contains f) (fun _ => none) (fun _ => none) none true (fun _ _ => rfl) (some (119,43,89)) (AmK As0)
theorem tbk {t F x} (h : Cc Tryd.prog t = x) : (B.env F).tab t = x:=(A0 Tryd.prog t).trans h
theorem ok : B.Ok:=Af9 _ _ _ _ _ _ _ _ _ _
theorem lm0 (F : Out) : (B.env F).lm = true:=rfl
theorem own3 (F : Out) (xs : List Operand) : (B.env F).own 3 xs = false:=rfl
theorem own4 (F : Out) (xs : List Operand) : (B.env F).own 4 xs = false:=rfl
theorem own5 (F : Out) (xs : List Operand) : (B.env F).own 5 xs = false:=rfl
theorem own6 (F : Out) (xs : List Operand) : (B.env F).own 6 xs = false:=rfl
theorem own7 (F : Out) (xs : List Operand) : (B.env F).own 7 xs = false:=rfl
theorem own8 (F : Out) (xs : List Operand) : (B.env F).own 8 xs = false:=rfl
theorem own9 (F : Out) (xs : List Operand) : (B.env F).own 9 xs = false:=rfl
theorem AsO (F : Out) (xs : List Operand) : (B.env F).own 10 xs = false:=rfl
theorem Ar6 (F : Out) (xs : List Operand) : (B.env F).own 11 xs = false:=rfl
theorem AtM (F : Out) (xs : List Operand) : (B.env F).own 12 xs = false:=rfl
theorem Aue (F : Out) (xs : List Operand) : (B.env F).own 13 xs = false:=rfl
theorem Ari (F : Out) (xs : List Operand) : (B.env F).own 14 xs = false:=rfl
theorem Ark (F : Out) (xs : List Operand) : (B.env F).own 15 xs = false:=rfl
theorem ArF (F : Out) (xs : List Operand) : (B.env F).own 16 xs = false:=rfl
theorem Arz (F : Out) (xs : List Operand) : (B.env F).own 17 xs = false:=rfl
theorem Atb (F : Out) (xs : List Operand) : (B.env F).own 18 xs = false:=rfl
theorem Aum (F : Out) (xs : List Operand) : (B.env F).own 19 xs = false:=rfl
theorem Atn (F : Out) (xs : List Operand) : (B.env F).own 20 xs = false:=rfl
theorem ArH (F : Out) (xs : List Operand) : (B.env F).own 21 xs = false:=rfl
theorem Arp (F : Out) (xs : List Operand) : (B.env F).own 22 xs = false:=rfl
theorem AtQ (F : Out) (xs : List Operand) : (B.env F).own 23 xs = false:=rfl
theorem Atz (F : Out) (xs : List Operand) : (B.env F).own 24 xs = false:=rfl
theorem ArP (F : Out) (xs : List Operand) : (B.env F).own 25 xs = false:=rfl
theorem Ar7 (F : Out) (xs : List Operand) : (B.env F).own 26 xs = false:=rfl
theorem Asa (F : Out) (xs : List Operand) : (B.env F).own 27 xs = false:=rfl
theorem AsF (F : Out) (xs : List Operand) : (B.env F).own 28 xs = false:=rfl
theorem Ar3 (F : Out) (xs : List Operand) : (B.env F).own 29 xs = false:=rfl
theorem AtR (F : Out) (xs : List Operand) : (B.env F).own 30 xs = false:=rfl
theorem AtA (F : Out) (xs : List Operand) : (B.env F).own 31 xs = false:=rfl
theorem Ata (F : Out) (xs : List Operand) : (B.env F).own 32 xs = false:=rfl
theorem Auj (F : Out) (xs : List Operand) : (B.env F).own 33 xs = false:=rfl
theorem Aua (F : Out) (xs : List Operand) : (B.env F).own 34 xs = false:=rfl
theorem AtZ (F : Out) (xs : List Operand) : (B.env F).own 35 xs = false:=rfl
theorem Ars (F : Out) (xs : List Operand) : (B.env F).own 36 xs = false:=rfl
theorem ArV (F : Out) (xs : List Operand) : (B.env F).own 37 xs = false:=rfl
theorem As4 (F : Out) (xs : List Operand) : (B.env F).own 38 xs = false:=rfl
theorem Ase (F : Out) (xs : List Operand) : (B.env F).own 39 xs = true:=rfl
theorem ArN (F : Out) (xs : List Operand) : (B.env F).own 40 xs = true:=rfl
theorem Arv (F : Out) (xs : List Operand) : (B.env F).own 41 xs = true:=rfl
theorem Atq (F : Out) (xs : List Operand) : (B.env F).own 42 xs = true:=rfl
theorem Atv (F : Out) (xs : List Operand) : (B.env F).own 43 xs = false:=rfl
theorem Arm (F : Out) (xs : List Operand) : (B.env F).own 44 xs = false:=rfl
theorem As5 (F : Out) (xs : List Operand) : (B.env F).own 45 xs = true:=rfl
theorem Asn (F : Out) (xs : List Operand) : (B.env F).own 46 xs = false:=rfl
theorem AsN (F : Out) (xs : List Operand) : (B.env F).own 47 xs = true:=rfl
theorem Auc (F : Out) (xs : List Operand) : (B.env F).own 48 xs = false:=rfl
theorem Auh (F : Out) (xs : List Operand) : (B.env F).own 49 xs = false:=rfl
theorem AtJ (F : Out) (xs : List Operand) : (B.env F).own 50 xs = true:=rfl
theorem Asj (F : Out) (xs : List Operand) : (B.env F).own 51 xs = false:=rfl
theorem Atr (F : Out) (xs : List Operand) : (B.env F).own 52 xs = false:=rfl
theorem At5 (F : Out) (xs : List Operand) : (B.env F).own 53 xs = false:=rfl
theorem Aui (F : Out) (xs : List Operand) : (B.env F).own 54 xs = false:=rfl
theorem Art (F : Out) (xs : List Operand) : (B.env F).own 55 xs = false:=rfl
theorem Atp (F : Out) (xs : List Operand) : (B.env F).own 56 xs = false:=rfl
theorem AuB (F : Out) (xs : List Operand) : (B.env F).own 57 xs = false:=rfl
theorem ArS (F : Out) (xs : List Operand) : (B.env F).own 58 xs = false:=rfl
theorem ArY (F : Out) (xs : List Operand) : (B.env F).own 59 xs = false:=rfl
theorem As9 (F : Out) (xs : List Operand) : (B.env F).own 60 xs = false:=rfl
theorem AsY (F : Out) (xs : List Operand) : (B.env F).own 61 xs = false:=rfl
theorem AsS (F : Out) (xs : List Operand) : (B.env F).own 62 xs = false:=rfl
theorem Atw (F : Out) (xs : List Operand) : (B.env F).own 63 xs = false:=rfl
theorem Asl (F : Out) (xs : List Operand) : (B.env F).own 64 xs = false:=rfl
theorem AsD (F : Out) (xs : List Operand) : (B.env F).own 65 xs = true:=rfl
theorem Atf (F : Out) (xs : List Operand) : (B.env F).own 66 xs = false:=rfl
theorem AuA (F : Out) (xs : List Operand) : (B.env F).own 67 xs = true:=rfl
theorem Ar5 (F : Out) (xs : List Operand) : (B.env F).own 68 xs = false:=rfl
theorem AsU (F : Out) (xs : List Operand) : (B.env F).own 69 xs = false:=rfl
theorem Ar0 (F : Out) (xs : List Operand) : (B.env F).own 70 xs = true:=rfl
theorem Auu (F : Out) (xs : List Operand) : (B.env F).own 71 xs = false:=rfl
theorem Asy (F : Out) (xs : List Operand) : (B.env F).own 72 xs = false:=rfl
theorem Auk (F : Out) (xs : List Operand) : (B.env F).own 73 xs = false:=rfl
theorem Aso (F : Out) (xs : List Operand) : (B.env F).own 75 xs = false:=rfl
theorem Aud (F : Out) (xs : List Operand) : (B.env F).own 76 xs = false:=rfl
theorem Ar2 (F : Out) (xs : List Operand) : (B.env F).own 77 xs = false:=rfl
theorem Arl (F : Out) (xs : List Operand) : (B.env F).own 78 xs = true:=rfl
theorem Asf (F : Out) (xs : List Operand) : (B.env F).own 79 xs = false:=rfl
theorem ArU (F : Out) (xs : List Operand) : (B.env F).own 80 xs = false:=rfl
theorem AtY (F : Out) (xs : List Operand) : (B.env F).own 81 xs = false:=rfl
theorem Auv (F : Out) (xs : List Operand) : (B.env F).own 82 xs = false:=rfl
theorem Aul (F : Out) (xs : List Operand) : (B.env F).own 83 xs = false:=rfl
theorem Aus (F : Out) (xs : List Operand) : (B.env F).own 84 xs = false:=rfl
theorem Asg (F : Out) (xs : List Operand) : (B.env F).own 85 xs = true:=rfl
theorem ArE (F : Out) (xs : List Operand) : (B.env F).own 86 xs = true:=rfl
theorem AtL (F : Out) (xs : List Operand) : (B.env F).own 87 xs = false:=rfl
theorem Atx (F : Out) (xs : List Operand) : (B.env F).own 88 xs = true:=rfl
theorem AtE (F : Out) (xs : List Operand) : (B.env F).own 89 xs = false:=rfl
theorem Ash (F : Out) (xs : List Operand) : (B.env F).own 90 xs = false:=rfl
theorem AtX (F : Out) (xs : List Operand) : (B.env F).own 91 xs = false:=rfl
theorem AsZ (F : Out) (xs : List Operand) : (B.env F).own 92 xs = true:=rfl
theorem At1 (F : Out) (xs : List Operand) : (B.env F).own 93 xs = true:=rfl
theorem ArQ (F : Out) (xs : List Operand) : (B.env F).own 94 xs = false:=rfl
theorem Atl (F : Out) (xs : List Operand) : (B.env F).own 95 xs = false:=rfl
theorem AsG (F : Out) (xs : List Operand) : (B.env F).own 96 xs = false:=rfl
theorem AsT (F : Out) (xs : List Operand) : (B.env F).own 97 xs = true:=rfl
theorem Ar1 (F : Out) (xs : List Operand) : (B.env F).own 98 xs = true:=rfl
theorem Arh (F : Out) (xs : List Operand) : (B.env F).own 99 xs = true:=rfl
theorem AqT (F : Out) (xs : List Operand) : (B.env F).own 100 xs = true:=rfl
theorem AoA (F : Out) (xs : List Operand) : (B.env F).own 101 xs = true:=rfl
theorem Ao6 (F : Out) (xs : List Operand) : (B.env F).own 102 xs = true:=rfl
theorem ApY (F : Out) (xs : List Operand) : (B.env F).own 103 xs = true:=rfl
theorem Aq1 (F : Out) (xs : List Operand) : (B.env F).own 104 xs = false:=rfl
theorem Tt : Tryd.prog.follows .mixedOrders = true:=by kernel_rfl
structure Api_Place where
 Za : Int
 Zb : Int
 Zc : Int
 deriving DecidableEq,Inhabited
def Ag (x : Api_Place) : List AV:=[i64 x.Za,i64 x.Zb,i64 x.Zc]
structure Api_Edge where
 A : Int
 B : Int
 Zb : Int
 Zd : Int
 Km : Int
 deriving DecidableEq,Inhabited
def An (x : Api_Edge) : List AV:=[i64 x.A,i64 x.B,i64 x.Zb,i64 x.Zd,i64 x.Km]
structure Api_Network where
 Ze : List Api_Place
 Zf : List Api_Edge
 deriving DecidableEq,Inhabited
def S9 (x : Api_Network) : List AV:=[.sl false (L Ag x.Ze),.sl false (L An x.Zf)]
structure Api_WagonType where
 Zg : Int
 Zh : Int
 Zi : Int
 Zj : Int
 Zk : Int
 Zl : UInt64
 Zm : Int
 Zn : Int
 deriving DecidableEq,Inhabited
def Ab (x : Api_WagonType) : List AV:=[i64 x.Zg,i64 x.Zh,i64 x.Zi,i64 x.Zj,i64 x.Zk,u64 x.Zl,i64 x.Zm,i64 x.Zn]
structure Api_Wagon where
 Zo : Int
 Zp : Int
 Zq : Int
 Zr : Int
 Zs : Int
 deriving DecidableEq,Inhabited
def Ae (x : Api_Wagon) : List AV:=[i64 x.Zo,i64 x.Zp,i64 x.Zq,i64 x.Zr,i64 x.Zs]
structure Api_Swap where
 Zt : Int
 Zu : Int
 Zv : Int
 deriving DecidableEq,Inhabited
def Ai (x : Api_Swap) : List AV:=[i64 x.Zt,i64 x.Zu,i64 x.Zv]
structure Api_Wash where
 Zw : Int
 To : Int
 Zd : Int
 deriving DecidableEq,Inhabited
def Ah (x : Api_Wash) : List AV:=[i64 x.Zw,i64 x.To,i64 x.Zd]
structure Api_Fleet where
 Zx : List Api_WagonType
 Zy : List Api_Wagon
 Zz : List Api_Swap
 Za1 : List Api_Wash
 deriving DecidableEq,Inhabited
def Y5 (x : Api_Fleet) : List AV:=[.sl false (L Ab x.Zx),.sl false (L Ae x.Zy),.sl false (L Ai x.Zz),.sl false (L Ah x.Za1)]
structure Api_Reader where
 Zb1 : Int
 Low : Int
 Zc1 : Int
 deriving DecidableEq,Inhabited
def Af (x : Api_Reader) : List AV:=[i64 x.Zb1,i64 x.Low,i64 x.Zc1]
structure Api_Shipper where
 Zb1 : Int
 deriving DecidableEq,Inhabited
def Ad (x : Api_Shipper) : List AV:=[i64 x.Zb1]
structure Api_Span where
 Zw : Int
 To : Int
 deriving DecidableEq,Inhabited
def Q0 (x : Api_Span) : List AV:=[i64 x.Zw,i64 x.To]
structure Api_Calendar where
 Zd1 : (Api_Span×Api_Span×Api_Span×Api_Span×Api_Span×Api_Span×Api_Span)
 Ze1 : List Int
 deriving DecidableEq,Inhabited
def Qw (x : Api_Calendar) : List AV:=[i64 x.Zd1.1.Zw,i64 x.Zd1.1.To,i64 x.Zd1.2.1.Zw,i64 x.Zd1.2.1.To,i64 x.Zd1.2.2.1.Zw,i64 x.Zd1.2.2.1.To,i64 x.Zd1.2.2.2.1.Zw,i64 x.Zd1.2.2.2.1.To,i64 x.Zd1.2.2.2.2.1.Zw,i64 x.Zd1.2.2.2.2.1.To,i64 x.Zd1.2.2.2.2.2.1.Zw,i64 x.Zd1.2.2.2.2.2.1.To,i64 x.Zd1.2.2.2.2.2.2.Zw,i64 x.Zd1.2.2.2.2.2.2.To,.sl false (L Pc x.Ze1)]
structure Api_RailwayInfo where
 Key : UInt64
 Zf1 : Api_Calendar
 deriving DecidableEq,Inhabited
def Ac (x : Api_RailwayInfo) : List AV:=[u64 x.Key,i64 x.Zf1.Zd1.1.Zw,i64 x.Zf1.Zd1.1.To,i64 x.Zf1.Zd1.2.1.Zw,i64 x.Zf1.Zd1.2.1.To,i64 x.Zf1.Zd1.2.2.1.Zw,i64 x.Zf1.Zd1.2.2.1.To,i64 x.Zf1.Zd1.2.2.2.1.Zw,i64 x.Zf1.Zd1.2.2.2.1.To,i64 x.Zf1.Zd1.2.2.2.2.1.Zw,i64 x.Zf1.Zd1.2.2.2.2.1.To,i64 x.Zf1.Zd1.2.2.2.2.2.1.Zw,i64 x.Zf1.Zd1.2.2.2.2.2.1.To,i64 x.Zf1.Zd1.2.2.2.2.2.2.Zw,i64 x.Zf1.Zd1.2.2.2.2.2.2.To,.sl false (L Pc x.Zf1.Ze1)]
structure Api_Pool where
 Zg1 : Api_Network
 Zh1 : Api_Fleet
 Zi1 : List Api_Reader
 Zj1 : List Api_Shipper
 Zk1 : List Api_RailwayInfo
 deriving DecidableEq,Inhabited
def Aw (x : Api_Pool) : List AV:=[.sl false (L Ag x.Zg1.Ze),.sl false (L An x.Zg1.Zf),.sl false (L Ab x.Zh1.Zx),.sl false (L Ae x.Zh1.Zy),.sl false (L Ai x.Zh1.Zz),.sl false (L Ah x.Zh1.Za1),.sl false (L Af x.Zi1),.sl false (L Ad x.Zj1),.sl false (L Ac x.Zk1)]
structure Api_Ref where
 Zb : Int
 No : Int
 deriving DecidableEq,Inhabited
def AeQ (x : Api_Ref) : List AV:=[i64 x.Zb,i64 x.No]
structure Api_Part where
 Za : Int
 Zl1 : Int
 Zm1 : Bool
 deriving DecidableEq,Inhabited
def Aj (x : Api_Part) : List AV:=[i64 x.Za,i64 x.Zl1,.bool x.Zm1]
structure Api_Item where
 Za : Int
 Ref : Api_Ref
 Zn1 : Int
 Zb1 : Int
 Zc : Int
 Zo1 : Int
 Zw : Int
 To : Int
 Code : Int
 Zp1 : Int
 Zq1 : Int
 Zr1 : Int
 Zs1 : Int
 Zt1 : List UInt8
 Zu1 : List Api_Part
 deriving DecidableEq,Inhabited
def A5 (x : Api_Item) : List AV:=[i64 x.Za,i64 x.Ref.Zb,i64 x.Ref.No,i64 x.Zn1,i64 x.Zb1,i64 x.Zc,i64 x.Zo1,i64 x.Zw,i64 x.To,i64 x.Code,i64 x.Zp1,i64 x.Zq1,i64 x.Zr1,i64 x.Zs1,.str x.Zt1,.sl false (L Aj x.Zu1)]
structure Api_Sig where
 C : UInt64
 S : UInt64
 deriving DecidableEq,Inhabited
def Aab (x : Api_Sig) : List AV:=[u64 x.C,u64 x.S]
structure Api_Record where
 Zb : Int
 No : Int
 Zv1 : Arr UInt8 32
 Zw1 : Int
 Zx1 : Api_Item
 Sig : Api_Sig
 deriving DecidableEq,Inhabited
def Ak (x : Api_Record) : List AV:=(i64 x.Zb :: i64 x.No :: (C1 u8 x.Zv1.l ++ [i64 x.Zw1,i64 x.Zx1.Za,i64 x.Zx1.Ref.Zb,i64 x.Zx1.Ref.No,i64 x.Zx1.Zn1,i64 x.Zx1.Zb1,i64 x.Zx1.Zc,i64 x.Zx1.Zo1,i64 x.Zx1.Zw,i64 x.Zx1.To,i64 x.Zx1.Code,i64 x.Zx1.Zp1,i64 x.Zx1.Zq1,i64 x.Zx1.Zr1,i64 x.Zx1.Zs1,.str x.Zx1.Zt1,.sl false (L Aj x.Zx1.Zu1),u64 x.Sig.C,u64 x.Sig.S]))
structure Api_Fork where
 A : Api_Record
 B : Api_Record
 deriving DecidableEq,Inhabited
def Ax (x : Api_Fork) : List AV:=(i64 x.A.Zb :: i64 x.A.No :: (C1 u8 x.A.Zv1.l ++ i64 x.A.Zw1 :: i64 x.A.Zx1.Za :: i64 x.A.Zx1.Ref.Zb :: i64 x.A.Zx1.Ref.No :: i64 x.A.Zx1.Zn1 :: i64 x.A.Zx1.Zb1 :: i64 x.A.Zx1.Zc :: i64 x.A.Zx1.Zo1 :: i64 x.A.Zx1.Zw :: i64 x.A.Zx1.To :: i64 x.A.Zx1.Code :: i64 x.A.Zx1.Zp1 :: i64 x.A.Zx1.Zq1 :: i64 x.A.Zx1.Zr1 :: i64 x.A.Zx1.Zs1 :: .str x.A.Zx1.Zt1 :: .sl false (L Aj x.A.Zx1.Zu1) :: u64 x.A.Sig.C :: u64 x.A.Sig.S :: i64 x.B.Zb :: i64 x.B.No :: (C1 u8 x.B.Zv1.l ++ [i64 x.B.Zw1,i64 x.B.Zx1.Za,i64 x.B.Zx1.Ref.Zb,i64 x.B.Zx1.Ref.No,i64 x.B.Zx1.Zn1,i64 x.B.Zx1.Zb1,i64 x.B.Zx1.Zc,i64 x.B.Zx1.Zo1,i64 x.B.Zx1.Zw,i64 x.B.Zx1.To,i64 x.B.Zx1.Code,i64 x.B.Zx1.Zp1,i64 x.B.Zx1.Zq1,i64 x.B.Zx1.Zr1,i64 x.B.Zx1.Zs1,.str x.B.Zx1.Zt1,.sl false (L Aj x.B.Zx1.Zu1),u64 x.B.Sig.C,u64 x.B.Sig.S])))
structure Api_Books where
 Zy1 : List (List Api_Record)
 Zz1 : List Api_Fork
 deriving DecidableEq,Inhabited
def Ap (x : Api_Books) : List AV:=[.sl false (L (cSl Ak) x.Zy1),.sl false (L Ax x.Zz1)]
inductive Api_Value where
 | mk (Za : Int) (N : Int) (B : List UInt8) (L : List Api_Value)
instance : Inhabited Api_Value:=⟨.mk default default default default⟩
def Api_Value.Za (x : Api_Value) : Int:=match x with
 | .mk a _ _ _ => a
theorem Xy {x0 : Int} {x1 : Int} {x2 : List UInt8} {x3 : List Api_Value} : (Api_Value.mk x0 x1 x2 x3).Za = x0:=rfl
def Api_Value.N (x : Api_Value) : Int:=match x with
 | .mk _ a _ _ => a
theorem Ac6 {x0 : Int} {x1 : Int} {x2 : List UInt8} {x3 : List Api_Value} : (Api_Value.mk x0 x1 x2 x3).N = x1:=rfl
def Api_Value.B (x : Api_Value) : List UInt8:=match x with
 | .mk _ _ a _ => a
theorem Adr {x0 : Int} {x1 : Int} {x2 : List UInt8} {x3 : List Api_Value} : (Api_Value.mk x0 x1 x2 x3).B = x2:=rfl
def Api_Value.L (x : Api_Value) : List Api_Value:=match x with
 | .mk _ _ _ a => a
theorem Aem {x0 : Int} {x1 : Int} {x2 : List UInt8} {x3 : List Api_Value} : (Api_Value.mk x0 x1 x2 x3).L = x3:=rfl
noncomputable def cApi_Value (v : Api_Value) : List AV:=Api_Value.rec (motive_1:=fun _ => List AV) (motive_2:=fun _ => List (List AV)) (fun Kind_ N_ B_ L_ ih3 => [i64 Kind_,i64 N_,.sl false (L cU8 B_),.sl false ih3]) [] (fun _ _ x l => x :: l) v
theorem AbX (l : List Api_Value) : Api_Value.rec_1 (motive_1:=fun _ => List AV) (motive_2:=fun _ => List (List AV)) (fun Kind_ N_ B_ L_ ih3 => [i64 Kind_,i64 N_,.sl false (L cU8 B_),.sl false ih3]) [] (fun _ _ x l => x :: l) l = L cApi_Value l:=by
  induction l with
  | nil => rfl
  | cons x l ih => exact congrArg (cApi_Value x :: ·) ih
theorem Qy (x : Api_Value) : cApi_Value x = [i64 x.Za,i64 x.N,.sl false (L cU8 x.B),.sl false (L cApi_Value x.L)]:=by
  cases x with
  | mk a0 a1 a2 a3 =>
    show [i64 a0,i64 a1,.sl false (L cU8 a2),.sl false (Api_Value.rec_1 (motive_1:=fun _ => List AV) (motive_2:=fun _ => List (List AV)) (fun Kind_ N_ B_ L_ ih3 => [i64 Kind_,i64 N_,.sl false (L cU8 B_),.sl false ih3]) [] (fun _ _ x l => x :: l) a3)] = _
    rw [AbX];rfl
structure Edi_checker where
 p : Api_Pool
 it : Api_Item
 ok : Bool
 deriving DecidableEq,Inhabited
def Abf (x : Edi_checker) : List AV:=[.sl false (L Ag x.p.Zg1.Ze),.sl false (L An x.p.Zg1.Zf),.sl false (L Ab x.p.Zh1.Zx),.sl false (L Ae x.p.Zh1.Zy),.sl false (L Ai x.p.Zh1.Zz),.sl false (L Ah x.p.Zh1.Za1),.sl false (L Af x.p.Zi1),.sl false (L Ad x.p.Zj1),.sl false (L Ac x.p.Zk1),i64 x.it.Za,i64 x.it.Ref.Zb,i64 x.it.Ref.No,i64 x.it.Zn1,i64 x.it.Zb1,i64 x.it.Zc,i64 x.it.Zo1,i64 x.it.Zw,i64 x.it.To,i64 x.it.Code,i64 x.it.Zp1,i64 x.it.Zq1,i64 x.it.Zr1,i64 x.it.Zs1,.str x.it.Zt1,.sl false (L Aj x.it.Zu1),.bool x.ok]
structure Api_Report where
 Ref : Api_Ref
 By : Api_Ref
 Zw1 : Int
 Zx1 : Api_Item
 deriving DecidableEq,Inhabited
def A3 (x : Api_Report) : List AV:=[i64 x.Ref.Zb,i64 x.Ref.No,i64 x.By.Zb,i64 x.By.No,i64 x.Zw1,i64 x.Zx1.Za,i64 x.Zx1.Ref.Zb,i64 x.Zx1.Ref.No,i64 x.Zx1.Zn1,i64 x.Zx1.Zb1,i64 x.Zx1.Zc,i64 x.Zx1.Zo1,i64 x.Zx1.Zw,i64 x.Zx1.To,i64 x.Zx1.Code,i64 x.Zx1.Zp1,i64 x.Zx1.Zq1,i64 x.Zx1.Zr1,i64 x.Zx1.Zs1,.str x.Zx1.Zt1,.sl false (L Aj x.Zx1.Zu1)]
theorem tt3 : Cc Tryd.prog 3 = some ⟨.int .i64,1,8,[i64 0]⟩:=by kernel_rfl
theorem tb3 (F : Out) : (B.env F).tab 3 = some ⟨.int .i64,1,8,[i64 0]⟩:=(A0 Tryd.prog 3).trans tt3
theorem tt4 : Cc Tryd.prog 4 = some ⟨.bool,1,1,[.bool false]⟩:=by kernel_rfl
theorem tb4 (F : Out) : (B.env F).tab 4 = some ⟨.bool,1,1,[.bool false]⟩:=(A0 Tryd.prog 4).trans tt4
theorem tt5 : Cc Tryd.prog 5 = some ⟨.int .u8,1,1,[u8 ((0 : UInt8))]⟩:=by kernel_rfl
theorem tb5 (F : Out) : (B.env F).tab 5 = some ⟨.int .u8,1,1,[u8 ((0 : UInt8))]⟩:=(A0 Tryd.prog 5).trans tt5
theorem tt9 : Cc Tryd.prog 9 = some ⟨.string,1,16,[.str (([] : List UInt8))]⟩:=by kernel_rfl
theorem tb9 (F : Out) : (B.env F).tab 9 = some ⟨.string,1,16,[.str (([] : List UInt8))]⟩:=(A0 Tryd.prog 9).trans tt9
theorem tt22 : Cc Tryd.prog 22 = some ⟨.slice 127,1,24,[.sl true (L Ag ([]))]⟩:=by kernel_rfl
theorem tb22 (F : Out) : (B.env F).tab 22 = some ⟨.slice 127,1,24,[.sl true (L Ag ([]))]⟩:=(A0 Tryd.prog 22).trans tt22
theorem tt23 : Cc Tryd.prog 23 = some ⟨.slice 129,1,24,[.sl true (L An ([]))]⟩:=by kernel_rfl
theorem tb23 (F : Out) : (B.env F).tab 23 = some ⟨.slice 129,1,24,[.sl true (L An ([]))]⟩:=(A0 Tryd.prog 23).trans tt23
theorem tt25 : Cc Tryd.prog 25 = some ⟨.struct #[⟨"Places", 22,0,false,"","", 0⟩,⟨"Edges", 23,1,false,"","", 24⟩],2,48,[.sl true (L Ag ([])),.sl true (L An ([]))]⟩:=by kernel_rfl
theorem tb25 (F : Out) : (B.env F).tab 25 = some ⟨.struct #[⟨"Places", 22,0,false,"","", 0⟩,⟨"Edges", 23,1,false,"","", 24⟩],2,48,[.sl true (L Ag ([])),.sl true (L An ([]))]⟩:=(A0 Tryd.prog 25).trans tt25
theorem tt26 : Cc Tryd.prog 26 = some ⟨.slice 131,1,24,[.sl true (L Ab ([]))]⟩:=by kernel_rfl
theorem tb26 (F : Out) : (B.env F).tab 26 = some ⟨.slice 131,1,24,[.sl true (L Ab ([]))]⟩:=(A0 Tryd.prog 26).trans tt26
theorem tt27 : Cc Tryd.prog 27 = some ⟨.slice 133,1,24,[.sl true (L Ae ([]))]⟩:=by kernel_rfl
theorem tb27 (F : Out) : (B.env F).tab 27 = some ⟨.slice 133,1,24,[.sl true (L Ae ([]))]⟩:=(A0 Tryd.prog 27).trans tt27
theorem tt28 : Cc Tryd.prog 28 = some ⟨.slice 167,1,24,[.sl true (L Ai ([]))]⟩:=by kernel_rfl
theorem tb28 (F : Out) : (B.env F).tab 28 = some ⟨.slice 167,1,24,[.sl true (L Ai ([]))]⟩:=(A0 Tryd.prog 28).trans tt28
theorem tt29 : Cc Tryd.prog 29 = some ⟨.slice 171,1,24,[.sl true (L Ah ([]))]⟩:=by kernel_rfl
theorem tb29 (F : Out) : (B.env F).tab 29 = some ⟨.slice 171,1,24,[.sl true (L Ah ([]))]⟩:=(A0 Tryd.prog 29).trans tt29
theorem tt31 : Cc Tryd.prog 31 = some ⟨.struct #[⟨"Types", 26,0,false,"","", 0⟩,⟨"Wagons", 27,1,false,"","", 24⟩,⟨"Swaps", 28,2,false,"","", 48⟩,⟨"Washes", 29,3,false,"","", 72⟩],4,96,[.sl true (L Ab ([])),.sl true (L Ae ([])),.sl true (L Ai ([])),.sl true (L Ah ([]))]⟩:=by kernel_rfl
theorem tb31 (F : Out) : (B.env F).tab 31 = some ⟨.struct #[⟨"Types", 26,0,false,"","", 0⟩,⟨"Wagons", 27,1,false,"","", 24⟩,⟨"Swaps", 28,2,false,"","", 48⟩,⟨"Washes", 29,3,false,"","", 72⟩],4,96,[.sl true (L Ab ([])),.sl true (L Ae ([])),.sl true (L Ai ([])),.sl true (L Ah ([]))]⟩:=(A0 Tryd.prog 31).trans tt31
theorem tt32 : Cc Tryd.prog 32 = some ⟨.slice 135,1,24,[.sl true (L Af ([]))]⟩:=by kernel_rfl
theorem tb32 (F : Out) : (B.env F).tab 32 = some ⟨.slice 135,1,24,[.sl true (L Af ([]))]⟩:=(A0 Tryd.prog 32).trans tt32
theorem tt33 : Cc Tryd.prog 33 = some ⟨.slice 137,1,24,[.sl true (L Ad ([]))]⟩:=by kernel_rfl
theorem tb33 (F : Out) : (B.env F).tab 33 = some ⟨.slice 137,1,24,[.sl true (L Ad ([]))]⟩:=(A0 Tryd.prog 33).trans tt33
theorem tt34 : Cc Tryd.prog 34 = some ⟨.slice 74,1,24,[.sl true (L Ac ([]))]⟩:=by kernel_rfl
theorem Aq3 (F : Out) : (B.env F).tab 34 = some ⟨.slice 74,1,24,[.sl true (L Ac ([]))]⟩:=(A0 Tryd.prog 34).trans tt34
theorem tt36 : Cc Tryd.prog 36 = some ⟨.struct #[⟨"Network", 25,0,false,"","", 0⟩,⟨"Fleet", 31,2,false,"","", 48⟩,⟨"Readers", 32,6,false,"","", 144⟩,⟨"Shippers", 33,7,false,"","", 168⟩,⟨"Railways", 34,8,false,"","", 192⟩],9,216,[.sl true (L Ag ([])),.sl true (L An ([])),.sl true (L Ab ([])),.sl true (L Ae ([])),.sl true (L Ai ([])),.sl true (L Ah ([])),.sl true (L Af ([])),.sl true (L Ad ([])),.sl true (L Ac ([]))]⟩:=by kernel_rfl
theorem tb36 (F : Out) : (B.env F).tab 36 = some ⟨.struct #[⟨"Network", 25,0,false,"","", 0⟩,⟨"Fleet", 31,2,false,"","", 48⟩,⟨"Readers", 32,6,false,"","", 144⟩,⟨"Shippers", 33,7,false,"","", 168⟩,⟨"Railways", 34,8,false,"","", 192⟩],9,216,[.sl true (L Ag ([])),.sl true (L An ([])),.sl true (L Ab ([])),.sl true (L Ae ([])),.sl true (L Ai ([])),.sl true (L Ah ([])),.sl true (L Af ([])),.sl true (L Ad ([])),.sl true (L Ac ([]))]⟩:=(A0 Tryd.prog 36).trans tt36
theorem tt37 : Cc Tryd.prog 37 = some ⟨.slice 75,1,24,[.sl true (L (cSl Ak) ([]))]⟩:=by kernel_rfl
theorem Aow (F : Out) : (B.env F).tab 37 = some ⟨.slice 75,1,24,[.sl true (L (cSl Ak) ([]))]⟩:=(A0 Tryd.prog 37).trans tt37
theorem tt38 : Cc Tryd.prog 38 = some ⟨.slice 96,1,24,[.sl true (L Ax ([]))]⟩:=by kernel_rfl
theorem Aq7 (F : Out) : (B.env F).tab 38 = some ⟨.slice 96,1,24,[.sl true (L Ax ([]))]⟩:=(A0 Tryd.prog 38).trans tt38
theorem tt40 : Cc Tryd.prog 40 = some ⟨.struct #[⟨"Logs", 37,0,false,"","", 0⟩,⟨"Forks", 38,1,false,"","", 24⟩],2,48,[.sl true (L (cSl Ak) ([])),.sl true (L Ax ([]))]⟩:=by kernel_rfl
theorem tb40 (F : Out) : (B.env F).tab 40 = some ⟨.struct #[⟨"Logs", 37,0,false,"","", 0⟩,⟨"Forks", 38,1,false,"","", 24⟩],2,48,[.sl true (L (cSl Ak) ([])),.sl true (L Ax ([]))]⟩:=(A0 Tryd.prog 40).trans tt40
theorem tt41 : Cc Tryd.prog 41 = some ⟨.int .u64,1,8,[u64 ((0 : UInt64))]⟩:=by kernel_rfl
theorem Aq4 (F : Out) : (B.env F).tab 41 = some ⟨.int .u64,1,8,[u64 ((0 : UInt64))]⟩:=(A0 Tryd.prog 41).trans tt41
theorem tt43 : Cc Tryd.prog 43 = some ⟨.struct #[⟨"Railway", 3,0,false,"","", 0⟩,⟨"No", 3,1,false,"","", 8⟩],2,16,[i64 0,i64 0]⟩:=by kernel_rfl
theorem As8 (F : Out) : (B.env F).tab 43 = some ⟨.struct #[⟨"Railway", 3,0,false,"","", 0⟩,⟨"No", 3,1,false,"","", 8⟩],2,16,[i64 0,i64 0]⟩:=(A0 Tryd.prog 43).trans tt43
theorem tt44 : Cc Tryd.prog 44 = some ⟨.slice 175,1,24,[.sl true (L Aj ([]))]⟩:=by kernel_rfl
theorem tb44 (F : Out) : (B.env F).tab 44 = some ⟨.slice 175,1,24,[.sl true (L Aj ([]))]⟩:=(A0 Tryd.prog 44).trans tt44
theorem tt46 : Cc Tryd.prog 46 = some ⟨.struct #[⟨"Kind", 3,0,false,"","", 0⟩,⟨"Ref", 43,1,false,"","", 8⟩,⟨"Wagon", 3,3,false,"","", 24⟩,⟨"Place", 3,4,false,"","", 32⟩,⟨"Other", 3,5,false,"","", 40⟩,⟨"Number", 3,6,false,"","", 48⟩,⟨"From", 3,7,false,"","", 56⟩,⟨"To", 3,8,false,"","", 64⟩,⟨"Code", 3,9,false,"","", 72⟩,⟨"Dest", 3,10,false,"","", 80⟩,⟨"Class", 3,11,false,"","", 88⟩,⟨"Weight", 3,12,false,"","", 96⟩,⟨"Amount", 3,13,false,"","", 104⟩,⟨"Text", 9,14,false,"","", 112⟩,⟨"Parts", 44,15,false,"","", 128⟩],16,152,[i64 0,i64 0,i64 0,i64 0,i64 0,i64 0,i64 0,i64 0,i64 0,i64 0,i64 0,i64 0,i64 0,i64 0,.str (([] : List UInt8)),.sl true (L Aj ([]))]⟩:=by kernel_rfl
theorem tb46 (F : Out) : (B.env F).tab 46 = some ⟨.struct #[⟨"Kind", 3,0,false,"","", 0⟩,⟨"Ref", 43,1,false,"","", 8⟩,⟨"Wagon", 3,3,false,"","", 24⟩,⟨"Place", 3,4,false,"","", 32⟩,⟨"Other", 3,5,false,"","", 40⟩,⟨"Number", 3,6,false,"","", 48⟩,⟨"From", 3,7,false,"","", 56⟩,⟨"To", 3,8,false,"","", 64⟩,⟨"Code", 3,9,false,"","", 72⟩,⟨"Dest", 3,10,false,"","", 80⟩,⟨"Class", 3,11,false,"","", 88⟩,⟨"Weight", 3,12,false,"","", 96⟩,⟨"Amount", 3,13,false,"","", 104⟩,⟨"Text", 9,14,false,"","", 112⟩,⟨"Parts", 44,15,false,"","", 128⟩],16,152,[i64 0,i64 0,i64 0,i64 0,i64 0,i64 0,i64 0,i64 0,i64 0,i64 0,i64 0,i64 0,i64 0,i64 0,.str (([] : List UInt8)),.sl true (L Aj ([]))]⟩:=(A0 Tryd.prog 46).trans tt46
theorem tt52 : Cc Tryd.prog 52 = some ⟨.array 32 5,32,32,(C1 u8 ((Arr.rep 32 (0 : UInt8))).l)⟩:=by kernel_rfl
theorem Aur (F : Out) : (B.env F).tab 52 = some ⟨.array 32 5,32,32,(C1 u8 ((Arr.rep 32 (0 : UInt8))).l)⟩:=(A0 Tryd.prog 52).trans tt52
theorem tt54 : Cc Tryd.prog 54 = some ⟨.struct #[⟨"C", 41,0,false,"","", 0⟩,⟨"S", 41,1,false,"","", 8⟩],2,16,[u64 ((0 : UInt64)),u64 ((0 : UInt64))]⟩:=by kernel_rfl
theorem tb54 (F : Out) : (B.env F).tab 54 = some ⟨.struct #[⟨"C", 41,0,false,"","", 0⟩,⟨"S", 41,1,false,"","", 8⟩],2,16,[u64 ((0 : UInt64)),u64 ((0 : UInt64))]⟩:=(A0 Tryd.prog 54).trans tt54
theorem tt56 : Cc Tryd.prog 56 = some ⟨.struct #[⟨"Railway", 3,0,false,"","", 0⟩,⟨"No", 3,1,false,"","", 8⟩,⟨"Prev", 52,2,false,"","", 16⟩,⟨"Time", 3,34,false,"","", 48⟩,⟨"Item", 46,35,false,"","", 56⟩,⟨"Sig", 54,51,false,"","", 208⟩],53,224,(i64 0 :: i64 0 :: (C1 u8 ((Arr.rep 32 (0 : UInt8))).l ++ [i64 0,i64 0,i64 0,i64 0,i64 0,i64 0,i64 0,i64 0,i64 0,i64 0,i64 0,i64 0,i64 0,i64 0,i64 0,.str (([] : List UInt8)),.sl true (L Aj ([])),u64 ((0 : UInt64)),u64 ((0 : UInt64))]))⟩:=by kernel_rfl
theorem AtO (F : Out) : (B.env F).tab 56 = some ⟨.struct #[⟨"Railway", 3,0,false,"","", 0⟩,⟨"No", 3,1,false,"","", 8⟩,⟨"Prev", 52,2,false,"","", 16⟩,⟨"Time", 3,34,false,"","", 48⟩,⟨"Item", 46,35,false,"","", 56⟩,⟨"Sig", 54,51,false,"","", 208⟩],53,224,(i64 0 :: i64 0 :: (C1 u8 ((Arr.rep 32 (0 : UInt8))).l ++ [i64 0,i64 0,i64 0,i64 0,i64 0,i64 0,i64 0,i64 0,i64 0,i64 0,i64 0,i64 0,i64 0,i64 0,i64 0,.str (([] : List UInt8)),.sl true (L Aj ([])),u64 ((0 : UInt64)),u64 ((0 : UInt64))]))⟩:=(A0 Tryd.prog 56).trans tt56
theorem tt57 : Cc Tryd.prog 57 = some ⟨.int .i64,1,8,[i64 0]⟩:=by kernel_rfl
theorem tb57 (F : Out) : (B.env F).tab 57 = some ⟨.int .i64,1,8,[i64 0]⟩:=(A0 Tryd.prog 57).trans tt57
theorem tt63 : Cc Tryd.prog 63 = some ⟨.slice 5,1,24,[.sl true (L cU8 ([]))]⟩:=by kernel_rfl
theorem Ant (F : Out) : (B.env F).tab 63 = some ⟨.slice 5,1,24,[.sl true (L cU8 ([]))]⟩:=(A0 Tryd.prog 63).trans tt63
theorem tt68 : Cc Tryd.prog 68 = some ⟨.struct #[⟨"From", 3,0,false,"","", 0⟩,⟨"To", 3,1,false,"","", 8⟩],2,16,[i64 0,i64 0]⟩:=by kernel_rfl
theorem tb68 (F : Out) : (B.env F).tab 68 = some ⟨.struct #[⟨"From", 3,0,false,"","", 0⟩,⟨"To", 3,1,false,"","", 8⟩],2,16,[i64 0,i64 0]⟩:=(A0 Tryd.prog 68).trans tt68
theorem tt69 : Cc Tryd.prog 69 = some ⟨.array 7 68,14,112,[i64 0,i64 0,i64 0,i64 0,i64 0,i64 0,i64 0,i64 0,i64 0,i64 0,i64 0,i64 0,i64 0,i64 0]⟩:=by kernel_rfl
theorem tb69 (F : Out) : (B.env F).tab 69 = some ⟨.array 7 68,14,112,[i64 0,i64 0,i64 0,i64 0,i64 0,i64 0,i64 0,i64 0,i64 0,i64 0,i64 0,i64 0,i64 0,i64 0]⟩:=(A0 Tryd.prog 69).trans tt69
theorem tt70 : Cc Tryd.prog 70 = some ⟨.slice 3,1,24,[.sl true (L Pc ([]))]⟩:=by kernel_rfl
theorem ArC (F : Out) : (B.env F).tab 70 = some ⟨.slice 3,1,24,[.sl true (L Pc ([]))]⟩:=(A0 Tryd.prog 70).trans tt70
theorem tt72 : Cc Tryd.prog 72 = some ⟨.struct #[⟨"Open", 69,0,false,"","", 0⟩,⟨"Holidays", 70,14,false,"","", 112⟩],15,136,[i64 0,i64 0,i64 0,i64 0,i64 0,i64 0,i64 0,i64 0,i64 0,i64 0,i64 0,i64 0,i64 0,i64 0,.sl true (L Pc ([]))]⟩:=by kernel_rfl
theorem tb72 (F : Out) : (B.env F).tab 72 = some ⟨.struct #[⟨"Open", 69,0,false,"","", 0⟩,⟨"Holidays", 70,14,false,"","", 112⟩],15,136,[i64 0,i64 0,i64 0,i64 0,i64 0,i64 0,i64 0,i64 0,i64 0,i64 0,i64 0,i64 0,i64 0,i64 0,.sl true (L Pc ([]))]⟩:=(A0 Tryd.prog 72).trans tt72
theorem tt74 : Cc Tryd.prog 74 = some ⟨.struct #[⟨"Key", 41,0,false,"","", 0⟩,⟨"Calendar", 72,1,false,"","", 8⟩],16,144,[u64 ((0 : UInt64)),i64 0,i64 0,i64 0,i64 0,i64 0,i64 0,i64 0,i64 0,i64 0,i64 0,i64 0,i64 0,i64 0,i64 0,.sl true (L Pc ([]))]⟩:=by kernel_rfl
theorem Ate (F : Out) : (B.env F).tab 74 = some ⟨.struct #[⟨"Key", 41,0,false,"","", 0⟩,⟨"Calendar", 72,1,false,"","", 8⟩],16,144,[u64 ((0 : UInt64)),i64 0,i64 0,i64 0,i64 0,i64 0,i64 0,i64 0,i64 0,i64 0,i64 0,i64 0,i64 0,i64 0,i64 0,.sl true (L Pc ([]))]⟩:=(A0 Tryd.prog 74).trans tt74
theorem tt75 : Cc Tryd.prog 75 = some ⟨.slice 56,1,24,[.sl true (L Ak ([]))]⟩:=by kernel_rfl
theorem Alo (F : Out) : (B.env F).tab 75 = some ⟨.slice 56,1,24,[.sl true (L Ak ([]))]⟩:=(A0 Tryd.prog 75).trans tt75
theorem tt85 : Cc Tryd.prog 85 = some ⟨.slice 89,1,24,[.sl true (L A3 ([]))]⟩:=by kernel_rfl
theorem Auo (F : Out) : (B.env F).tab 85 = some ⟨.slice 89,1,24,[.sl true (L A3 ([]))]⟩:=(A0 Tryd.prog 85).trans tt85
theorem tt89 : Cc Tryd.prog 89 = some ⟨.struct #[⟨"Ref", 43,0,false,"","", 0⟩,⟨"By", 43,2,false,"","", 16⟩,⟨"Time", 3,4,false,"","", 32⟩,⟨"Item", 46,5,false,"","", 40⟩],21,192,[i64 0,i64 0,i64 0,i64 0,i64 0,i64 0,i64 0,i64 0,i64 0,i64 0,i64 0,i64 0,i64 0,i64 0,i64 0,i64 0,i64 0,i64 0,i64 0,.str (([] : List UInt8)),.sl true (L Aj ([]))]⟩:=by kernel_rfl
theorem AtH (F : Out) : (B.env F).tab 89 = some ⟨.struct #[⟨"Ref", 43,0,false,"","", 0⟩,⟨"By", 43,2,false,"","", 16⟩,⟨"Time", 3,4,false,"","", 32⟩,⟨"Item", 46,5,false,"","", 40⟩],21,192,[i64 0,i64 0,i64 0,i64 0,i64 0,i64 0,i64 0,i64 0,i64 0,i64 0,i64 0,i64 0,i64 0,i64 0,i64 0,i64 0,i64 0,i64 0,i64 0,.str (([] : List UInt8)),.sl true (L Aj ([]))]⟩:=(A0 Tryd.prog 89).trans tt89
theorem tt96 : Cc Tryd.prog 96 = some ⟨.struct #[⟨"A", 56,0,false,"","", 0⟩,⟨"B", 56,53,false,"","", 224⟩],106,448,(i64 0 :: i64 0 :: (C1 u8 ((Arr.rep 32 (0 : UInt8))).l ++ i64 0 :: i64 0 :: i64 0 :: i64 0 :: i64 0 :: i64 0 :: i64 0 :: i64 0 :: i64 0 :: i64 0 :: i64 0 :: i64 0 :: i64 0 :: i64 0 :: i64 0 :: .str (([] : List UInt8)) :: .sl true (L Aj ([])) :: u64 ((0 : UInt64)) :: u64 ((0 : UInt64)) :: i64 0 :: i64 0 :: (C1 u8 ((Arr.rep 32 (0 : UInt8))).l ++ [i64 0,i64 0,i64 0,i64 0,i64 0,i64 0,i64 0,i64 0,i64 0,i64 0,i64 0,i64 0,i64 0,i64 0,i64 0,.str (([] : List UInt8)),.sl true (L Aj ([])),u64 ((0 : UInt64)),u64 ((0 : UInt64))])))⟩:=by kernel_rfl
theorem AsL (F : Out) : (B.env F).tab 96 = some ⟨.struct #[⟨"A", 56,0,false,"","", 0⟩,⟨"B", 56,53,false,"","", 224⟩],106,448,(i64 0 :: i64 0 :: (C1 u8 ((Arr.rep 32 (0 : UInt8))).l ++ i64 0 :: i64 0 :: i64 0 :: i64 0 :: i64 0 :: i64 0 :: i64 0 :: i64 0 :: i64 0 :: i64 0 :: i64 0 :: i64 0 :: i64 0 :: i64 0 :: i64 0 :: .str (([] : List UInt8)) :: .sl true (L Aj ([])) :: u64 ((0 : UInt64)) :: u64 ((0 : UInt64)) :: i64 0 :: i64 0 :: (C1 u8 ((Arr.rep 32 (0 : UInt8))).l ++ [i64 0,i64 0,i64 0,i64 0,i64 0,i64 0,i64 0,i64 0,i64 0,i64 0,i64 0,i64 0,i64 0,i64 0,i64 0,.str (([] : List UInt8)),.sl true (L Aj ([])),u64 ((0 : UInt64)),u64 ((0 : UInt64))])))⟩:=(A0 Tryd.prog 96).trans tt96
theorem Are : Cc Tryd.prog 110 = some ⟨.slice 112,1,24,[.sl true (L cApi_Value ([]))]⟩:=by kernel_rfl
theorem AjW (F : Out) : (B.env F).tab 110 = some ⟨.slice 112,1,24,[.sl true (L cApi_Value ([]))]⟩:=(A0 Tryd.prog 110).trans Are
theorem AtN : Cc Tryd.prog 112 = some ⟨.struct #[⟨"Kind", 3,0,false,"","", 0⟩,⟨"N", 3,1,false,"","", 8⟩,⟨"B", 63,2,false,"","", 16⟩,⟨"L", 110,3,false,"","", 40⟩],4,64,[i64 0,i64 0,.sl true (L cU8 ([])),.sl true (L cApi_Value ([]))]⟩:=by kernel_rfl
theorem Al3 (F : Out) : (B.env F).tab 112 = some ⟨.struct #[⟨"Kind", 3,0,false,"","", 0⟩,⟨"N", 3,1,false,"","", 8⟩,⟨"B", 63,2,false,"","", 16⟩,⟨"L", 110,3,false,"","", 40⟩],4,64,[i64 0,i64 0,.sl true (L cU8 ([])),.sl true (L cApi_Value ([]))]⟩:=(A0 Tryd.prog 112).trans AtN
theorem AtS : Cc Tryd.prog 119 = some ⟨.map 43 89,1,8,[.val (.map none)]⟩:=by kernel_rfl
theorem Asw (F : Out) : (B.env F).tab 119 = some ⟨.map 43 89,1,8,[.val (.map none)]⟩:=(A0 Tryd.prog 119).trans AtS
theorem AtF : Cc Tryd.prog 127 = some ⟨.struct #[⟨"Kind", 3,0,false,"","", 0⟩,⟨"Railway", 3,1,false,"","", 8⟩,⟨"Other", 3,2,false,"","", 16⟩],3,24,[i64 0,i64 0,i64 0]⟩:=by kernel_rfl
theorem Aqu (F : Out) : (B.env F).tab 127 = some ⟨.struct #[⟨"Kind", 3,0,false,"","", 0⟩,⟨"Railway", 3,1,false,"","", 8⟩,⟨"Other", 3,2,false,"","", 16⟩],3,24,[i64 0,i64 0,i64 0]⟩:=(A0 Tryd.prog 127).trans AtF
theorem As6 : Cc Tryd.prog 129 = some ⟨.struct #[⟨"A", 3,0,false,"","", 0⟩,⟨"B", 3,1,false,"","", 8⟩,⟨"Railway", 3,2,false,"","", 16⟩,⟨"Minutes", 3,3,false,"","", 24⟩,⟨"Km", 3,4,false,"","", 32⟩],5,40,[i64 0,i64 0,i64 0,i64 0,i64 0]⟩:=by kernel_rfl
theorem Aqs (F : Out) : (B.env F).tab 129 = some ⟨.struct #[⟨"A", 3,0,false,"","", 0⟩,⟨"B", 3,1,false,"","", 8⟩,⟨"Railway", 3,2,false,"","", 16⟩,⟨"Minutes", 3,3,false,"","", 24⟩,⟨"Km", 3,4,false,"","", 32⟩],5,40,[i64 0,i64 0,i64 0,i64 0,i64 0]⟩:=(A0 Tryd.prog 129).trans As6
theorem Aun : Cc Tryd.prog 131 = some ⟨.struct #[⟨"Load", 3,0,false,"","", 0⟩,⟨"Tare", 3,1,false,"","", 8⟩,⟨"Length", 3,2,false,"","", 16⟩,⟨"Gauge", 3,3,false,"","", 24⟩,⟨"Brake", 3,4,false,"","", 32⟩,⟨"Classes", 41,5,false,"","", 40⟩,⟨"Life", 3,6,false,"","", 48⟩,⟨"Floor", 3,7,false,"","", 56⟩],8,64,[i64 0,i64 0,i64 0,i64 0,i64 0,u64 ((0 : UInt64)),i64 0,i64 0]⟩:=by kernel_rfl
theorem AqW (F : Out) : (B.env F).tab 131 = some ⟨.struct #[⟨"Load", 3,0,false,"","", 0⟩,⟨"Tare", 3,1,false,"","", 8⟩,⟨"Length", 3,2,false,"","", 16⟩,⟨"Gauge", 3,3,false,"","", 24⟩,⟨"Brake", 3,4,false,"","", 32⟩,⟨"Classes", 41,5,false,"","", 40⟩,⟨"Life", 3,6,false,"","", 48⟩,⟨"Floor", 3,7,false,"","", 56⟩],8,64,[i64 0,i64 0,i64 0,i64 0,i64 0,u64 ((0 : UInt64)),i64 0,i64 0]⟩:=(A0 Tryd.prog 131).trans Aun
theorem Aub : Cc Tryd.prog 133 = some ⟨.struct #[⟨"Type", 3,0,false,"","", 0⟩,⟨"Owner", 3,1,false,"","", 8⟩,⟨"Home", 3,2,false,"","", 16⟩,⟨"Built", 3,3,false,"","", 24⟩,⟨"Worth", 3,4,false,"","", 32⟩],5,40,[i64 0,i64 0,i64 0,i64 0,i64 0]⟩:=by kernel_rfl
theorem Ao5 (F : Out) : (B.env F).tab 133 = some ⟨.struct #[⟨"Type", 3,0,false,"","", 0⟩,⟨"Owner", 3,1,false,"","", 8⟩,⟨"Home", 3,2,false,"","", 16⟩,⟨"Built", 3,3,false,"","", 24⟩,⟨"Worth", 3,4,false,"","", 32⟩],5,40,[i64 0,i64 0,i64 0,i64 0,i64 0]⟩:=(A0 Tryd.prog 133).trans Aub
theorem ArB : Cc Tryd.prog 135 = some ⟨.struct #[⟨"Place", 3,0,false,"","", 0⟩,⟨"Low", 3,1,false,"","", 8⟩,⟨"High", 3,2,false,"","", 16⟩],3,24,[i64 0,i64 0,i64 0]⟩:=by kernel_rfl
theorem Ap1 (F : Out) : (B.env F).tab 135 = some ⟨.struct #[⟨"Place", 3,0,false,"","", 0⟩,⟨"Low", 3,1,false,"","", 8⟩,⟨"High", 3,2,false,"","", 16⟩],3,24,[i64 0,i64 0,i64 0]⟩:=(A0 Tryd.prog 135).trans ArB
theorem At8 : Cc Tryd.prog 137 = some ⟨.struct #[⟨"Place", 3,0,false,"","", 0⟩],1,8,[i64 0]⟩:=by kernel_rfl
theorem AoY (F : Out) : (B.env F).tab 137 = some ⟨.struct #[⟨"Place", 3,0,false,"","", 0⟩],1,8,[i64 0]⟩:=(A0 Tryd.prog 137).trans At8
theorem AsP : Cc Tryd.prog 160 = some ⟨.slice 63,1,24,[.sl true (L (cSl cU8) ([]))]⟩:=by kernel_rfl
theorem AqE (F : Out) : (B.env F).tab 160 = some ⟨.slice 63,1,24,[.sl true (L (cSl cU8) ([]))]⟩:=(A0 Tryd.prog 160).trans AsP
theorem Arf : Cc Tryd.prog 161 = some ⟨.int .u32,1,4,[u32 ((0 : UInt32))]⟩:=by kernel_rfl
theorem Akk (F : Out) : (B.env F).tab 161 = some ⟨.int .u32,1,4,[u32 ((0 : UInt32))]⟩:=(A0 Tryd.prog 161).trans Arf
theorem Asr : Cc Tryd.prog 162 = some ⟨.array 8 161,8,32,(C1 u32 ((Arr.rep 8 (0 : UInt32))).l)⟩:=by kernel_rfl
theorem Ao2 (F : Out) : (B.env F).tab 162 = some ⟨.array 8 161,8,32,(C1 u32 ((Arr.rep 8 (0 : UInt32))).l)⟩:=(A0 Tryd.prog 162).trans Asr
theorem AsK : Cc Tryd.prog 167 = some ⟨.struct #[⟨"Wanted", 3,0,false,"","", 0⟩,⟨"Given", 3,1,false,"","", 8⟩,⟨"Cost", 3,2,false,"","", 16⟩],3,24,[i64 0,i64 0,i64 0]⟩:=by kernel_rfl
theorem Aqn (F : Out) : (B.env F).tab 167 = some ⟨.struct #[⟨"Wanted", 3,0,false,"","", 0⟩,⟨"Given", 3,1,false,"","", 8⟩,⟨"Cost", 3,2,false,"","", 16⟩],3,24,[i64 0,i64 0,i64 0]⟩:=(A0 Tryd.prog 167).trans AsK
theorem AtW : Cc Tryd.prog 168 = some ⟨.array 64 4,64,64,(C1 AV.bool ((Arr.rep 64 false)).l)⟩:=Yz (by kernel_rfl) (by kernel_rfl)
theorem Aob (F : Out) : (B.env F).tab 168 = some ⟨.array 64 4,64,64,(C1 AV.bool ((Arr.rep 64 false)).l)⟩:=(A0 Tryd.prog 168).trans AtW
theorem Auf : Cc Tryd.prog 169 = some ⟨.array 64 168,4096,4096,(C1 AV.bool ((Arr.rep 4096 false)).l)⟩:=Yz (by kernel_rfl) (by kernel_rfl)
theorem ApE (F : Out) : (B.env F).tab 169 = some ⟨.array 64 168,4096,4096,(C1 AV.bool ((Arr.rep 4096 false)).l)⟩:=(A0 Tryd.prog 169).trans Auf
theorem AsH : Cc Tryd.prog 171 = some ⟨.struct #[⟨"From", 3,0,false,"","", 0⟩,⟨"To", 3,1,false,"","", 8⟩,⟨"Minutes", 3,2,false,"","", 16⟩],3,24,[i64 0,i64 0,i64 0]⟩:=by kernel_rfl
theorem AoS (F : Out) : (B.env F).tab 171 = some ⟨.struct #[⟨"From", 3,0,false,"","", 0⟩,⟨"To", 3,1,false,"","", 8⟩,⟨"Minutes", 3,2,false,"","", 16⟩],3,24,[i64 0,i64 0,i64 0]⟩:=(A0 Tryd.prog 171).trans AsH
theorem Asz : Cc Tryd.prog 172 = some ⟨.int .u64,1,8,[u64 ((0 : UInt64))]⟩:=by kernel_rfl
theorem Arw (F : Out) : (B.env F).tab 172 = some ⟨.int .u64,1,8,[u64 ((0 : UInt64))]⟩:=(A0 Tryd.prog 172).trans Asz
theorem Auz : Cc Tryd.prog 173 = some ⟨.slice 41,1,24,[.sl true (L AaM ([]))]⟩:=by kernel_rfl
theorem Apq (F : Out) : (B.env F).tab 173 = some ⟨.slice 41,1,24,[.sl true (L AaM ([]))]⟩:=(A0 Tryd.prog 173).trans Auz
theorem ArA : Cc Tryd.prog 175 = some ⟨.struct #[⟨"Kind", 3,0,false,"","", 0⟩,⟨"Serial", 3,1,false,"","", 8⟩,⟨"Fitted", 4,2,false,"","", 16⟩],3,24,[i64 0,i64 0,.bool false]⟩:=by kernel_rfl
theorem AnQ (F : Out) : (B.env F).tab 175 = some ⟨.struct #[⟨"Kind", 3,0,false,"","", 0⟩,⟨"Serial", 3,1,false,"","", 8⟩,⟨"Fitted", 4,2,false,"","", 16⟩],3,24,[i64 0,i64 0,.bool false]⟩:=(A0 Tryd.prog 175).trans ArA
theorem AsM : Cc Tryd.prog 180 = some ⟨.pointer 3,1,8,[.val (.pointer none)]⟩:=by kernel_rfl
theorem AqZ (F : Out) : (B.env F).tab 180 = some ⟨.pointer 3,1,8,[.val (.pointer none)]⟩:=(A0 Tryd.prog 180).trans AsM
theorem ArL : Cc Tryd.prog 181 = some ⟨.array 11 180,11,88,[.val (.pointer none),.val (.pointer none),.val (.pointer none),.val (.pointer none),.val (.pointer none),.val (.pointer none),.val (.pointer none),.val (.pointer none),.val (.pointer none),.val (.pointer none),.val (.pointer none)]⟩:=by kernel_rfl
theorem Ap6 (F : Out) : (B.env F).tab 181 = some ⟨.array 11 180,11,88,[.val (.pointer none),.val (.pointer none),.val (.pointer none),.val (.pointer none),.val (.pointer none),.val (.pointer none),.val (.pointer none),.val (.pointer none),.val (.pointer none),.val (.pointer none),.val (.pointer none)]⟩:=(A0 Tryd.prog 181).trans ArL
theorem Atk : Cc Tryd.prog 188 = some ⟨.array 64 161,64,256,(C1 u32 ((Arr.rep 64 (0 : UInt32))).l)⟩:=by kernel_rfl
theorem Anp (F : Out) : (B.env F).tab 188 = some ⟨.array 64 161,64,256,(C1 u32 ((Arr.rep 64 (0 : UInt32))).l)⟩:=(A0 Tryd.prog 188).trans Atk
theorem AuD : Cc Tryd.prog 192 = some ⟨.struct #[⟨"p", 36,0,false,"","wagonpool/edi", 0⟩,⟨"it", 46,9,false,"","wagonpool/edi", 216⟩,⟨"ok", 4,25,false,"","wagonpool/edi", 368⟩],26,376,[.sl true (L Ag ([])),.sl true (L An ([])),.sl true (L Ab ([])),.sl true (L Ae ([])),.sl true (L Ai ([])),.sl true (L Ah ([])),.sl true (L Af ([])),.sl true (L Ad ([])),.sl true (L Ac ([])),i64 0,i64 0,i64 0,i64 0,i64 0,i64 0,i64 0,i64 0,i64 0,i64 0,i64 0,i64 0,i64 0,i64 0,.str (([] : List UInt8)),.sl true (L Aj ([])),.bool false]⟩:=by kernel_rfl
theorem As7 (F : Out) : (B.env F).tab 192 = some ⟨.struct #[⟨"p", 36,0,false,"","wagonpool/edi", 0⟩,⟨"it", 46,9,false,"","wagonpool/edi", 216⟩,⟨"ok", 4,25,false,"","wagonpool/edi", 368⟩],26,376,[.sl true (L Ag ([])),.sl true (L An ([])),.sl true (L Ab ([])),.sl true (L Ae ([])),.sl true (L Ai ([])),.sl true (L Ah ([])),.sl true (L Af ([])),.sl true (L Ad ([])),.sl true (L Ac ([])),i64 0,i64 0,i64 0,i64 0,i64 0,i64 0,i64 0,i64 0,i64 0,i64 0,i64 0,i64 0,i64 0,i64 0,.str (([] : List UInt8)),.sl true (L Aj ([])),.bool false]⟩:=(A0 Tryd.prog 192).trans AuD
theorem Apc : AV.int .u32 0 = u32 0:=rfl
theorem Ye : AV.int .u32 528734635 = u32 528734635:=rfl
theorem Wy : AV.int .u32 1013904242 = u32 1013904242:=rfl
theorem U5 : AV.int .u32 1359893119 = u32 1359893119:=rfl
theorem V2 : AV.int .u32 1541459225 = u32 1541459225:=rfl
theorem Wu : AV.int .u32 1779033703 = u32 1779033703:=rfl
theorem Uy : AV.int .u32 2600822924 = u32 2600822924:=rfl
theorem V4 : AV.int .u32 2773480762 = u32 2773480762:=rfl
theorem Xo : AV.int .u32 3144134277 = u32 3144134277:=rfl
theorem AoZ : AV.int .u64 0 = u64 0:=rfl
theorem AqS : AV.int .u64 1 = u64 1:=rfl
theorem AoJ : AV.int .u64 2 = u64 2:=rfl
theorem Ap4 : AV.int .u64 3 = u64 3:=rfl
theorem AqM : AV.int .u64 4 = u64 4:=rfl
theorem Ao8 : AV.int .u64 7 = u64 7:=rfl
theorem Apj : AV.int .u64 8 = u64 8:=rfl
theorem AlV : AV.int .u64 10 = u64 10:=rfl
theorem AlM : AV.int .u64 16 = u64 16:=rfl
theorem AnY : AV.int .u64 24 = u64 24:=rfl
theorem Am4 : AV.int .u64 31 = u64 31:=rfl
theorem AnX : AV.int .u64 32 = u64 32:=rfl
theorem AnJ : AV.int .u64 64 = u64 64:=rfl
theorem Ak6 : AV.int .u64 256 = u64 256:=rfl
theorem Agb : AV.int .u64 65536 = u64 65536:=rfl
theorem Vt : AV.int .u64 4294967295 = u64 4294967295:=rfl
theorem U2 : AV.int .u64 4294967296 = u64 4294967296:=rfl
theorem L5 : AV.int .u64 1152921504606845398 = u64 1152921504606845398:=rfl
theorem Mb : AV.int .u64 1152921504606845399 = u64 1152921504606845399:=rfl
theorem Mc : AV.int .u64 2305843009213690799 = u64 2305843009213690799:=rfl
theorem AsW : AV.int .u8 0 = u8 0:=rfl
theorem Ap3 : AV.int .u8 48 = u8 48:=rfl
theorem ApT : AV.int .u8 64 = u8 64:=rfl
theorem AqH : AV.int .u8 99 = u8 99:=rfl
theorem Amt : AV.int .u8 100 = u8 100:=rfl
theorem Amy : AV.int .u8 102 = u8 102:=rfl
theorem AlI : AV.int .u8 103 = u8 103:=rfl
theorem Al0 : AV.int .u8 107 = u8 107:=rfl
theorem Amk : AV.int .u8 110 = u8 110:=rfl
theorem AnI : AV.int .u8 111 = u8 111:=rfl
theorem An9 : AV.int .u8 112 = u8 112:=rfl
theorem AmG : AV.int .u8 116 = u8 116:=rfl
theorem Anj : AV.int .u8 119 = u8 119:=rfl
theorem AnK : AV.int .u8 128 = u8 128:=rfl
theorem AmE : AV.int .u8 255 = u8 255:=rfl
theorem nb36 {F} : ((B.env F).bty = some 36) = False:=eq_false (fun h : (none : Option TypeId) = some 36 => by cases h)
theorem AkQ {F} {σ : Am} (s x : AV) : Bv (B.env F) σ .append [34,34] [s,x] = match J2 σ x with
      | some new => if J5 x 16 = true then none else if ∀ cs ∈ new,cs.length = 16 then (match s with
          | .sl full els =>
            if els = []∧full = true then
              if Fb new.length 144 then some (.bs false σ.length new.length 0 new.length,σ ++ [.buf 16 new false]) else none
            else if new = [] then some (.sl full els,σ)
            else if full = true∧(∀ cs ∈ els,cs.length = 16)∧Fb (els.length + new.length) 144
            then some (.bs false σ.length (els.length + new.length) 0 (els.length + new.length),σ ++ [.buf 16 (els ++ new) false]) else none
          | .bs full id tot off len => match σ[id]? with
            | some (.buf k els ro) =>
              if els.length = tot∧k = 16∧Fb (len + new.length) 144 then
                if off = 0∧len = tot then some (.bs false id (tot + new.length) 0 (tot + new.length),σ.set id (.buf k (els ++ new) ro))
                else if new = [] then some (.bs full id tot off len,σ)
                else if full then some (.bs false σ.length (len + new.length) 0 (len + new.length),σ ++ [.buf k ((els.drop off).take len ++ new) false])
                else none
              else none
            | some (.tb T l) => Yk σ id tot off len 144 16 74 T l new
            | _ => none
          | _ => none)
        else none
      | none => none:=Kj (Aq3 F) (Ate F) (by decide) (Aq3 F) (.inl ⟨_,rfl⟩) s x []
theorem nb46 {F} : ((B.env F).bty = some 46) = False:=eq_false (fun h : (none : Option TypeId) = some 46 => by cases h)
theorem AqO {F} {σ : Am} (f : Bool) (l : List Api_Place) (x : AV) : Av (B.env F) σ 22 (.sl f (L Ag l)) x = match idx x l.length with
    | some i => some (.rp (Ag (nth l i)))
    | none => none:=Ie Ag (tb22 F) (Aqu F) (fun _ => rfl) f l x
theorem Asc {F} : ((B.env F).bty = some 127) = False:=eq_false (fun h : (none : Option TypeId) = some 127 => by cases h)
theorem Ap9 {F} {σ : Am} (f : Bool) (l : List Api_Edge) (x : AV) : Av (B.env F) σ 23 (.sl f (L An l)) x = match idx x l.length with
    | some i => some (.rp (An (nth l i)))
    | none => none:=Ie An (tb23 F) (Aqs F) (fun _ => rfl) f l x
theorem Atc {F} : ((B.env F).bty = some 129) = False:=eq_false (fun h : (none : Option TypeId) = some 129 => by cases h)
theorem nb57 {F} : ((B.env F).bty = some 57) = False:=eq_false (fun h : (none : Option TypeId) = some 57 => by cases h)
theorem AqL {F} {σ : Am} (f : Bool) (l : List Api_WagonType) (x : AV) : Av (B.env F) σ 26 (.sl f (L Ab l)) x = match idx x l.length with
    | some i => some (.rp (Ab (nth l i)))
    | none => none:=Ie Ab (tb26 F) (AqW F) (fun _ => rfl) f l x
theorem At7 {F} : ((B.env F).bty = some 131) = False:=eq_false (fun h : (none : Option TypeId) = some 131 => by cases h)
theorem Apn {F} {σ : Am} (f : Bool) (id tot off len : Nat) (x : AV) : Av (B.env F) σ 70 (.bs f id tot off len) x = match σ[id]?,idx x len with
    | some (.buf k els _),some i => if els.length = tot∧k = 1 then some (.eref id tot (off + i) 0) else none
    | _,_ => none:=AiH (ArC F) (tb3 F) (by decide) f id tot off len x
theorem AoT {F} {σ : Am} (f : Bool) (l : List Api_Wagon) (x : AV) : Av (B.env F) σ 27 (.sl f (L Ae l)) x = match idx x l.length with
    | some i => some (.rp (Ae (nth l i)))
    | none => none:=Ie Ae (tb27 F) (Ao5 F) (fun _ => rfl) f l x
theorem AsI {F} : ((B.env F).bty = some 133) = False:=eq_false (fun h : (none : Option TypeId) = some 133 => by cases h)
theorem Aqi {F} {σ : Am} (f : Bool) (l : List Api_Swap) (x : AV) : Av (B.env F) σ 28 (.sl f (L Ai l)) x = match idx x l.length with
    | some i => some (.rp (Ai (nth l i)))
    | none => none:=Ie Ai (tb28 F) (Aqn F) (fun _ => rfl) f l x
theorem Asi {F} : ((B.env F).bty = some 167) = False:=eq_false (fun h : (none : Option TypeId) = some 167 => by cases h)
theorem Asu {F} : ((B.env F).bty = some 169) = False:=eq_false (fun h : (none : Option TypeId) = some 169 => by cases h)
theorem ApV {F} {σ : Am} (f : Bool) (l : List Api_Wash) (x : AV) : Av (B.env F) σ 29 (.sl f (L Ah l)) x = match idx x l.length with
    | some i => some (.rp (Ah (nth l i)))
    | none => none:=Ie Ah (tb29 F) (AoS F) (fun _ => rfl) f l x
theorem AtK {F} : ((B.env F).bty = some 171) = False:=eq_false (fun h : (none : Option TypeId) = some 171 => by cases h)
theorem An8 {F} (id off : Nat) (x : AV) {σ : Am} : Av (B.env F) σ 169 (.ref id off) x = match idx x 64 with
    | some i => some (.ref id (off + i * 64))
    | none => none:=Wf (ApE F) (Aob F) id off x
theorem AmL {F} (id off : Nat) (x : AV) {σ : Am} : Av (B.env F) σ 168 (.ref id off) x = match idx x 64 with
    | some i => some (.ref id (off + i * 1))
    | none => none:=Wf (Aob F) (tb4 F) id off x
theorem AtU {F} (cs : List AV) (x : AV) : Oj (B.env F) 69 (.agg cs) x = match idx x 7 with
    | some i => partA (⟨.struct #[⟨"From", 3,0,false,"","", 0⟩,⟨"To", 3,1,false,"","", 8⟩],2,16,[i64 0,i64 0]⟩ : TD) cs (i * 2)
    | none => none:=Ys (tb69 F) (tb68 F) cs x
theorem nb68 {F} : ((B.env F).bty = some 68) = False:=eq_false (fun h : (none : Option TypeId) = some 68 => by cases h)
theorem AoF {F} {σ : Am} (f : Bool) (l : List Int) (x : AV) : Av (B.env F) σ 70 (.sl f (L Pc l)) x = match idx x l.length with
    | some i => some (.rp (Pc (nth l i)))
    | none => none:=Ie Pc (ArC F) (tb3 F) (fun _ => rfl) f l x
theorem AoG {F} (l : List UInt8) (x : AV) : Oj (B.env F) 9 (.str l) x = match idx x l.length with
    | some i => some (u8 (nth l i))
    | none => none:=Agr (tb9 F) l x
theorem Aqr {F} {σ : Am} (f : Bool) (l : List Api_Reader) (x : AV) : Av (B.env F) σ 32 (.sl f (L Af l)) x = match idx x l.length with
    | some i => some (.rp (Af (nth l i)))
    | none => none:=Ie Af (tb32 F) (Ap1 F) (fun _ => rfl) f l x
theorem ArR {F} : ((B.env F).bty = some 135) = False:=eq_false (fun h : (none : Option TypeId) = some 135 => by cases h)
theorem ApA {F} {σ : Am} (f : Bool) (l : List Api_Shipper) (x : AV) : Av (B.env F) σ 33 (.sl f (L Ad l)) x = match idx x l.length with
    | some i => some (.rp (Ad (nth l i)))
    | none => none:=Ie Ad (tb33 F) (AoY F) (fun _ => rfl) f l x
theorem ArM {F} : ((B.env F).bty = some 137) = False:=eq_false (fun h : (none : Option TypeId) = some 137 => by cases h)
theorem ApX {F} {σ : Am} (f : Bool) (l : List Api_RailwayInfo) (x : AV) : Av (B.env F) σ 34 (.sl f (L Ac l)) x = match idx x l.length with
    | some i => some (.rp (Ac (nth l i)))
    | none => none:=Ie Ac (Aq3 F) (Ate F) (fun _ => rfl) f l x
theorem nb74 {F} : ((B.env F).bty = some 74) = False:=eq_false (fun h : (none : Option TypeId) = some 74 => by cases h)
theorem Ape {F} {σ : Am} (f : Bool) (l : List (List Api_Record)) (x : AV) : Av (B.env F) σ 37 (.sl f (L (cSl Ak) l)) x = match idx x l.length with
    | some i => some (.rp ((cSl Ak) (nth l i)))
    | none => none:=Ie (cSl Ak) (Aow F) (Alo F) (fun _ => rfl) f l x
theorem AsJ {F} : ((B.env F).bty = some 112) = False:=eq_false (fun h : (none : Option TypeId) = some 112 => by cases h)
theorem AqY {F} (cs : List AV) (x : AV) : Oj (B.env F) 181 (.agg cs) x = match idx x 11 with
    | some i => partA (⟨.pointer 3,1,8,[.val (.pointer none)]⟩ : TD) cs (i * 1)
    | none => none:=Ys (Ap6 F) (AqZ F) cs x
theorem AgT {F} {σ : Am} (s x : AV) : Bv (B.env F) σ .append [110,110] [s,x] = match J2 σ x with
      | some new => if J5 x 4 = true then none else if ∀ cs ∈ new,cs.length = 4 then (match s with
          | .sl full els =>
            if els = []∧full = true then
              if Fb new.length 64 then some (.bs false σ.length new.length 0 new.length,σ ++ [.buf 4 new false]) else none
            else if new = [] then some (.sl full els,σ)
            else if full = true∧(∀ cs ∈ els,cs.length = 4)∧Fb (els.length + new.length) 64
            then some (.bs false σ.length (els.length + new.length) 0 (els.length + new.length),σ ++ [.buf 4 (els ++ new) false]) else none
          | .bs full id tot off len => match σ[id]? with
            | some (.buf k els ro) =>
              if els.length = tot∧k = 4∧Fb (len + new.length) 64 then
                if off = 0∧len = tot then some (.bs false id (tot + new.length) 0 (tot + new.length),σ.set id (.buf k (els ++ new) ro))
                else if new = [] then some (.bs full id tot off len,σ)
                else if full then some (.bs false σ.length (len + new.length) 0 (len + new.length),σ ++ [.buf k ((els.drop off).take len ++ new) false])
                else none
              else none
            | some (.tb T l) => Yk σ id tot off len 64 4 112 T l new
            | _ => none
          | _ => none)
        else none
      | none => none:=Kj (AjW F) (Al3 F) (by decide) (AjW F) (.inl ⟨_,rfl⟩) s x []
theorem Aq0 {F} {σ : Am} (f : Bool) (l : List Api_Part) (x : AV) : Av (B.env F) σ 44 (.sl f (L Aj l)) x = match idx x l.length with
    | some i => some (.rp (Aj (nth l i)))
    | none => none:=Ie Aj (tb44 F) (AnQ F) (fun _ => rfl) f l x
theorem As2 {F} : ((B.env F).bty = some 175) = False:=eq_false (fun h : (none : Option TypeId) = some 175 => by cases h)
theorem Ar9 {F} {σ : Am} (l c : Int) : Hl (B.env F) σ 63 (i64 l) (i64 c) = if Mk l c 1 then some (.bs (l == c) σ.length l.toNat 0 l.toNat,σ ++ [.buf 1 (List.replicate l.toNat [u8 ((0 : UInt8))]) false]) else none:=Ahf (Ant F) (tb5 F) (by decide) l c
theorem Aqp {F} {σ : Am} (f : Bool) (id tot off len : Nat) (x : AV) : Av (B.env F) σ 63 (.bs f id tot off len) x = match σ[id]?,idx x len with
    | some (.buf k els _),some i => if els.length = tot∧k = 1 then some (.eref id tot (off + i) 0) else none
    | _,_ => none:=AiH (Ant F) (tb5 F) (by decide) f id tot off len x
theorem AmU {F} {σ : Am} (f : Bool) (l : List Api_Value) (x : AV) : Av (B.env F) σ 110 (.sl f (L cApi_Value l)) x = match idx x l.length with
    | some i => some (.rp (cApi_Value (nth l i)))
    | none => none:=Ie cApi_Value (AjW F) (Al3 F) (fun y => by rw [Qy];rfl) f l x
theorem Akg {F} {σ : Am} (s x : AV) : Bv (B.env F) σ .append [63,63] [s,x] = match J2 σ x with
      | some new => if J5 x 1 = true then none else if ∀ cs ∈ new,cs.length = 1 then (match s with
          | .sl full els =>
            if els = []∧full = true then
              if Fb new.length 1 then some (.bs false σ.length new.length 0 new.length,σ ++ [.buf 1 new false]) else none
            else if new = [] then some (.sl full els,σ)
            else if full = true∧(∀ cs ∈ els,cs.length = 1)∧Fb (els.length + new.length) 1
            then some (.bs false σ.length (els.length + new.length) 0 (els.length + new.length),σ ++ [.buf 1 (els ++ new) false]) else none
          | .bs full id tot off len => match σ[id]? with
            | some (.buf k els ro) =>
              if els.length = tot∧k = 1∧Fb (len + new.length) 1 then
                if off = 0∧len = tot then some (.bs false id (tot + new.length) 0 (tot + new.length),σ.set id (.buf k (els ++ new) ro))
                else if new = [] then some (.bs full id tot off len,σ)
                else if full then some (.bs false σ.length (len + new.length) 0 (len + new.length),σ ++ [.buf k ((els.drop off).take len ++ new) false])
                else none
              else none
            | some (.tb T l) => Yk σ id tot off len 1 1 5 T l new
            | _ => none
          | _ => none)
        else none
      | none => none:=Kj (Ant F) (tb5 F) (by decide) (Ant F) (.inl ⟨_,rfl⟩) s x []
theorem Aqq {F} {σ : Am} (f : Bool) (l : List UInt8) (x : AV) : Av (B.env F) σ 63 (.sl f (L cU8 l)) x = match idx x l.length with
    | some i => some (.rp (cU8 (nth l i)))
    | none => none:=Ie cU8 (Ant F) (tb5 F) (fun _ => rfl) f l x
theorem At2 {F} : ((B.env F).bty = some 162) = False:=eq_false (fun h : (none : Option TypeId) = some 162 => by cases h)
theorem AtP {F} : ((B.env F).bty = some 188) = False:=eq_false (fun h : (none : Option TypeId) = some 188 => by cases h)
theorem AnV {F} {σ : Am} (id off : Nat) (x : AV) : Av (B.env F) σ 188 (.ref id off) x = match idx x 64 with
    | some i => some (.ref id (off + i * 1))
    | none => none:=Wf (Anp F) (Akk F) id off x
theorem AnS {F} {σ : Am} (id off : Nat) (x : AV) : Av (B.env F) σ 162 (.ref id off) x = match idx x 8 with
    | some i => some (.ref id (off + i * 1))
    | none => none:=Wf (Ao2 F) (Akk F) id off x
theorem AhM {F} {σ : Am} (x : AV) : Av (B.env F) σ 188 (.glob 2) x = match idx x 64 with
    | some i => some (.rp ((C1 u32 glob2.l).drop i))
    | none => none:=AkB (Anp F) (Akk F) rfl x
theorem nb52 {F} : ((B.env F).bty = some 52) = False:=eq_false (fun h : (none : Option TypeId) = some 52 => by cases h)
theorem Am5 {F} {σ : Am} (f : Bool) (l : List (List UInt8)) (x : AV) : Av (B.env F) σ 160 (.sl f (L (cSl cU8) l)) x = match idx x l.length with
    | some i => some (.rp ((cSl cU8) (nth l i)))
    | none => none:=Ie (cSl cU8) (AqE F) (Ant F) (fun _ => rfl) f l x
theorem Apa {F} {σ : Am} (id off : Nat) (x : AV) : Av (B.env F) σ 52 (.ref id off) x = match idx x 32 with
    | some i => some (.ref id (off + i * 1))
    | none => none:=Wf (Aur F) (tb5 F) id off x
theorem AnG {F} {σ : Am} (f : Bool) (l : List UInt64) (x : AV) : Av (B.env F) σ 173 (.sl f (L AaM l)) x = match idx x l.length with
    | some i => some (.rp (AaM (nth l i)))
    | none => none:=Ie AaM (Apq F) (Aq4 F) (fun _ => rfl) f l x
theorem nb54 {F} : ((B.env F).bty = some 54) = False:=eq_false (fun h : (none : Option TypeId) = some 54 => by cases h)
theorem Aj6 {F} (a0 : Int) (a1 : Int) (b0 : Int) (b1 : Int) : Bj (B.env F) .eql 43 (.agg [i64 a0,i64 a1]) (.agg [i64 b0,i64 b1]) = some (.bool (((a0 == b0) && (a1 == b1)))) :=
 Po (As8 F) (by kernel_rfl) (by kernel_rfl) (Oq (by decide) (tb3 F) rfl rfl (Rj a0 b0) (Ui (by decide) (tb3 F) rfl rfl (Rj a1 b1)))
theorem ArI {F} : ((B.env F).bty = some 192) = False:=eq_false (fun h : (none : Option TypeId) = some 192 => by cases h)
theorem Ap5 {F} {op : BinOp} (a b : Arr UInt8 32) : Bj (B.env F) op 52 (.agg (C1 u8 a.l)) (.agg (C1 u8 b.l)) = match op with
    | .eql => some (.bool (a == b))
    | .neq => some (.bool (!(a == b)))
    | _ => none:=Ago (Aur F) (tb5 F) a b
theorem AkP {F} (a0 : UInt64) (a1 : UInt64) (b0 : UInt64) (b1 : UInt64) : Bj (B.env F) .eql 54 (.agg [u64 a0,u64 a1]) (.agg [u64 b0,u64 b1]) = some (.bool (((a0 == b0) && (a1 == b1)))) :=
 Po (tb54 F) (by kernel_rfl) (by kernel_rfl) (Oq (by decide) (Aq4 F) rfl rfl (Ai2 a0 b0) (Ui (by decide) (Aq4 F) rfl rfl (Ai2 a1 b1)))
theorem AoW {F} {σ : Am} (f : Bool) (l : List Api_Record) (x : AV) : Av (B.env F) σ 75 (.sl f (L Ak l)) x = match idx x l.length with
    | some i => some (.rp (Ak (nth l i)))
    | none => none:=Ie Ak (Alo F) (AtO F) (fun y => by simp only [Ak,List.length_cons,List.length_append,Gc,List.length_nil]) f l x
theorem nb43 {F} : ((B.env F).bty = some 43) = False:=eq_false (fun h : (none : Option TypeId) = some 43 => by cases h)
theorem Akl {F} (a0 : Int) (a1 : Int) (b0 : Int) (b1 : Int) : Bj (B.env F) .neq 43 (.agg [i64 a0,i64 a1]) (.agg [i64 b0,i64 b1]) = some (.bool (!((a0 == b0) && (a1 == b1)))) :=
 Pg (As8 F) (by kernel_rfl) (by kernel_rfl) (Oq (by decide) (tb3 F) rfl rfl (Rj a0 b0) (Ui (by decide) (tb3 F) rfl rfl (Rj a1 b1)))
theorem Alg {F} {σ : Am} (s x : AV) : Bv (B.env F) σ .append [75,75] [s,x] = match J2 σ x with
      | some new => if J5 x 53 = true then none else if ∀ cs ∈ new,cs.length = 53 then (match s with
          | .sl full els =>
            if els = []∧full = true then
              if Fb new.length 224 then some (.bs false σ.length new.length 0 new.length,σ ++ [.buf 53 new false]) else none
            else if new = [] then some (.sl full els,σ)
            else if full = true∧(∀ cs ∈ els,cs.length = 53)∧Fb (els.length + new.length) 224
            then some (.bs false σ.length (els.length + new.length) 0 (els.length + new.length),σ ++ [.buf 53 (els ++ new) false]) else none
          | .bs full id tot off len => match σ[id]? with
            | some (.buf k els ro) =>
              if els.length = tot∧k = 53∧Fb (len + new.length) 224 then
                if off = 0∧len = tot then some (.bs false id (tot + new.length) 0 (tot + new.length),σ.set id (.buf k (els ++ new) ro))
                else if new = [] then some (.bs full id tot off len,σ)
                else if full then some (.bs false σ.length (len + new.length) 0 (len + new.length),σ ++ [.buf k ((els.drop off).take len ++ new) false])
                else none
              else none
            | some (.tb T l) => Yk σ id tot off len 224 53 56 T l new
            | _ => none
          | _ => none)
        else none
      | none => none:=Kj (Alo F) (AtO F) (by decide) (Alo F) (.inl ⟨_,rfl⟩) s x []
theorem ApZ {F} {σ : Am} (f : Bool) (l : List Api_Fork) (x : AV) : Av (B.env F) σ 38 (.sl f (L Ax l)) x = match idx x l.length with
    | some i => some (.rp (Ax (nth l i)))
    | none => none:=Ie Ax (Aq7 F) (AsL F) (fun y => by simp only [Ax,List.length_cons,List.length_append,Gc,List.length_nil]) f l x
theorem AjH {F} {σ : Am} (s x : AV) : Bv (B.env F) σ .append [38,38] [s,x] = match J2 σ x with
      | some new => if J5 x 106 = true then none else if ∀ cs ∈ new,cs.length = 106 then (match s with
          | .sl full els =>
            if els = []∧full = true then
              if Fb new.length 448 then some (.bs false σ.length new.length 0 new.length,σ ++ [.buf 106 new false]) else none
            else if new = [] then some (.sl full els,σ)
            else if full = true∧(∀ cs ∈ els,cs.length = 106)∧Fb (els.length + new.length) 448
            then some (.bs false σ.length (els.length + new.length) 0 (els.length + new.length),σ ++ [.buf 106 (els ++ new) false]) else none
          | .bs full id tot off len => match σ[id]? with
            | some (.buf k els ro) =>
              if els.length = tot∧k = 106∧Fb (len + new.length) 448 then
                if off = 0∧len = tot then some (.bs false id (tot + new.length) 0 (tot + new.length),σ.set id (.buf k (els ++ new) ro))
                else if new = [] then some (.bs full id tot off len,σ)
                else if full then some (.bs false σ.length (len + new.length) 0 (len + new.length),σ ++ [.buf k ((els.drop off).take len ++ new) false])
                else none
              else none
            | some (.tb T l) => Yk σ id tot off len 448 106 96 T l new
            | _ => none
          | _ => none)
        else none
      | none => none:=Kj (Aq7 F) (AsL F) (by decide) (Aq7 F) (.inl ⟨_,rfl⟩) s x []
theorem nb40 {F} : ((B.env F).bty = some 40) = False:=eq_false (fun h : (none : Option TypeId) = some 40 => by cases h)
theorem Asm {F} {σ : Am} (l c : Int) : Hl (B.env F) σ 37 (i64 l) (i64 c) = if Mk l c 24 then some (.bs (l == c) σ.length l.toNat 0 l.toNat,σ ++ [.buf 1 (List.replicate l.toNat [.sl false (L Ak ([]))]) false]) else none:=Ahf (Aow F) (Alo F) (by decide) l c
theorem Aqz {F} {σ : Am} (f : Bool) (id tot off len : Nat) (x : AV) : Av (B.env F) σ 37 (.bs f id tot off len) x = match σ[id]?,idx x len with
    | some (.buf k els _),some i => if els.length = tot∧k = 1 then some (.eref id tot (off + i) 0) else none
    | _,_ => none:=AiH (Aow F) (Alo F) (by decide) f id tot off len x
theorem nb56 {F} : ((B.env F).bty = some 56) = False:=eq_false (fun h : (none : Option TypeId) = some 56 => by cases h)
theorem Ai3 {F} (a0 : Int) (a1 : Int) (a2 : Bool) (b0 : Int) (b1 : Int) (b2 : Bool) : Bj (B.env F) .neq 175 (.agg [i64 a0,i64 a1,.bool a2]) (.agg [i64 b0,i64 b1,.bool b2]) = some (.bool (!((a0 == b0) && ((a1 == b1) && (a2 == b2))))) :=
 Pg (AnQ F) (by kernel_rfl) (by kernel_rfl) (Oq (by decide) (tb3 F) rfl rfl (Rj a0 b0) (Oq (by decide) (tb3 F) rfl rfl (Rj a1 b1) (Ui (by decide) (tb4 F) rfl rfl (AkK a2 b2))))
theorem nb96 {F} : ((B.env F).bty = some 96) = False:=eq_false (fun h : (none : Option TypeId) = some 96 => by cases h)
theorem Ajs {F} {σ : Am} (s x : AV) : Bv (B.env F) σ .append [37,37] [s,x] = match J2 σ x with
      | some new => if J5 x 1 = true then none else if ∀ cs ∈ new,cs.length = 1 then (match s with
          | .sl full els =>
            if els = []∧full = true then
              if Fb new.length 24 then some (.bs false σ.length new.length 0 new.length,σ ++ [.buf 1 new false]) else none
            else if new = [] then some (.sl full els,σ)
            else if full = true∧(∀ cs ∈ els,cs.length = 1)∧Fb (els.length + new.length) 24
            then some (.bs false σ.length (els.length + new.length) 0 (els.length + new.length),σ ++ [.buf 1 (els ++ new) false]) else none
          | .bs full id tot off len => match σ[id]? with
            | some (.buf k els ro) =>
              if els.length = tot∧k = 1∧Fb (len + new.length) 24 then
                if off = 0∧len = tot then some (.bs false id (tot + new.length) 0 (tot + new.length),σ.set id (.buf k (els ++ new) ro))
                else if new = [] then some (.bs full id tot off len,σ)
                else if full then some (.bs false σ.length (len + new.length) 0 (len + new.length),σ ++ [.buf k ((els.drop off).take len ++ new) false])
                else none
              else none
            | some (.tb T l) => Yk σ id tot off len 24 1 75 T l new
            | _ => none
          | _ => none)
        else none
      | none => none:=Kj (Aow F) (Alo F) (by decide) (Aow F) (.inl ⟨_,rfl⟩) s x []
theorem nb85 {F} : ((B.env F).bty = some 85) = False:=eq_false (fun h : (none : Option TypeId) = some 85 => by cases h)
theorem AmN {F} : Alm (B.env F) 119 = true:=rfl
def Hn (x : Api_Report) : AV:=.agg (A3 x)
def Es : Api_Report:=({ Ref:=({ Zb:=0,No:=0 } : Api_Ref),By:=({ Zb:=0,No:=0 } : Api_Ref),Zw1:=0,Zx1:=({ Za:=0,Ref:=({ Zb:=0,No:=0 } : Api_Ref),Zn1:=0,Zb1:=0,Zc:=0,Zo1:=0,Zw:=0,To:=0,Code:=0,Zp1:=0,Zq1:=0,Zr1:=0,Zs1:=0,Zt1:=([] : List UInt8),Zu1:=[] } : Api_Item) } : Api_Report)
theorem AmM (a0 : Int) (a1 : Int) (a2 : Int) (a3 : Int) (a4 : Int) (a5 : Int) (a6 : Int) (a7 : Int) (a8 : Int) (a9 : Int) (a10 : Int) (a11 : Int) (a12 : Int) (a13 : Int) (a14 : Int) (a15 : Int) (a16 : Int) (a17 : Int) (a18 : Int) (a19 : List UInt8) (a20 : List Api_Part) {l : List ((Int×Int)×Api_Report)} {k : Int×Int} : Tk (M2 Hn l) k (.agg [i64 a0,i64 a1,i64 a2,i64 a3,i64 a4,i64 a5,i64 a6,i64 a7,i64 a8,i64 a9,i64 a10,i64 a11,i64 a12,i64 a13,i64 a14,i64 a15,i64 a16,i64 a17,i64 a18,.str a19,.sl false (L Aj a20)]) = M2 Hn (Aqe l k (({ Ref:=({ Zb:=a0,No:=a1 } : Api_Ref),By:=({ Zb:=a2,No:=a3 } : Api_Ref),Zw1:=a4,Zx1:=({ Za:=a5,Ref:=({ Zb:=a6,No:=a7 } : Api_Ref),Zn1:=a8,Zb1:=a9,Zc:=a10,Zo1:=a11,Zw:=a12,To:=a13,Code:=a14,Zp1:=a15,Zq1:=a16,Zr1:=a17,Zs1:=a18,Zt1:=a19,Zu1:=a20 } : Api_Item) } : Api_Report))):=Alv (c:=Hn) (x:=({ Ref:=({ Zb:=a0,No:=a1 } : Api_Ref),By:=({ Zb:=a2,No:=a3 } : Api_Ref),Zw1:=a4,Zx1:=({ Za:=a5,Ref:=({ Zb:=a6,No:=a7 } : Api_Ref),Zn1:=a8,Zb1:=a9,Zc:=a10,Zo1:=a11,Zw:=a12,To:=a13,Code:=a14,Zp1:=a15,Zq1:=a16,Zr1:=a17,Zs1:=a18,Zt1:=a19,Zu1:=a20 } : Api_Item) } : Api_Report))
theorem AjO {F} {l : List ((Int×Int)×Api_Report)} (a b : Int) : Vd (B.env F) 119 (M2 Hn l) (.agg [i64 a,i64 b]) true = if Abo a b then some (.tup [.agg [i64 (((((Jl l (a,b)).getD Es)).Ref).Zb),i64 (((((Jl l (a,b)).getD Es)).Ref).No),i64 (((((Jl l (a,b)).getD Es)).By).Zb),i64 (((((Jl l (a,b)).getD Es)).By).No),i64 ((((Jl l (a,b)).getD Es)).Zw1),i64 (((((Jl l (a,b)).getD Es)).Zx1).Za),i64 ((((((Jl l (a,b)).getD Es)).Zx1).Ref).Zb),i64 ((((((Jl l (a,b)).getD Es)).Zx1).Ref).No),i64 (((((Jl l (a,b)).getD Es)).Zx1).Zn1),i64 (((((Jl l (a,b)).getD Es)).Zx1).Zb1),i64 (((((Jl l (a,b)).getD Es)).Zx1).Zc),i64 (((((Jl l (a,b)).getD Es)).Zx1).Zo1),i64 (((((Jl l (a,b)).getD Es)).Zx1).Zw),i64 (((((Jl l (a,b)).getD Es)).Zx1).To),i64 (((((Jl l (a,b)).getD Es)).Zx1).Code),i64 (((((Jl l (a,b)).getD Es)).Zx1).Zp1),i64 (((((Jl l (a,b)).getD Es)).Zx1).Zq1),i64 (((((Jl l (a,b)).getD Es)).Zx1).Zr1),i64 (((((Jl l (a,b)).getD Es)).Zx1).Zs1),.str (((((Jl l (a,b)).getD Es)).Zx1).Zt1),.sl false (L Aj (((((Jl l (a,b)).getD Es)).Zx1).Zu1))],.bool ((Jl l (a,b)).isSome)]) else none:=AhL (c:=Hn) (z:=Es) rfl (AtH F) (by decide) rfl
theorem AuC {F} : ((B.env F).bty = some 119) = False:=eq_false (fun h : (none : Option TypeId) = some 119 => by cases h)
theorem nb89 {F} : ((B.env F).bty = some 89) = False:=eq_false (fun h : (none : Option TypeId) = some 89 => by cases h)
theorem Ajc {F} {σ : Am} (s x : AV) : Bv (B.env F) σ .append [85,85] [s,x] = match J2 σ x with
      | some new => if J5 x 21 = true then none else if ∀ cs ∈ new,cs.length = 21 then (match s with
          | .sl full els =>
            if els = []∧full = true then
              if Fb new.length 192 then some (.bs false σ.length new.length 0 new.length,σ ++ [.buf 21 new false]) else none
            else if new = [] then some (.sl full els,σ)
            else if full = true∧(∀ cs ∈ els,cs.length = 21)∧Fb (els.length + new.length) 192
            then some (.bs false σ.length (els.length + new.length) 0 (els.length + new.length),σ ++ [.buf 21 (els ++ new) false]) else none
          | .bs full id tot off len => match σ[id]? with
            | some (.buf k els ro) =>
              if els.length = tot∧k = 21∧Fb (len + new.length) 192 then
                if off = 0∧len = tot then some (.bs false id (tot + new.length) 0 (tot + new.length),σ.set id (.buf k (els ++ new) ro))
                else if new = [] then some (.bs full id tot off len,σ)
                else if full then some (.bs false σ.length (len + new.length) 0 (len + new.length),σ ++ [.buf k ((els.drop off).take len ++ new) false])
                else none
              else none
            | some (.tb T l) => Yk σ id tot off len 192 21 89 T l new
            | _ => none
          | _ => none)
        else none
      | none => none:=Kj (Auo F) (AtH F) (by decide) (Auo F) (.inl ⟨_,rfl⟩) s x []
theorem Ajf {F} {op : BinOp} (a : Arr UInt8 32) : Bj (B.env F) op 52 (.agg (C1 u8 a.l)) (.agg [u8 (0 : UInt8),u8 (0 : UInt8),u8 (0 : UInt8),u8 (0 : UInt8),u8 (0 : UInt8),u8 (0 : UInt8),u8 (0 : UInt8),u8 (0 : UInt8),u8 (0 : UInt8),u8 (0 : UInt8),u8 (0 : UInt8),u8 (0 : UInt8),u8 (0 : UInt8),u8 (0 : UInt8),u8 (0 : UInt8),u8 (0 : UInt8),u8 (0 : UInt8),u8 (0 : UInt8),u8 (0 : UInt8),u8 (0 : UInt8),u8 (0 : UInt8),u8 (0 : UInt8),u8 (0 : UInt8),u8 (0 : UInt8),u8 (0 : UInt8),u8 (0 : UInt8),u8 (0 : UInt8),u8 (0 : UInt8),u8 (0 : UInt8),u8 (0 : UInt8),u8 (0 : UInt8),u8 (0 : UInt8)]) = match op with
    | .eql => some (.bool (a == (⟨[(0 : UInt8),(0 : UInt8),(0 : UInt8),(0 : UInt8),(0 : UInt8),(0 : UInt8),(0 : UInt8),(0 : UInt8),(0 : UInt8),(0 : UInt8),(0 : UInt8),(0 : UInt8),(0 : UInt8),(0 : UInt8),(0 : UInt8),(0 : UInt8),(0 : UInt8),(0 : UInt8),(0 : UInt8),(0 : UInt8),(0 : UInt8),(0 : UInt8),(0 : UInt8),(0 : UInt8),(0 : UInt8),(0 : UInt8),(0 : UInt8),(0 : UInt8),(0 : UInt8),(0 : UInt8),(0 : UInt8),(0 : UInt8)],rfl⟩ : Arr UInt8 32)))
    | .neq => some (.bool (!(a == (⟨[(0 : UInt8),(0 : UInt8),(0 : UInt8),(0 : UInt8),(0 : UInt8),(0 : UInt8),(0 : UInt8),(0 : UInt8),(0 : UInt8),(0 : UInt8),(0 : UInt8),(0 : UInt8),(0 : UInt8),(0 : UInt8),(0 : UInt8),(0 : UInt8),(0 : UInt8),(0 : UInt8),(0 : UInt8),(0 : UInt8),(0 : UInt8),(0 : UInt8),(0 : UInt8),(0 : UInt8),(0 : UInt8),(0 : UInt8),(0 : UInt8),(0 : UInt8),(0 : UInt8),(0 : UInt8),(0 : UInt8),(0 : UInt8)],rfl⟩ : Arr UInt8 32))))
    | _ => none:=Ap5 a (⟨[(0 : UInt8),(0 : UInt8),(0 : UInt8),(0 : UInt8),(0 : UInt8),(0 : UInt8),(0 : UInt8),(0 : UInt8),(0 : UInt8),(0 : UInt8),(0 : UInt8),(0 : UInt8),(0 : UInt8),(0 : UInt8),(0 : UInt8),(0 : UInt8),(0 : UInt8),(0 : UInt8),(0 : UInt8),(0 : UInt8),(0 : UInt8),(0 : UInt8),(0 : UInt8),(0 : UInt8),(0 : UInt8),(0 : UInt8),(0 : UInt8),(0 : UInt8),(0 : UInt8),(0 : UInt8),(0 : UInt8),(0 : UInt8)],rfl⟩ : Arr UInt8 32)
attribute [go_sem] lm0 own3 own4 own5 own6 own7 own8 own9 AsO Ar6 AtM Aue Ari Ark ArF Arz Atb Aum Atn ArH Arp AtQ Atz ArP Ar7 Asa AsF Ar3 AtR AtA Ata Auj Aua AtZ Ars ArV As4 Ase ArN Arv Atq Atv Arm As5 Asn AsN Auc Auh AtJ Asj Atr At5 Aui Art Atp AuB ArS ArY As9 AsY AsS Atw Asl AsD Atf AuA Ar5 AsU Ar0 Auu Asy Auk Aso Aud Ar2 Arl Asf ArU AtY Auv Aul Aus Asg ArE AtL Atx AtE Ash AtX AsZ At1 ArQ Atl AsG AsT Ar1 Arh AqT AoA Ao6 ApY Aq1 Ag An S9 Ab Ae Ai Ah Y5 Af Ad Q0 Qw Ac Aw AeQ Aj A5 Aab Ak Ax Ap Xy Ac6 Adr Aem Qy Abf A3 tb3 tb4 tb5 tb9 tb22 tb23 tb25 tb26 tb27 tb28 tb29 tb31 tb32 tb33 Aq3 tb36 Aow Aq7 tb40 Aq4 As8 tb44 tb46 Aur tb54 AtO tb57 Ant tb68 tb69 ArC tb72 Ate Alo Auo AtH AsL AjW Al3 Asw Aqu Aqs AqW Ao5 Ap1 AoY AqE Akk Ao2 Aqn Aob ApE AoS Arw Apq AnQ AqZ Ap6 Anp As7 Apc Ye Wy U5 V2 Wu Uy V4 Xo AoZ AqS AoJ Ap4 AqM Ao8 Apj AlV AlM AnY Am4 AnX AnJ Ak6 Agb Vt U2 L5 Mb Mc AsW Ap3 ApT AqH Amt Amy AlI Al0 Amk AnI An9 AmG Anj AnK AmE nb36 AkQ nb46 AqO Asc Ap9 Atc nb57 AqL At7 Apn AoT AsI Aqi Asi Asu ApV AtK An8 AmL AtU nb68 AoF AoG Aqr ArR ApA ArM ApX nb74 Ape AsJ AqY AgT Aq0 As2 Ar9 Aqp AmU Akg Aqq At2 AtP AnV AnS AhM nb52 Am5 Apa AnG nb54 Aj6 ArI Ap5 AkP AoW nb43 Akl Alg ApZ AjH nb40 Asm Aqz nb56 Ai3 nb96 Ajs nb85 AmN Hn AmM AjO AuC nb89 Ajc Ajf
section
variable {V : Type}
def AsE (step : V→Api_Ref→Api_Record→Option V) (row : List Api_Record) (i : Int) (kv : Int×V) : Option ((Int×V) ⊕ V) :=
 if (decide (kv.1 < (row.length : Int))) = true then
  if InR kv.1 row.length then (step kv.2 { Zb:=i,No:=w64 (kv.1 + 1) } (nth row kv.1.toNat)).bind fun v' => some (.inl (w64 (kv.1 + 1),v')) else none
 else some (.inr kv.2)
def Aro (step : V→Api_Ref→Api_Record→Option V) (logs : List (List Api_Record)) (iv : Int×V) : Option ((Int×V) ⊕ V) :=
 if (decide (iv.1 < (logs.length : Int))) = true then
  if InR iv.1 logs.length then (A6 (AsE step (nth logs iv.1.toNat) iv.1) (0,iv.2)).bind fun v' => some (.inl (w64 (iv.1 + 1),v')) else none
 else some (.inr iv.2)
def AqK (step : V→Api_Ref→Api_Record→Option V) (logs : List (List Api_Record)) (v : V) : Option V:=(A6 (Aro step logs) (0,v)).bind some
end
theorem Ak9 (N : Nat) (ts : List Nat) (l : Fr) : leL (Ar N l) (Ar N (keep ts l)):=by
  have key : ∀ (ns : List Nat),leL (ns.map (Rv.look l)) (ns.map (Rv.look (keep ts l))):=by
    intro ns
    induction ns with
    | nil => exact trivial
    | cons t ns ih =>
      refine ⟨?_,ih⟩
      rcases AbE ts l t with h | h
      · exact .inl h
      · rw [h];exact .inr (AV.wk_refl _)
  exact key _
theorem Akn (n N : Nat) : ∀ (l : Fr),(∀ p ∈ l,p.2.under n = true)→AaO n (Ar N l):=by
  intro l h x hx
  obtain ⟨t,_,rfl⟩:=List.mem_map.1 hx
  induction l with
  | nil => show (AV.junk).under n = true;simp [AV.under]
  | cons p l ih =>
    show (if t = p.1 then p.2 else Rv.look l t).under n = true
    by_cases e : t = p.1
    · rw [if_pos e];exact h p List.mem_cons_self
    · rw [if_neg e];exact ih (fun q hq => h q (List.mem_cons_of_mem _ hq)) (by simp only [Ar,List.mem_map,List.mem_range];exact ⟨t,by simpa using ‹t ∈ List.range N›,rfl⟩)
set_option maxHeartbeats 2000000 in
theorem Ahg {V : Type} {o : Out} {n : Nat} {gop : Operand} {assign body : Code} {N : Nat} {fr l : Fr} {K : E2} {S : V→Am} {step : V→Api_Ref→Api_Record→Option V} {logs : List (List Api_Record)} {forks : List Api_Fork} {f1 f2 ro : Bool} {v0 x : V} {p1 p2 idb : Nat} (M : Nat)
  (hx : AqK step logs v0 = some x) (hmk : o.mks = true) (hg : ev (Ar N fr) gop = .fn 74 [.ref idb 0]) (hS : ∀ v,(S v).length = M) (hb : (S v0)[idb]? = some (.box [.sl f1 (L (cSl Ak) logs),.sl f2 (L Ax forks)] ro))
  (hl : ∀ p ∈ l,p.1 < N∧Rv.look fr p.1 = p.2) (hp1 : p1 < N) (hp2 : p2 < N) (hpn : p1≠p2) (hpl : ∀ p ∈ l,p.1≠p1∧p.1≠p2) (hca : Py assign = true) (hcb : Py body = true)
  (hround : ∀ (lp : Nat) (ac bd : Code) (v : V) (i k : Int) (r : Api_Record) (v' : V),step v ⟨i,k⟩ r = some v' →
   Run (B.env { F:=o.F,rd:=some lp }) (M + 1) assign ⟨Ar N ((p2,.agg (Ak r)) :: (p1,.agg [i64 i,i64 k]) :: l),S v ++ [.lp false N l #[p1,p2] ac bd,.box (Ak r) false]⟩
    (wkP (B.env { F:=o.F,rd:=some lp }) (M + 1) (ArJ (B.env { F:=o.F,rd:=some lp }) M N l #[p1,p2] ac bd body (wkP (B.env { F:=o.F,rd:=some lp }) (M + 1) (Asd M (S v' ++ [.lp true N l #[p1,p2] ac bd]))))))
  (hk : K .normal ⟨Ar N fr,S x ++ [.gone]⟩) : Run (B.env o) n (.rangeFunc gop #[p1,p2] assign body) ⟨Ar N fr,S v0⟩ K:=by
 refine AgZ ok hmk hg (by intro ys h;cases h) Tryd.func74 rfl (by decide +kernel) rfl l hl ?_
 rw [hS v0]
 have hE:=ok.env { F:=o.F }
 refine Ll ?_
 have hidb : idb < (S v0).length:=(List.getElem?_eq_some_iff.1 hb).1
 have hb0 : (S v0 ++ [ABlk.lp false N l #[p1,p2] assign body])[idb]? = some (.box [.sl f1 (L (cSl Ak) logs),.sl f2 (L Ax forks)] ro):=by
  rw [List.getElem?_append_left hidb];exact hb
 show Run (B.env { F:=o.F }) (M + 1) _ ⟨Rz 32 [.yld M,.ref idb 0],_⟩ _
 rw [Mp 32 [.yld M,.ref idb 0] (Nat.le_of_ble_eq_true rfl) (Xt 0 _) (fun t _ => Mf _ 0 t (Nat.zero_le _))]
 show Run (B.env { F:=o.F }) (M + 1) _ ⟨Ar 32 [(0,.yld M),(1,.ref idb 0)],_⟩ _
 revert hx
 unfold AqK
 refine T0 [0,8,9,10] ?_ (by simp only [go_sem,hb0];exact Al)
 refine Sb ?_
 refine Lo (fun iv => ⟨Ar 32 [(0,.yld M),(8,.sl f1 (L (cSl Ak) logs)),(9,i64 ((logs.length : Int))),(10,i64 iv.1)],S iv.2 ++ [.lp false N l #[p1,p2] assign body]⟩) (Weak.refl _ _) ?_
 rintro ⟨i,v⟩ x1 o1 hj1 hx1
 show Aro step logs (i,v) = some o1→_
 unfold Aro
 dsimp only
 refine T0 [0,8,9,10,11] ?_
 refine Sq ?_
 refine Cd ?_ ?_
 ·refine Sk ?_
  refine Tn ?_
  refine Sq ?_
  refine Sb ?_
  refine Ck fun hc1 => ?_
  refine Te [0,3,4,8,9,10] Aa (Ev (by simp only [go_sem,qR hc1];exact Al)) ?_
  refine T0 [0,3,8,9,10,15,16,17] ?_
  refine Sb ?_
  refine Lo (fun kv => ⟨Ar 32 [(0,.yld M),(3,i64 i),(8,.sl f1 (L (cSl Ak) logs)),(9,i64 ((logs.length : Int))),(10,i64 i),(15,.sl false (L Ak (nth logs i.toNat))),(16,i64 (((nth logs i.toNat).length : Int))),(17,i64 kv.1)],S kv.2 ++ [.lp false N l #[p1,p2] assign body]⟩) (Weak.refl _ _) ?_
  rintro ⟨k,v⟩ x2 o2 hj2 hx2
  show AsE step (nth logs i.toNat) i (k,v) = some o2→_
  unfold AsE
  dsimp only
  refine T0 [0,3,8,9,10,15,16,17,18] ?_
  refine Sq ?_
  refine Cd ?_ ?_
  ·refine Sk ?_
   refine Tn ?_
   refine Sq ?_
   refine Sb ?_
   refine Ck fun hc2 => ?_
   obtain ⟨r,hr⟩ : ∃ r,nth (nth logs i.toNat) k.toNat = r:=⟨_,rfl⟩
   have hlen : (S v ++ [ABlk.lp false N l #[p1,p2] assign body]).length = M + 1:=by simp [hS v]
   rw [hr]
   generalize hσ0 : S v ++ [ABlk.lp false N l #[p1,p2] assign body] = σ0 at hlen
   have hlast : ∀ b : ABlk,(σ0 ++ [b])[M + 1]? = some b:=fun b => by rw [List.getElem?_append_right (by omega),hlen];simp
   have hset : ∀ b c : ABlk,(σ0 ++ [b]).set (M + 1) c = σ0 ++ [c]:=fun b c => by rw [List.set_append_right _ _ (by omega),hlen];simp
   refine Te [0,3,5,6,8,9,10,15,16,17] Aa (Ev (by simp only [go_sem,qR hc2,hr,hlen,hlast,hset];exact Al)) ?_
   refine Bd fun v' hv => ?_
   refine Sq ?_
   intro hP
   refine Ajt 6 (idl:=M) (σ1:=σ0 ++ [.box (Ak r) false]) (fr1:=(27,.agg (Ak r)) :: (26,.agg [i64 i,i64 (w64 (k + 1))]) :: (25,i64 (w64 (k + 1))) :: (24,i64 k) :: (23,i64 i) :: (22,.yld M) :: [(0,.yld M),(3,i64 i),(5,i64 k),(6,.ref (M + 1) 0),(8,.sl f1 (L (cSl Ak) logs)),(9,i64 ((logs.length : Int))),(10,i64 i),(15,.sl false (L Ak (nth logs i.toNat))),(16,i64 (((nth logs i.toNat).length : Int))),(17,i64 k)]) (fr3:=(29,.bool (!true)) :: (28,.bool true) :: [(0,.yld M),(3,i64 i),(8,.sl f1 (L (cSl Ak) logs)),(9,i64 ((logs.length : Int))),(10,i64 i),(15,.sl false (L Ak (nth logs i.toNat))),(16,i64 (((nth logs i.toNat).length : Int))),(17,i64 k)]) (M:=N) (l:=l) (ps:=#[p1,p2]) (assign:=assign) (body:=body) (fr2:=[(0,.yld M),(3,i64 i),(8,.sl f1 (L (cSl Ak) logs)),(9,i64 ((logs.length : Int))),(10,i64 i),(15,.sl false (L Ak (nth logs i.toNat))),(16,i64 (((nth logs i.toNat).length : Int))),(17,i64 k)])
    (args:=[.agg [i64 i,i64 (w64 (k + 1))],.agg (Ak r)]) hE rfl ?h1 rfl rfl rfl rfl ?hf ?hσ rfl (Nat.lt_succ_self M) hca hcb ?hle ?hun ?hp1 ?hp2 ?hp3 ?hargs (fun σ3 => ?h3) (fun lp => ?h)
   case h1 =>
    refine (Hr _ _).symm.trans ?_
    simp only [go_sem,hlast,hlen]
   case hf => rfl
   case hσ =>
    rw [← hσ0,List.append_assoc,List.getElem?_append_right (by rw [hS v];exact Nat.le_refl _),hS v,Nat.sub_self]
    rfl
   case hle => exact Ak9 32 [0,3,8,9,10,15,16,17] _
   case hun =>
    refine Akn _ _ _ (fun p hp => ?_)
    simp only [List.mem_cons,List.not_mem_nil,or_false] at hp
    rcases hp with rfl | rfl | rfl | rfl | rfl | rfl | rfl | rfl <;> simp [AV.under,i64]
   case hp1 => intro p hp;simp at hp;rcases hp with rfl | rfl <;> assumption
   case hp2 => intro p hp hh;simp at hh;rcases hh with hh | hh;exact (hpl p hp).1 hh;exact (hpl p hp).2 hh
   case hp3 => simpa using hpn
   case hargs => rfl
   case h3 =>
    refine (Hr _ _).symm.trans ?_
    simp only [go_sem]
   case h =>
    have h2:=Ll (hround lp assign body v i (w64 (k + 1)) r v' hv)
    have hst : σ0 ++ [ABlk.box (Ak r) false] = S v ++ [.lp false N l #[p1,p2] assign body,.box (Ak r) false]:=by rw [← hσ0,List.append_assoc];rfl
    rw [hst]
    refine G9 h2 ?_
    rintro ex st1 ⟨rfl,q1,q2⟩
    refine ⟨rfl,q1,G9 (Ll q2) ?_⟩
    rintro ex st2 ⟨rfl,q3⟩
    rw [q3]
    refine ⟨rfl,by rw [List.getElem?_append_right (by rw [hS v'];exact Nat.le_refl _),hS v',Nat.sub_self];rfl,?_⟩
    rw [List.set_append_right _ _ (by rw [hS v'];exact Nat.le_refl _),hS v',Nat.sub_self,List.set_cons_zero]
    revert hP
    refine Tn ?_
    refine Cf ?_
    refine Sk ?_
    refine Bn ?_
    refine Tn ?_
    refine F0 [0,3,8,9,10,15,16,17] ?_
    exact Ln (Weak.refl _ _)
  ·refine Sx ?_
   refine Tx ?_
   refine Ly hx2 hj2 ?_
   refine Bx ?_
   refine Bn ?_
   refine Tn ?_
   refine F0 [0,8,9,10] ?_
   exact Ln (Weak.refl _ _)
 ·refine Sx ?_
  refine Tx ?_
  refine Ly hx1 hj1 ?_
  refine Bx ?_
  refine Wp (Weak.refl _ _) ?_
  intro h
  obtain rfl:=Option.some.inj h
  refine ⟨.inl rfl,by rw [List.getElem?_append_right (by rw [hS];exact Nat.le_refl _),hS,Nat.sub_self];rfl,?_⟩
  rw [List.set_append_right _ _ (by rw [hS];exact Nat.le_refl _),hS,Nat.sub_self,List.set_cons_zero]
  exact hk
theorem Ra {V : Type} {F : Addr→Prop} {base : Nat} {n : Nat} {gop : Operand} {assign body : Code} {N : Nat} {fr : Fr} {K : E2} (S : V→Am) (l : Fr) {step : V→Api_Ref→Api_Record→Option V} {logs : List (List Api_Record)} {forks : List Api_Fork} {f1 f2 ro : Bool} {v0 x : V} {p1 p2 idb : Nat} (M : Nat) (σ0 σx : Am)
  (hround : ∀ (lp : Nat) (ac bd : Code) (v : V) (i k : Int) (r : Api_Record) (v' : V),step v ⟨i,k⟩ r = some v' →
   Run (B.env { F:=F,rd:=some lp }) (M + 1) assign ⟨Ar N ((p2,.agg (Ak r)) :: (p1,.agg [i64 i,i64 k]) :: l),S v ++ [.lp false N l #[p1,p2] ac bd,.box (Ak r) false]⟩
    (wkP (B.env { F:=F,rd:=some lp }) (M + 1) (ArJ (B.env { F:=F,rd:=some lp }) M N l #[p1,p2] ac bd body (wkP (B.env { F:=F,rd:=some lp }) (M + 1) (Asd M (S v' ++ [.lp true N l #[p1,p2] ac bd]))))))
  (hk : K .normal ⟨Ar N fr,σx⟩) (hx : AqK step logs v0 = some x) (hl : Auw N fr l) (h0 : S v0 = σ0:=by rfl) (hσx : S x ++ [.gone] = σx:=by rfl) (hg : ev (Ar N fr) gop = .fn 74 [.ref idb 0]:=by rfl) (hS : ∀ v,(S v).length = M:=by exact fun _ => rfl) (hb : (S v0)[idb]? = some (.box [.sl f1 (L (cSl Ak) logs),.sl f2 (L Ax forks)] ro):=by rfl)
  (hp : (decide (p1 < N) && decide (p2 < N) && p1 != p2 && (l.map (·.1)).all (fun t => t != p1 && t != p2)) = true:=by rfl) (hca : Py assign = true:=by rfl) (hcb : Py body = true:=by rfl) :
  Run (B.env { F:=F,mks:=true,base:=base }) n (.rangeFunc gop #[p1,p2] assign body) ⟨Ar N fr,σ0⟩ K:=by
 subst h0 hσx
 simp only [Bool.and_eq_true,decide_eq_true_eq,bne_iff_ne,ne_eq,List.all_eq_true,List.mem_map] at hp
 obtain ⟨⟨⟨h1,h2⟩,h3⟩,h4⟩:=hp
 exact Ahg (o:={ F:=F,mks:=true,base:=base }) M hx rfl hg hS hb (Aex hl) h1 h2 h3 (fun p hp => h4 _ ⟨p,hp,rfl⟩) hca hcb hround hk
def Od (a : UInt64) (b : UInt64) (c : UInt64) (d : UInt64) : Option ((UInt64×UInt64×UInt64) ⊕ (UInt64)) :=
 if (decide (c > (0 : UInt64))) = true then
  (if ((c % (2 : UInt64)) == (1 : UInt64)) = true then
   if ¬a = 0 then
    some ((d + b) % a)
   else none
  else
   some d : Option (UInt64)).bind fun e =>
  if ¬a = 0 then
   some (.inl (((b + b) % a),(c / (2 : UInt64)),e))
  else none
 else
  some (.inr d)
def Q6 (a : UInt64) (b : UInt64) (c : UInt64) : Option (UInt64) :=
 ((A6 (fun (v : UInt64×UInt64×UInt64) => Od c v.1 v.2.1 v.2.2) (a,b,(0 : UInt64))).bind fun d =>
 some d : Option (UInt64)).bind fun e =>
 some e
def Sf (a : UInt64) (b : UInt64) (c : UInt64) : Option ((UInt64×UInt64×UInt64) ⊕ (UInt64)) :=
 if (decide (b > (0 : UInt64))) = true then
  (if ((b % (2 : UInt64)) == (1 : UInt64)) = true then
   (Q6 c a (2305843009213690799 : UInt64)).bind fun d =>
   some d
  else
   some c : Option (UInt64)).bind fun e =>
  (Q6 a a (2305843009213690799 : UInt64)).bind fun f =>
  some (.inl (f,(b / (2 : UInt64)),e))
 else
  some (.inr c)
def Aeo (a : UInt64) (b : UInt64) : Option (UInt64) :=
 (lt1 (a % (2305843009213690799 : UInt64)) fun (c : UInt64) =>
 (A6 (fun (v : UInt64×UInt64×UInt64) => Sf v.1 v.2.1 v.2.2) (c,b,(1 : UInt64))).bind fun d =>
 some d : Option (UInt64)).bind fun e =>
 some e
def Ru (a : UInt64) : Option (UInt64×Int) :=
 (if (decide (a < (1 : UInt64))) = true then
  some true
 else
  some (decide (a ≥ (1152921504606845399 : UInt64))) : Option (Bool)).bind fun b =>
 if b = true then
  some ((0 : UInt64),30)
 else
  (Aeo (4 : UInt64) a).bind fun c =>
  some (c,0)
def Ld (a : Int) (b : List Api_RailwayInfo) : Option ((Int×List Api_RailwayInfo) ⊕ (List Api_RailwayInfo)) :=
 if (decide (a < 2)) = true then
  (Ru (UInt64.ofInt (w64 (7 + a)))).bind fun c =>
  if Fb (b.length + 1) 144 then
   lt1 (b ++ ([({ Key:=c.1,Zf1:=({ Zd1:=(({ Zw:=0,To:=0 } : Api_Span),({ Zw:=0,To:=0 } : Api_Span),({ Zw:=0,To:=0 } : Api_Span),({ Zw:=0,To:=0 } : Api_Span),({ Zw:=0,To:=0 } : Api_Span),({ Zw:=0,To:=0 } : Api_Span),({ Zw:=0,To:=0 } : Api_Span)),Ze1:=[] } : Api_Calendar) } : Api_RailwayInfo)] : List Api_RailwayInfo)) fun (d : List Api_RailwayInfo) =>
   some (.inl ((w64 (a + 1)),d))
  else none
 else
  some (.inr b)
def r14_Example  : Option (Api_Pool) :=
 lt1 ([({ Za:=1,Zb:=0,Zc:=(-1) } : Api_Place),({ Za:=3,Zb:=0,Zc:=1 } : Api_Place),({ Za:=4,Zb:=1,Zc:=(-1) } : Api_Place)] : List Api_Place) fun (a : List Api_Place) =>
 lt1 ([({ A:=0,B:=1,Zb:=0,Zd:=10,Km:=5 } : Api_Edge),({ A:=1,B:=2,Zb:=1,Zd:=20,Km:=9 } : Api_Edge)] : List Api_Edge) fun (b : List Api_Edge) =>
 lt1 ([({ Zg:=1000,Zh:=0,Zi:=0,Zj:=0,Zk:=0,Zl:=(7 : UInt64),Zm:=1000,Zn:=0 } : Api_WagonType)] : List Api_WagonType) fun (c : List Api_WagonType) =>
 lt1 ([({ Zo:=0,Zp:=0,Zq:=0,Zr:=0,Zs:=5000 } : Api_Wagon)] : List Api_Wagon) fun (d : List Api_Wagon) =>
 lt1 ([({ Zb1:=0,Low:=(-3),Zc1:=3 } : Api_Reader)] : List Api_Reader) fun (e : List Api_Reader) =>
 lt1 ([({ Zb1:=2 } : Api_Shipper)] : List Api_Shipper) fun (f : List Api_Shipper) =>
 ((A6 (fun (v : Int×List Api_RailwayInfo) => Ld v.1 v.2) (0,[])).bind fun g =>
 some g : Option (List Api_RailwayInfo)).bind fun i =>
 some ({ Zg1:=({ Ze:=a,Zf:=b } : Api_Network),Zh1:=({ Zx:=c,Zy:=d,Zz:=[],Za1:=[] } : Api_Fleet),Zi1:=e,Zj1:=f,Zk1:=i } : Api_Pool)
def D6 (a : Int) : Option (Api_Item) :=
 some ({ Za:=8,Ref:=({ Zb:=0,No:=0 } : Api_Ref),Zn1:=0,Zb1:=0,Zc:=0,Zo1:=0,Zw:=3,To:=0,Code:=a,Zp1:=0,Zq1:=0,Zr1:=0,Zs1:=0,Zt1:=([] : List UInt8),Zu1:=[] } : Api_Item)
def Hq (a : Api_Place) : Option (Bool) :=
 (if (decide (a.Za < 1)) = true then
  some true
 else
  if (decide (a.Za > 5)) = true then
   some true
  else
   if (decide (a.Zb < 0)) = true then
    some true
   else
    some (decide (a.Zb ≥ 16)) : Option (Bool)).bind fun b =>
 if b = true then
  some false
 else
  if (a.Za != 3) = true then
   some (a.Zc == (-1))
  else
   (if (decide (a.Zc ≥ 0)) = true then
    if (decide (a.Zc < 16)) = true then
     some (a.Zc != a.Zb)
    else
     some false
   else
    some false : Option (Bool)).bind fun c =>
   some c
def Ef (b : Api_Network) (a : Int) : Option ((Int) ⊕ ((Unit) ⊕ ((Unit) ⊕ (Int)))) :=
 if (decide (a < (b.Ze.length : Int))) = true then
  if InR a b.Ze.length then
   lt1 ((nth b.Ze a.toNat).Za) fun (c : Int) =>
   lt1 ((nth b.Ze a.toNat).Zb) fun (d : Int) =>
   lt1 ((nth b.Ze a.toNat).Zc) fun (e : Int) =>
   (Hq ({ Za:=c,Zb:=d,Zc:=e } : Api_Place)).bind fun f =>
   if (!f) = true then
    ((some 1).bind fun g => some (.inr g)).bind fun i => some (.inr (.inr i))
   else
    some (.inl (w64 (a + 1)))
  else none
 else
  some (.inr (.inl ()))
def Eg (b : Api_Network) (i : Int) (a : Int) : Option ((Int) ⊕ ((Unit) ⊕ ((Unit) ⊕ (Int)))) :=
 if (decide (a < (b.Zf.length : Int))) = true then
  if InR a b.Zf.length then
   lt1 ((nth b.Zf a.toNat).A) fun (c : Int) =>
   lt1 ((nth b.Zf a.toNat).B) fun (d : Int) =>
   lt1 ((nth b.Zf a.toNat).Zb) fun (e : Int) =>
   lt1 ((nth b.Zf a.toNat).Zd) fun (f : Int) =>
   lt1 ((nth b.Zf a.toNat).Km) fun (g : Int) =>
   (if (decide ((Abl (Abl (Abl c d) e) g) < 0)) = true then
    some true
   else
    if (decide ((Ty c d) ≥ i)) = true then
     some true
    else
     if (c == d) = true then
      some true
     else
      if (decide (e ≥ 16)) = true then
       some true
      else
       if (decide (f < 1)) = true then
        some true
       else
        if (decide (f > 100000)) = true then
         some true
        else
         some (decide (g > 10000)) : Option (Bool)).bind fun j =>
   if j = true then
    ((some 1).bind fun k => some (.inr k)).bind fun l => some (.inr (.inr l))
   else
    some (.inl (w64 (a + 1)))
  else none
 else
  some (.inr (.inl ()))
def Ia (a : Api_Network) : Option (Int) :=
 lt1 (a.Ze.length : Int) fun (b : Int) =>
 (if (decide (b > 512)) = true then
  some true
 else
  some (decide ((a.Zf.length : Int) > 2048)) : Option (Bool)).bind fun c =>
 if c = true then
  some 2
 else
  ((A6 (fun (v : Int) => Ef a v) 0).bind fun x => match x with
  | .inl () =>
   some (.inl ())
  | .inr z => some z : Option ((Unit) ⊕ (Int))).bind fun x => match x with
  | .inl () =>
   ((A6 (fun (v : Int) => Eg a b v) 0).bind fun x => match x with
   | .inl () =>
    some (.inl ())
   | .inr z => some z : Option ((Unit) ⊕ (Int))).bind fun x => match x with
   | .inl () =>
    some 0
   | .inr z => some z
  | .inr z => some z
def Bb (a : Bool) (b : Int) : Option (Int) :=
 if (!a) = true then
  some 1
 else
  some b
def Az (a : Int) (b : Int) (c : Int) : Option (Bool) :=
 (if (decide (a ≥ b)) = true then
  some (decide (a≤c))
 else
  some false : Option (Bool)).bind fun d =>
 some d
def Fj (d : Int) (b : List Int) (a : Int) (c : Int) : Option ((Int×Int) ⊕ (Int)) :=
 if (decide (a < d)) = true then
  if InR a b.length then
   (Az (nth b a.toNat) 0 1000000).bind fun e =>
   (Bb e c).bind fun f =>
   some (.inl ((w64 (a + 1)),f))
  else none
 else
  some (.inr c)
def Fx (b : Api_Fleet) (a : Int) (d : Int) : Option ((Int×Int) ⊕ (Int)) :=
 if (decide (a < (b.Zx.length : Int))) = true then
  (if InR a b.Zx.length then
   lt1 ((nth b.Zx a.toNat).Zg) fun (e : Int) =>
   lt1 ((nth b.Zx a.toNat).Zh) fun (f : Int) =>
   lt1 ((nth b.Zx a.toNat).Zi) fun (g : Int) =>
   lt1 ((nth b.Zx a.toNat).Zj) fun (j : Int) =>
   lt1 ((nth b.Zx a.toNat).Zk) fun (i : Int) =>
   lt1 ((nth b.Zx a.toNat).Zl) fun (z : UInt64) =>
   lt1 ((nth b.Zx a.toNat).Zm) fun (k : Int) =>
   lt1 ((nth b.Zx a.toNat).Zn) fun (l : Int) =>
   (lt1 (([e,f,g,i] : List Int).length : Int) fun (m : Int) =>
   lt1 ([e,f,g,i] : List Int) fun (n : List Int) =>
   (A6 (fun (v : Int×Int) => Fj m n v.1 v.2) (0,d)).bind fun o =>
   some o : Option (Int)).bind fun c =>
   ((Az j 0 7).bind fun p =>
   if p = true then
    (Az k 1 1073741824).bind fun q =>
    if q = true then
     (Az l 0 100).bind fun s =>
     (Bb s c).bind fun t =>
     some t
    else
     (Bb false c).bind fun u =>
     some u
   else
    (Bb false c).bind fun w =>
    some w : Option (Int)).bind fun x =>
   some x
  else none : Option (Int)).bind fun y =>
  some (.inl ((w64 (a + 1)),y))
 else
  some (.inr d)
def Ft (a : Api_Fleet) (b : Int) (c : Int) : Option ((Int×Int) ⊕ (Int)) :=
 if (decide (b < (a.Zy.length : Int))) = true then
  if InR b a.Zy.length then
   lt1 ((nth a.Zy b.toNat).Zo) fun (e : Int) =>
   lt1 ((nth a.Zy b.toNat).Zp) fun (f : Int) =>
   lt1 ((nth a.Zy b.toNat).Zq) fun (g : Int) =>
   lt1 ((nth a.Zy b.toNat).Zr) fun (i : Int) =>
   lt1 ((nth a.Zy b.toNat).Zs) fun (j : Int) =>
   ((Az e 0 (w64 ((a.Zx.length : Int) - 1))).bind fun k =>
   if k = true then
    (Az f 0 63).bind fun l =>
    if l = true then
     (Az g 0 511).bind fun m =>
     (Bb m c).bind fun n =>
     some n
    else
     (Bb false c).bind fun o =>
     some o
   else
    (Bb false c).bind fun p =>
    some p : Option (Int)).bind fun d =>
   ((Az i 0 1073741824).bind fun q =>
   if q = true then
    (Az j 0 1099511627776).bind fun s =>
    (Bb s d).bind fun t =>
    some t
   else
    (Bb false d).bind fun u =>
    some u : Option (Int)).bind fun v =>
   some (.inl ((w64 (b + 1)),v))
  else none
 else
  some (.inr c)
def Fs (a : Api_Fleet) (b : Int) (c : Int) : Option ((Int×Int) ⊕ (Int)) :=
 if (decide (b < (a.Zz.length : Int))) = true then
  if InR b a.Zz.length then
   lt1 ((nth a.Zz b.toNat).Zt) fun (d : Int) =>
   lt1 ((nth a.Zz b.toNat).Zu) fun (e : Int) =>
   lt1 ((nth a.Zz b.toNat).Zv) fun (f : Int) =>
   ((Az d 0 (w64 ((a.Zx.length : Int) - 1))).bind fun g =>
   if g = true then
    (Az e 0 (w64 ((a.Zx.length : Int) - 1))).bind fun i =>
    if i = true then
     if (d != e) = true then
      (Az f 0 1000000000).bind fun j =>
      (Bb j c).bind fun k =>
      some k
     else
      (Bb false c).bind fun l =>
      some l
    else
     (Bb false c).bind fun m =>
     some m
   else
    (Bb false c).bind fun n =>
    some n : Option (Int)).bind fun o =>
   some (.inl ((w64 (b + 1)),o))
  else none
 else
  some (.inr c)
def Fo (d : Api_Fleet) (a : Int) (f : Int) (e : Arr Bool 4096) : Option ((Int×Int×Arr Bool 4096) ⊕ (Int)) :=
 if (decide (a < (d.Za1.length : Int))) = true then
  (if InR a d.Za1.length then
   lt1 ((nth d.Za1 a.toNat).Zw) fun (b : Int) =>
   lt1 ((nth d.Za1 a.toNat).To) fun (c : Int) =>
   lt1 ((nth d.Za1 a.toNat).Zd) fun (j : Int) =>
   ((Az b 0 63).bind fun k =>
   if k = true then
    (Az c 0 63).bind fun l =>
    if l = true then
     if (b != c) = true then
      (Az j 0 100000).bind fun m =>
      some m
     else
      some false
    else
     some false
   else
    some false : Option (Bool)).bind fun g =>
   (Bb g f).bind fun i =>
   if g = true then
    if InR b 64 then
     if InR c 64 then
      (Bb (!(e.get (b.toNat * 64 + c.toNat))) i).bind fun n =>
      if InR b 64 then
       if InR c 64 then
        lt1 (e.set (b.toNat * 64 + c.toNat) true) fun (o : Arr Bool 4096) =>
        some (n,o)
       else none
      else none
     else none
    else none
   else
    some (i,e)
  else none : Option (Int×Arr Bool 4096)).bind fun (p,q) =>
  some (.inl ((w64 (a + 1)),p,q))
 else
  some (.inr f)
def Kl (a : Api_Fleet) : Option (Int) :=
 (if (decide ((a.Zx.length : Int) > 32)) = true then
  some true
 else
  if (decide ((a.Zy.length : Int) > 4096)) = true then
   some true
  else
   if (decide ((a.Zz.length : Int) > 1024)) = true then
    some true
   else
    some (decide ((a.Za1.length : Int) > 4096)) : Option (Bool)).bind fun b =>
 if b = true then
  some 2
 else
  ((A6 (fun (v : Int×Int) => Fx a v.1 v.2) (0,0)).bind fun c =>
  some c : Option (Int)).bind fun d =>
  ((A6 (fun (v : Int×Int) => Ft a v.1 v.2) (0,d)).bind fun e =>
  some e : Option (Int)).bind fun f =>
  ((A6 (fun (v : Int×Int) => Fs a v.1 v.2) (0,f)).bind fun g =>
  some g : Option (Int)).bind fun i =>
  ((A6 (fun (v : Int×Int×Arr Bool 4096) => Fo a v.1 v.2.1 v.2.2) (0,i,(Arr.rep 4096 false))).bind fun j =>
  some j : Option (Int)).bind fun k =>
  some k
def Eb (b : Api_Calendar) (d : Int) (a : Int) : Option ((Int×Int) ⊕ ((Unit) ⊕ ((Unit) ⊕ (Int)))) :=
 if (decide (a < (b.Ze1.length : Int))) = true then
  if InR a b.Ze1.length then
   lt1 (nth b.Ze1 a.toNat) fun (c : Int) =>
   (if (decide (c≤d)) = true then
    some true
   else
    some (decide (c > 745654)) : Option (Bool)).bind fun e =>
   if e = true then
    ((some 1).bind fun f => some (.inr f)).bind fun g => some (.inr (.inr g))
   else
    some (.inl (c,(w64 (a + 1))))
  else none
 else
  some (.inr (.inl ()))
def G5 (a : Api_Calendar) : Option (Int) :=
 lt1 a.Zd1.2.2.2.2.2.1.Zw fun (b : Int) =>
 lt1 a.Zd1.2.2.2.2.2.2.Zw fun (c : Int) =>
 ((if (decide (a.Zd1.1.Zw < 0)) = true then
  some true
 else
  if (decide (a.Zd1.1.To < a.Zd1.1.Zw)) = true then
   some true
  else
   some (decide (a.Zd1.1.To > 1440)) : Option (Bool)).bind fun d =>
 if d = true then
  (some 1).bind fun e => some (.inr e)
 else
  (if (decide (a.Zd1.2.1.Zw < 0)) = true then
   some true
  else
   if (decide (a.Zd1.2.1.To < a.Zd1.2.1.Zw)) = true then
    some true
   else
    some (decide (a.Zd1.2.1.To > 1440)) : Option (Bool)).bind fun f =>
  if f = true then
   (some 1).bind fun g => some (.inr g)
  else
   (if (decide (a.Zd1.2.2.1.Zw < 0)) = true then
    some true
   else
    if (decide (a.Zd1.2.2.1.To < a.Zd1.2.2.1.Zw)) = true then
     some true
    else
     some (decide (a.Zd1.2.2.1.To > 1440)) : Option (Bool)).bind fun i =>
   if i = true then
    (some 1).bind fun j => some (.inr j)
   else
    (if (decide (a.Zd1.2.2.2.1.Zw < 0)) = true then
     some true
    else
     if (decide (a.Zd1.2.2.2.1.To < a.Zd1.2.2.2.1.Zw)) = true then
      some true
     else
      some (decide (a.Zd1.2.2.2.1.To > 1440)) : Option (Bool)).bind fun k =>
    if k = true then
     (some 1).bind fun l => some (.inr l)
    else
     (if (decide (a.Zd1.2.2.2.2.1.Zw < 0)) = true then
      some true
     else
      if (decide (a.Zd1.2.2.2.2.1.To < a.Zd1.2.2.2.2.1.Zw)) = true then
       some true
      else
       some (decide (a.Zd1.2.2.2.2.1.To > 1440)) : Option (Bool)).bind fun m =>
     if m = true then
      (some 1).bind fun n => some (.inr n)
     else
      (if (decide (b < 0)) = true then
       some true
      else
       if (decide (a.Zd1.2.2.2.2.2.1.To < b)) = true then
        some true
       else
        some (decide (a.Zd1.2.2.2.2.2.1.To > 1440)) : Option (Bool)).bind fun o =>
      if o = true then
       (some 1).bind fun p => some (.inr p)
      else
       (if (decide (c < 0)) = true then
        some true
       else
        if (decide (a.Zd1.2.2.2.2.2.2.To < c)) = true then
         some true
        else
         some (decide (a.Zd1.2.2.2.2.2.2.To > 1440)) : Option (Bool)).bind fun q =>
       if q = true then
        (some 1).bind fun s => some (.inr s)
       else
        some (.inl ()) : Option ((Unit) ⊕ (Int))).bind fun x => match x with
 | .inl () =>
  ((A6 (fun (v : Int×Int) => Eb a v.1 v.2) ((-1),0)).bind fun x => match x with
  | .inl () =>
   some (.inl ())
  | .inr z => some z : Option ((Unit) ⊕ (Int))).bind fun x => match x with
  | .inl () =>
   some 0
  | .inr z => some z
 | .inr z => some z
def Mg (a : UInt64) (b : UInt64) : Option (UInt64×UInt64) :=
 lt1 (a &&& (4294967295 : UInt64)) fun (x0_2596 : UInt64) =>
 lt1 (Gb a (32 : UInt64).toNat) fun (x1_2598 : UInt64) =>
 lt1 (b &&& (4294967295 : UInt64)) fun (y0_2600 : UInt64) =>
 lt1 (Gb b (32 : UInt64).toNat) fun (y1_2602 : UInt64) =>
 lt1 ((x1_2598 * y0_2600) + (Gb (x0_2596 * y0_2600) (32 : UInt64).toNat)) fun (c : UInt64) =>
 lt1 (c &&& (4294967295 : UInt64)) fun (w1_2606 : UInt64) =>
 lt1 (Gb c (32 : UInt64).toNat) fun (w2_2608 : UInt64) =>
 lt1 (w1_2606 + (x0_2596 * y1_2602)) fun (w1_2610 : UInt64) =>
 lt1 (((x1_2598 * y1_2602) + w2_2608) + (Gb w1_2610 (32 : UInt64).toNat)) fun (d : UInt64) =>
 some (d,(a * b))
def It (a : UInt64) : Option (Int) :=
 (if (decide (a ≥ (4294967296 : UInt64))) = true then
  lt1 (Gb a (32 : UInt64).toNat) fun (g : UInt64) =>
  some (g,32)
 else
  some (a,0) : Option (UInt64×Int)).bind fun (b,d) =>
 (if (decide (b ≥ (65536 : UInt64))) = true then
  lt1 (Gb b (16 : UInt64).toNat) fun (i : UInt64) =>
  some (i,(w64 (d + 16)))
 else
  some (b,d) : Option (UInt64×Int)).bind fun (c,e) =>
 (if (decide (c ≥ (256 : UInt64))) = true then
  lt1 (Gb c (8 : UInt64).toNat) fun (j : UInt64) =>
  some (j,(w64 (e + 8)))
 else
  some (c,e) : Option (UInt64×Int)).bind fun (f,k) =>
 if InR (f.toUInt8.toNat : Int) (([0,1,2,2,3,3,3,3,4,4,4,4,4,4,4,4,5,5,5,5,5,5,5,5,5,5,5,5,5,5,5,5,6,6,6,6,6,6,6,6,6,6,6,6,6,6,6,6,6,6,6,6,6,6,6,6,6,6,6,6,6,6,6,6,7,7,7,7,7,7,7,7,7,7,7,7,7,7,7,7,7,7,7,7,7,7,7,7,7,7,7,7,7,7,7,7,7,7,7,7,7,7,7,7,7,7,7,7,7,7,7,7,7,7,7,7,7,7,7,7,7,7,7,7,7,7,7,7,8,8,8,8,8,8,8,8,8,8,8,8,8,8,8,8,8,8,8,8,8,8,8,8,8,8,8,8,8,8,8,8,8,8,8,8,8,8,8,8,8,8,8,8,8,8,8,8,8,8,8,8,8,8,8,8,8,8,8,8,8,8,8,8,8,8,8,8,8,8,8,8,8,8,8,8,8,8,8,8,8,8,8,8,8,8,8,8,8,8,8,8,8,8,8,8,8,8,8,8,8,8,8,8,8,8,8,8,8,8,8,8,8,8,8,8,8,8,8,8,8,8,8,8,8,8,8,8] : List UInt8).length) then
  lt1 (w64 (k + ((nth ([0,1,2,2,3,3,3,3,4,4,4,4,4,4,4,4,5,5,5,5,5,5,5,5,5,5,5,5,5,5,5,5,6,6,6,6,6,6,6,6,6,6,6,6,6,6,6,6,6,6,6,6,6,6,6,6,6,6,6,6,6,6,6,6,7,7,7,7,7,7,7,7,7,7,7,7,7,7,7,7,7,7,7,7,7,7,7,7,7,7,7,7,7,7,7,7,7,7,7,7,7,7,7,7,7,7,7,7,7,7,7,7,7,7,7,7,7,7,7,7,7,7,7,7,7,7,7,7,8,8,8,8,8,8,8,8,8,8,8,8,8,8,8,8,8,8,8,8,8,8,8,8,8,8,8,8,8,8,8,8,8,8,8,8,8,8,8,8,8,8,8,8,8,8,8,8,8,8,8,8,8,8,8,8,8,8,8,8,8,8,8,8,8,8,8,8,8,8,8,8,8,8,8,8,8,8,8,8,8,8,8,8,8,8,8,8,8,8,8,8,8,8,8,8,8,8,8,8,8,8,8,8,8,8,8,8,8,8,8,8,8,8,8,8,8,8,8,8,8,8,8,8,8,8,8,8] : List UInt8) f.toUInt8.toNat).toNat : Int))) fun (l : Int) =>
  some l
 else none
def Ee (a : UInt64) : Option (Int) :=
 (It a).bind fun b =>
 some (w64 (64 - b))
def Gz (yn1_2658 : UInt64) (yn0_2660 : UInt64) (un1_2666 : UInt64) (q1_2701 : UInt64) (a : UInt64) : Option ((UInt64×UInt64) ⊕ (UInt64)) :=
 (if (decide (q1_2701 ≥ (4294967296 : UInt64))) = true then
  some true
 else
  some (decide ((q1_2701 * yn0_2660) > (((4294967296 : UInt64) * a) + un1_2666))) : Option (Bool)).bind fun b =>
 if b = true then
  if (decide ((a + yn1_2658) ≥ (4294967296 : UInt64))) = true then
   some (.inr (q1_2701 - (1 : UInt64)))
  else
   some (.inl ((q1_2701 - (1 : UInt64)),(a + yn1_2658)))
 else
  some (.inr q1_2701)
def Gs (yn1_2658 : UInt64) (yn0_2660 : UInt64) (un0_2668 : UInt64) (a : UInt64) (q0_2749 : UInt64) : Option ((UInt64×UInt64) ⊕ (UInt64)) :=
 (if (decide (q0_2749 ≥ (4294967296 : UInt64))) = true then
  some true
 else
  some (decide ((q0_2749 * yn0_2660) > (((4294967296 : UInt64) * a) + un0_2668))) : Option (Bool)).bind fun b =>
 if b = true then
  if (decide ((a + yn1_2658) ≥ (4294967296 : UInt64))) = true then
   some (.inr (q0_2749 - (1 : UInt64)))
  else
   some (.inl ((a + yn1_2658),(q0_2749 - (1 : UInt64))))
 else
  some (.inr q0_2749)
def L3 (e : UInt64) (c : UInt64) (a : UInt64) : Option (UInt64×UInt64) :=
 if (a == (0 : UInt64)) = true then
  none
 else
  if (decide (a≤e)) = true then
   none
  else
   if (e == (0 : UInt64)) = true then
    if ¬a = 0 then
     if ¬a = 0 then
      some ((c / a),(c % a))
     else none
    else none
   else
    (Ee a).bind fun b =>
    lt1 (Tj a (UInt64.ofInt b).toNat) fun (d : UInt64) =>
    lt1 (Gb d (32 : UInt64).toNat) fun (yn1_2658 : UInt64) =>
    lt1 (d &&& (4294967295 : UInt64)) fun (yn0_2660 : UInt64) =>
    lt1 ((Tj e (UInt64.ofInt b).toNat) ||| (Gb c ((64 : UInt64) - (UInt64.ofInt b)).toNat)) fun (un32_2662 : UInt64) =>
    lt1 (Tj c (UInt64.ofInt b).toNat) fun (un10_2664 : UInt64) =>
    lt1 (Gb un10_2664 (32 : UInt64).toNat) fun (un1_2666 : UInt64) =>
    lt1 (un10_2664 &&& (4294967295 : UInt64)) fun (un0_2668 : UInt64) =>
    if ¬yn1_2658 = 0 then
     lt1 (un32_2662 - ((un32_2662 / yn1_2658) * yn1_2658)) fun (f : UInt64) =>
     ((A6 (fun (v : UInt64×UInt64) => Gz yn1_2658 yn0_2660 un1_2666 v.1 v.2) ((un32_2662 / yn1_2658),f)).bind fun q1_2706 =>
     some q1_2706 : Option (UInt64)).bind fun q1_2692 =>
     lt1 (((un32_2662 * (4294967296 : UInt64)) + un1_2666) - (q1_2692 * d)) fun (un21_2715 : UInt64) =>
     if ¬yn1_2658 = 0 then
      lt1 (un21_2715 - ((un21_2715 / yn1_2658) * yn1_2658)) fun (g : UInt64) =>
      ((A6 (fun (v : UInt64×UInt64) => Gs yn1_2658 yn0_2660 un0_2668 v.1 v.2) (g,(un21_2715 / yn1_2658))).bind fun q0_2753 =>
      some q0_2753 : Option (UInt64)).bind fun q0_2739 =>
      lt1 ((q1_2692 * (4294967296 : UInt64)) + q0_2739) fun (i : UInt64) =>
      lt1 (Gb (((un21_2715 * (4294967296 : UInt64)) + un0_2668) - (q0_2739 * d)) (UInt64.ofInt b).toNat) fun (j : UInt64) =>
      some (i,j)
     else none
    else none
def Dg (c : UInt64) (d : UInt64) (a : UInt64) : Option (UInt64×UInt64) :=
 if ¬a = 0 then
  if ¬a = 0 then
   (Mg (c % a) (d % a)).bind fun b =>
   (L3 b.1 b.2 a).bind fun e =>
   some (e.2,a)
  else none
 else none
def Hd (a : UInt64) : Option (UInt64) :=
 some a
def Kf (g : UInt64) (d : UInt64) (i : Int) (c : UInt64) (a : Int) (j : UInt64) : Option ((UInt64×Int×UInt64) ⊕ (UInt64)) :=
 if (decide (a < i)) = true then
  ((Dg c c j).bind fun b =>
  (It d).bind fun e =>
  if H5 (w64 ((w64 (e - 1)) - a)) then
   lt1 (((Gb d ((w64 ((w64 (e - 1)) - a)).toNat)) &&& (1 : UInt64)) == (1 : UInt64)) fun (k : Bool) =>
   if k = true then
    (Dg b.1 g b.2).bind fun f =>
    some (f.1,f.2)
   else
    some (b.1,b.2)
  else none : Option (UInt64×UInt64)).bind fun (l,m) =>
  some (.inl (l,(w64 (a + 1)),m))
 else
  some (.inr c)
def Jt (b : UInt64) (a : UInt64) : Option (UInt64) :=
 (Hd (2305843009213690799 : UInt64)).bind fun c =>
 ((It a).bind fun d =>
 (A6 (fun (v : UInt64×Int×UInt64) => Kf b a d v.1 v.2.1 v.2.2) ((1 : UInt64),0,c)).bind fun e =>
 some e : Option (UInt64)).bind fun f =>
 some f
def Jz (a : UInt64) : Option (Bool) :=
 (if (decide (a ≥ (2 : UInt64))) = true then
  if (decide (a < (2305843009213690799 : UInt64))) = true then
   (Jt a (1152921504606845399 : UInt64)).bind fun b =>
   some (b == (1 : UInt64))
  else
   some false
 else
  some false : Option (Bool)).bind fun c =>
 some c
def Dy (a : Api_Pool) (c : Bool) (b : Int) : Option ((Bool×Int) ⊕ (Bool)) :=
 if (decide (b < (a.Zi1.length : Int))) = true then
  if InR b a.Zi1.length then
   lt1 ((nth a.Zi1 b.toNat).Zb1) fun (f : Int) =>
   lt1 ((nth a.Zi1 b.toNat).Low) fun (d : Int) =>
   lt1 ((nth a.Zi1 b.toNat).Zc1) fun (e : Int) =>
   (if c = true then
    some true
   else
    (Az f 0 (w64 ((a.Zg1.Ze.length : Int) - 1))).bind fun g =>
    if (!g) = true then
     some true
    else
     if (decide (d < (-1000))) = true then
      some true
     else
      if (decide (d > e)) = true then
       some true
      else
       some (decide (e > 1000)) : Option (Bool)).bind fun i =>
   some (.inl (i,(w64 (b + 1))))
  else none
 else
  some (.inr c)
def Dz (a : Api_Pool) (d : Bool) (b : Int) : Option ((Bool×Int) ⊕ (Bool)) :=
 if (decide (b < (a.Zj1.length : Int))) = true then
  if InR b a.Zj1.length then
   lt1 ((nth a.Zj1 b.toNat).Zb1) fun (c : Int) =>
   (if d = true then
    some true
   else
    (Az c 0 (w64 ((a.Zg1.Ze.length : Int) - 1))).bind fun e =>
    if (!e) = true then
     some true
    else
     if InR c a.Zg1.Ze.length then
      some ((nth a.Zg1.Ze c.toNat).Za != 4)
     else none : Option (Bool)).bind fun f =>
   some (.inl (f,(w64 (b + 1))))
  else none
 else
  some (.inr d)
def Dt (a : Api_Pool) (c : Bool) (b : Int) : Option ((Bool×Int) ⊕ (Bool)) :=
 if (decide (b < (a.Zh1.Zy.length : Int))) = true then
  if InR b a.Zh1.Zy.length then
   lt1 ((nth a.Zh1.Zy b.toNat).Zo) fun (f : Int) =>
   lt1 ((nth a.Zh1.Zy b.toNat).Zp) fun (g : Int) =>
   lt1 ((nth a.Zh1.Zy b.toNat).Zq) fun (d : Int) =>
   lt1 ((nth a.Zh1.Zy b.toNat).Zr) fun (i : Int) =>
   lt1 ((nth a.Zh1.Zy b.toNat).Zs) fun (j : Int) =>
   (if c = true then
    some true
   else
    some (decide (d ≥ (a.Zg1.Ze.length : Int))) : Option (Bool)).bind fun e =>
   some (.inl (e,(w64 (b + 1))))
  else none
 else
  some (.inr c)
def Dx (b : Api_Pool) (c : Int) (d : Bool) (a : Int) : Option ((Bool×Int) ⊕ (Bool)) :=
 if (decide (a < (b.Zg1.Ze.length : Int))) = true then
  if InR a b.Zg1.Ze.length then
   lt1 ((nth b.Zg1.Ze a.toNat).Za) fun (i : Int) =>
   lt1 ((nth b.Zg1.Ze a.toNat).Zb) fun (e : Int) =>
   lt1 ((nth b.Zg1.Ze a.toNat).Zc) fun (f : Int) =>
   (if d = true then
    some true
   else
    if (decide (e ≥ c)) = true then
     some true
    else
     some (decide (f ≥ c)) : Option (Bool)).bind fun g =>
   some (.inl (g,(w64 (a + 1))))
  else none
 else
  some (.inr d)
def Du (b : Api_Pool) (d : Int) (c : Bool) (a : Int) : Option ((Bool×Int) ⊕ (Bool)) :=
 if (decide (a < (b.Zg1.Zf.length : Int))) = true then
  if InR a b.Zg1.Zf.length then
   lt1 ((nth b.Zg1.Zf a.toNat).A) fun (g : Int) =>
   lt1 ((nth b.Zg1.Zf a.toNat).B) fun (i : Int) =>
   lt1 ((nth b.Zg1.Zf a.toNat).Zb) fun (e : Int) =>
   lt1 ((nth b.Zg1.Zf a.toNat).Zd) fun (j : Int) =>
   lt1 ((nth b.Zg1.Zf a.toNat).Km) fun (k : Int) =>
   (if c = true then
    some true
   else
    some (decide (e ≥ d)) : Option (Bool)).bind fun f =>
   some (.inl (f,(w64 (a + 1))))
  else none
 else
  some (.inr c)
def Dv (b : Api_Pool) (c : Bool) (a : Int) : Option ((Bool×Int) ⊕ (Bool)) :=
 if (decide (a < (b.Zk1.length : Int))) = true then
  if InR a b.Zk1.length then
   lt1 ((nth b.Zk1 a.toNat).Key) fun (d : UInt64) =>
   lt1 (((((nth b.Zk1 a.toNat).Zf1).Zd1).1).Zw) fun (e : Int) =>
   lt1 (((((nth b.Zk1 a.toNat).Zf1).Zd1).1).To) fun (f : Int) =>
   lt1 (((((nth b.Zk1 a.toNat).Zf1).Zd1).2.1).Zw) fun (g : Int) =>
   lt1 (((((nth b.Zk1 a.toNat).Zf1).Zd1).2.1).To) fun (i : Int) =>
   lt1 (((((nth b.Zk1 a.toNat).Zf1).Zd1).2.2.1).Zw) fun (j : Int) =>
   lt1 (((((nth b.Zk1 a.toNat).Zf1).Zd1).2.2.1).To) fun (k : Int) =>
   lt1 (((((nth b.Zk1 a.toNat).Zf1).Zd1).2.2.2.1).Zw) fun (l : Int) =>
   lt1 (((((nth b.Zk1 a.toNat).Zf1).Zd1).2.2.2.1).To) fun (m : Int) =>
   lt1 (((((nth b.Zk1 a.toNat).Zf1).Zd1).2.2.2.2.1).Zw) fun (n : Int) =>
   lt1 (((((nth b.Zk1 a.toNat).Zf1).Zd1).2.2.2.2.1).To) fun (o : Int) =>
   lt1 (((((nth b.Zk1 a.toNat).Zf1).Zd1).2.2.2.2.2.1).Zw) fun (p : Int) =>
   lt1 (((((nth b.Zk1 a.toNat).Zf1).Zd1).2.2.2.2.2.1).To) fun (q : Int) =>
   lt1 (((((nth b.Zk1 a.toNat).Zf1).Zd1).2.2.2.2.2.2).Zw) fun (s : Int) =>
   lt1 (((((nth b.Zk1 a.toNat).Zf1).Zd1).2.2.2.2.2.2).To) fun (t : Int) =>
   lt1 (((nth b.Zk1 a.toNat).Zf1).Ze1) fun (u : List Int) =>
   (if c = true then
    some true
   else
    (G5 ({ Zd1:=(({ Zw:=e,To:=f } : Api_Span),({ Zw:=g,To:=i } : Api_Span),({ Zw:=j,To:=k } : Api_Span),({ Zw:=l,To:=m } : Api_Span),({ Zw:=n,To:=o } : Api_Span),({ Zw:=p,To:=q } : Api_Span),({ Zw:=s,To:=t } : Api_Span)),Ze1:=u } : Api_Calendar)).bind fun v =>
    if (v != 0) = true then
     some true
    else
     (Jz d).bind fun w =>
     some (!w) : Option (Bool)).bind fun x =>
   some (.inl (x,(w64 (a + 1))))
  else none
 else
  some (.inr c)
def C3 (a : Api_Pool) : Option (Int) :=
 (Ia a.Zg1).bind fun c =>
 if (c != 0) = true then
  some c
 else
  (Kl a.Zh1).bind fun d =>
  if (d != 0) = true then
   some d
  else
   (if (decide ((a.Zi1.length : Int) > 256)) = true then
    some true
   else
    if (decide ((a.Zj1.length : Int) > 256)) = true then
     some true
    else
     some (decide ((a.Zk1.length : Int) > 16)) : Option (Bool)).bind fun e =>
   if e = true then
    some 2
   else
    lt1 (a.Zk1.length : Int) fun (b : Int) =>
    ((A6 (fun (v : Bool×Int) => Dy a v.1 v.2) ((b == 0),0)).bind fun f =>
    some f : Option (Bool)).bind fun g =>
    ((A6 (fun (v : Bool×Int) => Dz a v.1 v.2) (g,0)).bind fun i =>
    some i : Option (Bool)).bind fun j =>
    ((A6 (fun (v : Bool×Int) => Dt a v.1 v.2) (j,0)).bind fun k =>
    some k : Option (Bool)).bind fun l =>
    ((A6 (fun (v : Bool×Int) => Dx a b v.1 v.2) (l,0)).bind fun m =>
    some m : Option (Bool)).bind fun n =>
    ((A6 (fun (v : Bool×Int) => Du a b v.1 v.2) (n,0)).bind fun o =>
    some o : Option (Bool)).bind fun p =>
    ((A6 (fun (v : Bool×Int) => Dv a v.1 v.2) (p,0)).bind fun q =>
    some q : Option (Bool)).bind fun s =>
    if s = true then
     some 1
    else
     some 0
def Ij (a : UInt64) : Option (UInt64×Int) :=
 (if (decide (a < (1 : UInt64))) = true then
  some true
 else
  some (decide (a ≥ (1152921504606845399 : UInt64))) : Option (Bool)).bind fun b =>
 if b = true then
  some ((0 : UInt64),30)
 else
  (Jt (4 : UInt64) a).bind fun c =>
  some (c,0)
def Jy (a : Api_Books) (b : Int) : Option (List Api_Record) :=
 if (decide (b ≥ (a.Zy1.length : Int))) = true then
  some ([])
 else
  if InR b a.Zy1.length then
   some (nth a.Zy1 b.toNat)
  else none
def I9 (a : Int) : Option (Api_Value) :=
 some (Api_Value.mk 1 a ([]) ([]))
def O8 (a : List UInt8) : Option (Api_Value) :=
 some (Api_Value.mk 2 0 a ([]))
def Bm (a : Int) : Option (Api_Value) :=
 some (Api_Value.mk 1 a ([]) ([]))
def edi_list_cnil  : Option (Api_Value) :=
 some (Api_Value.mk 3 0 ([]) ([]))
def K7 (a : List Api_Value) : Option (Api_Value) :=
 some (Api_Value.mk 3 0 ([]) a)
def Gx (a : List Api_Value) : Option (Api_Value) :=
 some (Api_Value.mk 3 0 ([]) a)
def Us (a : List UInt8) : Option (Api_Value) :=
 some (Api_Value.mk 2 0 a ([]))
def Gi (b : Api_Item) (a : Int) (c : List Api_Value) : Option ((Int×List Api_Value) ⊕ (List Api_Value)) :=
 if (decide (a < (b.Zu1.length : Int))) = true then
  if InR a b.Zu1.length then
   lt1 ((nth b.Zu1 a.toNat).Za) fun (e : Int) =>
   lt1 ((nth b.Zu1 a.toNat).Zl1) fun (f : Int) =>
   lt1 ((nth b.Zu1 a.toNat).Zm1) fun (g : Bool) =>
   (if g = true then
    some 1
   else
    some 0 : Option (Int)).bind fun i =>
   (Bm e).bind fun j =>
   (Bm f).bind fun k =>
   (Bm i).bind fun l =>
   (Gx ([j,k,l] : List Api_Value)).bind fun d =>
   if Fb (c.length + 1) 64 then
    lt1 (c ++ ([(Api_Value.mk d.Za d.N ([]) d.L)] : List Api_Value)) fun (m : List Api_Value) =>
    some (.inl ((w64 (a + 1)),m))
   else none
  else none
 else
  some (.inr c)
def Kd (a : Api_Item) : Option (Api_Value) :=
 (Bm a.Za).bind fun s =>
 (Bm a.Ref.Zb).bind fun t =>
 (Bm a.Ref.No).bind fun u =>
 (Gx ([t,u] : List Api_Value)).bind fun b =>
 lt1 ([s,(Api_Value.mk b.Za b.N ([]) b.L)] : List Api_Value) fun (d : List Api_Value) =>
 ((Bm a.Zn1).bind fun w =>
 if Fb (d.length + 1) 64 then
  lt1 (d ++ ([w] : List Api_Value)) fun (e : List Api_Value) =>
  (Bm a.Zb1).bind fun x =>
  if Fb (e.length + 1) 64 then
   lt1 (e ++ ([x] : List Api_Value)) fun (f : List Api_Value) =>
   (Bm a.Zc).bind fun y =>
   if Fb (f.length + 1) 64 then
    lt1 (f ++ ([y] : List Api_Value)) fun (g : List Api_Value) =>
    (Bm a.Zo1).bind fun z =>
    if Fb (g.length + 1) 64 then
     lt1 (g ++ ([z] : List Api_Value)) fun (i : List Api_Value) =>
     (Bm a.Zw).bind fun aa =>
     if Fb (i.length + 1) 64 then
      lt1 (i ++ ([aa] : List Api_Value)) fun (j : List Api_Value) =>
      (Bm a.To).bind fun ab =>
      if Fb (j.length + 1) 64 then
       lt1 (j ++ ([ab] : List Api_Value)) fun (k : List Api_Value) =>
       (Bm a.Code).bind fun ac =>
       if Fb (k.length + 1) 64 then
        lt1 (k ++ ([ac] : List Api_Value)) fun (l : List Api_Value) =>
        (Bm a.Zp1).bind fun ad =>
        if Fb (l.length + 1) 64 then
         lt1 (l ++ ([ad] : List Api_Value)) fun (m : List Api_Value) =>
         (Bm a.Zq1).bind fun ae =>
         if Fb (m.length + 1) 64 then
          lt1 (m ++ ([ae] : List Api_Value)) fun (n : List Api_Value) =>
          (Bm a.Zr1).bind fun af =>
          if Fb (n.length + 1) 64 then
           lt1 (n ++ ([af] : List Api_Value)) fun (o : List Api_Value) =>
           (Bm a.Zs1).bind fun ag =>
           if Fb (o.length + 1) 64 then
            lt1 (o ++ ([ag] : List Api_Value)) fun (ah : List Api_Value) =>
            some ah
           else none
          else none
         else none
        else none
       else none
      else none
     else none
    else none
   else none
  else none
 else none : Option (List Api_Value)).bind fun p =>
 edi_list_cnil.bind fun q =>
 ((A6 (fun (v : Int×List Api_Value) => Gi a v.1 v.2) (0,[])).bind fun ai =>
 some ai : Option (List Api_Value)).bind fun aj =>
 (Us a.Zt1).bind fun ak =>
 if Fb (p.length + 2) 64 then
  (K7 (p ++ ([ak,(Api_Value.mk q.Za q.N ([]) aj)] : List Api_Value))).bind fun c =>
  lt1 c.L fun (al : List Api_Value) =>
  some (Api_Value.mk c.Za c.N ([]) al)
 else none
def Gr (a : Api_Record) : Option (List Api_Value) :=
 (I9 a.Zb).bind fun b =>
 (I9 a.No).bind fun c =>
 (O8 a.Zv1.l).bind fun d =>
 (I9 a.Zw1).bind fun e =>
 (Kd a.Zx1).bind fun f =>
 lt1 ([b,c,d,e,f] : List Api_Value) fun (g : List Api_Value) =>
 some g
def Gl (c : UInt64) (d : List UInt8) (a : Int) (b : List UInt8) : Option ((Int×List UInt8) ⊕ (List UInt8)) :=
 if (decide (a < (d.length : Int))) = true then
  if H5 (w64 (56 - (w64 (8 * a)))) then
   if InR a b.length then
    lt1 (b.set a.toNat ((Gb c ((w64 (56 - (w64 (8 * a)))).toNat)).toUInt8)) fun (e : List UInt8) =>
    some (.inl ((w64 (a + 1)),e))
   else none
  else none
 else
  some (.inr b)
def L0 (b : UInt64) : Option (Api_Value) :=
 if Mk 8 8 1 then
  lt1 (List.replicate 8 (0 : UInt8)) fun (a : List UInt8) =>
  ((A6 (fun (v : Int×List UInt8) => Gl b a v.1 v.2) (0,a)).bind fun c =>
  some c : Option (List UInt8)).bind fun d =>
  (O8 d).bind fun e =>
  some e
 else none
def Om (a : List Api_Value) : Option (Api_Value) :=
 some (Api_Value.mk 3 0 ([]) a)
def Df (b : Api_Value) (rec_ : Api_Value→Option (Int×Bool)) (c : Int) (a : Int) : Option ((Int×Int) ⊕ ((Int) ⊕ ((Int) ⊕ ((Unit) ⊕ (Int×Bool))))) :=
 if (decide (a < (b.L.length : Int))) = true then
  if InR a b.L.length then
   lt1 ((nth b.L a.toNat).Za) fun (e : Int) =>
   lt1 ((nth b.L a.toNat).N) fun (f : Int) =>
   lt1 ((nth b.L a.toNat).B) fun (g : List UInt8) =>
   lt1 ((nth b.L a.toNat).L) fun (i : List Api_Value) =>
   (rec_ (Api_Value.mk e f g i)).bind fun d =>
   if (!d.2) = true then
    (((some (0,false)).bind fun j => some (.inr j)).bind fun k => some (.inr k)).bind fun l => some (.inr (.inr l))
   else
    some (.inl ((Ty c d.1),(w64 (a + 1))))
  else none
 else
  some (.inr (.inl c))
def Hu (rec_ : Api_Value→Option (Int×Bool)) (a : Api_Value) : Option (Int×Bool) :=
 (if (a.Za == 1) = true then
  (if ((a.B.length : Int) == 0) = true then
   some ((a.L.length : Int) == 0)
  else
   some false : Option (Bool)).bind fun b =>
  (some (0,b)).bind fun c => some (.inr c)
 else
  if (a.Za == 2) = true then
   (if (a.N == 0) = true then
    some ((a.L.length : Int) == 0)
   else
    some false : Option (Bool)).bind fun d =>
   (some (0,d)).bind fun e => some (.inr e)
  else
   if (a.Za == 3) = true then
    (if (a.N != 0) = true then
     some true
    else
     some ((a.B.length : Int) != 0) : Option (Bool)).bind fun f =>
    if f = true then
     (some (0,false)).bind fun g => some (.inr g)
    else
     ((A6 (fun (v : Int×Int) => Df a rec_ v.1 v.2) (0,0)).bind fun x => match x with
     | .inl i =>
      some (.inl i)
     | .inr z => some z : Option ((Int) ⊕ ((Unit) ⊕ (Int×Bool)))).bind fun x => match x with
     | .inl j =>
      (some ((w64 (j + 1)),true)).bind fun k => some (.inr k)
     | .inr z => some z
   else
    some (.inl ()) : Option ((Unit) ⊕ (Int×Bool))).bind fun x => match x with
 | .inl () =>
  some (0,false)
 | .inr z => some z
def Gt (n : Nat) : Api_Value→Option (Int×Bool):=match n with
 | 0 => fun _ => none
 | n + 1 => Hu (Gt n)
def P9 (a : Api_Value) : Option (Int×Bool):=Gt 18446744073709551616 a
def B2 (a : UInt64) (b : Int) : Option ((UInt64×Int) ⊕ (Int)) :=
 if (decide (a > (0 : UInt64))) = true then
  lt1 (Gb a (8 : UInt64).toNat) fun (c : UInt64) =>
  some (.inl (c,(w64 (b + 1))))
 else
  some (.inr b)
def Da (a : UInt64) : Option (Int) :=
 ((A6 (fun (v : UInt64×Int) => B2 v.1 v.2) (a,0)).bind fun b =>
 some b : Option (Int)).bind fun c =>
 some c
def B3 (d : Int) (b : Int) (a : Int) (c : List UInt8) : Option ((Int×List UInt8) ⊕ (List UInt8)) :=
 if (decide (a < b)) = true then
  if H5 (w64 (8 * (w64 ((w64 (b - 1)) - a)))) then
   if Fb (c.length + 1) 1 then
    lt1 (c ++ ([(Gb (UInt64.ofInt d) ((w64 (8 * (w64 ((w64 (b - 1)) - a)))).toNat)).toUInt8] : List UInt8)) fun (e : List UInt8) =>
    some (.inl ((w64 (a + 1)),e))
   else none
  else none
 else
  some (.inr c)
def F7 (b : List UInt8) (a : Int) : Option (List UInt8) :=
 (Da (UInt64.ofInt a)).bind fun c =>
 lt1 (UInt8.ofInt (w64 (32 + c))) fun (e : UInt8) =>
 (if (decide (a < 0)) = true then
  (Da (~~~(UInt64.ofInt a))).bind fun d =>
  lt1 (UInt8.ofInt (w64 (31 - d))) fun (f : UInt8) =>
  some (d,f)
 else
  some (c,e) : Option (Int×UInt8)).bind fun (g,i) =>
 if Fb (b.length + 1) 1 then
  lt1 (b ++ ([i] : List UInt8)) fun (j : List UInt8) =>
  ((A6 (fun (v : Int×List UInt8) => B3 a g v.1 v.2) (0,j)).bind fun k =>
  some k : Option (List UInt8)).bind fun l =>
  some l
 else none
def Bq (b : Api_Value) (a : Int) (c : List UInt8) : Option ((Int×List UInt8) ⊕ (List UInt8)) :=
 if (decide (a < (b.B.length : Int))) = true then
  (if InR a b.B.length then
   if Fb (c.length + 1) 1 then
    lt1 (c ++ ([nth b.B a.toNat] : List UInt8)) fun (d : List UInt8) =>
    if (nth b.B a.toNat == (0 : UInt8)) = true then
     if Fb (d.length + 1) 1 then
      lt1 (d ++ ([(255 : UInt8)] : List UInt8)) fun (e : List UInt8) =>
      some e
     else none
    else
     some d
   else none
  else none : Option (List UInt8)).bind fun f =>
  some (.inl ((w64 (a + 1)),f))
 else
  some (.inr c)
def Bp (b : Api_Value) (rec_ : (List UInt8)→Api_Value→Option (List UInt8)) (a : Int) (c : List UInt8) : Option ((Int×List UInt8) ⊕ (List UInt8)) :=
 if (decide (a < (b.L.length : Int))) = true then
  if InR a b.L.length then
   lt1 ((nth b.L a.toNat).Za) fun (d : Int) =>
   lt1 ((nth b.L a.toNat).N) fun (e : Int) =>
   lt1 ((nth b.L a.toNat).B) fun (f : List UInt8) =>
   lt1 ((nth b.L a.toNat).L) fun (g : List Api_Value) =>
   (rec_ c (Api_Value.mk d e f g)).bind fun i =>
   some (.inl ((w64 (a + 1)),i))
  else none
 else
  some (.inr c)
def Ed (rec_ : (List UInt8)→Api_Value→Option (List UInt8)) (a : List UInt8) (b : Api_Value) : Option (List UInt8) :=
 (if (b.Za == 1) = true then
  (F7 a b.N).bind fun e =>
  (some e).bind fun f => some (.inr f)
 else
  if (b.Za == 2) = true then
   if Fb (a.length + 1) 1 then
    lt1 (a ++ ([(48 : UInt8)] : List UInt8)) fun (g : List UInt8) =>
    ((A6 (fun (v : Int×List UInt8) => Bq b v.1 v.2) (0,g)).bind fun i =>
    some i : Option (List UInt8)).bind fun c =>
    if Fb (c.length + 2) 1 then
     lt1 (c ++ ([(0 : UInt8),(0 : UInt8)] : List UInt8)) fun (j : List UInt8) =>
     (some j).bind fun k => some (.inr k)
    else none
   else none
  else
   some (.inl ()) : Option ((Unit) ⊕ (List UInt8))).bind fun x => match x with
 | .inl () =>
  if Fb (a.length + 1) 1 then
   lt1 (a ++ ([(64 : UInt8)] : List UInt8)) fun (l : List UInt8) =>
   ((A6 (fun (v : Int×List UInt8) => Bp b rec_ v.1 v.2) (0,l)).bind fun m =>
   some m : Option (List UInt8)).bind fun d =>
   if Fb (d.length + 1) 1 then
    lt1 (d ++ ([(0 : UInt8)] : List UInt8)) fun (n : List UInt8) =>
    some n
   else none
  else none
 | .inr z => some z
def Dc (n : Nat) : (List UInt8)→Api_Value→Option (List UInt8):=match n with
 | 0 => fun _ _ => none
 | n + 1 => Ed (Dc n)
def Im (a : List UInt8) (b : Api_Value) : Option (List UInt8):=Dc 18446744073709551616 a b
def Hh (a : Api_Value) : Option (List UInt8×Int) :=
 (P9 a).bind fun b =>
 if (!b.2) = true then
  some ([],10)
 else
  if (decide (b.1 > 16)) = true then
   some ([],2)
  else
   (Im ([]) a).bind fun c =>
   if (decide ((c.length : Int) > 65536)) = true then
    some ([],2)
   else
    some (c,0)
def Kr (a : Api_Record) : Option (List UInt8×Int) :=
 (Gr a).bind fun b =>
 (L0 a.Sig.C).bind fun d =>
 (L0 a.Sig.S).bind fun e =>
 (Om ([d,e] : List Api_Value)).bind fun f =>
 if Fb (b.length + 1) 64 then
  (Om (b ++ ([f] : List Api_Value))).bind fun g =>
  (Hh g).bind fun c =>
  some (c.1,c.2)
 else none
def Ba (a : UInt32) (c : Int) : Option (UInt32) :=
 lt1 ((UInt64.ofInt c) &&& (31 : UInt64)) fun (b : UInt64) =>
 lt1 ((Agt a b.toNat) ||| (Acp a ((32 : UInt64) - b).toNat)) fun (d : UInt32) =>
 some d
def F5 (b : List UInt8) (a : Int) (c : Arr UInt32 64) : Option ((Int×Arr UInt32 64) ⊕ (Arr UInt32 64)) :=
 if (decide (a < 16)) = true then
  if InR (w64 (4 * a)) b.length then
   if InR (w64 ((w64 (4 * a)) + 1)) b.length then
    if InR (w64 ((w64 (4 * a)) + 2)) b.length then
     if InR (w64 ((w64 (4 * a)) + 3)) b.length then
      if InR a 64 then
       lt1 (c.set a.toNat ((((Agt ((nth b ((w64 (4 * a)).toNat)).toUInt32) (24 : UInt64).toNat) ||| (Agt ((nth b ((w64 ((w64 (4 * a)) + 1)).toNat)).toUInt32) (16 : UInt64).toNat)) ||| (Agt ((nth b ((w64 ((w64 (4 * a)) + 2)).toNat)).toUInt32) (8 : UInt64).toNat)) ||| (nth b ((w64 ((w64 (4 * a)) + 3)).toNat)).toUInt32)) fun (d : Arr UInt32 64) =>
       some (.inl ((w64 (a + 1)),d))
      else none
     else none
    else none
   else none
  else none
 else
  some (.inr c)
def Ga (a : Int) (b : Arr UInt32 64) : Option ((Int×Arr UInt32 64) ⊕ (Arr UInt32 64)) :=
 if (decide (a < 64)) = true then
  if InR (w64 (a - 15)) 64 then
   if InR (w64 (a - 2)) 64 then
    lt1 (b.get ((w64 (a - 15)).toNat)) fun (c : UInt32) =>
    lt1 (b.get ((w64 (a - 2)).toNat)) fun (d : UInt32) =>
    (Ba c (-7)).bind fun e =>
    (Ba c (-18)).bind fun f =>
    lt1 ((e ^^^ f) ^^^ (Acp c (3 : UInt64).toNat)) fun (s0_5401 : UInt32) =>
    (Ba d (-17)).bind fun g =>
    (Ba d (-19)).bind fun i =>
    lt1 ((g ^^^ i) ^^^ (Acp d (10 : UInt64).toNat)) fun (s1_5407 : UInt32) =>
    if InR (w64 (a - 16)) 64 then
     if InR (w64 (a - 7)) 64 then
      if InR a 64 then
       lt1 (b.set a.toNat ((((b.get ((w64 (a - 16)).toNat)) + s0_5401) + (b.get ((w64 (a - 7)).toNat))) + s1_5407)) fun (j : Arr UInt32 64) =>
       some (.inl ((w64 (a + 1)),j))
      else none
     else none
    else none
   else none
  else none
 else
  some (.inr b)
def F8 (d : Arr UInt32 64) (b : Int) (a : Arr UInt32 8) : Option ((Int×Arr UInt32 8) ⊕ (Arr UInt32 8)) :=
 if (decide (b < 64)) = true then
  (Ba (a.get 4) (-6)).bind fun e =>
  (Ba (a.get 4) (-11)).bind fun f =>
  (Ba (a.get 4) (-25)).bind fun g =>
  if InR b 64 then
   if InR b 64 then
    lt1 (((((a.get 7) + ((e ^^^ f) ^^^ g)) + (((a.get 4) &&& (a.get 5)) ^^^ ((~~~(a.get 4)) &&& (a.get 6)))) + (glob2.get b.toNat)) + (d.get b.toNat)) fun (c : UInt32) =>
    (Ba (a.get 0) (-2)).bind fun i =>
    (Ba (a.get 0) (-13)).bind fun j =>
    (Ba (a.get 0) (-22)).bind fun k =>
    lt1 (((i ^^^ j) ^^^ k) + ((((a.get 0) &&& (a.get 1)) ^^^ ((a.get 0) &&& (a.get 2))) ^^^ ((a.get 1) &&& (a.get 2)))) fun (l : UInt32) =>
    lt1 (⟨[(c + l),(a.get 0),(a.get 1),(a.get 2),((a.get 3) + c),(a.get 4),(a.get 5),(a.get 6)],rfl⟩ : Arr UInt32 8) fun (m : Arr UInt32 8) =>
    some (.inl ((w64 (b + 1)),m))
   else none
  else none
 else
  some (.inr a)
def F3 (c : Arr UInt32 8) (a : Int) (b : Arr UInt32 8) : Option ((Int×Arr UInt32 8) ⊕ (Arr UInt32 8)) :=
 if (decide (a < 8)) = true then
  if InR a 8 then
   if InR a 8 then
    if InR a 8 then
     lt1 (b.set a.toNat ((b.get a.toNat) + (c.get a.toNat))) fun (d : Arr UInt32 8) =>
     some (.inl ((w64 (a + 1)),d))
    else none
   else none
  else none
 else
  some (.inr b)
def Jh (a : Arr UInt32 8) (b : List UInt8) : Option (Arr UInt32 8) :=
 ((A6 (fun (v : Int×Arr UInt32 64) => F5 b v.1 v.2) (0,(Arr.rep 64 (0 : UInt32)))).bind fun c =>
 some c : Option (Arr UInt32 64)).bind fun d =>
 ((A6 (fun (v : Int×Arr UInt32 64) => Ga v.1 v.2) (16,d)).bind fun e =>
 some e : Option (Arr UInt32 64)).bind fun f =>
 ((A6 (fun (v : Int×Arr UInt32 8) => F8 f v.1 v.2) (0,a)).bind fun g =>
 some g : Option (Arr UInt32 8)).bind fun i =>
 ((A6 (fun (v : Int×Arr UInt32 8) => F3 i v.1 v.2) (0,a)).bind fun j =>
 some j : Option (Arr UInt32 8)).bind fun k =>
 some k
def Gq (b : List (List UInt8)) (a : Int) (c : List UInt8) : Option ((Int×List UInt8) ⊕ (List UInt8)) :=
 if (decide (a < (b.length : Int))) = true then
  if InR a b.length then
   lt1 (nth b a.toNat) fun (d : List UInt8) =>
   if Fb (c.length + d.length) 1 then
    lt1 (c ++ d) fun (e : List UInt8) =>
    some (.inl ((w64 (a + 1)),e))
   else none
  else none
 else
  some (.inr c)
def Hv (a : List UInt8) : Option ((List UInt8) ⊕ (List UInt8)) :=
 if ((((a.length : Int) : Int).tmod 64) != 56) = true then
  if Fb (a.length + 1) 1 then
   lt1 (a ++ ([(0 : UInt8)] : List UInt8)) fun (b : List UInt8) =>
   some (.inl b)
  else none
 else
  some (.inr a)
def Gy (c : UInt64) (a : Int) (b : List UInt8) : Option ((Int×List UInt8) ⊕ (List UInt8)) :=
 if (decide (a ≥ 0)) = true then
  if H5 a then
   if Fb (b.length + 1) 1 then
    lt1 (b ++ ([(Gb c a.toNat).toUInt8] : List UInt8)) fun (d : List UInt8) =>
    some (.inl ((w64 (a - 8)),d))
   else none
  else none
 else
  some (.inr b)
def Ht (d : List UInt8) (b : Nat) (a : Nat) (c : Arr UInt32 8) : Option ((Nat×Nat×Arr UInt32 8) ⊕ (Arr UInt32 8)) :=
 if (decide ((a : Int) > 0)) = true then
  if InB 64 a then
   (Jh c ((d.drop b).take 64)).bind fun e =>
   if InB 64 a then
    some (.inl ((b + 64),(a - 64),e))
   else none
  else none
 else
  some (.inr c)
def Hz (c : Arr UInt32 8) (a : Int) (b : Arr UInt8 32) : Option ((Int×Arr UInt8 32) ⊕ (Arr UInt8 32)) :=
 if (decide (a < 32)) = true then
  if InR (w64 ((a : Int).tdiv 4)) 8 then
   if H5 (w64 (24 - (w64 (8 * ((a : Int).tmod 4))))) then
    if InR a 32 then
     lt1 (b.set a.toNat ((Acp (c.get ((w64 ((a : Int).tdiv 4)).toNat)) ((w64 (24 - (w64 (8 * ((a : Int).tmod 4))))).toNat)).toUInt8)) fun (d : Arr UInt8 32) =>
     some (.inl ((w64 (a + 1)),d))
    else none
   else none
  else none
 else
  some (.inr b)
def L9 (c : List (List UInt8)) : Option (Arr UInt8 32) :=
 ((A6 (fun (v : Int×List UInt8) => Gq c v.1 v.2) (0,[])).bind fun d =>
 some d : Option (List UInt8)).bind fun a =>
 lt1 ((UInt64.ofInt (a.length : Int)) * (8 : UInt64)) fun (e : UInt64) =>
 if Fb (a.length + 1) 1 then
  lt1 (a ++ ([(128 : UInt8)] : List UInt8)) fun (f : List UInt8) =>
  ((A6 (fun (v : List UInt8) => Hv v) f).bind fun g =>
  some g : Option (List UInt8)).bind fun i =>
  ((A6 (fun (v : Int×List UInt8) => Gy e v.1 v.2) (56,i)).bind fun j =>
  some j : Option (List UInt8)).bind fun b =>
  lt1 (⟨[(1779033703 : UInt32),(3144134277 : UInt32),(1013904242 : UInt32),(2773480762 : UInt32),(1359893119 : UInt32),(2600822924 : UInt32),(528734635 : UInt32),(1541459225 : UInt32)],rfl⟩ : Arr UInt32 8) fun (k : Arr UInt32 8) =>
  ((A6 (fun (v : Nat×Nat×Arr UInt32 8) => Ht b v.1 v.2.1 v.2.2) (0,b.length,k)).bind fun l =>
  some l : Option (Arr UInt32 8)).bind fun m =>
  ((A6 (fun (v : Int×Arr UInt8 32) => Hz m v.1 v.2) (0,(Arr.rep 32 (0 : UInt8)))).bind fun n =>
  some n : Option (Arr UInt8 32)).bind fun o =>
  some o
 else none
def Ek (a : List UInt8) (c : List UInt8) : Option (Arr UInt8 32) :=
 if InB (Abl (a.length : Int) 255) a.length then
  lt1 (a.take ((Abl (a.length : Int) 255).toNat)) fun (b : List UInt8) =>
  (L9 ([([(UInt8.ofInt (b.length : Int))] : List UInt8),b,c] : List (List UInt8))).bind fun d =>
  some d
 else none
def Eo (b : Api_Record) : Option (Arr UInt8 32×Int) :=
 (Kr b).bind fun a =>
 if (a.2 != 0) = true then
  some ((Arr.rep 32 (0 : UInt8)),a.2)
 else
  (Ek ([114,101,99,111,114,100] : List UInt8) a.1).bind fun c =>
  some (c,0)
def I6 (b : Api_Record) : Option (List UInt8×Int) :=
 (Gr b).bind fun c =>
 (Om c).bind fun d =>
 (Hh d).bind fun a =>
 some (a.1,a.2)
def Fp (c : UInt64) (a : Int) (b : List UInt8) : Option ((Int×List UInt8) ⊕ (List UInt8)) :=
 if (decide (a < 8)) = true then
  if H5 (w64 (56 - (w64 (8 * a)))) then
   if Fb (b.length + 1) 1 then
    lt1 (b ++ ([(Gb c ((w64 (56 - (w64 (8 * a)))).toNat)).toUInt8] : List UInt8)) fun (d : List UInt8) =>
    some (.inl ((w64 (a + 1)),d))
   else none
  else none
 else
  some (.inr b)
def Fu (b : List UInt64) (a : Int) (c : List UInt8) : Option ((Int×List UInt8) ⊕ (List UInt8)) :=
 if (decide (a < (b.length : Int))) = true then
  (if InR a b.length then
   lt1 (nth b a.toNat) fun (d : UInt64) =>
   (A6 (fun (v : Int×List UInt8) => Fp d v.1 v.2) (0,c)).bind fun e =>
   some e
  else none : Option (List UInt8)).bind fun f =>
  some (.inl ((w64 (a + 1)),f))
 else
  some (.inr c)
def Iw (a : List UInt8) (b : List UInt64) : Option (List UInt8) :=
 if Mk 0 (w64 ((w64 (8 * (b.length : Int))) + (a.length : Int))) 1 then
  lt1 (List.replicate 0 (0 : UInt8)) fun (d : List UInt8) =>
  ((A6 (fun (v : Int×List UInt8) => Fu b v.1 v.2) (0,d)).bind fun e =>
  some e : Option (List UInt8)).bind fun c =>
  if Fb (c.length + a.length) 1 then
   lt1 (c ++ a) fun (f : List UInt8) =>
   some f
  else none
 else none
def Ei (b : Arr UInt8 32) (c : UInt64) (a : Int) : Option ((UInt64×Int) ⊕ (UInt64)) :=
 if (decide (a < ((b.l.take 8).length : Int))) = true then
  if InR a ((b.l.take 8).length) then
   lt1 (nth (b.l.take 8) a.toNat) fun (d : UInt8) =>
   lt1 ((Tj c (8 : UInt64).toNat) ||| d.toUInt64) fun (e : UInt64) =>
   some (.inl (e,(w64 (a + 1))))
  else none
 else
  some (.inr c)
def Gp (a : Arr UInt8 32) : Option (UInt64) :=
 ((A6 (fun (v : UInt64×Int) => Ei a v.1 v.2) ((0 : UInt64),0)).bind fun b =>
 some b : Option (UInt64)).bind fun c =>
 some c
def Fi (a : UInt64) (b : UInt64) (c : List UInt8) : Option (UInt64) :=
 (Iw c ([a,b] : List UInt64)).bind fun d =>
 (Ek ([99,104,97,108,108,101,110,103,101] : List UInt8) d).bind fun e =>
 (Gp e).bind fun f =>
 some (f % (1152921504606845399 : UInt64))
def Kg (a : UInt64) (b : List UInt8) : Option (Api_Sig×Int) :=
 (Ij a).bind fun c =>
 if (c.2 != 0) = true then
  some (({ C:=(0 : UInt64),S:=(0 : UInt64) } : Api_Sig),c.2)
 else
  if (decide ((b.length : Int) > 65536)) = true then
   some (({ C:=(0 : UInt64),S:=(0 : UInt64) } : Api_Sig),2)
  else
   (Iw b ([a] : List UInt64)).bind fun f =>
   (Ek ([110,111,110,99,101] : List UInt8) f).bind fun g =>
   (Gp g).bind fun i =>
   lt1 ((i % (1152921504606845398 : UInt64)) + (1 : UInt64)) fun (d : UInt64) =>
   (Jt (4 : UInt64) d).bind fun j =>
   (Fi j c.1 b).bind fun e =>
   (Hd (1152921504606845399 : UInt64)).bind fun k =>
   (Dg e a k).bind fun l =>
   lt1 ((d + l.1) % (1152921504606845399 : UInt64)) fun (m : UInt64) =>
   some (({ C:=e,S:=m } : Api_Sig),0)
def Jq (a : Api_Item) : Option (Bool) :=
 if ((a.Ref.Zb == 0) && (a.Ref.No == 0)) = true then
  some (a.Za != 14)
 else
  (if (decide (a.Ref.Zb ≥ 0)) = true then
   if (decide (a.Ref.Zb < 16)) = true then
    if (decide (a.Ref.No ≥ 1)) = true then
     some (decide (a.Ref.No≤4096))
    else
     some false
   else
    some false
  else
   some false : Option (Bool)).bind fun b =>
  some b
def Dl (a : Edi_checker) (b : Int) (c : Int) : Option (Edi_checker) :=
 (if a.ok = true then
  if (decide (b≤a.it.Zn1)) = true then
   some (decide (a.it.Zn1≤c))
  else
   some false
 else
  some false : Option (Bool)).bind fun d =>
 some ({ p:=a.p,it:=({ Za:=a.it.Za,Ref:=a.it.Ref,Zn1:=0,Zb1:=a.it.Zb1,Zc:=a.it.Zc,Zo1:=a.it.Zo1,Zw:=a.it.Zw,To:=a.it.To,Code:=a.it.Code,Zp1:=a.it.Zp1,Zq1:=a.it.Zq1,Zr1:=a.it.Zr1,Zs1:=a.it.Zs1,Zt1:=a.it.Zt1,Zu1:=a.it.Zu1 } : Api_Item),ok:=d } : Edi_checker)
def B8 (a : Edi_checker) (b : Int) (c : Int) : Option (Edi_checker) :=
 (if a.ok = true then
  if (decide (b≤a.it.Zc)) = true then
   some (decide (a.it.Zc≤c))
  else
   some false
 else
  some false : Option (Bool)).bind fun d =>
 some ({ p:=a.p,it:=({ Za:=a.it.Za,Ref:=a.it.Ref,Zn1:=a.it.Zn1,Zb1:=a.it.Zb1,Zc:=0,Zo1:=a.it.Zo1,Zw:=a.it.Zw,To:=a.it.To,Code:=a.it.Code,Zp1:=a.it.Zp1,Zq1:=a.it.Zq1,Zr1:=a.it.Zr1,Zs1:=a.it.Zs1,Zt1:=a.it.Zt1,Zu1:=a.it.Zu1 } : Api_Item),ok:=d } : Edi_checker)
def B7 (a : Edi_checker) (b : Int) (c : Int) : Option (Edi_checker) :=
 (if a.ok = true then
  if (decide (b≤a.it.Zo1)) = true then
   some (decide (a.it.Zo1≤c))
  else
   some false
 else
  some false : Option (Bool)).bind fun d =>
 some ({ p:=a.p,it:=({ Za:=a.it.Za,Ref:=a.it.Ref,Zn1:=a.it.Zn1,Zb1:=a.it.Zb1,Zc:=a.it.Zc,Zo1:=0,Zw:=a.it.Zw,To:=a.it.To,Code:=a.it.Code,Zp1:=a.it.Zp1,Zq1:=a.it.Zq1,Zr1:=a.it.Zr1,Zs1:=a.it.Zs1,Zt1:=a.it.Zt1,Zu1:=a.it.Zu1 } : Api_Item),ok:=d } : Edi_checker)
def Dm (a : Edi_checker) (b : Int) (c : Int) : Option (Edi_checker) :=
 (if a.ok = true then
  if (decide (b≤a.it.Zw)) = true then
   some (decide (a.it.Zw≤c))
  else
   some false
 else
  some false : Option (Bool)).bind fun d =>
 some ({ p:=a.p,it:=({ Za:=a.it.Za,Ref:=a.it.Ref,Zn1:=a.it.Zn1,Zb1:=a.it.Zb1,Zc:=a.it.Zc,Zo1:=a.it.Zo1,Zw:=0,To:=a.it.To,Code:=a.it.Code,Zp1:=a.it.Zp1,Zq1:=a.it.Zq1,Zr1:=a.it.Zr1,Zs1:=a.it.Zs1,Zt1:=a.it.Zt1,Zu1:=a.it.Zu1 } : Api_Item),ok:=d } : Edi_checker)
def Do (a : Edi_checker) (b : Int) (c : Int) : Option (Edi_checker) :=
 (if a.ok = true then
  if (decide (b≤a.it.To)) = true then
   some (decide (a.it.To≤c))
  else
   some false
 else
  some false : Option (Bool)).bind fun d =>
 some ({ p:=a.p,it:=({ Za:=a.it.Za,Ref:=a.it.Ref,Zn1:=a.it.Zn1,Zb1:=a.it.Zb1,Zc:=a.it.Zc,Zo1:=a.it.Zo1,Zw:=a.it.Zw,To:=0,Code:=a.it.Code,Zp1:=a.it.Zp1,Zq1:=a.it.Zq1,Zr1:=a.it.Zr1,Zs1:=a.it.Zs1,Zt1:=a.it.Zt1,Zu1:=a.it.Zu1 } : Api_Item),ok:=d } : Edi_checker)
def Bu (a : Edi_checker) (b : Int) (c : Int) : Option (Edi_checker) :=
 (if a.ok = true then
  if (decide (b≤a.it.Code)) = true then
   some (decide (a.it.Code≤c))
  else
   some false
 else
  some false : Option (Bool)).bind fun d =>
 some ({ p:=a.p,it:=({ Za:=a.it.Za,Ref:=a.it.Ref,Zn1:=a.it.Zn1,Zb1:=a.it.Zb1,Zc:=a.it.Zc,Zo1:=a.it.Zo1,Zw:=a.it.Zw,To:=a.it.To,Code:=0,Zp1:=a.it.Zp1,Zq1:=a.it.Zq1,Zr1:=a.it.Zr1,Zs1:=a.it.Zs1,Zt1:=a.it.Zt1,Zu1:=a.it.Zu1 } : Api_Item),ok:=d } : Edi_checker)
def Di (a : Edi_checker) (b : Int) (c : Int) : Option (Edi_checker) :=
 (if a.ok = true then
  if (decide (b≤a.it.Zp1)) = true then
   some (decide (a.it.Zp1≤c))
  else
   some false
 else
  some false : Option (Bool)).bind fun d =>
 some ({ p:=a.p,it:=({ Za:=a.it.Za,Ref:=a.it.Ref,Zn1:=a.it.Zn1,Zb1:=a.it.Zb1,Zc:=a.it.Zc,Zo1:=a.it.Zo1,Zw:=a.it.Zw,To:=a.it.To,Code:=a.it.Code,Zp1:=0,Zq1:=a.it.Zq1,Zr1:=a.it.Zr1,Zs1:=a.it.Zs1,Zt1:=a.it.Zt1,Zu1:=a.it.Zu1 } : Api_Item),ok:=d } : Edi_checker)
def Dk (a : Edi_checker) (b : Int) (c : Int) : Option (Edi_checker) :=
 (if a.ok = true then
  if (decide (b≤a.it.Zq1)) = true then
   some (decide (a.it.Zq1≤c))
  else
   some false
 else
  some false : Option (Bool)).bind fun d =>
 some ({ p:=a.p,it:=({ Za:=a.it.Za,Ref:=a.it.Ref,Zn1:=a.it.Zn1,Zb1:=a.it.Zb1,Zc:=a.it.Zc,Zo1:=a.it.Zo1,Zw:=a.it.Zw,To:=a.it.To,Code:=a.it.Code,Zp1:=a.it.Zp1,Zq1:=0,Zr1:=a.it.Zr1,Zs1:=a.it.Zs1,Zt1:=a.it.Zt1,Zu1:=a.it.Zu1 } : Api_Item),ok:=d } : Edi_checker)
def Cu (a : Edi_checker) (b : Int) (c : Int) : Option (Edi_checker) :=
 (if a.ok = true then
  if (decide (b≤a.it.Zr1)) = true then
   some (decide (a.it.Zr1≤c))
  else
   some false
 else
  some false : Option (Bool)).bind fun d =>
 some ({ p:=a.p,it:=({ Za:=a.it.Za,Ref:=a.it.Ref,Zn1:=a.it.Zn1,Zb1:=a.it.Zb1,Zc:=a.it.Zc,Zo1:=a.it.Zo1,Zw:=a.it.Zw,To:=a.it.To,Code:=a.it.Code,Zp1:=a.it.Zp1,Zq1:=a.it.Zq1,Zr1:=0,Zs1:=a.it.Zs1,Zt1:=a.it.Zt1,Zu1:=a.it.Zu1 } : Api_Item),ok:=d } : Edi_checker)
def Cp (a : Edi_checker) (b : Int) (c : Int) : Option (Edi_checker) :=
 (if a.ok = true then
  if (decide (b≤a.it.Zs1)) = true then
   some (decide (a.it.Zs1≤c))
  else
   some false
 else
  some false : Option (Bool)).bind fun d =>
 some ({ p:=a.p,it:=({ Za:=a.it.Za,Ref:=a.it.Ref,Zn1:=a.it.Zn1,Zb1:=a.it.Zb1,Zc:=a.it.Zc,Zo1:=a.it.Zo1,Zw:=a.it.Zw,To:=a.it.To,Code:=a.it.Code,Zp1:=a.it.Zp1,Zq1:=a.it.Zq1,Zr1:=a.it.Zr1,Zs1:=0,Zt1:=a.it.Zt1,Zu1:=a.it.Zu1 } : Api_Item),ok:=d } : Edi_checker)
def Db (a : Edi_checker) : Option (Edi_checker) :=
 (Dl a 0 (w64 ((a.p.Zh1.Zy.length : Int) - 1))).bind fun b =>
 some b
def Bw (a : Edi_checker) : Option (Edi_checker) :=
 (Dm a 0 1073741824).bind fun b =>
 some b
def B1 (a : Edi_checker) (c : Int) : Option (Api_Place×Edi_checker) :=
 ((if (decide (a.it.Zb1 ≥ 0)) = true then
  some (decide (a.it.Zb1 < (a.p.Zg1.Ze.length : Int)))
 else
  some false : Option (Bool)).bind fun d =>
 if d = true then
  if InR a.it.Zb1 a.p.Zg1.Ze.length then
   lt1 ((nth a.p.Zg1.Ze a.it.Zb1.toNat).Za) fun (e : Int) =>
   lt1 ((nth a.p.Zg1.Ze a.it.Zb1.toNat).Zb) fun (f : Int) =>
   lt1 ((nth a.p.Zg1.Ze a.it.Zb1.toNat).Zc) fun (g : Int) =>
   some (e,f,g)
  else none
 else
  some (0,0,0) : Option (Int×Int×Int)).bind fun (b,i,j) =>
 (if a.ok = true then
  if (b != 0) = true then
   if (c == 0) = true then
    some true
   else
    some (b == c)
  else
   some false
 else
  some false : Option (Bool)).bind fun k =>
 some (({ Za:=b,Zb:=i,Zc:=j } : Api_Place),({ p:=a.p,it:=({ Za:=a.it.Za,Ref:=a.it.Ref,Zn1:=a.it.Zn1,Zb1:=0,Zc:=a.it.Zc,Zo1:=a.it.Zo1,Zw:=a.it.Zw,To:=a.it.To,Code:=a.it.Code,Zp1:=a.it.Zp1,Zq1:=a.it.Zq1,Zr1:=a.it.Zr1,Zs1:=a.it.Zs1,Zt1:=a.it.Zt1,Zu1:=a.it.Zu1 } : Api_Item),ok:=k } : Edi_checker))
def D0 (a : Edi_checker) : Option (Edi_checker) :=
 (Do a (Ty a.it.Zw 0) 1073741824).bind fun b =>
 (Bw b).bind fun c =>
 some c
def Cl (a : Edi_checker) : Option (Edi_checker) :=
 (B8 a 0 (w64 ((a.p.Zj1.length : Int) - 1))).bind fun b =>
 some b
def Ec (a : Edi_checker) : Option (Edi_checker) :=
 (Dk a 0 63).bind fun b =>
 some b
def D4 (c : Edi_checker) : Option (Edi_checker) :=
 if (decide (c.it.Za < 1)) = true then
  some ({ p:=c.p,it:=c.it,ok:=false } : Edi_checker)
 else
  (Db c).bind fun b =>
  if (b.it.Za == 1) = true then
   (B8 b 0 (w64 ((b.p.Zi1.length : Int) - 1))).bind fun f =>
   (Bw f).bind fun g =>
   some g
  else
   if (b.it.Za == 2) = true then
    (B1 b 0).bind fun i =>
    (D0 i.2).bind fun j =>
    some j
   else
    (if (b.it.Za == 3) = true then
     some (b.it.Za == 3)
    else
     some (b.it.Za == 4) : Option (Bool)).bind fun k =>
    if k = true then
     (B1 b 3).bind fun a =>
     (if a.2.ok = true then
      if (a.2.it.Zc == a.1.Zb) = true then
       some true
      else
       some (a.2.it.Zc == a.1.Zc)
     else
      some false : Option (Bool)).bind fun l =>
     (Bw ({ p:=a.2.p,it:=({ Za:=a.2.it.Za,Ref:=a.2.it.Ref,Zn1:=a.2.it.Zn1,Zb1:=a.2.it.Zb1,Zc:=0,Zo1:=a.2.it.Zo1,Zw:=a.2.it.Zw,To:=a.2.it.To,Code:=a.2.it.Code,Zp1:=a.2.it.Zp1,Zq1:=a.2.it.Zq1,Zr1:=a.2.it.Zr1,Zs1:=a.2.it.Zs1,Zt1:=a.2.it.Zt1,Zu1:=a.2.it.Zu1 } : Api_Item),ok:=l } : Edi_checker)).bind fun m =>
     (Bu m 0 8).bind fun n =>
     some n
    else
     if (b.it.Za == 5) = true then
      (B7 b 1 1000000000).bind fun o =>
      (Cl o).bind fun q =>
      (B1 q 0).bind fun e =>
      (Di e.2 0 (w64 ((e.2.p.Zg1.Ze.length : Int) - 1))).bind fun s =>
      (Ec s).bind fun t =>
      (Cu t 0 1000000).bind fun u =>
      (Bw u).bind fun v =>
      some v
     else
      (if (b.it.Za == 6) = true then
       some (b.it.Za == 6)
      else
       some (b.it.Za == 7) : Option (Bool)).bind fun w =>
      if w = true then
       (B1 b 0).bind fun x =>
       (Cl x.2).bind fun y =>
       (Bw y).bind fun d =>
       if (d.it.Za == 6) = true then
        (Bu d 0 1).bind fun z =>
        some z
       else
        some d
      else
       some b
def Hm (b : List Api_Part) (e : Bool) (a : Int) : Option ((Int) ⊕ ((Unit) ⊕ ((Unit) ⊕ (Bool)))) :=
 if (decide (a < (b.length : Int))) = true then
  if InR a b.length then
   lt1 ((nth b a.toNat).Za) fun (c : Int) =>
   lt1 ((nth b a.toNat).Zl1) fun (d : Int) =>
   lt1 ((nth b a.toNat).Zm1) fun (f : Bool) =>
   (if (decide (c < 1)) = true then
    some true
   else
    if (decide (c > 3)) = true then
     some true
    else
     if (decide (d < 0)) = true then
      some true
     else
      if (decide (d > 1073741824)) = true then
       some true
      else
       if f = true then
        some (!e)
       else
        some false : Option (Bool)).bind fun g =>
   if g = true then
    ((some false).bind fun i => some (.inr i)).bind fun j => some (.inr (.inr j))
   else
    some (.inl (w64 (a + 1)))
  else none
 else
  some (.inr (.inl ()))
def L7 (a : List Api_Part) (b : Bool) : Option (Bool) :=
 ((A6 (fun (v : Int) => Hm a b v) 0).bind fun x => match x with
 | .inl () =>
  some (.inl ())
 | .inr z => some z : Option ((Unit) ⊕ (Bool))).bind fun x => match x with
 | .inl () =>
  some (decide ((a.length : Int)≤16))
 | .inr z => some z
def Ez (b : Edi_checker) : Option (Edi_checker) :=
 if (b.it.Za == 8) = true then
  (Db b).bind fun f =>
  (Bw f).bind fun g =>
  (Bu g 1 9).bind fun i =>
  some i
 else
  if (b.it.Za == 9) = true then
   (Db b).bind fun j =>
   (B1 j 5).bind fun k =>
   (D0 k.2).bind fun l =>
   (Bu l 1 2).bind fun m =>
   (Cp m 0 1000000000).bind fun d =>
   (if d.ok = true then
    (L7 d.it.Zu1 true).bind fun n =>
    some n
   else
    some false : Option (Bool)).bind fun o =>
   some ({ p:=d.p,it:=({ Za:=d.it.Za,Ref:=d.it.Ref,Zn1:=d.it.Zn1,Zb1:=d.it.Zb1,Zc:=d.it.Zc,Zo1:=d.it.Zo1,Zw:=d.it.Zw,To:=d.it.To,Code:=d.it.Code,Zp1:=d.it.Zp1,Zq1:=d.it.Zq1,Zr1:=d.it.Zr1,Zs1:=d.it.Zs1,Zt1:=d.it.Zt1,Zu1:=[] } : Api_Item),ok:=o } : Edi_checker)
  else
   if (b.it.Za == 10) = true then
    (B8 b 0 63).bind fun c =>
    (if c.ok = true then
     if (decide ((c.it.Zu1.length : Int) > 0)) = true then
      (L7 c.it.Zu1 false).bind fun q =>
      some q
     else
      some false
    else
     some false : Option (Bool)).bind fun s =>
    some ({ p:=c.p,it:=({ Za:=c.it.Za,Ref:=c.it.Ref,Zn1:=c.it.Zn1,Zb1:=c.it.Zb1,Zc:=c.it.Zc,Zo1:=c.it.Zo1,Zw:=c.it.Zw,To:=c.it.To,Code:=c.it.Code,Zp1:=c.it.Zp1,Zq1:=c.it.Zq1,Zr1:=c.it.Zr1,Zs1:=c.it.Zs1,Zt1:=c.it.Zt1,Zu1:=[] } : Api_Item),ok:=s } : Edi_checker)
   else
    (if (b.it.Za == 11) = true then
     some (b.it.Za == 11)
    else
     if (b.it.Za == 12) = true then
      some (b.it.Za == 12)
     else
      some (b.it.Za == 13) : Option (Bool)).bind fun t =>
    if t = true then
     (B7 b 1 6).bind fun u =>
     (Bw u).bind fun a =>
     if (a.it.Za != 13) = true then
      (if a.ok = true then
       if (decide ((a.it.Zt1.length : Int) ≥ 1)) = true then
        some (decide ((a.it.Zt1.length : Int)≤2000))
       else
        some false
      else
       some false : Option (Bool)).bind fun v =>
      some ({ p:=a.p,it:=({ Za:=a.it.Za,Ref:=a.it.Ref,Zn1:=a.it.Zn1,Zb1:=a.it.Zb1,Zc:=a.it.Zc,Zo1:=a.it.Zo1,Zw:=a.it.Zw,To:=a.it.To,Code:=a.it.Code,Zp1:=a.it.Zp1,Zq1:=a.it.Zq1,Zr1:=a.it.Zr1,Zs1:=a.it.Zs1,Zt1:=([] : List UInt8),Zu1:=a.it.Zu1 } : Api_Item),ok:=v } : Edi_checker)
     else
      some a
    else
     if (b.it.Za == 14) = true then
      some b
     else
      if (b.it.Za == 15) = true then
       (Cl b).bind fun w =>
       (B1 w 0).bind fun x =>
       (Ec x.2).bind fun e =>
       (B7 e 0 (w64 ((e.p.Zh1.Zx.length : Int) - 1))).bind fun y =>
       (Cu y 1 1000).bind fun z =>
       (D0 z).bind fun aa =>
       (Cp aa 0 1000000000).bind fun ab =>
       some ab
      else
       some ({ p:=b.p,it:=b.it,ok:=false } : Edi_checker)
def Md (d : Api_Pool) (c : Api_Item) : Option (Bool) :=
 (if (decide (c.Za≤7)) = true then
  (D4 ({ p:=d,it:=c,ok:=true } : Edi_checker)).bind fun a =>
  some (a.p.Zg1.Ze,a.p.Zg1.Zf,a.p.Zh1.Zx,a.p.Zh1.Zy,a.p.Zh1.Zz,a.p.Zh1.Za1,a.p.Zi1,a.p.Zj1,a.p.Zk1,a.it.Za,a.it.Ref.Zb,a.it.Ref.No,a.it.Zn1,a.it.Zb1,a.it.Zc,a.it.Zo1,a.it.Zw,a.it.To,a.it.Code,a.it.Zp1,a.it.Zq1,a.it.Zr1,a.it.Zs1,a.it.Zt1,a.it.Zu1,a.ok)
 else
  (Ez ({ p:=d,it:=c,ok:=true } : Edi_checker)).bind fun b =>
  some (b.p.Zg1.Ze,b.p.Zg1.Zf,b.p.Zh1.Zx,b.p.Zh1.Zy,b.p.Zh1.Zz,b.p.Zh1.Za1,b.p.Zi1,b.p.Zj1,b.p.Zk1,b.it.Za,b.it.Ref.Zb,b.it.Ref.No,b.it.Zn1,b.it.Zb1,b.it.Zc,b.it.Zo1,b.it.Zw,b.it.To,b.it.Code,b.it.Zp1,b.it.Zq1,b.it.Zr1,b.it.Zs1,b.it.Zt1,b.it.Zu1,b.ok) : Option (List Api_Place×List Api_Edge×List Api_WagonType×List Api_Wagon×List Api_Swap×List Api_Wash×List Api_Reader×List Api_Shipper×List Api_RailwayInfo×Int×Int×Int×Int×Int×Int×Int×Int×Int×Int×Int×Int×Int×Int×List UInt8×List Api_Part×Bool)).bind fun (ai,aj,ak,al,am,an,ao,ap,aq,ar,au,av,e,f,g,i,j,k,l,m,n,o,q,s,t,u) =>
 ((if u = true then
  some (e == 0)
 else
  some false : Option (Bool)).bind fun v =>
 (if v = true then
  some (f == 0)
 else
  some false : Option (Bool)).bind fun w =>
 (if w = true then
  some (g == 0)
 else
  some false : Option (Bool)).bind fun x =>
 (if x = true then
  some (i == 0)
 else
  some false : Option (Bool)).bind fun y =>
 (if y = true then
  some (j == 0)
 else
  some false : Option (Bool)).bind fun z =>
 (if z = true then
  some (k == 0)
 else
  some false : Option (Bool)).bind fun aa =>
 (if aa = true then
  some (l == 0)
 else
  some false : Option (Bool)).bind fun ab =>
 (if ab = true then
  some (m == 0)
 else
  some false : Option (Bool)).bind fun ac =>
 (if ac = true then
  some (n == 0)
 else
  some false : Option (Bool)).bind fun ad =>
 (if ad = true then
  some (o == 0)
 else
  some false : Option (Bool)).bind fun ae =>
 (if ae = true then
  some (q == 0)
 else
  some false : Option (Bool)).bind fun af =>
 some af : Option (Bool)).bind fun ag =>
 (if ag = true then
  if (s == ([] : List UInt8)) = true then
   some ((t.length : Int) == 0)
  else
   some false
 else
  some false : Option (Bool)).bind fun ah =>
 some ah
def J9 (a : Api_Pool) (b : Api_Item) : Option (Int) :=
 (C3 a).bind fun c =>
 if (c != 0) = true then
  some c
 else
  ((Jq b).bind fun d =>
  if (!d) = true then
   some true
  else
   (Md a b).bind fun e =>
   some (!e) : Option (Bool)).bind fun f =>
  if f = true then
   some 110
  else
   some 0
def F9 (b : UInt64) (c : List UInt8) (a : Api_Sig) : Option (Bool) :=
 (if (decide ((c.length : Int) > 65536)) = true then
  some true
 else
  if (decide (a.C ≥ (1152921504606845399 : UInt64))) = true then
   some true
  else
   if (decide (a.S ≥ (1152921504606845399 : UInt64))) = true then
    some true
   else
    (Jz b).bind fun d =>
    some (!d) : Option (Bool)).bind fun e =>
 if e = true then
  some false
 else
  (Hd (2305843009213690799 : UInt64)).bind fun f =>
  (Jt (4 : UInt64) a.S).bind fun g =>
  (Jt b ((1152921504606845399 : UInt64) - a.C)).bind fun i =>
  (Dg g i f).bind fun j =>
  (Fi j.1 b c).bind fun k =>
  some (k == a.C)
def Hc (b : Api_Pool) (a : Api_Record) : Option (Int) :=
 (C3 b).bind fun d =>
 if (d != 0) = true then
  some d
 else
  (if (decide (a.Zb < 0)) = true then
   some true
  else
   if (decide (a.Zb ≥ (b.Zk1.length : Int))) = true then
    some true
   else
    if (decide (a.No < 1)) = true then
     some true
    else
     if (decide (a.No > 4096)) = true then
      some true
     else
      if (decide (a.Zw1 < 0)) = true then
       some true
      else
       if (decide (a.Zw1 > 1073741824)) = true then
        some true
       else
        some (decide ((An5 a.Sig.C a.Sig.S) ≥ (1152921504606845399 : UInt64))) : Option (Bool)).bind fun f =>
  if f = true then
   some 1
  else
   (J9 b a.Zx1).bind fun e =>
   if (e != 0) = true then
    some e
   else
    (I6 a).bind fun c =>
    if (c.2 != 0) = true then
     some c.2
    else
     if InR a.Zb b.Zk1.length then
      (F9 ((nth b.Zk1 a.Zb.toNat).Key) c.1 a.Sig).bind fun g =>
      if (!g) = true then
       some 31
      else
       some 0
     else none
def I8 (a : Int) : Option (Bool) :=
 some (a != a)
def Fk (a : Int) (b : Int) : Option (Int) :=
 (I8 a).bind fun d =>
 (I8 b).bind fun c =>
 if d = true then
  if c = true then
   some 0
  else
   some (-1)
 else
  if c = true then
   some 1
  else
   if (decide (a < b)) = true then
    some (-1)
   else
    if (decide (a > b)) = true then
     some 1
    else
     some 0
def Kk (a : List UInt8) (b : List UInt8) : Option (Int):=V7 a b
def H8 (a : List UInt8) (b : List UInt8) : Option (Int) :=
 (Kk a b).bind fun c =>
 some c
def B6 (s1_7111 : List Api_Value) (s2_7112 : List Api_Value) (c : Api_Value→Api_Value→Option (Int)) (a : Int) : Option ((Int) ⊕ ((Unit) ⊕ ((Unit) ⊕ (Int)))) :=
 if (decide (a < (s1_7111.length : Int))) = true then
  if InR a s1_7111.length then
   lt1 ((nth s1_7111 a.toNat).Za) fun (d : Int) =>
   lt1 ((nth s1_7111 a.toNat).N) fun (e : Int) =>
   lt1 ((nth s1_7111 a.toNat).B) fun (f : List UInt8) =>
   lt1 ((nth s1_7111 a.toNat).L) fun (g : List Api_Value) =>
   if (decide (a ≥ (s2_7112.length : Int))) = true then
    ((some 1).bind fun i => some (.inr i)).bind fun j => some (.inr (.inr j))
   else
    if InR a s2_7112.length then
     lt1 ((nth s2_7112 a.toNat).Za) fun (k : Int) =>
     lt1 ((nth s2_7112 a.toNat).N) fun (l : Int) =>
     lt1 ((nth s2_7112 a.toNat).B) fun (m : List UInt8) =>
     lt1 ((nth s2_7112 a.toNat).L) fun (n : List Api_Value) =>
     (c (Api_Value.mk d e f g) (Api_Value.mk k l m n)).bind fun b =>
     if (b != 0) = true then
      ((some b).bind fun o => some (.inr o)).bind fun p => some (.inr (.inr p))
     else
      some (.inl (w64 (a + 1)))
    else none
  else none
 else
  some (.inr (.inl ()))
def Dh (b : Api_Value→Api_Value→Option (Int)) (s1_7111 : List Api_Value) (s2_7112 : List Api_Value) (a : Api_Value→Api_Value→Option (Int)) : Option (Int) :=
 ((A6 (fun (v : Int) => B6 s1_7111 s2_7112 a v) 0).bind fun x => match x with
 | .inl () =>
  some (.inl ())
 | .inr z => some z : Option ((Unit) ⊕ (Int))).bind fun x => match x with
 | .inl () =>
  if (decide ((s1_7111.length : Int) < (s2_7112.length : Int))) = true then
   some (-1)
  else
   some 0
 | .inr z => some z
def Gf (rec_ : Api_Value→Api_Value→Option (Int)) (a : Api_Value) (b : Api_Value) : Option (Int) :=
 (Fk a.Za b.Za).bind fun c =>
 if (c != 0) = true then
  some c
 else
  if (a.Za == 1) = true then
   (Fk a.N b.N).bind fun d =>
   some d
  else
   if (a.Za == 2) = true then
    (H8 a.B b.B).bind fun e =>
    some e
   else
    if (a.Za == 3) = true then
     (Dh rec_ a.L b.L rec_).bind fun f =>
     some f
    else
     some 0
def F4 (n : Nat) : Api_Value→Api_Value→Option (Int):=match n with
 | 0 => fun _ _ => none
 | n + 1 => Gf (F4 n)
def Jw (a : Api_Value) (b : Api_Value) : Option (Int):=F4 18446744073709551616 a b
def Lw (a : Api_Record) (b : Api_Record) : Option (Bool) :=
 (if (a.Zb == b.Zb) = true then
  if (a.No == b.No) = true then
   if (a.Zv1 == b.Zv1) = true then
    if (a.Zw1 == b.Zw1) = true then
     some ((a.Sig.C == b.Sig.C) && (a.Sig.S == b.Sig.S))
    else
     some false
   else
    some false
  else
   some false
 else
  some false : Option (Bool)).bind fun c =>
 (if c = true then
  (Kd a.Zx1).bind fun d =>
  (Kd b.Zx1).bind fun e =>
  (Jw d e).bind fun f =>
  some (f == 0)
 else
  some false : Option (Bool)).bind fun g =>
 some g
def Jg (b : List Api_Record) (a : Api_Record) : Option (Int) :=
 if (decide (a.No > (w64 ((b.length : Int) + 1)))) = true then
  some 140
 else
  (if (decide (a.No > 1)) = true then
   if InR (w64 (a.No - 2)) b.length then
    (Eo (nth b ((w64 (a.No - 2)).toNat))).bind fun c =>
    (if (c.2 != 0) = true then
     some true
    else
     if InR (w64 (a.No - 2)) b.length then
      some (decide (a.Zw1 < (nth b ((w64 (a.No - 2)).toNat)).Zw1))
     else none : Option (Bool)).bind fun d =>
    if d = true then
     (some 140).bind fun e => some (.inr e)
    else
     some (.inl c.1)
   else none
  else
   some (.inl (Arr.rep 32 (0 : UInt8))) : Option ((Arr UInt8 32) ⊕ (Int))).bind fun x => match x with
  | .inl f =>
   if (!(f == a.Zv1)) = true then
    some 140
   else
    (if (!((a.Zx1.Ref.Zb == 0) && (a.Zx1.Ref.No == 0))) = true then
     if (a.Zx1.Ref.Zb != a.Zb) = true then
      some true
     else
      if (decide (a.Zx1.Ref.No < 1)) = true then
       some true
      else
       if (decide (a.Zx1.Ref.No ≥ a.No)) = true then
        some true
       else
        if InR (w64 (a.Zx1.Ref.No - 1)) b.length then
         some (!(((((nth b ((w64 (a.Zx1.Ref.No - 1)).toNat)).Zx1).Ref).Zb == 0) && ((((nth b ((w64 (a.Zx1.Ref.No - 1)).toNat)).Zx1).Ref).No == 0)))
        else none
    else
     some false : Option (Bool)).bind fun g =>
    if g = true then
     some 110
    else
     some 0
  | .inr z => some z
def F6 (a : List Api_Record) : Option (List Api_Record) :=
 if Fb (0 + a.length) 224 then
  lt1 (([] : List Api_Record) ++ a) fun (b : List Api_Record) =>
  some b
 else none
def Hs (b : Api_Fork) (a : Api_Record) : Option (Bool×Api_Record) :=
 (if (b.A.Zb == a.Zb) = true then
  some (b.A.No == a.No)
 else
  some false : Option (Bool)).bind fun c =>
 some (c,a)
def Bi (c : List Api_Fork) (b : Int) (d : Int) (e : Int) (f : Arr UInt8 32) (g : Int) (i : Int) (j : Int) (k : Int) (l : Int) (m : Int) (n : Int) (o : Int) (p : Int) (q : Int) (s : Int) (t : Int) (u : Int) (v : Int) (w : Int) (x : List UInt8) (y : List Api_Part) (z : UInt64) (aa : UInt64) : Option ((Int×Int×Int×Arr UInt8 32×Int×Int×Int×Int×Int×Int×Int×Int×Int×Int×Int×Int×Int×Int×Int×List UInt8×List Api_Part×UInt64×UInt64) ⊕ ((Int×Int×Arr UInt8 32×Int×Int×Int×Int×Int×Int×Int×Int×Int×Int×Int×Int×Int×Int×Int×List UInt8×List Api_Part×UInt64×UInt64) ⊕ ((Int×Int×Arr UInt8 32×Int×Int×Int×Int×Int×Int×Int×Int×Int×Int×Int×Int×Int×Int×Int×List UInt8×List Api_Part×UInt64×UInt64) ⊕ (Int×Api_Record)))) :=
 if (decide (b < (c.length : Int))) = true then
  if InR b c.length then
   (Hs ({ A:=(nth c b.toNat).A,B:=(nth c b.toNat).B } : Api_Fork) ({ Zb:=d,No:=e,Zv1:=f,Zw1:=g,Zx1:=({ Za:=i,Ref:=({ Zb:=j,No:=k } : Api_Ref),Zn1:=l,Zb1:=m,Zc:=n,Zo1:=o,Zw:=p,To:=q,Code:=s,Zp1:=t,Zq1:=u,Zr1:=v,Zs1:=w,Zt1:=x,Zu1:=y } : Api_Item),Sig:=({ C:=z,S:=aa } : Api_Sig) } : Api_Record)).bind fun a =>
   if a.1 = true then
    ((some (b,a.2)).bind fun ab => some (.inr ab)).bind fun ac => some (.inr (.inr ac))
   else
    some (.inl ((w64 (b + 1)),a.2.Zb,a.2.No,a.2.Zv1,a.2.Zw1,a.2.Zx1.Za,a.2.Zx1.Ref.Zb,a.2.Zx1.Ref.No,a.2.Zx1.Zn1,a.2.Zx1.Zb1,a.2.Zx1.Zc,a.2.Zx1.Zo1,a.2.Zx1.Zw,a.2.Zx1.To,a.2.Zx1.Code,a.2.Zx1.Zp1,a.2.Zx1.Zq1,a.2.Zx1.Zr1,a.2.Zx1.Zs1,a.2.Zx1.Zt1,a.2.Zx1.Zu1,a.2.Sig.C,a.2.Sig.S))
  else none
 else
  some (.inr (.inl (d,e,f,g,i,j,k,l,m,n,o,p,q,s,t,u,v,w,x,y,z,aa)))
def C7 (b : List Api_Fork) (a : Api_Record) : Option (Int×Api_Record) :=
 ((A6 (fun (v : Int×Int×Int×Arr UInt8 32×Int×Int×Int×Int×Int×Int×Int×Int×Int×Int×Int×Int×Int×Int×Int×List UInt8×List Api_Part×UInt64×UInt64) => Bi b v.1 v.2.1 v.2.2.1 v.2.2.2.1 v.2.2.2.2.1 v.2.2.2.2.2.1 v.2.2.2.2.2.2.1 v.2.2.2.2.2.2.2.1 v.2.2.2.2.2.2.2.2.1 v.2.2.2.2.2.2.2.2.2.1 v.2.2.2.2.2.2.2.2.2.2.1 v.2.2.2.2.2.2.2.2.2.2.2.1 v.2.2.2.2.2.2.2.2.2.2.2.2.1 v.2.2.2.2.2.2.2.2.2.2.2.2.2.1 v.2.2.2.2.2.2.2.2.2.2.2.2.2.2.1 v.2.2.2.2.2.2.2.2.2.2.2.2.2.2.2.1 v.2.2.2.2.2.2.2.2.2.2.2.2.2.2.2.2.1 v.2.2.2.2.2.2.2.2.2.2.2.2.2.2.2.2.2.1 v.2.2.2.2.2.2.2.2.2.2.2.2.2.2.2.2.2.2.1 v.2.2.2.2.2.2.2.2.2.2.2.2.2.2.2.2.2.2.2.1 v.2.2.2.2.2.2.2.2.2.2.2.2.2.2.2.2.2.2.2.2.1 v.2.2.2.2.2.2.2.2.2.2.2.2.2.2.2.2.2.2.2.2.2.1 v.2.2.2.2.2.2.2.2.2.2.2.2.2.2.2.2.2.2.2.2.2.2) (0,a.Zb,a.No,a.Zv1,a.Zw1,a.Zx1.Za,a.Zx1.Ref.Zb,a.Zx1.Ref.No,a.Zx1.Zn1,a.Zx1.Zb1,a.Zx1.Zc,a.Zx1.Zo1,a.Zx1.Zw,a.Zx1.To,a.Zx1.Code,a.Zx1.Zp1,a.Zx1.Zq1,a.Zx1.Zr1,a.Zx1.Zs1,a.Zx1.Zt1,a.Zx1.Zu1,a.Sig.C,a.Sig.S)).bind fun x => match x with
 | .inl (c,d,e,f,g,i,j,k,l,m,n,o,p,q,s,t,u,w,y,aa,ab,ac) =>
  some (.inl (c,d,e,f,g,i,j,k,l,m,n,o,p,q,s,t,u,w,y,aa,ab,ac))
 | .inr z => some z : Option ((Int×Int×Arr UInt8 32×Int×Int×Int×Int×Int×Int×Int×Int×Int×Int×Int×Int×Int×Int×Int×List UInt8×List Api_Part×UInt64×UInt64) ⊕ (Int×Api_Record))).bind fun x => match x with
 | .inl (ad,ae,af,ag,ah,ai,aj,ak,al,am,an,ao,ap,aq,ar,au,av,aw,ax,ay,az,aA) =>
  some ((-1),({ Zb:=ad,No:=ae,Zv1:=af,Zw1:=ag,Zx1:=({ Za:=ah,Ref:=({ Zb:=ai,No:=aj } : Api_Ref),Zn1:=ak,Zb1:=al,Zc:=am,Zo1:=an,Zw:=ao,To:=ap,Code:=aq,Zp1:=ar,Zq1:=au,Zr1:=av,Zs1:=aw,Zt1:=ax,Zu1:=ay } : Api_Item),Sig:=({ C:=az,S:=aA } : Api_Sig) } : Api_Record))
 | .inr z => some z
def Bz (b : List Api_Fork) (c : Api_Record) : Option (Bool×Api_Record) :=
 (C7 b c).bind fun a =>
 some ((decide (a.1 ≥ 0)),a.2)
def Gk (a : List Api_Fork) : Option (List Api_Fork) :=
 if Fb (0 + a.length) 448 then
  lt1 (([] : List Api_Fork) ++ a) fun (b : List Api_Fork) =>
  some b
 else none
def Bl (d : Api_Pool) (a : Api_Books) (b : Api_Record) : Option (Api_Books×Int) :=
 (Hc d b).bind fun f =>
 if (f != 0) = true then
  some (({ Zy1:=[],Zz1:=[] } : Api_Books),f)
 else
  (Jy a b.Zb).bind fun c =>
  (if (decide (b.No≤(c.length : Int))) = true then
   if InR (w64 (b.No - 1)) c.length then
    (Lw (nth c ((w64 (b.No - 1)).toNat)) b).bind fun m =>
    some m
   else none
  else
   some false : Option (Bool)).bind fun n =>
  if n = true then
   some (a,0)
  else
   (Jg c b).bind fun g =>
   if (g != 0) = true then
    some (({ Zy1:=[],Zz1:=[] } : Api_Books),g)
   else
    if (b.No == (w64 ((c.length : Int) + 1))) = true then
     if Mk (Ty (a.Zy1.length : Int) (d.Zk1.length : Int)) (Ty (a.Zy1.length : Int) (d.Zk1.length : Int)) 24 then
      lt1 (List.replicate ((Ty (a.Zy1.length : Int) (d.Zk1.length : Int)).toNat) ([])) fun (i : List (List Api_Record)) =>
      lt1 (ovl i (a.Zy1.take (min a.Zy1.length i.length)) 0) fun (j : List (List Api_Record)) =>
      (F6 c).bind fun k =>
      if Fb (k.length + 1) 224 then
       if InR b.Zb j.length then
        lt1 (j.set b.Zb.toNat (k ++ ([b] : List Api_Record))) fun (o : List (List Api_Record)) =>
        some (({ Zy1:=o,Zz1:=a.Zz1 } : Api_Books),0)
       else none
      else none
     else none
    else
     ((Bz a.Zz1 b).bind fun e =>
     if (!e.1) = true then
      (Gk a.Zz1).bind fun l =>
      if InR (w64 (e.2.No - 1)) c.length then
       if Fb (l.length + 1) 448 then
        lt1 (l ++ ([({ A:=nth c ((w64 (e.2.No - 1)).toNat),B:=e.2 } : Api_Fork)] : List Api_Fork)) fun (p : List Api_Fork) =>
        some p
       else none
      else none
     else
      some a.Zz1 : Option (List Api_Fork)).bind fun q =>
     some (({ Zy1:=a.Zy1,Zz1:=q } : Api_Books),0)
def B9 (c : Api_Pool) (m : Api_Books) (a : Int) (n : UInt64) (e : Int) (f : Api_Item) : Option (Api_Record×Int) :=
 (C3 c).bind fun o =>
 if (o != 0) = true then
  some (({ Zb:=0,No:=0,Zv1:=(Arr.rep 32 (0 : UInt8)),Zw1:=0,Zx1:=({ Za:=0,Ref:=({ Zb:=0,No:=0 } : Api_Ref),Zn1:=0,Zb1:=0,Zc:=0,Zo1:=0,Zw:=0,To:=0,Code:=0,Zp1:=0,Zq1:=0,Zr1:=0,Zs1:=0,Zt1:=([] : List UInt8),Zu1:=[] } : Api_Item),Sig:=({ C:=(0 : UInt64),S:=(0 : UInt64) } : Api_Sig) } : Api_Record),o)
 else
  (if (decide (a < 0)) = true then
   some true
  else
   some (decide (a ≥ (c.Zk1.length : Int))) : Option (Bool)).bind fun q =>
  if q = true then
   some (({ Zb:=0,No:=0,Zv1:=(Arr.rep 32 (0 : UInt8)),Zw1:=0,Zx1:=({ Za:=0,Ref:=({ Zb:=0,No:=0 } : Api_Ref),Zn1:=0,Zb1:=0,Zc:=0,Zo1:=0,Zw:=0,To:=0,Code:=0,Zp1:=0,Zq1:=0,Zr1:=0,Zs1:=0,Zt1:=([] : List UInt8),Zu1:=[] } : Api_Item),Sig:=({ C:=(0 : UInt64),S:=(0 : UInt64) } : Api_Sig) } : Api_Record),1)
  else
   (Ij n).bind fun g =>
   if (g.2 != 0) = true then
    some (({ Zb:=0,No:=0,Zv1:=(Arr.rep 32 (0 : UInt8)),Zw1:=0,Zx1:=({ Za:=0,Ref:=({ Zb:=0,No:=0 } : Api_Ref),Zn1:=0,Zb1:=0,Zc:=0,Zo1:=0,Zw:=0,To:=0,Code:=0,Zp1:=0,Zq1:=0,Zr1:=0,Zs1:=0,Zt1:=([] : List UInt8),Zu1:=[] } : Api_Item),Sig:=({ C:=(0 : UInt64),S:=(0 : UInt64) } : Api_Sig) } : Api_Record),g.2)
   else
    if InR a c.Zk1.length then
     if (g.1 != (nth c.Zk1 a.toNat).Key) = true then
      some (({ Zb:=0,No:=0,Zv1:=(Arr.rep 32 (0 : UInt8)),Zw1:=0,Zx1:=({ Za:=0,Ref:=({ Zb:=0,No:=0 } : Api_Ref),Zn1:=0,Zb1:=0,Zc:=0,Zo1:=0,Zw:=0,To:=0,Code:=0,Zp1:=0,Zq1:=0,Zr1:=0,Zs1:=0,Zt1:=([] : List UInt8),Zu1:=[] } : Api_Item),Sig:=({ C:=(0 : UInt64),S:=(0 : UInt64) } : Api_Sig) } : Api_Record),30)
     else
      (Jy m a).bind fun b =>
      lt1 (w64 ((b.length : Int) + 1)) fun (i : Int) =>
      (if (decide ((b.length : Int) > 0)) = true then
       if InR (w64 ((b.length : Int) - 1)) b.length then
        (Eo (nth b ((w64 ((b.length : Int) - 1)).toNat))).bind fun j =>
        if (j.2 != 0) = true then
         (some (({ Zb:=0,No:=0,Zv1:=(Arr.rep 32 (0 : UInt8)),Zw1:=0,Zx1:=({ Za:=0,Ref:=({ Zb:=0,No:=0 } : Api_Ref),Zn1:=0,Zb1:=0,Zc:=0,Zo1:=0,Zw:=0,To:=0,Code:=0,Zp1:=0,Zq1:=0,Zr1:=0,Zs1:=0,Zt1:=([] : List UInt8),Zu1:=[] } : Api_Item),Sig:=({ C:=(0 : UInt64),S:=(0 : UInt64) } : Api_Sig) } : Api_Record),j.2)).bind fun s => some (.inr s)
        else
         some (.inl j.1)
       else none
      else
       some (.inl (Arr.rep 32 (0 : UInt8))) : Option ((Arr UInt8 32) ⊕ (Api_Record×Int))).bind fun x => match x with
      | .inl k =>
       (I6 ({ Zb:=a,No:=i,Zv1:=k,Zw1:=e,Zx1:=f,Sig:=({ C:=(0 : UInt64),S:=(0 : UInt64) } : Api_Sig) } : Api_Record)).bind fun l =>
       if (l.2 != 0) = true then
        some (({ Zb:=0,No:=0,Zv1:=(Arr.rep 32 (0 : UInt8)),Zw1:=0,Zx1:=({ Za:=0,Ref:=({ Zb:=0,No:=0 } : Api_Ref),Zn1:=0,Zb1:=0,Zc:=0,Zo1:=0,Zw:=0,To:=0,Code:=0,Zp1:=0,Zq1:=0,Zr1:=0,Zs1:=0,Zt1:=([] : List UInt8),Zu1:=[] } : Api_Item),Sig:=({ C:=(0 : UInt64),S:=(0 : UInt64) } : Api_Sig) } : Api_Record),l.2)
       else
        (Kg n l.1).bind fun d =>
        if (d.2 != 0) = true then
         some (({ Zb:=0,No:=0,Zv1:=(Arr.rep 32 (0 : UInt8)),Zw1:=0,Zx1:=({ Za:=0,Ref:=({ Zb:=0,No:=0 } : Api_Ref),Zn1:=0,Zb1:=0,Zc:=0,Zo1:=0,Zw:=0,To:=0,Code:=0,Zp1:=0,Zq1:=0,Zr1:=0,Zs1:=0,Zt1:=([] : List UInt8),Zu1:=[] } : Api_Item),Sig:=({ C:=(0 : UInt64),S:=(0 : UInt64) } : Api_Sig) } : Api_Record),d.2)
        else
         (Bl c m ({ Zb:=a,No:=i,Zv1:=k,Zw1:=e,Zx1:=f,Sig:=d.1 } : Api_Record)).bind fun p =>
         if (p.2 != 0) = true then
          some (({ Zb:=0,No:=0,Zv1:=(Arr.rep 32 (0 : UInt8)),Zw1:=0,Zx1:=({ Za:=0,Ref:=({ Zb:=0,No:=0 } : Api_Ref),Zn1:=0,Zb1:=0,Zc:=0,Zo1:=0,Zw:=0,To:=0,Code:=0,Zp1:=0,Zq1:=0,Zr1:=0,Zs1:=0,Zt1:=([] : List UInt8),Zu1:=[] } : Api_Item),Sig:=({ C:=(0 : UInt64),S:=(0 : UInt64) } : Api_Sig) } : Api_Record),p.2)
         else
          some (({ Zb:=a,No:=i,Zv1:=k,Zw1:=e,Zx1:=f,Sig:=d.1 } : Api_Record),0)
      | .inr z => some z
    else none
def Nv (a : Api_Item) (b : UInt8) : Option (Int) :=
 if (b == (119 : UInt8)) = true then
  some a.Zn1
 else
  if (b == (112 : UInt8)) = true then
   some a.Zb1
  else
   if (b == (111 : UInt8)) = true then
    some a.Zc
   else
    if (b == (110 : UInt8)) = true then
     some a.Zo1
    else
     if (b == (102 : UInt8)) = true then
      some a.Zw
     else
      if (b == (116 : UInt8)) = true then
       some a.To
      else
       if (b == (99 : UInt8)) = true then
        some a.Code
       else
        if (b == (100 : UInt8)) = true then
         some a.Zp1
        else
         if (b == (107 : UInt8)) = true then
          some a.Zq1
         else
          if (b == (103 : UInt8)) = true then
           some a.Zr1
          else
           some a.Zs1
def Eh (b : List Api_Part) (c : List Api_Part) (a : Int) : Option ((Int) ⊕ ((Unit) ⊕ ((Unit) ⊕ (Bool)))) :=
 if (decide (a < (b.length : Int))) = true then
  if InR a b.length then
   if InR a c.length then
    lt1 (!(((nth b a.toNat).Za == (nth c a.toNat).Za) && (((nth b a.toNat).Zl1 == (nth c a.toNat).Zl1) && ((nth b a.toNat).Zm1 == (nth c a.toNat).Zm1)))) fun (d : Bool) =>
    if d = true then
     ((some false).bind fun e => some (.inr e)).bind fun f => some (.inr (.inr f))
    else
     some (.inl (w64 (a + 1)))
   else none
  else none
 else
  some (.inr (.inl ()))
def H4 (a : List Api_Part) (b : List Api_Part) : Option (Bool) :=
 if ((a.length : Int) != (b.length : Int)) = true then
  some false
 else
  ((A6 (fun (v : Int) => Eh a b v) 0).bind fun x => match x with
  | .inl () =>
   some (.inl ())
  | .inr z => some z : Option ((Unit) ⊕ (Bool))).bind fun x => match x with
  | .inl () =>
   some true
  | .inr z => some z
def Il (b : Api_Item) (c : Api_Item) (a : Int) : Option ((Int) ⊕ ((Unit) ⊕ ((Unit) ⊕ (Bool)))) :=
 if (decide (a < 11)) = true then
  if InR a (([119,112,111,110,102,116,99,100,107,103,97] : List UInt8).length) then
   (Nv b (nth ([119,112,111,110,102,116,99,100,107,103,97] : List UInt8) a.toNat)).bind fun d =>
   if InR a (([119,112,111,110,102,116,99,100,107,103,97] : List UInt8).length) then
    (Nv c (nth ([119,112,111,110,102,116,99,100,107,103,97] : List UInt8) a.toNat)).bind fun e =>
    if (d != e) = true then
     ((some false).bind fun f => some (.inr f)).bind fun g => some (.inr (.inr g))
    else
     some (.inl (w64 (a + 1)))
   else none
  else none
 else
  some (.inr (.inl ()))
def Qc (a : Api_Item) (b : Api_Item) : Option (Bool) :=
 ((A6 (fun (v : Int) => Il a b v) 0).bind fun x => match x with
 | .inl () =>
  some (.inl ())
 | .inr z => some z : Option ((Unit) ⊕ (Bool))).bind fun x => match x with
 | .inl () =>
  (if (a.Za == b.Za) = true then
   if ((a.Ref.Zb == b.Ref.Zb) && (a.Ref.No == b.Ref.No)) = true then
    if (a.Zt1 == b.Zt1) = true then
     (H4 a.Zu1 b.Zu1).bind fun c =>
     some c
    else
     some false
   else
    some false
  else
   some false : Option (Bool)).bind fun d =>
  some d
 | .inr z => some z
def D9 (a : Api_Record) (b : Api_Record) : Option (Bool) :=
 (if (a.Zb == b.Zb) = true then
  if (a.No == b.No) = true then
   if (a.Zv1 == b.Zv1) = true then
    if (a.Zw1 == b.Zw1) = true then
     if ((a.Sig.C == b.Sig.C) && (a.Sig.S == b.Sig.S)) = true then
      (Qc a.Zx1 b.Zx1).bind fun c =>
      some c
     else
      some false
    else
     some false
   else
    some false
  else
   some false
 else
  some false : Option (Bool)).bind fun d =>
 some d
def Fq (b : List Api_Record) (c : List Api_Record) (a : Int) : Option ((Int) ⊕ ((Unit) ⊕ ((Unit) ⊕ (Bool)))) :=
 if (decide (a < (b.length : Int))) = true then
  if InR a b.length then
   if InR a c.length then
    (D9 (nth b a.toNat) (nth c a.toNat)).bind fun d =>
    if (!d) = true then
     ((some false).bind fun e => some (.inr e)).bind fun f => some (.inr (.inr f))
    else
     some (.inl (w64 (a + 1)))
   else none
  else none
 else
  some (.inr (.inl ()))
def Ip (a : List Api_Record) (b : List Api_Record) : Option (Bool) :=
 if ((a.length : Int) != (b.length : Int)) = true then
  some false
 else
  ((A6 (fun (v : Int) => Fq a b v) 0).bind fun x => match x with
  | .inl () =>
   some (.inl ())
  | .inr z => some z : Option ((Unit) ⊕ (Bool))).bind fun x => match x with
  | .inl () =>
   some true
  | .inr z => some z
def Pq (b : Api_Books) (c : Api_Books) (a : Int) : Option ((Int) ⊕ ((Unit) ⊕ ((Unit) ⊕ (Bool)))) :=
 if (decide (a < (b.Zy1.length : Int))) = true then
  if InR a b.Zy1.length then
   if InR a c.Zy1.length then
    (Ip (nth b.Zy1 a.toNat) (nth c.Zy1 a.toNat)).bind fun d =>
    if (!d) = true then
     ((some false).bind fun e => some (.inr e)).bind fun f => some (.inr (.inr f))
    else
     some (.inl (w64 (a + 1)))
   else none
  else none
 else
  some (.inr (.inl ()))
def P4 (b : Api_Books) (c : Api_Books) (a : Int) : Option ((Int) ⊕ ((Unit) ⊕ ((Unit) ⊕ (Bool)))) :=
 if (decide (a < (b.Zz1.length : Int))) = true then
  (if InR a b.Zz1.length then
   if InR a c.Zz1.length then
    (D9 ((nth b.Zz1 a.toNat).A) ((nth c.Zz1 a.toNat).A)).bind fun d =>
    if (!d) = true then
     some true
    else
     if InR a b.Zz1.length then
      if InR a c.Zz1.length then
       (D9 ((nth b.Zz1 a.toNat).B) ((nth c.Zz1 a.toNat).B)).bind fun e =>
       some (!e)
      else none
     else none
   else none
  else none : Option (Bool)).bind fun f =>
  if f = true then
   ((some false).bind fun g => some (.inr g)).bind fun i => some (.inr (.inr i))
  else
   some (.inl (w64 (a + 1)))
 else
  some (.inr (.inl ()))
def Qu (a : Api_Books) (b : Api_Books) : Option (Bool) :=
 (if ((a.Zy1.length : Int) != (b.Zy1.length : Int)) = true then
  some true
 else
  some ((a.Zz1.length : Int) != (b.Zz1.length : Int)) : Option (Bool)).bind fun c =>
 if c = true then
  some false
 else
  ((A6 (fun (v : Int) => Pq a b v) 0).bind fun x => match x with
  | .inl () =>
   some (.inl ())
  | .inr z => some z : Option ((Unit) ⊕ (Bool))).bind fun x => match x with
  | .inl () =>
   ((A6 (fun (v : Int) => P4 a b v) 0).bind fun x => match x with
   | .inl () =>
    some (.inl ())
   | .inr z => some z : Option ((Unit) ⊕ (Bool))).bind fun x => match x with
   | .inl () =>
    some true
   | .inr z => some z
  | .inr z => some z
def La (b : Api_Books) (e : Int) (c : Int) (a : Int) : Option ((Int×Int) ⊕ (Int)) :=
 if (decide (a < (b.Zz1.length : Int))) = true then
  (if InR a b.Zz1.length then
   lt1 (((nth b.Zz1 a.toNat).A).Zb) fun (f : Int) =>
   lt1 (((nth b.Zz1 a.toNat).A).No) fun (d : Int) =>
   lt1 (((nth b.Zz1 a.toNat).A).Zv1) fun (j : Arr UInt8 32) =>
   lt1 (((nth b.Zz1 a.toNat).A).Zw1) fun (k : Int) =>
   lt1 ((((nth b.Zz1 a.toNat).A).Zx1).Za) fun (l : Int) =>
   lt1 (((((nth b.Zz1 a.toNat).A).Zx1).Ref).Zb) fun (m : Int) =>
   lt1 (((((nth b.Zz1 a.toNat).A).Zx1).Ref).No) fun (n : Int) =>
   lt1 ((((nth b.Zz1 a.toNat).A).Zx1).Zn1) fun (o : Int) =>
   lt1 ((((nth b.Zz1 a.toNat).A).Zx1).Zb1) fun (p : Int) =>
   lt1 ((((nth b.Zz1 a.toNat).A).Zx1).Zc) fun (q : Int) =>
   lt1 ((((nth b.Zz1 a.toNat).A).Zx1).Zo1) fun (s : Int) =>
   lt1 ((((nth b.Zz1 a.toNat).A).Zx1).Zw) fun (t : Int) =>
   lt1 ((((nth b.Zz1 a.toNat).A).Zx1).To) fun (u : Int) =>
   lt1 ((((nth b.Zz1 a.toNat).A).Zx1).Code) fun (v : Int) =>
   lt1 ((((nth b.Zz1 a.toNat).A).Zx1).Zp1) fun (w : Int) =>
   lt1 ((((nth b.Zz1 a.toNat).A).Zx1).Zq1) fun (x : Int) =>
   lt1 ((((nth b.Zz1 a.toNat).A).Zx1).Zr1) fun (y : Int) =>
   lt1 ((((nth b.Zz1 a.toNat).A).Zx1).Zs1) fun (z : Int) =>
   lt1 ((((nth b.Zz1 a.toNat).A).Zx1).Zt1) fun (aa : List UInt8) =>
   lt1 ((((nth b.Zz1 a.toNat).A).Zx1).Zu1) fun (ab : List Api_Part) =>
   lt1 ((((nth b.Zz1 a.toNat).A).Sig).C) fun (ac : UInt64) =>
   lt1 ((((nth b.Zz1 a.toNat).A).Sig).S) fun (ad : UInt64) =>
   lt1 (((nth b.Zz1 a.toNat).B).Zb) fun (ae : Int) =>
   lt1 (((nth b.Zz1 a.toNat).B).No) fun (af : Int) =>
   lt1 (((nth b.Zz1 a.toNat).B).Zv1) fun (ag : Arr UInt8 32) =>
   lt1 (((nth b.Zz1 a.toNat).B).Zw1) fun (ah : Int) =>
   lt1 ((((nth b.Zz1 a.toNat).B).Zx1).Za) fun (ai : Int) =>
   lt1 (((((nth b.Zz1 a.toNat).B).Zx1).Ref).Zb) fun (aj : Int) =>
   lt1 (((((nth b.Zz1 a.toNat).B).Zx1).Ref).No) fun (ak : Int) =>
   lt1 ((((nth b.Zz1 a.toNat).B).Zx1).Zn1) fun (al : Int) =>
   lt1 ((((nth b.Zz1 a.toNat).B).Zx1).Zb1) fun (am : Int) =>
   lt1 ((((nth b.Zz1 a.toNat).B).Zx1).Zc) fun (an : Int) =>
   lt1 ((((nth b.Zz1 a.toNat).B).Zx1).Zo1) fun (ao : Int) =>
   lt1 ((((nth b.Zz1 a.toNat).B).Zx1).Zw) fun (ap : Int) =>
   lt1 ((((nth b.Zz1 a.toNat).B).Zx1).To) fun (aq : Int) =>
   lt1 ((((nth b.Zz1 a.toNat).B).Zx1).Code) fun (ar : Int) =>
   lt1 ((((nth b.Zz1 a.toNat).B).Zx1).Zp1) fun (au : Int) =>
   lt1 ((((nth b.Zz1 a.toNat).B).Zx1).Zq1) fun (av : Int) =>
   lt1 ((((nth b.Zz1 a.toNat).B).Zx1).Zr1) fun (aw : Int) =>
   lt1 ((((nth b.Zz1 a.toNat).B).Zx1).Zs1) fun (ax : Int) =>
   lt1 ((((nth b.Zz1 a.toNat).B).Zx1).Zt1) fun (ay : List UInt8) =>
   lt1 ((((nth b.Zz1 a.toNat).B).Zx1).Zu1) fun (az : List Api_Part) =>
   lt1 ((((nth b.Zz1 a.toNat).B).Sig).C) fun (aA : UInt64) =>
   lt1 ((((nth b.Zz1 a.toNat).B).Sig).S) fun (aB : UInt64) =>
   (if (f == e) = true then
    if (decide (d ≥ 1)) = true then
     if (c == 0) = true then
      some true
     else
      some (decide (d < c))
    else
     some false
   else
    some false : Option (Bool)).bind fun g =>
   if g = true then
    some d
   else
    some c
  else none : Option (Int)).bind fun i =>
  some (.inl (i,(w64 (a + 1))))
 else
  some (.inr c)
def Fa (a : Api_Books) (b : Int) : Option (Int) :=
 ((A6 (fun (v : Int×Int) => La a b v.1 v.2) (0,0)).bind fun c =>
 some c : Option (Int)).bind fun d =>
 some d
def Ks (c : Api_Books) (a : Int) (d : List (List Api_Record)) : Option ((Int×List (List Api_Record)) ⊕ (List (List Api_Record))) :=
 if (decide (a < (c.Zy1.length : Int))) = true then
  if InR a c.Zy1.length then
   lt1 (nth c.Zy1 a.toNat) fun (b : List Api_Record) =>
   ((Fa c a).bind fun e =>
   if (decide (e > 0)) = true then
    if InB (Abl (w64 (e - 1)) (b.length : Int)) b.length then
     lt1 (b.take ((Abl (w64 (e - 1)) (b.length : Int)).toNat)) fun (f : List Api_Record) =>
     some f
    else none
   else
    some b : Option (List Api_Record)).bind fun g =>
   if Fb (d.length + 1) 24 then
    lt1 (d ++ ([g] : List (List Api_Record))) fun (i : List (List Api_Record)) =>
    some (.inl ((w64 (a + 1)),i))
   else none
  else none
 else
  some (.inr d)
def Nt (a : Api_Books) : Option (Api_Books) :=
 ((A6 (fun (v : Int×List (List Api_Record)) => Ks a v.1 v.2) (0,[])).bind fun b =>
 some b : Option (List (List Api_Record))).bind fun c =>
 some ({ Zy1:=c,Zz1:=[] } : Api_Books)
def Up (a : Api_Books) : Option (Api_Books) :=
 some a
def Ku (b : List ((Int×Int)×Api_Report)) (c : Int) (d : Int) (a : Api_Record) : Option (List ((Int×Int)×Api_Report)) :=
 (if (!((a.Zx1.Ref.Zb == 0) && (a.Zx1.Ref.No == 0))) = true then
  some (a.Zx1.Ref.Zb == c)
 else
  some false : Option (Bool)).bind fun e =>
 if e = true then
  if Abo a.Zx1.Ref.Zb a.Zx1.Ref.No then
   lt1 (Aqe b (a.Zx1.Ref.Zb,a.Zx1.Ref.No) ({ Ref:=a.Zx1.Ref,By:=({ Zb:=c,No:=d } : Api_Ref),Zw1:=a.Zw1,Zx1:=a.Zx1 } : Api_Report)) fun (f : List ((Int×Int)×Api_Report)) =>
   some f
  else none
 else
  some b
def Ki (c : List ((Int×Int)×Api_Report)) (e : List Api_Report) (a : Int) (b : Int) (d : Api_Record) : Option (List Api_Report) :=
 lt1 (!((d.Zx1.Ref.Zb == 0) && (d.Zx1.Ref.No == 0))) fun (g : Bool) =>
 if g = true then
  some e
 else
  if Abo a b then
   lt1 ((Jl c (a,b)).isSome) fun (i : Bool) =>
   lt1 ((((Jl c (a,b)).getD Es).Ref).Zb) fun (j : Int) =>
   lt1 ((((Jl c (a,b)).getD Es).Ref).No) fun (k : Int) =>
   lt1 ((((Jl c (a,b)).getD Es).By).Zb) fun (l : Int) =>
   lt1 ((((Jl c (a,b)).getD Es).By).No) fun (m : Int) =>
   lt1 (((Jl c (a,b)).getD Es).Zw1) fun (n : Int) =>
   lt1 ((((Jl c (a,b)).getD Es).Zx1).Za) fun (f : Int) =>
   lt1 (((((Jl c (a,b)).getD Es).Zx1).Ref).Zb) fun (o : Int) =>
   lt1 (((((Jl c (a,b)).getD Es).Zx1).Ref).No) fun (p : Int) =>
   lt1 ((((Jl c (a,b)).getD Es).Zx1).Zn1) fun (q : Int) =>
   lt1 ((((Jl c (a,b)).getD Es).Zx1).Zb1) fun (s : Int) =>
   lt1 ((((Jl c (a,b)).getD Es).Zx1).Zc) fun (t : Int) =>
   lt1 ((((Jl c (a,b)).getD Es).Zx1).Zo1) fun (u : Int) =>
   lt1 ((((Jl c (a,b)).getD Es).Zx1).Zw) fun (v : Int) =>
   lt1 ((((Jl c (a,b)).getD Es).Zx1).To) fun (w : Int) =>
   lt1 ((((Jl c (a,b)).getD Es).Zx1).Code) fun (y : Int) =>
   lt1 ((((Jl c (a,b)).getD Es).Zx1).Zp1) fun (aa : Int) =>
   lt1 ((((Jl c (a,b)).getD Es).Zx1).Zq1) fun (ab : Int) =>
   lt1 ((((Jl c (a,b)).getD Es).Zx1).Zr1) fun (ac : Int) =>
   lt1 ((((Jl c (a,b)).getD Es).Zx1).Zs1) fun (ad : Int) =>
   lt1 ((((Jl c (a,b)).getD Es).Zx1).Zt1) fun (ae : List UInt8) =>
   lt1 ((((Jl c (a,b)).getD Es).Zx1).Zu1) fun (af : List Api_Part) =>
   (if (!i) = true then
    some (.inl (a,b,a,b,d.Zw1,d.Zx1.Za,d.Zx1.Ref.Zb,d.Zx1.Ref.No,d.Zx1.Zn1,d.Zx1.Zb1,d.Zx1.Zc,d.Zx1.Zo1,d.Zx1.Zw,d.Zx1.To,d.Zx1.Code,d.Zx1.Zp1,d.Zx1.Zq1,d.Zx1.Zr1,d.Zx1.Zs1,d.Zx1.Zt1,d.Zx1.Zu1))
   else
    if (f == 14) = true then
     (some e).bind fun ag => some (.inr ag)
    else
     some (.inl (j,k,l,m,n,f,o,p,q,s,t,u,v,w,y,aa,ab,ac,ad,ae,af)) : Option ((Int×Int×Int×Int×Int×Int×Int×Int×Int×Int×Int×Int×Int×Int×Int×Int×Int×Int×Int×List UInt8×List Api_Part) ⊕ (List Api_Report))).bind fun x => match x with
   | .inl (ah,ai,aj,ak,al,am,aD,aE,an,ao,ap,aq,ar,au,av,aw,ax,ay,az,aA,aB) =>
    if Fb (e.length + 1) 192 then
     lt1 (e ++ ([({ Ref:=({ Zb:=ah,No:=ai } : Api_Ref),By:=({ Zb:=aj,No:=ak } : Api_Ref),Zw1:=al,Zx1:=({ Za:=am,Ref:=({ Zb:=0,No:=0 } : Api_Ref),Zn1:=an,Zb1:=ao,Zc:=ap,Zo1:=aq,Zw:=ar,To:=au,Code:=av,Zp1:=aw,Zq1:=ax,Zr1:=ay,Zs1:=az,Zt1:=aA,Zu1:=aB } : Api_Item) } : Api_Report)] : List Api_Report)) fun (aC : List Api_Report) =>
     some aC
    else none
   | .inr z => some z
  else none
def Cq (b : Api_Books) : Option (List Api_Report) :=
 (Nt b).bind fun a =>
 (Up a).bind fun c =>
 (AqK (fun (v : List ((Int×Int)×Api_Report)) (q : Api_Ref) (r : Api_Record) => Ku v q.Zb q.No r) c.Zy1 ([])).bind fun d =>
 (Up a).bind fun e =>
 (AqK (fun (v : List Api_Report) (q : Api_Ref) (r : Api_Record) => Ki d v q.Zb q.No r) e.Zy1 ([])).bind fun f =>
 some f
def law14_sane  : Option (Bool) :=
 r14_Example.bind fun b =>
 (D6 1).bind fun j =>
 (B9 b ({ Zy1:=[],Zz1:=[] } : Api_Books) 0 (7 : UInt64) 5 j).bind fun c =>
 (Bl b ({ Zy1:=[],Zz1:=[] } : Api_Books) c.1).bind fun a =>
 (Bl b a.1 c.1).bind fun e =>
 (D6 1).bind fun k =>
 (B9 b a.1 0 (7 : UInt64) 4 k).bind fun l =>
 (D6 2).bind fun m =>
 (B9 b ({ Zy1:=[],Zz1:=[] } : Api_Books) 0 (7 : UInt64) 5 m).bind fun f =>
 (Bl b a.1 f.1).bind fun d =>
 (D6 1).bind fun n =>
 (B9 b ({ Zy1:=[],Zz1:=[] } : Api_Books) 0 (8 : UInt64) 5 n).bind fun o =>
 (B9 b a.1 0 (7 : UInt64) 6 ({ Za:=14,Ref:=({ Zb:=0,No:=1 } : Api_Ref),Zn1:=0,Zb1:=0,Zc:=0,Zo1:=0,Zw:=0,To:=0,Code:=0,Zp1:=0,Zq1:=0,Zr1:=0,Zs1:=0,Zt1:=([] : List UInt8),Zu1:=[] } : Api_Item)).bind fun g =>
 (Bl b a.1 g.1).bind fun i =>
 (B9 b ({ Zy1:=[],Zz1:=[] } : Api_Books) 0 (7 : UInt64) 5 ({ Za:=14,Ref:=({ Zb:=0,No:=1 } : Api_Ref),Zn1:=0,Zb1:=0,Zc:=0,Zo1:=0,Zw:=0,To:=0,Code:=0,Zp1:=0,Zq1:=0,Zr1:=0,Zs1:=0,Zt1:=([] : List UInt8),Zu1:=[] } : Api_Item)).bind fun p =>
 (if (c.2 == 0) = true then
  if (c.1.No == 1) = true then
   if (c.1.Zv1 == (⟨[(0 : UInt8),(0 : UInt8),(0 : UInt8),(0 : UInt8),(0 : UInt8),(0 : UInt8),(0 : UInt8),(0 : UInt8),(0 : UInt8),(0 : UInt8),(0 : UInt8),(0 : UInt8),(0 : UInt8),(0 : UInt8),(0 : UInt8),(0 : UInt8),(0 : UInt8),(0 : UInt8),(0 : UInt8),(0 : UInt8),(0 : UInt8),(0 : UInt8),(0 : UInt8),(0 : UInt8),(0 : UInt8),(0 : UInt8),(0 : UInt8),(0 : UInt8),(0 : UInt8),(0 : UInt8),(0 : UInt8),(0 : UInt8)],rfl⟩ : Arr UInt8 32)) = true then
    if (a.2 == 0) = true then
     if ((a.1.Zy1.length : Int) == 2) = true then
      if InR 0 a.1.Zy1.length then
       if (((nth a.1.Zy1 0).length : Int) == 1) = true then
        if (e.2 == 0) = true then
         (Qu e.1 a.1).bind fun q =>
         if q = true then
          some (l.2 == 140)
         else
          some false
        else
         some false
       else
        some false
      else none
     else
      some false
    else
     some false
   else
    some false
  else
   some false
 else
  some false : Option (Bool)).bind fun s =>
 (if (f.2 == 0) = true then
  if (d.2 == 0) = true then
   if ((d.1.Zz1.length : Int) == 1) = true then
    (Fa d.1 0).bind fun t =>
    if (t == 1) = true then
     (Fa a.1 0).bind fun u =>
     if (u == 0) = true then
      (Cq d.1).bind fun v =>
      if ((v.length : Int) == 0) = true then
       (Cq a.1).bind fun w =>
       some ((w.length : Int) == 1)
      else
       some false
     else
      some false
    else
     some false
   else
    some false
  else
   some false
 else
  some false : Option (Bool)).bind fun x =>
 (if s = true then
  if x = true then
   if (o.2 == 30) = true then
    if (g.2 == 0) = true then
     if (i.2 == 0) = true then
      (Cq i.1).bind fun y =>
      if ((y.length : Int) == 0) = true then
       some (p.2 == 110)
      else
       some false
     else
      some false
    else
     some false
   else
    some false
  else
   some false
 else
  some false : Option (Bool)).bind fun z =>
 some z
def Je (b : Api_Pool) (a : Int) : Option ((Int) ⊕ ((Unit) ⊕ ((Unit) ⊕ (Bool)))) :=
 (if (decide (a < (b.Zk1.length : Int))) = true then
  some (decide (a < 5))
 else
  some false : Option (Bool)).bind fun c =>
 if c = true then
  if InR a b.Zk1.length then
   lt1 (decide (((((nth b.Zk1 a.toNat).Zf1).Ze1).length : Int) > 5)) fun (d : Bool) =>
   if d = true then
    ((some false).bind fun e => some (.inr e)).bind fun f => some (.inr (.inr f))
   else
    some (.inl (w64 (a + 1)))
  else none
 else
  some (.inr (.inl ()))
def L4 (a : Api_Pool) : Option (Bool) :=
 ((A6 (fun (v : Int) => Je a v) 0).bind fun x => match x with
 | .inl () =>
  some (.inl ())
 | .inr z => some z : Option ((Unit) ⊕ (Bool))).bind fun x => match x with
 | .inl () =>
  (if (decide ((a.Zg1.Ze.length : Int)≤20)) = true then
   some (decide ((a.Zg1.Zf.length : Int)≤20))
  else
   some false : Option (Bool)).bind fun b =>
  (if (decide ((a.Zh1.Zy.length : Int)≤20)) = true then
   if (decide ((a.Zh1.Zx.length : Int)≤20)) = true then
    if (decide ((a.Zh1.Zz.length : Int)≤20)) = true then
     some (decide ((a.Zh1.Za1.length : Int)≤20))
    else
     some false
   else
    some false
  else
   some false : Option (Bool)).bind fun c =>
  (if b = true then
   if c = true then
    if (decide ((a.Zi1.length : Int)≤20)) = true then
     if (decide ((a.Zj1.length : Int)≤20)) = true then
      some (decide ((a.Zk1.length : Int)≤4))
     else
      some false
    else
     some false
   else
    some false
  else
   some false : Option (Bool)).bind fun d =>
  some d
 | .inr z => some z
def E5 (a : Api_Item) : Option (Bool) :=
 (if (decide ((a.Zt1.length : Int)≤1000)) = true then
  some (decide ((a.Zu1.length : Int)≤20))
 else
  some false : Option (Bool)).bind fun b =>
 some b
def Ep (a : Api_Books) (b : Int) (c : Int) : Option ((Int) ⊕ ((Unit) ⊕ ((Unit) ⊕ ((Int) ⊕ ((Unit) ⊕ ((Unit) ⊕ (Bool))))))) :=
 if InR b a.Zy1.length then
  lt1 (decide (c < ((nth a.Zy1 b.toNat).length : Int))) fun (d : Bool) =>
  if d = true then
   if InR b a.Zy1.length then
    if InR c ((nth a.Zy1 b.toNat).length) then
     (E5 ((nth (nth a.Zy1 b.toNat) c.toNat).Zx1)).bind fun e =>
     if (!e) = true then
      ((((some false).bind fun f => some (.inr f)).bind fun g => some (.inr (.inr g))).bind fun i => some (.inr i)).bind fun j => some (.inr (.inr j))
     else
      some (.inl (w64 (c + 1)))
    else none
   else none
  else
   some (.inr (.inl ()))
 else none
def Fl (b : Api_Books) (a : Int) : Option ((Int) ⊕ ((Unit) ⊕ ((Unit) ⊕ (Bool)))) :=
 if (decide (a < (b.Zy1.length : Int))) = true then
  (if InR a b.Zy1.length then
   lt1 (decide (((nth b.Zy1 a.toNat).length : Int) > 12)) fun (c : Bool) =>
   if c = true then
    (((some false).bind fun d => some (.inr d)).bind fun e => some (.inr (.inr e))).bind fun f => some (.inr f)
   else
    (A6 (fun (v : Int) => Ep b a v) 0).bind fun x => match x with
    | .inl () =>
     some (.inl ())
    | .inr z => some z
  else none : Option ((Unit) ⊕ ((Int) ⊕ ((Unit) ⊕ ((Unit) ⊕ (Bool)))))).bind fun x => match x with
  | .inl () =>
   some (.inl (w64 (a + 1)))
  | .inr z => some z
 else
  some (.inr (.inl ()))
def Fv (b : Api_Books) (a : Int) : Option ((Int) ⊕ ((Unit) ⊕ ((Unit) ⊕ (Bool)))) :=
 if (decide (a < (b.Zz1.length : Int))) = true then
  (if InR a b.Zz1.length then
   (E5 (((nth b.Zz1 a.toNat).A).Zx1)).bind fun c =>
   if (!c) = true then
    some true
   else
    if InR a b.Zz1.length then
     (E5 (((nth b.Zz1 a.toNat).B).Zx1)).bind fun d =>
     some (!d)
    else none
  else none : Option (Bool)).bind fun e =>
  if e = true then
   ((some false).bind fun f => some (.inr f)).bind fun g => some (.inr (.inr g))
  else
   some (.inl (w64 (a + 1)))
 else
  some (.inr (.inl ()))
def Ir (a : Api_Books) : Option (Bool) :=
 (if (decide ((a.Zy1.length : Int) > 4)) = true then
  some true
 else
  some (decide ((a.Zz1.length : Int) > 6)) : Option (Bool)).bind fun b =>
 if b = true then
  some false
 else
  ((A6 (fun (v : Int) => Fl a v) 0).bind fun x => match x with
  | .inl () =>
   some (.inl ())
  | .inr z => some z : Option ((Unit) ⊕ (Bool))).bind fun x => match x with
  | .inl () =>
   ((A6 (fun (v : Int) => Fv a v) 0).bind fun x => match x with
   | .inl () =>
    some (.inl ())
   | .inr z => some z : Option ((Unit) ⊕ (Bool))).bind fun x => match x with
   | .inl () =>
    some true
   | .inr z => some z
  | .inr z => some z
def W8 (b : Api_Books) (a : Int) : Option (List Api_Record) :=
 (if (decide (a < 0)) = true then
  some true
 else
  some (decide (a ≥ (b.Zy1.length : Int))) : Option (Bool)).bind fun c =>
 if c = true then
  some ([])
 else
  if InR a b.Zy1.length then
   some (nth b.Zy1 a.toNat)
  else none
def Cr (d : Api_Pool) (e : Api_Books) (b : Int) (l : UInt64) (g : Int) (i : Api_Item) : Option (Bool) :=
 law14_sane.bind fun m =>
 if (!m) = true then
  some false
 else
  ((L4 d).bind fun n =>
  if (!n) = true then
   some true
  else
   (Ir e).bind fun o =>
   if (!o) = true then
    some true
   else
    (E5 i).bind fun p =>
    some (!p) : Option (Bool)).bind fun q =>
  if q = true then
   some true
  else
   (B9 d e b l g i).bind fun a =>
   if (a.2 != 0) = true then
    (D9 a.1 ({ Zb:=0,No:=0,Zv1:=(Arr.rep 32 (0 : UInt8)),Zw1:=0,Zx1:=({ Za:=0,Ref:=({ Zb:=0,No:=0 } : Api_Ref),Zn1:=0,Zb1:=0,Zc:=0,Zo1:=0,Zw:=0,To:=0,Code:=0,Zp1:=0,Zq1:=0,Zr1:=0,Zs1:=0,Zt1:=([] : List UInt8),Zu1:=[] } : Api_Item),Sig:=({ C:=(0 : UInt64),S:=(0 : UInt64) } : Api_Sig) } : Api_Record)).bind fun s =>
    some s
   else
    (Bl d e a.1).bind fun f =>
    (I6 a.1).bind fun j =>
    (if (f.2 != 0) = true then
     some true
    else
     if (j.2 != 0) = true then
      some true
     else
      if (decide (b < 0)) = true then
       some true
      else
       if (decide (b ≥ (d.Zk1.length : Int))) = true then
        some true
       else
        if (decide ((f.1.Zy1.length : Int) < (d.Zk1.length : Int))) = true then
         some true
        else
         if InR b d.Zk1.length then
          (F9 ((nth d.Zk1 b.toNat).Key) j.1 a.1.Sig).bind fun t =>
          some (!t)
         else none : Option (Bool)).bind fun u =>
    if u = true then
     some false
    else
     (W8 e b).bind fun c =>
     lt1 (⟨[(0 : UInt8),(0 : UInt8),(0 : UInt8),(0 : UInt8),(0 : UInt8),(0 : UInt8),(0 : UInt8),(0 : UInt8),(0 : UInt8),(0 : UInt8),(0 : UInt8),(0 : UInt8),(0 : UInt8),(0 : UInt8),(0 : UInt8),(0 : UInt8),(0 : UInt8),(0 : UInt8),(0 : UInt8),(0 : UInt8),(0 : UInt8),(0 : UInt8),(0 : UInt8),(0 : UInt8),(0 : UInt8),(0 : UInt8),(0 : UInt8),(0 : UInt8),(0 : UInt8),(0 : UInt8),(0 : UInt8),(0 : UInt8)],rfl⟩ : Arr UInt8 32) fun (v : Arr UInt8 32) =>
     (if (decide ((c.length : Int) > 0)) = true then
      if InR (w64 ((c.length : Int) - 1)) c.length then
       (Eo (nth c ((w64 ((c.length : Int) - 1)).toNat))).bind fun w =>
       some w.1
      else none
     else
      some v : Option (Arr UInt8 32)).bind fun x =>
     if Fb (0 + c.length) 224 then
      lt1 (([] : List Api_Record) ++ c) fun (k : List Api_Record) =>
      (if (a.1.No == (w64 ((c.length : Int) + 1))) = true then
       if (a.1.Zw1 == g) = true then
        if (a.1.Zv1 == x) = true then
         if (a.1.Zb == b) = true then
          if ((f.1.Zz1.length : Int) == (e.Zz1.length : Int)) = true then
           if InR b f.1.Zy1.length then
            if Fb (k.length + 1) 224 then
             (Ip (nth f.1.Zy1 b.toNat) (k ++ ([a.1] : List Api_Record))).bind fun y =>
             some y
            else none
           else none
          else
           some false
         else
          some false
        else
         some false
       else
        some false
      else
       some false : Option (Bool)).bind fun z =>
      some z
     else none
end Go.Proofs.YtioapcamanmoiaaDoor
