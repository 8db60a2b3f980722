/-
  Part 46.
-/
import Derived.Test.YtioapcamanmoiaaGreatDoorProg
import Derived.Test.YtioapcamanmoiaaGreatDoorYR42
import Derived.Test.YtioapcamanmoiaaGreatDoorYR45
import Derived.KernelRfl
namespace Go.Proofs.YtioapcamanmoiaaGreatDoor
open Go.Rv
set_option linter.unusedVariables false
set_option linter.unusedSimpArgs false
set_option maxRecDepth 20000
def glob3:Arr UInt32 64:=⟨[1116352408,1899447441,3049323471,3921009573,961987163,1508970993,2453635748,2870763221,3624381080,310598401,607225278,1426881987,1925078388,2162078206,2614888103,3248222580,3835390401,4022224774,264347078,604807628,770255983,1249150122,1555081692,1996064986,2554220882,2821834349,2952996808,3210313671,3336571891,3584528711,113926993,338241895,666307205,773529912,1294757372,1396182291,1695183700,1986661051,2177026350,2456956037,2730485921,2820302411,3259730800,3345764771,3516065817,3600352804,4094571909,275423344,430227734,506948616,659060556,883997877,958139571,1322822218,1537002063,1747873779,1955562222,2024104815,2227730452,2361852424,2428436474,2756734187,3204031479,3329325298],rfl⟩
theorem Ali:MpLaw Tryz.prog 138 44 143:=AcY (m:=6) (by kernel_rfl) (by decide) (by kernel_rfl) (by kernel_rfl) (by kernel_rfl) (fun a b h=>Afg (m:=254) ⟨"Railway", 3,0,false,"","", 0⟩ ⟨"No", 3,1,false,"","", 8⟩ (by kernel_rfl) (by kernel_rfl) (by kernel_rfl) (by kernel_rfl) (by kernel_rfl) (by kernel_rfl) (by kernel_rfl) rfl rfl (by decide) (by decide) (by kernel_rfl) h)
attribute [go_sem_proc] reduceIte Nat.reduceLT Nat.reduceEqDiff Nat.reduceAdd Nat.reduceBEq Nat.reduceMul Nat.reduceSub Nat.reduceGT Nat.reducePow Nat.reduceLeDiff Int.reduceToNat Int.reduceLT Int.reduceAdd Int.reduceSub Nat.reduceGT Nat.reduceLeDiff Int.reduceBEq Int.reduceGT Int.reduceLE Int.reduceGE
attribute [go_sem] AnY decide_true decide_false Bool.false_eq_true beq_self_eq_true
noncomputable def B:Base:=Yq Tryz.prog (fun i=>if i=3 then some (C1 u32 glob3.l)else none) (fun f _=>[29,30,31,32,46,48,62,66,79,82,90,91,92,107,117,123,126,127,129,130,131,142,149,150,151,152,153,154,155].contains f) (fun _=>none) (fun _=>none) none true (fun _ _=>rfl) (some (138,44,143)) (Afy Ali)
theorem tbk{t F x}(h:Bh Tryz.prog t=x):(B.env F).tab t=x:=(Az Tryz.prog t).trans h
theorem ok:B.Ok:=Xa _ _ _ _ _ _ _ _ _ _
theorem lm0(F:Out):(B.env F).lm=true:=rfl
variable(F:Out)(xs:List Operand)
theorem own3:(B.env F).own 3 xs=false:=rfl
theorem own4:(B.env F).own 4 xs=false:=rfl
theorem own5:(B.env F).own 5 xs=false:=rfl
theorem own6:(B.env F).own 6 xs=false:=rfl
theorem own7:(B.env F).own 7 xs=false:=rfl
theorem own8:(B.env F).own 8 xs=false:=rfl
theorem own9:(B.env F).own 9 xs=false:=rfl
theorem AmK:(B.env F).own 10 xs=false:=rfl
theorem Anc:(B.env F).own 11 xs=false:=rfl
theorem AnO:(B.env F).own 12 xs=false:=rfl
theorem Anz:(B.env F).own 13 xs=false:=rfl
theorem Ams:(B.env F).own 14 xs=false:=rfl
theorem Alq:(B.env F).own 15 xs=false:=rfl
theorem AnJ:(B.env F).own 16 xs=false:=rfl
theorem An0:(B.env F).own 17 xs=false:=rfl
theorem AkI:(B.env F).own 18 xs=false:=rfl
theorem AnE:(B.env F).own 19 xs=false:=rfl
theorem Alr:(B.env F).own 20 xs=false:=rfl
theorem AnI:(B.env F).own 21 xs=false:=rfl
theorem Amu:(B.env F).own 22 xs=false:=rfl
theorem Am2:(B.env F).own 23 xs=false:=rfl
theorem Ame:(B.env F).own 24 xs=false:=rfl
theorem Aoc:(B.env F).own 25 xs=false:=rfl
theorem AmQ:(B.env F).own 26 xs=false:=rfl
theorem Amx:(B.env F).own 27 xs=false:=rfl
theorem Aly:(B.env F).own 28 xs=false:=rfl
theorem AmC:(B.env F).own 29 xs=true:=rfl
theorem Aml:(B.env F).own 30 xs=true:=rfl
theorem Ans:(B.env F).own 31 xs=true:=rfl
theorem Alt:(B.env F).own 32 xs=true:=rfl
theorem Ak6:(B.env F).own 33 xs=false:=rfl
theorem AlD:(B.env F).own 34 xs=false:=rfl
theorem AnC:(B.env F).own 35 xs=false:=rfl
theorem Ank:(B.env F).own 36 xs=false:=rfl
theorem AkU:(B.env F).own 37 xs=false:=rfl
theorem AnT:(B.env F).own 38 xs=false:=rfl
theorem Ang:(B.env F).own 39 xs=false:=rfl
theorem AlP:(B.env F).own 40 xs=false:=rfl
theorem AlR:(B.env F).own 41 xs=false:=rfl
theorem AkM:(B.env F).own 42 xs=false:=rfl
theorem Ak7:(B.env F).own 43 xs=false:=rfl
theorem Ana:(B.env F).own 44 xs=false:=rfl
theorem AkY:(B.env F).own 45 xs=false:=rfl
theorem AmB:(B.env F).own 46 xs=true:=rfl
theorem AlU:(B.env F).own 47 xs=false:=rfl
theorem Ani:(B.env F).own 48 xs=true:=rfl
theorem Aod:(B.env F).own 49 xs=false:=rfl
theorem Ant:(B.env F).own 50 xs=false:=rfl
theorem An5:(B.env F).own 51 xs=false:=rfl
theorem Al1:(B.env F).own 52 xs=false:=rfl
theorem Amv:(B.env F).own 53 xs=false:=rfl
theorem AlA:(B.env F).own 54 xs=false:=rfl
theorem AlQ:(B.env F).own 55 xs=false:=rfl
theorem Ak1:(B.env F).own 56 xs=false:=rfl
theorem AlO:(B.env F).own 57 xs=false:=rfl
theorem Amn:(B.env F).own 58 xs=false:=rfl
theorem An3:(B.env F).own 59 xs=false:=rfl
theorem AlT:(B.env F).own 60 xs=false:=rfl
theorem AnH:(B.env F).own 61 xs=false:=rfl
theorem AlC:(B.env F).own 62 xs=true:=rfl
theorem Aof:(B.env F).own 63 xs=false:=rfl
theorem Alp:(B.env F).own 64 xs=false:=rfl
theorem Alw:(B.env F).own 65 xs=false:=rfl
theorem AlB:(B.env F).own 66 xs=true:=rfl
theorem Am1:(B.env F).own 67 xs=false:=rfl
theorem AnX:(B.env F).own 68 xs=false:=rfl
theorem Ak3:(B.env F).own 69 xs=false:=rfl
theorem AlV:(B.env F).own 70 xs=false:=rfl
theorem An2:(B.env F).own 71 xs=false:=rfl
theorem AlS:(B.env F).own 72 xs=false:=rfl
theorem Ak4:(B.env F).own 73 xs=false:=rfl
theorem AlN:(B.env F).own 74 xs=false:=rfl
theorem Ami:(B.env F).own 75 xs=false:=rfl
theorem AnL:(B.env F).own 76 xs=false:=rfl
theorem AnF:(B.env F).own 77 xs=false:=rfl
theorem Amg:(B.env F).own 78 xs=false:=rfl
theorem AlK:(B.env F).own 79 xs=true:=rfl
theorem AkX:(B.env F).own 80 xs=false:=rfl
theorem An4:(B.env F).own 81 xs=false:=rfl
theorem Al3:(B.env F).own 82 xs=true:=rfl
theorem Amc:(B.env F).own 83 xs=false:=rfl
theorem AnQ:(B.env F).own 84 xs=false:=rfl
theorem Am6:(B.env F).own 85 xs=false:=rfl
theorem AnK:(B.env F).own 86 xs=false:=rfl
theorem Amr:(B.env F).own 87 xs=false:=rfl
theorem Amf:(B.env F).own 88 xs=false:=rfl
theorem An7:(B.env F).own 90 xs=true:=rfl
theorem Ak5:(B.env F).own 91 xs=true:=rfl
theorem AmU:(B.env F).own 92 xs=true:=rfl
theorem Aoj:(B.env F).own 93 xs=false:=rfl
theorem AkO:(B.env F).own 94 xs=false:=rfl
theorem AmG:(B.env F).own 95 xs=false:=rfl
theorem Aoa:(B.env F).own 96 xs=false:=rfl
theorem Al0:(B.env F).own 97 xs=false:=rfl
theorem AmH:(B.env F).own 98 xs=false:=rfl
theorem AnD:(B.env F).own 99 xs=false:=rfl
theorem AgX:(B.env F).own 101 xs=false:=rfl
theorem AiI:(B.env F).own 102 xs=false:=rfl
theorem Air:(B.env F).own 103 xs=false:=rfl
theorem Ahk:(B.env F).own 104 xs=false:=rfl
theorem Akf:(B.env F).own 105 xs=false:=rfl
theorem Aie:(B.env F).own 106 xs=false:=rfl
theorem Ag7:(B.env F).own 107 xs=true:=rfl
theorem Ais:(B.env F).own 108 xs=false:=rfl
theorem AiS:(B.env F).own 109 xs=false:=rfl
theorem AiQ:(B.env F).own 110 xs=false:=rfl
theorem Akd:(B.env F).own 111 xs=false:=rfl
theorem AgV:(B.env F).own 112 xs=false:=rfl
theorem AiW:(B.env F).own 113 xs=false:=rfl
theorem Ahh:(B.env F).own 114 xs=false:=rfl
theorem Aik:(B.env F).own 115 xs=false:=rfl
theorem AiF:(B.env F).own 116 xs=false:=rfl
theorem Ahp:(B.env F).own 117 xs=true:=rfl
theorem Ag3:(B.env F).own 118 xs=false:=rfl
theorem Aht:(B.env F).own 119 xs=false:=rfl
theorem Ai1:(B.env F).own 120 xs=false:=rfl
theorem AjU:(B.env F).own 121 xs=false:=rfl
theorem Aiq:(B.env F).own 122 xs=false:=rfl
theorem Aj0:(B.env F).own 123 xs=true:=rfl
theorem Aiw:(B.env F).own 124 xs=false:=rfl
theorem Aho:(B.env F).own 125 xs=false:=rfl
theorem AjM:(B.env F).own 126 xs=true:=rfl
theorem Ahf:(B.env F).own 127 xs=true:=rfl
theorem Ah7:(B.env F).own 128 xs=false:=rfl
theorem Aia:(B.env F).own 129 xs=true:=rfl
theorem AiB:(B.env F).own 130 xs=true:=rfl
theorem AiY:(B.env F).own 131 xs=true:=rfl
theorem AgW:(B.env F).own 132 xs=false:=rfl
theorem Ain:(B.env F).own 133 xs=false:=rfl
theorem AhA:(B.env F).own 134 xs=false:=rfl
theorem AiC:(B.env F).own 135 xs=false:=rfl
theorem AiZ:(B.env F).own 136 xs=false:=rfl
theorem AjK:(B.env F).own 137 xs=false:=rfl
theorem Ajy:(B.env F).own 138 xs=false:=rfl
theorem Aj6:(B.env F).own 139 xs=false:=rfl
theorem AgY:(B.env F).own 140 xs=false:=rfl
theorem AjO:(B.env F).own 141 xs=false:=rfl
theorem Ahl:(B.env F).own 142 xs=true:=rfl
theorem Aj1:(B.env F).own 143 xs=false:=rfl
theorem AiP:(B.env F).own 144 xs=false:=rfl
theorem AhO:(B.env F).own 145 xs=false:=rfl
theorem Ahm:(B.env F).own 146 xs=false:=rfl
theorem Ah9:(B.env F).own 147 xs=false:=rfl
theorem Ahv:(B.env F).own 148 xs=false:=rfl
theorem AhP:(B.env F).own 149 xs=true:=rfl
theorem AiA:(B.env F).own 150 xs=true:=rfl
theorem Ajl:(B.env F).own 151 xs=true:=rfl
theorem AhI:(B.env F).own 152 xs=true:=rfl
theorem Ai5:(B.env F).own 153 xs=true:=rfl
theorem Aih:(B.env F).own 154 xs=true:=rfl
theorem AhG:(B.env F).own 155 xs=true:=rfl
theorem AjH:(B.env F).own 156 xs=false:=rfl
theorem Aib:(B.env F).own 157 xs=false:=rfl
theorem Ahy:(B.env F).own 158 xs=false:=rfl
theorem AjQ:(B.env F).own 159 xs=false:=rfl
theorem Ahr:(B.env F).own 160 xs=false:=rfl
theorem Aj2:(B.env F).own 161 xs=false:=rfl
theorem Aix:(B.env F).own 162 xs=false:=rfl
theorem AgQ:(B.env F).own 163 xs=false:=rfl
theorem Aig:(B.env F).own 164 xs=false:=rfl
theorem Akk:(B.env F).own 165 xs=false:=rfl
theorem Ai2:(B.env F).own 166 xs=false:=rfl
theorem AiR:(B.env F).own 167 xs=false:=rfl
theorem Ah4:(B.env F).own 168 xs=false:=rfl
theorem Aip:(B.env F).own 169 xs=false:=rfl
theorem KE:Tryz.prog.follows .mixedOrders=true:=by kernel_rfl
structure Aol where
  Za:Int
  Zb:Int
  Zc:Int
  deriving DecidableEq,Inhabited
def An(x:Aol):List AV:=[i64 x.Za,i64 x.Zb,i64 x.Zc]
structure Aom where
  A:Int
  B:Int
  Zb:Int
  Zd:Int
  Km:Int
  deriving DecidableEq,Inhabited
def Ar(x:Aom):List AV:=[i64 x.A,i64 x.B,i64 x.Zb,i64 x.Zd,i64 x.Km]
structure Aon where
  Ze:List Aol
  Zf:List Aom
  deriving DecidableEq,Inhabited
def R9(x:Aon):List AV:=[.sl false (L An x.Ze),.sl false (L Ar x.Zf)]
structure Aoo where
  Zg:Int
  Zh:Int
  Zi:Int
  Zj:Int
  Zk:Int
  Zl:UInt64
  Zm:Int
  Zn:Int
  deriving DecidableEq,Inhabited
def Ac(x:Aoo):List AV:=[i64 x.Zg,i64 x.Zh,i64 x.Zi,i64 x.Zj,i64 x.Zk,u64 x.Zl,i64 x.Zm,i64 x.Zn]
structure Aop where
  Zo:Int
  Zp:Int
  Zq:Int
  Zr:Int
  Zs:Int
  deriving DecidableEq,Inhabited
def Ag(x:Aop):List AV:=[i64 x.Zo,i64 x.Zp,i64 x.Zq,i64 x.Zr,i64 x.Zs]
structure Aoq where
  Zt:Int
  Zu:Int
  Zv:Int
  deriving DecidableEq,Inhabited
def Aj(x:Aoq):List AV:=[i64 x.Zt,i64 x.Zu,i64 x.Zv]
structure Aor where
  Zw:Int
  To:Int
  Zd:Int
  deriving DecidableEq,Inhabited
def Ai(x:Aor):List AV:=[i64 x.Zw,i64 x.To,i64 x.Zd]
structure Aos where
  Zx:List Aoo
  Zy:List Aop
  Zz:List Aoq
  Za1:List Aor
  deriving DecidableEq,Inhabited
def Ya(x:Aos):List AV:=[.sl false (L Ac x.Zx),.sl false (L Ag x.Zy),.sl false (L Aj x.Zz),.sl false (L Ai x.Za1)]
structure Aot where
  Zb1:Int
  Low:Int
  Zc1:Int
  deriving DecidableEq,Inhabited
def Ap(x:Aot):List AV:=[i64 x.Zb1,i64 x.Low,i64 x.Zc1]
structure Aou where
  Zb1:Int
  deriving DecidableEq,Inhabited
def Am(x:Aou):List AV:=[i64 x.Zb1]
structure Aov where
  Zw:Int
  To:Int
  deriving DecidableEq,Inhabited
def ZU(x:Aov):List AV:=[i64 x.Zw,i64 x.To]
structure Aow where
  Zd1:(Aov×Aov×Aov×Aov×Aov×Aov×Aov)
  Ze1:List Int
  deriving DecidableEq,Inhabited
def Qv(x:Aow):List AV:=[i64 x.Zd1.1.Zw,i64 x.Zd1.1.To,i64 x.Zd1.2.1.Zw,i64 x.Zd1.2.1.To,i64 x.Zd1.2.2.1.Zw,i64 x.Zd1.2.2.1.To,i64 x.Zd1.2.2.2.1.Zw,i64 x.Zd1.2.2.2.1.To,i64 x.Zd1.2.2.2.2.1.Zw,i64 x.Zd1.2.2.2.2.1.To,i64 x.Zd1.2.2.2.2.2.1.Zw,i64 x.Zd1.2.2.2.2.2.1.To,i64 x.Zd1.2.2.2.2.2.2.Zw,i64 x.Zd1.2.2.2.2.2.2.To,.sl false (L JB x.Ze1)]
structure Aox where
  Key:UInt64
  Zf1:Aow
  deriving DecidableEq,Inhabited
def Ae(x:Aox):List AV:=[u64 x.Key,i64 x.Zf1.Zd1.1.Zw,i64 x.Zf1.Zd1.1.To,i64 x.Zf1.Zd1.2.1.Zw,i64 x.Zf1.Zd1.2.1.To,i64 x.Zf1.Zd1.2.2.1.Zw,i64 x.Zf1.Zd1.2.2.1.To,i64 x.Zf1.Zd1.2.2.2.1.Zw,i64 x.Zf1.Zd1.2.2.2.1.To,i64 x.Zf1.Zd1.2.2.2.2.1.Zw,i64 x.Zf1.Zd1.2.2.2.2.1.To,i64 x.Zf1.Zd1.2.2.2.2.2.1.Zw,i64 x.Zf1.Zd1.2.2.2.2.2.1.To,i64 x.Zf1.Zd1.2.2.2.2.2.2.Zw,i64 x.Zf1.Zd1.2.2.2.2.2.2.To,.sl false (L JB x.Zf1.Ze1)]
structure Aoy where
  Zg1:Aon
  Zh1:Aos
  Zi1:List Aot
  Zj1:List Aou
  Zk1:List Aox
  deriving DecidableEq,Inhabited
def A3(x:Aoy):List AV:=[.sl false (L An x.Zg1.Ze),.sl false (L Ar x.Zg1.Zf),.sl false (L Ac x.Zh1.Zx),.sl false (L Ag x.Zh1.Zy),.sl false (L Aj x.Zh1.Zz),.sl false (L Ai x.Zh1.Za1),.sl false (L Ap x.Zi1),.sl false (L Am x.Zj1),.sl false (L Ae x.Zk1)]
structure Aoz where
  Zb:Int
  No:Int
  deriving DecidableEq,Inhabited
def Wa(x:Aoz):List AV:=[i64 x.Zb,i64 x.No]
structure AoA where
  Za:Int
  Zl1:Int
  Zm1:Bool
  deriving DecidableEq,Inhabited
def Ah(x:AoA):List AV:=[i64 x.Za,i64 x.Zl1,.bool x.Zm1]
structure AoB where
  Za:Int
  Ref:Aoz
  Zn1:Int
  Zb1:Int
  Zc:Int
  Zo1:Int
  Zw:Int
  To:Int
  Code:Int
  Zp1:Int
  Zq1:Int
  Zr1:Int
  Zs1:Int
  Zt1:List UInt8
  Zu1:List AoA
  deriving DecidableEq,Inhabited
def AB(x:AoB):List AV:=[i64 x.Za,i64 x.Ref.Zb,i64 x.Ref.No,i64 x.Zn1,i64 x.Zb1,i64 x.Zc,i64 x.Zo1,i64 x.Zw,i64 x.To,i64 x.Code,i64 x.Zp1,i64 x.Zq1,i64 x.Zr1,i64 x.Zs1,.str x.Zt1,.sl false (L Ah x.Zu1)]
structure AoC where
  C:UInt64
  S:UInt64
  deriving DecidableEq,Inhabited
def Q0(x:AoC):List AV:=[u64 x.C,u64 x.S]
structure AoD where
  Zb:Int
  No:Int
  Zv1:Arr UInt8 32
  Zw1:Int
  Zx1:AoB
  Sig:AoC
  deriving DecidableEq,Inhabited
def Ad(x:AoD):List AV:=(i64 x.Zb::i64 x.No::(C1 u8 x.Zv1.l++[i64 x.Zw1,i64 x.Zx1.Za,i64 x.Zx1.Ref.Zb,i64 x.Zx1.Ref.No,i64 x.Zx1.Zn1,i64 x.Zx1.Zb1,i64 x.Zx1.Zc,i64 x.Zx1.Zo1,i64 x.Zx1.Zw,i64 x.Zx1.To,i64 x.Zx1.Code,i64 x.Zx1.Zp1,i64 x.Zx1.Zq1,i64 x.Zx1.Zr1,i64 x.Zx1.Zs1,.str x.Zx1.Zt1,.sl false (L Ah x.Zx1.Zu1),u64 x.Sig.C,u64 x.Sig.S]))
structure AoE where
  A:AoD
  B:AoD
  deriving DecidableEq,Inhabited
def A9(x:AoE):List AV:=(i64 x.A.Zb::i64 x.A.No::(C1 u8 x.A.Zv1.l++i64 x.A.Zw1::i64 x.A.Zx1.Za::i64 x.A.Zx1.Ref.Zb::i64 x.A.Zx1.Ref.No::i64 x.A.Zx1.Zn1::i64 x.A.Zx1.Zb1::i64 x.A.Zx1.Zc::i64 x.A.Zx1.Zo1::i64 x.A.Zx1.Zw::i64 x.A.Zx1.To::i64 x.A.Zx1.Code::i64 x.A.Zx1.Zp1::i64 x.A.Zx1.Zq1::i64 x.A.Zx1.Zr1::i64 x.A.Zx1.Zs1::.str x.A.Zx1.Zt1::.sl false (L Ah x.A.Zx1.Zu1)::u64 x.A.Sig.C::u64 x.A.Sig.S::i64 x.B.Zb::i64 x.B.No::(C1 u8 x.B.Zv1.l++[i64 x.B.Zw1,i64 x.B.Zx1.Za,i64 x.B.Zx1.Ref.Zb,i64 x.B.Zx1.Ref.No,i64 x.B.Zx1.Zn1,i64 x.B.Zx1.Zb1,i64 x.B.Zx1.Zc,i64 x.B.Zx1.Zo1,i64 x.B.Zx1.Zw,i64 x.B.Zx1.To,i64 x.B.Zx1.Code,i64 x.B.Zx1.Zp1,i64 x.B.Zx1.Zq1,i64 x.B.Zx1.Zr1,i64 x.B.Zx1.Zs1,.str x.B.Zx1.Zt1,.sl false (L Ah x.B.Zx1.Zu1),u64 x.B.Sig.C,u64 x.B.Sig.S])))
structure AoF where
  Zy1:List (List AoD)
  Zz1:List AoE
  deriving DecidableEq,Inhabited
def Ak(x:AoF):List AV:=[.sl false (L (cSl Ad) x.Zy1),.sl false (L A9 x.Zz1)]
inductive AoG where
  |mk (Za:Int) (N:Int) (B:List UInt8) (L:List AoG)
instance:Inhabited AoG:=⟨.mk default default default default⟩
def AoG.Za(x:AoG):Int:=match x with
 |.mk a _ _ _=>a
theorem Ph{x0:Int}{x1:Int}{x2:List UInt8}{x3:List AoG}:(AoG.mk x0 x1 x2 x3).Za=x0:=rfl
def AoG.N(x:AoG):Int:=match x with
 |.mk _ a _ _=>a
theorem UB{x0:Int}{x1:Int}{x2:List UInt8}{x3:List AoG}:(AoG.mk x0 x1 x2 x3).N=x1:=rfl
def AoG.B(x:AoG):List UInt8:=match x with
 |.mk _ _ a _=>a
theorem US{x0:Int}{x1:Int}{x2:List UInt8}{x3:List AoG}:(AoG.mk x0 x1 x2 x3).B=x2:=rfl
def AoG.L(x:AoG):List AoG:=match x with
 |.mk _ _ _ a=>a
theorem TA{x0:Int}{x1:Int}{x2:List UInt8}{x3:List AoG}:(AoG.mk x0 x1 x2 x3).L=x3:=rfl
noncomputable def cApi_Value(v:AoG):List AV:=AoG.rec (motive_1:=fun _=>List AV) (motive_2:=fun _=>List (List AV)) (fun Kind_ N_ B_ L_ ih3=>[i64 Kind_,i64 N_,.sl false (L cU8 B_),.sl false ih3]) [] (fun _ _ x l=>x::l) v
theorem S9(l:List AoG):AoG.rec_1 (motive_1:=fun _=>List AV) (motive_2:=fun _=>List (List AV)) (fun Kind_ N_ B_ L_ ih3=>[i64 Kind_,i64 N_,.sl false (L cU8 B_),.sl false ih3]) [] (fun _ _ x l=>x::l) l=L cApi_Value l:=by
 induction l with
 |nil=>rfl
 |cons x l ih=>exact ApW (cApi_Value x::·) ih
theorem K6(x:AoG):cApi_Value x=[i64 x.Za,i64 x.N,.sl false (L cU8 x.B),.sl false (L cApi_Value x.L)]:=by
  cases x with
  | mk a0 a1 a2 a3=>
    show[i64 a0,i64 a1,.sl false (L cU8 a2),.sl false (AoG.rec_1 (motive_1:=fun _=>List AV) (motive_2:=fun _=>List (List AV)) (fun Kind_ N_ B_ L_ ih3=>[i64 Kind_,i64 N_,.sl false (L cU8 B_),.sl false ih3]) [] (fun _ _ x l=>x::l) a3)]=_;rw[S9];rfl
structure AoH where
  p:Aoy
  it:AoB
  ok:Bool
  deriving DecidableEq,Inhabited
def Af(x:AoH):List AV:=[.sl false (L An x.p.Zg1.Ze),.sl false (L Ar x.p.Zg1.Zf),.sl false (L Ac x.p.Zh1.Zx),.sl false (L Ag x.p.Zh1.Zy),.sl false (L Aj x.p.Zh1.Zz),.sl false (L Ai x.p.Zh1.Za1),.sl false (L Ap x.p.Zi1),.sl false (L Am x.p.Zj1),.sl false (L Ae x.p.Zk1),i64 x.it.Za,i64 x.it.Ref.Zb,i64 x.it.Ref.No,i64 x.it.Zn1,i64 x.it.Zb1,i64 x.it.Zc,i64 x.it.Zo1,i64 x.it.Zw,i64 x.it.To,i64 x.it.Code,i64 x.it.Zp1,i64 x.it.Zq1,i64 x.it.Zr1,i64 x.it.Zs1,.str x.it.Zt1,.sl false (L Ah x.it.Zu1),.bool x.ok]
structure AoI where
  Ref:Aoz
  By:Aoz
  Zw1:Int
  Zx1:AoB
  deriving DecidableEq,Inhabited
def A6(x:AoI):List AV:=[i64 x.Ref.Zb,i64 x.Ref.No,i64 x.By.Zb,i64 x.By.No,i64 x.Zw1,i64 x.Zx1.Za,i64 x.Zx1.Ref.Zb,i64 x.Zx1.Ref.No,i64 x.Zx1.Zn1,i64 x.Zx1.Zb1,i64 x.Zx1.Zc,i64 x.Zx1.Zo1,i64 x.Zx1.Zw,i64 x.Zx1.To,i64 x.Zx1.Code,i64 x.Zx1.Zp1,i64 x.Zx1.Zq1,i64 x.Zx1.Zr1,i64 x.Zx1.Zs1,.str x.Zx1.Zt1,.sl false (L Ah x.Zx1.Zu1)]
structure AoJ where
  b:List UInt8
  deriving DecidableEq,Inhabited
def P2(x:AoJ):List AV:=[.sl false (L cU8 x.b)]
theorem tt3:Bh Tryz.prog 3=some ⟨.int .i64,1,8,[i64 0]⟩:=by kernel_rfl
theorem tb3(F:Out):(B.env F).tab 3=some ⟨.int .i64,1,8,[i64 0]⟩:=(Az Tryz.prog 3).trans tt3
theorem tt4:Bh Tryz.prog 4=some ⟨.bool,1,1,[.bool false]⟩:=by kernel_rfl
theorem tb4(F:Out):(B.env F).tab 4=some ⟨.bool,1,1,[.bool false]⟩:=(Az Tryz.prog 4).trans tt4
theorem tt5:Bh Tryz.prog 5=some ⟨.int .u8,1,1,[u8 ((0:UInt8))]⟩:=by kernel_rfl
theorem tb5(F:Out):(B.env F).tab 5=some ⟨.int .u8,1,1,[u8 ((0:UInt8))]⟩:=(Az Tryz.prog 5).trans tt5
theorem tt9:Bh Tryz.prog 9=some ⟨.string,1,16,[.str (([]:List UInt8))]⟩:=by kernel_rfl
theorem tb9(F:Out):(B.env F).tab 9=some ⟨.string,1,16,[.str (([]:List UInt8))]⟩:=(Az Tryz.prog 9).trans tt9
theorem tt22:Bh Tryz.prog 22=some ⟨.slice 120,1,24,[.sl true (L An ([]))]⟩:=by kernel_rfl
theorem tb22(F:Out):(B.env F).tab 22=some ⟨.slice 120,1,24,[.sl true (L An ([]))]⟩:=(Az Tryz.prog 22).trans tt22
theorem tt23:Bh Tryz.prog 23=some ⟨.slice 122,1,24,[.sl true (L Ar ([]))]⟩:=by kernel_rfl
theorem tb23(F:Out):(B.env F).tab 23=some ⟨.slice 122,1,24,[.sl true (L Ar ([]))]⟩:=(Az Tryz.prog 23).trans tt23
theorem tt25:Bh Tryz.prog 25=some ⟨.struct #[⟨"Places", 22,0,false,"","", 0⟩,⟨"Edges", 23,1,false,"","", 24⟩],2,48,[.sl true (L An ([])),.sl true (L Ar ([]))]⟩:=by kernel_rfl
theorem tb25(F:Out):(B.env F).tab 25=some ⟨.struct #[⟨"Places", 22,0,false,"","", 0⟩,⟨"Edges", 23,1,false,"","", 24⟩],2,48,[.sl true (L An ([])),.sl true (L Ar ([]))]⟩:=(Az Tryz.prog 25).trans tt25
theorem tt26:Bh Tryz.prog 26=some ⟨.slice 124,1,24,[.sl true (L Ac ([]))]⟩:=by kernel_rfl
theorem tb26(F:Out):(B.env F).tab 26=some ⟨.slice 124,1,24,[.sl true (L Ac ([]))]⟩:=(Az Tryz.prog 26).trans tt26
theorem tt27:Bh Tryz.prog 27=some ⟨.slice 126,1,24,[.sl true (L Ag ([]))]⟩:=by kernel_rfl
theorem tb27(F:Out):(B.env F).tab 27=some ⟨.slice 126,1,24,[.sl true (L Ag ([]))]⟩:=(Az Tryz.prog 27).trans tt27
theorem tt28:Bh Tryz.prog 28=some ⟨.slice 155,1,24,[.sl true (L Aj ([]))]⟩:=by kernel_rfl
theorem tb28(F:Out):(B.env F).tab 28=some ⟨.slice 155,1,24,[.sl true (L Aj ([]))]⟩:=(Az Tryz.prog 28).trans tt28
theorem tt29:Bh Tryz.prog 29=some ⟨.slice 199,1,24,[.sl true (L Ai ([]))]⟩:=by kernel_rfl
theorem tb29(F:Out):(B.env F).tab 29=some ⟨.slice 199,1,24,[.sl true (L Ai ([]))]⟩:=(Az Tryz.prog 29).trans tt29
theorem tt31:Bh Tryz.prog 31=some ⟨.struct #[⟨"Types", 26,0,false,"","", 0⟩,⟨"Wagons", 27,1,false,"","", 24⟩,⟨"Swaps", 28,2,false,"","", 48⟩,⟨"Washes", 29,3,false,"","", 72⟩],4,96,[.sl true (L Ac ([])),.sl true (L Ag ([])),.sl true (L Aj ([])),.sl true (L Ai ([]))]⟩:=by kernel_rfl
theorem tb31(F:Out):(B.env F).tab 31=some ⟨.struct #[⟨"Types", 26,0,false,"","", 0⟩,⟨"Wagons", 27,1,false,"","", 24⟩,⟨"Swaps", 28,2,false,"","", 48⟩,⟨"Washes", 29,3,false,"","", 72⟩],4,96,[.sl true (L Ac ([])),.sl true (L Ag ([])),.sl true (L Aj ([])),.sl true (L Ai ([]))]⟩:=(Az Tryz.prog 31).trans tt31
theorem tt32:Bh Tryz.prog 32=some ⟨.slice 128,1,24,[.sl true (L Ap ([]))]⟩:=by kernel_rfl
theorem tb32(F:Out):(B.env F).tab 32=some ⟨.slice 128,1,24,[.sl true (L Ap ([]))]⟩:=(Az Tryz.prog 32).trans tt32
theorem tt33:Bh Tryz.prog 33=some ⟨.slice 130,1,24,[.sl true (L Am ([]))]⟩:=by kernel_rfl
theorem tb33(F:Out):(B.env F).tab 33=some ⟨.slice 130,1,24,[.sl true (L Am ([]))]⟩:=(Az Tryz.prog 33).trans tt33
theorem tt34:Bh Tryz.prog 34=some ⟨.slice 74,1,24,[.sl true (L Ae ([]))]⟩:=by kernel_rfl
theorem Akw(F:Out):(B.env F).tab 34=some ⟨.slice 74,1,24,[.sl true (L Ae ([]))]⟩:=(Az Tryz.prog 34).trans tt34
theorem tt36:Bh Tryz.prog 36=some ⟨.struct #[⟨"Network", 25,0,false,"","", 0⟩,⟨"Fleet", 31,2,false,"","", 48⟩,⟨"Readers", 32,6,false,"","", 144⟩,⟨"Shippers", 33,7,false,"","", 168⟩,⟨"Railways", 34,8,false,"","", 192⟩],9,216,[.sl true (L An ([])),.sl true (L Ar ([])),.sl true (L Ac ([])),.sl true (L Ag ([])),.sl true (L Aj ([])),.sl true (L Ai ([])),.sl true (L Ap ([])),.sl true (L Am ([])),.sl true (L Ae ([]))]⟩:=by kernel_rfl
theorem tb36(F:Out):(B.env F).tab 36=some ⟨.struct #[⟨"Network", 25,0,false,"","", 0⟩,⟨"Fleet", 31,2,false,"","", 48⟩,⟨"Readers", 32,6,false,"","", 144⟩,⟨"Shippers", 33,7,false,"","", 168⟩,⟨"Railways", 34,8,false,"","", 192⟩],9,216,[.sl true (L An ([])),.sl true (L Ar ([])),.sl true (L Ac ([])),.sl true (L Ag ([])),.sl true (L Aj ([])),.sl true (L Ai ([])),.sl true (L Ap ([])),.sl true (L Am ([])),.sl true (L Ae ([]))]⟩:=(Az Tryz.prog 36).trans tt36
theorem tt37:Bh Tryz.prog 37=some ⟨.slice 75,1,24,[.sl true (L (cSl Ad) ([]))]⟩:=by kernel_rfl
theorem AgM(F:Out):(B.env F).tab 37=some ⟨.slice 75,1,24,[.sl true (L (cSl Ad) ([]))]⟩:=(Az Tryz.prog 37).trans tt37
theorem tt38:Bh Tryz.prog 38=some ⟨.slice 88,1,24,[.sl true (L A9 ([]))]⟩:=by kernel_rfl
theorem AkC(F:Out):(B.env F).tab 38=some ⟨.slice 88,1,24,[.sl true (L A9 ([]))]⟩:=(Az Tryz.prog 38).trans tt38
theorem tt40:Bh Tryz.prog 40=some ⟨.struct #[⟨"Logs", 37,0,false,"","", 0⟩,⟨"Forks", 38,1,false,"","", 24⟩],2,48,[.sl true (L (cSl Ad) ([])),.sl true (L A9 ([]))]⟩:=by kernel_rfl
theorem tb40(F:Out):(B.env F).tab 40=some ⟨.struct #[⟨"Logs", 37,0,false,"","", 0⟩,⟨"Forks", 38,1,false,"","", 24⟩],2,48,[.sl true (L (cSl Ad) ([])),.sl true (L A9 ([]))]⟩:=(Az Tryz.prog 40).trans tt40
theorem tt42:Bh Tryz.prog 42=some ⟨.array 32 5,32,32,(C1 u8 ((Arr.rep 32 (0:UInt8))).l)⟩:=by kernel_rfl
theorem Aky(F:Out):(B.env F).tab 42=some ⟨.array 32 5,32,32,(C1 u8 ((Arr.rep 32 (0:UInt8))).l)⟩:=(Az Tryz.prog 42).trans tt42
theorem tt44:Bh Tryz.prog 44=some ⟨.struct #[⟨"Railway", 3,0,false,"","", 0⟩,⟨"No", 3,1,false,"","", 8⟩],2,16,[i64 0,i64 0]⟩:=by kernel_rfl
theorem AkQ(F:Out):(B.env F).tab 44=some ⟨.struct #[⟨"Railway", 3,0,false,"","", 0⟩,⟨"No", 3,1,false,"","", 8⟩],2,16,[i64 0,i64 0]⟩:=(Az Tryz.prog 44).trans tt44
theorem tt45:Bh Tryz.prog 45=some ⟨.slice 182,1,24,[.sl true (L Ah ([]))]⟩:=by kernel_rfl
theorem AkG(F:Out):(B.env F).tab 45=some ⟨.slice 182,1,24,[.sl true (L Ah ([]))]⟩:=(Az Tryz.prog 45).trans tt45
theorem tt47:Bh Tryz.prog 47=some ⟨.struct #[⟨"Kind", 3,0,false,"","", 0⟩,⟨"Ref", 44,1,false,"","", 8⟩,⟨"Wagon", 3,3,false,"","", 24⟩,⟨"Place", 3,4,false,"","", 32⟩,⟨"Other", 3,5,false,"","", 40⟩,⟨"Number", 3,6,false,"","", 48⟩,⟨"From", 3,7,false,"","", 56⟩,⟨"To", 3,8,false,"","", 64⟩,⟨"Code", 3,9,false,"","", 72⟩,⟨"Dest", 3,10,false,"","", 80⟩,⟨"Class", 3,11,false,"","", 88⟩,⟨"Weight", 3,12,false,"","", 96⟩,⟨"Amount", 3,13,false,"","", 104⟩,⟨"Text", 9,14,false,"","", 112⟩,⟨"Parts", 45,15,false,"","", 128⟩],16,152,[i64 0,i64 0,i64 0,i64 0,i64 0,i64 0,i64 0,i64 0,i64 0,i64 0,i64 0,i64 0,i64 0,i64 0,.str (([]:List UInt8)),.sl true (L Ah ([]))]⟩:=by kernel_rfl
theorem tb47(F:Out):(B.env F).tab 47=some ⟨.struct #[⟨"Kind", 3,0,false,"","", 0⟩,⟨"Ref", 44,1,false,"","", 8⟩,⟨"Wagon", 3,3,false,"","", 24⟩,⟨"Place", 3,4,false,"","", 32⟩,⟨"Other", 3,5,false,"","", 40⟩,⟨"Number", 3,6,false,"","", 48⟩,⟨"From", 3,7,false,"","", 56⟩,⟨"To", 3,8,false,"","", 64⟩,⟨"Code", 3,9,false,"","", 72⟩,⟨"Dest", 3,10,false,"","", 80⟩,⟨"Class", 3,11,false,"","", 88⟩,⟨"Weight", 3,12,false,"","", 96⟩,⟨"Amount", 3,13,false,"","", 104⟩,⟨"Text", 9,14,false,"","", 112⟩,⟨"Parts", 45,15,false,"","", 128⟩],16,152,[i64 0,i64 0,i64 0,i64 0,i64 0,i64 0,i64 0,i64 0,i64 0,i64 0,i64 0,i64 0,i64 0,i64 0,.str (([]:List UInt8)),.sl true (L Ah ([]))]⟩:=(Az Tryz.prog 47).trans tt47
theorem tt48:Bh Tryz.prog 48=some ⟨.int .u64,1,8,[u64 ((0:UInt64))]⟩:=by kernel_rfl
theorem Akz(F:Out):(B.env F).tab 48=some ⟨.int .u64,1,8,[u64 ((0:UInt64))]⟩:=(Az Tryz.prog 48).trans tt48
theorem tt50:Bh Tryz.prog 50=some ⟨.struct #[⟨"C", 48,0,false,"","", 0⟩,⟨"S", 48,1,false,"","", 8⟩],2,16,[u64 ((0:UInt64)),u64 ((0:UInt64))]⟩:=by kernel_rfl
theorem tb50(F:Out):(B.env F).tab 50=some ⟨.struct #[⟨"C", 48,0,false,"","", 0⟩,⟨"S", 48,1,false,"","", 8⟩],2,16,[u64 ((0:UInt64)),u64 ((0:UInt64))]⟩:=(Az Tryz.prog 50).trans tt50
theorem tt52:Bh Tryz.prog 52=some ⟨.struct #[⟨"Railway", 3,0,false,"","", 0⟩,⟨"No", 3,1,false,"","", 8⟩,⟨"Prev", 42,2,false,"","", 16⟩,⟨"Time", 3,34,false,"","", 48⟩,⟨"Item", 47,35,false,"","", 56⟩,⟨"Sig", 50,51,false,"","", 208⟩],53,224,(i64 0::i64 0::(C1 u8 ((Arr.rep 32 (0:UInt8))).l++[i64 0,i64 0,i64 0,i64 0,i64 0,i64 0,i64 0,i64 0,i64 0,i64 0,i64 0,i64 0,i64 0,i64 0,i64 0,.str (([]:List UInt8)),.sl true (L Ah ([])),u64 ((0:UInt64)),u64 ((0:UInt64))]))⟩:=by kernel_rfl
theorem AlG(F:Out):(B.env F).tab 52=some ⟨.struct #[⟨"Railway", 3,0,false,"","", 0⟩,⟨"No", 3,1,false,"","", 8⟩,⟨"Prev", 42,2,false,"","", 16⟩,⟨"Time", 3,34,false,"","", 48⟩,⟨"Item", 47,35,false,"","", 56⟩,⟨"Sig", 50,51,false,"","", 208⟩],53,224,(i64 0::i64 0::(C1 u8 ((Arr.rep 32 (0:UInt8))).l++[i64 0,i64 0,i64 0,i64 0,i64 0,i64 0,i64 0,i64 0,i64 0,i64 0,i64 0,i64 0,i64 0,i64 0,i64 0,.str (([]:List UInt8)),.sl true (L Ah ([])),u64 ((0:UInt64)),u64 ((0:UInt64))]))⟩:=(Az Tryz.prog 52).trans tt52
theorem tt57:Bh Tryz.prog 57=some ⟨.int .i64,1,8,[i64 0]⟩:=by kernel_rfl
theorem tb57(F:Out):(B.env F).tab 57=some ⟨.int .i64,1,8,[i64 0]⟩:=(Az Tryz.prog 57).trans tt57
theorem tt63:Bh Tryz.prog 63=some ⟨.slice 5,1,24,[.sl true (L cU8 ([]))]⟩:=by kernel_rfl
theorem Agh(F:Out):(B.env F).tab 63=some ⟨.slice 5,1,24,[.sl true (L cU8 ([]))]⟩:=(Az Tryz.prog 63).trans tt63
theorem tt68:Bh Tryz.prog 68=some ⟨.struct #[⟨"From", 3,0,false,"","", 0⟩,⟨"To", 3,1,false,"","", 8⟩],2,16,[i64 0,i64 0]⟩:=by kernel_rfl
theorem tb68(F:Out):(B.env F).tab 68=some ⟨.struct #[⟨"From", 3,0,false,"","", 0⟩,⟨"To", 3,1,false,"","", 8⟩],2,16,[i64 0,i64 0]⟩:=(Az Tryz.prog 68).trans tt68
theorem tt69:Bh Tryz.prog 69=some ⟨.array 7 68,14,112,[i64 0,i64 0,i64 0,i64 0,i64 0,i64 0,i64 0,i64 0,i64 0,i64 0,i64 0,i64 0,i64 0,i64 0]⟩:=by kernel_rfl
theorem tb69(F:Out):(B.env F).tab 69=some ⟨.array 7 68,14,112,[i64 0,i64 0,i64 0,i64 0,i64 0,i64 0,i64 0,i64 0,i64 0,i64 0,i64 0,i64 0,i64 0,i64 0]⟩:=(Az Tryz.prog 69).trans tt69
theorem tt70:Bh Tryz.prog 70=some ⟨.slice 3,1,24,[.sl true (L JB ([]))]⟩:=by kernel_rfl
theorem AnB(F:Out):(B.env F).tab 70=some ⟨.slice 3,1,24,[.sl true (L JB ([]))]⟩:=(Az Tryz.prog 70).trans tt70
theorem tt72:Bh Tryz.prog 72=some ⟨.struct #[⟨"Open", 69,0,false,"","", 0⟩,⟨"Holidays", 70,14,false,"","", 112⟩],15,136,[i64 0,i64 0,i64 0,i64 0,i64 0,i64 0,i64 0,i64 0,i64 0,i64 0,i64 0,i64 0,i64 0,i64 0,.sl true (L JB ([]))]⟩:=by kernel_rfl
theorem tb72(F:Out):(B.env F).tab 72=some ⟨.struct #[⟨"Open", 69,0,false,"","", 0⟩,⟨"Holidays", 70,14,false,"","", 112⟩],15,136,[i64 0,i64 0,i64 0,i64 0,i64 0,i64 0,i64 0,i64 0,i64 0,i64 0,i64 0,i64 0,i64 0,i64 0,.sl true (L JB ([]))]⟩:=(Az Tryz.prog 72).trans tt72
theorem tt74:Bh Tryz.prog 74=some ⟨.struct #[⟨"Key", 48,0,false,"","", 0⟩,⟨"Calendar", 72,1,false,"","", 8⟩],16,144,[u64 ((0:UInt64)),i64 0,i64 0,i64 0,i64 0,i64 0,i64 0,i64 0,i64 0,i64 0,i64 0,i64 0,i64 0,i64 0,i64 0,.sl true (L JB ([]))]⟩:=by kernel_rfl
theorem Anw(F:Out):(B.env F).tab 74=some ⟨.struct #[⟨"Key", 48,0,false,"","", 0⟩,⟨"Calendar", 72,1,false,"","", 8⟩],16,144,[u64 ((0:UInt64)),i64 0,i64 0,i64 0,i64 0,i64 0,i64 0,i64 0,i64 0,i64 0,i64 0,i64 0,i64 0,i64 0,i64 0,.sl true (L JB ([]))]⟩:=(Az Tryz.prog 74).trans tt74
theorem tt75:Bh Tryz.prog 75=some ⟨.slice 52,1,24,[.sl true (L Ad ([]))]⟩:=by kernel_rfl
theorem AdI(F:Out):(B.env F).tab 75=some ⟨.slice 52,1,24,[.sl true (L Ad ([]))]⟩:=(Az Tryz.prog 75).trans tt75
theorem tt85:Bh Tryz.prog 85=some ⟨.slice 143,1,24,[.sl true (L A6 ([]))]⟩:=by kernel_rfl
theorem AlF(F:Out):(B.env F).tab 85=some ⟨.slice 143,1,24,[.sl true (L A6 ([]))]⟩:=(Az Tryz.prog 85).trans tt85
theorem tt88:Bh Tryz.prog 88=some ⟨.struct #[⟨"A", 52,0,false,"","", 0⟩,⟨"B", 52,53,false,"","", 224⟩],106,448,(i64 0::i64 0::(C1 u8 ((Arr.rep 32 (0:UInt8))).l++i64 0::i64 0::i64 0::i64 0::i64 0::i64 0::i64 0::i64 0::i64 0::i64 0::i64 0::i64 0::i64 0::i64 0::i64 0::.str (([]:List UInt8))::.sl true (L Ah ([]))::u64 ((0:UInt64))::u64 ((0:UInt64))::i64 0::i64 0::(C1 u8 ((Arr.rep 32 (0:UInt8))).l++[i64 0,i64 0,i64 0,i64 0,i64 0,i64 0,i64 0,i64 0,i64 0,i64 0,i64 0,i64 0,i64 0,i64 0,i64 0,.str (([]:List UInt8)),.sl true (L Ah ([])),u64 ((0:UInt64)),u64 ((0:UInt64))])))⟩:=by kernel_rfl
theorem Amj(F:Out):(B.env F).tab 88=some ⟨.struct #[⟨"A", 52,0,false,"","", 0⟩,⟨"B", 52,53,false,"","", 224⟩],106,448,(i64 0::i64 0::(C1 u8 ((Arr.rep 32 (0:UInt8))).l++i64 0::i64 0::i64 0::i64 0::i64 0::i64 0::i64 0::i64 0::i64 0::i64 0::i64 0::i64 0::i64 0::i64 0::i64 0::.str (([]:List UInt8))::.sl true (L Ah ([]))::u64 ((0:UInt64))::u64 ((0:UInt64))::i64 0::i64 0::(C1 u8 ((Arr.rep 32 (0:UInt8))).l++[i64 0,i64 0,i64 0,i64 0,i64 0,i64 0,i64 0,i64 0,i64 0,i64 0,i64 0,i64 0,i64 0,i64 0,i64 0,.str (([]:List UInt8)),.sl true (L Ah ([])),u64 ((0:UInt64)),u64 ((0:UInt64))])))⟩:=(Az Tryz.prog 88).trans tt88
theorem AmS:Bh Tryz.prog 103=some ⟨.slice 105,1,24,[.sl true (L cApi_Value ([]))]⟩:=by kernel_rfl
theorem AcX(F:Out):(B.env F).tab 103=some ⟨.slice 105,1,24,[.sl true (L cApi_Value ([]))]⟩:=(Az Tryz.prog 103).trans AmS
theorem Ano:Bh Tryz.prog 105=some ⟨.struct #[⟨"Kind", 3,0,false,"","", 0⟩,⟨"N", 3,1,false,"","", 8⟩,⟨"B", 63,2,false,"","", 16⟩,⟨"L", 103,3,false,"","", 40⟩],4,64,[i64 0,i64 0,.sl true (L cU8 ([])),.sl true (L cApi_Value ([]))]⟩:=by kernel_rfl
theorem AfM(F:Out):(B.env F).tab 105=some ⟨.struct #[⟨"Kind", 3,0,false,"","", 0⟩,⟨"N", 3,1,false,"","", 8⟩,⟨"B", 63,2,false,"","", 16⟩,⟨"L", 103,3,false,"","", 40⟩],4,64,[i64 0,i64 0,.sl true (L cU8 ([])),.sl true (L cApi_Value ([]))]⟩:=(Az Tryz.prog 105).trans Ano
theorem Amt:Bh Tryz.prog 120=some ⟨.struct #[⟨"Kind", 3,0,false,"","", 0⟩,⟨"Railway", 3,1,false,"","", 8⟩,⟨"Other", 3,2,false,"","", 16⟩],3,24,[i64 0,i64 0,i64 0]⟩:=by kernel_rfl
theorem AjY(F:Out):(B.env F).tab 120=some ⟨.struct #[⟨"Kind", 3,0,false,"","", 0⟩,⟨"Railway", 3,1,false,"","", 8⟩,⟨"Other", 3,2,false,"","", 16⟩],3,24,[i64 0,i64 0,i64 0]⟩:=(Az Tryz.prog 120).trans Amt
theorem AmM:Bh Tryz.prog 122=some ⟨.struct #[⟨"A", 3,0,false,"","", 0⟩,⟨"B", 3,1,false,"","", 8⟩,⟨"Railway", 3,2,false,"","", 16⟩,⟨"Minutes", 3,3,false,"","", 24⟩,⟨"Km", 3,4,false,"","", 32⟩],5,40,[i64 0,i64 0,i64 0,i64 0,i64 0]⟩:=by kernel_rfl
theorem Aha(F:Out):(B.env F).tab 122=some ⟨.struct #[⟨"A", 3,0,false,"","", 0⟩,⟨"B", 3,1,false,"","", 8⟩,⟨"Railway", 3,2,false,"","", 16⟩,⟨"Minutes", 3,3,false,"","", 24⟩,⟨"Km", 3,4,false,"","", 32⟩],5,40,[i64 0,i64 0,i64 0,i64 0,i64 0]⟩:=(Az Tryz.prog 122).trans AmM
theorem AkR:Bh Tryz.prog 124=some ⟨.struct #[⟨"Load", 3,0,false,"","", 0⟩,⟨"Tare", 3,1,false,"","", 8⟩,⟨"Length", 3,2,false,"","", 16⟩,⟨"Gauge", 3,3,false,"","", 24⟩,⟨"Brake", 3,4,false,"","", 32⟩,⟨"Classes", 48,5,false,"","", 40⟩,⟨"Life", 3,6,false,"","", 48⟩,⟨"Floor", 3,7,false,"","", 56⟩],8,64,[i64 0,i64 0,i64 0,i64 0,i64 0,u64 ((0:UInt64)),i64 0,i64 0]⟩:=by kernel_rfl
theorem AhK(F:Out):(B.env F).tab 124=some ⟨.struct #[⟨"Load", 3,0,false,"","", 0⟩,⟨"Tare", 3,1,false,"","", 8⟩,⟨"Length", 3,2,false,"","", 16⟩,⟨"Gauge", 3,3,false,"","", 24⟩,⟨"Brake", 3,4,false,"","", 32⟩,⟨"Classes", 48,5,false,"","", 40⟩,⟨"Life", 3,6,false,"","", 48⟩,⟨"Floor", 3,7,false,"","", 56⟩],8,64,[i64 0,i64 0,i64 0,i64 0,i64 0,u64 ((0:UInt64)),i64 0,i64 0]⟩:=(Az Tryz.prog 124).trans AkR
theorem AnZ:Bh Tryz.prog 126=some ⟨.struct #[⟨"Type", 3,0,false,"","", 0⟩,⟨"Owner", 3,1,false,"","", 8⟩,⟨"Home", 3,2,false,"","", 16⟩,⟨"Built", 3,3,false,"","", 24⟩,⟨"Worth", 3,4,false,"","", 32⟩],5,40,[i64 0,i64 0,i64 0,i64 0,i64 0]⟩:=by kernel_rfl
theorem Ag5(F:Out):(B.env F).tab 126=some ⟨.struct #[⟨"Type", 3,0,false,"","", 0⟩,⟨"Owner", 3,1,false,"","", 8⟩,⟨"Home", 3,2,false,"","", 16⟩,⟨"Built", 3,3,false,"","", 24⟩,⟨"Worth", 3,4,false,"","", 32⟩],5,40,[i64 0,i64 0,i64 0,i64 0,i64 0]⟩:=(Az Tryz.prog 126).trans AnZ
theorem AlY:Bh Tryz.prog 128=some ⟨.struct #[⟨"Place", 3,0,false,"","", 0⟩,⟨"Low", 3,1,false,"","", 8⟩,⟨"High", 3,2,false,"","", 16⟩],3,24,[i64 0,i64 0,i64 0]⟩:=by kernel_rfl
theorem Ait(F:Out):(B.env F).tab 128=some ⟨.struct #[⟨"Place", 3,0,false,"","", 0⟩,⟨"Low", 3,1,false,"","", 8⟩,⟨"High", 3,2,false,"","", 16⟩],3,24,[i64 0,i64 0,i64 0]⟩:=(Az Tryz.prog 128).trans AlY
theorem Ald:Bh Tryz.prog 130=some ⟨.struct #[⟨"Place", 3,0,false,"","", 0⟩],1,8,[i64 0]⟩:=by kernel_rfl
theorem AhC(F:Out):(B.env F).tab 130=some ⟨.struct #[⟨"Place", 3,0,false,"","", 0⟩],1,8,[i64 0]⟩:=(Az Tryz.prog 130).trans Ald
theorem Alv:Bh Tryz.prog 138=some ⟨.map 44 143,1,8,[.val (.map none)]⟩:=by kernel_rfl
theorem AkW(F:Out):(B.env F).tab 138=some ⟨.map 44 143,1,8,[.val (.map none)]⟩:=(Az Tryz.prog 138).trans Alv
theorem AmX:Bh Tryz.prog 143=some ⟨.struct #[⟨"Ref", 44,0,false,"","", 0⟩,⟨"By", 44,2,false,"","", 16⟩,⟨"Time", 3,4,false,"","", 32⟩,⟨"Item", 47,5,false,"","", 40⟩],21,192,[i64 0,i64 0,i64 0,i64 0,i64 0,i64 0,i64 0,i64 0,i64 0,i64 0,i64 0,i64 0,i64 0,i64 0,i64 0,i64 0,i64 0,i64 0,i64 0,.str (([]:List UInt8)),.sl true (L Ah ([]))]⟩:=by kernel_rfl
theorem Af3(F:Out):(B.env F).tab 143=some ⟨.struct #[⟨"Ref", 44,0,false,"","", 0⟩,⟨"By", 44,2,false,"","", 16⟩,⟨"Time", 3,4,false,"","", 32⟩,⟨"Item", 47,5,false,"","", 40⟩],21,192,[i64 0,i64 0,i64 0,i64 0,i64 0,i64 0,i64 0,i64 0,i64 0,i64 0,i64 0,i64 0,i64 0,i64 0,i64 0,i64 0,i64 0,i64 0,i64 0,.str (([]:List UInt8)),.sl true (L Ah ([]))]⟩:=(Az Tryz.prog 143).trans AmX
theorem Amp:Bh Tryz.prog 155=some ⟨.struct #[⟨"Wanted", 3,0,false,"","", 0⟩,⟨"Given", 3,1,false,"","", 8⟩,⟨"Cost", 3,2,false,"","", 16⟩],3,24,[i64 0,i64 0,i64 0]⟩:=by kernel_rfl
theorem AgR(F:Out):(B.env F).tab 155=some ⟨.struct #[⟨"Wanted", 3,0,false,"","", 0⟩,⟨"Given", 3,1,false,"","", 8⟩,⟨"Cost", 3,2,false,"","", 16⟩],3,24,[i64 0,i64 0,i64 0]⟩:=(Az Tryz.prog 155).trans Amp
theorem Aog:Bh Tryz.prog 170=some ⟨.int .i64,1,8,[i64 0]⟩:=by kernel_rfl
theorem Agm(F:Out):(B.env F).tab 170=some ⟨.int .i64,1,8,[i64 0]⟩:=(Az Tryz.prog 170).trans Aog
theorem Ane:Bh Tryz.prog 174=some ⟨.struct #[⟨"b", 63,0,false,"","wagonpool/codec", 0⟩],1,24,[.sl true (L cU8 ([]))]⟩:=by kernel_rfl
theorem All(F:Out):(B.env F).tab 174=some ⟨.struct #[⟨"b", 63,0,false,"","wagonpool/codec", 0⟩],1,24,[.sl true (L cU8 ([]))]⟩:=(Az Tryz.prog 174).trans Ane
theorem AnN:Bh Tryz.prog 177=some ⟨.pointer 3,1,8,[.val (.pointer none)]⟩:=by kernel_rfl
theorem Agv(F:Out):(B.env F).tab 177=some ⟨.pointer 3,1,8,[.val (.pointer none)]⟩:=(Az Tryz.prog 177).trans AnN
theorem Aoe:Bh Tryz.prog 178=some ⟨.array 11 177,11,88,[.val (.pointer none),.val (.pointer none),.val (.pointer none),.val (.pointer none),.val (.pointer none),.val (.pointer none),.val (.pointer none),.val (.pointer none),.val (.pointer none),.val (.pointer none),.val (.pointer none)]⟩:=by kernel_rfl
theorem Agq(F:Out):(B.env F).tab 178=some ⟨.array 11 177,11,88,[.val (.pointer none),.val (.pointer none),.val (.pointer none),.val (.pointer none),.val (.pointer none),.val (.pointer none),.val (.pointer none),.val (.pointer none),.val (.pointer none),.val (.pointer none),.val (.pointer none)]⟩:=(Az Tryz.prog 178).trans Aoe
theorem AmN:Bh Tryz.prog 182=some ⟨.struct #[⟨"Kind", 3,0,false,"","", 0⟩,⟨"Serial", 3,1,false,"","", 8⟩,⟨"Fitted", 4,2,false,"","", 16⟩],3,24,[i64 0,i64 0,.bool false]⟩:=by kernel_rfl
theorem Adj(F:Out):(B.env F).tab 182=some ⟨.struct #[⟨"Kind", 3,0,false,"","", 0⟩,⟨"Serial", 3,1,false,"","", 8⟩,⟨"Fitted", 4,2,false,"","", 16⟩],3,24,[i64 0,i64 0,.bool false]⟩:=(Az Tryz.prog 182).trans AmN
theorem AnW:Bh Tryz.prog 184=some ⟨.int .u64,1,8,[u64 ((0:UInt64))]⟩:=by kernel_rfl
theorem Ann(F:Out):(B.env F).tab 184=some ⟨.int .u64,1,8,[u64 ((0:UInt64))]⟩:=(Az Tryz.prog 184).trans AnW
theorem AnV:Bh Tryz.prog 199=some ⟨.struct #[⟨"From", 3,0,false,"","", 0⟩,⟨"To", 3,1,false,"","", 8⟩,⟨"Minutes", 3,2,false,"","", 16⟩],3,24,[i64 0,i64 0,i64 0]⟩:=by kernel_rfl
theorem AhW(F:Out):(B.env F).tab 199=some ⟨.struct #[⟨"From", 3,0,false,"","", 0⟩,⟨"To", 3,1,false,"","", 8⟩,⟨"Minutes", 3,2,false,"","", 16⟩],3,24,[i64 0,i64 0,i64 0]⟩:=(Az Tryz.prog 199).trans AnV
theorem Al6:Bh Tryz.prog 204=some ⟨.slice 48,1,24,[.sl true (L R8 ([]))]⟩:=by kernel_rfl
theorem AgO(F:Out):(B.env F).tab 204=some ⟨.slice 48,1,24,[.sl true (L R8 ([]))]⟩:=(Az Tryz.prog 204).trans Al6
theorem Ak2:Bh Tryz.prog 208=some ⟨.array 64 4,64,64,(C1 AV.bool ((Arr.rep 64 false)).l)⟩:=PU (by kernel_rfl) (by kernel_rfl)
theorem Afx(F:Out):(B.env F).tab 208=some ⟨.array 64 4,64,64,(C1 AV.bool ((Arr.rep 64 false)).l)⟩:=(Az Tryz.prog 208).trans Ak2
theorem Anx:Bh Tryz.prog 209=some ⟨.array 64 208,4096,4096,(C1 AV.bool ((Arr.rep 4096 false)).l)⟩:=PU (by kernel_rfl) (by kernel_rfl)
theorem Aiy(F:Out):(B.env F).tab 209=some ⟨.array 64 208,4096,4096,(C1 AV.bool ((Arr.rep 4096 false)).l)⟩:=(Az Tryz.prog 209).trans Anx
theorem AnG:Bh Tryz.prog 211=some ⟨.struct #[⟨"p", 36,0,false,"","wagonpool/edi", 0⟩,⟨"it", 47,9,false,"","wagonpool/edi", 216⟩,⟨"ok", 4,25,false,"","wagonpool/edi", 368⟩],26,376,[.sl true (L An ([])),.sl true (L Ar ([])),.sl true (L Ac ([])),.sl true (L Ag ([])),.sl true (L Aj ([])),.sl true (L Ai ([])),.sl true (L Ap ([])),.sl true (L Am ([])),.sl true (L Ae ([])),i64 0,i64 0,i64 0,i64 0,i64 0,i64 0,i64 0,i64 0,i64 0,i64 0,i64 0,i64 0,i64 0,i64 0,.str (([]:List UInt8)),.sl true (L Ah ([])),.bool false]⟩:=by kernel_rfl
theorem Anq(F:Out):(B.env F).tab 211=some ⟨.struct #[⟨"p", 36,0,false,"","wagonpool/edi", 0⟩,⟨"it", 47,9,false,"","wagonpool/edi", 216⟩,⟨"ok", 4,25,false,"","wagonpool/edi", 368⟩],26,376,[.sl true (L An ([])),.sl true (L Ar ([])),.sl true (L Ac ([])),.sl true (L Ag ([])),.sl true (L Aj ([])),.sl true (L Ai ([])),.sl true (L Ap ([])),.sl true (L Am ([])),.sl true (L Ae ([])),i64 0,i64 0,i64 0,i64 0,i64 0,i64 0,i64 0,i64 0,i64 0,i64 0,i64 0,i64 0,i64 0,i64 0,.str (([]:List UInt8)),.sl true (L Ah ([])),.bool false]⟩:=(Az Tryz.prog 211).trans AnG
theorem Am3:Bh Tryz.prog 219=some ⟨.slice 63,1,24,[.sl true (L (cSl cU8) ([]))]⟩:=by kernel_rfl
theorem Ahu(F:Out):(B.env F).tab 219=some ⟨.slice 63,1,24,[.sl true (L (cSl cU8) ([]))]⟩:=(Az Tryz.prog 219).trans Am3
theorem Alj:Bh Tryz.prog 220=some ⟨.int .u32,1,4,[u32 ((0:UInt32))]⟩:=by kernel_rfl
theorem AbK(F:Out):(B.env F).tab 220=some ⟨.int .u32,1,4,[u32 ((0:UInt32))]⟩:=(Az Tryz.prog 220).trans Alj
theorem Amb:Bh Tryz.prog 221=some ⟨.array 8 220,8,32,(C1 u32 ((Arr.rep 8 (0:UInt32))).l)⟩:=by kernel_rfl
theorem AhZ(F:Out):(B.env F).tab 221=some ⟨.array 8 220,8,32,(C1 u32 ((Arr.rep 8 (0:UInt32))).l)⟩:=(Az Tryz.prog 221).trans Amb
theorem AlI:Bh Tryz.prog 232=some ⟨.array 64 220,64,256,(C1 u32 ((Arr.rep 64 (0:UInt32))).l)⟩:=by kernel_rfl
theorem Ad5(F:Out):(B.env F).tab 232=some ⟨.array 64 220,64,256,(C1 u32 ((Arr.rep 64 (0:UInt32))).l)⟩:=(Az Tryz.prog 232).trans AlI
theorem AhH:AV.int .u32 0=u32 0:=rfl
theorem Pu:AV.int .u32 113926993=u32 113926993:=rfl
theorem Pn:AV.int .u32 264347078=u32 264347078:=rfl
theorem Pb:AV.int .u32 275423344=u32 275423344:=rfl
theorem OZ:AV.int .u32 310598401=u32 310598401:=rfl
theorem Pl:AV.int .u32 338241895=u32 338241895:=rfl
theorem P9:AV.int .u32 430227734=u32 430227734:=rfl
theorem Pm:AV.int .u32 506948616=u32 506948616:=rfl
theorem Pi:AV.int .u32 528734635=u32 528734635:=rfl
theorem P5:AV.int .u32 604807628=u32 604807628:=rfl
theorem OX:AV.int .u32 607225278=u32 607225278:=rfl
theorem P3:AV.int .u32 659060556=u32 659060556:=rfl
theorem P4:AV.int .u32 666307205=u32 666307205:=rfl
theorem OY:AV.int .u32 770255983=u32 770255983:=rfl
theorem Pg:AV.int .u32 773529912=u32 773529912:=rfl
theorem Pj:AV.int .u32 883997877=u32 883997877:=rfl
theorem Pk:AV.int .u32 958139571=u32 958139571:=rfl
theorem Pz:AV.int .u32 961987163=u32 961987163:=rfl
theorem MK:AV.int .u32 1013904242=u32 1013904242:=rfl
theorem NW:AV.int .u32 1116352408=u32 1116352408:=rfl
theorem MS:AV.int .u32 1249150122=u32 1249150122:=rfl
theorem Nz:AV.int .u32 1294757372=u32 1294757372:=rfl
theorem NK:AV.int .u32 1322822218=u32 1322822218:=rfl
theorem Mx:AV.int .u32 1359893119=u32 1359893119:=rfl
theorem Oz:AV.int .u32 1396182291=u32 1396182291:=rfl
theorem MO:AV.int .u32 1426881987=u32 1426881987:=rfl
theorem OH:AV.int .u32 1508970993=u32 1508970993:=rfl
theorem Np:AV.int .u32 1537002063=u32 1537002063:=rfl
theorem MG:AV.int .u32 1541459225=u32 1541459225:=rfl
theorem MT:AV.int .u32 1555081692=u32 1555081692:=rfl
theorem MQ:AV.int .u32 1695183700=u32 1695183700:=rfl
theorem N8:AV.int .u32 1747873779=u32 1747873779:=rfl
theorem MX:AV.int .u32 1779033703=u32 1779033703:=rfl
theorem O1:AV.int .u32 1899447441=u32 1899447441:=rfl
theorem Oa:AV.int .u32 1925078388=u32 1925078388:=rfl
theorem Om:AV.int .u32 1955562222=u32 1955562222:=rfl
theorem O7:AV.int .u32 1986661051=u32 1986661051:=rfl
theorem M3:AV.int .u32 1996064986=u32 1996064986:=rfl
theorem Mz:AV.int .u32 2024104815=u32 2024104815:=rfl
theorem Of:AV.int .u32 2162078206=u32 2162078206:=rfl
theorem NU:AV.int .u32 2177026350=u32 2177026350:=rfl
theorem M8:AV.int .u32 2227730452=u32 2227730452:=rfl
theorem OL:AV.int .u32 2361852424=u32 2361852424:=rfl
theorem Ng:AV.int .u32 2428436474=u32 2428436474:=rfl
theorem NM:AV.int .u32 2453635748=u32 2453635748:=rfl
theorem MF:AV.int .u32 2456956037=u32 2456956037:=rfl
theorem OG:AV.int .u32 2554220882=u32 2554220882:=rfl
theorem NP:AV.int .u32 2600822924=u32 2600822924:=rfl
theorem M7:AV.int .u32 2614888103=u32 2614888103:=rfl
theorem Nb:AV.int .u32 2730485921=u32 2730485921:=rfl
theorem MZ:AV.int .u32 2756734187=u32 2756734187:=rfl
theorem MY:AV.int .u32 2773480762=u32 2773480762:=rfl
theorem NV:AV.int .u32 2820302411=u32 2820302411:=rfl
theorem MW:AV.int .u32 2821834349=u32 2821834349:=rfl
theorem MM:AV.int .u32 2870763221=u32 2870763221:=rfl
theorem MP:AV.int .u32 2952996808=u32 2952996808:=rfl
theorem OD:AV.int .u32 3049323471=u32 3049323471:=rfl
theorem O3:AV.int .u32 3144134277=u32 3144134277:=rfl
theorem Ob:AV.int .u32 3204031479=u32 3204031479:=rfl
theorem NS:AV.int .u32 3210313671=u32 3210313671:=rfl
theorem NF:AV.int .u32 3248222580=u32 3248222580:=rfl
theorem Nl:AV.int .u32 3259730800=u32 3259730800:=rfl
theorem Ny:AV.int .u32 3329325298=u32 3329325298:=rfl
theorem N9:AV.int .u32 3336571891=u32 3336571891:=rfl
theorem MA:AV.int .u32 3345764771=u32 3345764771:=rfl
theorem Nf:AV.int .u32 3516065817=u32 3516065817:=rfl
theorem NB:AV.int .u32 3584528711=u32 3584528711:=rfl
theorem Na:AV.int .u32 3600352804=u32 3600352804:=rfl
theorem O2:AV.int .u32 3624381080=u32 3624381080:=rfl
theorem Nn:AV.int .u32 3835390401=u32 3835390401:=rfl
theorem Oh:AV.int .u32 3921009573=u32 3921009573:=rfl
theorem MB:AV.int .u32 4022224774=u32 4022224774:=rfl
theorem OP:AV.int .u32 4094571909=u32 4094571909:=rfl
theorem Akj:AV.int .u64 0=u64 0:=rfl
theorem Aiu:AV.int .u64 1=u64 1:=rfl
theorem Aki:AV.int .u64 2=u64 2:=rfl
theorem Ai0:AV.int .u64 3=u64 3:=rfl
theorem Aiz:AV.int .u64 4=u64 4:=rfl
theorem AjF:AV.int .u64 7=u64 7:=rfl
theorem Ai3:AV.int .u64 8=u64 8:=rfl
theorem Afs:AV.int .u64 10=u64 10:=rfl
theorem Afo:AV.int .u64 16=u64 16:=rfl
theorem Agl:AV.int .u64 24=u64 24:=rfl
theorem AeR:AV.int .u64 31=u64 31:=rfl
theorem AgD:AV.int .u64 32=u64 32:=rfl
theorem Agc:AV.int .u64 64=u64 64:=rfl
theorem AcC:AV.int .u64 256=u64 256:=rfl
theorem Xz:AV.int .u64 65536=u64 65536:=rfl
theorem M6:AV.int .u64 4294967295=u64 4294967295:=rfl
theorem NQ:AV.int .u64 4294967296=u64 4294967296:=rfl
theorem GS:AV.int .u64 1152921504606845398=u64 1152921504606845398:=rfl
theorem He:AV.int .u64 1152921504606845399=u64 1152921504606845399:=rfl
theorem Hf:AV.int .u64 2305843009213690799=u64 2305843009213690799:=rfl
theorem Alf:AV.int .u8 0=u8 0:=rfl
theorem Ajd:AV.int .u8 23=u8 23:=rfl
theorem Aj5:AV.int .u8 31=u8 31:=rfl
theorem Ajq:AV.int .u8 32=u8 32:=rfl
theorem AgS:AV.int .u8 40=u8 40:=rfl
theorem AjG:AV.int .u8 48=u8 48:=rfl
theorem Aim:AV.int .u8 64=u8 64:=rfl
theorem Ajx:AV.int .u8 99=u8 99:=rfl
theorem Af4:AV.int .u8 100=u8 100:=rfl
theorem AeF:AV.int .u8 102=u8 102:=rfl
theorem Ad9:AV.int .u8 103=u8 103:=rfl
theorem Afq:AV.int .u8 107=u8 107:=rfl
theorem AeY:AV.int .u8 110=u8 110:=rfl
theorem AeE:AV.int .u8 111=u8 111:=rfl
theorem Aeq:AV.int .u8 112=u8 112:=rfl
theorem Aen:AV.int .u8 113=u8 113:=rfl
theorem AeB:AV.int .u8 116=u8 116:=rfl
theorem AeH:AV.int .u8 119=u8 119:=rfl
theorem Aez:AV.int .u8 120=u8 120:=rfl
theorem AfU:AV.int .u8 127=u8 127:=rfl
theorem Agj:AV.int .u8 128=u8 128:=rfl
theorem Afu:AV.int .u8 255=u8 255:=rfl
theorem nb36{F}:((B.env F).bty=some 36)=False:=ApV (fun h:(none:Option TypeId)=some 36=>by cases h)
theorem Ab5{F}{σ:Ab}(s x:AV):AZ (B.env F) σ .append [34,34] [s,x]=match ET σ x with
      | some new=>if E8 x 16=true then none else if ∀cs∈new,cs.length=16 then(match s with
          | .sl full els=>
            if els=[]∧full=true then
              if CM new.length 144 then some (.bs false σ.length new.length 0 new.length,σ++[.buf 16 new false])else none
            else if new=[]then some (.sl full els,σ)
            else if full=true∧(∀cs∈els,cs.length=16)∧CM (els.length+new.length) 144
            then some (.bs false σ.length (els.length+new.length) 0 (els.length+new.length),σ++[.buf 16 (els++new) false])else none
          | .bs full id tot off len=>match σ[id]? with
            | some (.buf k els ro)=>
              if els.length=tot∧k=16∧CM (len+new.length) 144 then
                if off=0∧len=tot then some (.bs false id (tot+new.length) 0 (tot+new.length),σ.set id (.buf k (els++new) ro))
                else if new=[]then some (.bs full id tot off len,σ)
                else if full then some (.bs false σ.length (len+new.length) 0 (len+new.length),σ++[.buf k ((els.drop off).take len++new) false])
                else none
              else none
            |some (.tb T l)=>O6 σ id tot off len 144 16 74 T l new
            |_=>none
          |_=>none)
        else none
      |none=>none:=Ff (Akw F) (Anw F) (by decide) (Akw F) (.inl ⟨_,rfl⟩) s x []
theorem nb47{F}:((B.env F).bty=some 47)=False:=ApV (fun h:(none:Option TypeId)=some 47=>by cases h)
theorem Ahi{F}{σ:Ab}(f:Bool)(l:List Aol)(x:AV):As (B.env F) σ 22 (.sl f (L An l)) x=match idx x l.length with
 |some i=>some (.rp (An (nth l i)))
 |none=>none:=EA An (tb22 F) (AjY F) (fun _=>rfl) f l x
theorem AnR{F}:((B.env F).bty=some 120)=False:=ApV (fun h:(none:Option TypeId)=some 120=>by cases h)
theorem Aio{F}{σ:Ab}(f:Bool)(l:List Aom)(x:AV):As (B.env F) σ 23 (.sl f (L Ar l)) x=match idx x l.length with
 |some i=>some (.rp (Ar (nth l i)))
 |none=>none:=EA Ar (tb23 F) (Aha F) (fun _=>rfl) f l x
theorem AlX{F}:((B.env F).bty=some 122)=False:=ApV (fun h:(none:Option TypeId)=some 122=>by cases h)
theorem nb57{F}:((B.env F).bty=some 57)=False:=ApV (fun h:(none:Option TypeId)=some 57=>by cases h)
theorem Aic{F}{σ:Ab}(f:Bool)(l:List Aoo)(x:AV):As (B.env F) σ 26 (.sl f (L Ac l)) x=match idx x l.length with
 |some i=>some (.rp (Ac (nth l i)))
 |none=>none:=EA Ac (tb26 F) (AhK F) (fun _=>rfl) f l x
theorem Amw{F}:((B.env F).bty=some 124)=False:=ApV (fun h:(none:Option TypeId)=some 124=>by cases h)
theorem Akn{F}{σ:Ab}(f:Bool)(id tot off len:Nat)(x:AV):As (B.env F) σ 70 (.bs f id tot off len) x=match σ[id]?,idx x len with
 |some (.buf k els _),some i=>if els.length=tot∧k=1 then some (.eref id tot (off+i) 0)else none
 |_,_=>none:=Aaq (AnB F) (tb3 F) (by decide) f id tot off len x
theorem Ajs{F}{σ:Ab}(f:Bool)(l:List Aop)(x:AV):As (B.env F) σ 27 (.sl f (L Ag l)) x=match idx x l.length with
 |some i=>some (.rp (Ag (nth l i)))
 |none=>none:=EA Ag (tb27 F) (Ag5 F) (fun _=>rfl) f l x
theorem Aoi{F}:((B.env F).bty=some 126)=False:=ApV (fun h:(none:Option TypeId)=some 126=>by cases h)
theorem Ah0{F}{σ:Ab}(f:Bool)(l:List Aoq)(x:AV):As (B.env F) σ 28 (.sl f (L Aj l)) x=match idx x l.length with
 |some i=>some (.rp (Aj (nth l i)))
 |none=>none:=EA Aj (tb28 F) (AgR F) (fun _=>rfl) f l x
theorem AkJ{F}:((B.env F).bty=some 155)=False:=ApV (fun h:(none:Option TypeId)=some 155=>by cases h)
theorem An6{F}:((B.env F).bty=some 209)=False:=ApV (fun h:(none:Option TypeId)=some 209=>by cases h)
theorem AhX{F}{σ:Ab}(f:Bool)(l:List Aor)(x:AV):As (B.env F) σ 29 (.sl f (L Ai l)) x=match idx x l.length with
 |some i=>some (.rp (Ai (nth l i)))
 |none=>none:=EA Ai (tb29 F) (AhW F) (fun _=>rfl) f l x
theorem AkN{F}:((B.env F).bty=some 199)=False:=ApV (fun h:(none:Option TypeId)=some 199=>by cases h)
theorem AfN{F}(id off:Nat)(x:AV){σ:Ab}:As (B.env F) σ 209 (.ref id off) x=match idx x 64 with
 |some i=>some (.ref id (off+i*64))
 |none=>none:=KR (Aiy F) (Afx F) id off x
theorem AgC{F}(id off:Nat)(x:AV){σ:Ab}:As (B.env F) σ 208 (.ref id off) x=match idx x 64 with
 |some i=>some (.ref id (off+i*1))
 |none=>none:=KR (Afx F) (tb4 F) id off x
theorem AlJ{F}(cs:List AV)(x:AV):IA (B.env F) 69 (.agg cs) x=match idx x 7 with
 |some i=>partA (⟨.struct #[⟨"From", 3,0,false,"","", 0⟩,⟨"To", 3,1,false,"","", 8⟩],2,16,[i64 0,i64 0]⟩:TD) cs (i*2)
 |none=>none:=Qg (tb69 F) (tb68 F) cs x
theorem nb68{F}:((B.env F).bty=some 68)=False:=ApV (fun h:(none:Option TypeId)=some 68=>by cases h)
theorem Ajp{F}{σ:Ab}(f:Bool)(l:List Int)(x:AV):As (B.env F) σ 70 (.sl f (L JB l)) x=match idx x l.length with
 |some i=>some (.rp (JB (nth l i)))
 |none=>none:=EA JB (AnB F) (tb3 F) (fun _=>rfl) f l x
theorem AhQ{F}(l:List UInt8)(x:AV):IA (B.env F) 9 (.str l) x=match idx x l.length with
 |some i=>some (u8 (nth l i))
 |none=>none:=WI (tb9 F) l x
theorem AjB{F}{σ:Ab}(f:Bool)(l:List Aot)(x:AV):As (B.env F) σ 32 (.sl f (L Ap l)) x=match idx x l.length with
 |some i=>some (.rp (Ap (nth l i)))
 |none=>none:=EA Ap (tb32 F) (Ait F) (fun _=>rfl) f l x
theorem Als{F}:((B.env F).bty=some 128)=False:=ApV (fun h:(none:Option TypeId)=some 128=>by cases h)
theorem Ag1{F}{σ:Ab}(f:Bool)(l:List Aou)(x:AV):As (B.env F) σ 33 (.sl f (L Am l)) x=match idx x l.length with
 |some i=>some (.rp (Am (nth l i)))
 |none=>none:=EA Am (tb33 F) (AhC F) (fun _=>rfl) f l x
theorem Am9{F}:((B.env F).bty=some 130)=False:=ApV (fun h:(none:Option TypeId)=some 130=>by cases h)
theorem Ah5{F}{σ:Ab}(f:Bool)(l:List Aox)(x:AV):As (B.env F) σ 34 (.sl f (L Ae l)) x=match idx x l.length with
 |some i=>some (.rp (Ae (nth l i)))
 |none=>none:=EA Ae (Akw F) (Anw F) (fun _=>rfl) f l x
theorem nb74{F}:((B.env F).bty=some 74)=False:=ApV (fun h:(none:Option TypeId)=some 74=>by cases h)
theorem Akm{F}{σ:Ab}(f:Bool)(l:List (List AoD))(x:AV):As (B.env F) σ 37 (.sl f (L (cSl Ad) l)) x=match idx x l.length with
 |some i=>some (.rp ((cSl Ad) (nth l i)))
 |none=>none:=EA (cSl Ad) (AgM F) (AdI F) (fun _=>rfl) f l x
theorem AkS{F}:((B.env F).bty=some 105)=False:=ApV (fun h:(none:Option TypeId)=some 105=>by cases h)
theorem Ajf{F}(cs:List AV)(x:AV):IA (B.env F) 178 (.agg cs) x=match idx x 11 with
 |some i=>partA (⟨.pointer 3,1,8,[.val (.pointer none)]⟩:TD) cs (i*1)
 |none=>none:=Qg (Agq F) (Agv F) cs x
theorem XL{F}{σ:Ab}(s x:AV):AZ (B.env F) σ .append [103,103] [s,x]=match ET σ x with
      | some new=>if E8 x 4=true then none else if ∀cs∈new,cs.length=4 then(match s with
          | .sl full els=>
            if els=[]∧full=true then
              if CM new.length 64 then some (.bs false σ.length new.length 0 new.length,σ++[.buf 4 new false])else none
            else if new=[]then some (.sl full els,σ)
            else if full=true∧(∀cs∈els,cs.length=4)∧CM (els.length+new.length) 64
            then some (.bs false σ.length (els.length+new.length) 0 (els.length+new.length),σ++[.buf 4 (els++new) false])else none
          | .bs full id tot off len=>match σ[id]? with
            | some (.buf k els ro)=>
              if els.length=tot∧k=4∧CM (len+new.length) 64 then
                if off=0∧len=tot then some (.bs false id (tot+new.length) 0 (tot+new.length),σ.set id (.buf k (els++new) ro))
                else if new=[]then some (.bs full id tot off len,σ)
                else if full then some (.bs false σ.length (len+new.length) 0 (len+new.length),σ++[.buf k ((els.drop off).take len++new) false])
                else none
              else none
            |some (.tb T l)=>O6 σ id tot off len 64 4 105 T l new
            |_=>none
          |_=>none)
        else none
      |none=>none:=Ff (AcX F) (AfM F) (by decide) (AcX F) (.inl ⟨_,rfl⟩) s x []
theorem AjS{F}{σ:Ab}(f:Bool)(l:List AoA)(x:AV):As (B.env F) σ 45 (.sl f (L Ah l)) x=match idx x l.length with
 |some i=>some (.rp (Ah (nth l i)))
 |none=>none:=EA Ah (AkG F) (Adj F) (fun _=>rfl) f l x
theorem Alm{F}:((B.env F).bty=some 182)=False:=ApV (fun h:(none:Option TypeId)=some 182=>by cases h)
theorem Alu{F}{σ:Ab}(l c:Int):Eg (B.env F) σ 63 (i64 l) (i64 c)=if Mk l c 1 then some (.bs (l==c) σ.length l.toNat 0 l.toNat,σ++[.buf 1 (List.replicate l.toNat [u8 ((0:UInt8))]) false])else none:=Y8 (Agh F) (tb5 F) (by decide) l c
theorem Aj7{F}{σ:Ab}(f:Bool)(id tot off len:Nat)(x:AV):As (B.env F) σ 63 (.bs f id tot off len) x=match σ[id]?,idx x len with
 |some (.buf k els _),some i=>if els.length=tot∧k=1 then some (.eref id tot (off+i) 0)else none
 |_,_=>none:=Aaq (Agh F) (tb5 F) (by decide) f id tot off len x
theorem Aee{F}{σ:Ab}(f:Bool)(l:List AoG)(x:AV):As (B.env F) σ 103 (.sl f (L cApi_Value l)) x=match idx x l.length with
 |some i=>some (.rp (cApi_Value (nth l i)))
 |none=>none:=EA cApi_Value (AcX F) (AfM F) (fun y=>by rw[K6];rfl) f l x
theorem Abu{F}{σ:Ab}(s x:AV):AZ (B.env F) σ .append [63,63] [s,x]=match ET σ x with
      | some new=>if E8 x 1=true then none else if ∀cs∈new,cs.length=1 then(match s with
          | .sl full els=>
            if els=[]∧full=true then
              if CM new.length 1 then some (.bs false σ.length new.length 0 new.length,σ++[.buf 1 new false])else none
            else if new=[]then some (.sl full els,σ)
            else if full=true∧(∀cs∈els,cs.length=1)∧CM (els.length+new.length) 1
            then some (.bs false σ.length (els.length+new.length) 0 (els.length+new.length),σ++[.buf 1 (els++new) false])else none
          | .bs full id tot off len=>match σ[id]? with
            | some (.buf k els ro)=>
              if els.length=tot∧k=1∧CM (len+new.length) 1 then
                if off=0∧len=tot then some (.bs false id (tot+new.length) 0 (tot+new.length),σ.set id (.buf k (els++new) ro))
                else if new=[]then some (.bs full id tot off len,σ)
                else if full then some (.bs false σ.length (len+new.length) 0 (len+new.length),σ++[.buf k ((els.drop off).take len++new) false])
                else none
              else none
            |some (.tb T l)=>O6 σ id tot off len 1 1 5 T l new
            |_=>none
          |_=>none)
        else none
      |none=>none:=Ff (Agh F) (tb5 F) (by decide) (Agh F) (.inl ⟨_,rfl⟩) s x []
theorem AiE{F}{σ:Ab}(f:Bool)(l:List UInt8)(x:AV):As (B.env F) σ 63 (.sl f (L cU8 l)) x=match idx x l.length with
 |some i=>some (.rp (cU8 (nth l i)))
 |none=>none:=EA cU8 (Agh F) (tb5 F) (fun _=>rfl) f l x
theorem AnA{F}:((B.env F).bty=some 221)=False:=ApV (fun h:(none:Option TypeId)=some 221=>by cases h)
theorem AmT{F}:((B.env F).bty=some 232)=False:=ApV (fun h:(none:Option TypeId)=some 232=>by cases h)
theorem Agr{F}{σ:Ab}(id off:Nat)(x:AV):As (B.env F) σ 232 (.ref id off) x=match idx x 64 with
 |some i=>some (.ref id (off+i*1))
 |none=>none:=KR (Ad5 F) (AbK F) id off x
theorem Agp{F}{σ:Ab}(id off:Nat)(x:AV):As (B.env F) σ 221 (.ref id off) x=match idx x 8 with
 |some i=>some (.ref id (off+i*1))
 |none=>none:=KR (AhZ F) (AbK F) id off x
theorem Y2{F}{σ:Ab}(x:AV):As (B.env F) σ 232 (.glob 3) x=match idx x 64 with
 |some i=>some (.rp ((C1 u32 glob3.l).drop i))
 |none=>none:=AbH (Ad5 F) (AbK F) rfl x
theorem nb42{F}:((B.env F).bty=some 42)=False:=ApV (fun h:(none:Option TypeId)=some 42=>by cases h)
theorem Afm{F}{σ:Ab}(f:Bool)(l:List (List UInt8))(x:AV):As (B.env F) σ 219 (.sl f (L (cSl cU8) l)) x=match idx x l.length with
 |some i=>some (.rp ((cSl cU8) (nth l i)))
 |none=>none:=EA (cSl cU8) (Ahu F) (Agh F) (fun _=>rfl) f l x
theorem Ajc{F}{σ:Ab}(id off:Nat)(x:AV):As (B.env F) σ 42 (.ref id off) x=match idx x 32 with
 |some i=>some (.ref id (off+i*1))
 |none=>none:=KR (Aky F) (tb5 F) id off x
theorem Afl{F}{σ:Ab}(f:Bool)(l:List UInt64)(x:AV):As (B.env F) σ 204 (.sl f (L R8 l)) x=match idx x l.length with
 |some i=>some (.rp (R8 (nth l i)))
 |none=>none:=EA R8 (AgO F) (Akz F) (fun _=>rfl) f l x
theorem nb50{F}:((B.env F).bty=some 50)=False:=ApV (fun h:(none:Option TypeId)=some 50=>by cases h)
theorem Aca{F}(a0:Int)(a1:Int)(b0:Int)(b1:Int):AH (B.env F) .eql 44 (.agg [i64 a0,i64 a1]) (.agg [i64 b0,i64 b1])=some (.bool (((a0==b0)&&(a1==b1)))) :=
 Ju (AkQ F) (by kernel_rfl) (by kernel_rfl) (IZ (by decide) (tb3 F) rfl rfl (KH a0 b0) (Mi (by decide) (tb3 F) rfl rfl (KH a1 b1)))
theorem AmY{F}:((B.env F).bty=some 211)=False:=ApV (fun h:(none:Option TypeId)=some 211=>by cases h)
theorem AhV{F}{op:BinOp}(a b:Arr UInt8 32):AH (B.env F) op 42 (.agg (C1 u8 a.l)) (.agg (C1 u8 b.l))=match op with
 |.eql=>some (.bool (a==b))
 |.neq=>some (.bool (!(a==b)))
 |_=>none:=XA (Aky F) (tb5 F) a b
theorem Acb{F}(a0:UInt64)(a1:UInt64)(b0:UInt64)(b1:UInt64):AH (B.env F) .eql 50 (.agg [u64 a0,u64 a1]) (.agg [u64 b0,u64 b1])=some (.bool (((a0==b0)&&(a1==b1)))) :=
 Ju (tb50 F) (by kernel_rfl) (by kernel_rfl) (IZ (by decide) (Akz F) rfl rfl (Ys a0 b0) (Mi (by decide) (Akz F) rfl rfl (Ys a1 b1)))
theorem Ajj{F}{σ:Ab}(f:Bool)(l:List AoD)(x:AV):As (B.env F) σ 75 (.sl f (L Ad l)) x=match idx x l.length with
 |some i=>some (.rp (Ad (nth l i)))
 |none=>none:=EA Ad (AdI F) (AlG F) (fun y=>by simp only[Ad,Ape,Ao7,DG,Apr]) f l x
theorem nb44{F}:((B.env F).bty=some 44)=False:=ApV (fun h:(none:Option TypeId)=some 44=>by cases h)
theorem Adh{F}(a0:Int)(a1:Int)(b0:Int)(b1:Int):AH (B.env F) .neq 44 (.agg [i64 a0,i64 a1]) (.agg [i64 b0,i64 b1])=some (.bool (!((a0==b0)&&(a1==b1)))) :=
 Jq (AkQ F) (by kernel_rfl) (by kernel_rfl) (IZ (by decide) (tb3 F) rfl rfl (KH a0 b0) (Mi (by decide) (tb3 F) rfl rfl (KH a1 b1)))
theorem AcS{F}{σ:Ab}(s x:AV):AZ (B.env F) σ .append [75,75] [s,x]=match ET σ x with
      | some new=>if E8 x 53=true then none else if ∀cs∈new,cs.length=53 then(match s with
          | .sl full els=>
            if els=[]∧full=true then
              if CM new.length 224 then some (.bs false σ.length new.length 0 new.length,σ++[.buf 53 new false])else none
            else if new=[]then some (.sl full els,σ)
            else if full=true∧(∀cs∈els,cs.length=53)∧CM (els.length+new.length) 224
            then some (.bs false σ.length (els.length+new.length) 0 (els.length+new.length),σ++[.buf 53 (els++new) false])else none
          | .bs full id tot off len=>match σ[id]? with
            | some (.buf k els ro)=>
              if els.length=tot∧k=53∧CM (len+new.length) 224 then
                if off=0∧len=tot then some (.bs false id (tot+new.length) 0 (tot+new.length),σ.set id (.buf k (els++new) ro))
                else if new=[]then some (.bs full id tot off len,σ)
                else if full then some (.bs false σ.length (len+new.length) 0 (len+new.length),σ++[.buf k ((els.drop off).take len++new) false])
                else none
              else none
            |some (.tb T l)=>O6 σ id tot off len 224 53 52 T l new
            |_=>none
          |_=>none)
        else none
      |none=>none:=Ff (AdI F) (AlG F) (by decide) (AdI F) (.inl ⟨_,rfl⟩) s x []
theorem AjR{F}{σ:Ab}(f:Bool)(l:List AoE)(x:AV):As (B.env F) σ 38 (.sl f (L A9 l)) x=match idx x l.length with
 |some i=>some (.rp (A9 (nth l i)))
 |none=>none:=EA A9 (AkC F) (Amj F) (fun y=>by simp only[A9,Ape,Ao7,DG,Apr]) f l x
theorem AbR{F}{σ:Ab}(s x:AV):AZ (B.env F) σ .append [38,38] [s,x]=match ET σ x with
      | some new=>if E8 x 106=true then none else if ∀cs∈new,cs.length=106 then(match s with
          | .sl full els=>
            if els=[]∧full=true then
              if CM new.length 448 then some (.bs false σ.length new.length 0 new.length,σ++[.buf 106 new false])else none
            else if new=[]then some (.sl full els,σ)
            else if full=true∧(∀cs∈els,cs.length=106)∧CM (els.length+new.length) 448
            then some (.bs false σ.length (els.length+new.length) 0 (els.length+new.length),σ++[.buf 106 (els++new) false])else none
          | .bs full id tot off len=>match σ[id]? with
            | some (.buf k els ro)=>
              if els.length=tot∧k=106∧CM (len+new.length) 448 then
                if off=0∧len=tot then some (.bs false id (tot+new.length) 0 (tot+new.length),σ.set id (.buf k (els++new) ro))
                else if new=[]then some (.bs full id tot off len,σ)
                else if full then some (.bs false σ.length (len+new.length) 0 (len+new.length),σ++[.buf k ((els.drop off).take len++new) false])
                else none
              else none
            |some (.tb T l)=>O6 σ id tot off len 448 106 88 T l new
            |_=>none
          |_=>none)
        else none
      |none=>none:=Ff (AkC F) (Amj F) (by decide) (AkC F) (.inl ⟨_,rfl⟩) s x []
theorem nb40{F}:((B.env F).bty=some 40)=False:=ApV (fun h:(none:Option TypeId)=some 40=>by cases h)
theorem AkL{F}{σ:Ab}(l c:Int):Eg (B.env F) σ 37 (i64 l) (i64 c)=if Mk l c 24 then some (.bs (l==c) σ.length l.toNat 0 l.toNat,σ++[.buf 1 (List.replicate l.toNat [.sl false (L Ad ([]))]) false])else none:=Y8 (AgM F) (AdI F) (by decide) l c
theorem AiJ{F}{σ:Ab}(f:Bool)(id tot off len:Nat)(x:AV):As (B.env F) σ 37 (.bs f id tot off len) x=match σ[id]?,idx x len with
 |some (.buf k els _),some i=>if els.length=tot∧k=1 then some (.eref id tot (off+i) 0)else none
 |_,_=>none:=Aaq (AgM F) (AdI F) (by decide) f id tot off len x
theorem nb52{F}:((B.env F).bty=some 52)=False:=ApV (fun h:(none:Option TypeId)=some 52=>by cases h)
theorem Z5{F}(a0:Int)(a1:Int)(a2:Bool)(b0:Int)(b1:Int)(b2:Bool):AH (B.env F) .neq 182 (.agg [i64 a0,i64 a1,.bool a2]) (.agg [i64 b0,i64 b1,.bool b2])=some (.bool (!((a0==b0)&&((a1==b1)&&(a2==b2))))) :=
 Jq (Adj F) (by kernel_rfl) (by kernel_rfl) (IZ (by decide) (tb3 F) rfl rfl (KH a0 b0) (IZ (by decide) (tb3 F) rfl rfl (KH a1 b1) (Mi (by decide) (tb4 F) rfl rfl (Acm a2 b2))))
theorem nb88{F}:((B.env F).bty=some 88)=False:=ApV (fun h:(none:Option TypeId)=some 88=>by cases h)
theorem Adc{F}{σ:Ab}(s x:AV):AZ (B.env F) σ .append [37,37] [s,x]=match ET σ x with
      | some new=>if E8 x 1=true then none else if ∀cs∈new,cs.length=1 then(match s with
          | .sl full els=>
            if els=[]∧full=true then
              if CM new.length 24 then some (.bs false σ.length new.length 0 new.length,σ++[.buf 1 new false])else none
            else if new=[]then some (.sl full els,σ)
            else if full=true∧(∀cs∈els,cs.length=1)∧CM (els.length+new.length) 24
            then some (.bs false σ.length (els.length+new.length) 0 (els.length+new.length),σ++[.buf 1 (els++new) false])else none
          | .bs full id tot off len=>match σ[id]? with
            | some (.buf k els ro)=>
              if els.length=tot∧k=1∧CM (len+new.length) 24 then
                if off=0∧len=tot then some (.bs false id (tot+new.length) 0 (tot+new.length),σ.set id (.buf k (els++new) ro))
                else if new=[]then some (.bs full id tot off len,σ)
                else if full then some (.bs false σ.length (len+new.length) 0 (len+new.length),σ++[.buf k ((els.drop off).take len++new) false])
                else none
              else none
            |some (.tb T l)=>O6 σ id tot off len 24 1 75 T l new
            |_=>none
          |_=>none)
        else none
      |none=>none:=Ff (AgM F) (AdI F) (by decide) (AgM F) (.inl ⟨_,rfl⟩) s x []
theorem nb85{F}:((B.env F).bty=some 85)=False:=ApV (fun h:(none:Option TypeId)=some 85=>by cases h)
theorem Ad4{F}:AdD (B.env F) 138=true:=rfl
def Eh(x:AoI):AV:=.agg (A6 x)
def C3:AoI:=({ Ref:=({ Zb:=0,No:=0 }:Aoz),By:=({ Zb:=0,No:=0 }:Aoz),Zw1:=0,Zx1:=({ Za:=0,Ref:=({ Zb:=0,No:=0 }:Aoz),Zn1:=0,Zb1:=0,Zc:=0,Zo1:=0,Zw:=0,To:=0,Code:=0,Zp1:=0,Zq1:=0,Zr1:=0,Zs1:=0,Zt1:=([]:List UInt8),Zu1:=[] }:AoB) }:AoI)
theorem Aem(a0:Int)(a1:Int)(a2:Int)(a3:Int)(a4:Int)(a5:Int)(a6:Int)(a7:Int)(a8:Int)(a9:Int)(a10:Int)(a11:Int)(a12:Int)(a13:Int)(a14:Int)(a15:Int)(a16:Int)(a17:Int)(a18:Int)(a19:List UInt8)(a20:List AoA){l:List ((Int×Int)×AoI)}{k:Int×Int}:LY (M2 Eh l) k (.agg [i64 a0,i64 a1,i64 a2,i64 a3,i64 a4,i64 a5,i64 a6,i64 a7,i64 a8,i64 a9,i64 a10,i64 a11,i64 a12,i64 a13,i64 a14,i64 a15,i64 a16,i64 a17,i64 a18,.str a19,.sl false (L Ah a20)])=M2 Eh (AhU l k (({ Ref:=({ Zb:=a0,No:=a1 }:Aoz),By:=({ Zb:=a2,No:=a3 }:Aoz),Zw1:=a4,Zx1:=({ Za:=a5,Ref:=({ Zb:=a6,No:=a7 }:Aoz),Zn1:=a8,Zb1:=a9,Zc:=a10,Zo1:=a11,Zw:=a12,To:=a13,Code:=a14,Zp1:=a15,Zq1:=a16,Zr1:=a17,Zs1:=a18,Zt1:=a19,Zu1:=a20 }:AoB) }:AoI))):=AdP (c:=Eh) (x:=({ Ref:=({ Zb:=a0,No:=a1 }:Aoz),By:=({ Zb:=a2,No:=a3 }:Aoz),Zw1:=a4,Zx1:=({ Za:=a5,Ref:=({ Zb:=a6,No:=a7 }:Aoz),Zn1:=a8,Zb1:=a9,Zc:=a10,Zo1:=a11,Zw:=a12,To:=a13,Code:=a14,Zp1:=a15,Zq1:=a16,Zr1:=a17,Zs1:=a18,Zt1:=a19,Zu1:=a20 }:AoB) }:AoI))
theorem Adv{F}{l:List ((Int×Int)×AoI)}(a b:Int):MI (B.env F) 138 (M2 Eh l) (.agg [i64 a,i64 b]) true=if Tg a b then some (.tup [.agg [i64 (((((Fv l (a,b)).getD C3)).Ref).Zb),i64 (((((Fv l (a,b)).getD C3)).Ref).No),i64 (((((Fv l (a,b)).getD C3)).By).Zb),i64 (((((Fv l (a,b)).getD C3)).By).No),i64 ((((Fv l (a,b)).getD C3)).Zw1),i64 (((((Fv l (a,b)).getD C3)).Zx1).Za),i64 ((((((Fv l (a,b)).getD C3)).Zx1).Ref).Zb),i64 ((((((Fv l (a,b)).getD C3)).Zx1).Ref).No),i64 (((((Fv l (a,b)).getD C3)).Zx1).Zn1),i64 (((((Fv l (a,b)).getD C3)).Zx1).Zb1),i64 (((((Fv l (a,b)).getD C3)).Zx1).Zc),i64 (((((Fv l (a,b)).getD C3)).Zx1).Zo1),i64 (((((Fv l (a,b)).getD C3)).Zx1).Zw),i64 (((((Fv l (a,b)).getD C3)).Zx1).To),i64 (((((Fv l (a,b)).getD C3)).Zx1).Code),i64 (((((Fv l (a,b)).getD C3)).Zx1).Zp1),i64 (((((Fv l (a,b)).getD C3)).Zx1).Zq1),i64 (((((Fv l (a,b)).getD C3)).Zx1).Zr1),i64 (((((Fv l (a,b)).getD C3)).Zx1).Zs1),.str (((((Fv l (a,b)).getD C3)).Zx1).Zt1),.sl false (L Ah (((((Fv l (a,b)).getD C3)).Zx1).Zu1))],.bool ((Fv l (a,b)).isSome)])else none:=AaR (c:=Eh) (z:=C3) rfl (Af3 F) (by decide) rfl
theorem AmW{F}:((B.env F).bty=some 138)=False:=ApV (fun h:(none:Option TypeId)=some 138=>by cases h)
theorem AkV{F}:((B.env F).bty=some 143)=False:=ApV (fun h:(none:Option TypeId)=some 143=>by cases h)
theorem Ada{F}{σ:Ab}(s x:AV):AZ (B.env F) σ .append [85,85] [s,x]=match ET σ x with
      | some new=>if E8 x 21=true then none else if ∀cs∈new,cs.length=21 then(match s with
          | .sl full els=>
            if els=[]∧full=true then
              if CM new.length 192 then some (.bs false σ.length new.length 0 new.length,σ++[.buf 21 new false])else none
            else if new=[]then some (.sl full els,σ)
            else if full=true∧(∀cs∈els,cs.length=21)∧CM (els.length+new.length) 192
            then some (.bs false σ.length (els.length+new.length) 0 (els.length+new.length),σ++[.buf 21 (els++new) false])else none
          | .bs full id tot off len=>match σ[id]? with
            | some (.buf k els ro)=>
              if els.length=tot∧k=21∧CM (len+new.length) 192 then
                if off=0∧len=tot then some (.bs false id (tot+new.length) 0 (tot+new.length),σ.set id (.buf k (els++new) ro))
                else if new=[]then some (.bs full id tot off len,σ)
                else if full then some (.bs false σ.length (len+new.length) 0 (len+new.length),σ++[.buf k ((els.drop off).take len++new) false])
                else none
              else none
            |some (.tb T l)=>O6 σ id tot off len 192 21 143 T l new
            |_=>none
          |_=>none)
        else none
      |none=>none:=Ff (AlF F) (Af3 F) (by decide) (AlF F) (.inl ⟨_,rfl⟩) s x []
theorem Ado{F}{op:BinOp}(a:Arr UInt8 32):AH (B.env F) op 42 (.agg (C1 u8 a.l)) (.agg [u8 (0:UInt8),u8 (0:UInt8),u8 (0:UInt8),u8 (0:UInt8),u8 (0:UInt8),u8 (0:UInt8),u8 (0:UInt8),u8 (0:UInt8),u8 (0:UInt8),u8 (0:UInt8),u8 (0:UInt8),u8 (0:UInt8),u8 (0:UInt8),u8 (0:UInt8),u8 (0:UInt8),u8 (0:UInt8),u8 (0:UInt8),u8 (0:UInt8),u8 (0:UInt8),u8 (0:UInt8),u8 (0:UInt8),u8 (0:UInt8),u8 (0:UInt8),u8 (0:UInt8),u8 (0:UInt8),u8 (0:UInt8),u8 (0:UInt8),u8 (0:UInt8),u8 (0:UInt8),u8 (0:UInt8),u8 (0:UInt8),u8 (0:UInt8)])=match op with
 |.eql=>some (.bool (a==(⟨[(0:UInt8),0,0,0,0,0,0,0,0,0,0,0,0,0,0,0,0,0,0,0,0,0,0,0,0,0,0,0,0,0,0,0],rfl⟩:Arr UInt8 32)))
 |.neq=>some (.bool (!(a==(⟨[(0:UInt8),0,0,0,0,0,0,0,0,0,0,0,0,0,0,0,0,0,0,0,0,0,0,0,0,0,0,0,0,0,0,0],rfl⟩:Arr UInt8 32))))
 |_=>none:=AhV a (⟨[(0:UInt8),0,0,0,0,0,0,0,0,0,0,0,0,0,0,0,0,0,0,0,0,0,0,0,0,0,0,0,0,0,0,0],rfl⟩:Arr UInt8 32)
theorem Ai6{F}(x y:Bool):AH (B.env F) .neq 4 (.bool x) (.bool y)=some (.bool (!(x==y))):=RD (tb4 F) x y
theorem Al5{F}:((B.env F).bty=some 178)=False:=ApV (fun h:(none:Option TypeId)=some 178=>by cases h)
theorem Agg{F}{σ:Ab}(id off:Nat)(x:AV):As (B.env F) σ 178 (.ref id off) x=match idx x 11 with
 |some i=>some (.ref id (off+i*1))
 |none=>none:=KR (Agq F) (Agv F) id off x
theorem AbV{F}{σ:Ab}(s x:AV):AZ (B.env F) σ .append [45,45] [s,x]=match ET σ x with
      | some new=>if E8 x 3=true then none else if ∀cs∈new,cs.length=3 then(match s with
          | .sl full els=>
            if els=[]∧full=true then
              if CM new.length 24 then some (.bs false σ.length new.length 0 new.length,σ++[.buf 3 new false])else none
            else if new=[]then some (.sl full els,σ)
            else if full=true∧(∀cs∈els,cs.length=3)∧CM (els.length+new.length) 24
            then some (.bs false σ.length (els.length+new.length) 0 (els.length+new.length),σ++[.buf 3 (els++new) false])else none
          | .bs full id tot off len=>match σ[id]? with
            | some (.buf k els ro)=>
              if els.length=tot∧k=3∧CM (len+new.length) 24 then
                if off=0∧len=tot then some (.bs false id (tot+new.length) 0 (tot+new.length),σ.set id (.buf k (els++new) ro))
                else if new=[]then some (.bs full id tot off len,σ)
                else if full then some (.bs false σ.length (len+new.length) 0 (len+new.length),σ++[.buf k ((els.drop off).take len++new) false])
                else none
              else none
            |some (.tb T l)=>O6 σ id tot off len 24 3 182 T l new
            |_=>none
          |_=>none)
        else none
      |none=>none:=Ff (AkG F) (Adj F) (by decide) (AkG F) (.inl ⟨_,rfl⟩) s x []
theorem Aob{F}(f:Bool)(l:List UInt8):JD (B.env F) 42 (.sl f (L cU8 l))=if InB 32 l.length then some (.rp (C1 u8 (S8 32 ((0:UInt8)) l).l))else none:=sapA (Aky F) (fun _=>rfl) (by decide) f l
attribute [go_sem] lm0 own3 own4 own5 own6 own7 own8 own9 AmK Anc AnO Anz Ams Alq AnJ An0 AkI AnE Alr AnI Amu Am2 Ame Aoc AmQ Amx Aly AmC Aml Ans Alt Ak6 AlD AnC Ank AkU AnT Ang AlP AlR AkM Ak7 Ana AkY AmB AlU Ani Aod Ant An5 Al1 Amv AlA AlQ Ak1 AlO Amn An3 AlT AnH AlC Aof Alp Alw AlB Am1 AnX Ak3 AlV An2 AlS Ak4 AlN Ami AnL AnF Amg AlK AkX An4 Al3 Amc AnQ Am6 AnK Amr Amf An7 Ak5 AmU Aoj AkO AmG Aoa Al0 AmH AnD AgX AiI Air Ahk Akf Aie Ag7 Ais AiS AiQ Akd AgV AiW Ahh Aik AiF Ahp Ag3 Aht Ai1 AjU Aiq Aj0 Aiw Aho AjM Ahf Ah7 Aia AiB AiY AgW Ain AhA AiC AiZ AjK Ajy Aj6 AgY AjO Ahl Aj1 AiP AhO Ahm Ah9 Ahv AhP AiA Ajl AhI Ai5 Aih AhG AjH Aib Ahy AjQ Ahr Aj2 Aix AgQ Aig Akk Ai2 AiR Ah4 Aip An Ar R9 Ac Ag Aj Ai Ya Ap Am ZU Qv Ae A3 Wa Ah AB Q0 Ad A9 Ak Ph UB US TA K6 Af A6 P2 tb3 tb4 tb5 tb9 tb22 tb23 tb25 tb26 tb27 tb28 tb29 tb31 tb32 tb33 Akw tb36 AgM AkC tb40 Aky AkQ AkG tb47 Akz tb50 AlG tb57 Agh tb68 tb69 AnB tb72 Anw AdI AlF Amj AcX AfM AjY Aha AhK Ag5 Ait AhC AkW Af3 AgR Agm All Agv Agq Adj Ann AhW AgO Afx Aiy Anq Ahu AbK AhZ Ad5 AhH Pu Pn Pb OZ Pl P9 Pm Pi P5 OX P3 P4 OY Pg Pj Pk Pz MK NW MS Nz NK Mx Oz MO OH Np MG MT MQ N8 MX O1 Oa Om O7 M3 Mz Of NU M8 OL Ng NM MF OG NP M7 Nb MZ MY NV MW MM MP OD O3 Ob NS NF Nl Ny N9 MA Nf NB Na O2 Nn Oh MB OP Akj Aiu Aki Ai0 Aiz AjF Ai3 Afs Afo Agl AeR AgD Agc AcC Xz M6 NQ GS He Hf Alf Ajd Aj5 Ajq AgS AjG Aim Ajx Af4 AeF Ad9 Afq AeY AeE Aeq Aen AeB AeH Aez AfU Agj Afu nb36 Ab5 nb47 Ahi AnR Aio AlX nb57 Aic Amw Akn Ajs Aoi Ah0 AkJ An6 AhX AkN AfN AgC AlJ nb68 Ajp AhQ AjB Als Ag1 Am9 Ah5 nb74 Akm AkS Ajf XL AjS Alm Alu Aj7 Aee Abu AiE AnA AmT Agr Agp Y2 nb42 Afm Ajc Afl nb50 Aca AmY AhV Acb Ajj nb44 Adh AcS AjR AbR nb40 AkL AiJ nb52 Z5 nb88 Adc nb85 Ad4 Eh Aem Adv AmW AkV Ada Ado Ai6 Al5 Agg AbV Aob
section
variable {V:Type}
def An1(step:V→Aoz→AoD→Option V)(row:List AoD)(i:Int)(kv:Int×V):Option ((Int×V)⊕V) :=
 if(decide (kv.1<(row.length:Int)))then
  if InR kv.1 row.length then(step kv.2 { Zb:=i,No:=w64 (kv.1+1) } (nth row kv.1.toNat)).bind fun v'=>some (.inl (w64 (kv.1+1),v'))else none
 else some (.inr kv.2)
def Am7(step:V→Aoz→AoD→Option V)(logs:List (List AoD))(iv:Int×V):Option ((Int×V)⊕V) :=
 if(decide (iv.1<(logs.length:Int)))then
  if InR iv.1 logs.length then(AK (An1 step (nth logs iv.1.toNat) iv.1) (0,iv.2)).bind fun v'=>some (.inl (w64 (iv.1+1),v'))else none
 else some (.inr iv.2)
def AgZ(step:V→Aoz→AoD→Option V)(logs:List (List AoD))(v:V):Option V:=(AK (Am7 step logs) (0,v)).bind some
end
theorem Adt(N:Nat)(ts:List Nat)(l:Fr):leL (Aq N l) (Aq N (keep ts l)):=by
  have key:∀(ns:List Nat),leL (ns.map (Rv.look l)) (ns.map (Rv.look (keep ts l))):=by
    intro ns
    induction ns with
    |nil=>exact trivial
    | cons t ns ih=>
      refine⟨?_,ih⟩;rcases S2 ts l t with h|h
      · exact .inl h
      · rw[h];exact .inr (AV.wk_refl _)
  exact key _
theorem Abw(n N:Nat):∀(l:Fr),(∀p∈l,p.2.under n=true)→QR n (Aq N l):=by
  intro l h x hx;obtain⟨t,_,rfl⟩:=ApT.1 hx
  induction l with
  |nil=>show(AV.junk).under n=true;simp[AV.under]
  | cons p l ih=>
    show(if t=p.1 then p.2 else Rv.look l t).under n=true;by_cases e:t=p.1
    · rw[AoO e];exact h p Ao2
    · rw[AoQ e];exact ih (fun q hq=>h q (Api _ hq)) (by simp only[Aq,ApT,Apz];exact⟨t,by simpa using ‹t∈List.range N›,rfl⟩)
set_option maxHeartbeats 2000000 in
theorem YQ{V:Type}{o:Out}{n:Nat}{gop:Operand}{assign body:Code}{N:Nat}{fr l:Fr}{K:Cl}{S:V→Ab}{step:V→Aoz→AoD→Option V}{logs:List (List AoD)}{forks:List AoE}{f1 f2 ro:Bool}{v0 x:V}{p1 p2 idb:Nat}(M:Nat) (hx:AgZ step logs v0=some x) (hmk:o.mks=true) (hg:ev (Aq N fr) gop=.fn 100 [.ref idb 0]) (hS:∀v,(S v).length=M) (hb:(S v0)[idb]?=some (.box [.sl f1 (L (cSl Ad) logs),.sl f2 (L A9 forks)] ro)) (hl:∀p∈l,p.1<N∧Rv.look fr p.1=p.2) (hp1:p1<N) (hp2:p2<N) (hpn:p1≠p2) (hpl:∀p∈l,p.1≠p1∧p.1≠p2) (hca:JH assign=true) (hcb:JH body=true) (hround:∀(lp:Nat) (ac bd:Code) (v:V) (i k:Int) (r:AoD) (v':V),step v ⟨i,k⟩ r=some v' →Run (B.env { F:=o.F,rd:=some lp }) (M+1) assign ⟨Aq N ((p2,.agg (Ad r))::(p1,.agg [i64 i,i64 k])::l),S v++[.lp false N l #[p1,p2] ac bd,.box (Ad r) false]⟩ (wkP (B.env { F:=o.F,rd:=some lp }) (M+1) (Aoh (B.env { F:=o.F,rd:=some lp }) M N l #[p1,p2] ac bd body (wkP (B.env { F:=o.F,rd:=some lp }) (M+1) (Am0 M (S v'++[.lp true N l #[p1,p2] ac bd])))))) (hk:K .normal ⟨Aq N fr,S x++[.gone]⟩):Run (B.env o) n (.rangeFunc gop #[p1,p2] assign body) ⟨Aq N fr,S v0⟩ K:=by
 refine Y3 ok hmk hg (by intro ys h;cases h) Tryz.func100 rfl (by decide +kernel) rfl l hl ?_;rw[hS v0];have hE:=ok.env { F:=o.F };refine FT ?_;have hidb:idb<(S v0).length:=(AoK.1 hb).1
 have hb0:(S v0++[ABlk.lp false N l #[p1,p2] assign body])[idb]?=some (.box [.sl f1 (L (cSl Ad) logs),.sl f2 (L A9 forks)] ro):=by
  rw[AoU hidb];exact hb
 show Run (B.env { F:=o.F }) (M+1) _ ⟨Kt 32 [.yld M,.ref idb 0],_⟩ _;rw[Eb 32 [.yld M,.ref idb 0] (Apm rfl) (Ll 0 _) (fun t _=>E3 _ 0 t (Apx _))];show Run (B.env { F:=o.F }) (M+1) _ ⟨Aq 32 [(0,.yld M),(1,.ref idb 0)],_⟩ _;revert hx;unfold AgZ;refine T0 [0,8,9,10] ?_ (by simp only[go_sem,hb0];exact AP);refine Sb ?_;refine Lo (fun iv=>⟨Aq 32 [(0,.yld M),(8,.sl f1 (L (cSl Ad) logs)),(9,i64 ((logs.length:Int))),(10,i64 iv.1)],S iv.2++[.lp false N l #[p1,p2] assign body]⟩) (Weak.refl _ _) ?_;rintro⟨i,v⟩ x1 o1 hj1 hx1;show Am7 step logs (i,v)=some o1→_;unfold Am7;dsimp only;refine T0 [0,8,9,10,11] ?_;refine Sq ?_;refine Cd ?_ ?_
 ·refine Sk ?_;refine Tn ?_;refine Sq ?_;refine Sb ?_;refine Ck fun hc1=>?_
  refine Te [0,3,4,8,9,10] Aa (Ev (by simp only[go_sem,qR hc1];exact AP)) ?_;refine T0 [0,3,8,9,10,15,16,17] ?_;refine Sb ?_;refine Lo (fun kv=>⟨Aq 32 [(0,.yld M),(3,i64 i),(8,.sl f1 (L (cSl Ad) logs)),(9,i64 ((logs.length:Int))),(10,i64 i),(15,.sl false (L Ad (nth logs i.toNat))),(16,i64 (((nth logs i.toNat).length:Int))),(17,i64 kv.1)],S kv.2++[.lp false N l #[p1,p2] assign body]⟩) (Weak.refl _ _) ?_;rintro⟨k,v⟩ x2 o2 hj2 hx2;show An1 step (nth logs i.toNat) i (k,v)=some o2→_;unfold An1;dsimp only;refine T0 [0,3,8,9,10,15,16,17,18] ?_;refine Sq ?_;refine Cd ?_ ?_
  ·refine Sk ?_;refine Tn ?_;refine Sq ?_;refine Sb ?_;refine Ck fun hc2=>?_
   obtain⟨r,hr⟩:∃r,nth (nth logs i.toNat) k.toNat=r:=⟨_,rfl⟩;have hlen:(S v++[ABlk.lp false N l #[p1,p2] assign body]).length=M+1:=by simp[hS v]
   rw[hr];generalize hσ0:S v++[ABlk.lp false N l #[p1,p2] assign body]=σ0 at hlen;have hlast:∀b:ABlk,(σ0++[b])[M+1]?=some b:=fun b=>by rw[AoS (by omega),hlen];simp
   have hset:∀b c:ABlk,(σ0++[b]).set (M+1) c=σ0++[c]:=fun b c=>by rw[Aqd _ _ (by omega),hlen];simp
   refine Te [0,3,5,6,8,9,10,15,16,17] Aa (Ev (by simp only[go_sem,qR hc2,hr,hlen,hlast,hset];exact AP)) ?_;refine Bd fun v' hv=>?_
   refine Sq ?_;intro hP
   refine AbX 6 (idl:=M) (σ1:=σ0++[.box (Ad r) false]) (fr1:=(27,.agg (Ad r))::(26,.agg [i64 i,i64 (w64 (k+1))])::(25,i64 (w64 (k+1)))::(24,i64 k)::(23,i64 i)::(22,.yld M)::[(0,.yld M),(3,i64 i),(5,i64 k),(6,.ref (M+1) 0),(8,.sl f1 (L (cSl Ad) logs)),(9,i64 ((logs.length:Int))),(10,i64 i),(15,.sl false (L Ad (nth logs i.toNat))),(16,i64 (((nth logs i.toNat).length:Int))),(17,i64 k)]) (fr3:=(29,.bool (!true))::(28,.bool true)::[(0,.yld M),(3,i64 i),(8,.sl f1 (L (cSl Ad) logs)),(9,i64 ((logs.length:Int))),(10,i64 i),(15,.sl false (L Ad (nth logs i.toNat))),(16,i64 (((nth logs i.toNat).length:Int))),(17,i64 k)]) (M:=N) (l:=l) (ps:=#[p1,p2]) (assign:=assign) (body:=body) (fr2:=[(0,.yld M),(3,i64 i),(8,.sl f1 (L (cSl Ad) logs)),(9,i64 ((logs.length:Int))),(10,i64 i),(15,.sl false (L Ad (nth logs i.toNat))),(16,i64 (((nth logs i.toNat).length:Int))),(17,i64 k)])
    (args:=[.agg [i64 i,i64 (w64 (k+1))],.agg (Ad r)]) hE rfl ?h1 rfl rfl rfl rfl ?hf ?hσ rfl (Nat.lt_succ_self M) hca hcb ?hle ?hun ?hp1 ?hp2 ?hp3 ?hargs (fun σ3=>?h3) (fun lp=>?h)
   case h1=>
    refine(Dv _ _).symm.trans ?_;simp only[go_sem,hlast,hlen]
   case hf=>rfl
   case hσ=>
    rw[←hσ0,Ap8,AoS (by rw[hS v];exact Ao0 _),hS v,AqF];rfl
   case hle=>exact Adt 32 [0,3,8,9,10,15,16,17] _
   case hun=>
    refine Abw _ _ _ (fun p hp=>?_);simp only[Ao9,ArR,or_false]at hp;rcases hp with rfl|rfl|rfl|rfl|rfl|rfl|rfl|rfl<;>simp[AV.under,i64]
   case hp1=>intro p hp;simp at hp;rcases hp with rfl|rfl<;>assumption
   case hp2=>intro p hp hh;simp at hh;rcases hh with hh|hh;exact(hpl p hp).1 hh;exact(hpl p hp).2 hh
   case hp3=>simpa using hpn
   case hargs=>rfl
   case h3=>
    refine(Dv _ _).symm.trans ?_;simp only[go_sem]
   case h=>
    have h2:=FT (hround lp assign body v i (w64 (k+1)) r v' hv);have hst:σ0++[ABlk.box (Ad r) false]=S v++[.lp false N l #[p1,p2] assign body,.box (Ad r) false]:=by rw[←hσ0,Ap8];rfl
    rw[hst];refine D4 h2 ?_;rintro ex st1 ⟨rfl,q1,q2⟩;refine⟨rfl,q1,D4 (FT q2) ?_⟩;rintro ex st2 ⟨rfl,q3⟩;rw[q3];refine⟨rfl,by rw[AoS (by rw[hS v'];exact Ao0 _),hS v',AqF];rfl,?_⟩;rw[Aqd _ _ (by rw[hS v'];exact Ao0 _),hS v',AqF,Arc];revert hP;refine Tn ?_;refine Cf ?_;refine Sk ?_;refine Bn ?_;refine Tn ?_;refine F0 [0,3,8,9,10,15,16,17] ?_;exact Ln (Weak.refl _ _)
  ·refine Sx ?_;refine Tx ?_;refine Ly hx2 hj2 ?_;refine Bx ?_;refine Bn ?_;refine Tn ?_;refine F0 [0,8,9,10] ?_;exact Ln (Weak.refl _ _)
 ·refine Sx ?_;refine Tx ?_;refine Ly hx1 hj1 ?_;refine Bx ?_;refine Wp (Weak.refl _ _) ?_;intro h;obtain rfl:=AoR h;refine⟨.inl rfl,by rw[AoS (by rw[hS];exact Ao0 _),hS,AqF];rfl,?_⟩;rw[Aqd _ _ (by rw[hS];exact Ao0 _),hS,AqF,Arc];exact hk
theorem Ra{V:Type}{F:Addr→Prop}{base:Nat}{n:Nat}{gop:Operand}{assign body:Code}{N:Nat}{fr:Fr}{K:Cl}(S:V→Ab)(l:Fr){step:V→Aoz→AoD→Option V}{logs:List (List AoD)}{forks:List AoE}{f1 f2 ro:Bool}{v0 x:V}{p1 p2 idb:Nat}(M:Nat)(σ0 σx:Ab) (hround:∀(lp:Nat) (ac bd:Code) (v:V) (i k:Int) (r:AoD) (v':V),step v ⟨i,k⟩ r=some v' →Run (B.env { F:=F,rd:=some lp }) (M+1) assign ⟨Aq N ((p2,.agg (Ad r))::(p1,.agg [i64 i,i64 k])::l),S v++[.lp false N l #[p1,p2] ac bd,.box (Ad r) false]⟩ (wkP (B.env { F:=F,rd:=some lp }) (M+1) (Aoh (B.env { F:=F,rd:=some lp }) M N l #[p1,p2] ac bd body (wkP (B.env { F:=F,rd:=some lp }) (M+1) (Am0 M (S v'++[.lp true N l #[p1,p2] ac bd])))))) (hk:K .normal ⟨Aq N fr,σx⟩) (hx:AgZ step logs v0=some x) (hl:AnP N fr l) (h0:S v0=σ0:=by rfl) (hσx:S x++[.gone]=σx:=by rfl) (hg:ev (Aq N fr) gop=.fn 100 [.ref idb 0]:=by rfl) (hS:∀v,(S v).length=M:=by exact fun _=>rfl) (hb:(S v0)[idb]?=some (.box [.sl f1 (L (cSl Ad) logs),.sl f2 (L A9 forks)] ro):=by rfl) (hp:(decide (p1<N)&&decide (p2<N)&&p1 != p2&&(l.map (·.1)).all (fun t=>t != p1&&t != p2))=true:=by rfl) (hca:JH assign=true:=by rfl) (hcb:JH body=true:=by rfl) :Run (B.env { F:=F,mks:=true,base:=base }) n (.rangeFunc gop #[p1,p2] assign body) ⟨Aq N fr,σ0⟩ K:=by
 subst h0 hσx;simp only[Apb,Apj,Ars,ne_eq,AoZ,ApT]at hp;obtain⟨⟨⟨h1,h2⟩,h3⟩,h4⟩:=hp;exact YQ (o:={ F:=F,mks:=true,base:=base }) M hx rfl hg hS hb (V9 hl) h1 h2 h3 (fun p hp=>h4 _ ⟨p,hp,rfl⟩) hca hcb hround hk
def Fb(a:UInt64)(b:UInt64)(c:UInt64)(d:UInt64):Option ((UInt64×UInt64×UInt64)⊕(UInt64)) :=if (decide (c>(0:UInt64)))then (if((c%(2:UInt64))==(1:UInt64))then if ¬a=0 then some ((d+b)%a) else none else some d:Option (UInt64)).bind fun e=>if ¬a=0 then some (.inl (((b+b)%a),(c/(2:UInt64)),e)) else none else some (.inr d)
def GZ(a:UInt64)(b:UInt64)(c:UInt64):Option (UInt64) :=((AK (fun(v:UInt64×UInt64×UInt64)=>Fb c v.1 v.2.1 v.2.2) (a,b,(0:UInt64))).bind fun d=>some d:Option (UInt64)).bind fun e=>some e
def Hb(a:UInt64)(b:UInt64)(c:UInt64):Option ((UInt64×UInt64×UInt64)⊕(UInt64)) :=if(decide (b>(0:UInt64)))then (if((b%(2:UInt64))==(1:UInt64))then (GZ c a (2305843009213690799:UInt64)).bind fun d=>some d else some c:Option (UInt64)).bind fun e=>(GZ a a (2305843009213690799:UInt64)).bind fun f=>some (.inl (f,(b/(2:UInt64)),e)) else some (.inr c)
def Lc(a:UInt64)(b:UInt64):Option (UInt64) :=(lt1 (a%(2305843009213690799:UInt64)) fun(c:UInt64)=>(AK (fun(v:UInt64×UInt64×UInt64)=>Hb v.1 v.2.1 v.2.2) (c,b,(1:UInt64))).bind fun d=>some d:Option (UInt64)).bind fun e=>some e
def KT(a:UInt64):Option (UInt64×Int) :=(if(decide (a<(1:UInt64)))then some true else some (decide (a≥(1152921504606845399:UInt64))):Option (Bool)).bind fun b=>if b then some ((0:UInt64),30) else (Lc (4:UInt64) a).bind fun c=>some (c,0)
def G9(a:Int)(b:List Aox):Option ((Int×List Aox)⊕(List Aox)) :=if(decide (a<2))then (KT (UInt64.ofInt (w64 (7+a)))).bind fun c=>if CM (b.length+1) 144 then lt1 (b++([({ Key:=c.1,Zf1:=({ Zd1:=(({ Zw:=0,To:=0 }:Aov),({ Zw:=0,To:=0 }:Aov),({ Zw:=0,To:=0 }:Aov),({ Zw:=0,To:=0 }:Aov),({ Zw:=0,To:=0 }:Aov),({ Zw:=0,To:=0 }:Aov),({ Zw:=0,To:=0 }:Aov)),Ze1:=[] }:Aow) }:Aox)]:List Aox)) fun(d:List Aox)=>some (.inl ((w64 (a+1)),d)) else none else some (.inr b)
def r14_Example  : Option (Aoy) :=lt1 ([({ Za:=1,Zb:=0,Zc:=(-1) }:Aol),({ Za:=3,Zb:=0,Zc:=1 }:Aol),({ Za:=4,Zb:=1,Zc:=(-1) }:Aol)]:List Aol) fun(a:List Aol)=>lt1 ([({ A:=0,B:=1,Zb:=0,Zd:=10,Km:=5 }:Aom),({ A:=1,B:=2,Zb:=1,Zd:=20,Km:=9 }:Aom)]:List Aom) fun(b:List Aom)=>lt1 ([({ Zg:=1000,Zh:=0,Zi:=0,Zj:=0,Zk:=0,Zl:=(7:UInt64),Zm:=1000,Zn:=0 }:Aoo)]:List Aoo) fun(c:List Aoo)=>lt1 ([({ Zo:=0,Zp:=0,Zq:=0,Zr:=0,Zs:=5000 }:Aop)]:List Aop) fun(d:List Aop)=>lt1 ([({ Zb1:=0,Low:=(-3),Zc1:=3 }:Aot)]:List Aot) fun(e:List Aot)=>lt1 ([({ Zb1:=2 }:Aou)]:List Aou) fun(f:List Aou)=>((AK (fun(v:Int×List Aox)=>G9 v.1 v.2) (0,[])).bind fun g=>some g:Option (List Aox)).bind fun i=>some ({ Zg1:=({ Ze:=a,Zf:=b }:Aon),Zh1:=({ Zx:=c,Zy:=d,Zz:=[],Za1:=[] }:Aos),Zi1:=e,Zj1:=f,Zk1:=i }:Aoy)
def BZ(a:Int):Option (AoB) :=some ({ Za:=8,Ref:=({ Zb:=0,No:=0 }:Aoz),Zn1:=0,Zb1:=0,Zc:=0,Zo1:=0,Zw:=3,To:=0,Code:=a,Zp1:=0,Zq1:=0,Zr1:=0,Zs1:=0,Zt1:=([]:List UInt8),Zu1:=[] }:AoB)
def Hv(a:Aol):Option (Bool) :=(if(decide (a.Za<1))then some true else if(decide (a.Za>5))then some true else if(decide (a.Zb<0))then some true else some (decide (a.Zb≥16)):Option (Bool)).bind fun b=>if b then some false else if(a.Za != 3)then some (a.Zc==(-1)) else (if(decide (a.Zc≥0))then if(decide (a.Zc<16))then some (a.Zc != a.Zb) else some false else some false:Option (Bool)).bind fun c=>some c
def Fl(b:Aon)(a:Int):Option ((Int)⊕((Unit)⊕((Unit)⊕(Int)))) :=if (decide (a<(b.Ze.length:Int)))then if InR a b.Ze.length then lt1 ((nth b.Ze a.toNat).Za) fun(c:Int)=>lt1 ((nth b.Ze a.toNat).Zb) fun(d:Int)=>lt1 ((nth b.Ze a.toNat).Zc) fun(e:Int)=>(Hv ({ Za:=c,Zb:=d,Zc:=e }:Aol)).bind fun f=>if(!f)then ((some 1).bind fun g=>some (.inr g)).bind fun i=>some (.inr (.inr i)) else some (.inl (w64 (a+1))) else none else some (.inr (.inl ()))
def Fo(b:Aon)(i:Int)(a:Int):Option ((Int)⊕((Unit)⊕((Unit)⊕(Int)))) :=if (decide (a<(b.Zf.length:Int)))then if InR a b.Zf.length then lt1 ((nth b.Zf a.toNat).A) fun(c:Int)=>lt1 ((nth b.Zf a.toNat).B) fun(d:Int)=>lt1 ((nth b.Zf a.toNat).Zb) fun(e:Int)=>lt1 ((nth b.Zf a.toNat).Zd) fun(f:Int)=>lt1 ((nth b.Zf a.toNat).Km) fun(g:Int)=>(if(decide ((Xr (Xr (Xr c d) e) g)<0))then some true else if(decide ((Hn c d)≥i))then some true else if(c==d)then some true else if(decide (e≥16))then some true else if(decide (f<1))then some true else if(decide (f>100000))then some true else some (decide (g>10000)):Option (Bool)).bind fun j=>if j then ((some 1).bind fun k=>some (.inr k)).bind fun l=>some (.inr (.inr l)) else some (.inl (w64 (a+1))) else none else some (.inr (.inl ()))
def H0(a:Aon):Option (Int) :=lt1 (a.Ze.length:Int) fun(b:Int)=>(if(decide (b>512))then some true else some (decide ((a.Zf.length:Int)>2048)):Option (Bool)).bind fun c=>if c then some 2 else ((AK (fun(v:Int)=>Fl a v) 0).bind fun x=>match x with
  |.inl ()=>some (.inl ())
  |.inr z=>some z:Option ((Unit)⊕(Int))).bind fun x=>match x with
  | .inl ()=>((AK (fun(v:Int)=>Fo a b v) 0).bind fun x=>match x with
   |.inl ()=>some (.inl ())
   |.inr z=>some z:Option ((Unit)⊕(Int))).bind fun x=>match x with
   |.inl ()=>some 0
   |.inr z=>some z
  |.inr z=>some z
def AR(a:Bool)(b:Int):Option (Int) :=if(!a)then some 1 else some b
def AD(a:Int)(b:Int)(c:Int):Option (Bool) :=(if(decide (a≥b))then some (decide (a≤c)) else some false:Option (Bool)).bind fun d=>some d
def GE(d:Int)(b:List Int)(a:Int)(c:Int):Option ((Int×Int)⊕(Int)) :=if(decide (a<d))then if InR a b.length then (AD (nth b a.toNat) 0 1000000).bind fun e=>(AR e c).bind fun f=>some (.inl ((w64 (a+1)),f)) else none else some (.inr c)
def GA(b:Aos)(a:Int)(d:Int):Option ((Int×Int)⊕(Int)) :=if (decide (a<(b.Zx.length:Int)))then (if InR a b.Zx.length then lt1 ((nth b.Zx a.toNat).Zg) fun(e:Int)=>lt1 ((nth b.Zx a.toNat).Zh) fun(f:Int)=>lt1 ((nth b.Zx a.toNat).Zi) fun(g:Int)=>lt1 ((nth b.Zx a.toNat).Zj) fun(j:Int)=>lt1 ((nth b.Zx a.toNat).Zk) fun(i:Int)=>lt1 ((nth b.Zx a.toNat).Zl) fun(z:UInt64)=>lt1 ((nth b.Zx a.toNat).Zm) fun(k:Int)=>lt1 ((nth b.Zx a.toNat).Zn) fun(l:Int)=>(lt1 (([e,f,g,i]:List Int).length:Int) fun(m:Int)=>lt1 ([e,f,g,i]:List Int) fun(n:List Int)=>(AK (fun(v:Int×Int)=>GE m n v.1 v.2) (0,d)).bind fun o=>some o:Option (Int)).bind fun c=>((AD j 0 7).bind fun p=>if p then (AD k 1 1073741824).bind fun q=>if q then (AD l 0 100).bind fun s=>(AR s c).bind fun t=>some t else (AR false c).bind fun u=>some u else (AR false c).bind fun w=>some w:Option (Int)).bind fun x=>some x else none:Option (Int)).bind fun y=>some (.inl ((w64 (a+1)),y)) else some (.inr d)
def G4(a:Aos)(b:Int)(c:Int):Option ((Int×Int)⊕(Int)) :=if (decide (b<(a.Zy.length:Int)))then if InR b a.Zy.length then lt1 ((nth a.Zy b.toNat).Zo) fun(e:Int)=>lt1 ((nth a.Zy b.toNat).Zp) fun(f:Int)=>lt1 ((nth a.Zy b.toNat).Zq) fun(g:Int)=>lt1 ((nth a.Zy b.toNat).Zr) fun(i:Int)=>lt1 ((nth a.Zy b.toNat).Zs) fun(j:Int)=>((AD e 0 (w64 ((a.Zx.length:Int)-1))).bind fun k=>if k then (AD f 0 63).bind fun l=>if l then (AD g 0 511).bind fun m=>(AR m c).bind fun n=>some n else (AR false c).bind fun o=>some o else (AR false c).bind fun p=>some p:Option (Int)).bind fun d=>((AD i 0 1073741824).bind fun q=>if q then (AD j 0 1099511627776).bind fun s=>(AR s d).bind fun t=>some t else (AR false d).bind fun u=>some u:Option (Int)).bind fun v=>some (.inl ((w64 (b+1)),v)) else none else some (.inr c)
def GK(a:Aos)(b:Int)(c:Int):Option ((Int×Int)⊕(Int)) :=if (decide (b<(a.Zz.length:Int)))then if InR b a.Zz.length then lt1 ((nth a.Zz b.toNat).Zt) fun(d:Int)=>lt1 ((nth a.Zz b.toNat).Zu) fun(e:Int)=>lt1 ((nth a.Zz b.toNat).Zv) fun(f:Int)=>((AD d 0 (w64 ((a.Zx.length:Int)-1))).bind fun g=>if g then (AD e 0 (w64 ((a.Zx.length:Int)-1))).bind fun i=>if i then if(d != e)then (AD f 0 1000000000).bind fun j=>(AR j c).bind fun k=>some k else (AR false c).bind fun l=>some l else (AR false c).bind fun m=>some m else (AR false c).bind fun n=>some n:Option (Int)).bind fun o=>some (.inl ((w64 (b+1)),o)) else none else some (.inr c)
def GD(d:Aos)(a:Int)(f:Int)(e:Arr Bool 4096):Option ((Int×Int×Arr Bool 4096)⊕(Int)) :=if (decide (a<(d.Za1.length:Int)))then (if InR a d.Za1.length then lt1 ((nth d.Za1 a.toNat).Zw) fun(b:Int)=>lt1 ((nth d.Za1 a.toNat).To) fun(c:Int)=>lt1 ((nth d.Za1 a.toNat).Zd) fun(j:Int)=>((AD b 0 63).bind fun k=>if k then (AD c 0 63).bind fun l=>if l then if(b != c)then (AD j 0 100000).bind fun m=>some m else some false else some false else some false:Option (Bool)).bind fun g=>(AR g f).bind fun i=>if g = true then if InR b 64 then if InR c 64 then (AR (!(e.get (b.toNat*64+c.toNat))) i).bind fun n=>if InR b 64 then if InR c 64 then lt1 (e.set (b.toNat*64+c.toNat) true) fun(o:Arr Bool 4096)=>some (n,o) else none else none else none else none else some (i,e) else none:Option (Int×Arr Bool 4096)).bind fun(p,q)=>some (.inl ((w64 (a+1)),p,q)) else some (.inr f)
def JO(a:Aos):Option (Int) :=(if(decide ((a.Zx.length:Int)>32))then some true else if(decide ((a.Zy.length:Int)>4096))then some true else if(decide ((a.Zz.length:Int)>1024))then some true else some (decide ((a.Za1.length:Int)>4096)):Option (Bool)).bind fun b=>if b then some 2 else ((AK (fun(v:Int×Int)=>GA a v.1 v.2) (0,0)).bind fun c=>some c:Option (Int)).bind fun d=>((AK (fun(v:Int×Int)=>G4 a v.1 v.2) (0,d)).bind fun e=>some e:Option (Int)).bind fun f=>((AK (fun(v:Int×Int)=>GK a v.1 v.2) (0,f)).bind fun g=>some g:Option (Int)).bind fun i=>((AK (fun(v:Int×Int×Arr Bool 4096)=>GD a v.1 v.2.1 v.2.2) (0,i,(Arr.rep 4096 false))).bind fun j=>some j:Option (Int)).bind fun k=>some k
def Cb(b:Aow)(d:Int)(a:Int):Option ((Int×Int)⊕((Unit)⊕((Unit)⊕(Int)))) :=if (decide (a<(b.Ze1.length:Int)))then if InR a b.Ze1.length then lt1 (nth b.Ze1 a.toNat) fun(c:Int)=>(if(decide (c≤d))then some true else some (decide (c>745654)):Option (Bool)).bind fun e=>if e then ((some 1).bind fun f=>some (.inr f)).bind fun g=>some (.inr (.inr g)) else some (.inl (c,(w64 (a+1)))) else none else some (.inr (.inl ()))
def DK(a:Aow):Option (Int) :=lt1 a.Zd1.2.2.2.2.2.1.Zw fun(b:Int)=>lt1 a.Zd1.2.2.2.2.2.2.Zw fun(c:Int)=>((if(decide (a.Zd1.1.Zw<0))then some true else if(decide (a.Zd1.1.To<a.Zd1.1.Zw))then some true else some (decide (a.Zd1.1.To>1440)):Option (Bool)).bind fun d=>if d then (some 1).bind fun e=>some (.inr e) else (if(decide (a.Zd1.2.1.Zw<0))then some true else if(decide (a.Zd1.2.1.To<a.Zd1.2.1.Zw))then some true else some (decide (a.Zd1.2.1.To>1440)):Option (Bool)).bind fun f=>if f then (some 1).bind fun g=>some (.inr g) else (if(decide (a.Zd1.2.2.1.Zw<0))then some true else if(decide (a.Zd1.2.2.1.To<a.Zd1.2.2.1.Zw))then some true else some (decide (a.Zd1.2.2.1.To>1440)):Option (Bool)).bind fun i=>if i then (some 1).bind fun j=>some (.inr j) else (if(decide (a.Zd1.2.2.2.1.Zw<0))then some true else if(decide (a.Zd1.2.2.2.1.To<a.Zd1.2.2.2.1.Zw))then some true else some (decide (a.Zd1.2.2.2.1.To>1440)):Option (Bool)).bind fun k=>if k then (some 1).bind fun l=>some (.inr l) else (if(decide (a.Zd1.2.2.2.2.1.Zw<0))then some true else if(decide (a.Zd1.2.2.2.2.1.To<a.Zd1.2.2.2.2.1.Zw))then some true else some (decide (a.Zd1.2.2.2.2.1.To>1440)):Option (Bool)).bind fun m=>if m then (some 1).bind fun n=>some (.inr n) else (if(decide (b<0))then some true else if(decide (a.Zd1.2.2.2.2.2.1.To<b))then some true else some (decide (a.Zd1.2.2.2.2.2.1.To>1440)):Option (Bool)).bind fun o=>if o then (some 1).bind fun p=>some (.inr p) else (if(decide (c<0))then some true else if(decide (a.Zd1.2.2.2.2.2.2.To<c))then some true else some (decide (a.Zd1.2.2.2.2.2.2.To>1440)):Option (Bool)).bind fun q=>if q then (some 1).bind fun s=>some (.inr s) else some (.inl ()):Option ((Unit)⊕(Int))).bind fun x=>match x with
 | .inl ()=>((AK (fun(v:Int×Int)=>Cb a v.1 v.2) ((-1),0)).bind fun x=>match x with
  |.inl ()=>some (.inl ())
  |.inr z=>some z:Option ((Unit)⊕(Int))).bind fun x=>match x with
  |.inl ()=>some 0
  |.inr z=>some z
 |.inr z=>some z
def GO(a:UInt64)(b:UInt64):Option (UInt64×UInt64) :=lt1 (a &&& (4294967295:UInt64)) fun(x0_2596:UInt64)=>lt1 (CZ a (32:UInt64).toNat) fun(x1_2598:UInt64)=>lt1 (b &&& (4294967295:UInt64)) fun(y0_2600:UInt64)=>lt1 (CZ b (32:UInt64).toNat) fun(y1_2602:UInt64)=>lt1 ((x1_2598*y0_2600)+(CZ (x0_2596*y0_2600) (32:UInt64).toNat)) fun(c:UInt64)=>lt1 (c &&& (4294967295:UInt64)) fun(w1_2606:UInt64)=>lt1 (CZ c (32:UInt64).toNat) fun(w2_2608:UInt64)=>lt1 (w1_2606+(x0_2596*y1_2602)) fun(w1_2610:UInt64)=>lt1 (((x1_2598*y1_2602)+w2_2608)+(CZ w1_2610 (32:UInt64).toNat)) fun(d:UInt64)=>some (d,(a*b))
def Ea(a:UInt64):Option (Int) :=(if(decide (a≥(4294967296:UInt64)))then lt1 (CZ a (32:UInt64).toNat) fun(g:UInt64)=>some (g,32) else some (a,0):Option (UInt64×Int)).bind fun(b,d)=>(if(decide (b≥(65536:UInt64)))then lt1 (CZ b (16:UInt64).toNat) fun(i:UInt64)=>some (i,(w64 (d+16))) else some (b,d):Option (UInt64×Int)).bind fun(c,e)=>(if(decide (c≥(256:UInt64)))then lt1 (CZ c (8:UInt64).toNat) fun(j:UInt64)=>some (j,(w64 (e+8))) else some (c,e):Option (UInt64×Int)).bind fun(f,k)=>if InR (f.toUInt8.toNat:Int) (([0,1,2,2,3,3,3,3,4,4,4,4,4,4,4,4,5,5,5,5,5,5,5,5,5,5,5,5,5,5,5,5,6,6,6,6,6,6,6,6,6,6,6,6,6,6,6,6,6,6,6,6,6,6,6,6,6,6,6,6,6,6,6,6,7,7,7,7,7,7,7,7,7,7,7,7,7,7,7,7,7,7,7,7,7,7,7,7,7,7,7,7,7,7,7,7,7,7,7,7,7,7,7,7,7,7,7,7,7,7,7,7,7,7,7,7,7,7,7,7,7,7,7,7,7,7,7,7,8,8,8,8,8,8,8,8,8,8,8,8,8,8,8,8,8,8,8,8,8,8,8,8,8,8,8,8,8,8,8,8,8,8,8,8,8,8,8,8,8,8,8,8,8,8,8,8,8,8,8,8,8,8,8,8,8,8,8,8,8,8,8,8,8,8,8,8,8,8,8,8,8,8,8,8,8,8,8,8,8,8,8,8,8,8,8,8,8,8,8,8,8,8,8,8,8,8,8,8,8,8,8,8,8,8,8,8,8,8,8,8,8,8,8,8,8,8,8,8,8,8,8,8,8,8,8,8]:List UInt8).length)then lt1 (w64 (k+((nth ([0,1,2,2,3,3,3,3,4,4,4,4,4,4,4,4,5,5,5,5,5,5,5,5,5,5,5,5,5,5,5,5,6,6,6,6,6,6,6,6,6,6,6,6,6,6,6,6,6,6,6,6,6,6,6,6,6,6,6,6,6,6,6,6,7,7,7,7,7,7,7,7,7,7,7,7,7,7,7,7,7,7,7,7,7,7,7,7,7,7,7,7,7,7,7,7,7,7,7,7,7,7,7,7,7,7,7,7,7,7,7,7,7,7,7,7,7,7,7,7,7,7,7,7,7,7,7,7,8,8,8,8,8,8,8,8,8,8,8,8,8,8,8,8,8,8,8,8,8,8,8,8,8,8,8,8,8,8,8,8,8,8,8,8,8,8,8,8,8,8,8,8,8,8,8,8,8,8,8,8,8,8,8,8,8,8,8,8,8,8,8,8,8,8,8,8,8,8,8,8,8,8,8,8,8,8,8,8,8,8,8,8,8,8,8,8,8,8,8,8,8,8,8,8,8,8,8,8,8,8,8,8,8,8,8,8,8,8,8,8,8,8,8,8,8,8,8,8,8,8,8,8,8,8,8,8]:List UInt8) f.toUInt8.toNat).toNat:Int))) fun(l:Int)=>some l else none
def Cg(a:UInt64):Option (Int) :=(Ea a).bind fun b=>some (w64 (64-b))
def DE(yn1_2658:UInt64)(yn0_2660:UInt64)(un1_2666:UInt64)(q1_2701:UInt64)(a:UInt64):Option ((UInt64×UInt64)⊕(UInt64)) :=(if(decide (q1_2701≥(4294967296:UInt64)))then some true else some (decide ((q1_2701*yn0_2660)>(((4294967296:UInt64)*a)+un1_2666))):Option (Bool)).bind fun b=>if b then if(decide ((a+yn1_2658)≥(4294967296:UInt64)))then some (.inr (q1_2701-(1:UInt64))) else some (.inl ((q1_2701-(1:UInt64)),(a+yn1_2658))) else some (.inr q1_2701)
def D6(yn1_2658:UInt64)(yn0_2660:UInt64)(un0_2668:UInt64)(a:UInt64)(q0_2749:UInt64):Option ((UInt64×UInt64)⊕(UInt64)) :=(if(decide (q0_2749≥(4294967296:UInt64)))then some true else some (decide ((q0_2749*yn0_2660)>(((4294967296:UInt64)*a)+un0_2668))):Option (Bool)).bind fun b=>if b then if(decide ((a+yn1_2658)≥(4294967296:UInt64)))then some (.inr (q0_2749-(1:UInt64))) else some (.inl ((a+yn1_2658),(q0_2749-(1:UInt64)))) else some (.inr q0_2749)
def FB(e:UInt64)(c:UInt64)(a:UInt64):Option (UInt64×UInt64) :=if(a==(0:UInt64))then none else if(decide (a≤e))then none else if (e==(0:UInt64))then if ¬a=0 then if ¬a=0 then some ((c/a),(c%a)) else none else none else (Cg a).bind fun b=>lt1 (Fs a (UInt64.ofInt b).toNat) fun(d:UInt64)=>lt1 (CZ d (32:UInt64).toNat) fun(yn1_2658:UInt64)=>lt1 (d &&& (4294967295:UInt64)) fun(yn0_2660:UInt64)=>lt1 ((Fs e (UInt64.ofInt b).toNat) ||| (CZ c ((64:UInt64)-(UInt64.ofInt b)).toNat)) fun(un32_2662:UInt64)=>lt1 (Fs c (UInt64.ofInt b).toNat) fun(un10_2664:UInt64)=>lt1 (CZ un10_2664 (32:UInt64).toNat) fun(un1_2666:UInt64)=>lt1 (un10_2664 &&& (4294967295:UInt64)) fun(un0_2668:UInt64)=>if ¬yn1_2658=0 then lt1 (un32_2662-((un32_2662/yn1_2658)*yn1_2658)) fun(f:UInt64)=>((AK (fun(v:UInt64×UInt64)=>DE yn1_2658 yn0_2660 un1_2666 v.1 v.2) ((un32_2662/yn1_2658),f)).bind fun q1_2706=>some q1_2706:Option (UInt64)).bind fun q1_2692=>lt1 (((un32_2662*(4294967296:UInt64))+un1_2666)-(q1_2692*d)) fun(un21_2715:UInt64)=>if ¬yn1_2658=0 then lt1 (un21_2715-((un21_2715/yn1_2658)*yn1_2658)) fun(g:UInt64)=>((AK (fun(v:UInt64×UInt64)=>D6 yn1_2658 yn0_2660 un0_2668 v.1 v.2) (g,(un21_2715/yn1_2658))).bind fun q0_2753=>some q0_2753:Option (UInt64)).bind fun q0_2739=>lt1 ((q1_2692*(4294967296:UInt64))+q0_2739) fun(i:UInt64)=>lt1 (CZ (((un21_2715*(4294967296:UInt64))+un0_2668)-(q0_2739*d)) (UInt64.ofInt b).toNat) fun(j:UInt64)=>some (i,j) else none else none
def Cz(c:UInt64)(d:UInt64)(a:UInt64):Option (UInt64×UInt64) :=if ¬a=0 then if ¬a=0 then (GO (c%a) (d%a)).bind fun b=>(FB b.1 b.2 a).bind fun e=>some (e.2,a) else none else none
def EM(a:UInt64):Option (UInt64) :=some a
def DW(g:UInt64)(d:UInt64)(i:Int)(c:UInt64)(a:Int)(j:UInt64):Option ((UInt64×Int×UInt64)⊕(UInt64)) :=if (decide (a<i))then ((Cz c c j).bind fun b=>(Ea d).bind fun e=>if EX (w64 ((w64 (e-1))-a))then lt1 (((CZ d ((w64 ((w64 (e-1))-a)).toNat)) &&& (1:UInt64))==(1:UInt64)) fun(k:Bool)=>if k then (Cz b.1 g b.2).bind fun f=>some (f.1,f.2) else some (b.1,b.2) else none:Option (UInt64×UInt64)).bind fun(l,m)=>some (.inl (l,(w64 (a+1)),m)) else some (.inr c)
def F4(b:UInt64)(a:UInt64):Option (UInt64) :=(EM (2305843009213690799:UInt64)).bind fun c=>((Ea a).bind fun d=>(AK (fun(v:UInt64×Int×UInt64)=>DW b a d v.1 v.2.1 v.2.2) ((1:UInt64),0,c)).bind fun e=>some e:Option (UInt64)).bind fun f=>some f
def FC(a:UInt64):Option (Bool) :=(if(decide (a≥(2:UInt64)))then if(decide (a<(2305843009213690799:UInt64)))then (F4 a (1152921504606845399:UInt64)).bind fun b=>some (b==(1:UInt64)) else some false else some false:Option (Bool)).bind fun c=>some c
def B5(a:Aoy)(c:Bool)(b:Int):Option ((Bool×Int)⊕(Bool)) :=if (decide (b<(a.Zi1.length:Int)))then if InR b a.Zi1.length then lt1 ((nth a.Zi1 b.toNat).Zb1) fun(f:Int)=>lt1 ((nth a.Zi1 b.toNat).Low) fun(d:Int)=>lt1 ((nth a.Zi1 b.toNat).Zc1) fun(e:Int)=>(if c then some true else (AD f 0 (w64 ((a.Zg1.Ze.length:Int)-1))).bind fun g=>if(!g)then some true else if(decide (d<(-1000)))then some true else if(decide (d>e))then some true else some (decide (e>1000)):Option (Bool)).bind fun i=>some (.inl (i,(w64 (b+1)))) else none else some (.inr c)
def B8(a:Aoy)(d:Bool)(b:Int):Option ((Bool×Int)⊕(Bool)) :=if (decide (b<(a.Zj1.length:Int)))then if InR b a.Zj1.length then lt1 ((nth a.Zj1 b.toNat).Zb1) fun(c:Int)=>(if d then some true else (AD c 0 (w64 ((a.Zg1.Ze.length:Int)-1))).bind fun e=>if(!e)then some true else if InR c a.Zg1.Ze.length then some ((nth a.Zg1.Ze c.toNat).Za != 4) else none:Option (Bool)).bind fun f=>some (.inl (f,(w64 (b+1)))) else none else some (.inr d)
def B7(a:Aoy)(c:Bool)(b:Int):Option ((Bool×Int)⊕(Bool)) :=if (decide (b<(a.Zh1.Zy.length:Int)))then if InR b a.Zh1.Zy.length then lt1 ((nth a.Zh1.Zy b.toNat).Zo) fun(f:Int)=>lt1 ((nth a.Zh1.Zy b.toNat).Zp) fun(g:Int)=>lt1 ((nth a.Zh1.Zy b.toNat).Zq) fun(d:Int)=>lt1 ((nth a.Zh1.Zy b.toNat).Zr) fun(i:Int)=>lt1 ((nth a.Zh1.Zy b.toNat).Zs) fun(j:Int)=>(if c then some true else some (decide (d≥(a.Zg1.Ze.length:Int))):Option (Bool)).bind fun e=>some (.inl (e,(w64 (b+1)))) else none else some (.inr c)
def Ew(b:Aoy)(c:Int)(d:Bool)(a:Int):Option ((Bool×Int)⊕(Bool)) :=if (decide (a<(b.Zg1.Ze.length:Int)))then if InR a b.Zg1.Ze.length then lt1 ((nth b.Zg1.Ze a.toNat).Za) fun(i:Int)=>lt1 ((nth b.Zg1.Ze a.toNat).Zb) fun(e:Int)=>lt1 ((nth b.Zg1.Ze a.toNat).Zc) fun(f:Int)=>(if d then some true else if(decide (e≥c))then some true else some (decide (f≥c)):Option (Bool)).bind fun g=>some (.inl (g,(w64 (a+1)))) else none else some (.inr d)
def Eu(b:Aoy)(d:Int)(c:Bool)(a:Int):Option ((Bool×Int)⊕(Bool)) :=if (decide (a<(b.Zg1.Zf.length:Int)))then if InR a b.Zg1.Zf.length then lt1 ((nth b.Zg1.Zf a.toNat).A) fun(g:Int)=>lt1 ((nth b.Zg1.Zf a.toNat).B) fun(i:Int)=>lt1 ((nth b.Zg1.Zf a.toNat).Zb) fun(e:Int)=>lt1 ((nth b.Zg1.Zf a.toNat).Zd) fun(j:Int)=>lt1 ((nth b.Zg1.Zf a.toNat).Km) fun(k:Int)=>(if c then some true else some (decide (e≥d)):Option (Bool)).bind fun f=>some (.inl (f,(w64 (a+1)))) else none else some (.inr c)
def Eo(b:Aoy)(c:Bool)(a:Int):Option ((Bool×Int)⊕(Bool)) :=if (decide (a<(b.Zk1.length:Int)))then if InR a b.Zk1.length then lt1 ((nth b.Zk1 a.toNat).Key) fun(d:UInt64)=>lt1 (((((nth b.Zk1 a.toNat).Zf1).Zd1).1).Zw) fun(e:Int)=>lt1 (((((nth b.Zk1 a.toNat).Zf1).Zd1).1).To) fun(f:Int)=>lt1 (((((nth b.Zk1 a.toNat).Zf1).Zd1).2.1).Zw) fun(g:Int)=>lt1 (((((nth b.Zk1 a.toNat).Zf1).Zd1).2.1).To) fun(i:Int)=>lt1 (((((nth b.Zk1 a.toNat).Zf1).Zd1).2.2.1).Zw) fun(j:Int)=>lt1 (((((nth b.Zk1 a.toNat).Zf1).Zd1).2.2.1).To) fun(k:Int)=>lt1 (((((nth b.Zk1 a.toNat).Zf1).Zd1).2.2.2.1).Zw) fun(l:Int)=>lt1 (((((nth b.Zk1 a.toNat).Zf1).Zd1).2.2.2.1).To) fun(m:Int)=>lt1 (((((nth b.Zk1 a.toNat).Zf1).Zd1).2.2.2.2.1).Zw) fun(n:Int)=>lt1 (((((nth b.Zk1 a.toNat).Zf1).Zd1).2.2.2.2.1).To) fun(o:Int)=>lt1 (((((nth b.Zk1 a.toNat).Zf1).Zd1).2.2.2.2.2.1).Zw) fun(p:Int)=>lt1 (((((nth b.Zk1 a.toNat).Zf1).Zd1).2.2.2.2.2.1).To) fun(q:Int)=>lt1 (((((nth b.Zk1 a.toNat).Zf1).Zd1).2.2.2.2.2.2).Zw) fun(s:Int)=>lt1 (((((nth b.Zk1 a.toNat).Zf1).Zd1).2.2.2.2.2.2).To) fun(t:Int)=>lt1 (((nth b.Zk1 a.toNat).Zf1).Ze1) fun(u:List Int)=>(if c then some true else (DK ({ Zd1:=(({ Zw:=e,To:=f }:Aov),({ Zw:=g,To:=i }:Aov),({ Zw:=j,To:=k }:Aov),({ Zw:=l,To:=m }:Aov),({ Zw:=n,To:=o }:Aov),({ Zw:=p,To:=q }:Aov),({ Zw:=s,To:=t }:Aov)),Ze1:=u }:Aow)).bind fun v=>if(v != 0)then some true else (FC d).bind fun w=>some (!w):Option (Bool)).bind fun x=>some (.inl (x,(w64 (a+1)))) else none else some (.inr c)
def CB(a:Aoy):Option (Int) :=(H0 a.Zg1).bind fun c=>if(c != 0)then some c else (JO a.Zh1).bind fun d=>if(d != 0)then some d else (if(decide ((a.Zi1.length:Int)>256))then some true else if(decide ((a.Zj1.length:Int)>256))then some true else some (decide ((a.Zk1.length:Int)>16)):Option (Bool)).bind fun e=>if e then some 2 else lt1 (a.Zk1.length:Int) fun(b:Int)=>((AK (fun(v:Bool×Int)=>B5 a v.1 v.2) ((b==0),0)).bind fun f=>some f:Option (Bool)).bind fun g=>((AK (fun(v:Bool×Int)=>B8 a v.1 v.2) (g,0)).bind fun i=>some i:Option (Bool)).bind fun j=>((AK (fun(v:Bool×Int)=>B7 a v.1 v.2) (j,0)).bind fun k=>some k:Option (Bool)).bind fun l=>((AK (fun(v:Bool×Int)=>Ew a b v.1 v.2) (l,0)).bind fun m=>some m:Option (Bool)).bind fun n=>((AK (fun(v:Bool×Int)=>Eu a b v.1 v.2) (n,0)).bind fun o=>some o:Option (Bool)).bind fun p=>((AK (fun(v:Bool×Int)=>Eo a v.1 v.2) (p,0)).bind fun q=>some q:Option (Bool)).bind fun s=>if s then some 1 else some 0
def HO(a:UInt64):Option (UInt64×Int) :=(if(decide (a<(1:UInt64)))then some true else some (decide (a≥(1152921504606845399:UInt64))):Option (Bool)).bind fun b=>if b then some ((0:UInt64),30) else (F4 (4:UInt64) a).bind fun c=>some (c,0)
def IQ(a:AoF)(b:Int):Option (List AoD) :=if(decide (b≥(a.Zy1.length:Int)))then some ([]) else if InR b a.Zy1.length then some (nth a.Zy1 b.toNat) else none
def Fa(a:Int):Option (AoG) :=some (AoG.mk 1 a ([]) ([]))
def Jh(a:List UInt8):Option (AoG) :=some (AoG.mk 2 0 a ([]))
def AU(a:Int):Option (AoG) :=some (AoG.mk 1 a ([]) ([]))
def edi_list_cnil  : Option (AoG) :=some (AoG.mk 3 0 ([]) ([]))
def Gt(a:List AoG):Option (AoG) :=some (AoG.mk 3 0 ([]) a)
def DF(a:List AoG):Option (AoG) :=some (AoG.mk 3 0 ([]) a)
def Mc(a:List UInt8):Option (AoG) :=some (AoG.mk 2 0 a ([]))
def Dr(b:AoB)(a:Int)(c:List AoG):Option ((Int×List AoG)⊕(List AoG)) :=if (decide (a<(b.Zu1.length:Int)))then if InR a b.Zu1.length then lt1 ((nth b.Zu1 a.toNat).Za) fun(e:Int)=>lt1 ((nth b.Zu1 a.toNat).Zl1) fun(f:Int)=>lt1 ((nth b.Zu1 a.toNat).Zm1) fun(g:Bool)=>(if g then some 1 else some 0:Option (Int)).bind fun i=>(AU e).bind fun j=>(AU f).bind fun k=>(AU i).bind fun l=>(DF ([j,k,l]:List AoG)).bind fun d=>if CM (c.length+1) 64 then lt1 (c++([(AoG.mk d.Za d.N ([]) d.L)]:List AoG)) fun(m:List AoG)=>some (.inl ((w64 (a+1)),m)) else none else none else some (.inr c)
def Ez(a : AoB):Option (AoG) :=(AU a.Za).bind fun s=>(AU a.Ref.Zb).bind fun t=>(AU a.Ref.No).bind fun u=>(DF ([t,u]:List AoG)).bind fun b=>lt1 ([s,(AoG.mk b.Za b.N ([]) b.L)]:List AoG) fun(d:List AoG)=>((AU a.Zn1).bind fun w=>if CM (d.length+1) 64 then lt1 (d++([w]:List AoG)) fun(e:List AoG)=>(AU a.Zb1).bind fun x=>if CM (e.length+1) 64 then lt1 (e++([x]:List AoG)) fun(f:List AoG)=>(AU a.Zc).bind fun y=>if CM (f.length+1) 64 then lt1 (f++([y]:List AoG)) fun(g:List AoG)=>(AU a.Zo1).bind fun z=>if CM (g.length+1) 64 then lt1 (g++([z]:List AoG)) fun(i:List AoG)=>(AU a.Zw).bind fun aa=>if CM (i.length+1) 64 then lt1 (i++([aa]:List AoG)) fun(j:List AoG)=>(AU a.To).bind fun ab=>if CM (j.length+1) 64 then lt1 (j++([ab]:List AoG)) fun(k:List AoG)=>(AU a.Code).bind fun ac=>if CM (k.length+1) 64 then lt1 (k++([ac]:List AoG)) fun(l:List AoG)=>(AU a.Zp1).bind fun ad=>if CM (l.length+1) 64 then lt1 (l++([ad]:List AoG)) fun(m:List AoG)=>(AU a.Zq1).bind fun ae=>if CM (m.length+1) 64 then lt1 (m++([ae]:List AoG)) fun(n:List AoG)=>(AU a.Zr1).bind fun af=>if CM (n.length+1) 64 then lt1 (n++([af]:List AoG)) fun(o:List AoG)=>(AU a.Zs1).bind fun ag=>if CM (o.length+1) 64 then lt1 (o++([ag]:List AoG)) fun(ah:List AoG)=>some ah else none else none else none else none else none else none else none else none else none else none else none:Option (List AoG)).bind fun p=>edi_list_cnil.bind fun q=>((AK (fun(v:Int×List AoG)=>Dr a v.1 v.2) (0,[])).bind fun ai=>some ai:Option (List AoG)).bind fun aj=>(Mc a.Zt1).bind fun ak=>if CM (p.length+2) 64 then (Gt (p++([ak,(AoG.mk q.Za q.N ([]) aj)]:List AoG))).bind fun c=>lt1 c.L fun(al:List AoG)=>some (AoG.mk c.Za c.N ([]) al) else none
def D5(a:AoD):Option (List AoG) :=(Fa a.Zb).bind fun b=>(Fa a.No).bind fun c=>(Jh a.Zv1.l).bind fun d=>(Fa a.Zw1).bind fun e=>(Ez a.Zx1).bind fun f=>lt1 ([b,c,d,e,f]:List AoG) fun(g:List AoG)=>some g
def Dd(c:UInt64)(d:List UInt8)(a:Int)(b:List UInt8):Option ((Int×List UInt8)⊕(List UInt8)) :=if (decide (a<(d.length:Int)))then if EX (w64 (56-(w64 (8*a))))then if InR a b.length then lt1 (b.set a.toNat ((CZ c ((w64 (56-(w64 (8*a)))).toNat)).toUInt8)) fun(e:List UInt8)=>some (.inl ((w64 (a+1)),e)) else none else none else some (.inr b)
def Hg(b:UInt64):Option (AoG) :=if Mk 8 8 1 then lt1 (List.replicate 8 (0:UInt8)) fun(a:List UInt8)=>((AK (fun(v:Int×List UInt8)=>Dd b a v.1 v.2) (0,a)).bind fun c=>some c:Option (List UInt8)).bind fun d=>(Jh d).bind fun e=>some e else none
def I2(a:List AoG):Option (AoG) :=some (AoG.mk 3 0 ([]) a)
def BJ(b:AoG)(rec_:AoG→Option (Int×Bool))(c:Int)(a:Int):Option ((Int×Int)⊕((Int)⊕((Int)⊕((Unit)⊕(Int×Bool))))) :=if (decide (a<(b.L.length:Int)))then if InR a b.L.length then lt1 ((nth b.L a.toNat).Za) fun(e:Int)=>lt1 ((nth b.L a.toNat).N) fun(f:Int)=>lt1 ((nth b.L a.toNat).B) fun(g:List UInt8)=>lt1 ((nth b.L a.toNat).L) fun(i:List AoG)=>(rec_ (AoG.mk e f g i)).bind fun d=>if(!d.2)then (((some (0,false)).bind fun j=>some (.inr j)).bind fun k=>some (.inr k)).bind fun l=>some (.inr (.inr l)) else some (.inl ((Hn c d.1),(w64 (a+1)))) else none else some (.inr (.inl c))
def Ei(rec_:AoG→Option (Int×Bool))(a:AoG):Option (Int×Bool) :=(if(a.Za==1)then (if((a.B.length:Int)==0)then some ((a.L.length:Int)==0) else some false:Option (Bool)).bind fun b=>(some (0,b)).bind fun c=>some (.inr c) else if(a.Za==2)then (if(a.N==0)then some ((a.L.length:Int)==0) else some false:Option (Bool)).bind fun d=>(some (0,d)).bind fun e=>some (.inr e) else if (a.Za==3)then (if(a.N != 0)then some true else some ((a.B.length:Int) != 0):Option (Bool)).bind fun f=>if f then (some (0,false)).bind fun g=>some (.inr g) else ((AK (fun(v:Int×Int)=>BJ a rec_ v.1 v.2) (0,0)).bind fun x=>match x with
     |.inl i=>some (.inl i)
     |.inr z=>some z:Option ((Int)⊕((Unit)⊕(Int×Bool)))).bind fun x=>match x with
     |.inl j=>(some ((w64 (j+1)),true)).bind fun k=>some (.inr k)
     |.inr z=>some z else some (.inl ()):Option ((Unit)⊕(Int×Bool))).bind fun x=>match x with
 |.inl ()=>some (0,false)
 |.inr z=>some z
def D9(n:Nat):AoG→Option (Int×Bool):=match n with
 |0=>fun _=>none
 |n+1=>Ei (D9 n)
def EG(a:AoG):Option (Int×Bool):=D9 18446744073709551616 a
def Bb(a:UInt64)(b:Int):Option ((UInt64×Int)⊕(Int)) :=if(decide (a>(0:UInt64)))then lt1 (CZ a (8:UInt64).toNat) fun(c:UInt64)=>some (.inl (c,(w64 (b+1)))) else some (.inr b)
def BG(a:UInt64):Option (Int) :=((AK (fun(v:UInt64×Int)=>Bb v.1 v.2) (a,0)).bind fun b=>some b:Option (Int)).bind fun c=>some c
def Bc(d:Int)(b:Int)(a:Int)(c:List UInt8):Option ((Int×List UInt8)⊕(List UInt8)) :=if (decide (a<b))then if EX (w64 (8*(w64 ((w64 (b-1))-a))))then if CM (c.length+1) 1 then lt1 (c++([(CZ (UInt64.ofInt d) ((w64 (8*(w64 ((w64 (b-1))-a)))).toNat)).toUInt8]:List UInt8)) fun(e:List UInt8)=>some (.inl ((w64 (a+1)),e)) else none else none else some (.inr c)
def Di(b:List UInt8)(a:Int):Option (List UInt8) :=(BG (UInt64.ofInt a)).bind fun c=>lt1 (UInt8.ofInt (w64 (32+c))) fun(e:UInt8)=>(if(decide (a<0))then (BG (~~~(UInt64.ofInt a))).bind fun d=>lt1 (UInt8.ofInt (w64 (31-d))) fun(f:UInt8)=>some (d,f) else some (c,e):Option (Int×UInt8)).bind fun(g,i)=>if CM (b.length+1) 1 then lt1 (b++([i]:List UInt8)) fun(j:List UInt8)=>((AK (fun(v:Int×List UInt8)=>Bc a g v.1 v.2) (0,j)).bind fun k=>some k:Option (List UInt8)).bind fun l=>some l else none
def AW(b:AoG)(a:Int)(c:List UInt8):Option ((Int×List UInt8)⊕(List UInt8)) :=if (decide (a<(b.B.length:Int)))then (if InR a b.B.length then if CM (c.length+1) 1 then lt1 (c++([nth b.B a.toNat]:List UInt8)) fun(d:List UInt8)=>if(nth b.B a.toNat==(0:UInt8))then if CM (d.length+1) 1 then lt1 (d++([(255:UInt8)]:List UInt8)) fun(e:List UInt8)=>some e else none else some d else none else none:Option (List UInt8)).bind fun f=>some (.inl ((w64 (a+1)),f)) else some (.inr c)
def AX(b:AoG)(rec_:(List UInt8)→AoG→Option (List UInt8))(a:Int)(c:List UInt8):Option ((Int×List UInt8)⊕(List UInt8)) :=if(decide (a<(b.L.length:Int)))then if InR a b.L.length then lt1 ((nth b.L a.toNat).Za) fun(d:Int)=>lt1 ((nth b.L a.toNat).N) fun(e:Int)=>lt1 ((nth b.L a.toNat).B) fun(f:List UInt8)=>lt1 ((nth b.L a.toNat).L) fun(g:List AoG)=>(rec_ c (AoG.mk d e f g)).bind fun i=>some (.inl ((w64 (a+1)),i)) else none else some (.inr c)
def Cc(rec_:(List UInt8)→AoG→Option (List UInt8))(a:List UInt8)(b:AoG):Option (List UInt8) :=(if(b.Za==1)then (Di a b.N).bind fun e=>(some e).bind fun f=>some (.inr f) else if (b.Za==2)then if CM (a.length+1) 1 then lt1 (a++([(48:UInt8)]:List UInt8)) fun(g:List UInt8)=>((AK (fun(v:Int×List UInt8)=>AW b v.1 v.2) (0,g)).bind fun i=>some i:Option (List UInt8)).bind fun c=>if CM (c.length+2) 1 then lt1 (c++([(0:UInt8),(0:UInt8)]:List UInt8)) fun(j:List UInt8)=>(some j).bind fun k=>some (.inr k) else none else none else some (.inl ()):Option ((Unit)⊕(List UInt8))).bind fun x=>match x with
 | .inl ()=>if CM (a.length+1) 1 then lt1 (a++([(64:UInt8)]:List UInt8)) fun(l:List UInt8)=>((AK (fun(v:Int×List UInt8)=>AX b rec_ v.1 v.2) (0,l)).bind fun m=>some m:Option (List UInt8)).bind fun d=>if CM (d.length+1) 1 then lt1 (d++([(0:UInt8)]:List UInt8)) fun(n:List UInt8)=>some n else none else none
 |.inr z=>some z
def BF(n:Nat):(List UInt8)→AoG→Option (List UInt8):=match n with
 |0=>fun _ _=>none
 |n+1=>Cc (BF n)
def EF(a:List UInt8)(b:AoG):Option (List UInt8):=BF 18446744073709551616 a b
def Ee(a:AoG):Option (List UInt8×Int) :=(EG a).bind fun b=>if(!b.2)then some ([],10) else if(decide (b.1>16))then some ([],2) else (EF ([]) a).bind fun c=>if(decide ((c.length:Int)>65536))then some ([],2) else some (c,0)
def CG(a:AoD):Option (List UInt8×Int) :=(D5 a).bind fun b=>(Hg a.Sig.C).bind fun d=>(Hg a.Sig.S).bind fun e=>(I2 ([d,e]:List AoG)).bind fun f=>if CM (b.length+1) 64 then (I2 (b++([f]:List AoG))).bind fun g=>(Ee g).bind fun c=>some (c.1,c.2) else none
def Av(a:UInt32)(c:Int):Option (UInt32) :=lt1 ((UInt64.ofInt c) &&& (31:UInt64)) fun(b:UInt64)=>lt1 ((SK a b.toNat) ||| (Rq a ((32:UInt64)-b).toNat)) fun(d:UInt32)=>some d
def Gb(b:List UInt8)(a:Int)(c:Arr UInt32 64):Option ((Int×Arr UInt32 64)⊕(Arr UInt32 64)) :=if (decide (a<16))then if InR (w64 (4*a)) b.length then if InR (w64 ((w64 (4*a))+1)) b.length then if InR (w64 ((w64 (4*a))+2)) b.length then if InR (w64 ((w64 (4*a))+3)) b.length then if InR a 64 then lt1 (c.set a.toNat ((((SK ((nth b ((w64 (4*a)).toNat)).toUInt32) (24:UInt64).toNat) ||| (SK ((nth b ((w64 ((w64 (4*a))+1)).toNat)).toUInt32) (16:UInt64).toNat)) ||| (SK ((nth b ((w64 ((w64 (4*a))+2)).toNat)).toUInt32) (8:UInt64).toNat)) ||| (nth b ((w64 ((w64 (4*a))+3)).toNat)).toUInt32)) fun(d:Arr UInt32 64)=>some (.inl ((w64 (a+1)),d)) else none else none else none else none else none else some (.inr c)
def FP(a:Int)(b:Arr UInt32 64):Option ((Int×Arr UInt32 64)⊕(Arr UInt32 64)) :=if (decide (a<64))then if InR (w64 (a-15)) 64 then if InR (w64 (a-2)) 64 then lt1 (b.get ((w64 (a-15)).toNat)) fun(c:UInt32)=>lt1 (b.get ((w64 (a-2)).toNat)) fun(d:UInt32)=>(Av c (-7)).bind fun e=>(Av c (-18)).bind fun f=>lt1 ((e ^^^ f) ^^^ (Rq c (3:UInt64).toNat)) fun(s0_5401:UInt32)=>(Av d (-17)).bind fun g=>(Av d (-19)).bind fun i=>lt1 ((g ^^^ i) ^^^ (Rq d (10:UInt64).toNat)) fun(s1_5407:UInt32)=>if InR (w64 (a-16)) 64 then if InR (w64 (a-7)) 64 then if InR a 64 then lt1 (b.set a.toNat ((((b.get ((w64 (a-16)).toNat))+s0_5401)+(b.get ((w64 (a-7)).toNat)))+s1_5407)) fun(j:Arr UInt32 64)=>some (.inl ((w64 (a+1)),j)) else none else none else none else none else none else some (.inr b)
def Dp(d:Arr UInt32 64)(b:Int)(a:Arr UInt32 8):Option ((Int×Arr UInt32 8)⊕(Arr UInt32 8)) :=if (decide (b<64))then (Av (a.get 4) (-6)).bind fun e=>(Av (a.get 4) (-11)).bind fun f=>(Av (a.get 4) (-25)).bind fun g=>if InR b 64 then if InR b 64 then lt1 (((((a.get 7)+((e ^^^ f) ^^^ g))+(((a.get 4) &&& (a.get 5)) ^^^ ((~~~(a.get 4)) &&& (a.get 6))))+(glob3.get b.toNat))+(d.get b.toNat)) fun(c:UInt32)=>(Av (a.get 0) (-2)).bind fun i=>(Av (a.get 0) (-13)).bind fun j=>(Av (a.get 0) (-22)).bind fun k=>lt1 (((i ^^^ j) ^^^ k)+((((a.get 0) &&& (a.get 1)) ^^^ ((a.get 0) &&& (a.get 2))) ^^^ ((a.get 1) &&& (a.get 2)))) fun(l:UInt32)=>lt1 (⟨[(c+l),(a.get 0),(a.get 1),(a.get 2),((a.get 3)+c),(a.get 4),(a.get 5),(a.get 6)],rfl⟩:Arr UInt32 8) fun(m:Arr UInt32 8)=>some (.inl ((w64 (b+1)),m)) else none else none else some (.inr a)
def Ga(c:Arr UInt32 8)(a:Int)(b:Arr UInt32 8):Option ((Int×Arr UInt32 8)⊕(Arr UInt32 8)) :=if (decide (a<8))then if InR a 8 then if InR a 8 then if InR a 8 then lt1 (b.set a.toNat ((b.get a.toNat)+(c.get a.toNat))) fun(d:Arr UInt32 8)=>some (.inl ((w64 (a+1)),d)) else none else none else none else some (.inr b)
def Gy(a:Arr UInt32 8)(b:List UInt8):Option (Arr UInt32 8) :=((AK (fun(v:Int×Arr UInt32 64)=>Gb b v.1 v.2) (0,(Arr.rep 64 (0:UInt32)))).bind fun c=>some c:Option (Arr UInt32 64)).bind fun d=>((AK (fun(v:Int×Arr UInt32 64)=>FP v.1 v.2) (16,d)).bind fun e=>some e:Option (Arr UInt32 64)).bind fun f=>((AK (fun(v:Int×Arr UInt32 8)=>Dp f v.1 v.2) (0,a)).bind fun g=>some g:Option (Arr UInt32 8)).bind fun i=>((AK (fun(v:Int×Arr UInt32 8)=>Ga i v.1 v.2) (0,a)).bind fun j=>some j:Option (Arr UInt32 8)).bind fun k=>some k
def Hq(b:List (List UInt8))(a:Int)(c:List UInt8):Option ((Int×List UInt8)⊕(List UInt8)) :=if (decide (a<(b.length:Int)))then if InR a b.length then lt1 (nth b a.toNat) fun(d:List UInt8)=>if CM (c.length+d.length) 1 then lt1 (c++d) fun(e:List UInt8)=>some (.inl ((w64 (a+1)),e)) else none else none else some (.inr c)
def HP(a:List UInt8):Option ((List UInt8)⊕(List UInt8)) :=if((((a.length:Int):Int).tmod 64) != 56)then if CM (a.length+1) 1 then lt1 (a++([(0:UInt8)]:List UInt8)) fun(b:List UInt8)=>some (.inl b) else none else some (.inr a)
def H5(c:UInt64)(a:Int)(b:List UInt8):Option ((Int×List UInt8)⊕(List UInt8)) :=if (decide (a≥0))then if EX a then if CM (b.length+1) 1 then lt1 (b++([(CZ c a.toNat).toUInt8]:List UInt8)) fun(d:List UInt8)=>some (.inl ((w64 (a-8)),d)) else none else none else some (.inr b)
def Hp(d:List UInt8)(b:Nat)(a:Nat)(c:Arr UInt32 8):Option ((Nat×Nat×Arr UInt32 8)⊕(Arr UInt32 8)) :=if (decide ((a:Int)>0))then if InB 64 a then (Gy c ((d.drop b).take 64)).bind fun e=>if InB 64 a then some (.inl ((b+64),(a-64),e)) else none else none else some (.inr c)
def HH(c:Arr UInt32 8)(a:Int)(b:Arr UInt8 32):Option ((Int×Arr UInt8 32)⊕(Arr UInt8 32)) :=if (decide (a<32))then if InR (w64 ((a:Int).tdiv 4)) 8 then if EX (w64 (24-(w64 (8*((a:Int).tmod 4)))))then if InR a 32 then lt1 (b.set a.toNat ((Rq (c.get ((w64 ((a:Int).tdiv 4)).toNat)) ((w64 (24-(w64 (8*((a:Int).tmod 4))))).toNat)).toUInt8)) fun(d:Arr UInt8 32)=>some (.inl ((w64 (a+1)),d)) else none else none else none else some (.inr b)
def Lk(c:List (List UInt8)):Option (Arr UInt8 32) :=((AK (fun(v:Int×List UInt8)=>Hq c v.1 v.2) (0,[])).bind fun d=>some d:Option (List UInt8)).bind fun a=>lt1 ((UInt64.ofInt (a.length:Int))*(8:UInt64)) fun(e:UInt64)=>if CM (a.length+1) 1 then lt1 (a++([(128:UInt8)]:List UInt8)) fun(f:List UInt8)=>((AK (fun(v:List UInt8)=>HP v) f).bind fun g=>some g:Option (List UInt8)).bind fun i=>((AK (fun(v:Int×List UInt8)=>H5 e v.1 v.2) (56,i)).bind fun j=>some j:Option (List UInt8)).bind fun b=>lt1 (⟨[(1779033703:UInt32),3144134277,1013904242,2773480762,1359893119,2600822924,528734635,1541459225],rfl⟩:Arr UInt32 8) fun(k:Arr UInt32 8)=>((AK (fun(v:Nat×Nat×Arr UInt32 8)=>Hp b v.1 v.2.1 v.2.2) (0,b.length,k)).bind fun l=>some l:Option (Arr UInt32 8)).bind fun m=>((AK (fun(v:Int×Arr UInt8 32)=>HH m v.1 v.2) (0,(Arr.rep 32 (0:UInt8)))).bind fun n=>some n:Option (Arr UInt8 32)).bind fun o=>some o else none
def Ek(a:List UInt8)(c:List UInt8):Option (Arr UInt8 32) :=if InB (Xr (a.length:Int) 255) a.length then lt1 (a.take ((Xr (a.length:Int) 255).toNat)) fun(b:List UInt8)=>(Lk ([([(UInt8.ofInt (b.length:Int))]:List UInt8),b,c]:List (List UInt8))).bind fun d=>some d else none
def FJ(b:AoD):Option (Arr UInt8 32×Int) :=(CG b).bind fun a=>if(a.2 != 0)then some ((Arr.rep 32 (0:UInt8)),a.2) else (Ek ([114,101,99,111,114,100]:List UInt8) a.1).bind fun c=>some (c,0)
def Fi(b:AoD):Option (List UInt8×Int) :=(D5 b).bind fun c=>(I2 c).bind fun d=>(Ee d).bind fun a=>some (a.1,a.2)
def G7(c:UInt64)(a:Int)(b:List UInt8):Option ((Int×List UInt8)⊕(List UInt8)) :=if (decide (a<8))then if EX (w64 (56-(w64 (8*a))))then if CM (b.length+1) 1 then lt1 (b++([(CZ c ((w64 (56-(w64 (8*a)))).toNat)).toUInt8]:List UInt8)) fun(d:List UInt8)=>some (.inl ((w64 (a+1)),d)) else none else none else some (.inr b)
def G5(b:List UInt64)(a:Int)(c:List UInt8):Option ((Int×List UInt8)⊕(List UInt8)) :=if(decide (a<(b.length:Int)))then (if InR a b.length then lt1 (nth b a.toNat) fun(d:UInt64)=>(AK (fun(v:Int×List UInt8)=>G7 d v.1 v.2) (0,c)).bind fun e=>some e else none:Option (List UInt8)).bind fun f=>some (.inl ((w64 (a+1)),f)) else some (.inr c)
def HF(a:List UInt8)(b:List UInt64):Option (List UInt8) :=if Mk 0 (w64 ((w64 (8*(b.length:Int)))+(a.length:Int))) 1 then lt1 (List.replicate 0 (0:UInt8)) fun(d:List UInt8)=>((AK (fun(v:Int×List UInt8)=>G5 b v.1 v.2) (0,d)).bind fun e=>some e:Option (List UInt8)).bind fun c=>if CM (c.length+a.length) 1 then lt1 (c++a) fun(f:List UInt8)=>some f else none else none
def Fk(b:Arr UInt8 32)(c:UInt64)(a:Int):Option ((UInt64×Int)⊕(UInt64)) :=if(decide (a<((b.l.take 8).length:Int)))then if InR a ((b.l.take 8).length)then lt1 (nth (b.l.take 8) a.toNat) fun(d:UInt8)=>lt1 ((Fs c (8:UInt64).toNat) ||| d.toUInt64) fun(e:UInt64)=>some (.inl (e,(w64 (a+1)))) else none else some (.inr c)
def Fx(a:Arr UInt8 32):Option (UInt64) :=((AK (fun(v:UInt64×Int)=>Fk a v.1 v.2) ((0:UInt64),0)).bind fun b=>some b:Option (UInt64)).bind fun c=>some c
def ER(a:UInt64)(b:UInt64)(c:List UInt8):Option (UInt64) :=(HF c ([a,b]:List UInt64)).bind fun d=>(Ek ([99,104,97,108,108,101,110,103,101]:List UInt8) d).bind fun e=>(Fx e).bind fun f=>some (f%(1152921504606845399:UInt64))
def Nh(a:UInt64)(b:List UInt8):Option (AoC×Int) :=(HO a).bind fun c=>if(c.2 != 0)then some (({ C:=(0:UInt64),S:=(0:UInt64) }:AoC),c.2) else if(decide ((b.length:Int)>65536))then some (({ C:=(0:UInt64),S:=(0:UInt64) }:AoC),2) else (HF b ([a]:List UInt64)).bind fun f=>(Ek ([110,111,110,99,101]:List UInt8) f).bind fun g=>(Fx g).bind fun i=>lt1 ((i%(1152921504606845398:UInt64))+(1:UInt64)) fun(d:UInt64)=>(F4 (4:UInt64) d).bind fun j=>(ER j c.1 b).bind fun e=>(EM (1152921504606845399:UInt64)).bind fun k=>(Cz e a k).bind fun l=>lt1 ((d+l.1)%(1152921504606845399:UInt64)) fun(m:UInt64)=>some (({ C:=e,S:=m }:AoC),0)
def H2(a:AoB):Option (Bool) :=if((a.Ref.Zb==0)&&(a.Ref.No==0))then some (a.Za != 14) else (if(decide (a.Ref.Zb≥0))then if(decide (a.Ref.Zb<16))then if(decide (a.Ref.No≥1))then some (decide (a.Ref.No≤4096)) else some false else some false else some false:Option (Bool)).bind fun b=>some b
def Dl(a:AoH)(b:Int)(c:Int):Option (AoH) :=(if a.ok=true then if(decide (b≤a.it.Zn1))then some (decide (a.it.Zn1≤c)) else some false else some false:Option (Bool)).bind fun d=>some ({ p:=a.p,it:=({ Za:=a.it.Za,Ref:=a.it.Ref,Zn1:=0,Zb1:=a.it.Zb1,Zc:=a.it.Zc,Zo1:=a.it.Zo1,Zw:=a.it.Zw,To:=a.it.To,Code:=a.it.Code,Zp1:=a.it.Zp1,Zq1:=a.it.Zq1,Zr1:=a.it.Zr1,Zs1:=a.it.Zs1,Zt1:=a.it.Zt1,Zu1:=a.it.Zu1 }:AoB),ok:=d }:AoH)
def BO(a:AoH)(b:Int)(c:Int):Option (AoH) :=(if a.ok=true then if(decide (b≤a.it.Zc))then some (decide (a.it.Zc≤c)) else some false else some false:Option (Bool)).bind fun d=>some ({ p:=a.p,it:=({ Za:=a.it.Za,Ref:=a.it.Ref,Zn1:=a.it.Zn1,Zb1:=a.it.Zb1,Zc:=0,Zo1:=a.it.Zo1,Zw:=a.it.Zw,To:=a.it.To,Code:=a.it.Code,Zp1:=a.it.Zp1,Zq1:=a.it.Zq1,Zr1:=a.it.Zr1,Zs1:=a.it.Zs1,Zt1:=a.it.Zt1,Zu1:=a.it.Zu1 }:AoB),ok:=d }:AoH)
def BN(a:AoH)(b:Int)(c:Int):Option (AoH) :=(if a.ok=true then if(decide (b≤a.it.Zo1))then some (decide (a.it.Zo1≤c)) else some false else some false:Option (Bool)).bind fun d=>some ({ p:=a.p,it:=({ Za:=a.it.Za,Ref:=a.it.Ref,Zn1:=a.it.Zn1,Zb1:=a.it.Zb1,Zc:=a.it.Zc,Zo1:=0,Zw:=a.it.Zw,To:=a.it.To,Code:=a.it.Code,Zp1:=a.it.Zp1,Zq1:=a.it.Zq1,Zr1:=a.it.Zr1,Zs1:=a.it.Zs1,Zt1:=a.it.Zt1,Zu1:=a.it.Zu1 }:AoB),ok:=d }:AoH)
def Dn(a:AoH)(b:Int)(c:Int):Option (AoH) :=(if a.ok=true then if(decide (b≤a.it.Zw))then some (decide (a.it.Zw≤c)) else some false else some false:Option (Bool)).bind fun d=>some ({ p:=a.p,it:=({ Za:=a.it.Za,Ref:=a.it.Ref,Zn1:=a.it.Zn1,Zb1:=a.it.Zb1,Zc:=a.it.Zc,Zo1:=a.it.Zo1,Zw:=0,To:=a.it.To,Code:=a.it.Code,Zp1:=a.it.Zp1,Zq1:=a.it.Zq1,Zr1:=a.it.Zr1,Zs1:=a.it.Zs1,Zt1:=a.it.Zt1,Zu1:=a.it.Zu1 }:AoB),ok:=d }:AoH)
def Dz(a:AoH)(b:Int)(c:Int):Option (AoH) :=(if a.ok=true then if(decide (b≤a.it.To))then some (decide (a.it.To≤c)) else some false else some false:Option (Bool)).bind fun d=>some ({ p:=a.p,it:=({ Za:=a.it.Za,Ref:=a.it.Ref,Zn1:=a.it.Zn1,Zb1:=a.it.Zb1,Zc:=a.it.Zc,Zo1:=a.it.Zo1,Zw:=a.it.Zw,To:=0,Code:=a.it.Code,Zp1:=a.it.Zp1,Zq1:=a.it.Zq1,Zr1:=a.it.Zr1,Zs1:=a.it.Zs1,Zt1:=a.it.Zt1,Zu1:=a.it.Zu1 }:AoB),ok:=d }:AoH)
def B2(a:AoH)(b:Int)(c:Int):Option (AoH) :=(if a.ok=true then if(decide (b≤a.it.Code))then some (decide (a.it.Code≤c)) else some false else some false:Option (Bool)).bind fun d=>some ({ p:=a.p,it:=({ Za:=a.it.Za,Ref:=a.it.Ref,Zn1:=a.it.Zn1,Zb1:=a.it.Zb1,Zc:=a.it.Zc,Zo1:=a.it.Zo1,Zw:=a.it.Zw,To:=a.it.To,Code:=0,Zp1:=a.it.Zp1,Zq1:=a.it.Zq1,Zr1:=a.it.Zr1,Zs1:=a.it.Zs1,Zt1:=a.it.Zt1,Zu1:=a.it.Zu1 }:AoB),ok:=d }:AoH)
def Dc(a:AoH)(b:Int)(c:Int):Option (AoH) :=(if a.ok=true then if(decide (b≤a.it.Zp1))then some (decide (a.it.Zp1≤c)) else some false else some false:Option (Bool)).bind fun d=>some ({ p:=a.p,it:=({ Za:=a.it.Za,Ref:=a.it.Ref,Zn1:=a.it.Zn1,Zb1:=a.it.Zb1,Zc:=a.it.Zc,Zo1:=a.it.Zo1,Zw:=a.it.Zw,To:=a.it.To,Code:=a.it.Code,Zp1:=0,Zq1:=a.it.Zq1,Zr1:=a.it.Zr1,Zs1:=a.it.Zs1,Zt1:=a.it.Zt1,Zu1:=a.it.Zu1 }:AoB),ok:=d }:AoH)
def Ds(a:AoH)(b:Int)(c:Int):Option (AoH) :=(if a.ok=true then if(decide (b≤a.it.Zq1))then some (decide (a.it.Zq1≤c)) else some false else some false:Option (Bool)).bind fun d=>some ({ p:=a.p,it:=({ Za:=a.it.Za,Ref:=a.it.Ref,Zn1:=a.it.Zn1,Zb1:=a.it.Zb1,Zc:=a.it.Zc,Zo1:=a.it.Zo1,Zw:=a.it.Zw,To:=a.it.To,Code:=a.it.Code,Zp1:=a.it.Zp1,Zq1:=0,Zr1:=a.it.Zr1,Zs1:=a.it.Zs1,Zt1:=a.it.Zt1,Zu1:=a.it.Zu1 }:AoB),ok:=d }:AoH)
def Cs(a:AoH)(b:Int)(c:Int):Option (AoH) :=(if a.ok=true then if(decide (b≤a.it.Zr1))then some (decide (a.it.Zr1≤c)) else some false else some false:Option (Bool)).bind fun d=>some ({ p:=a.p,it:=({ Za:=a.it.Za,Ref:=a.it.Ref,Zn1:=a.it.Zn1,Zb1:=a.it.Zb1,Zc:=a.it.Zc,Zo1:=a.it.Zo1,Zw:=a.it.Zw,To:=a.it.To,Code:=a.it.Code,Zp1:=a.it.Zp1,Zq1:=a.it.Zq1,Zr1:=0,Zs1:=a.it.Zs1,Zt1:=a.it.Zt1,Zu1:=a.it.Zu1 }:AoB),ok:=d }:AoH)
def Cx(a:AoH)(b:Int)(c:Int):Option (AoH) :=(if a.ok=true then if(decide (b≤a.it.Zs1))then some (decide (a.it.Zs1≤c)) else some false else some false:Option (Bool)).bind fun d=>some ({ p:=a.p,it:=({ Za:=a.it.Za,Ref:=a.it.Ref,Zn1:=a.it.Zn1,Zb1:=a.it.Zb1,Zc:=a.it.Zc,Zo1:=a.it.Zo1,Zw:=a.it.Zw,To:=a.it.To,Code:=a.it.Code,Zp1:=a.it.Zp1,Zq1:=a.it.Zq1,Zr1:=a.it.Zr1,Zs1:=0,Zt1:=a.it.Zt1,Zu1:=a.it.Zu1 }:AoB),ok:=d }:AoH)
def CA(a:AoH):Option (AoH) :=(Dl a 0 (w64 ((a.p.Zh1.Zy.length:Int)-1))).bind fun b=>some b
def Bu(a:AoH):Option (AoH) :=(Dn a 0 1073741824).bind fun b=>some b
def B0(a:AoH)(c:Int):Option (Aol×AoH) :=((if(decide (a.it.Zb1≥0))then some (decide (a.it.Zb1<(a.p.Zg1.Ze.length:Int))) else some false:Option (Bool)).bind fun d=>if d then if InR a.it.Zb1 a.p.Zg1.Ze.length then lt1 ((nth a.p.Zg1.Ze a.it.Zb1.toNat).Za) fun(e:Int)=>lt1 ((nth a.p.Zg1.Ze a.it.Zb1.toNat).Zb) fun(f:Int)=>lt1 ((nth a.p.Zg1.Ze a.it.Zb1.toNat).Zc) fun(g:Int)=>some (e,f,g) else none else some (0,0,0):Option (Int×Int×Int)).bind fun(b,i,j)=>(if a.ok=true then if(b != 0)then if(c==0)then some true else some (b==c) else some false else some false:Option (Bool)).bind fun k=>some (({ Za:=b,Zb:=i,Zc:=j }:Aol),({ p:=a.p,it:=({ Za:=a.it.Za,Ref:=a.it.Ref,Zn1:=a.it.Zn1,Zb1:=0,Zc:=a.it.Zc,Zo1:=a.it.Zo1,Zw:=a.it.Zw,To:=a.it.To,Code:=a.it.Code,Zp1:=a.it.Zp1,Zq1:=a.it.Zq1,Zr1:=a.it.Zr1,Zs1:=a.it.Zs1,Zt1:=a.it.Zt1,Zu1:=a.it.Zu1 }:AoB),ok:=k }:AoH))
def CP(a:AoH):Option (AoH) :=(Dz a (Hn a.it.Zw 0) 1073741824).bind fun b=>(Bu b).bind fun c=>some c
def Ci(a:AoH):Option (AoH) :=(BO a 0 (w64 ((a.p.Zj1.length:Int)-1))).bind fun b=>some b
def D7(a:AoH):Option (AoH) :=(Ds a 0 63).bind fun b=>some b
def DH(c:AoH):Option (AoH) :=if(decide (c.it.Za<1))then some ({ p:=c.p,it:=c.it,ok:=false }:AoH) else (CA c).bind fun b=>if(b.it.Za==1)then (BO b 0 (w64 ((b.p.Zi1.length:Int)-1))).bind fun f=>(Bu f).bind fun g=>some g else if(b.it.Za==2)then (B0 b 0).bind fun i=>(CP i.2).bind fun j=>some j else (if(b.it.Za==3)then some (b.it.Za==3) else some (b.it.Za==4):Option (Bool)).bind fun k=>if k then (B0 b 3).bind fun a=>(if a.2.ok=true then if(a.2.it.Zc==a.1.Zb)then some true else some (a.2.it.Zc==a.1.Zc) else some false:Option (Bool)).bind fun l=>(Bu ({ p:=a.2.p,it:=({ Za:=a.2.it.Za,Ref:=a.2.it.Ref,Zn1:=a.2.it.Zn1,Zb1:=a.2.it.Zb1,Zc:=0,Zo1:=a.2.it.Zo1,Zw:=a.2.it.Zw,To:=a.2.it.To,Code:=a.2.it.Code,Zp1:=a.2.it.Zp1,Zq1:=a.2.it.Zq1,Zr1:=a.2.it.Zr1,Zs1:=a.2.it.Zs1,Zt1:=a.2.it.Zt1,Zu1:=a.2.it.Zu1 }:AoB),ok:=l }:AoH)).bind fun m=>(B2 m 0 8).bind fun n=>some n else if(b.it.Za==5)then (BN b 1 1000000000).bind fun o=>(Ci o).bind fun q=>(B0 q 0).bind fun e=>(Dc e.2 0 (w64 ((e.2.p.Zg1.Ze.length:Int)-1))).bind fun s=>(D7 s).bind fun t=>(Cs t 0 1000000).bind fun u=>(Bu u).bind fun v=>some v else (if(b.it.Za==6)then some (b.it.Za==6) else some (b.it.Za==7):Option (Bool)).bind fun w=>if w then (B0 b 0).bind fun x=>(Ci x.2).bind fun y=>(Bu y).bind fun d=>if(d.it.Za==6)then (B2 d 0 1).bind fun z=>some z else some d else some b
def It(b:List AoA)(e:Bool)(a:Int):Option ((Int)⊕((Unit)⊕((Unit)⊕(Bool)))) :=if (decide (a<(b.length:Int)))then if InR a b.length then lt1 ((nth b a.toNat).Za) fun(c:Int)=>lt1 ((nth b a.toNat).Zl1) fun(d:Int)=>lt1 ((nth b a.toNat).Zm1) fun(f:Bool)=>(if(decide (c<1))then some true else if(decide (c>3))then some true else if(decide (d<0))then some true else if(decide (d>1073741824))then some true else if f then some (!e) else some false:Option (Bool)).bind fun g=>if g then ((some false).bind fun i=>some (.inr i)).bind fun j=>some (.inr (.inr j)) else some (.inl (w64 (a+1))) else none else some (.inr (.inl ()))
def JT(a:List AoA)(b:Bool):Option (Bool) :=((AK (fun(v:Int)=>It a b v) 0).bind fun x=>match x with
 |.inl ()=>some (.inl ())
 |.inr z=>some z:Option ((Unit)⊕(Bool))).bind fun x=>match x with
 |.inl ()=>some (decide ((a.length:Int)≤16))
 |.inr z=>some z
def EO(b:AoH):Option (AoH) :=if(b.it.Za==8)then (CA b).bind fun f=>(Bu f).bind fun g=>(B2 g 1 9).bind fun i=>some i else if(b.it.Za==9)then (CA b).bind fun j=>(B0 j 5).bind fun k=>(CP k.2).bind fun l=>(B2 l 1 2).bind fun m=>(Cx m 0 1000000000).bind fun d=>(if d.ok=true then (JT d.it.Zu1 true).bind fun n=>some n else some false:Option (Bool)).bind fun o=>some ({ p:=d.p,it:=({ Za:=d.it.Za,Ref:=d.it.Ref,Zn1:=d.it.Zn1,Zb1:=d.it.Zb1,Zc:=d.it.Zc,Zo1:=d.it.Zo1,Zw:=d.it.Zw,To:=d.it.To,Code:=d.it.Code,Zp1:=d.it.Zp1,Zq1:=d.it.Zq1,Zr1:=d.it.Zr1,Zs1:=d.it.Zs1,Zt1:=d.it.Zt1,Zu1:=[] }:AoB),ok:=o }:AoH) else if (b.it.Za==10)then (BO b 0 63).bind fun c=>(if c.ok=true then if(decide ((c.it.Zu1.length:Int)>0))then (JT c.it.Zu1 false).bind fun q=>some q else some false else some false:Option (Bool)).bind fun s=>some ({ p:=c.p,it:=({ Za:=c.it.Za,Ref:=c.it.Ref,Zn1:=c.it.Zn1,Zb1:=c.it.Zb1,Zc:=c.it.Zc,Zo1:=c.it.Zo1,Zw:=c.it.Zw,To:=c.it.To,Code:=c.it.Code,Zp1:=c.it.Zp1,Zq1:=c.it.Zq1,Zr1:=c.it.Zr1,Zs1:=c.it.Zs1,Zt1:=c.it.Zt1,Zu1:=[] }:AoB),ok:=s }:AoH) else (if(b.it.Za==11)then some (b.it.Za==11) else if(b.it.Za==12)then some (b.it.Za==12) else some (b.it.Za==13):Option (Bool)).bind fun t=>if t then (BN b 1 6).bind fun u=>(Bu u).bind fun a=>if (a.it.Za != 13)then (if a.ok=true then if(decide ((a.it.Zt1.length:Int)≥1))then some (decide ((a.it.Zt1.length:Int)≤2000)) else some false else some false:Option (Bool)).bind fun v=>some ({ p:=a.p,it:=({ Za:=a.it.Za,Ref:=a.it.Ref,Zn1:=a.it.Zn1,Zb1:=a.it.Zb1,Zc:=a.it.Zc,Zo1:=a.it.Zo1,Zw:=a.it.Zw,To:=a.it.To,Code:=a.it.Code,Zp1:=a.it.Zp1,Zq1:=a.it.Zq1,Zr1:=a.it.Zr1,Zs1:=a.it.Zs1,Zt1:=([]:List UInt8),Zu1:=a.it.Zu1 }:AoB),ok:=v }:AoH) else some a else if(b.it.Za==14)then some b else if(b.it.Za==15)then (Ci b).bind fun w=>(B0 w 0).bind fun x=>(D7 x.2).bind fun e=>(BN e 0 (w64 ((e.p.Zh1.Zx.length:Int)-1))).bind fun y=>(Cs y 1 1000).bind fun z=>(CP z).bind fun aa=>(Cx aa 0 1000000000).bind fun ab=>some ab else some ({ p:=b.p,it:=b.it,ok:=false }:AoH)
def Li(d:Aoy)(c:AoB):Option (Bool) :=(if(decide (c.Za≤7))then (DH ({ p:=d,it:=c,ok:=true }:AoH)).bind fun a=>some (a.p.Zg1.Ze,a.p.Zg1.Zf,a.p.Zh1.Zx,a.p.Zh1.Zy,a.p.Zh1.Zz,a.p.Zh1.Za1,a.p.Zi1,a.p.Zj1,a.p.Zk1,a.it.Za,a.it.Ref.Zb,a.it.Ref.No,a.it.Zn1,a.it.Zb1,a.it.Zc,a.it.Zo1,a.it.Zw,a.it.To,a.it.Code,a.it.Zp1,a.it.Zq1,a.it.Zr1,a.it.Zs1,a.it.Zt1,a.it.Zu1,a.ok) else (EO ({ p:=d,it:=c,ok:=true }:AoH)).bind fun b=>some (b.p.Zg1.Ze,b.p.Zg1.Zf,b.p.Zh1.Zx,b.p.Zh1.Zy,b.p.Zh1.Zz,b.p.Zh1.Za1,b.p.Zi1,b.p.Zj1,b.p.Zk1,b.it.Za,b.it.Ref.Zb,b.it.Ref.No,b.it.Zn1,b.it.Zb1,b.it.Zc,b.it.Zo1,b.it.Zw,b.it.To,b.it.Code,b.it.Zp1,b.it.Zq1,b.it.Zr1,b.it.Zs1,b.it.Zt1,b.it.Zu1,b.ok):Option (List Aol×List Aom×List Aoo×List Aop×List Aoq×List Aor×List Aot×List Aou×List Aox×Int×Int×Int×Int×Int×Int×Int×Int×Int×Int×Int×Int×Int×Int×List UInt8×List AoA×Bool)).bind fun(ai,aj,ak,al,am,an,ao,ap,aq,ar,au,av,e,f,g,i,j,k,l,m,n,o,q,s,t,u)=>((if u then some (e==0) else some false:Option (Bool)).bind fun v=>(if v then some (f==0) else some false:Option (Bool)).bind fun w=>(if w then some (g==0) else some false:Option (Bool)).bind fun x=>(if x then some (i==0) else some false:Option (Bool)).bind fun y=>(if y then some (j==0) else some false:Option (Bool)).bind fun z=>(if z then some (k==0) else some false:Option (Bool)).bind fun aa=>(if aa then some (l==0) else some false:Option (Bool)).bind fun ab=>(if ab then some (m==0) else some false:Option (Bool)).bind fun ac=>(if ac then some (n==0) else some false:Option (Bool)).bind fun ad=>(if ad then some (o==0) else some false:Option (Bool)).bind fun ae=>(if ae then some (q==0) else some false:Option (Bool)).bind fun af=>some af:Option (Bool)).bind fun ag=>(if ag then if(s==([]:List UInt8))then some ((t.length:Int)==0) else some false else some false:Option (Bool)).bind fun ah=>some ah
def Ky(a:Aoy)(b:AoB):Option (Int) :=(CB a).bind fun c=>if(c != 0)then some c else ((H2 b).bind fun d=>if(!d)then some true else (Li a b).bind fun e=>some (!e):Option (Bool)).bind fun f=>if f then some 110 else some 0
def HN(b:UInt64)(c:List UInt8)(a:AoC):Option (Bool) :=(if(decide ((c.length:Int)>65536))then some true else if(decide (a.C≥(1152921504606845399:UInt64)))then some true else if(decide (a.S≥(1152921504606845399:UInt64)))then some true else (FC b).bind fun d=>some (!d):Option (Bool)).bind fun e=>if e then some false else (EM (2305843009213690799:UInt64)).bind fun f=>(F4 (4:UInt64) a.S).bind fun g=>(F4 b ((1152921504606845399:UInt64)-a.C)).bind fun i=>(Cz g i f).bind fun j=>(ER j.1 b c).bind fun k=>some (k==a.C)
def J1(b:Aoy)(a:AoD):Option (Int) :=(CB b).bind fun d=>if(d != 0)then some d else (if(decide (a.Zb<0))then some true else if(decide (a.Zb≥(b.Zk1.length:Int)))then some true else if(decide (a.No<1))then some true else if(decide (a.No>4096))then some true else if(decide (a.Zw1<0))then some true else if(decide (a.Zw1>1073741824))then some true else some (decide ((Aei a.Sig.C a.Sig.S)≥(1152921504606845399:UInt64))):Option (Bool)).bind fun f=>if f then some 1 else (Ky b a.Zx1).bind fun e=>if(e != 0)then some e else (Fi a).bind fun c=>if(c.2 != 0)then some c.2 else if InR a.Zb b.Zk1.length then (HN ((nth b.Zk1 a.Zb.toNat).Key) c.1 a.Sig).bind fun g=>if(!g)then some 31 else some 0 else none
def El(a:Int):Option (Bool) :=some (a != a)
def C8(a:Int)(b:Int):Option (Int) :=(El a).bind fun d=>(El b).bind fun c=>if d then if c then some 0 else some (-1) else if c then some 1 else if(decide (a<b))then some (-1) else if(decide (a>b))then some 1 else some 0
def FN(a:List UInt8)(b:List UInt8):Option (Int):=NX a b
def E0(a:List UInt8)(b:List UInt8):Option (Int) :=(FN a b).bind fun c=>some c
def Ba(s1_7111:List AoG)(s2_7112:List AoG)(c:AoG→AoG→Option (Int))(a:Int):Option ((Int)⊕((Unit)⊕((Unit)⊕(Int)))) :=if (decide (a<(s1_7111.length:Int)))then if InR a s1_7111.length then lt1 ((nth s1_7111 a.toNat).Za) fun(d:Int)=>lt1 ((nth s1_7111 a.toNat).N) fun(e:Int)=>lt1 ((nth s1_7111 a.toNat).B) fun(f:List UInt8)=>lt1 ((nth s1_7111 a.toNat).L) fun(g:List AoG)=>if(decide (a≥(s2_7112.length:Int)))then ((some 1).bind fun i=>some (.inr i)).bind fun j=>some (.inr (.inr j)) else if InR a s2_7112.length then lt1 ((nth s2_7112 a.toNat).Za) fun(k:Int)=>lt1 ((nth s2_7112 a.toNat).N) fun(l:Int)=>lt1 ((nth s2_7112 a.toNat).B) fun(m:List UInt8)=>lt1 ((nth s2_7112 a.toNat).L) fun(n:List AoG)=>(c (AoG.mk d e f g) (AoG.mk k l m n)).bind fun b=>if(b != 0)then ((some b).bind fun o=>some (.inr o)).bind fun p=>some (.inr (.inr p)) else some (.inl (w64 (a+1))) else none else none else some (.inr (.inl ()))
def BD(b:AoG→AoG→Option (Int))(s1_7111:List AoG)(s2_7112:List AoG)(a:AoG→AoG→Option (Int)):Option (Int) :=((AK (fun(v:Int)=>Ba s1_7111 s2_7112 a v) 0).bind fun x=>match x with
 |.inl ()=>some (.inl ())
 |.inr z=>some z:Option ((Unit)⊕(Int))).bind fun x=>match x with
 | .inl ()=>if(decide ((s1_7111.length:Int)<(s2_7112.length:Int)))then some (-1) else some 0
 |.inr z=>some z
def Dx(rec_:AoG→AoG→Option (Int))(a:AoG)(b:AoG):Option (Int) :=(C8 a.Za b.Za).bind fun c=>if(c != 0)then some c else if(a.Za==1)then (C8 a.N b.N).bind fun d=>some d else if(a.Za==2)then (E0 a.B b.B).bind fun e=>some e else if(a.Za==3)then (BD rec_ a.L b.L rec_).bind fun f=>some f else some 0
def Dj(n:Nat):AoG→AoG→Option (Int):=match n with
 |0=>fun _ _=>none
 |n+1=>Dx (Dj n)
def F2(a:AoG)(b:AoG):Option (Int):=Dj 18446744073709551616 a b
def Nm(a:AoD)(b:AoD):Option (Bool) :=(if (a.Zb==b.Zb)then if (a.No==b.No)then if(a.Zv1==b.Zv1)then if(a.Zw1==b.Zw1)then some ((a.Sig.C==b.Sig.C)&&(a.Sig.S==b.Sig.S)) else some false else some false else some false else some false:Option (Bool)).bind fun c=>(if c then (Ez a.Zx1).bind fun d=>(Ez b.Zx1).bind fun e=>(F2 d e).bind fun f=>some (f==0) else some false:Option (Bool)).bind fun g=>some g
def Ii(b:List AoD)(a:AoD):Option (Int) :=if(decide (a.No>(w64 ((b.length:Int)+1))))then some 140 else (if (decide (a.No>1))then if InR (w64 (a.No-2)) b.length then (FJ (nth b ((w64 (a.No-2)).toNat))).bind fun c=>(if(c.2 != 0)then some true else if InR (w64 (a.No-2)) b.length then some (decide (a.Zw1<(nth b ((w64 (a.No-2)).toNat)).Zw1)) else none:Option (Bool)).bind fun d=>if d then (some 140).bind fun e=>some (.inr e) else some (.inl c.1) else none else some (.inl (Arr.rep 32 (0:UInt8))):Option ((Arr UInt8 32)⊕(Int))).bind fun x=>match x with
  | .inl f=>if(!(f==a.Zv1))then some 140 else (if (!((a.Zx1.Ref.Zb==0)&&(a.Zx1.Ref.No==0)))then if(a.Zx1.Ref.Zb != a.Zb)then some true else if(decide (a.Zx1.Ref.No<1))then some true else if(decide (a.Zx1.Ref.No≥a.No))then some true else if InR (w64 (a.Zx1.Ref.No-1)) b.length then some (!(((((nth b ((w64 (a.Zx1.Ref.No-1)).toNat)).Zx1).Ref).Zb==0)&&((((nth b ((w64 (a.Zx1.Ref.No-1)).toNat)).Zx1).Ref).No==0))) else none else some false:Option (Bool)).bind fun g=>if g then some 110 else some 0
  |.inr z=>some z
def FH(a:List AoD):Option (List AoD) :=if CM (0+a.length) 224 then lt1 (([]:List AoD)++a) fun(b:List AoD)=>some b else none
def Hx(b:AoE)(a:AoD):Option (Bool×AoD) :=(if(b.A.Zb==a.Zb)then some (b.A.No==a.No) else some false:Option (Bool)).bind fun c=>some (c,a)
def BS(c:List AoE)(b:Int)(d:Int)(e:Int)(f:Arr UInt8 32)(g:Int)(i:Int)(j:Int)(k:Int)(l:Int)(m:Int)(n:Int)(o:Int)(p:Int)(q:Int)(s:Int)(t:Int)(u:Int)(v:Int)(w:Int)(x:List UInt8)(y:List AoA)(z:UInt64)(aa:UInt64):Option ((Int×Int×Int×Arr UInt8 32×Int×Int×Int×Int×Int×Int×Int×Int×Int×Int×Int×Int×Int×Int×Int×List UInt8×List AoA×UInt64×UInt64)⊕((Int×Int×Arr UInt8 32×Int×Int×Int×Int×Int×Int×Int×Int×Int×Int×Int×Int×Int×Int×Int×List UInt8×List AoA×UInt64×UInt64)⊕((Int×Int×Arr UInt8 32×Int×Int×Int×Int×Int×Int×Int×Int×Int×Int×Int×Int×Int×Int×Int×List UInt8×List AoA×UInt64×UInt64)⊕(Int×AoD)))) :=if (decide (b<(c.length:Int)))then if InR b c.length then (Hx ({ A:=(nth c b.toNat).A,B:=(nth c b.toNat).B }:AoE) ({ Zb:=d,No:=e,Zv1:=f,Zw1:=g,Zx1:=({ Za:=i,Ref:=({ Zb:=j,No:=k }:Aoz),Zn1:=l,Zb1:=m,Zc:=n,Zo1:=o,Zw:=p,To:=q,Code:=s,Zp1:=t,Zq1:=u,Zr1:=v,Zs1:=w,Zt1:=x,Zu1:=y }:AoB),Sig:=({ C:=z,S:=aa }:AoC) }:AoD)).bind fun a=>if a.1=true then ((some (b,a.2)).bind fun ab=>some (.inr ab)).bind fun ac=>some (.inr (.inr ac)) else some (.inl ((w64 (b+1)),a.2.Zb,a.2.No,a.2.Zv1,a.2.Zw1,a.2.Zx1.Za,a.2.Zx1.Ref.Zb,a.2.Zx1.Ref.No,a.2.Zx1.Zn1,a.2.Zx1.Zb1,a.2.Zx1.Zc,a.2.Zx1.Zo1,a.2.Zx1.Zw,a.2.Zx1.To,a.2.Zx1.Code,a.2.Zx1.Zp1,a.2.Zx1.Zq1,a.2.Zx1.Zr1,a.2.Zx1.Zs1,a.2.Zx1.Zt1,a.2.Zx1.Zu1,a.2.Sig.C,a.2.Sig.S)) else none else some (.inr (.inl (d,e,f,g,i,j,k,l,m,n,o,p,q,s,t,u,v,w,x,y,z,aa)))
def Cn(b:List AoE)(a:AoD):Option (Int×AoD) :=((AK (fun(v:Int×Int×Int×Arr UInt8 32×Int×Int×Int×Int×Int×Int×Int×Int×Int×Int×Int×Int×Int×Int×Int×List UInt8×List AoA×UInt64×UInt64)=>BS b v.1 v.2.1 v.2.2.1 v.2.2.2.1 v.2.2.2.2.1 v.2.2.2.2.2.1 v.2.2.2.2.2.2.1 v.2.2.2.2.2.2.2.1 v.2.2.2.2.2.2.2.2.1 v.2.2.2.2.2.2.2.2.2.1 v.2.2.2.2.2.2.2.2.2.2.1 v.2.2.2.2.2.2.2.2.2.2.2.1 v.2.2.2.2.2.2.2.2.2.2.2.2.1 v.2.2.2.2.2.2.2.2.2.2.2.2.2.1 v.2.2.2.2.2.2.2.2.2.2.2.2.2.2.1 v.2.2.2.2.2.2.2.2.2.2.2.2.2.2.2.1 v.2.2.2.2.2.2.2.2.2.2.2.2.2.2.2.2.1 v.2.2.2.2.2.2.2.2.2.2.2.2.2.2.2.2.2.1 v.2.2.2.2.2.2.2.2.2.2.2.2.2.2.2.2.2.2.1 v.2.2.2.2.2.2.2.2.2.2.2.2.2.2.2.2.2.2.2.1 v.2.2.2.2.2.2.2.2.2.2.2.2.2.2.2.2.2.2.2.2.1 v.2.2.2.2.2.2.2.2.2.2.2.2.2.2.2.2.2.2.2.2.2.1 v.2.2.2.2.2.2.2.2.2.2.2.2.2.2.2.2.2.2.2.2.2.2) (0,a.Zb,a.No,a.Zv1,a.Zw1,a.Zx1.Za,a.Zx1.Ref.Zb,a.Zx1.Ref.No,a.Zx1.Zn1,a.Zx1.Zb1,a.Zx1.Zc,a.Zx1.Zo1,a.Zx1.Zw,a.Zx1.To,a.Zx1.Code,a.Zx1.Zp1,a.Zx1.Zq1,a.Zx1.Zr1,a.Zx1.Zs1,a.Zx1.Zt1,a.Zx1.Zu1,a.Sig.C,a.Sig.S)).bind fun x=>match x with
 |.inl (c,d,e,f,g,i,j,k,l,m,n,o,p,q,s,t,u,w,y,aa,ab,ac)=>some (.inl (c,d,e,f,g,i,j,k,l,m,n,o,p,q,s,t,u,w,y,aa,ab,ac))
 |.inr z=>some z:Option ((Int×Int×Arr UInt8 32×Int×Int×Int×Int×Int×Int×Int×Int×Int×Int×Int×Int×Int×Int×Int×List UInt8×List AoA×UInt64×UInt64)⊕(Int×AoD))).bind fun x=>match x with
 |.inl (ad,ae,af,ag,ah,ai,aj,ak,al,am,an,ao,ap,aq,ar,au,av,aw,ax,ay,az,aA)=>some ((-1),({ Zb:=ad,No:=ae,Zv1:=af,Zw1:=ag,Zx1:=({ Za:=ah,Ref:=({ Zb:=ai,No:=aj }:Aoz),Zn1:=ak,Zb1:=al,Zc:=am,Zo1:=an,Zw:=ao,To:=ap,Code:=aq,Zp1:=ar,Zq1:=au,Zr1:=av,Zs1:=aw,Zt1:=ax,Zu1:=ay }:AoB),Sig:=({ C:=az,S:=aA }:AoC) }:AoD))
 |.inr z=>some z
def BT(b:List AoE)(c:AoD):Option (Bool×AoD) :=(Cn b c).bind fun a=>some ((decide (a.1≥0)),a.2)
def FK(a:List AoE):Option (List AoE) :=if CM (0+a.length) 448 then lt1 (([]:List AoE)++a) fun(b:List AoE)=>some b else none
def Bv(d:Aoy)(a:AoF)(b:AoD):Option (AoF×Int) :=(J1 d b).bind fun f=>if(f != 0)then some (({ Zy1:=[],Zz1:=[] }:AoF),f) else (IQ a b.Zb).bind fun c=>(if(decide (b.No≤(c.length:Int)))then if InR (w64 (b.No-1)) c.length then (Nm (nth c ((w64 (b.No-1)).toNat)) b).bind fun m=>some m else none else some false:Option (Bool)).bind fun n=>if n then some (a,0) else (Ii c b).bind fun g=>if(g != 0)then some (({ Zy1:=[],Zz1:=[] }:AoF),g) else if (b.No==(w64 ((c.length:Int)+1)))then if Mk (Hn (a.Zy1.length:Int) (d.Zk1.length:Int)) (Hn (a.Zy1.length:Int) (d.Zk1.length:Int)) 24 then lt1 (List.replicate ((Hn (a.Zy1.length:Int) (d.Zk1.length:Int)).toNat) ([])) fun(i:List (List AoD))=>lt1 (ovl i (a.Zy1.take (min a.Zy1.length i.length)) 0) fun(j:List (List AoD))=>(FH c).bind fun k=>if CM (k.length+1) 224 then if InR b.Zb j.length then lt1 (j.set b.Zb.toNat (k++([b]:List AoD))) fun(o:List (List AoD))=>some (({ Zy1:=o,Zz1:=a.Zz1 }:AoF),0) else none else none else none else ((BT a.Zz1 b).bind fun e=>if (!e.1)then (FK a.Zz1).bind fun l=>if InR (w64 (e.2.No-1)) c.length then if CM (l.length+1) 448 then lt1 (l++([({ A:=nth c ((w64 (e.2.No-1)).toNat),B:=e.2 }:AoE)]:List AoE)) fun(p:List AoE)=>some p else none else none else some a.Zz1:Option (List AoE)).bind fun q=>some (({ Zy1:=a.Zy1,Zz1:=q }:AoF),0)
def B3(c : Aoy)(m:AoF)(a:Int)(n:UInt64)(e:Int)(f:AoB):Option (AoD×Int) :=(CB c).bind fun o=>if(o != 0)then some (({ Zb:=0,No:=0,Zv1:=(Arr.rep 32 (0:UInt8)),Zw1:=0,Zx1:=({ Za:=0,Ref:=({ Zb:=0,No:=0 }:Aoz),Zn1:=0,Zb1:=0,Zc:=0,Zo1:=0,Zw:=0,To:=0,Code:=0,Zp1:=0,Zq1:=0,Zr1:=0,Zs1:=0,Zt1:=([]:List UInt8),Zu1:=[] }:AoB),Sig:=({ C:=(0:UInt64),S:=(0:UInt64) }:AoC) }:AoD),o) else (if(decide (a<0))then some true else some (decide (a≥(c.Zk1.length:Int))):Option (Bool)).bind fun q=>if q then some (({ Zb:=0,No:=0,Zv1:=(Arr.rep 32 (0:UInt8)),Zw1:=0,Zx1:=({ Za:=0,Ref:=({ Zb:=0,No:=0 }:Aoz),Zn1:=0,Zb1:=0,Zc:=0,Zo1:=0,Zw:=0,To:=0,Code:=0,Zp1:=0,Zq1:=0,Zr1:=0,Zs1:=0,Zt1:=([]:List UInt8),Zu1:=[] }:AoB),Sig:=({ C:=(0:UInt64),S:=(0:UInt64) }:AoC) }:AoD),1) else (HO n).bind fun g=>if(g.2 != 0)then some (({ Zb:=0,No:=0,Zv1:=(Arr.rep 32 (0:UInt8)),Zw1:=0,Zx1:=({ Za:=0,Ref:=({ Zb:=0,No:=0 }:Aoz),Zn1:=0,Zb1:=0,Zc:=0,Zo1:=0,Zw:=0,To:=0,Code:=0,Zp1:=0,Zq1:=0,Zr1:=0,Zs1:=0,Zt1:=([]:List UInt8),Zu1:=[] }:AoB),Sig:=({ C:=(0:UInt64),S:=(0:UInt64) }:AoC) }:AoD),g.2) else if InR a c.Zk1.length then if(g.1 != (nth c.Zk1 a.toNat).Key)then some (({ Zb:=0,No:=0,Zv1:=(Arr.rep 32 (0:UInt8)),Zw1:=0,Zx1:=({ Za:=0,Ref:=({ Zb:=0,No:=0 }:Aoz),Zn1:=0,Zb1:=0,Zc:=0,Zo1:=0,Zw:=0,To:=0,Code:=0,Zp1:=0,Zq1:=0,Zr1:=0,Zs1:=0,Zt1:=([]:List UInt8),Zu1:=[] }:AoB),Sig:=({ C:=(0:UInt64),S:=(0:UInt64) }:AoC) }:AoD),30) else (IQ m a).bind fun b=>lt1 (w64 ((b.length:Int)+1)) fun(i:Int)=>(if(decide ((b.length:Int)>0))then if InR (w64 ((b.length:Int)-1)) b.length then (FJ (nth b ((w64 ((b.length:Int)-1)).toNat))).bind fun j=>if(j.2 != 0)then (some (({ Zb:=0,No:=0,Zv1:=(Arr.rep 32 (0:UInt8)),Zw1:=0,Zx1:=({ Za:=0,Ref:=({ Zb:=0,No:=0 }:Aoz),Zn1:=0,Zb1:=0,Zc:=0,Zo1:=0,Zw:=0,To:=0,Code:=0,Zp1:=0,Zq1:=0,Zr1:=0,Zs1:=0,Zt1:=([]:List UInt8),Zu1:=[] }:AoB),Sig:=({ C:=(0:UInt64),S:=(0:UInt64) }:AoC) }:AoD),j.2)).bind fun s=>some (.inr s) else some (.inl j.1) else none else some (.inl (Arr.rep 32 (0:UInt8))):Option ((Arr UInt8 32)⊕(AoD×Int))).bind fun x=>match x with
      | .inl k=>(Fi ({ Zb:=a,No:=i,Zv1:=k,Zw1:=e,Zx1:=f,Sig:=({ C:=(0:UInt64),S:=(0:UInt64) }:AoC) }:AoD)).bind fun l=>if(l.2 != 0)then some (({ Zb:=0,No:=0,Zv1:=(Arr.rep 32 (0:UInt8)),Zw1:=0,Zx1:=({ Za:=0,Ref:=({ Zb:=0,No:=0 }:Aoz),Zn1:=0,Zb1:=0,Zc:=0,Zo1:=0,Zw:=0,To:=0,Code:=0,Zp1:=0,Zq1:=0,Zr1:=0,Zs1:=0,Zt1:=([]:List UInt8),Zu1:=[] }:AoB),Sig:=({ C:=(0:UInt64),S:=(0:UInt64) }:AoC) }:AoD),l.2) else (Nh n l.1).bind fun d=>if(d.2 != 0)then some (({ Zb:=0,No:=0,Zv1:=(Arr.rep 32 (0:UInt8)),Zw1:=0,Zx1:=({ Za:=0,Ref:=({ Zb:=0,No:=0 }:Aoz),Zn1:=0,Zb1:=0,Zc:=0,Zo1:=0,Zw:=0,To:=0,Code:=0,Zp1:=0,Zq1:=0,Zr1:=0,Zs1:=0,Zt1:=([]:List UInt8),Zu1:=[] }:AoB),Sig:=({ C:=(0:UInt64),S:=(0:UInt64) }:AoC) }:AoD),d.2) else (Bv c m ({ Zb:=a,No:=i,Zv1:=k,Zw1:=e,Zx1:=f,Sig:=d.1 }:AoD)).bind fun p=>if(p.2 != 0)then some (({ Zb:=0,No:=0,Zv1:=(Arr.rep 32 (0:UInt8)),Zw1:=0,Zx1:=({ Za:=0,Ref:=({ Zb:=0,No:=0 }:Aoz),Zn1:=0,Zb1:=0,Zc:=0,Zo1:=0,Zw:=0,To:=0,Code:=0,Zp1:=0,Zq1:=0,Zr1:=0,Zs1:=0,Zt1:=([]:List UInt8),Zu1:=[] }:AoB),Sig:=({ C:=(0:UInt64),S:=(0:UInt64) }:AoC) }:AoD),p.2) else some (({ Zb:=a,No:=i,Zv1:=k,Zw1:=e,Zx1:=f,Sig:=d.1 }:AoD),0)
      |.inr z=>some z else none
def Iy(a : AoB)(b:UInt8):Option (Int) :=if(b==(119:UInt8))then some a.Zn1 else if(b==(112:UInt8))then some a.Zb1 else if(b==(111:UInt8))then some a.Zc else if(b==(110:UInt8))then some a.Zo1 else if(b==(102:UInt8))then some a.Zw else if(b==(116:UInt8))then some a.To else if(b==(99:UInt8))then some a.Code else if(b==(100:UInt8))then some a.Zp1 else if(b==(107:UInt8))then some a.Zq1 else if(b==(103:UInt8))then some a.Zr1 else some a.Zs1
def Cq(b:List AoA)(c:List AoA)(a:Int):Option ((Int)⊕((Unit)⊕((Unit)⊕(Bool)))) :=if (decide (a<(b.length:Int)))then if InR a b.length then if InR a c.length then lt1 (!(((nth b a.toNat).Za==(nth c a.toNat).Za)&&(((nth b a.toNat).Zl1==(nth c a.toNat).Zl1)&&((nth b a.toNat).Zm1==(nth c a.toNat).Zm1)))) fun(d:Bool)=>if d then ((some false).bind fun e=>some (.inr e)).bind fun f=>some (.inr (.inr f)) else some (.inl (w64 (a+1))) else none else none else some (.inr (.inl ()))
def E2(a:List AoA)(b:List AoA):Option (Bool) :=if((a.length:Int) != (b.length:Int))then some false else ((AK (fun(v:Int)=>Cq a b v) 0).bind fun x=>match x with
  |.inl ()=>some (.inl ())
  |.inr z=>some z:Option ((Unit)⊕(Bool))).bind fun x=>match x with
  |.inl ()=>some true
  |.inr z=>some z
def ED(b:AoB)(c:AoB)(a:Int):Option ((Int)⊕((Unit)⊕((Unit)⊕(Bool)))) :=if (decide (a<11))then if InR a (([119,112,111,110,102,116,99,100,107,103,97]:List UInt8).length)then (Iy b (nth ([119,112,111,110,102,116,99,100,107,103,97]:List UInt8) a.toNat)).bind fun d=>if InR a (([119,112,111,110,102,116,99,100,107,103,97]:List UInt8).length)then (Iy c (nth ([119,112,111,110,102,116,99,100,107,103,97]:List UInt8) a.toNat)).bind fun e=>if(d != e)then ((some false).bind fun f=>some (.inr f)).bind fun g=>some (.inr (.inr g)) else some (.inl (w64 (a+1))) else none else none else some (.inr (.inl ()))
def JY(a:AoB)(b:AoB):Option (Bool) :=((AK (fun(v:Int)=>ED a b v) 0).bind fun x=>match x with
 |.inl ()=>some (.inl ())
 |.inr z=>some z:Option ((Unit)⊕(Bool))).bind fun x=>match x with
 | .inl ()=>(if(a.Za==b.Za)then if((a.Ref.Zb==b.Ref.Zb)&&(a.Ref.No==b.Ref.No))then if(a.Zt1==b.Zt1)then (E2 a.Zu1 b.Zu1).bind fun c=>some c else some false else some false else some false:Option (Bool)).bind fun d=>some d
 |.inr z=>some z
def Bj(a:AoD)(b:AoD):Option (Bool) :=(if (a.Zb==b.Zb)then if (a.No==b.No)then if (a.Zv1==b.Zv1)then if(a.Zw1==b.Zw1)then if((a.Sig.C==b.Sig.C)&&(a.Sig.S==b.Sig.S))then (JY a.Zx1 b.Zx1).bind fun c=>some c else some false else some false else some false else some false else some false:Option (Bool)).bind fun d=>some d
def GL(b:List AoD)(c:List AoD)(a:Int):Option ((Int)⊕((Unit)⊕((Unit)⊕(Bool)))) :=if (decide (a<(b.length:Int)))then if InR a b.length then if InR a c.length then (Bj (nth b a.toNat) (nth c a.toNat)).bind fun d=>if(!d)then ((some false).bind fun e=>some (.inr e)).bind fun f=>some (.inr (.inr f)) else some (.inl (w64 (a+1))) else none else none else some (.inr (.inl ()))
def J3(a:List AoD)(b:List AoD):Option (Bool) :=if((a.length:Int) != (b.length:Int))then some false else ((AK (fun(v:Int)=>GL a b v) 0).bind fun x=>match x with
  |.inl ()=>some (.inl ())
  |.inr z=>some z:Option ((Unit)⊕(Bool))).bind fun x=>match x with
  |.inl ()=>some true
  |.inr z=>some z
def J8(b:AoF)(c:AoF)(a:Int):Option ((Int)⊕((Unit)⊕((Unit)⊕(Bool)))) :=if (decide (a<(b.Zy1.length:Int)))then if InR a b.Zy1.length then if InR a c.Zy1.length then (J3 (nth b.Zy1 a.toNat) (nth c.Zy1 a.toNat)).bind fun d=>if(!d)then ((some false).bind fun e=>some (.inr e)).bind fun f=>some (.inr (.inr f)) else some (.inl (w64 (a+1))) else none else none else some (.inr (.inl ()))
def JP(b:AoF)(c:AoF)(a:Int):Option ((Int)⊕((Unit)⊕((Unit)⊕(Bool)))) :=if (decide (a<(b.Zz1.length:Int)))then (if InR a b.Zz1.length then if InR a c.Zz1.length then (Bj ((nth b.Zz1 a.toNat).A) ((nth c.Zz1 a.toNat).A)).bind fun d=>if(!d)then some true else if InR a b.Zz1.length then if InR a c.Zz1.length then (Bj ((nth b.Zz1 a.toNat).B) ((nth c.Zz1 a.toNat).B)).bind fun e=>some (!e) else none else none else none else none:Option (Bool)).bind fun f=>if f then ((some false).bind fun g=>some (.inr g)).bind fun i=>some (.inr (.inr i)) else some (.inl (w64 (a+1))) else some (.inr (.inl ()))
def Kh(a:AoF)(b:AoF):Option (Bool) :=(if((a.Zy1.length:Int) != (b.Zy1.length:Int))then some true else some ((a.Zz1.length:Int) != (b.Zz1.length:Int)):Option (Bool)).bind fun c=>if c then some false else ((AK (fun(v:Int)=>J8 a b v) 0).bind fun x=>match x with
  |.inl ()=>some (.inl ())
  |.inr z=>some z:Option ((Unit)⊕(Bool))).bind fun x=>match x with
  | .inl ()=>((AK (fun(v:Int)=>JP a b v) 0).bind fun x=>match x with
   |.inl ()=>some (.inl ())
   |.inr z=>some z:Option ((Unit)⊕(Bool))).bind fun x=>match x with
   |.inl ()=>some true
   |.inr z=>some z
  |.inr z=>some z
def G8(b:AoF)(e:Int)(c:Int)(a:Int):Option ((Int×Int)⊕(Int)) :=if (decide (a<(b.Zz1.length:Int)))then (if InR a b.Zz1.length then lt1 (((nth b.Zz1 a.toNat).A).Zb) fun(f:Int)=>lt1 (((nth b.Zz1 a.toNat).A).No) fun(d:Int)=>lt1 (((nth b.Zz1 a.toNat).A).Zv1) fun(j:Arr UInt8 32)=>lt1 (((nth b.Zz1 a.toNat).A).Zw1) fun(k:Int)=>lt1 ((((nth b.Zz1 a.toNat).A).Zx1).Za) fun(l:Int)=>lt1 (((((nth b.Zz1 a.toNat).A).Zx1).Ref).Zb) fun(m:Int)=>lt1 (((((nth b.Zz1 a.toNat).A).Zx1).Ref).No) fun(n:Int)=>lt1 ((((nth b.Zz1 a.toNat).A).Zx1).Zn1) fun(o:Int)=>lt1 ((((nth b.Zz1 a.toNat).A).Zx1).Zb1) fun(p:Int)=>lt1 ((((nth b.Zz1 a.toNat).A).Zx1).Zc) fun(q:Int)=>lt1 ((((nth b.Zz1 a.toNat).A).Zx1).Zo1) fun(s:Int)=>lt1 ((((nth b.Zz1 a.toNat).A).Zx1).Zw) fun(t:Int)=>lt1 ((((nth b.Zz1 a.toNat).A).Zx1).To) fun(u:Int)=>lt1 ((((nth b.Zz1 a.toNat).A).Zx1).Code) fun(v:Int)=>lt1 ((((nth b.Zz1 a.toNat).A).Zx1).Zp1) fun(w:Int)=>lt1 ((((nth b.Zz1 a.toNat).A).Zx1).Zq1) fun(x:Int)=>lt1 ((((nth b.Zz1 a.toNat).A).Zx1).Zr1) fun(y:Int)=>lt1 ((((nth b.Zz1 a.toNat).A).Zx1).Zs1) fun(z:Int)=>lt1 ((((nth b.Zz1 a.toNat).A).Zx1).Zt1) fun(aa:List UInt8)=>lt1 ((((nth b.Zz1 a.toNat).A).Zx1).Zu1) fun(ab:List AoA)=>lt1 ((((nth b.Zz1 a.toNat).A).Sig).C) fun(ac:UInt64)=>lt1 ((((nth b.Zz1 a.toNat).A).Sig).S) fun(ad:UInt64)=>lt1 (((nth b.Zz1 a.toNat).B).Zb) fun(ae:Int)=>lt1 (((nth b.Zz1 a.toNat).B).No) fun(af:Int)=>lt1 (((nth b.Zz1 a.toNat).B).Zv1) fun(ag:Arr UInt8 32)=>lt1 (((nth b.Zz1 a.toNat).B).Zw1) fun(ah:Int)=>lt1 ((((nth b.Zz1 a.toNat).B).Zx1).Za) fun(ai:Int)=>lt1 (((((nth b.Zz1 a.toNat).B).Zx1).Ref).Zb) fun(aj:Int)=>lt1 (((((nth b.Zz1 a.toNat).B).Zx1).Ref).No) fun(ak:Int)=>lt1 ((((nth b.Zz1 a.toNat).B).Zx1).Zn1) fun(al:Int)=>lt1 ((((nth b.Zz1 a.toNat).B).Zx1).Zb1) fun(am:Int)=>lt1 ((((nth b.Zz1 a.toNat).B).Zx1).Zc) fun(an:Int)=>lt1 ((((nth b.Zz1 a.toNat).B).Zx1).Zo1) fun(ao:Int)=>lt1 ((((nth b.Zz1 a.toNat).B).Zx1).Zw) fun(ap:Int)=>lt1 ((((nth b.Zz1 a.toNat).B).Zx1).To) fun(aq:Int)=>lt1 ((((nth b.Zz1 a.toNat).B).Zx1).Code) fun(ar:Int)=>lt1 ((((nth b.Zz1 a.toNat).B).Zx1).Zp1) fun(au:Int)=>lt1 ((((nth b.Zz1 a.toNat).B).Zx1).Zq1) fun(av:Int)=>lt1 ((((nth b.Zz1 a.toNat).B).Zx1).Zr1) fun(aw:Int)=>lt1 ((((nth b.Zz1 a.toNat).B).Zx1).Zs1) fun(ax:Int)=>lt1 ((((nth b.Zz1 a.toNat).B).Zx1).Zt1) fun(ay:List UInt8)=>lt1 ((((nth b.Zz1 a.toNat).B).Zx1).Zu1) fun(az:List AoA)=>lt1 ((((nth b.Zz1 a.toNat).B).Sig).C) fun(aA:UInt64)=>lt1 ((((nth b.Zz1 a.toNat).B).Sig).S) fun(aB:UInt64)=>(if(f==e)then if(decide (d≥1))then if(c==0)then some true else some (decide (d<c)) else some false else some false:Option (Bool)).bind fun g=>if g then some d else some c else none:Option (Int)).bind fun i=>some (.inl (i,(w64 (a+1)))) else some (.inr c)
def CF(a:AoF)(b:Int):Option (Int) :=((AK (fun(v:Int×Int)=>G8 a b v.1 v.2) (0,0)).bind fun c=>some c:Option (Int)).bind fun d=>some d
def FO(c:AoF)(a:Int)(d:List (List AoD)):Option ((Int×List (List AoD))⊕(List (List AoD))) :=if (decide (a<(c.Zy1.length:Int)))then if InR a c.Zy1.length then lt1 (nth c.Zy1 a.toNat) fun(b:List AoD)=>((CF c a).bind fun e=>if(decide (e>0))then if InB (Xr (w64 (e-1)) (b.length:Int)) b.length then lt1 (b.take ((Xr (w64 (e-1)) (b.length:Int)).toNat)) fun(f:List AoD)=>some f else none else some b:Option (List AoD)).bind fun g=>if CM (d.length+1) 24 then lt1 (d++([g]:List (List AoD))) fun(i:List (List AoD))=>some (.inl ((w64 (a+1)),i)) else none else none else some (.inr d)
def IC(a:AoF):Option (AoF) :=((AK (fun(v:Int×List (List AoD))=>FO a v.1 v.2) (0,[])).bind fun b=>some b:Option (List (List AoD))).bind fun c=>some ({ Zy1:=c,Zz1:=[] }:AoF)
def Mb(a:AoF):Option (AoF) :=some a
def FS(b:List ((Int×Int)×AoI))(c:Int)(d:Int)(a:AoD):Option (List ((Int×Int)×AoI)) :=(if(!((a.Zx1.Ref.Zb==0)&&(a.Zx1.Ref.No==0)))then some (a.Zx1.Ref.Zb==c) else some false:Option (Bool)).bind fun e=>if e then if Tg a.Zx1.Ref.Zb a.Zx1.Ref.No then lt1 (AhU b (a.Zx1.Ref.Zb,a.Zx1.Ref.No) ({ Ref:=a.Zx1.Ref,By:=({ Zb:=c,No:=d }:Aoz),Zw1:=a.Zw1,Zx1:=a.Zx1 }:AoI)) fun(f:List ((Int×Int)×AoI))=>some f else none else some b
def FY(c:List ((Int×Int)×AoI))(e:List AoI)(a:Int)(b:Int)(d:AoD):Option (List AoI) :=lt1 (!((d.Zx1.Ref.Zb==0)&&(d.Zx1.Ref.No==0))) fun(g:Bool)=>if g then some e else if Tg a b then lt1 ((Fv c (a,b)).isSome) fun(i:Bool)=>lt1 ((((Fv c (a,b)).getD C3).Ref).Zb) fun(j:Int)=>lt1 ((((Fv c (a,b)).getD C3).Ref).No) fun(k:Int)=>lt1 ((((Fv c (a,b)).getD C3).By).Zb) fun(l:Int)=>lt1 ((((Fv c (a,b)).getD C3).By).No) fun(m:Int)=>lt1 (((Fv c (a,b)).getD C3).Zw1) fun(n:Int)=>lt1 ((((Fv c (a,b)).getD C3).Zx1).Za) fun(f:Int)=>lt1 (((((Fv c (a,b)).getD C3).Zx1).Ref).Zb) fun(o:Int)=>lt1 (((((Fv c (a,b)).getD C3).Zx1).Ref).No) fun(p:Int)=>lt1 ((((Fv c (a,b)).getD C3).Zx1).Zn1) fun(q:Int)=>lt1 ((((Fv c (a,b)).getD C3).Zx1).Zb1) fun(s:Int)=>lt1 ((((Fv c (a,b)).getD C3).Zx1).Zc) fun(t:Int)=>lt1 ((((Fv c (a,b)).getD C3).Zx1).Zo1) fun(u:Int)=>lt1 ((((Fv c (a,b)).getD C3).Zx1).Zw) fun(v:Int)=>lt1 ((((Fv c (a,b)).getD C3).Zx1).To) fun(w:Int)=>lt1 ((((Fv c (a,b)).getD C3).Zx1).Code) fun(y:Int)=>lt1 ((((Fv c (a,b)).getD C3).Zx1).Zp1) fun(aa:Int)=>lt1 ((((Fv c (a,b)).getD C3).Zx1).Zq1) fun(ab:Int)=>lt1 ((((Fv c (a,b)).getD C3).Zx1).Zr1) fun(ac:Int)=>lt1 ((((Fv c (a,b)).getD C3).Zx1).Zs1) fun(ad:Int)=>lt1 ((((Fv c (a,b)).getD C3).Zx1).Zt1) fun(ae:List UInt8)=>lt1 ((((Fv c (a,b)).getD C3).Zx1).Zu1) fun(af:List AoA)=>(if(!i)then some (.inl (a,b,a,b,d.Zw1,d.Zx1.Za,d.Zx1.Ref.Zb,d.Zx1.Ref.No,d.Zx1.Zn1,d.Zx1.Zb1,d.Zx1.Zc,d.Zx1.Zo1,d.Zx1.Zw,d.Zx1.To,d.Zx1.Code,d.Zx1.Zp1,d.Zx1.Zq1,d.Zx1.Zr1,d.Zx1.Zs1,d.Zx1.Zt1,d.Zx1.Zu1)) else if(f==14)then (some e).bind fun ag=>some (.inr ag) else some (.inl (j,k,l,m,n,f,o,p,q,s,t,u,v,w,y,aa,ab,ac,ad,ae,af)):Option ((Int×Int×Int×Int×Int×Int×Int×Int×Int×Int×Int×Int×Int×Int×Int×Int×Int×Int×Int×List UInt8×List AoA)⊕(List AoI))).bind fun x=>match x with
   | .inl (ah,ai,aj,ak,al,am,aD,aE,an,ao,ap,aq,ar,au,av,aw,ax,ay,az,aA,aB)=>if CM (e.length+1) 192 then lt1 (e++([({ Ref:=({ Zb:=ah,No:=ai }:Aoz),By:=({ Zb:=aj,No:=ak }:Aoz),Zw1:=al,Zx1:=({ Za:=am,Ref:=({ Zb:=0,No:=0 }:Aoz),Zn1:=an,Zb1:=ao,Zc:=ap,Zo1:=aq,Zw:=ar,To:=au,Code:=av,Zp1:=aw,Zq1:=ax,Zr1:=ay,Zs1:=az,Zt1:=aA,Zu1:=aB }:AoB) }:AoI)]:List AoI)) fun(aC:List AoI)=>some aC else none
   |.inr z=>some z else none
def Bz(b:AoF):Option (List AoI) :=(IC b).bind fun a=>(Mb a).bind fun c=>(AgZ (fun(v:List ((Int×Int)×AoI)) (q:Aoz) (r:AoD)=>FS v q.Zb q.No r) c.Zy1 ([])).bind fun d=>(Mb a).bind fun e=>(AgZ (fun(v:List AoI) (q:Aoz) (r:AoD)=>FY d v q.Zb q.No r) e.Zy1 ([])).bind fun f=>some f
def law14_sane  : Option (Bool) :=r14_Example.bind fun b=>(BZ 1).bind fun j=>(B3 b ({ Zy1:=[],Zz1:=[] }:AoF) 0 (7:UInt64) 5 j).bind fun c=>(Bv b ({ Zy1:=[],Zz1:=[] }:AoF) c.1).bind fun a=>(Bv b a.1 c.1).bind fun e=>(BZ 1).bind fun k=>(B3 b a.1 0 (7:UInt64) 4 k).bind fun l=>(BZ 2).bind fun m=>(B3 b ({ Zy1:=[],Zz1:=[] }:AoF) 0 (7:UInt64) 5 m).bind fun f=>(Bv b a.1 f.1).bind fun d=>(BZ 1).bind fun n=>(B3 b ({ Zy1:=[],Zz1:=[] }:AoF) 0 (8:UInt64) 5 n).bind fun o=>(B3 b a.1 0 (7:UInt64) 6 ({ Za:=14,Ref:=({ Zb:=0,No:=1 }:Aoz),Zn1:=0,Zb1:=0,Zc:=0,Zo1:=0,Zw:=0,To:=0,Code:=0,Zp1:=0,Zq1:=0,Zr1:=0,Zs1:=0,Zt1:=([]:List UInt8),Zu1:=[] }:AoB)).bind fun g=>(Bv b a.1 g.1).bind fun i=>(B3 b ({ Zy1:=[],Zz1:=[] }:AoF) 0 (7:UInt64) 5 ({ Za:=14,Ref:=({ Zb:=0,No:=1 }:Aoz),Zn1:=0,Zb1:=0,Zc:=0,Zo1:=0,Zw:=0,To:=0,Code:=0,Zp1:=0,Zq1:=0,Zr1:=0,Zs1:=0,Zt1:=([]:List UInt8),Zu1:=[] }:AoB)).bind fun p=>(if (c.2 == 0)then if (c.1.No==1)then if (c.1.Zv1==(⟨[(0:UInt8),0,0,0,0,0,0,0,0,0,0,0,0,0,0,0,0,0,0,0,0,0,0,0,0,0,0,0,0,0,0,0],rfl⟩:Arr UInt8 32))then if (a.2==0)then if ((a.1.Zy1.length:Int)==2)then if InR 0 a.1.Zy1.length then if (((nth a.1.Zy1 0).length:Int)==1)then if(e.2==0)then (Kh e.1 a.1).bind fun q=>if q then some (l.2==140) else some false else some false else some false else none else some false else some false else some false else some false else some false:Option (Bool)).bind fun s=>(if (f.2==0)then if (d.2==0)then if ((d.1.Zz1.length:Int)==1)then (CF d.1 0).bind fun t=>if (t==1)then (CF a.1 0).bind fun u=>if(u==0)then (Bz d.1).bind fun v=>if((v.length:Int)==0)then (Bz a.1).bind fun w=>some ((w.length:Int)==1) else some false else some false else some false else some false else some false else some false:Option (Bool)).bind fun x=>(if s = true then if x = true then if (o.2==30)then if (g.2==0)then if(i.2==0)then (Bz i.1).bind fun y=>if((y.length:Int)==0)then some (p.2==110) else some false else some false else some false else some false else some false else some false:Option (Bool)).bind fun z=>some z
def EC(a:AoB):Option (Bool) :=(if(decide ((a.Zt1.length:Int)≤1000))then some (decide ((a.Zu1.length:Int)≤20)) else some false:Option (Bool)).bind fun b=>some b
def IK(a:Int)(b:Int)(c:Int):Option (Bool) :=(if(decide (a≥b))then some (decide (a≤c)) else some false:Option (Bool)).bind fun d=>some d
def HA(b:Aoy)(e:Int)(a:Int):Option ((Int)⊕((Unit)⊕((Unit)⊕(Bool)))) :=if (decide (a<(b.Zi1.length:Int)))then if InR a b.Zi1.length then lt1 ((nth b.Zi1 a.toNat).Zb1) fun(f:Int)=>lt1 ((nth b.Zi1 a.toNat).Low) fun(c:Int)=>lt1 ((nth b.Zi1 a.toNat).Zc1) fun(d:Int)=>((IK f 0 (w64 (e-1))).bind fun g=>if(!g)then some true else if(decide (c<(-1000)))then some true else if(decide (d<c))then some true else some (decide (d>1000)):Option (Bool)).bind fun i=>if i then ((some false).bind fun j=>some (.inr j)).bind fun k=>some (.inr (.inr k)) else some (.inl (w64 (a+1))) else none else some (.inr (.inl ()))
def HJ(a:Aoy)(c:Int)(b:Int):Option ((Int)⊕((Unit)⊕((Unit)⊕(Bool)))) :=if (decide (b<(a.Zj1.length:Int)))then (if InR b a.Zj1.length then (IK ((nth a.Zj1 b.toNat).Zb1) 0 (w64 (c-1))).bind fun d=>if(!d)then some true else if InR b a.Zj1.length then if InR ((nth a.Zj1 b.toNat).Zb1) a.Zg1.Ze.length then some ((nth a.Zg1.Ze (((nth a.Zj1 b.toNat).Zb1).toNat)).Za != 4) else none else none else none:Option (Bool)).bind fun e=>if e then ((some false).bind fun f=>some (.inr f)).bind fun g=>some (.inr (.inr g)) else some (.inl (w64 (b+1))) else some (.inr (.inl ()))
def H7(b:Aoy)(c:Int)(a:Int):Option ((Int)⊕((Unit)⊕((Unit)⊕(Bool)))) :=if (decide (a<(b.Zh1.Zy.length:Int)))then if InR a b.Zh1.Zy.length then lt1 (decide ((nth b.Zh1.Zy a.toNat).Zq≥c)) fun(d:Bool)=>if d then ((some false).bind fun e=>some (.inr e)).bind fun f=>some (.inr (.inr f)) else some (.inl (w64 (a+1))) else none else some (.inr (.inl ()))
def Gr(b:Aoy)(c:Int)(a:Int):Option ((Int)⊕((Unit)⊕((Unit)⊕(Bool)))) :=if (decide (a<(b.Zg1.Ze.length:Int)))then if InR a b.Zg1.Ze.length then lt1 ((nth b.Zg1.Ze a.toNat).Za) fun(j:Int)=>lt1 ((nth b.Zg1.Ze a.toNat).Zb) fun(d:Int)=>lt1 ((nth b.Zg1.Ze a.toNat).Zc) fun(e:Int)=>(if(decide (d≥c))then some true else some (decide (e≥c)):Option (Bool)).bind fun f=>if f then ((some false).bind fun g=>some (.inr g)).bind fun i=>some (.inr (.inr i)) else some (.inl (w64 (a+1))) else none else some (.inr (.inl ()))
def Gf(b:Aoy)(c:Int)(a:Int):Option ((Int)⊕((Unit)⊕((Unit)⊕(Bool)))) :=if (decide (a<(b.Zg1.Zf.length:Int)))then if InR a b.Zg1.Zf.length then lt1 (decide ((nth b.Zg1.Zf a.toNat).Zb≥c)) fun(d:Bool)=>if d then ((some false).bind fun e=>some (.inr e)).bind fun f=>some (.inr (.inr f)) else some (.inl (w64 (a+1))) else none else some (.inr (.inl ()))
def EY(b:Aow)(a:Int):Option ((Int)⊕((Unit)⊕((Unit)⊕(Int)))) :=if (decide (a<(b.Ze1.length:Int)))then if InR a b.Ze1.length then lt1 (nth b.Ze1 a.toNat) fun(c:Int)=>(if(decide (c<0))then some true else if(decide (c>745654))then some true else if(decide (a>0))then if InR (w64 (a-1)) b.Ze1.length then some (decide (nth b.Ze1 ((w64 (a-1)).toNat)≥c)) else none else some false:Option (Bool)).bind fun d=>if d then ((some 1).bind fun e=>some (.inr e)).bind fun f=>some (.inr (.inr f)) else some (.inl (w64 (a+1))) else none else some (.inr (.inl ()))
def Hl(a:Aow):Option (Int) :=lt1 a.Zd1.2.2.2.2.1.Zw fun(b:Int)=>lt1 a.Zd1.2.2.2.2.2.1.Zw fun(c:Int)=>lt1 a.Zd1.2.2.2.2.2.1.To fun(d:Int)=>lt1 a.Zd1.2.2.2.2.2.2.Zw fun(e:Int)=>lt1 a.Zd1.2.2.2.2.2.2.To fun(f:Int)=>((if(decide (a.Zd1.1.Zw<0))then some true else if(decide (a.Zd1.1.To<a.Zd1.1.Zw))then some true else some (decide (a.Zd1.1.To>1440)):Option (Bool)).bind fun g=>if g then (some 1).bind fun i=>some (.inr i) else (if(decide (a.Zd1.2.1.Zw<0))then some true else if(decide (a.Zd1.2.1.To<a.Zd1.2.1.Zw))then some true else some (decide (a.Zd1.2.1.To>1440)):Option (Bool)).bind fun j=>if j then (some 1).bind fun k=>some (.inr k) else (if(decide (a.Zd1.2.2.1.Zw<0))then some true else if(decide (a.Zd1.2.2.1.To<a.Zd1.2.2.1.Zw))then some true else some (decide (a.Zd1.2.2.1.To>1440)):Option (Bool)).bind fun l=>if l then (some 1).bind fun m=>some (.inr m) else (if(decide (a.Zd1.2.2.2.1.Zw<0))then some true else if(decide (a.Zd1.2.2.2.1.To<a.Zd1.2.2.2.1.Zw))then some true else some (decide (a.Zd1.2.2.2.1.To>1440)):Option (Bool)).bind fun n=>if n then (some 1).bind fun o=>some (.inr o) else (if(decide (b<0))then some true else if(decide (a.Zd1.2.2.2.2.1.To<b))then some true else some (decide (a.Zd1.2.2.2.2.1.To>1440)):Option (Bool)).bind fun p=>if p then (some 1).bind fun q=>some (.inr q) else (if(decide (c<0))then some true else if(decide (d<c))then some true else some (decide (d>1440)):Option (Bool)).bind fun s=>if s then (some 1).bind fun t=>some (.inr t) else (if(decide (e<0))then some true else if(decide (f<e))then some true else some (decide (f>1440)):Option (Bool)).bind fun u=>if u then (some 1).bind fun w=>some (.inr w) else some (.inl ()):Option ((Unit)⊕(Int))).bind fun x=>match x with
 | .inl ()=>((AK (fun(v:Int)=>EY a v) 0).bind fun x=>match x with
  |.inl ()=>some (.inl ())
  |.inr z=>some z:Option ((Unit)⊕(Int))).bind fun x=>match x with
  |.inl ()=>some 0
  |.inr z=>some z
 |.inr z=>some z
def Ij(a:UInt64):Option (Bool) :=(if(decide (a≥(2:UInt64)))then if(decide (a<(2305843009213690799:UInt64)))then (Lc a (1152921504606845399:UInt64)).bind fun b=>some (b==(1:UInt64)) else some false else some false:Option (Bool)).bind fun c=>some c
def DV(b:Aoy)(a:Int):Option ((Int)⊕((Unit)⊕((Unit)⊕(Int)))) :=if (decide (a<(b.Zk1.length:Int)))then (if InR a b.Zk1.length then (Hl ({ Zd1:=((((nth b.Zk1 a.toNat).Zf1).Zd1).1,(((nth b.Zk1 a.toNat).Zf1).Zd1).2.1,(((nth b.Zk1 a.toNat).Zf1).Zd1).2.2.1,(((nth b.Zk1 a.toNat).Zf1).Zd1).2.2.2.1,(((nth b.Zk1 a.toNat).Zf1).Zd1).2.2.2.2.1,(((nth b.Zk1 a.toNat).Zf1).Zd1).2.2.2.2.2.1,(((nth b.Zk1 a.toNat).Zf1).Zd1).2.2.2.2.2.2),Ze1:=((nth b.Zk1 a.toNat).Zf1).Ze1 }:Aow)).bind fun c=>if(c != 0)then some true else if InR a b.Zk1.length then (Ij ((nth b.Zk1 a.toNat).Key)).bind fun d=>some (!d) else none else none:Option (Bool)).bind fun e=>if e then ((some 1).bind fun f=>some (.inr f)).bind fun g=>some (.inr (.inr g)) else some (.inl (w64 (a+1))) else some (.inr (.inl ()))
def OO(a:Int)(b:Int)(c:Int):Option (Bool) :=(if(decide (b≤a))then some (decide (a≤c)) else some false:Option (Bool)).bind fun d=>some d
def Qy(a:AoB):Option (Bool) :=if((a.Ref.Zb==0)&&(a.Ref.No==0))then some (a.Za != 14) else ((OO a.Ref.Zb 0 15).bind fun b=>if b then (OO a.Ref.No 1 4096).bind fun c=>some c else some false:Option (Bool)).bind fun d=>some d
def CW(b:UInt32)(a:Int):Option (UInt32) :=if EX a then if EX (w64 (32-a))then lt1 ((Rq b a.toNat) ||| (SK b ((w64 (32-a)).toNat))) fun(c:UInt32)=>some c else none else none
def Kb  : Option (Arr UInt32 64) :=lt1 (⟨[(1116352408:UInt32),1899447441,3049323471,3921009573,961987163,1508970993,2453635748,2870763221,3624381080,310598401,607225278,1426881987,1925078388,2162078206,2614888103,3248222580,3835390401,4022224774,264347078,604807628,770255983,1249150122,1555081692,1996064986,2554220882,2821834349,2952996808,3210313671,3336571891,3584528711,113926993,338241895,666307205,773529912,1294757372,1396182291,1695183700,1986661051,2177026350,2456956037,2730485921,2820302411,3259730800,3345764771,3516065817,3600352804,4094571909,275423344,430227734,506948616,659060556,883997877,958139571,1322822218,1537002063,1747873779,1955562222,2024104815,2227730452,2361852424,2428436474,2756734187,3204031479,3329325298],rfl⟩:Arr UInt32 64) fun(a:Arr UInt32 64)=>some a
def L5(c:Arr UInt32 64)(d:Arr UInt32 64)(b:Int)(a:Arr UInt32 8):Option ((Int×Arr UInt32 8)⊕(Arr UInt32 8)) :=if (decide (b<64))then (CW (a.get 4) 6).bind fun e=>(CW (a.get 4) 11).bind fun f=>(CW (a.get 4) 25).bind fun g=>lt1 ((e ^^^ f) ^^^ g) fun(s1_13750:UInt32)=>lt1 (((a.get 4) &&& (a.get 5)) ^^^ ((~~~(a.get 4)) &&& (a.get 6))) fun(i:UInt32)=>if InR b 64 then if InR b 64 then lt1 (((((a.get 7)+s1_13750)+i)+(d.get b.toNat))+(c.get b.toNat)) fun(t1_13761:UInt32)=>(CW (a.get 0) 2).bind fun j=>(CW (a.get 0) 13).bind fun k=>(CW (a.get 0) 22).bind fun l=>lt1 ((j ^^^ k) ^^^ l) fun(s0_13772:UInt32)=>lt1 ((((a.get 0) &&& (a.get 1)) ^^^ ((a.get 0) &&& (a.get 2))) ^^^ ((a.get 1) &&& (a.get 2))) fun(m:UInt32)=>lt1 (s0_13772+m) fun(t2_13782:UInt32)=>lt1 (⟨[(t1_13761+t2_13782),(a.get 0),(a.get 1),(a.get 2),((a.get 3)+t1_13761),(a.get 4),(a.get 5),(a.get 6)],rfl⟩:Arr UInt32 8) fun(n:Arr UInt32 8)=>some (.inl ((w64 (b+1)),n)) else none else none else some (.inr a)
noncomputable def HV(r:(UInt8×AoJ)⊕(Int×AoJ)):Outc:=match r with
 |.inl r=>.ret (u8 r.1) [.box [.sl false (L cU8 r.2.b)] false]
 |.inr r=>.pan (.iface 170 (.int .i64 r.1)) [.box [.sl false (L cU8 r.2.b)] false]
def A7(a:AoJ):Option ((UInt8×AoJ)⊕(Int×AoJ)) :=if((a.b.length:Int)==0)then some (.inr (5,a)) else if InR 0 a.b.length then if InB 1 a.b.length then lt1 ((a.b.drop 1).take (a.b.length-1)) fun(c:List UInt8)=>some (.inl (nth a.b 0,({ b:=c }:AoJ))) else none else none
noncomputable def G6(r:(AoG×AoJ)⊕(Int×AoJ)):Outc:=match r with
 |.inl r=>.ret (.agg [i64 r.1.Za,i64 r.1.N,.sl false (L cU8 r.1.B),.sl false (L cApi_Value r.1.L)]) [.box [.sl false (L cU8 r.2.b)] false]
 |.inr r=>.pan (.iface 170 (.int .i64 r.1)) [.box [.sl false (L cU8 r.2.b)] false]
def A2(e:Int)(c:UInt8)(f:UInt64)(d:Int)(g:List UInt8):Option ((UInt64×Int×List UInt8)⊕((UInt64×List UInt8)⊕((UInt64×List UInt8)⊕((AoG×AoJ)⊕(Int×AoJ))))) :=if (decide (d<e))then (A7 ({ b:=g }:AoJ)).bind fun j=>match j with
  | .inl a=>(if(d==0)then if((a.1 ^^^ c)==(0:UInt8))then some true else if(e==8)then some (decide ((a.1 ^^^ c)>(127:UInt8))) else some false else some false:Option (Bool)).bind fun k=>if k then ((some (.inr (4,a.2))).bind fun l=>some (.inr l)).bind fun m=>some (.inr (.inr m)) else lt1 ((Fs f (8:UInt64).toNat) ||| (a.1 ^^^ c).toUInt64) fun(n:UInt64)=>some (.inl (n,(w64 (d+1)),a.2.b))
  |.inr i=>((some (.inr (i.1,i.2))).bind fun o=>some (.inr o)).bind fun p=>some (.inr (.inr p)) else some (.inr (.inl (f,g)))
def B4(d:AoJ)(e:Int)(a:UInt8):Option ((AoG×AoJ)⊕(Int×AoJ)) :=((AK (fun(v:UInt64×Int×List UInt8)=>A2 e a v.1 v.2.1 v.2.2) ((0:UInt64),0,d.b)).bind fun x=>match x with
 |.inl (f,g)=>some (.inl (f,g))
 |.inr z=>some z:Option ((UInt64×List UInt8)⊕((AoG×AoJ)⊕(Int×AoJ)))).bind fun x=>match x with
 | .inl (c,i)=>(if(a != (0:UInt8))then some (~~~c) else some c:Option (UInt64)).bind fun j=>lt1 (w64 (j.toNat:Int)) fun(k:Int)=>some (.inl ((AoG.mk 1 k ([]) ([])),({ b:=i }:AoJ)))
 |.inr z=>some z
noncomputable def HY(r:(AoG×AoJ)⊕(Int×AoJ)):Outc:=match r with
 |.inl r=>.ret (.agg [i64 r.1.Za,i64 r.1.N,.sl false (L cU8 r.1.B),.sl false (L cApi_Value r.1.L)]) [.box [.sl false (L cU8 r.2.b)] false]
 |.inr r=>.pan (.iface 170 (.int .i64 r.1)) [.box [.sl false (L cU8 r.2.b)] false]
def Aw(g:List UInt8)(a:List UInt8):Option ((List UInt8×List UInt8)⊕((AoG×AoJ)⊕(Int×AoJ))) :=(A7 ({ b:=g }:AoJ)).bind fun i=>match i with
 | .inl d=>if(d.1 != (0:UInt8))then if CM (a.length+1) 1 then lt1 (a++([d.1]:List UInt8)) fun(j:List UInt8)=>some (.inl (d.2.b,j)) else none else (A7 d.2).bind fun k=>match k with
   | .inl c=>if(c.1==(0:UInt8))then (some (.inl ((AoG.mk 2 0 a ([])),c.2))).bind fun l=>some (.inr l) else if(c.1==(255:UInt8))then if CM (a.length+1) 1 then lt1 (a++([(0:UInt8)]:List UInt8)) fun(m:List UInt8)=>some (.inl (c.2.b,m)) else none else (some (.inr (4,c.2))).bind fun n=>some (.inr n)
   |.inr e=>(some (.inr (e.1,e.2))).bind fun o=>some (.inr o)
 |.inr f=>(some (.inr (f.1,f.2))).bind fun p=>some (.inr p)
def CY(a:AoJ):Option ((AoG×AoJ)⊕(Int×AoJ)) :=(AK (fun(v:List UInt8×List UInt8)=>Aw v.1 v.2) (a.b,[])).bind fun z=>some z
noncomputable def BX(r:(AoG×AoJ)⊕(Int×AoJ)):Outc:=match r with
 |.inl r=>.ret (.agg [i64 r.1.Za,i64 r.1.N,.sl false (L cU8 r.1.B),.sl false (L cApi_Value r.1.L)]) [.box [.sl false (L cU8 r.2.b)] false]
 |.inr r=>.pan (.iface 170 (.int .i64 r.1)) [.box [.sl false (L cU8 r.2.b)] false]
def AO(rec_:AoJ→UInt8→Option ((AoG×AoJ)⊕(Int×AoJ)))(c:UInt8)(d:List UInt8)(a:List AoG):Option ((UInt8×List UInt8×List AoG)⊕((List UInt8×List AoG)⊕((List UInt8×List AoG)⊕((Unit)⊕((AoG×AoJ)⊕(Int×AoJ)))))) :=if (c != (0:UInt8))then (rec_ ({ b:=d }:AoJ) c).bind fun j=>match j with
  | .inl e=>if CM (a.length+1) 64 then lt1 (a++([e.1]:List AoG)) fun(k:List AoG)=>(A7 e.2).bind fun l=>match l with
    |.inl f=>some (.inl (f.1,f.2.b,k))
    |.inr g=>(((some (.inr (g.1,g.2))).bind fun m=>some (.inr m)).bind fun n=>some (.inr n)).bind fun o=>some (.inr (.inr o)) else none
  |.inr i=>(((some (.inr (i.1,i.2))).bind fun p=>some (.inr p)).bind fun q=>some (.inr q)).bind fun s=>some (.inr (.inr s)) else some (.inr (.inl (d,a)))
def AG(rec_:AoJ→UInt8→Option ((AoG×AoJ)⊕(Int×AoJ)))(c:AoJ)(a:UInt8):Option ((AoG×AoJ)⊕(Int×AoJ)) :=((if(decide (a≥(32:UInt8)))then some (decide (a≤(40:UInt8))) else some false:Option (Bool)).bind fun m=>if m then (B4 c ((a-(32:UInt8)).toNat:Int) (0:UInt8)).bind fun n=>match n with
  |.inl d=>(some (.inl (d.1,d.2))).bind fun o=>some (.inr o)
  |.inr e=>(some (.inr (e.1,e.2))).bind fun p=>some (.inr p) else (if(decide (a<(32:UInt8)))then some (decide (a≥(23:UInt8))) else some false:Option (Bool)).bind fun q=>if q then (B4 c (((31:UInt8)-a).toNat:Int) (255:UInt8)).bind fun s=>match s with
   |.inl f=>(some (.inl (f.1,f.2))).bind fun t=>some (.inr t)
   |.inr g=>(some (.inr (g.1,g.2))).bind fun u=>some (.inr u) else if(a==(48:UInt8))then (CY c).bind fun w=>match w with
    |.inl i=>(some (.inl (i.1,i.2))).bind fun y=>some (.inr y)
    |.inr j=>(some (.inr (j.1,j.2))).bind fun aa=>some (.inr aa) else if (a==(64:UInt8))then ((A7 c).bind fun ab=>match ab with
     | .inl k=>(AK (fun(v:UInt8×List UInt8×List AoG)=>AO rec_ v.1 v.2.1 v.2.2) (k.1,k.2.b,[])).bind fun x=>match x with
      |.inl (ac,ad)=>some (.inl (ac,ad))
      |.inr z=>some z
     |.inr l=>((some (.inr (l.1,l.2))).bind fun ae=>some (.inr ae)).bind fun af=>some (.inr af):Option ((List UInt8×List AoG)⊕((Unit)⊕((AoG×AoJ)⊕(Int×AoJ))))).bind fun x=>match x with
     |.inl (ag,ah)=>(some (.inl ((AoG.mk 3 0 ([]) ah),({ b:=ag }:AoJ)))).bind fun ai=>some (.inr ai)
     |.inr z=>some z else some (.inl ()):Option ((Unit)⊕((AoG×AoJ)⊕(Int×AoJ)))).bind fun x=>match x with
 |.inl ()=>some (.inr (4,c))
 |.inr z=>some z
def A1(n:Nat):AoJ→UInt8→Option ((AoG×AoJ)⊕(Int×AoJ)):=match n with
 |0=>fun _ _=>none
 |n+1=>AG (A1 n)
def CH(a:AoJ)(b:UInt8):Option ((AoG×AoJ)⊕(Int×AoJ)):=A1 18446744073709551616 a b
def BQ(c:List UInt8):Option (AoG×Int) :=if(decide ((c.length:Int)>65536))then some ((AoG.mk 0 0 ([]) ([])),2) else (A7 ({ b:=c }:AoJ)).bind fun e=>match e with
  | .inl d=>(CH d.2 d.1).bind fun f=>match f with
   | .inl a=>if(decide ((a.2.b.length:Int)>0))then some ((AoG.mk 0 0 ([]) ([])),4) else (EG a.1).bind fun g=>if(decide (g.1>16))then some ((AoG.mk 0 0 ([]) ([])),2) else some (a.1,0)
   |.inr i=>some ((AoG.mk 0 0 ([]) ([])),i.1)
  |.inr j=>some ((AoG.mk 0 0 ([]) ([])),j.1)
def FR(b:AoG)(c:AoG)(rec_:AoG→AoG→Option (Bool))(a:Int):Option ((Int)⊕((Unit)⊕((Unit)⊕(Bool)))) :=if (decide (a<(b.L.length:Int)))then if InR a b.L.length then if InR a c.L.length then (rec_ (nth b.L a.toNat) (nth c.L a.toNat)).bind fun d=>if(!d)then ((some false).bind fun e=>some (.inr e)).bind fun f=>some (.inr (.inr f)) else some (.inl (w64 (a+1))) else none else none else some (.inr (.inl ()))
def GV(rec_:AoG→AoG→Option (Bool))(a:AoG)(b:AoG):Option (Bool) :=(if(a.Za != b.Za)then some true else (F2 a b).bind fun c=>if(c != 0)then some true else if(a.N != b.N)then some true else if((a.B.length:Int) != (b.B.length:Int))then some true else some ((a.L.length:Int) != (b.L.length:Int)):Option (Bool)).bind fun d=>if d then some false else ((AK (fun(v:Int)=>FR a b rec_ v) 0).bind fun x=>match x with
  |.inl ()=>some (.inl ())
  |.inr z=>some z:Option ((Unit)⊕(Bool))).bind fun x=>match x with
  |.inl ()=>some true
  |.inr z=>some z
def FA(n:Nat):AoG→AoG→Option (Bool):=match n with
 |0=>fun _ _=>none
 |n+1=>GV (FA n)
def Mm(a:AoG)(b:AoG):Option (Bool):=FA 18446744073709551616 a b
def Cp(c:AoG)(a:Int)(d:List AoA):Option ((Int×List AoA)⊕((List AoA)⊕((List AoA)⊕(AoB×Int)))) :=if (decide (a<(((nth c.L 14).L).length:Int)))then if InR a (((nth c.L 14).L).length)then lt1 ((nth ((nth c.L 14).L) a.toNat).Za) fun(i:Int)=>lt1 ((nth ((nth c.L 14).L) a.toNat).N) fun(j:Int)=>lt1 ((nth ((nth c.L 14).L) a.toNat).B) fun(k:List UInt8)=>lt1 ((nth ((nth c.L 14).L) a.toNat).L) fun(b:List AoG)=>if((b.length:Int) != 3)then ((some (({ Za:=0,Ref:=({ Zb:=0,No:=0 }:Aoz),Zn1:=0,Zb1:=0,Zc:=0,Zo1:=0,Zw:=0,To:=0,Code:=0,Zp1:=0,Zq1:=0,Zr1:=0,Zs1:=0,Zt1:=([]:List UInt8),Zu1:=[] }:AoB),10)).bind fun e=>some (.inr e)).bind fun f=>some (.inr (.inr f)) else if InR 0 b.length then if InR 1 b.length then if InR 2 b.length then if CM (d.length+1) 24 then lt1 (d++([({ Za:=(nth b 0).N,Zl1:=(nth b 1).N,Zm1:=((nth b 2).N==1) }:AoA)]:List AoA)) fun(g:List AoA)=>some (.inl ((w64 (a+1)),g)) else none else none else none else none else none else some (.inr (.inl d))
def BW(a : AoG):Option (AoB×Int) :=(if((a.L.length:Int) != 15)then some true else if InR 1 a.L.length then some ((((nth a.L 1).L).length:Int) != 2) else none:Option (Bool)).bind fun e=>if e then some (({ Za:=0,Ref:=({ Zb:=0,No:=0 }:Aoz),Zn1:=0,Zb1:=0,Zc:=0,Zo1:=0,Zw:=0,To:=0,Code:=0,Zp1:=0,Zq1:=0,Zr1:=0,Zs1:=0,Zt1:=([]:List UInt8),Zu1:=[] }:AoB),10) else if InR 0 a.L.length then if InR 1 a.L.length then if InR 0 (((nth a.L 1).L).length)then if InR 1 a.L.length then if InR 1 (((nth a.L 1).L).length)then lt1 ((nth ((nth a.L 1).L) 0).N) fun(b:Int)=>lt1 ((nth ((nth a.L 1).L) 1).N) fun(c:Int)=>(if InR 2 a.L.length then if InR 3 a.L.length then if InR 4 a.L.length then if InR 5 a.L.length then if InR 6 a.L.length then if InR 7 a.L.length then if InR 8 a.L.length then if InR 9 a.L.length then if InR 10 a.L.length then if InR 11 a.L.length then if InR 12 a.L.length then some () else none else none else none else none else none else none else none else none else none else none else none:Option (Unit)).bind fun()=>if InR 13 a.L.length then (if InR 14 a.L.length then (AK (fun(v:Int×List AoA)=>Cp a v.1 v.2) (0,[])).bind fun x=>match x with
         |.inl f=>some (.inl f)
         |.inr z=>some z else none:Option ((List AoA)⊕(AoB×Int))).bind fun x=>match x with
        | .inl d=>(Ez ({ Za:=(nth a.L 0).N,Ref:=({ Zb:=b,No:=c }:Aoz),Zn1:=(nth a.L 2).N,Zb1:=(nth a.L 3).N,Zc:=(nth a.L 4).N,Zo1:=(nth a.L 5).N,Zw:=(nth a.L 6).N,To:=(nth a.L 7).N,Code:=(nth a.L 8).N,Zp1:=(nth a.L 9).N,Zq1:=(nth a.L 10).N,Zr1:=(nth a.L 11).N,Zs1:=(nth a.L 12).N,Zt1:=(nth a.L 13).B,Zu1:=d }:AoB)).bind fun g=>(Mm g a).bind fun i=>if(!i)then some (({ Za:=0,Ref:=({ Zb:=0,No:=0 }:Aoz),Zn1:=0,Zb1:=0,Zc:=0,Zo1:=0,Zw:=0,To:=0,Code:=0,Zp1:=0,Zq1:=0,Zr1:=0,Zs1:=0,Zt1:=([]:List UInt8),Zu1:=[] }:AoB),10) else some (({ Za:=(nth a.L 0).N,Ref:=({ Zb:=b,No:=c }:Aoz),Zn1:=(nth a.L 2).N,Zb1:=(nth a.L 3).N,Zc:=(nth a.L 4).N,Zo1:=(nth a.L 5).N,Zw:=(nth a.L 6).N,To:=(nth a.L 7).N,Code:=(nth a.L 8).N,Zp1:=(nth a.L 9).N,Zq1:=(nth a.L 10).N,Zr1:=(nth a.L 11).N,Zs1:=(nth a.L 12).N,Zt1:=(nth a.L 13).B,Zu1:=d }:AoB),0)
        |.inr z=>some z else none else none else none else none else none else none
def CU(b:AoG)(c:UInt64)(a:Int):Option ((UInt64×Int)⊕(UInt64)) :=if(decide (a<(b.B.length:Int)))then if InR a b.B.length then lt1 (nth b.B a.toNat) fun(d:UInt8)=>lt1 ((Fs c (8:UInt64).toNat) ||| d.toUInt64) fun(e:UInt64)=>some (.inl (e,(w64 (a+1)))) else none else some (.inr c)
def DX(a:AoG):Option (UInt64×Bool) :=((AK (fun(v:UInt64×Int)=>CU a v.1 v.2) ((0:UInt64),0)).bind fun b=>some b:Option (UInt64)).bind fun c=>(if(a.Za==2)then some ((a.B.length:Int)==8) else some false:Option (Bool)).bind fun d=>some (c,d)
def Ch(e : List UInt8):Option (AoD×Int) :=(BQ e).bind fun a=>if(a.2 != 0)then some (({ Zb:=0,No:=0,Zv1:=(Arr.rep 32 (0:UInt8)),Zw1:=0,Zx1:=({ Za:=0,Ref:=({ Zb:=0,No:=0 }:Aoz),Zn1:=0,Zb1:=0,Zc:=0,Zo1:=0,Zw:=0,To:=0,Code:=0,Zp1:=0,Zq1:=0,Zr1:=0,Zs1:=0,Zt1:=([]:List UInt8),Zu1:=[] }:AoB),Sig:=({ C:=(0:UInt64),S:=(0:UInt64) }:AoC) }:AoD),a.2) else (if((a.1.L.length:Int) != 6)then some true else if InR 0 a.1.L.length then if((nth a.1.L 0).Za != 1)then some true else if InR 1 a.1.L.length then if((nth a.1.L 1).Za != 1)then some true else if InR 2 a.1.L.length then if((nth a.1.L 2).Za != 2)then some true else if InR 2 a.1.L.length then if((((nth a.1.L 2).B).length:Int) != 32)then some true else if InR 3 a.1.L.length then if((nth a.1.L 3).Za != 1)then some true else if InR 5 a.1.L.length then some ((((nth a.1.L 5).L).length:Int) != 2) else none else none else none else none else none else none:Option (Bool)).bind fun f=>if f then some (({ Zb:=0,No:=0,Zv1:=(Arr.rep 32 (0:UInt8)),Zw1:=0,Zx1:=({ Za:=0,Ref:=({ Zb:=0,No:=0 }:Aoz),Zn1:=0,Zb1:=0,Zc:=0,Zo1:=0,Zw:=0,To:=0,Code:=0,Zp1:=0,Zq1:=0,Zr1:=0,Zs1:=0,Zt1:=([]:List UInt8),Zu1:=[] }:AoB),Sig:=({ C:=(0:UInt64),S:=(0:UInt64) }:AoC) }:AoD),10) else if InR 4 a.1.L.length then (BW (nth a.1.L 4)).bind fun b=>if InR 5 a.1.L.length then if InR 0 (((nth a.1.L 5).L).length)then (DX (nth ((nth a.1.L 5).L) 0)).bind fun c=>if InR 5 a.1.L.length then if InR 1 (((nth a.1.L 5).L).length)then (DX (nth ((nth a.1.L 5).L) 1)).bind fun d=>(if(b.2 != 0)then some true else if(!c.2)then some true else some (!d.2):Option (Bool)).bind fun g=>if g then some (({ Zb:=0,No:=0,Zv1:=(Arr.rep 32 (0:UInt8)),Zw1:=0,Zx1:=({ Za:=0,Ref:=({ Zb:=0,No:=0 }:Aoz),Zn1:=0,Zb1:=0,Zc:=0,Zo1:=0,Zw:=0,To:=0,Code:=0,Zp1:=0,Zq1:=0,Zr1:=0,Zs1:=0,Zt1:=([]:List UInt8),Zu1:=[] }:AoB),Sig:=({ C:=(0:UInt64),S:=(0:UInt64) }:AoC) }:AoD),10) else if InR 0 a.1.L.length then if InR 1 a.1.L.length then if InR 2 a.1.L.length then if InB 32 ((nth a.1.L 2).B).length then if InR 3 a.1.L.length then lt1 (S8 32 (0:UInt8) ((nth a.1.L 2).B)) fun(i:Arr UInt8 32)=>some (({ Zb:=(nth a.1.L 0).N,No:=(nth a.1.L 1).N,Zv1:=i,Zw1:=(nth a.1.L 3).N,Zx1:=b.1,Sig:=({ C:=c.1,S:=d.1 }:AoC) }:AoD),0) else none else none else none else none else none else none else none else none else none else none
def Ce(a:AoD)(b:AoD)(c:List UInt8):Option (Bool) :=law14_sane.bind fun k=>if(!k)then some false else ((EC a.Zx1).bind fun l=>if(!l)then some true else (EC b.Zx1).bind fun m=>if(!m)then some true else some (decide ((c.length:Int)>2000)):Option (Bool)).bind fun n=>if n then some true else (CG a).bind fun e=>(Ch e.1).bind fun f=>(if(e.2 != 0)then some true else if(f.2 != 0)then some true else (Bj f.1 a).bind fun o=>some (!o):Option (Bool)).bind fun p=>if p then some false else (Fi a).bind fun g=>(Fi b).bind fun i=>(if(g.2 != 0)then some true else if(i.2 != 0)then some true else if(g.1==i.1)then (Bj a b).bind fun q=>some (!(((a.Sig.C==b.Sig.C)&&(a.Sig.S==b.Sig.S))==q)) else (Bj a b).bind fun s=>some (!(false==s)):Option (Bool)).bind fun t=>if t then some false else (Ch c).bind fun d=>if(d.2 != 0)then (Bj d.1 ({ Zb:=0,No:=0,Zv1:=(Arr.rep 32 (0:UInt8)),Zw1:=0,Zx1:=({ Za:=0,Ref:=({ Zb:=0,No:=0 }:Aoz),Zn1:=0,Zb1:=0,Zc:=0,Zo1:=0,Zw:=0,To:=0,Code:=0,Zp1:=0,Zq1:=0,Zr1:=0,Zs1:=0,Zt1:=([]:List UInt8),Zu1:=[] }:AoB),Sig:=({ C:=(0:UInt64),S:=(0:UInt64) }:AoC) }:AoD)).bind fun u=>some u else (CG d.1).bind fun j=>(if(j.2==0)then some (j.1==c) else some false:Option (Bool)).bind fun v=>some v
set_option maxRecDepth 4000
variable{α X:Type}
theorem CE{β:Type}(x:α)(f:α→Option β):lt1 x f=f x:=Arq (eq_self (f x))
theorem Hm{k:Nat}(h:k<9223372036854775807):w64 ((k:Int)+1)=((k+1:Nat):Int):=by rw[Ef (by omega)];rfl
theorem YN(b c:Bool):(if b then some true else some c)=some (b||c):=by cases b<;>rfl
theorem AmF(b c:Bool):(if b then some c else some false)=some (b&&c):=by cases b<;>rfl
theorem EW{β:Type}(x:α)(f:α→Option β):(some x).bind f=f x:=Arq (eq_self (f x))
theorem HD[Inhabited α](l:List α)(f:Int→Option (Int⊕X))(p:α→Bool)(good bad:X)(hl:l.length<1152921504606846976) (hs:∀k:Nat,k<l.length→f (k:Int)=some (if p (nth l k)=true then .inl ((k+1:Nat):Int)else .inr bad)) (he:f (l.length:Int)=some (.inr good)) :AK (fun v=>f v) 0=some (if l.all p=true then good else bad):=by
 obtain⟨x,hx,hq⟩:∃x,AK (fun v=>f v) 0=some x∧x=(if l.all p=true then good else bad):=by
  refine Cr (fun v=>∃k:Nat,v=(k:Int)∧k≤l.length∧(l.take k).all p=true) (fun v=>(l.length-v).toNat) _ ?_ ⟨0,rfl,Apx _,rfl⟩ (by simp;omega);rintro v ⟨k,rfl,hk,ht⟩;by_cases h1:k<l.length
  ·have hn:nth l k=l[k]:=by simp[nth,h1]
   rw[hs k h1];by_cases hp:p (nth l k)=true
   ·left;refine⟨_,by rw[AoO hp],⟨k+1,rfl,by omega,?_⟩,by omega⟩;rw[Ard h1,List.all_append,ht,←hn];simp[hp]
   ·right;refine⟨_,by rw[AoQ hp],?_⟩;rw[AoQ];intro ha;rw[AoZ]at ha;exact hp (by rw[hn];exact ha _ (ApO h1))
  ·right;have:k=l.length:=by omega
   subst this;rw[AqC]at ht;exact⟨_,he,by rw[AoO ht]⟩
 rw[hx,hq]
theorem JZ{V S:Type}[Inhabited α](l:List α)(f:V→Option (V⊕X))(st:Int→S→V)(g:S→α→S)(out:S→X)(s0:S)(hl:l.length<1152921504606846976) (hs:∀(k:Nat) (s:S),k<l.length→f (st (k:Int) s)=some (.inl (st ((k+1:Nat):Int) (g s (nth l k))))) (he:∀s,f (st (l.length:Int) s)=some (.inr (out s))) :AK f (st 0 s0)=some (out (l.foldl g s0)):=by
 obtain⟨x,hx,hq⟩:∃x,AK f (st 0 s0)=some x∧x=out (l.foldl g s0):=by
  refine FZ l.length (fun k v=>v=st (k:Int) ((l.take k).foldl g s0)) _ (by omega) ?_ ?_ rfl
  ·rintro k v hk rfl;refine⟨_,hs k _ hk,?_⟩;rw[Ard hk,ArL];simp[nth,hk]
  ·rintro v rfl;exact⟨_,he _,by rw[AqC]⟩
 rw[hx,hq]
theorem Ac8{V S:Type}(n:Nat)(f:V→Option (V⊕X))(st:Int→S→V)(F:Nat→S)(out:S→X)(hn:n<1152921504606846976) (hs:∀k:Nat,k<n→f (st (k:Int) (F k))=some (.inl (st ((k+1:Nat):Int) (F (k+1))))) (he:f (st (n:Int) (F n))=some (.inr (out (F n)))) :AK f (st 0 (F 0))=some (out (F n)):=by
 obtain⟨x,hx,hq⟩:∃x,AK f (st 0 (F 0))=some x∧x=out (F n):=by
  refine FZ n (fun k v=>v=st (k:Int) (F k)) _ (by omega) ?_ ?_ rfl
  ·rintro k v hk rfl;exact⟨_,hs k hk,rfl⟩
  ·rintro v rfl;exact⟨_,he,rfl⟩
 rw[hx,hq]
theorem Abh[Inhabited α][DecidableEq α](a b:List α)(f:Int→Option (Int⊕(Unit⊕(Unit⊕Bool))))(hl:a.length=b.length)(hb:a.length<1152921504606846976) (hs:∀k:Nat,k<a.length→f (k:Int)=some (if nth a k=nth b k then .inl ((k+1:Nat):Int)else .inr (.inr (.inr false)))) (he:f (a.length:Int)=some (.inr (.inl ()))) :AK (fun v=>f v) 0=some (if a=b then .inl ()else .inr (.inr false)):=by
 obtain⟨x,hx,hq⟩:∃x,AK (fun v=>f v) 0=some x∧x=(if a=b then .inl ()else .inr (.inr false)):=by
  refine Cr (fun v=>∃k:Nat,v=(k:Int)∧k≤a.length∧a.take k=b.take k) (fun v=>(a.length-v).toNat) _ ?_ ⟨0,rfl,Apx _,rfl⟩ (by simp;omega);rintro v ⟨k,rfl,hk,ht⟩;by_cases h1:k<a.length
  ·have h2:k<b.length:=by omega
   rw[hs k h1];have ea:a.take (k+1)=a.take k++[nth a k]:=by rw[Aqx,AoN h1];simp[nth,AoN h1]
   have eb:b.take (k+1)=b.take k++[nth b k]:=by rw[Aqx,AoN h2];simp[nth,AoN h2]
   by_cases hk':nth a k=nth b k
   ·left;exact⟨_,by rw[AoO hk'],⟨k+1,rfl,by omega,by rw[ea,eb,ht,hk']⟩,by omega⟩
   ·right;refine⟨_,by rw[AoQ hk'],?_⟩;rw[AoQ (fun h=>hk' (by rw[h]))]
  ·right;have:k=a.length:=by omega
   subst this;refine⟨_,he,?_⟩;rw[AqC,Aps (by omega)]at ht;rw[AoO ht]
 rw[hx,hq]
theorem Aek(x y:AoA):(!((x.Za==y.Za)&&((x.Zl1==y.Zl1)&&(x.Zm1==y.Zm1))))=decide (x≠y):=by
 by_cases h:x=y
 ·subst h;simp
 ·rw[Apo h];rcases x with⟨a,b,c⟩
  rcases y with⟨d,e,f⟩
  simp only[AoA.mk.injEq,not_and]at h;simp only[AqJ,Ap7,Aql,ne_eq];by_cases h1:a=d
  ·by_cases h2:b=e
   ·exact .inr (.inr (by simpa using h h1 h2))
   ·exact .inr (.inl h2)
  ·exact .inl h1
theorem XS{a b:List AoA}(ha:a.length≤1000000):E2 a b=some (decide (a=b)):=by
 unfold E2;by_cases hl:a.length=b.length
 ·rw[AoQ (by simp[hl]),Abh a b (fun v=>Cq a b v) hl (by omega) ?_ ?_]
  ·by_cases h:a=b<;>simp[h]
  ·intro k hk;unfold Cq;rw[AoO (Apo (by omega)),AoO (DM hk),AoO (DM (by omega))];simp only[CE,Apa,Aek];by_cases he:nth a k=nth b k
   ·rw[AoQ (by simp[he]),AoO he,Hm (by omega)]
   ·rw[AoO (by simp[he]),AoQ he];rfl
  ·unfold Cq;rw[AoQ (by simp)]
 ·rw[AoO (by simp;omega),ApE (fun h=>hl (by rw[h]))]
def MN(it:AoB):List Int:=[it.Zn1,it.Zb1,it.Zc,it.Zo1,it.Zw,it.To,it.Code,it.Zp1,it.Zq1,it.Zr1,it.Zs1]
theorem Vy(it:AoB):∀{k:Nat},k<11→Iy it (nth [119,112,111,110,102,116,99,100,107,103,97] k)=some (nth (MN it) k)
 |0,_=>rfl
 |1,_=>rfl
 |2,_=>rfl
 |3,_=>rfl
 |4,_=>rfl
 |5,_=>rfl
 |6,_=>rfl
 |7,_=>rfl
 |8,_=>rfl
 |9,_=>rfl
 |10,_=>rfl
 |k+11,h=>by omega
theorem Adq{a b:AoB}(h:MN a=MN b)(hk:a.Za=b.Za)(hr1:a.Ref.Zb=b.Ref.Zb)(hr2:a.Ref.No=b.Ref.No)(ht:a.Zt1=b.Zt1)(hp:a.Zu1=b.Zu1):a=b:=by
 rcases a with⟨k,⟨r,n⟩,a1,a2,a3,a4,a5,a6,a7,a8,a9,a10,a11,t,p⟩
 rcases b with⟨k',⟨r',n'⟩,b1,b2,b3,b4,b5,b6,b7,b8,b9,b10,b11,t',p'⟩
 simp only[MN,Arx,Ara]at h;obtain⟨rfl,rfl,rfl,rfl,rfl,rfl,rfl,rfl,rfl,rfl,rfl⟩:=h;simp only at hk hr1 hr2 ht hp;subst hk hr1 hr2 ht hp;rfl
theorem Aa7{a b:AoB}(ha:a.Zu1.length≤1000000):JY a b=some (decide (a=b)):=by
 unfold JY;have l11:∀it:AoB,(MN it).length=11:=fun _=>rfl
 rw[Abh (MN a) (MN b) (fun v=>ED a b v) rfl (by rw[l11];omega) ?_ ?_]
 ·by_cases hn:MN a=MN b
  ·simp only[AoO hn,AoP];by_cases h1:a.Za=b.Za
   ·by_cases h2:a.Ref.Zb=b.Ref.Zb
    ·by_cases h3:a.Ref.No=b.Ref.No
     ·by_cases h4:a.Zt1=b.Zt1
      ·rw[AoO (by simpa using h1),AoO (by simp[h2,h3]),AoO (by simpa using h4),XS ha];by_cases h5:a.Zu1=b.Zu1
       ·rw[Apo h5,Apo (Adq hn h1 h2 h3 h4 h5)];rfl
       ·rw[ApE h5,ApE (fun h=>h5 (by rw[h]))];rfl
      ·rw[AoO (by simpa using h1),AoO (by simp[h2,h3]),AoQ (by simpa using h4),ApE (fun h=>h4 (by rw[h]))];rfl
     ·rw[AoO (by simpa using h1),AoQ (by simp[h3]),ApE (fun h=>h3 (by rw[h]))];rfl
    ·rw[AoO (by simpa using h1),AoQ (by simp[h2]),ApE (fun h=>h2 (by rw[h]))];rfl
   ·rw[AoQ (by simpa using h1),ApE (fun h=>h1 (by rw[h]))];rfl
  ·rw[ApE (fun h=>hn (by rw[h])),AoQ hn];rfl
 ·intro k hk;rw[l11]at hk;unfold ED;have hin:InR (k:Int) ([119,112,111,110,102,116,99,100,107,103,97]:List UInt8).length:=⟨by omega,by simpa using hk⟩;rw[AoO (Apo (by omega)),AoO hin];simp only[Apa];rw[Vy a hk,AoP,AoO hin,Vy b hk,AoP];by_cases he:nth (MN a) k=nth (MN b) k
  ·rw[AoQ (by simp[he]),AoO he,Hm (by omega)]
  ·rw[AoO (by simpa using he),AoQ he];rfl
 ·unfold ED;rw[l11,AoQ (by simp)]
theorem Afe{a b:AoD}(h1:a.Zb=b.Zb)(h2:a.No=b.No)(h3:a.Zv1=b.Zv1)(h4:a.Zw1=b.Zw1)(h5:a.Sig.C=b.Sig.C)(h6:a.Sig.S=b.Sig.S)(h7:a.Zx1=b.Zx1):a=b:=by
 rcases a with⟨a1,a2,a3,a4,a5,c,s⟩
 rcases b with⟨b1,b2,b3,b4,b5,c',s'⟩
 simp only at h1 h2 h3 h4 h5 h6 h7;subst h1 h2 h3 h4 h5 h6 h7;rfl
theorem Rk{a b:AoD}(ha:a.Zx1.Zu1.length≤1000000):Bj a b=some (decide (a=b)):=by
 unfold Bj;by_cases h1:a.Zb=b.Zb
 case neg=>rw[AoQ (by simpa using h1),ApE (fun h=>h1 (by rw[h]))];rfl
 by_cases h2:a.No=b.No
 case neg=>rw[AoO (by simpa using h1),AoQ (by simpa using h2),ApE (fun h=>h2 (by rw[h]))];rfl
 by_cases h3:a.Zv1=b.Zv1
 case neg=>rw[AoO (by simpa using h1),AoO (by simpa using h2),AoQ (by simpa using h3),ApE (fun h=>h3 (by rw[h]))];rfl
 by_cases h4:a.Zw1=b.Zw1
 case neg=>rw[AoO (by simpa using h1),AoO (by simpa using h2),AoO (by simpa using h3),AoQ (by simpa using h4),ApE (fun h=>h4 (by rw[h]))];rfl
 by_cases h5:a.Sig.C=b.Sig.C
 case neg=>rw[AoO (by simpa using h1),AoO (by simpa using h2),AoO (by simpa using h3),AoO (by simpa using h4),AoQ (by simp[h5]),ApE (fun h=>h5 (by rw[h]))];rfl
 by_cases h6:a.Sig.S=b.Sig.S
 case neg=>rw[AoO (by simpa using h1),AoO (by simpa using h2),AoO (by simpa using h3),AoO (by simpa using h4),AoQ (by simp[h6]),ApE (fun h=>h6 (by rw[h]))];rfl
 rw[AoO (by simpa using h1),AoO (by simpa using h2),AoO (by simpa using h3),AoO (by simpa using h4),AoO (by simp[h5,h6]),Aa7 ha];by_cases h7:a.Zx1=b.Zx1
 ·rw[Apo h7,Apo (Afe h1 h2 h3 h4 h5 h6 h7)];rfl
 ·rw[ApE h7,ApE (fun h=>h7 (by rw[h]))];rfl
theorem Jz[Inhabited α]{l:List α}{k:Nat}(h:k<l.length):nth l k∈l:=by
 simp[nth,AoN h]
def Qh(it:AoB):Bool:=decide (it.Zt1.length≤1000)&&decide (it.Zu1.length≤20)
theorem VB(it:AoB):EC it=some (Qh it):=by
 unfold EC Qh;have e1:decide ((it.Zt1.length:Int)≤1000)=decide (it.Zt1.length≤1000):=by simp;omega
 have e2:decide ((it.Zu1.length:Int)≤20)=decide (it.Zu1.length≤20):=by simp;omega
 rw[e1,e2];by_cases h:it.Zt1.length≤1000<;>simp[h]
structure Small(it:AoB):Prop where
  text:it.Zt1.length≤1000
  parts:it.Zu1.length≤20
theorem V1{it:AoB}(h:Qh it=true):Small it:=by
 simp only[Qh,Apb,Apj]at h;exact⟨h.1,h.2⟩
structure Short(b:AoF):Prop where
  logs:b.Zy1.length≤4
  forks:b.Zz1.length≤6
  row:∀l∈b.Zy1,l.length≤12
  item:∀l∈b.Zy1,∀r∈l,Small r.Zx1
  fork:∀f∈b.Zz1,Small f.A.Zx1∧Small f.B.Zx1
def I64(x:Int):Prop:=-9223372036854775808≤x∧x≤9223372036854775807
end Go.Proofs.YtioapcamanmoiaaGreatDoor
