/-
  Part 43.
-/
import Derived.Test.YtioapcamanmoiaaGreatDoorProg
import Derived.Test.YtioapcamanmoiaaGreatDoorYA39
import Derived.Test.YtioapcamanmoiaaGreatDoorYA42
import Derived.KernelRfl
namespace Go.Proofs.YtioapcamanmoiaaGreatDoor
open Go.Rv
set_option maxRecDepth 20000
def glob3:Arr UInt32 64:=⟨[1116352408,1899447441,3049323471,3921009573,961987163,1508970993,2453635748,2870763221,3624381080,310598401,607225278,1426881987,1925078388,2162078206,2614888103,3248222580,3835390401,4022224774,264347078,604807628,770255983,1249150122,1555081692,1996064986,2554220882,2821834349,2952996808,3210313671,3336571891,3584528711,113926993,338241895,666307205,773529912,1294757372,1396182291,1695183700,1986661051,2177026350,2456956037,2730485921,2820302411,3259730800,3345764771,3516065817,3600352804,4094571909,275423344,430227734,506948616,659060556,883997877,958139571,1322822218,1537002063,1747873779,1955562222,2024104815,2227730452,2361852424,2428436474,2756734187,3204031479,3329325298],rfl⟩
theorem Aqr:MpLaw Tryz.prog 138 44 143:=Aes (m:=6) (by kernel_rfl) (by decide) (by kernel_rfl) (by kernel_rfl) (by kernel_rfl) (fun a b h=>Ajo (m:=254) ⟨"Railway", 3,0,false,"","", 0⟩ ⟨"No", 3,1,false,"","", 8⟩ (by kernel_rfl) (by kernel_rfl) (by kernel_rfl) (by kernel_rfl) (by kernel_rfl) (by kernel_rfl) (by kernel_rfl) rfl rfl (by decide) (by decide) (by kernel_rfl) h)
attribute [go_sem_proc] reduceIte Nat.reduceLT Nat.reduceEqDiff Nat.reduceAdd Nat.reduceBEq Nat.reduceMul Nat.reduceSub Nat.reduceGT Nat.reducePow Nat.reduceLeDiff Int.reduceToNat Int.reduceLT Int.reduceAdd Int.reduceSub Nat.reduceGT Nat.reduceLeDiff Int.reduceBEq Int.reduceGT Int.reduceLE Int.reduceGE
attribute [go_sem] ArS decide_true decide_false Bool.false_eq_true beq_self_eq_true
noncomputable def B:Base:=Adg Tryz.prog (fun i=>if i=3 then some (C1 u32 glob3.l)else none) (fun f _=>[29,30,31,32,46,48,62,66,79,82,90,91,92,107,117,123,126,127,129,130,131,142,149,150,151,152,153,154,155].contains f) (fun _=>none) (fun _=>none) none true (fun _ _=>rfl) (some (138,44,143)) (AiQ Aqr)
theorem tbk{t F x}(h:B9 Tryz.prog t=x):(B.env F).tab t=x:=(A8 Tryz.prog t).trans h
theorem ok:B.Ok:=Aan _ _ _ _ _ _ _ _ _ _
theorem lm0(F:Out):(B.env F).lm=true:=rfl
variable(F:Out)(xs:List Operand)
theorem own3:(B.env F).own 3 xs=false:=rfl
theorem own4:(B.env F).own 4 xs=false:=rfl
theorem own5:(B.env F).own 5 xs=false:=rfl
theorem own6:(B.env F).own 6 xs=false:=rfl
theorem own7:(B.env F).own 7 xs=false:=rfl
theorem own8:(B.env F).own 8 xs=false:=rfl
theorem own9:(B.env F).own 9 xs=false:=rfl
theorem Aqd:(B.env F).own 10 xs=false:=rfl
theorem Aqe:(B.env F).own 11 xs=false:=rfl
theorem Ast:(B.env F).own 12 xs=false:=rfl
theorem ApZ:(B.env F).own 13 xs=false:=rfl
theorem Arq:(B.env F).own 14 xs=false:=rfl
theorem Apg:(B.env F).own 15 xs=false:=rfl
theorem Arv:(B.env F).own 16 xs=false:=rfl
theorem Ap6:(B.env F).own 17 xs=false:=rfl
theorem ArV:(B.env F).own 18 xs=false:=rfl
theorem Aqb:(B.env F).own 19 xs=false:=rfl
theorem Apb:(B.env F).own 20 xs=false:=rfl
theorem Asl:(B.env F).own 21 xs=false:=rfl
theorem Ar9:(B.env F).own 22 xs=false:=rfl
theorem Aq6:(B.env F).own 23 xs=false:=rfl
theorem Ary:(B.env F).own 24 xs=false:=rfl
theorem Apz:(B.env F).own 25 xs=false:=rfl
theorem Apm:(B.env F).own 26 xs=false:=rfl
theorem AqX:(B.env F).own 27 xs=false:=rfl
theorem ArL:(B.env F).own 28 xs=false:=rfl
theorem Aqn:(B.env F).own 29 xs=true:=rfl
theorem ApQ:(B.env F).own 30 xs=true:=rfl
theorem Arc:(B.env F).own 31 xs=true:=rfl
theorem Asi:(B.env F).own 32 xs=true:=rfl
theorem Art:(B.env F).own 33 xs=false:=rfl
theorem AoX:(B.env F).own 34 xs=false:=rfl
theorem Asp:(B.env F).own 35 xs=false:=rfl
theorem ApG:(B.env F).own 36 xs=false:=rfl
theorem Aqs:(B.env F).own 37 xs=false:=rfl
theorem ArE:(B.env F).own 38 xs=false:=rfl
theorem Apy:(B.env F).own 39 xs=false:=rfl
theorem Aqc:(B.env F).own 40 xs=false:=rfl
theorem Aq5:(B.env F).own 41 xs=false:=rfl
theorem Ard:(B.env F).own 42 xs=false:=rfl
theorem Ao2:(B.env F).own 43 xs=false:=rfl
theorem Aq2:(B.env F).own 44 xs=false:=rfl
theorem Ao1:(B.env F).own 45 xs=false:=rfl
theorem AoN:(B.env F).own 46 xs=true:=rfl
theorem ApI:(B.env F).own 47 xs=false:=rfl
theorem ApU:(B.env F).own 48 xs=true:=rfl
theorem ApO:(B.env F).own 49 xs=false:=rfl
theorem Aqm:(B.env F).own 50 xs=false:=rfl
theorem AoQ:(B.env F).own 51 xs=false:=rfl
theorem AqV:(B.env F).own 52 xs=false:=rfl
theorem Asg:(B.env F).own 53 xs=false:=rfl
theorem Ar2:(B.env F).own 54 xs=false:=rfl
theorem Apo:(B.env F).own 55 xs=false:=rfl
theorem Aqk:(B.env F).own 56 xs=false:=rfl
theorem AqC:(B.env F).own 57 xs=false:=rfl
theorem AqB:(B.env F).own 58 xs=false:=rfl
theorem ArC:(B.env F).own 59 xs=false:=rfl
theorem Ar1:(B.env F).own 60 xs=false:=rfl
theorem ApY:(B.env F).own 61 xs=false:=rfl
theorem Ap2:(B.env F).own 62 xs=true:=rfl
theorem ApH:(B.env F).own 63 xs=false:=rfl
theorem ApA:(B.env F).own 64 xs=false:=rfl
theorem Aqj:(B.env F).own 65 xs=false:=rfl
theorem Apj:(B.env F).own 66 xs=true:=rfl
theorem Arb:(B.env F).own 67 xs=false:=rfl
theorem AoZ:(B.env F).own 68 xs=false:=rfl
theorem ApW:(B.env F).own 69 xs=false:=rfl
theorem Aq7:(B.env F).own 70 xs=false:=rfl
theorem Asb:(B.env F).own 71 xs=false:=rfl
theorem Aq8:(B.env F).own 72 xs=false:=rfl
theorem Aro:(B.env F).own 73 xs=false:=rfl
theorem Ark:(B.env F).own 74 xs=false:=rfl
theorem ApR:(B.env F).own 75 xs=false:=rfl
theorem Ao7:(B.env F).own 76 xs=false:=rfl
theorem ArB:(B.env F).own 77 xs=false:=rfl
theorem Aqt:(B.env F).own 78 xs=false:=rfl
theorem Ar0:(B.env F).own 79 xs=true:=rfl
theorem ApK:(B.env F).own 80 xs=false:=rfl
theorem Ash:(B.env F).own 81 xs=false:=rfl
theorem Ar6:(B.env F).own 82 xs=true:=rfl
theorem AqA:(B.env F).own 83 xs=false:=rfl
theorem Aq9:(B.env F).own 84 xs=false:=rfl
theorem Apx:(B.env F).own 85 xs=false:=rfl
theorem Are:(B.env F).own 86 xs=false:=rfl
theorem Aso:(B.env F).own 87 xs=false:=rfl
theorem AoW:(B.env F).own 88 xs=false:=rfl
theorem ApN:(B.env F).own 90 xs=true:=rfl
theorem Arz:(B.env F).own 91 xs=true:=rfl
theorem AoP:(B.env F).own 92 xs=true:=rfl
theorem AoS:(B.env F).own 93 xs=false:=rfl
theorem AqR:(B.env F).own 94 xs=false:=rfl
theorem Ao9:(B.env F).own 95 xs=false:=rfl
theorem Apc:(B.env F).own 96 xs=false:=rfl
theorem AqI:(B.env F).own 97 xs=false:=rfl
theorem Aq4:(B.env F).own 98 xs=false:=rfl
theorem AqW:(B.env F).own 99 xs=false:=rfl
theorem AnN:(B.env F).own 101 xs=false:=rfl
theorem Amk:(B.env F).own 102 xs=false:=rfl
theorem AmO:(B.env F).own 103 xs=false:=rfl
theorem Al7:(B.env F).own 104 xs=false:=rfl
theorem AmC:(B.env F).own 105 xs=false:=rfl
theorem Ak7:(B.env F).own 106 xs=false:=rfl
theorem Anb:(B.env F).own 107 xs=true:=rfl
theorem Anf:(B.env F).own 108 xs=false:=rfl
theorem AnM:(B.env F).own 109 xs=false:=rfl
theorem AmB:(B.env F).own 110 xs=false:=rfl
theorem Am9:(B.env F).own 111 xs=false:=rfl
theorem Ale:(B.env F).own 112 xs=false:=rfl
theorem AkQ:(B.env F).own 113 xs=false:=rfl
theorem Aop:(B.env F).own 114 xs=false:=rfl
theorem Ami:(B.env F).own 115 xs=false:=rfl
theorem AmE:(B.env F).own 116 xs=false:=rfl
theorem AkU:(B.env F).own 117 xs=true:=rfl
theorem AkN:(B.env F).own 118 xs=false:=rfl
theorem Amf:(B.env F).own 119 xs=false:=rfl
theorem AkK:(B.env F).own 120 xs=false:=rfl
theorem Aom:(B.env F).own 121 xs=false:=rfl
theorem Ams:(B.env F).own 122 xs=false:=rfl
theorem Alz:(B.env F).own 123 xs=true:=rfl
theorem Aoc:(B.env F).own 124 xs=false:=rfl
theorem Am8:(B.env F).own 125 xs=false:=rfl
theorem Al1:(B.env F).own 126 xs=true:=rfl
theorem AlF:(B.env F).own 127 xs=true:=rfl
theorem Ang:(B.env F).own 128 xs=false:=rfl
theorem Amq:(B.env F).own 129 xs=true:=rfl
theorem AnI:(B.env F).own 130 xs=true:=rfl
theorem Anh:(B.env F).own 131 xs=true:=rfl
theorem Amo:(B.env F).own 132 xs=false:=rfl
theorem AmR:(B.env F).own 133 xs=false:=rfl
theorem AnQ:(B.env F).own 134 xs=false:=rfl
theorem AmY:(B.env F).own 135 xs=false:=rfl
theorem Al5:(B.env F).own 136 xs=false:=rfl
theorem Amc:(B.env F).own 137 xs=false:=rfl
theorem An3:(B.env F).own 138 xs=false:=rfl
theorem AnD:(B.env F).own 139 xs=false:=rfl
theorem Al9:(B.env F).own 140 xs=false:=rfl
theorem Aoi:(B.env F).own 141 xs=false:=rfl
theorem AlN:(B.env F).own 142 xs=true:=rfl
theorem Ala:(B.env F).own 143 xs=false:=rfl
theorem AlW:(B.env F).own 144 xs=false:=rfl
theorem Ane:(B.env F).own 145 xs=false:=rfl
theorem Ald:(B.env F).own 146 xs=false:=rfl
theorem Am0:(B.env F).own 147 xs=false:=rfl
theorem Al3:(B.env F).own 148 xs=false:=rfl
theorem Aow:(B.env F).own 149 xs=true:=rfl
theorem AmK:(B.env F).own 150 xs=true:=rfl
theorem AlL:(B.env F).own 151 xs=true:=rfl
theorem AkM:(B.env F).own 152 xs=true:=rfl
theorem AmH:(B.env F).own 153 xs=true:=rfl
theorem An2:(B.env F).own 154 xs=true:=rfl
theorem AkV:(B.env F).own 155 xs=true:=rfl
theorem Am1:(B.env F).own 156 xs=false:=rfl
theorem AlP:(B.env F).own 157 xs=false:=rfl
theorem Amj:(B.env F).own 158 xs=false:=rfl
theorem AnG:(B.env F).own 159 xs=false:=rfl
theorem An6:(B.env F).own 160 xs=false:=rfl
theorem AoA:(B.env F).own 161 xs=false:=rfl
theorem AnH:(B.env F).own 162 xs=false:=rfl
theorem AlQ:(B.env F).own 163 xs=false:=rfl
theorem Alr:(B.env F).own 164 xs=false:=rfl
theorem Aol:(B.env F).own 165 xs=false:=rfl
theorem AkY:(B.env F).own 166 xs=false:=rfl
theorem AnC:(B.env F).own 167 xs=false:=rfl
theorem AnU:(B.env F).own 168 xs=false:=rfl
theorem Alv:(B.env F).own 169 xs=false:=rfl
theorem MF:Tryz.prog.follows .mixedOrders=true:=by kernel_rfl
structure Asu where
  Za:Int
  Zb:Int
  Zc:Int
  deriving DecidableEq,Inhabited
def Am(x:Asu):List AV:=[i64 x.Za,i64 x.Zb,i64 x.Zc]
structure Asv where
  A:Int
  B:Int
  Zb:Int
  Zd:Int
  Km:Int
  deriving DecidableEq,Inhabited
def Au(x:Asv):List AV:=[i64 x.A,i64 x.B,i64 x.Zb,i64 x.Zd,i64 x.Km]
structure Asw where
  Ze:List Asu
  Zf:List Asv
  deriving DecidableEq,Inhabited
def Nj(x:Asw):List AV:=[.sl false (L Am x.Ze),.sl false (L Au x.Zf)]
structure Asx where
  Zg:Int
  Zh:Int
  Zi:Int
  Zj:Int
  Zk:Int
  Zl:UInt64
  Zm:Int
  Zn:Int
  deriving DecidableEq,Inhabited
def Ac(x:Asx):List AV:=[i64 x.Zg,i64 x.Zh,i64 x.Zi,i64 x.Zj,i64 x.Zk,u64 x.Zl,i64 x.Zm,i64 x.Zn]
structure Asy where
  Zo:Int
  Zp:Int
  Zq:Int
  Zr:Int
  Zs:Int
  deriving DecidableEq,Inhabited
def Af(x:Asy):List AV:=[i64 x.Zo,i64 x.Zp,i64 x.Zq,i64 x.Zr,i64 x.Zs]
structure Asz where
  Zt:Int
  Zu:Int
  Zv:Int
  deriving DecidableEq,Inhabited
def Al(x:Asz):List AV:=[i64 x.Zt,i64 x.Zu,i64 x.Zv]
structure AsA where
  Zw:Int
  To:Int
  Zd:Int
  deriving DecidableEq,Inhabited
def Ak(x:AsA):List AV:=[i64 x.Zw,i64 x.To,i64 x.Zd]
structure AsB where
  Zx:List Asx
  Zy:List Asy
  Zz:List Asz
  Za1:List AsA
  deriving DecidableEq,Inhabited
def S3(x:AsB):List AV:=[.sl false (L Ac x.Zx),.sl false (L Af x.Zy),.sl false (L Al x.Zz),.sl false (L Ak x.Za1)]
structure AsC where
  Zb1:Int
  Low:Int
  Zc1:Int
  deriving DecidableEq,Inhabited
def As(x:AsC):List AV:=[i64 x.Zb1,i64 x.Low,i64 x.Zc1]
structure AsD where
  Zb1:Int
  deriving DecidableEq,Inhabited
def Ap(x:AsD):List AV:=[i64 x.Zb1]
structure AsE where
  Zw:Int
  To:Int
  deriving DecidableEq,Inhabited
def LG(x:AsE):List AV:=[i64 x.Zw,i64 x.To]
structure AsF where
  Zd1:(AsE×AsE×AsE×AsE×AsE×AsE×AsE)
  Ze1:List Int
  deriving DecidableEq,Inhabited
def LU(x:AsF):List AV:=[i64 x.Zd1.1.Zw,i64 x.Zd1.1.To,i64 x.Zd1.2.1.Zw,i64 x.Zd1.2.1.To,i64 x.Zd1.2.2.1.Zw,i64 x.Zd1.2.2.1.To,i64 x.Zd1.2.2.2.1.Zw,i64 x.Zd1.2.2.2.1.To,i64 x.Zd1.2.2.2.2.1.Zw,i64 x.Zd1.2.2.2.2.1.To,i64 x.Zd1.2.2.2.2.2.1.Zw,i64 x.Zd1.2.2.2.2.2.1.To,i64 x.Zd1.2.2.2.2.2.2.Zw,i64 x.Zd1.2.2.2.2.2.2.To,.sl false (L H9 x.Ze1)]
structure AsG where
  Key:UInt64
  Zf1:AsF
  deriving DecidableEq,Inhabited
def Ae(x:AsG):List AV:=[u64 x.Key,i64 x.Zf1.Zd1.1.Zw,i64 x.Zf1.Zd1.1.To,i64 x.Zf1.Zd1.2.1.Zw,i64 x.Zf1.Zd1.2.1.To,i64 x.Zf1.Zd1.2.2.1.Zw,i64 x.Zf1.Zd1.2.2.1.To,i64 x.Zf1.Zd1.2.2.2.1.Zw,i64 x.Zf1.Zd1.2.2.2.1.To,i64 x.Zf1.Zd1.2.2.2.2.1.Zw,i64 x.Zf1.Zd1.2.2.2.2.1.To,i64 x.Zf1.Zd1.2.2.2.2.2.1.Zw,i64 x.Zf1.Zd1.2.2.2.2.2.1.To,i64 x.Zf1.Zd1.2.2.2.2.2.2.Zw,i64 x.Zf1.Zd1.2.2.2.2.2.2.To,.sl false (L H9 x.Zf1.Ze1)]
structure AsH where
  Zg1:Asw
  Zh1:AsB
  Zi1:List AsC
  Zj1:List AsD
  Zk1:List AsG
  deriving DecidableEq,Inhabited
def Ar(x:AsH):List AV:=[.sl false (L Am x.Zg1.Ze),.sl false (L Au x.Zg1.Zf),.sl false (L Ac x.Zh1.Zx),.sl false (L Af x.Zh1.Zy),.sl false (L Al x.Zh1.Zz),.sl false (L Ak x.Zh1.Za1),.sl false (L As x.Zi1),.sl false (L Ap x.Zj1),.sl false (L Ae x.Zk1)]
structure AsI where
  Zb:Int
  No:Int
  deriving DecidableEq,Inhabited
def YU(x:AsI):List AV:=[i64 x.Zb,i64 x.No]
structure AsJ where
  Za:Int
  Zl1:Int
  Zm1:Bool
  deriving DecidableEq,Inhabited
def An(x:AsJ):List AV:=[i64 x.Za,i64 x.Zl1,.bool x.Zm1]
structure AsK where
  Za:Int
  Ref:AsI
  Zn1:Int
  Zb1:Int
  Zc:Int
  Zo1:Int
  Zw:Int
  To:Int
  Code:Int
  Zp1:Int
  Zq1:Int
  Zr1:Int
  Zs1:Int
  Zt1:List UInt8
  Zu1:List AsJ
  deriving DecidableEq,Inhabited
def A1(x:AsK):List AV:=[i64 x.Za,i64 x.Ref.Zb,i64 x.Ref.No,i64 x.Zn1,i64 x.Zb1,i64 x.Zc,i64 x.Zo1,i64 x.Zw,i64 x.To,i64 x.Code,i64 x.Zp1,i64 x.Zq1,i64 x.Zr1,i64 x.Zs1,.str x.Zt1,.sl false (L An x.Zu1)]
structure AsL where
  C:UInt64
  S:UInt64
  deriving DecidableEq,Inhabited
def SU(x:AsL):List AV:=[u64 x.C,u64 x.S]
structure AsM where
  Zb:Int
  No:Int
  Zv1:Arr UInt8 32
  Zw1:Int
  Zx1:AsK
  Sig:AsL
  deriving DecidableEq,Inhabited
def Ab(x:AsM):List AV:=(i64 x.Zb::i64 x.No::(C1 u8 x.Zv1.l++[i64 x.Zw1,i64 x.Zx1.Za,i64 x.Zx1.Ref.Zb,i64 x.Zx1.Ref.No,i64 x.Zx1.Zn1,i64 x.Zx1.Zb1,i64 x.Zx1.Zc,i64 x.Zx1.Zo1,i64 x.Zx1.Zw,i64 x.Zx1.To,i64 x.Zx1.Code,i64 x.Zx1.Zp1,i64 x.Zx1.Zq1,i64 x.Zx1.Zr1,i64 x.Zx1.Zs1,.str x.Zx1.Zt1,.sl false (L An x.Zx1.Zu1),u64 x.Sig.C,u64 x.Sig.S]))
structure AsN where
  A:AsM
  B:AsM
  deriving DecidableEq,Inhabited
def A3(x:AsN):List AV:=(i64 x.A.Zb::i64 x.A.No::(C1 u8 x.A.Zv1.l++i64 x.A.Zw1::i64 x.A.Zx1.Za::i64 x.A.Zx1.Ref.Zb::i64 x.A.Zx1.Ref.No::i64 x.A.Zx1.Zn1::i64 x.A.Zx1.Zb1::i64 x.A.Zx1.Zc::i64 x.A.Zx1.Zo1::i64 x.A.Zx1.Zw::i64 x.A.Zx1.To::i64 x.A.Zx1.Code::i64 x.A.Zx1.Zp1::i64 x.A.Zx1.Zq1::i64 x.A.Zx1.Zr1::i64 x.A.Zx1.Zs1::.str x.A.Zx1.Zt1::.sl false (L An x.A.Zx1.Zu1)::u64 x.A.Sig.C::u64 x.A.Sig.S::i64 x.B.Zb::i64 x.B.No::(C1 u8 x.B.Zv1.l++[i64 x.B.Zw1,i64 x.B.Zx1.Za,i64 x.B.Zx1.Ref.Zb,i64 x.B.Zx1.Ref.No,i64 x.B.Zx1.Zn1,i64 x.B.Zx1.Zb1,i64 x.B.Zx1.Zc,i64 x.B.Zx1.Zo1,i64 x.B.Zx1.Zw,i64 x.B.Zx1.To,i64 x.B.Zx1.Code,i64 x.B.Zx1.Zp1,i64 x.B.Zx1.Zq1,i64 x.B.Zx1.Zr1,i64 x.B.Zx1.Zs1,.str x.B.Zx1.Zt1,.sl false (L An x.B.Zx1.Zu1),u64 x.B.Sig.C,u64 x.B.Sig.S])))
structure AsO where
  Zy1:List (List AsM)
  Zz1:List AsN
  deriving DecidableEq,Inhabited
def Aj(x:AsO):List AV:=[.sl false (L (cSl Ab) x.Zy1),.sl false (L A3 x.Zz1)]
inductive AsP where
  |mk (Za:Int) (N:Int) (B:List UInt8) (L:List AsP)
instance:Inhabited AsP:=⟨.mk default default default default⟩
def AsP.Za(x:AsP):Int:=match x with
 |.mk a _ _ _=>a
theorem Rf{x0:Int}{x1:Int}{x2:List UInt8}{x3:List AsP}:(AsP.mk x0 x1 x2 x3).Za=x0:=rfl
def AsP.N(x:AsP):Int:=match x with
 |.mk _ a _ _=>a
theorem WV{x0:Int}{x1:Int}{x2:List UInt8}{x3:List AsP}:(AsP.mk x0 x1 x2 x3).N=x1:=rfl
def AsP.B(x:AsP):List UInt8:=match x with
 |.mk _ _ a _=>a
theorem Wb{x0:Int}{x1:Int}{x2:List UInt8}{x3:List AsP}:(AsP.mk x0 x1 x2 x3).B=x2:=rfl
def AsP.L(x:AsP):List AsP:=match x with
 |.mk _ _ _ a=>a
theorem WJ{x0:Int}{x1:Int}{x2:List UInt8}{x3:List AsP}:(AsP.mk x0 x1 x2 x3).L=x3:=rfl
noncomputable def cApi_Value(v:AsP):List AV:=AsP.rec (motive_1:=fun _=>List AV) (motive_2:=fun _=>List (List AV)) (fun Kind_ N_ B_ L_ ih3=>[i64 Kind_,i64 N_,.sl false (L cU8 B_),.sl false ih3]) [] (fun _ _ x l=>x::l) v
theorem Va(l:List AsP):AsP.rec_1 (motive_1:=fun _=>List AV) (motive_2:=fun _=>List (List AV)) (fun Kind_ N_ B_ L_ ih3=>[i64 Kind_,i64 N_,.sl false (L cU8 B_),.sl false ih3]) [] (fun _ _ x l=>x::l) l=L cApi_Value l:=by
 induction l with
 |nil=>rfl
 |cons x l ih=>exact Auy (cApi_Value x::·) ih
theorem LP(x:AsP):cApi_Value x=[i64 x.Za,i64 x.N,.sl false (L cU8 x.B),.sl false (L cApi_Value x.L)]:=by
  cases x with
  | mk a0 a1 a2 a3=>
    show[i64 a0,i64 a1,.sl false (L cU8 a2),.sl false (AsP.rec_1 (motive_1:=fun _=>List AV) (motive_2:=fun _=>List (List AV)) (fun Kind_ N_ B_ L_ ih3=>[i64 Kind_,i64 N_,.sl false (L cU8 B_),.sl false ih3]) [] (fun _ _ x l=>x::l) a3)]=_;rw[Va];rfl
structure AsQ where
  p:AsH
  it:AsK
  ok:Bool
  deriving DecidableEq,Inhabited
def Ag(x:AsQ):List AV:=[.sl false (L Am x.p.Zg1.Ze),.sl false (L Au x.p.Zg1.Zf),.sl false (L Ac x.p.Zh1.Zx),.sl false (L Af x.p.Zh1.Zy),.sl false (L Al x.p.Zh1.Zz),.sl false (L Ak x.p.Zh1.Za1),.sl false (L As x.p.Zi1),.sl false (L Ap x.p.Zj1),.sl false (L Ae x.p.Zk1),i64 x.it.Za,i64 x.it.Ref.Zb,i64 x.it.Ref.No,i64 x.it.Zn1,i64 x.it.Zb1,i64 x.it.Zc,i64 x.it.Zo1,i64 x.it.Zw,i64 x.it.To,i64 x.it.Code,i64 x.it.Zp1,i64 x.it.Zq1,i64 x.it.Zr1,i64 x.it.Zs1,.str x.it.Zt1,.sl false (L An x.it.Zu1),.bool x.ok]
structure AsR where
  Ref:AsI
  By:AsI
  Zw1:Int
  Zx1:AsK
  deriving DecidableEq,Inhabited
def AB(x:AsR):List AV:=[i64 x.Ref.Zb,i64 x.Ref.No,i64 x.By.Zb,i64 x.By.No,i64 x.Zw1,i64 x.Zx1.Za,i64 x.Zx1.Ref.Zb,i64 x.Zx1.Ref.No,i64 x.Zx1.Zn1,i64 x.Zx1.Zb1,i64 x.Zx1.Zc,i64 x.Zx1.Zo1,i64 x.Zx1.Zw,i64 x.Zx1.To,i64 x.Zx1.Code,i64 x.Zx1.Zp1,i64 x.Zx1.Zq1,i64 x.Zx1.Zr1,i64 x.Zx1.Zs1,.str x.Zx1.Zt1,.sl false (L An x.Zx1.Zu1)]
structure AsS where
  b:List UInt8
  deriving DecidableEq,Inhabited
def R2(x:AsS):List AV:=[.sl false (L cU8 x.b)]
theorem tt3:B9 Tryz.prog 3=some ⟨.int .i64,1,8,[i64 0]⟩:=by kernel_rfl
theorem tb3(F:Out):(B.env F).tab 3=some ⟨.int .i64,1,8,[i64 0]⟩:=(A8 Tryz.prog 3).trans tt3
theorem tt4:B9 Tryz.prog 4=some ⟨.bool,1,1,[.bool false]⟩:=by kernel_rfl
theorem tb4(F:Out):(B.env F).tab 4=some ⟨.bool,1,1,[.bool false]⟩:=(A8 Tryz.prog 4).trans tt4
theorem tt5:B9 Tryz.prog 5=some ⟨.int .u8,1,1,[u8 ((0:UInt8))]⟩:=by kernel_rfl
theorem tb5(F:Out):(B.env F).tab 5=some ⟨.int .u8,1,1,[u8 ((0:UInt8))]⟩:=(A8 Tryz.prog 5).trans tt5
theorem tt9:B9 Tryz.prog 9=some ⟨.string,1,16,[.str (([]:List UInt8))]⟩:=by kernel_rfl
theorem tb9(F:Out):(B.env F).tab 9=some ⟨.string,1,16,[.str (([]:List UInt8))]⟩:=(A8 Tryz.prog 9).trans tt9
theorem tt22:B9 Tryz.prog 22=some ⟨.slice 120,1,24,[.sl true (L Am ([]))]⟩:=by kernel_rfl
theorem tb22(F:Out):(B.env F).tab 22=some ⟨.slice 120,1,24,[.sl true (L Am ([]))]⟩:=(A8 Tryz.prog 22).trans tt22
theorem tt23:B9 Tryz.prog 23=some ⟨.slice 122,1,24,[.sl true (L Au ([]))]⟩:=by kernel_rfl
theorem tb23(F:Out):(B.env F).tab 23=some ⟨.slice 122,1,24,[.sl true (L Au ([]))]⟩:=(A8 Tryz.prog 23).trans tt23
theorem tt25:B9 Tryz.prog 25=some ⟨.struct #[⟨"Places", 22,0,false,"","", 0⟩,⟨"Edges", 23,1,false,"","", 24⟩],2,48,[.sl true (L Am ([])),.sl true (L Au ([]))]⟩:=by kernel_rfl
theorem tb25(F:Out):(B.env F).tab 25=some ⟨.struct #[⟨"Places", 22,0,false,"","", 0⟩,⟨"Edges", 23,1,false,"","", 24⟩],2,48,[.sl true (L Am ([])),.sl true (L Au ([]))]⟩:=(A8 Tryz.prog 25).trans tt25
theorem tt26:B9 Tryz.prog 26=some ⟨.slice 124,1,24,[.sl true (L Ac ([]))]⟩:=by kernel_rfl
theorem tb26(F:Out):(B.env F).tab 26=some ⟨.slice 124,1,24,[.sl true (L Ac ([]))]⟩:=(A8 Tryz.prog 26).trans tt26
theorem tt27:B9 Tryz.prog 27=some ⟨.slice 126,1,24,[.sl true (L Af ([]))]⟩:=by kernel_rfl
theorem tb27(F:Out):(B.env F).tab 27=some ⟨.slice 126,1,24,[.sl true (L Af ([]))]⟩:=(A8 Tryz.prog 27).trans tt27
theorem tt28:B9 Tryz.prog 28=some ⟨.slice 155,1,24,[.sl true (L Al ([]))]⟩:=by kernel_rfl
theorem tb28(F:Out):(B.env F).tab 28=some ⟨.slice 155,1,24,[.sl true (L Al ([]))]⟩:=(A8 Tryz.prog 28).trans tt28
theorem tt29:B9 Tryz.prog 29=some ⟨.slice 199,1,24,[.sl true (L Ak ([]))]⟩:=by kernel_rfl
theorem tb29(F:Out):(B.env F).tab 29=some ⟨.slice 199,1,24,[.sl true (L Ak ([]))]⟩:=(A8 Tryz.prog 29).trans tt29
theorem tt31:B9 Tryz.prog 31=some ⟨.struct #[⟨"Types", 26,0,false,"","", 0⟩,⟨"Wagons", 27,1,false,"","", 24⟩,⟨"Swaps", 28,2,false,"","", 48⟩,⟨"Washes", 29,3,false,"","", 72⟩],4,96,[.sl true (L Ac ([])),.sl true (L Af ([])),.sl true (L Al ([])),.sl true (L Ak ([]))]⟩:=by kernel_rfl
theorem tb31(F:Out):(B.env F).tab 31=some ⟨.struct #[⟨"Types", 26,0,false,"","", 0⟩,⟨"Wagons", 27,1,false,"","", 24⟩,⟨"Swaps", 28,2,false,"","", 48⟩,⟨"Washes", 29,3,false,"","", 72⟩],4,96,[.sl true (L Ac ([])),.sl true (L Af ([])),.sl true (L Al ([])),.sl true (L Ak ([]))]⟩:=(A8 Tryz.prog 31).trans tt31
theorem tt32:B9 Tryz.prog 32=some ⟨.slice 128,1,24,[.sl true (L As ([]))]⟩:=by kernel_rfl
theorem tb32(F:Out):(B.env F).tab 32=some ⟨.slice 128,1,24,[.sl true (L As ([]))]⟩:=(A8 Tryz.prog 32).trans tt32
theorem tt33:B9 Tryz.prog 33=some ⟨.slice 130,1,24,[.sl true (L Ap ([]))]⟩:=by kernel_rfl
theorem tb33(F:Out):(B.env F).tab 33=some ⟨.slice 130,1,24,[.sl true (L Ap ([]))]⟩:=(A8 Tryz.prog 33).trans tt33
theorem tt34:B9 Tryz.prog 34=some ⟨.slice 74,1,24,[.sl true (L Ae ([]))]⟩:=by kernel_rfl
theorem AoG(F:Out):(B.env F).tab 34=some ⟨.slice 74,1,24,[.sl true (L Ae ([]))]⟩:=(A8 Tryz.prog 34).trans tt34
theorem tt36:B9 Tryz.prog 36=some ⟨.struct #[⟨"Network", 25,0,false,"","", 0⟩,⟨"Fleet", 31,2,false,"","", 48⟩,⟨"Readers", 32,6,false,"","", 144⟩,⟨"Shippers", 33,7,false,"","", 168⟩,⟨"Railways", 34,8,false,"","", 192⟩],9,216,[.sl true (L Am ([])),.sl true (L Au ([])),.sl true (L Ac ([])),.sl true (L Af ([])),.sl true (L Al ([])),.sl true (L Ak ([])),.sl true (L As ([])),.sl true (L Ap ([])),.sl true (L Ae ([]))]⟩:=by kernel_rfl
theorem tb36(F:Out):(B.env F).tab 36=some ⟨.struct #[⟨"Network", 25,0,false,"","", 0⟩,⟨"Fleet", 31,2,false,"","", 48⟩,⟨"Readers", 32,6,false,"","", 144⟩,⟨"Shippers", 33,7,false,"","", 168⟩,⟨"Railways", 34,8,false,"","", 192⟩],9,216,[.sl true (L Am ([])),.sl true (L Au ([])),.sl true (L Ac ([])),.sl true (L Af ([])),.sl true (L Al ([])),.sl true (L Ak ([])),.sl true (L As ([])),.sl true (L Ap ([])),.sl true (L Ae ([]))]⟩:=(A8 Tryz.prog 36).trans tt36
theorem tt37:B9 Tryz.prog 37=some ⟨.slice 75,1,24,[.sl true (L (cSl Ab) ([]))]⟩:=by kernel_rfl
theorem AkH(F:Out):(B.env F).tab 37=some ⟨.slice 75,1,24,[.sl true (L (cSl Ab) ([]))]⟩:=(A8 Tryz.prog 37).trans tt37
theorem tt38:B9 Tryz.prog 38=some ⟨.slice 88,1,24,[.sl true (L A3 ([]))]⟩:=by kernel_rfl
theorem AoI(F:Out):(B.env F).tab 38=some ⟨.slice 88,1,24,[.sl true (L A3 ([]))]⟩:=(A8 Tryz.prog 38).trans tt38
theorem tt40:B9 Tryz.prog 40=some ⟨.struct #[⟨"Logs", 37,0,false,"","", 0⟩,⟨"Forks", 38,1,false,"","", 24⟩],2,48,[.sl true (L (cSl Ab) ([])),.sl true (L A3 ([]))]⟩:=by kernel_rfl
theorem tb40(F:Out):(B.env F).tab 40=some ⟨.struct #[⟨"Logs", 37,0,false,"","", 0⟩,⟨"Forks", 38,1,false,"","", 24⟩],2,48,[.sl true (L (cSl Ab) ([])),.sl true (L A3 ([]))]⟩:=(A8 Tryz.prog 40).trans tt40
theorem tt42:B9 Tryz.prog 42=some ⟨.array 32 5,32,32,(C1 u8 ((Arr.rep 32 (0:UInt8))).l)⟩:=by kernel_rfl
theorem Apd(F:Out):(B.env F).tab 42=some ⟨.array 32 5,32,32,(C1 u8 ((Arr.rep 32 (0:UInt8))).l)⟩:=(A8 Tryz.prog 42).trans tt42
theorem tt44:B9 Tryz.prog 44=some ⟨.struct #[⟨"Railway", 3,0,false,"","", 0⟩,⟨"No", 3,1,false,"","", 8⟩],2,16,[i64 0,i64 0]⟩:=by kernel_rfl
theorem ApC(F:Out):(B.env F).tab 44=some ⟨.struct #[⟨"Railway", 3,0,false,"","", 0⟩,⟨"No", 3,1,false,"","", 8⟩],2,16,[i64 0,i64 0]⟩:=(A8 Tryz.prog 44).trans tt44
theorem tt45:B9 Tryz.prog 45=some ⟨.slice 182,1,24,[.sl true (L An ([]))]⟩:=by kernel_rfl
theorem tb45(F:Out):(B.env F).tab 45=some ⟨.slice 182,1,24,[.sl true (L An ([]))]⟩:=(A8 Tryz.prog 45).trans tt45
theorem tt47:B9 Tryz.prog 47=some ⟨.struct #[⟨"Kind", 3,0,false,"","", 0⟩,⟨"Ref", 44,1,false,"","", 8⟩,⟨"Wagon", 3,3,false,"","", 24⟩,⟨"Place", 3,4,false,"","", 32⟩,⟨"Other", 3,5,false,"","", 40⟩,⟨"Number", 3,6,false,"","", 48⟩,⟨"From", 3,7,false,"","", 56⟩,⟨"To", 3,8,false,"","", 64⟩,⟨"Code", 3,9,false,"","", 72⟩,⟨"Dest", 3,10,false,"","", 80⟩,⟨"Class", 3,11,false,"","", 88⟩,⟨"Weight", 3,12,false,"","", 96⟩,⟨"Amount", 3,13,false,"","", 104⟩,⟨"Text", 9,14,false,"","", 112⟩,⟨"Parts", 45,15,false,"","", 128⟩],16,152,[i64 0,i64 0,i64 0,i64 0,i64 0,i64 0,i64 0,i64 0,i64 0,i64 0,i64 0,i64 0,i64 0,i64 0,.str (([]:List UInt8)),.sl true (L An ([]))]⟩:=by kernel_rfl
theorem tb47(F:Out):(B.env F).tab 47=some ⟨.struct #[⟨"Kind", 3,0,false,"","", 0⟩,⟨"Ref", 44,1,false,"","", 8⟩,⟨"Wagon", 3,3,false,"","", 24⟩,⟨"Place", 3,4,false,"","", 32⟩,⟨"Other", 3,5,false,"","", 40⟩,⟨"Number", 3,6,false,"","", 48⟩,⟨"From", 3,7,false,"","", 56⟩,⟨"To", 3,8,false,"","", 64⟩,⟨"Code", 3,9,false,"","", 72⟩,⟨"Dest", 3,10,false,"","", 80⟩,⟨"Class", 3,11,false,"","", 88⟩,⟨"Weight", 3,12,false,"","", 96⟩,⟨"Amount", 3,13,false,"","", 104⟩,⟨"Text", 9,14,false,"","", 112⟩,⟨"Parts", 45,15,false,"","", 128⟩],16,152,[i64 0,i64 0,i64 0,i64 0,i64 0,i64 0,i64 0,i64 0,i64 0,i64 0,i64 0,i64 0,i64 0,i64 0,.str (([]:List UInt8)),.sl true (L An ([]))]⟩:=(A8 Tryz.prog 47).trans tt47
theorem tt48:B9 Tryz.prog 48=some ⟨.int .u64,1,8,[u64 ((0:UInt64))]⟩:=by kernel_rfl
theorem AoE(F:Out):(B.env F).tab 48=some ⟨.int .u64,1,8,[u64 ((0:UInt64))]⟩:=(A8 Tryz.prog 48).trans tt48
theorem tt50:B9 Tryz.prog 50=some ⟨.struct #[⟨"C", 48,0,false,"","", 0⟩,⟨"S", 48,1,false,"","", 8⟩],2,16,[u64 ((0:UInt64)),u64 ((0:UInt64))]⟩:=by kernel_rfl
theorem tb50(F:Out):(B.env F).tab 50=some ⟨.struct #[⟨"C", 48,0,false,"","", 0⟩,⟨"S", 48,1,false,"","", 8⟩],2,16,[u64 ((0:UInt64)),u64 ((0:UInt64))]⟩:=(A8 Tryz.prog 50).trans tt50
theorem tt52:B9 Tryz.prog 52=some ⟨.struct #[⟨"Railway", 3,0,false,"","", 0⟩,⟨"No", 3,1,false,"","", 8⟩,⟨"Prev", 42,2,false,"","", 16⟩,⟨"Time", 3,34,false,"","", 48⟩,⟨"Item", 47,35,false,"","", 56⟩,⟨"Sig", 50,51,false,"","", 208⟩],53,224,(i64 0::i64 0::(C1 u8 ((Arr.rep 32 (0:UInt8))).l++[i64 0,i64 0,i64 0,i64 0,i64 0,i64 0,i64 0,i64 0,i64 0,i64 0,i64 0,i64 0,i64 0,i64 0,i64 0,.str (([]:List UInt8)),.sl true (L An ([])),u64 ((0:UInt64)),u64 ((0:UInt64))]))⟩:=by kernel_rfl
theorem Ap1(F:Out):(B.env F).tab 52=some ⟨.struct #[⟨"Railway", 3,0,false,"","", 0⟩,⟨"No", 3,1,false,"","", 8⟩,⟨"Prev", 42,2,false,"","", 16⟩,⟨"Time", 3,34,false,"","", 48⟩,⟨"Item", 47,35,false,"","", 56⟩,⟨"Sig", 50,51,false,"","", 208⟩],53,224,(i64 0::i64 0::(C1 u8 ((Arr.rep 32 (0:UInt8))).l++[i64 0,i64 0,i64 0,i64 0,i64 0,i64 0,i64 0,i64 0,i64 0,i64 0,i64 0,i64 0,i64 0,i64 0,i64 0,.str (([]:List UInt8)),.sl true (L An ([])),u64 ((0:UInt64)),u64 ((0:UInt64))]))⟩:=(A8 Tryz.prog 52).trans tt52
theorem tt57:B9 Tryz.prog 57=some ⟨.int .i64,1,8,[i64 0]⟩:=by kernel_rfl
theorem tb57(F:Out):(B.env F).tab 57=some ⟨.int .i64,1,8,[i64 0]⟩:=(A8 Tryz.prog 57).trans tt57
theorem tt63:B9 Tryz.prog 63=some ⟨.slice 5,1,24,[.sl true (L cU8 ([]))]⟩:=by kernel_rfl
theorem Aj4(F:Out):(B.env F).tab 63=some ⟨.slice 5,1,24,[.sl true (L cU8 ([]))]⟩:=(A8 Tryz.prog 63).trans tt63
theorem tt68:B9 Tryz.prog 68=some ⟨.struct #[⟨"From", 3,0,false,"","", 0⟩,⟨"To", 3,1,false,"","", 8⟩],2,16,[i64 0,i64 0]⟩:=by kernel_rfl
theorem Aqh(F:Out):(B.env F).tab 68=some ⟨.struct #[⟨"From", 3,0,false,"","", 0⟩,⟨"To", 3,1,false,"","", 8⟩],2,16,[i64 0,i64 0]⟩:=(A8 Tryz.prog 68).trans tt68
theorem tt69:B9 Tryz.prog 69=some ⟨.array 7 68,14,112,[i64 0,i64 0,i64 0,i64 0,i64 0,i64 0,i64 0,i64 0,i64 0,i64 0,i64 0,i64 0,i64 0,i64 0]⟩:=by kernel_rfl
theorem Aru(F:Out):(B.env F).tab 69=some ⟨.array 7 68,14,112,[i64 0,i64 0,i64 0,i64 0,i64 0,i64 0,i64 0,i64 0,i64 0,i64 0,i64 0,i64 0,i64 0,i64 0]⟩:=(A8 Tryz.prog 69).trans tt69
theorem tt70:B9 Tryz.prog 70=some ⟨.slice 3,1,24,[.sl true (L H9 ([]))]⟩:=by kernel_rfl
theorem ArF(F:Out):(B.env F).tab 70=some ⟨.slice 3,1,24,[.sl true (L H9 ([]))]⟩:=(A8 Tryz.prog 70).trans tt70
theorem tt72:B9 Tryz.prog 72=some ⟨.struct #[⟨"Open", 69,0,false,"","", 0⟩,⟨"Holidays", 70,14,false,"","", 112⟩],15,136,[i64 0,i64 0,i64 0,i64 0,i64 0,i64 0,i64 0,i64 0,i64 0,i64 0,i64 0,i64 0,i64 0,i64 0,.sl true (L H9 ([]))]⟩:=by kernel_rfl
theorem tb72(F:Out):(B.env F).tab 72=some ⟨.struct #[⟨"Open", 69,0,false,"","", 0⟩,⟨"Holidays", 70,14,false,"","", 112⟩],15,136,[i64 0,i64 0,i64 0,i64 0,i64 0,i64 0,i64 0,i64 0,i64 0,i64 0,i64 0,i64 0,i64 0,i64 0,.sl true (L H9 ([]))]⟩:=(A8 Tryz.prog 72).trans tt72
theorem tt74:B9 Tryz.prog 74=some ⟨.struct #[⟨"Key", 48,0,false,"","", 0⟩,⟨"Calendar", 72,1,false,"","", 8⟩],16,144,[u64 ((0:UInt64)),i64 0,i64 0,i64 0,i64 0,i64 0,i64 0,i64 0,i64 0,i64 0,i64 0,i64 0,i64 0,i64 0,i64 0,.sl true (L H9 ([]))]⟩:=by kernel_rfl
theorem ArO(F:Out):(B.env F).tab 74=some ⟨.struct #[⟨"Key", 48,0,false,"","", 0⟩,⟨"Calendar", 72,1,false,"","", 8⟩],16,144,[u64 ((0:UInt64)),i64 0,i64 0,i64 0,i64 0,i64 0,i64 0,i64 0,i64 0,i64 0,i64 0,i64 0,i64 0,i64 0,i64 0,.sl true (L H9 ([]))]⟩:=(A8 Tryz.prog 74).trans tt74
theorem tt75:B9 Tryz.prog 75=some ⟨.slice 52,1,24,[.sl true (L Ab ([]))]⟩:=by kernel_rfl
theorem AgU(F:Out):(B.env F).tab 75=some ⟨.slice 52,1,24,[.sl true (L Ab ([]))]⟩:=(A8 Tryz.prog 75).trans tt75
theorem tt85:B9 Tryz.prog 85=some ⟨.slice 143,1,24,[.sl true (L AB ([]))]⟩:=by kernel_rfl
theorem AoR(F:Out):(B.env F).tab 85=some ⟨.slice 143,1,24,[.sl true (L AB ([]))]⟩:=(A8 Tryz.prog 85).trans tt85
theorem tt88:B9 Tryz.prog 88=some ⟨.struct #[⟨"A", 52,0,false,"","", 0⟩,⟨"B", 52,53,false,"","", 224⟩],106,448,(i64 0::i64 0::(C1 u8 ((Arr.rep 32 (0:UInt8))).l++i64 0::i64 0::i64 0::i64 0::i64 0::i64 0::i64 0::i64 0::i64 0::i64 0::i64 0::i64 0::i64 0::i64 0::i64 0::.str (([]:List UInt8))::.sl true (L An ([]))::u64 ((0:UInt64))::u64 ((0:UInt64))::i64 0::i64 0::(C1 u8 ((Arr.rep 32 (0:UInt8))).l++[i64 0,i64 0,i64 0,i64 0,i64 0,i64 0,i64 0,i64 0,i64 0,i64 0,i64 0,i64 0,i64 0,i64 0,i64 0,.str (([]:List UInt8)),.sl true (L An ([])),u64 ((0:UInt64)),u64 ((0:UInt64))])))⟩:=by kernel_rfl
theorem AqG(F:Out):(B.env F).tab 88=some ⟨.struct #[⟨"A", 52,0,false,"","", 0⟩,⟨"B", 52,53,false,"","", 224⟩],106,448,(i64 0::i64 0::(C1 u8 ((Arr.rep 32 (0:UInt8))).l++i64 0::i64 0::i64 0::i64 0::i64 0::i64 0::i64 0::i64 0::i64 0::i64 0::i64 0::i64 0::i64 0::i64 0::i64 0::.str (([]:List UInt8))::.sl true (L An ([]))::u64 ((0:UInt64))::u64 ((0:UInt64))::i64 0::i64 0::(C1 u8 ((Arr.rep 32 (0:UInt8))).l++[i64 0,i64 0,i64 0,i64 0,i64 0,i64 0,i64 0,i64 0,i64 0,i64 0,i64 0,i64 0,i64 0,i64 0,i64 0,.str (([]:List UInt8)),.sl true (L An ([])),u64 ((0:UInt64)),u64 ((0:UInt64))])))⟩:=(A8 Tryz.prog 88).trans tt88
theorem Aqo:B9 Tryz.prog 103=some ⟨.slice 105,1,24,[.sl true (L cApi_Value ([]))]⟩:=by kernel_rfl
theorem Afz(F:Out):(B.env F).tab 103=some ⟨.slice 105,1,24,[.sl true (L cApi_Value ([]))]⟩:=(A8 Tryz.prog 103).trans Aqo
theorem Apn:B9 Tryz.prog 105=some ⟨.struct #[⟨"Kind", 3,0,false,"","", 0⟩,⟨"N", 3,1,false,"","", 8⟩,⟨"B", 63,2,false,"","", 16⟩,⟨"L", 103,3,false,"","", 40⟩],4,64,[i64 0,i64 0,.sl true (L cU8 ([])),.sl true (L cApi_Value ([]))]⟩:=by kernel_rfl
theorem Akw(F:Out):(B.env F).tab 105=some ⟨.struct #[⟨"Kind", 3,0,false,"","", 0⟩,⟨"N", 3,1,false,"","", 8⟩,⟨"B", 63,2,false,"","", 16⟩,⟨"L", 103,3,false,"","", 40⟩],4,64,[i64 0,i64 0,.sl true (L cU8 ([])),.sl true (L cApi_Value ([]))]⟩:=(A8 Tryz.prog 105).trans Apn
theorem Arx:B9 Tryz.prog 120=some ⟨.struct #[⟨"Kind", 3,0,false,"","", 0⟩,⟨"Railway", 3,1,false,"","", 8⟩,⟨"Other", 3,2,false,"","", 16⟩],3,24,[i64 0,i64 0,i64 0]⟩:=by kernel_rfl
theorem An4(F:Out):(B.env F).tab 120=some ⟨.struct #[⟨"Kind", 3,0,false,"","", 0⟩,⟨"Railway", 3,1,false,"","", 8⟩,⟨"Other", 3,2,false,"","", 16⟩],3,24,[i64 0,i64 0,i64 0]⟩:=(A8 Tryz.prog 120).trans Arx
theorem Ar3:B9 Tryz.prog 122=some ⟨.struct #[⟨"A", 3,0,false,"","", 0⟩,⟨"B", 3,1,false,"","", 8⟩,⟨"Railway", 3,2,false,"","", 16⟩,⟨"Minutes", 3,3,false,"","", 24⟩,⟨"Km", 3,4,false,"","", 32⟩],5,40,[i64 0,i64 0,i64 0,i64 0,i64 0]⟩:=by kernel_rfl
theorem Amb(F:Out):(B.env F).tab 122=some ⟨.struct #[⟨"A", 3,0,false,"","", 0⟩,⟨"B", 3,1,false,"","", 8⟩,⟨"Railway", 3,2,false,"","", 16⟩,⟨"Minutes", 3,3,false,"","", 24⟩,⟨"Km", 3,4,false,"","", 32⟩],5,40,[i64 0,i64 0,i64 0,i64 0,i64 0]⟩:=(A8 Tryz.prog 122).trans Ar3
theorem ApJ:B9 Tryz.prog 124=some ⟨.struct #[⟨"Load", 3,0,false,"","", 0⟩,⟨"Tare", 3,1,false,"","", 8⟩,⟨"Length", 3,2,false,"","", 16⟩,⟨"Gauge", 3,3,false,"","", 24⟩,⟨"Brake", 3,4,false,"","", 32⟩,⟨"Classes", 48,5,false,"","", 40⟩,⟨"Life", 3,6,false,"","", 48⟩,⟨"Floor", 3,7,false,"","", 56⟩],8,64,[i64 0,i64 0,i64 0,i64 0,i64 0,u64 ((0:UInt64)),i64 0,i64 0]⟩:=by kernel_rfl
theorem Aod(F:Out):(B.env F).tab 124=some ⟨.struct #[⟨"Load", 3,0,false,"","", 0⟩,⟨"Tare", 3,1,false,"","", 8⟩,⟨"Length", 3,2,false,"","", 16⟩,⟨"Gauge", 3,3,false,"","", 24⟩,⟨"Brake", 3,4,false,"","", 32⟩,⟨"Classes", 48,5,false,"","", 40⟩,⟨"Life", 3,6,false,"","", 48⟩,⟨"Floor", 3,7,false,"","", 56⟩],8,64,[i64 0,i64 0,i64 0,i64 0,i64 0,u64 ((0:UInt64)),i64 0,i64 0]⟩:=(A8 Tryz.prog 124).trans ApJ
theorem AqK:B9 Tryz.prog 126=some ⟨.struct #[⟨"Type", 3,0,false,"","", 0⟩,⟨"Owner", 3,1,false,"","", 8⟩,⟨"Home", 3,2,false,"","", 16⟩,⟨"Built", 3,3,false,"","", 24⟩,⟨"Worth", 3,4,false,"","", 32⟩],5,40,[i64 0,i64 0,i64 0,i64 0,i64 0]⟩:=by kernel_rfl
theorem AnT(F:Out):(B.env F).tab 126=some ⟨.struct #[⟨"Type", 3,0,false,"","", 0⟩,⟨"Owner", 3,1,false,"","", 8⟩,⟨"Home", 3,2,false,"","", 16⟩,⟨"Built", 3,3,false,"","", 24⟩,⟨"Worth", 3,4,false,"","", 32⟩],5,40,[i64 0,i64 0,i64 0,i64 0,i64 0]⟩:=(A8 Tryz.prog 126).trans AqK
theorem ArA:B9 Tryz.prog 128=some ⟨.struct #[⟨"Place", 3,0,false,"","", 0⟩,⟨"Low", 3,1,false,"","", 8⟩,⟨"High", 3,2,false,"","", 16⟩],3,24,[i64 0,i64 0,i64 0]⟩:=by kernel_rfl
theorem Am7(F:Out):(B.env F).tab 128=some ⟨.struct #[⟨"Place", 3,0,false,"","", 0⟩,⟨"Low", 3,1,false,"","", 8⟩,⟨"High", 3,2,false,"","", 16⟩],3,24,[i64 0,i64 0,i64 0]⟩:=(A8 Tryz.prog 128).trans ArA
theorem Ap4:B9 Tryz.prog 130=some ⟨.struct #[⟨"Place", 3,0,false,"","", 0⟩],1,8,[i64 0]⟩:=by kernel_rfl
theorem AnE(F:Out):(B.env F).tab 130=some ⟨.struct #[⟨"Place", 3,0,false,"","", 0⟩],1,8,[i64 0]⟩:=(A8 Tryz.prog 130).trans Ap4
theorem Arj:B9 Tryz.prog 138=some ⟨.map 44 143,1,8,[.val (.map none)]⟩:=by kernel_rfl
theorem Apu(F:Out):(B.env F).tab 138=some ⟨.map 44 143,1,8,[.val (.map none)]⟩:=(A8 Tryz.prog 138).trans Arj
theorem Apv:B9 Tryz.prog 143=some ⟨.struct #[⟨"Ref", 44,0,false,"","", 0⟩,⟨"By", 44,2,false,"","", 16⟩,⟨"Time", 3,4,false,"","", 32⟩,⟨"Item", 47,5,false,"","", 40⟩],21,192,[i64 0,i64 0,i64 0,i64 0,i64 0,i64 0,i64 0,i64 0,i64 0,i64 0,i64 0,i64 0,i64 0,i64 0,i64 0,i64 0,i64 0,i64 0,i64 0,.str (([]:List UInt8)),.sl true (L An ([]))]⟩:=by kernel_rfl
theorem AjC(F:Out):(B.env F).tab 143=some ⟨.struct #[⟨"Ref", 44,0,false,"","", 0⟩,⟨"By", 44,2,false,"","", 16⟩,⟨"Time", 3,4,false,"","", 32⟩,⟨"Item", 47,5,false,"","", 40⟩],21,192,[i64 0,i64 0,i64 0,i64 0,i64 0,i64 0,i64 0,i64 0,i64 0,i64 0,i64 0,i64 0,i64 0,i64 0,i64 0,i64 0,i64 0,i64 0,i64 0,.str (([]:List UInt8)),.sl true (L An ([]))]⟩:=(A8 Tryz.prog 143).trans Apv
theorem Aqa:B9 Tryz.prog 155=some ⟨.struct #[⟨"Wanted", 3,0,false,"","", 0⟩,⟨"Given", 3,1,false,"","", 8⟩,⟨"Cost", 3,2,false,"","", 16⟩],3,24,[i64 0,i64 0,i64 0]⟩:=by kernel_rfl
theorem AmI(F:Out):(B.env F).tab 155=some ⟨.struct #[⟨"Wanted", 3,0,false,"","", 0⟩,⟨"Given", 3,1,false,"","", 8⟩,⟨"Cost", 3,2,false,"","", 16⟩],3,24,[i64 0,i64 0,i64 0]⟩:=(A8 Tryz.prog 155).trans Aqa
theorem Aqz:B9 Tryz.prog 177=some ⟨.pointer 3,1,8,[.val (.pointer none)]⟩:=by kernel_rfl
theorem Anx(F:Out):(B.env F).tab 177=some ⟨.pointer 3,1,8,[.val (.pointer none)]⟩:=(A8 Tryz.prog 177).trans Aqz
theorem ApS:B9 Tryz.prog 178=some ⟨.array 11 177,11,88,[.val (.pointer none),.val (.pointer none),.val (.pointer none),.val (.pointer none),.val (.pointer none),.val (.pointer none),.val (.pointer none),.val (.pointer none),.val (.pointer none),.val (.pointer none),.val (.pointer none)]⟩:=by kernel_rfl
theorem Alx(F:Out):(B.env F).tab 178=some ⟨.array 11 177,11,88,[.val (.pointer none),.val (.pointer none),.val (.pointer none),.val (.pointer none),.val (.pointer none),.val (.pointer none),.val (.pointer none),.val (.pointer none),.val (.pointer none),.val (.pointer none),.val (.pointer none)]⟩:=(A8 Tryz.prog 178).trans ApS
theorem Aqi:B9 Tryz.prog 182=some ⟨.struct #[⟨"Kind", 3,0,false,"","", 0⟩,⟨"Serial", 3,1,false,"","", 8⟩,⟨"Fitted", 4,2,false,"","", 16⟩],3,24,[i64 0,i64 0,.bool false]⟩:=by kernel_rfl
theorem Air(F:Out):(B.env F).tab 182=some ⟨.struct #[⟨"Kind", 3,0,false,"","", 0⟩,⟨"Serial", 3,1,false,"","", 8⟩,⟨"Fitted", 4,2,false,"","", 16⟩],3,24,[i64 0,i64 0,.bool false]⟩:=(A8 Tryz.prog 182).trans Aqi
theorem Aqu:B9 Tryz.prog 184=some ⟨.int .u64,1,8,[u64 ((0:UInt64))]⟩:=by kernel_rfl
theorem Ap9(F:Out):(B.env F).tab 184=some ⟨.int .u64,1,8,[u64 ((0:UInt64))]⟩:=(A8 Tryz.prog 184).trans Aqu
theorem Arp:B9 Tryz.prog 197=some ⟨.slice 4,1,24,[.sl true (L Pw ([]))]⟩:=by kernel_rfl
theorem Akk(F:Out):(B.env F).tab 197=some ⟨.slice 4,1,24,[.sl true (L Pw ([]))]⟩:=(A8 Tryz.prog 197).trans Arp
theorem Asq:B9 Tryz.prog 199=some ⟨.struct #[⟨"From", 3,0,false,"","", 0⟩,⟨"To", 3,1,false,"","", 8⟩,⟨"Minutes", 3,2,false,"","", 16⟩],3,24,[i64 0,i64 0,i64 0]⟩:=by kernel_rfl
theorem AnP(F:Out):(B.env F).tab 199=some ⟨.struct #[⟨"From", 3,0,false,"","", 0⟩,⟨"To", 3,1,false,"","", 8⟩,⟨"Minutes", 3,2,false,"","", 16⟩],3,24,[i64 0,i64 0,i64 0]⟩:=(A8 Tryz.prog 199).trans Asq
theorem Asc:B9 Tryz.prog 204=some ⟨.slice 48,1,24,[.sl true (L Ui ([]))]⟩:=by kernel_rfl
theorem Alk(F:Out):(B.env F).tab 204=some ⟨.slice 48,1,24,[.sl true (L Ui ([]))]⟩:=(A8 Tryz.prog 204).trans Asc
theorem Aql:B9 Tryz.prog 208=some ⟨.array 64 4,64,64,(C1 AV.bool ((Arr.rep 64 false)).l)⟩:=RZ (by kernel_rfl) (by kernel_rfl)
theorem Ajs(F:Out):(B.env F).tab 208=some ⟨.array 64 4,64,64,(C1 AV.bool ((Arr.rep 64 false)).l)⟩:=(A8 Tryz.prog 208).trans Aql
theorem Aqy:B9 Tryz.prog 209=some ⟨.array 64 208,4096,4096,(C1 AV.bool ((Arr.rep 4096 false)).l)⟩:=RZ (by kernel_rfl) (by kernel_rfl)
theorem AlY(F:Out):(B.env F).tab 209=some ⟨.array 64 208,4096,4096,(C1 AV.bool ((Arr.rep 4096 false)).l)⟩:=(A8 Tryz.prog 209).trans Aqy
theorem ApV:B9 Tryz.prog 211=some ⟨.struct #[⟨"p", 36,0,false,"","wagonpool/edi", 0⟩,⟨"it", 47,9,false,"","wagonpool/edi", 216⟩,⟨"ok", 4,25,false,"","wagonpool/edi", 368⟩],26,376,[.sl true (L Am ([])),.sl true (L Au ([])),.sl true (L Ac ([])),.sl true (L Af ([])),.sl true (L Al ([])),.sl true (L Ak ([])),.sl true (L As ([])),.sl true (L Ap ([])),.sl true (L Ae ([])),i64 0,i64 0,i64 0,i64 0,i64 0,i64 0,i64 0,i64 0,i64 0,i64 0,i64 0,i64 0,i64 0,i64 0,.str (([]:List UInt8)),.sl true (L An ([])),.bool false]⟩:=by kernel_rfl
theorem ArN(F:Out):(B.env F).tab 211=some ⟨.struct #[⟨"p", 36,0,false,"","wagonpool/edi", 0⟩,⟨"it", 47,9,false,"","wagonpool/edi", 216⟩,⟨"ok", 4,25,false,"","wagonpool/edi", 368⟩],26,376,[.sl true (L Am ([])),.sl true (L Au ([])),.sl true (L Ac ([])),.sl true (L Af ([])),.sl true (L Al ([])),.sl true (L Ak ([])),.sl true (L As ([])),.sl true (L Ap ([])),.sl true (L Ae ([])),i64 0,i64 0,i64 0,i64 0,i64 0,i64 0,i64 0,i64 0,i64 0,i64 0,i64 0,i64 0,i64 0,i64 0,.str (([]:List UInt8)),.sl true (L An ([])),.bool false]⟩:=(A8 Tryz.prog 211).trans ApV
theorem Asr:B9 Tryz.prog 219=some ⟨.slice 63,1,24,[.sl true (L (cSl cU8) ([]))]⟩:=by kernel_rfl
theorem AnJ(F:Out):(B.env F).tab 219=some ⟨.slice 63,1,24,[.sl true (L (cSl cU8) ([]))]⟩:=(A8 Tryz.prog 219).trans Asr
theorem Aqg:B9 Tryz.prog 220=some ⟨.int .u32,1,4,[u32 ((0:UInt32))]⟩:=by kernel_rfl
theorem AeE(F:Out):(B.env F).tab 220=some ⟨.int .u32,1,4,[u32 ((0:UInt32))]⟩:=(A8 Tryz.prog 220).trans Aqg
theorem Ao8:B9 Tryz.prog 221=some ⟨.array 8 220,8,32,(C1 u32 ((Arr.rep 8 (0:UInt32))).l)⟩:=by kernel_rfl
theorem Alf(F:Out):(B.env F).tab 221=some ⟨.array 8 220,8,32,(C1 u32 ((Arr.rep 8 (0:UInt32))).l)⟩:=(A8 Tryz.prog 221).trans Ao8
theorem ArT:B9 Tryz.prog 232=some ⟨.array 64 220,64,256,(C1 u32 ((Arr.rep 64 (0:UInt32))).l)⟩:=by kernel_rfl
theorem Ajg(F:Out):(B.env F).tab 232=some ⟨.array 64 220,64,256,(C1 u32 ((Arr.rep 64 (0:UInt32))).l)⟩:=(A8 Tryz.prog 232).trans ArT
theorem Aoj:AV.int .u32 0=u32 0:=rfl
theorem RO:AV.int .u32 113926993=u32 113926993:=rfl
theorem RU:AV.int .u32 264347078=u32 264347078:=rfl
theorem RW:AV.int .u32 275423344=u32 275423344:=rfl
theorem Ru:AV.int .u32 310598401=u32 310598401:=rfl
theorem R8:AV.int .u32 338241895=u32 338241895:=rfl
theorem Rd:AV.int .u32 430227734=u32 430227734:=rfl
theorem RK:AV.int .u32 506948616=u32 506948616:=rfl
theorem RT:AV.int .u32 528734635=u32 528734635:=rfl
theorem R6:AV.int .u32 604807628=u32 604807628:=rfl
theorem Rb:AV.int .u32 607225278=u32 607225278:=rfl
theorem RC:AV.int .u32 659060556=u32 659060556:=rfl
theorem Rs:AV.int .u32 666307205=u32 666307205:=rfl
theorem RP:AV.int .u32 770255983=u32 770255983:=rfl
theorem R4:AV.int .u32 773529912=u32 773529912:=rfl
theorem RI:AV.int .u32 883997877=u32 883997877:=rfl
theorem Ri:AV.int .u32 958139571=u32 958139571:=rfl
theorem Rq:AV.int .u32 961987163=u32 961987163:=rfl
theorem Qd:AV.int .u32 1013904242=u32 1013904242:=rfl
theorem QG:AV.int .u32 1116352408=u32 1116352408:=rfl
theorem QC:AV.int .u32 1249150122=u32 1249150122:=rfl
theorem OA:AV.int .u32 1294757372=u32 1294757372:=rfl
theorem P8:AV.int .u32 1322822218=u32 1322822218:=rfl
theorem Pc:AV.int .u32 1359893119=u32 1359893119:=rfl
theorem Qe:AV.int .u32 1396182291=u32 1396182291:=rfl
theorem Q7:AV.int .u32 1426881987=u32 1426881987:=rfl
theorem Oy:AV.int .u32 1508970993=u32 1508970993:=rfl
theorem Qb:AV.int .u32 1537002063=u32 1537002063:=rfl
theorem QO:AV.int .u32 1541459225=u32 1541459225:=rfl
theorem QL:AV.int .u32 1555081692=u32 1555081692:=rfl
theorem QK:AV.int .u32 1695183700=u32 1695183700:=rfl
theorem PD:AV.int .u32 1747873779=u32 1747873779:=rfl
theorem Ov:AV.int .u32 1779033703=u32 1779033703:=rfl
theorem Pn:AV.int .u32 1899447441=u32 1899447441:=rfl
theorem Qa:AV.int .u32 1925078388=u32 1925078388:=rfl
theorem QT:AV.int .u32 1955562222=u32 1955562222:=rfl
theorem Q6:AV.int .u32 1986661051=u32 1986661051:=rfl
theorem Qi:AV.int .u32 1996064986=u32 1996064986:=rfl
theorem O2:AV.int .u32 2024104815=u32 2024104815:=rfl
theorem OD:AV.int .u32 2162078206=u32 2162078206:=rfl
theorem PH:AV.int .u32 2177026350=u32 2177026350:=rfl
theorem Qk:AV.int .u32 2227730452=u32 2227730452:=rfl
theorem P0:AV.int .u32 2361852424=u32 2361852424:=rfl
theorem OP:AV.int .u32 2428436474=u32 2428436474:=rfl
theorem Qw:AV.int .u32 2453635748=u32 2453635748:=rfl
theorem QV:AV.int .u32 2456956037=u32 2456956037:=rfl
theorem PT:AV.int .u32 2554220882=u32 2554220882:=rfl
theorem PQ:AV.int .u32 2600822924=u32 2600822924:=rfl
theorem Qg:AV.int .u32 2614888103=u32 2614888103:=rfl
theorem PG:AV.int .u32 2730485921=u32 2730485921:=rfl
theorem OO:AV.int .u32 2756734187=u32 2756734187:=rfl
theorem PK:AV.int .u32 2773480762=u32 2773480762:=rfl
theorem QU:AV.int .u32 2820302411=u32 2820302411:=rfl
theorem PC:AV.int .u32 2821834349=u32 2821834349:=rfl
theorem QR:AV.int .u32 2870763221=u32 2870763221:=rfl
theorem Pi:AV.int .u32 2952996808=u32 2952996808:=rfl
theorem Pz:AV.int .u32 3049323471=u32 3049323471:=rfl
theorem QI:AV.int .u32 3144134277=u32 3144134277:=rfl
theorem QP:AV.int .u32 3204031479=u32 3204031479:=rfl
theorem OS:AV.int .u32 3210313671=u32 3210313671:=rfl
theorem Po:AV.int .u32 3248222580=u32 3248222580:=rfl
theorem OR:AV.int .u32 3259730800=u32 3259730800:=rfl
theorem Pp:AV.int .u32 3329325298=u32 3329325298:=rfl
theorem PX:AV.int .u32 3336571891=u32 3336571891:=rfl
theorem PY:AV.int .u32 3345764771=u32 3345764771:=rfl
theorem Pl:AV.int .u32 3516065817=u32 3516065817:=rfl
theorem Qp:AV.int .u32 3584528711=u32 3584528711:=rfl
theorem O5:AV.int .u32 3600352804=u32 3600352804:=rfl
theorem OT:AV.int .u32 3624381080=u32 3624381080:=rfl
theorem Qj:AV.int .u32 3835390401=u32 3835390401:=rfl
theorem Q5:AV.int .u32 3921009573=u32 3921009573:=rfl
theorem OH:AV.int .u32 4022224774=u32 4022224774:=rfl
theorem ON:AV.int .u32 4094571909=u32 4094571909:=rfl
theorem Ans:AV.int .u64 0=u64 0:=rfl
theorem AmS:AV.int .u64 1=u64 1:=rfl
theorem Alp:AV.int .u64 2=u64 2:=rfl
theorem AmM:AV.int .u64 3=u64 3:=rfl
theorem Amh:AV.int .u64 4=u64 4:=rfl
theorem Anl:AV.int .u64 7=u64 7:=rfl
theorem AnL:AV.int .u64 8=u64 8:=rfl
theorem Ajx:AV.int .u64 10=u64 10:=rfl
theorem Ahv:AV.int .u64 16=u64 16:=rfl
theorem AiJ:AV.int .u64 24=u64 24:=rfl
theorem AhM:AV.int .u64 31=u64 31:=rfl
theorem AiC:AV.int .u64 32=u64 32:=rfl
theorem Ai1:AV.int .u64 64=u64 64:=rfl
theorem AeU:AV.int .u64 256=u64 256:=rfl
theorem Aba:AV.int .u64 65536=u64 65536:=rfl
theorem OV:AV.int .u64 4294967295=u64 4294967295:=rfl
theorem Qz:AV.int .u64 4294967296=u64 4294967296:=rfl
theorem I4:AV.int .u64 1152921504606845398=u64 1152921504606845398:=rfl
theorem Iu:AV.int .u64 1152921504606845399=u64 1152921504606845399:=rfl
theorem ID:AV.int .u64 2305843009213690799=u64 2305843009213690799:=rfl
theorem Aqw:AV.int .u8 0=u8 0:=rfl
theorem AkX:AV.int .u8 23=u8 23:=rfl
theorem AnY:AV.int .u8 31=u8 31:=rfl
theorem Aoy:AV.int .u8 32=u8 32:=rfl
theorem Aox:AV.int .u8 40=u8 40:=rfl
theorem Aov:AV.int .u8 48=u8 48:=rfl
theorem AlA:AV.int .u8 64=u8 64:=rfl
theorem Am2:AV.int .u8 99=u8 99:=rfl
theorem Ah2:AV.int .u8 100=u8 100:=rfl
theorem AiH:AV.int .u8 102=u8 102:=rfl
theorem AiE:AV.int .u8 103=u8 103:=rfl
theorem AjH:AV.int .u8 107=u8 107:=rfl
theorem Ahq:AV.int .u8 110=u8 110:=rfl
theorem AhB:AV.int .u8 111=u8 111:=rfl
theorem Ai2:AV.int .u8 112=u8 112:=rfl
theorem Ajj:AV.int .u8 113=u8 113:=rfl
theorem Aio:AV.int .u8 116=u8 116:=rfl
theorem Ahz:AV.int .u8 119=u8 119:=rfl
theorem Ajq:AV.int .u8 120=u8 120:=rfl
theorem Ajc:AV.int .u8 127=u8 127:=rfl
theorem Ajk:AV.int .u8 128=u8 128:=rfl
theorem Aji:AV.int .u8 255=u8 255:=rfl
theorem nb36{F}:((B.env F).bty=some 36)=False:=At7 (fun h:(none:Option TypeId)=some 36=>by cases h)
theorem AfB{F}{σ:Ad}(s x:AV):Bp (B.env F) σ .append [34,34] [s,x]=match Hd σ x with
      | some new=>if H5 x 16=true then none else if ∀cs∈new,cs.length=16 then(match s with
          | .sl full els=>
            if els=[]∧full=true then
              if Cj new.length 144 then some (.bs false σ.length new.length 0 new.length,σ++[.buf 16 new false])else none
            else if new=[]then some (.sl full els,σ)
            else if full=true∧(∀cs∈els,cs.length=16)∧Cj (els.length+new.length) 144
            then some (.bs false σ.length (els.length+new.length) 0 (els.length+new.length),σ++[.buf 16 (els++new) false])else none
          | .bs full id tot off len=>match σ[id]? with
            | some (.buf k els ro)=>
              if els.length=tot∧k=16∧Cj (len+new.length) 144 then
                if off=0∧len=tot then some (.bs false id (tot+new.length) 0 (tot+new.length),σ.set id (.buf k (els++new) ro))
                else if new=[]then some (.bs full id tot off len,σ)
                else if full then some (.bs false σ.length (len+new.length) 0 (len+new.length),σ++[.buf k ((els.drop off).take len++new) false])
                else none
              else none
            |some (.tb T l)=>RH σ id tot off len 144 16 74 T l new
            |_=>none
          |_=>none)
        else none
      |none=>none:=Hi (AoG F) (ArO F) (by decide) (AoG F) (.inl ⟨_,rfl⟩) s x []
theorem nb47{F}:((B.env F).bty=some 47)=False:=At7 (fun h:(none:Option TypeId)=some 47=>by cases h)
theorem AmL{F}{σ:Ad}(f:Bool)(l:List Asu)(x:AV):Az (B.env F) σ 22 (.sl f (L Am l)) x=match idx x l.length with
 |some i=>some (.rp (Am (nth l i)))
 |none=>none:=FZ Am (tb22 F) (An4 F) (fun _=>rfl) f l x
theorem Arg{F}:((B.env F).bty=some 120)=False:=At7 (fun h:(none:Option TypeId)=some 120=>by cases h)
theorem AnR{F}{σ:Ad}(f:Bool)(l:List Asv)(x:AV):Az (B.env F) σ 23 (.sl f (L Au l)) x=match idx x l.length with
 |some i=>some (.rp (Au (nth l i)))
 |none=>none:=FZ Au (tb23 F) (Amb F) (fun _=>rfl) f l x
theorem Ao6{F}:((B.env F).bty=some 122)=False:=At7 (fun h:(none:Option TypeId)=some 122=>by cases h)
theorem nb57{F}:((B.env F).bty=some 57)=False:=At7 (fun h:(none:Option TypeId)=some 57=>by cases h)
theorem AlE{F}{σ:Ad}(f:Bool)(l:List Asx)(x:AV):Az (B.env F) σ 26 (.sl f (L Ac l)) x=match idx x l.length with
 |some i=>some (.rp (Ac (nth l i)))
 |none=>none:=FZ Ac (tb26 F) (Aod F) (fun _=>rfl) f l x
theorem AqZ{F}:((B.env F).bty=some 124)=False:=At7 (fun h:(none:Option TypeId)=some 124=>by cases h)
theorem Aob{F}{σ:Ad}(f:Bool)(id tot off len:Nat)(x:AV):Az (B.env F) σ 70 (.bs f id tot off len) x=match σ[id]?,idx x len with
 |some (.buf k els _),some i=>if els.length=tot∧k=1 then some (.eref id tot (off+i) 0)else none
 |_,_=>none:=YD (ArF F) (tb3 F) (by decide) f id tot off len x
theorem Aoh{F}{σ:Ad}(f:Bool)(l:List Asy)(x:AV):Az (B.env F) σ 27 (.sl f (L Af l)) x=match idx x l.length with
 |some i=>some (.rp (Af (nth l i)))
 |none=>none:=FZ Af (tb27 F) (AnT F) (fun _=>rfl) f l x
theorem AqY{F}:((B.env F).bty=some 126)=False:=At7 (fun h:(none:Option TypeId)=some 126=>by cases h)
theorem AkP{F}{σ:Ad}(f:Bool)(l:List Asz)(x:AV):Az (B.env F) σ 28 (.sl f (L Al l)) x=match idx x l.length with
 |some i=>some (.rp (Al (nth l i)))
 |none=>none:=FZ Al (tb28 F) (AmI F) (fun _=>rfl) f l x
theorem Ar4{F}:((B.env F).bty=some 155)=False:=At7 (fun h:(none:Option TypeId)=some 155=>by cases h)
theorem ArH{F}:((B.env F).bty=some 209)=False:=At7 (fun h:(none:Option TypeId)=some 209=>by cases h)
theorem AlJ{F}{σ:Ad}(f:Bool)(l:List AsA)(x:AV):Az (B.env F) σ 29 (.sl f (L Ak l)) x=match idx x l.length with
 |some i=>some (.rp (Ak (nth l i)))
 |none=>none:=FZ Ak (tb29 F) (AnP F) (fun _=>rfl) f l x
theorem Ari{F}:((B.env F).bty=some 199)=False:=At7 (fun h:(none:Option TypeId)=some 199=>by cases h)
theorem Akx{F}(id off:Nat)(x:AV){σ:Ad}:Az (B.env F) σ 209 (.ref id off) x=match idx x 64 with
 |some i=>some (.ref id (off+i*64))
 |none=>none:=MB (AlY F) (Ajs F) id off x
theorem Ai5{F}(id off:Nat)(x:AV){σ:Ad}:Az (B.env F) σ 208 (.ref id off) x=match idx x 64 with
 |some i=>some (.ref id (off+i*1))
 |none=>none:=MB (Ajs F) (tb4 F) id off x
theorem AoM{F}(cs:List AV)(x:AV):JL (B.env F) 69 (.agg cs) x=match idx x 7 with
 |some i=>partA (⟨.struct #[⟨"From", 3,0,false,"","", 0⟩,⟨"To", 3,1,false,"","", 8⟩],2,16,[i64 0,i64 0]⟩:TD) cs (i*2)
 |none=>none:=Sg (Aru F) (Aqh F) cs x
theorem nb68{F}:((B.env F).bty=some 68)=False:=At7 (fun h:(none:Option TypeId)=some 68=>by cases h)
theorem AkZ{F}{σ:Ad}(f:Bool)(l:List Int)(x:AV):Az (B.env F) σ 70 (.sl f (L H9 l)) x=match idx x l.length with
 |some i=>some (.rp (H9 (nth l i)))
 |none=>none:=FZ H9 (ArF F) (tb3 F) (fun _=>rfl) f l x
theorem Anj{F}(l:List UInt8)(x:AV):JL (B.env F) 9 (.str l) x=match idx x l.length with
 |some i=>some (u8 (nth l i))
 |none=>none:=Aa1 (tb9 F) l x
theorem AmW{F}{σ:Ad}(f:Bool)(l:List AsC)(x:AV):Az (B.env F) σ 32 (.sl f (L As l)) x=match idx x l.length with
 |some i=>some (.rp (As (nth l i)))
 |none=>none:=FZ As (tb32 F) (Am7 F) (fun _=>rfl) f l x
theorem Ao4{F}:((B.env F).bty=some 128)=False:=At7 (fun h:(none:Option TypeId)=some 128=>by cases h)
theorem Al2{F}{σ:Ad}(f:Bool)(l:List AsD)(x:AV):Az (B.env F) σ 33 (.sl f (L Ap l)) x=match idx x l.length with
 |some i=>some (.rp (Ap (nth l i)))
 |none=>none:=FZ Ap (tb33 F) (AnE F) (fun _=>rfl) f l x
theorem Aqx{F}:((B.env F).bty=some 130)=False:=At7 (fun h:(none:Option TypeId)=some 130=>by cases h)
theorem Ann{F}{σ:Ad}(f:Bool)(l:List AsG)(x:AV):Az (B.env F) σ 34 (.sl f (L Ae l)) x=match idx x l.length with
 |some i=>some (.rp (Ae (nth l i)))
 |none=>none:=FZ Ae (AoG F) (ArO F) (fun _=>rfl) f l x
theorem nb74{F}:((B.env F).bty=some 74)=False:=At7 (fun h:(none:Option TypeId)=some 74=>by cases h)
theorem AmP{F}{σ:Ad}(f:Bool)(l:List (List AsM))(x:AV):Az (B.env F) σ 37 (.sl f (L (cSl Ab) l)) x=match idx x l.length with
 |some i=>some (.rp ((cSl Ab) (nth l i)))
 |none=>none:=FZ (cSl Ab) (AkH F) (AgU F) (fun _=>rfl) f l x
theorem Ap3{F}:((B.env F).bty=some 105)=False:=At7 (fun h:(none:Option TypeId)=some 105=>by cases h)
theorem AkW{F}(cs:List AV)(x:AV):JL (B.env F) 178 (.agg cs) x=match idx x 11 with
 |some i=>partA (⟨.pointer 3,1,8,[.val (.pointer none)]⟩:TD) cs (i*1)
 |none=>none:=Sg (Alx F) (Anx F) cs x
theorem Abn{F}{σ:Ad}(s x:AV):Bp (B.env F) σ .append [103,103] [s,x]=match Hd σ x with
      | some new=>if H5 x 4=true then none else if ∀cs∈new,cs.length=4 then(match s with
          | .sl full els=>
            if els=[]∧full=true then
              if Cj new.length 64 then some (.bs false σ.length new.length 0 new.length,σ++[.buf 4 new false])else none
            else if new=[]then some (.sl full els,σ)
            else if full=true∧(∀cs∈els,cs.length=4)∧Cj (els.length+new.length) 64
            then some (.bs false σ.length (els.length+new.length) 0 (els.length+new.length),σ++[.buf 4 (els++new) false])else none
          | .bs full id tot off len=>match σ[id]? with
            | some (.buf k els ro)=>
              if els.length=tot∧k=4∧Cj (len+new.length) 64 then
                if off=0∧len=tot then some (.bs false id (tot+new.length) 0 (tot+new.length),σ.set id (.buf k (els++new) ro))
                else if new=[]then some (.bs full id tot off len,σ)
                else if full then some (.bs false σ.length (len+new.length) 0 (len+new.length),σ++[.buf k ((els.drop off).take len++new) false])
                else none
              else none
            |some (.tb T l)=>RH σ id tot off len 64 4 105 T l new
            |_=>none
          |_=>none)
        else none
      |none=>none:=Hi (Afz F) (Akw F) (by decide) (Afz F) (.inl ⟨_,rfl⟩) s x []
theorem Aln{F}{σ:Ad}(f:Bool)(l:List AsJ)(x:AV):Az (B.env F) σ 45 (.sl f (L An l)) x=match idx x l.length with
 |some i=>some (.rp (An (nth l i)))
 |none=>none:=FZ An (tb45 F) (Air F) (fun _=>rfl) f l x
theorem ApB{F}:((B.env F).bty=some 182)=False:=At7 (fun h:(none:Option TypeId)=some 182=>by cases h)
theorem ApE{F}{σ:Ad}(l c:Int):EL (B.env F) σ 63 (i64 l) (i64 c)=if Mk l c 1 then some (.bs (l==c) σ.length l.toNat 0 l.toNat,σ++[.buf 1 (List.replicate l.toNat [u8 ((0:UInt8))]) false])else none:=XB (Aj4 F) (tb5 F) (by decide) l c
theorem Ak6{F}{σ:Ad}(f:Bool)(id tot off len:Nat)(x:AV):Az (B.env F) σ 63 (.bs f id tot off len) x=match σ[id]?,idx x len with
 |some (.buf k els _),some i=>if els.length=tot∧k=1 then some (.eref id tot (off+i) 0)else none
 |_,_=>none:=YD (Aj4 F) (tb5 F) (by decide) f id tot off len x
theorem Akd{F}{σ:Ad}(f:Bool)(l:List AsP)(x:AV):Az (B.env F) σ 103 (.sl f (L cApi_Value l)) x=match idx x l.length with
 |some i=>some (.rp (cApi_Value (nth l i)))
 |none=>none:=FZ cApi_Value (Afz F) (Akw F) (fun y=>by rw[LP];rfl) f l x
theorem AeV{F}{σ:Ad}(s x:AV):Bp (B.env F) σ .append [63,63] [s,x]=match Hd σ x with
      | some new=>if H5 x 1=true then none else if ∀cs∈new,cs.length=1 then(match s with
          | .sl full els=>
            if els=[]∧full=true then
              if Cj new.length 1 then some (.bs false σ.length new.length 0 new.length,σ++[.buf 1 new false])else none
            else if new=[]then some (.sl full els,σ)
            else if full=true∧(∀cs∈els,cs.length=1)∧Cj (els.length+new.length) 1
            then some (.bs false σ.length (els.length+new.length) 0 (els.length+new.length),σ++[.buf 1 (els++new) false])else none
          | .bs full id tot off len=>match σ[id]? with
            | some (.buf k els ro)=>
              if els.length=tot∧k=1∧Cj (len+new.length) 1 then
                if off=0∧len=tot then some (.bs false id (tot+new.length) 0 (tot+new.length),σ.set id (.buf k (els++new) ro))
                else if new=[]then some (.bs full id tot off len,σ)
                else if full then some (.bs false σ.length (len+new.length) 0 (len+new.length),σ++[.buf k ((els.drop off).take len++new) false])
                else none
              else none
            |some (.tb T l)=>RH σ id tot off len 1 1 5 T l new
            |_=>none
          |_=>none)
        else none
      |none=>none:=Hi (Aj4 F) (tb5 F) (by decide) (Aj4 F) (.inl ⟨_,rfl⟩) s x []
theorem Am6{F}{σ:Ad}(f:Bool)(l:List UInt8)(x:AV):Az (B.env F) σ 63 (.sl f (L cU8 l)) x=match idx x l.length with
 |some i=>some (.rp (cU8 (nth l i)))
 |none=>none:=FZ cU8 (Aj4 F) (tb5 F) (fun _=>rfl) f l x
theorem AqJ{F}:((B.env F).bty=some 221)=False:=At7 (fun h:(none:Option TypeId)=some 221=>by cases h)
theorem Apf{F}:((B.env F).bty=some 232)=False:=At7 (fun h:(none:Option TypeId)=some 232=>by cases h)
theorem Ah1{F}{σ:Ad}(id off:Nat)(x:AV):Az (B.env F) σ 232 (.ref id off) x=match idx x 64 with
 |some i=>some (.ref id (off+i*1))
 |none=>none:=MB (Ajg F) (AeE F) id off x
theorem Aj9{F}{σ:Ad}(id off:Nat)(x:AV):Az (B.env F) σ 221 (.ref id off) x=match idx x 8 with
 |some i=>some (.ref id (off+i*1))
 |none=>none:=MB (Alf F) (AeE F) id off x
theorem AdD{F}{σ:Ad}(x:AV):Az (B.env F) σ 232 (.glob 3) x=match idx x 64 with
 |some i=>some (.rp ((C1 u32 glob3.l).drop i))
 |none=>none:=Aew (Ajg F) (AeE F) rfl x
theorem nb42{F}:((B.env F).bty=some 42)=False:=At7 (fun h:(none:Option TypeId)=some 42=>by cases h)
theorem Aj5{F}{σ:Ad}(f:Bool)(l:List (List UInt8))(x:AV):Az (B.env F) σ 219 (.sl f (L (cSl cU8) l)) x=match idx x l.length with
 |some i=>some (.rp ((cSl cU8) (nth l i)))
 |none=>none:=FZ (cSl cU8) (AnJ F) (Aj4 F) (fun _=>rfl) f l x
theorem Anr{F}{σ:Ad}(id off:Nat)(x:AV):Az (B.env F) σ 42 (.ref id off) x=match idx x 32 with
 |some i=>some (.ref id (off+i*1))
 |none=>none:=MB (Apd F) (tb5 F) id off x
theorem Ai9{F}{σ:Ad}(f:Bool)(l:List UInt64)(x:AV):Az (B.env F) σ 204 (.sl f (L Ui l)) x=match idx x l.length with
 |some i=>some (.rp (Ui (nth l i)))
 |none=>none:=FZ Ui (Alk F) (AoE F) (fun _=>rfl) f l x
theorem nb50{F}:((B.env F).bty=some 50)=False:=At7 (fun h:(none:Option TypeId)=some 50=>by cases h)
theorem Agx{F}(a0:Int)(a1:Int)(b0:Int)(b1:Int):AM (B.env F) .eql 44 (.agg [i64 a0,i64 a1]) (.agg [i64 b0,i64 b1])=some (.bool (((a0==b0)&&(a1==b1)))) :=
 KR (ApC F) (by kernel_rfl) (by kernel_rfl) (KE (by decide) (tb3 F) rfl rfl (MN a0 b0) (NQ (by decide) (tb3 F) rfl rfl (MN a1 b1)))
theorem ArP{F}:((B.env F).bty=some 211)=False:=At7 (fun h:(none:Option TypeId)=some 211=>by cases h)
theorem AmX{F}{op:BinOp}(a b:Arr UInt8 32):AM (B.env F) op 42 (.agg (C1 u8 a.l)) (.agg (C1 u8 b.l))=match op with
 |.eql=>some (.bool (a==b))
 |.neq=>some (.bool (!(a==b)))
 |_=>none:=AaE (Apd F) (tb5 F) a b
theorem AfZ{F}(a0:UInt64)(a1:UInt64)(b0:UInt64)(b1:UInt64):AM (B.env F) .eql 50 (.agg [u64 a0,u64 a1]) (.agg [u64 b0,u64 b1])=some (.bool (((a0==b0)&&(a1==b1)))) :=
 KR (tb50 F) (by kernel_rfl) (by kernel_rfl) (KE (by decide) (AoE F) rfl rfl (Aco a0 b0) (NQ (by decide) (AoE F) rfl rfl (Aco a1 b1)))
theorem Aok{F}{σ:Ad}(f:Bool)(l:List AsM)(x:AV):Az (B.env F) σ 75 (.sl f (L Ab l)) x=match idx x l.length with
 |some i=>some (.rp (Ab (nth l i)))
 |none=>none:=FZ Ab (AgU F) (Ap1 F) (fun y=>by simp only[Ab,Ati,Ate,Em,Atr]) f l x
theorem nb44{F}:((B.env F).bty=some 44)=False:=At7 (fun h:(none:Option TypeId)=some 44=>by cases h)
theorem AeS{F}(a0:Int)(a1:Int)(b0:Int)(b1:Int):AM (B.env F) .neq 44 (.agg [i64 a0,i64 a1]) (.agg [i64 b0,i64 b1])=some (.bool (!((a0==b0)&&(a1==b1)))) :=
 KX (ApC F) (by kernel_rfl) (by kernel_rfl) (KE (by decide) (tb3 F) rfl rfl (MN a0 b0) (NQ (by decide) (tb3 F) rfl rfl (MN a1 b1)))
theorem Ae5{F}{σ:Ad}(s x:AV):Bp (B.env F) σ .append [75,75] [s,x]=match Hd σ x with
      | some new=>if H5 x 53=true then none else if ∀cs∈new,cs.length=53 then(match s with
          | .sl full els=>
            if els=[]∧full=true then
              if Cj new.length 224 then some (.bs false σ.length new.length 0 new.length,σ++[.buf 53 new false])else none
            else if new=[]then some (.sl full els,σ)
            else if full=true∧(∀cs∈els,cs.length=53)∧Cj (els.length+new.length) 224
            then some (.bs false σ.length (els.length+new.length) 0 (els.length+new.length),σ++[.buf 53 (els++new) false])else none
          | .bs full id tot off len=>match σ[id]? with
            | some (.buf k els ro)=>
              if els.length=tot∧k=53∧Cj (len+new.length) 224 then
                if off=0∧len=tot then some (.bs false id (tot+new.length) 0 (tot+new.length),σ.set id (.buf k (els++new) ro))
                else if new=[]then some (.bs full id tot off len,σ)
                else if full then some (.bs false σ.length (len+new.length) 0 (len+new.length),σ++[.buf k ((els.drop off).take len++new) false])
                else none
              else none
            |some (.tb T l)=>RH σ id tot off len 224 53 52 T l new
            |_=>none
          |_=>none)
        else none
      |none=>none:=Hi (AgU F) (Ap1 F) (by decide) (AgU F) (.inl ⟨_,rfl⟩) s x []
theorem Ant{F}{σ:Ad}(f:Bool)(l:List AsN)(x:AV):Az (B.env F) σ 38 (.sl f (L A3 l)) x=match idx x l.length with
 |some i=>some (.rp (A3 (nth l i)))
 |none=>none:=FZ A3 (AoI F) (AqG F) (fun y=>by simp only[A3,Ati,Ate,Em,Atr]) f l x
theorem AeH{F}{σ:Ad}(s x:AV):Bp (B.env F) σ .append [38,38] [s,x]=match Hd σ x with
      | some new=>if H5 x 106=true then none else if ∀cs∈new,cs.length=106 then(match s with
          | .sl full els=>
            if els=[]∧full=true then
              if Cj new.length 448 then some (.bs false σ.length new.length 0 new.length,σ++[.buf 106 new false])else none
            else if new=[]then some (.sl full els,σ)
            else if full=true∧(∀cs∈els,cs.length=106)∧Cj (els.length+new.length) 448
            then some (.bs false σ.length (els.length+new.length) 0 (els.length+new.length),σ++[.buf 106 (els++new) false])else none
          | .bs full id tot off len=>match σ[id]? with
            | some (.buf k els ro)=>
              if els.length=tot∧k=106∧Cj (len+new.length) 448 then
                if off=0∧len=tot then some (.bs false id (tot+new.length) 0 (tot+new.length),σ.set id (.buf k (els++new) ro))
                else if new=[]then some (.bs full id tot off len,σ)
                else if full then some (.bs false σ.length (len+new.length) 0 (len+new.length),σ++[.buf k ((els.drop off).take len++new) false])
                else none
              else none
            |some (.tb T l)=>RH σ id tot off len 448 106 88 T l new
            |_=>none
          |_=>none)
        else none
      |none=>none:=Hi (AoI F) (AqG F) (by decide) (AoI F) (.inl ⟨_,rfl⟩) s x []
theorem nb40{F}:((B.env F).bty=some 40)=False:=At7 (fun h:(none:Option TypeId)=some 40=>by cases h)
theorem Apr{F}{σ:Ad}(l c:Int):EL (B.env F) σ 37 (i64 l) (i64 c)=if Mk l c 24 then some (.bs (l==c) σ.length l.toNat 0 l.toNat,σ++[.buf 1 (List.replicate l.toNat [.sl false (L Ab ([]))]) false])else none:=XB (AkH F) (AgU F) (by decide) l c
theorem All{F}{σ:Ad}(f:Bool)(id tot off len:Nat)(x:AV):Az (B.env F) σ 37 (.bs f id tot off len) x=match σ[id]?,idx x len with
 |some (.buf k els _),some i=>if els.length=tot∧k=1 then some (.eref id tot (off+i) 0)else none
 |_,_=>none:=YD (AkH F) (AgU F) (by decide) f id tot off len x
theorem nb52{F}:((B.env F).bty=some 52)=False:=At7 (fun h:(none:Option TypeId)=some 52=>by cases h)
theorem AbM{F}(a0:Int)(a1:Int)(a2:Bool)(b0:Int)(b1:Int)(b2:Bool):AM (B.env F) .neq 182 (.agg [i64 a0,i64 a1,.bool a2]) (.agg [i64 b0,i64 b1,.bool b2])=some (.bool (!((a0==b0)&&((a1==b1)&&(a2==b2))))) :=
 KX (Air F) (by kernel_rfl) (by kernel_rfl) (KE (by decide) (tb3 F) rfl rfl (MN a0 b0) (KE (by decide) (tb3 F) rfl rfl (MN a1 b1) (NQ (by decide) (tb4 F) rfl rfl (Agz a2 b2))))
theorem nb88{F}:((B.env F).bty=some 88)=False:=At7 (fun h:(none:Option TypeId)=some 88=>by cases h)
theorem AfL{F}{σ:Ad}(s x:AV):Bp (B.env F) σ .append [37,37] [s,x]=match Hd σ x with
      | some new=>if H5 x 1=true then none else if ∀cs∈new,cs.length=1 then(match s with
          | .sl full els=>
            if els=[]∧full=true then
              if Cj new.length 24 then some (.bs false σ.length new.length 0 new.length,σ++[.buf 1 new false])else none
            else if new=[]then some (.sl full els,σ)
            else if full=true∧(∀cs∈els,cs.length=1)∧Cj (els.length+new.length) 24
            then some (.bs false σ.length (els.length+new.length) 0 (els.length+new.length),σ++[.buf 1 (els++new) false])else none
          | .bs full id tot off len=>match σ[id]? with
            | some (.buf k els ro)=>
              if els.length=tot∧k=1∧Cj (len+new.length) 24 then
                if off=0∧len=tot then some (.bs false id (tot+new.length) 0 (tot+new.length),σ.set id (.buf k (els++new) ro))
                else if new=[]then some (.bs full id tot off len,σ)
                else if full then some (.bs false σ.length (len+new.length) 0 (len+new.length),σ++[.buf k ((els.drop off).take len++new) false])
                else none
              else none
            |some (.tb T l)=>RH σ id tot off len 24 1 75 T l new
            |_=>none
          |_=>none)
        else none
      |none=>none:=Hi (AkH F) (AgU F) (by decide) (AkH F) (.inl ⟨_,rfl⟩) s x []
theorem nb85{F}:((B.env F).bty=some 85)=False:=At7 (fun h:(none:Option TypeId)=some 85=>by cases h)
theorem Ah4{F}:Ahk (B.env F) 138=true:=rfl
def F2(x:AsR):AV:=.agg (AB x)
def Dp:AsR:=({ Ref:=({ Zb:=0,No:=0 }:AsI),By:=({ Zb:=0,No:=0 }:AsI),Zw1:=0,Zx1:=({ Za:=0,Ref:=({ Zb:=0,No:=0 }:AsI),Zn1:=0,Zb1:=0,Zc:=0,Zo1:=0,Zw:=0,To:=0,Code:=0,Zp1:=0,Zq1:=0,Zr1:=0,Zs1:=0,Zt1:=([]:List UInt8),Zu1:=[] }:AsK) }:AsR)
theorem Aj6(a0:Int)(a1:Int)(a2:Int)(a3:Int)(a4:Int)(a5:Int)(a6:Int)(a7:Int)(a8:Int)(a9:Int)(a10:Int)(a11:Int)(a12:Int)(a13:Int)(a14:Int)(a15:Int)(a16:Int)(a17:Int)(a18:Int)(a19:List UInt8)(a20:List AsJ){l:List ((Int×Int)×AsR)}{k:Int×Int}:NL (M2 F2 l) k (.agg [i64 a0,i64 a1,i64 a2,i64 a3,i64 a4,i64 a5,i64 a6,i64 a7,i64 a8,i64 a9,i64 a10,i64 a11,i64 a12,i64 a13,i64 a14,i64 a15,i64 a16,i64 a17,i64 a18,.str a19,.sl false (L An a20)])=M2 F2 (Als l k (({ Ref:=({ Zb:=a0,No:=a1 }:AsI),By:=({ Zb:=a2,No:=a3 }:AsI),Zw1:=a4,Zx1:=({ Za:=a5,Ref:=({ Zb:=a6,No:=a7 }:AsI),Zn1:=a8,Zb1:=a9,Zc:=a10,Zo1:=a11,Zw:=a12,To:=a13,Code:=a14,Zp1:=a15,Zq1:=a16,Zr1:=a17,Zs1:=a18,Zt1:=a19,Zu1:=a20 }:AsK) }:AsR))):=Ag3 (c:=F2) (x:=({ Ref:=({ Zb:=a0,No:=a1 }:AsI),By:=({ Zb:=a2,No:=a3 }:AsI),Zw1:=a4,Zx1:=({ Za:=a5,Ref:=({ Zb:=a6,No:=a7 }:AsI),Zn1:=a8,Zb1:=a9,Zc:=a10,Zo1:=a11,Zw:=a12,To:=a13,Code:=a14,Zp1:=a15,Zq1:=a16,Zr1:=a17,Zs1:=a18,Zt1:=a19,Zu1:=a20 }:AsK) }:AsR))
theorem Af2{F}{l:List ((Int×Int)×AsR)}(a b:Int):OJ (B.env F) 138 (M2 F2 l) (.agg [i64 a,i64 b]) true=if U4 a b then some (.tup [.agg [i64 (((((GO l (a,b)).getD Dp)).Ref).Zb),i64 (((((GO l (a,b)).getD Dp)).Ref).No),i64 (((((GO l (a,b)).getD Dp)).By).Zb),i64 (((((GO l (a,b)).getD Dp)).By).No),i64 ((((GO l (a,b)).getD Dp)).Zw1),i64 (((((GO l (a,b)).getD Dp)).Zx1).Za),i64 ((((((GO l (a,b)).getD Dp)).Zx1).Ref).Zb),i64 ((((((GO l (a,b)).getD Dp)).Zx1).Ref).No),i64 (((((GO l (a,b)).getD Dp)).Zx1).Zn1),i64 (((((GO l (a,b)).getD Dp)).Zx1).Zb1),i64 (((((GO l (a,b)).getD Dp)).Zx1).Zc),i64 (((((GO l (a,b)).getD Dp)).Zx1).Zo1),i64 (((((GO l (a,b)).getD Dp)).Zx1).Zw),i64 (((((GO l (a,b)).getD Dp)).Zx1).To),i64 (((((GO l (a,b)).getD Dp)).Zx1).Code),i64 (((((GO l (a,b)).getD Dp)).Zx1).Zp1),i64 (((((GO l (a,b)).getD Dp)).Zx1).Zq1),i64 (((((GO l (a,b)).getD Dp)).Zx1).Zr1),i64 (((((GO l (a,b)).getD Dp)).Zx1).Zs1),.str (((((GO l (a,b)).getD Dp)).Zx1).Zt1),.sl false (L An (((((GO l (a,b)).getD Dp)).Zx1).Zu1))],.bool ((GO l (a,b)).isSome)])else none:=Adq (c:=F2) (z:=Dp) rfl (AjC F) (by decide) rfl
theorem Apw{F}:((B.env F).bty=some 138)=False:=At7 (fun h:(none:Option TypeId)=some 138=>by cases h)
theorem AqE{F}:((B.env F).bty=some 143)=False:=At7 (fun h:(none:Option TypeId)=some 143=>by cases h)
theorem Afs{F}{σ:Ad}(s x:AV):Bp (B.env F) σ .append [85,85] [s,x]=match Hd σ x with
      | some new=>if H5 x 21=true then none else if ∀cs∈new,cs.length=21 then(match s with
          | .sl full els=>
            if els=[]∧full=true then
              if Cj new.length 192 then some (.bs false σ.length new.length 0 new.length,σ++[.buf 21 new false])else none
            else if new=[]then some (.sl full els,σ)
            else if full=true∧(∀cs∈els,cs.length=21)∧Cj (els.length+new.length) 192
            then some (.bs false σ.length (els.length+new.length) 0 (els.length+new.length),σ++[.buf 21 (els++new) false])else none
          | .bs full id tot off len=>match σ[id]? with
            | some (.buf k els ro)=>
              if els.length=tot∧k=21∧Cj (len+new.length) 192 then
                if off=0∧len=tot then some (.bs false id (tot+new.length) 0 (tot+new.length),σ.set id (.buf k (els++new) ro))
                else if new=[]then some (.bs full id tot off len,σ)
                else if full then some (.bs false σ.length (len+new.length) 0 (len+new.length),σ++[.buf k ((els.drop off).take len++new) false])
                else none
              else none
            |some (.tb T l)=>RH σ id tot off len 192 21 143 T l new
            |_=>none
          |_=>none)
        else none
      |none=>none:=Hi (AoR F) (AjC F) (by decide) (AoR F) (.inl ⟨_,rfl⟩) s x []
theorem Afh{F}{op:BinOp}(a:Arr UInt8 32):AM (B.env F) op 42 (.agg (C1 u8 a.l)) (.agg [u8 (0:UInt8),u8 (0:UInt8),u8 (0:UInt8),u8 (0:UInt8),u8 (0:UInt8),u8 (0:UInt8),u8 (0:UInt8),u8 (0:UInt8),u8 (0:UInt8),u8 (0:UInt8),u8 (0:UInt8),u8 (0:UInt8),u8 (0:UInt8),u8 (0:UInt8),u8 (0:UInt8),u8 (0:UInt8),u8 (0:UInt8),u8 (0:UInt8),u8 (0:UInt8),u8 (0:UInt8),u8 (0:UInt8),u8 (0:UInt8),u8 (0:UInt8),u8 (0:UInt8),u8 (0:UInt8),u8 (0:UInt8),u8 (0:UInt8),u8 (0:UInt8),u8 (0:UInt8),u8 (0:UInt8),u8 (0:UInt8),u8 (0:UInt8)])=match op with
 |.eql=>some (.bool (a==(⟨[(0:UInt8),0,0,0,0,0,0,0,0,0,0,0,0,0,0,0,0,0,0,0,0,0,0,0,0,0,0,0,0,0,0,0],rfl⟩:Arr UInt8 32)))
 |.neq=>some (.bool (!(a==(⟨[(0:UInt8),0,0,0,0,0,0,0,0,0,0,0,0,0,0,0,0,0,0,0,0,0,0,0,0,0,0,0,0,0,0,0],rfl⟩:Arr UInt8 32))))
 |_=>none:=AmX a (⟨[(0:UInt8),0,0,0,0,0,0,0,0,0,0,0,0,0,0,0,0,0,0,0,0,0,0,0,0,0,0,0,0,0,0,0],rfl⟩:Arr UInt8 32)
theorem AlB{F}{σ:Ad}(l c:Int):EL (B.env F) σ 197 (i64 l) (i64 c)=if Mk l c 1 then some (.bs (l==c) σ.length l.toNat 0 l.toNat,σ++[.buf 1 (List.replicate l.toNat [.bool false]) false])else none:=XB (Akk F) (tb4 F) (by decide) l c
theorem Aj3{F}{σ:Ad}(f:Bool)(id tot off len:Nat)(x:AV):Az (B.env F) σ 197 (.bs f id tot off len) x=match σ[id]?,idx x len with
 |some (.buf k els _),some i=>if els.length=tot∧k=1 then some (.eref id tot (off+i) 0)else none
 |_,_=>none:=YD (Akk F) (tb4 F) (by decide) f id tot off len x
theorem AlG{F}{σ:Ad}(id off:Nat)(x:AV):Az (B.env F) σ 69 (.ref id off) x=match idx x 7 with
 |some i=>some (.ref id (off+i*2))
 |none=>none:=MB (Aru F) (Aqh F) id off x
theorem AlU{F}(x y:Bool):AM (B.env F) .neq 4 (.bool x) (.bool y)=some (.bool (!(x==y))):=Vd (tb4 F) x y
theorem ArQ{F}:((B.env F).bty=some 178)=False:=At7 (fun h:(none:Option TypeId)=some 178=>by cases h)
attribute [go_sem] lm0 own3 own4 own5 own6 own7 own8 own9 Aqd Aqe Ast ApZ Arq Apg Arv Ap6 ArV Aqb Apb Asl Ar9 Aq6 Ary Apz Apm AqX ArL Aqn ApQ Arc Asi Art AoX Asp ApG Aqs ArE Apy Aqc Aq5 Ard Ao2 Aq2 Ao1 AoN ApI ApU ApO Aqm AoQ AqV Asg Ar2 Apo Aqk AqC AqB ArC Ar1 ApY Ap2 ApH ApA Aqj Apj Arb AoZ ApW Aq7 Asb Aq8 Aro Ark ApR Ao7 ArB Aqt Ar0 ApK Ash Ar6 AqA Aq9 Apx Are Aso AoW ApN Arz AoP AoS AqR Ao9 Apc AqI Aq4 AqW AnN Amk AmO Al7 AmC Ak7 Anb Anf AnM AmB Am9 Ale AkQ Aop Ami AmE AkU AkN Amf AkK Aom Ams Alz Aoc Am8 Al1 AlF Ang Amq AnI Anh Amo AmR AnQ AmY Al5 Amc An3 AnD Al9 Aoi AlN Ala AlW Ane Ald Am0 Al3 Aow AmK AlL AkM AmH An2 AkV Am1 AlP Amj AnG An6 AoA AnH AlQ Alr Aol AkY AnC AnU Alv Am Au Nj Ac Af Al Ak S3 As Ap LG LU Ae Ar YU An A1 SU Ab A3 Aj Rf WV Wb WJ LP Ag AB R2 tb3 tb4 tb5 tb9 tb22 tb23 tb25 tb26 tb27 tb28 tb29 tb31 tb32 tb33 AoG tb36 AkH AoI tb40 Apd ApC tb45 tb47 AoE tb50 Ap1 tb57 Aj4 Aqh Aru ArF tb72 ArO AgU AoR AqG Afz Akw An4 Amb Aod AnT Am7 AnE Apu AjC AmI Anx Alx Air Ap9 Akk AnP Alk Ajs AlY ArN AnJ AeE Alf Ajg Aoj RO RU RW Ru R8 Rd RK RT R6 Rb RC Rs RP R4 RI Ri Rq Qd QG QC OA P8 Pc Qe Q7 Oy Qb QO QL QK PD Ov Pn Qa QT Q6 Qi O2 OD PH Qk P0 OP Qw QV PT PQ Qg PG OO PK QU PC QR Pi Pz QI QP OS Po OR Pp PX PY Pl Qp O5 OT Qj Q5 OH ON Ans AmS Alp AmM Amh Anl AnL Ajx Ahv AiJ AhM AiC Ai1 AeU Aba OV Qz I4 Iu ID Aqw AkX AnY Aoy Aox Aov AlA Am2 Ah2 AiH AiE AjH Ahq AhB Ai2 Ajj Aio Ahz Ajq Ajc Ajk Aji nb36 AfB nb47 AmL Arg AnR Ao6 nb57 AlE AqZ Aob Aoh AqY AkP Ar4 ArH AlJ Ari Akx Ai5 AoM nb68 AkZ Anj AmW Ao4 Al2 Aqx Ann nb74 AmP Ap3 AkW Abn Aln ApB ApE Ak6 Akd AeV Am6 AqJ Apf Ah1 Aj9 AdD nb42 Aj5 Anr Ai9 nb50 Agx ArP AmX AfZ Aok nb44 AeS Ae5 Ant AeH nb40 Apr All nb52 AbM nb88 AfL nb85 Ah4 F2 Aj6 Af2 Apw AqE Afs Afh AlB Aj3 AlG AlU ArQ
section
variable {V:Type}
def Aq3(step:V→AsI→AsM→Option V)(row:List AsM)(i:Int)(kv:Int×V):Option ((Int×V)⊕V) :=
 if(decide (kv.1<(row.length:Int)))then
  if InR kv.1 row.length then(step kv.2 { Zb:=i,No:=w64 (kv.1+1) } (nth row kv.1.toNat)).bind fun v'=>some (.inl (w64 (kv.1+1),v'))else none
 else some (.inr kv.2)
def ArU(step:V→AsI→AsM→Option V)(logs:List (List AsM))(iv:Int×V):Option ((Int×V)⊕V) :=
 if(decide (iv.1<(logs.length:Int)))then
  if InR iv.1 logs.length then(Ax (Aq3 step (nth logs iv.1.toNat) iv.1) (0,iv.2)).bind fun v'=>some (.inl (w64 (iv.1+1),v'))else none
 else some (.inr iv.2)
def Aof(step:V→AsI→AsM→Option V)(logs:List (List AsM))(v:V):Option V:=(Ax (ArU step logs) (0,v)).bind some
end
theorem AfC(N:Nat)(ts:List Nat)(l:Fr):leL (Ao N l) (Ao N (keep ts l)):=by
  have key:∀(ns:List Nat),leL (ns.map (Rv.look l)) (ns.map (Rv.look (keep ts l))):=by
    intro ns
    induction ns with
    |nil=>exact trivial
    | cons t ns ih=>
      refine⟨?_,ih⟩;rcases U2 ts l t with h|h
      · exact .inl h
      · rw[h];exact .inr (AV.wk_refl _)
  exact key _
theorem Afe(n N:Nat):∀(l:Fr),(∀p∈l,p.2.under n=true)→TT n (Ao N l):=by
  intro l h x hx;obtain⟨t,_,rfl⟩:=Aud.1 hx
  induction l with
  |nil=>show(AV.junk).under n=true;simp[AV.under]
  | cons p l ih=>
    show(if t=p.1 then p.2 else Rv.look l t).under n=true;by_cases e:t=p.1
    · rw[AsU e];exact h p Ath
    · rw[AsX e];exact ih (fun q hq=>h q (AtO _ hq)) (by simp only[Ao,Aud,AtR];exact⟨t,by simpa using ‹t∈List.range N›,rfl⟩)
set_option maxHeartbeats 2000000 in
theorem AcZ{V:Type}{o:Out}{n:Nat}{gop:Operand}{assign body:Code}{N:Nat}{fr l:Fr}{K:DB}{S:V→Ad}{step:V→AsI→AsM→Option V}{logs:List (List AsM)}{forks:List AsN}{f1 f2 ro:Bool}{v0 x:V}{p1 p2 idb:Nat}(M:Nat) (hx:Aof step logs v0=some x) (hmk:o.mks=true) (hg:ev (Ao N fr) gop=.fn 100 [.ref idb 0]) (hS:∀v,(S v).length=M) (hb:(S v0)[idb]?=some (.box [.sl f1 (L (cSl Ab) logs),.sl f2 (L A3 forks)] ro)) (hl:∀p∈l,p.1<N∧Rv.look fr p.1=p.2) (hp1:p1<N) (hp2:p2<N) (hpn:p1≠p2) (hpl:∀p∈l,p.1≠p1∧p.1≠p2) (hca:L2 assign=true) (hcb:L2 body=true) (hround:∀(lp:Nat) (ac bd:Code) (v:V) (i k:Int) (r:AsM) (v':V),step v ⟨i,k⟩ r=some v' →Run (B.env { F:=o.F,rd:=some lp }) (M+1) assign ⟨Ao N ((p2,.agg (Ab r))::(p1,.agg [i64 i,i64 k])::l),S v++[.lp false N l #[p1,p2] ac bd,.box (Ab r) false]⟩ (wkP (B.env { F:=o.F,rd:=some lp }) (M+1) (Ao0 (B.env { F:=o.F,rd:=some lp }) M N l #[p1,p2] ac bd body (wkP (B.env { F:=o.F,rd:=some lp }) (M+1) (AqS M (S v'++[.lp true N l #[p1,p2] ac bd])))))) (hk:K .normal ⟨Ao N fr,S x++[.gone]⟩):Run (B.env o) n (.rangeFunc gop #[p1,p2] assign body) ⟨Ao N fr,S v0⟩ K:=by
 refine Ad1 ok hmk hg (by intro ys h;cases h) Tryz.func100 rfl (by decide +kernel) rfl l hl ?_;rw[hS v0];have hE:=ok.env { F:=o.F };refine Gn ?_;have hidb:idb<(S v0).length:=(AsT.1 hb).1
 have hb0:(S v0++[ABlk.lp false N l #[p1,p2] assign body])[idb]?=some (.box [.sl f1 (L (cSl Ab) logs),.sl f2 (L A3 forks)] ro):=by
  rw[As3 hidb];exact hb
 show Run (B.env { F:=o.F }) (M+1) _ ⟨MU 32 [.yld M,.ref idb 0],_⟩ _;rw[Iq 32 [.yld M,.ref idb 0] (AtM rfl) (QW 0 _) (fun t _=>I2 _ 0 t (Atp _))];show Run (B.env { F:=o.F }) (M+1) _ ⟨Ao 32 [(0,.yld M),(1,.ref idb 0)],_⟩ _;revert hx;unfold Aof;refine T0 [0,8,9,10] ?_ (by simp only[go_sem,hb0];exact AL);refine Sb ?_;refine Lo (fun iv=>⟨Ao 32 [(0,.yld M),(8,.sl f1 (L (cSl Ab) logs)),(9,i64 ((logs.length:Int))),(10,i64 iv.1)],S iv.2++[.lp false N l #[p1,p2] assign body]⟩) (Weak.refl _ _) ?_;rintro⟨i,v⟩ x1 o1 hj1 hx1;show ArU step logs (i,v)=some o1→_;unfold ArU;dsimp only;refine T0 [0,8,9,10,11] ?_;refine Sq ?_;refine Cd ?_ ?_
 ·refine Sk ?_;refine Tn ?_;refine Sq ?_;refine Sb ?_;refine Ck fun hc1=>?_
  refine Te [0,3,4,8,9,10] Aa (Ev (by simp only[go_sem,qR hc1];exact AL)) ?_;refine T0 [0,3,8,9,10,15,16,17] ?_;refine Sb ?_;refine Lo (fun kv=>⟨Ao 32 [(0,.yld M),(3,i64 i),(8,.sl f1 (L (cSl Ab) logs)),(9,i64 ((logs.length:Int))),(10,i64 i),(15,.sl false (L Ab (nth logs i.toNat))),(16,i64 (((nth logs i.toNat).length:Int))),(17,i64 kv.1)],S kv.2++[.lp false N l #[p1,p2] assign body]⟩) (Weak.refl _ _) ?_;rintro⟨k,v⟩ x2 o2 hj2 hx2;show Aq3 step (nth logs i.toNat) i (k,v)=some o2→_;unfold Aq3;dsimp only;refine T0 [0,3,8,9,10,15,16,17,18] ?_;refine Sq ?_;refine Cd ?_ ?_
  ·refine Sk ?_;refine Tn ?_;refine Sq ?_;refine Sb ?_;refine Ck fun hc2=>?_
   obtain⟨r,hr⟩:∃r,nth (nth logs i.toNat) k.toNat=r:=⟨_,rfl⟩;have hlen:(S v++[ABlk.lp false N l #[p1,p2] assign body]).length=M+1:=by simp[hS v]
   rw[hr];generalize hσ0:S v++[ABlk.lp false N l #[p1,p2] assign body]=σ0 at hlen;have hlast:∀b:ABlk,(σ0++[b])[M+1]?=some b:=fun b=>by rw[As0 (by omega),hlen];simp
   have hset:∀b c:ABlk,(σ0++[b]).set (M+1) c=σ0++[c]:=fun b c=>by rw[Aun _ _ (by omega),hlen];simp
   refine Te [0,3,5,6,8,9,10,15,16,17] Aa (Ev (by simp only[go_sem,qR hc2,hr,hlen,hlast,hset];exact AL)) ?_;refine Bd fun v' hv=>?_
   refine Sq ?_;intro hP
   refine Agh 6 (idl:=M) (σ1:=σ0++[.box (Ab r) false]) (fr1:=(27,.agg (Ab r))::(26,.agg [i64 i,i64 (w64 (k+1))])::(25,i64 (w64 (k+1)))::(24,i64 k)::(23,i64 i)::(22,.yld M)::[(0,.yld M),(3,i64 i),(5,i64 k),(6,.ref (M+1) 0),(8,.sl f1 (L (cSl Ab) logs)),(9,i64 ((logs.length:Int))),(10,i64 i),(15,.sl false (L Ab (nth logs i.toNat))),(16,i64 (((nth logs i.toNat).length:Int))),(17,i64 k)]) (fr3:=(29,.bool (!true))::(28,.bool true)::[(0,.yld M),(3,i64 i),(8,.sl f1 (L (cSl Ab) logs)),(9,i64 ((logs.length:Int))),(10,i64 i),(15,.sl false (L Ab (nth logs i.toNat))),(16,i64 (((nth logs i.toNat).length:Int))),(17,i64 k)]) (M:=N) (l:=l) (ps:=#[p1,p2]) (assign:=assign) (body:=body) (fr2:=[(0,.yld M),(3,i64 i),(8,.sl f1 (L (cSl Ab) logs)),(9,i64 ((logs.length:Int))),(10,i64 i),(15,.sl false (L Ab (nth logs i.toNat))),(16,i64 (((nth logs i.toNat).length:Int))),(17,i64 k)])
    (args:=[.agg [i64 i,i64 (w64 (k+1))],.agg (Ab r)]) hE rfl ?h1 rfl rfl rfl rfl ?hf ?hσ rfl (Nat.lt_succ_self M) hca hcb ?hle ?hun ?hp1 ?hp2 ?hp3 ?hargs (fun σ3=>?h3) (fun lp=>?h)
   case h1=>
    refine(FM _ _).symm.trans ?_;simp only[go_sem,hlast,hlen]
   case hf=>rfl
   case hσ=>
    rw[←hσ0,AtU,As0 (by rw[hS v];exact Atb _),hS v,AuQ];rfl
   case hle=>exact AfC 32 [0,3,8,9,10,15,16,17] _
   case hun=>
    refine Afe _ _ _ (fun p hp=>?_);simp only[Atu,List.not_mem_nil,or_false]at hp;rcases hp with rfl|rfl|rfl|rfl|rfl|rfl|rfl|rfl<;>simp[AV.under,i64]
   case hp1=>intro p hp;simp at hp;rcases hp with rfl|rfl<;>assumption
   case hp2=>intro p hp hh;simp at hh;rcases hh with hh|hh;exact(hpl p hp).1 hh;exact(hpl p hp).2 hh
   case hp3=>simpa using hpn
   case hargs=>rfl
   case h3=>
    refine(FM _ _).symm.trans ?_;simp only[go_sem]
   case h=>
    have h2:=Gn (hround lp assign body v i (w64 (k+1)) r v' hv);have hst:σ0++[ABlk.box (Ab r) false]=S v++[.lp false N l #[p1,p2] assign body,.box (Ab r) false]:=by rw[←hσ0,AtU];rfl
    rw[hst];refine EZ h2 ?_;rintro ex st1 ⟨rfl,q1,q2⟩;refine⟨rfl,q1,EZ (Gn q2) ?_⟩;rintro ex st2 ⟨rfl,q3⟩;rw[q3];refine⟨rfl,by rw[As0 (by rw[hS v'];exact Atb _),hS v',AuQ];rfl,?_⟩;rw[Aun _ _ (by rw[hS v'];exact Atb _),hS v',AuQ,Avl];revert hP;refine Tn ?_;refine Cf ?_;refine Sk ?_;refine Bn ?_;refine Tn ?_;refine F0 [0,3,8,9,10,15,16,17] ?_;exact Ln (Weak.refl _ _)
  ·refine Sx ?_;refine Tx ?_;refine Ly hx2 hj2 ?_;refine Bx ?_;refine Bn ?_;refine Tn ?_;refine F0 [0,8,9,10] ?_;exact Ln (Weak.refl _ _)
 ·refine Sx ?_;refine Tx ?_;refine Ly hx1 hj1 ?_;refine Bx ?_;refine Wp (Weak.refl _ _) ?_;intro h;obtain rfl:=AtA h;refine⟨.inl rfl,by rw[As0 (by rw[hS];exact Atb _),hS,AuQ];rfl,?_⟩;rw[Aun _ _ (by rw[hS];exact Atb _),hS,AuQ,Avl];exact hk
theorem Ra{V:Type}{F:Addr→Prop}{base:Nat}{n:Nat}{gop:Operand}{assign body:Code}{N:Nat}{fr:Fr}{K:DB}(S:V→Ad)(l:Fr){step:V→AsI→AsM→Option V}{logs:List (List AsM)}{forks:List AsN}{f1 f2 ro:Bool}{v0 x:V}{p1 p2 idb:Nat}(M:Nat)(σ0 σx:Ad) (hround:∀(lp:Nat) (ac bd:Code) (v:V) (i k:Int) (r:AsM) (v':V),step v ⟨i,k⟩ r=some v' →Run (B.env { F:=F,rd:=some lp }) (M+1) assign ⟨Ao N ((p2,.agg (Ab r))::(p1,.agg [i64 i,i64 k])::l),S v++[.lp false N l #[p1,p2] ac bd,.box (Ab r) false]⟩ (wkP (B.env { F:=F,rd:=some lp }) (M+1) (Ao0 (B.env { F:=F,rd:=some lp }) M N l #[p1,p2] ac bd body (wkP (B.env { F:=F,rd:=some lp }) (M+1) (AqS M (S v'++[.lp true N l #[p1,p2] ac bd])))))) (hk:K .normal ⟨Ao N fr,σx⟩) (hx:Aof step logs v0=some x) (hl:Api N fr l) (h0:S v0=σ0:=by rfl) (hσx:S x++[.gone]=σx:=by rfl) (hg:ev (Ao N fr) gop=.fn 100 [.ref idb 0]:=by rfl) (hS:∀v,(S v).length=M:=by exact fun _=>rfl) (hb:(S v0)[idb]?=some (.box [.sl f1 (L (cSl Ab) logs),.sl f2 (L A3 forks)] ro):=by rfl) (hp:(decide (p1<N)&&decide (p2<N)&&p1 != p2&&(l.map (·.1)).all (fun t=>t != p1&&t != p2))=true:=by rfl) (hca:L2 assign=true:=by rfl) (hcb:L2 body=true:=by rfl) :Run (B.env { F:=F,mks:=true,base:=base }) n (.rangeFunc gop #[p1,p2] assign body) ⟨Ao N fr,σ0⟩ K:=by
 subst h0 hσx;simp only[Ata,Atg,Avy,ne_eq,Atc,Aud]at hp;obtain⟨⟨⟨h1,h2⟩,h3⟩,h4⟩:=hp;exact AcZ (o:={ F:=F,mks:=true,base:=base }) M hx rfl hg hS hb (YO hl) h1 h2 h3 (fun p hp=>h4 _ ⟨p,hp,rfl⟩) hca hcb hround hk
end Go.Proofs.YtioapcamanmoiaaGreatDoor
