/-
  Part 42.
-/
import Derived.Test.YtioapcamanmoiaaGreatDoorProg
import Derived.Test.YtioapcamanmoiaaGreatDoorYG39
import Derived.Test.YtioapcamanmoiaaGreatDoorYG41
import Derived.KernelRfl
namespace Go.Proofs.YtioapcamanmoiaaGreatDoor
open Go.Rv
set_option linter.unusedVariables false
set_option linter.unusedSimpArgs false
set_option maxRecDepth 20000
def glob3:Arr UInt32 64:=⟨[1116352408,1899447441,3049323471,3921009573,961987163,1508970993,2453635748,2870763221,3624381080,310598401,607225278,1426881987,1925078388,2162078206,2614888103,3248222580,3835390401,4022224774,264347078,604807628,770255983,1249150122,1555081692,1996064986,2554220882,2821834349,2952996808,3210313671,3336571891,3584528711,113926993,338241895,666307205,773529912,1294757372,1396182291,1695183700,1986661051,2177026350,2456956037,2730485921,2820302411,3259730800,3345764771,3516065817,3600352804,4094571909,275423344,430227734,506948616,659060556,883997877,958139571,1322822218,1537002063,1747873779,1955562222,2024104815,2227730452,2361852424,2428436474,2756734187,3204031479,3329325298],rfl⟩
theorem Ao5:MpLaw Tryz.prog 138 44 143:=Abv (m:=6) (by kernel_rfl) (by decide) (by kernel_rfl) (by kernel_rfl) (by kernel_rfl) (fun a b h=>Agy (m:=254) ⟨"Railway", 3,0,false,"","", 0⟩ ⟨"No", 3,1,false,"","", 8⟩ (by kernel_rfl) (by kernel_rfl) (by kernel_rfl) (by kernel_rfl) (by kernel_rfl) (by kernel_rfl) (by kernel_rfl) rfl rfl (by decide) (by decide) (by kernel_rfl) h)
attribute [go_sem_proc] reduceIte Nat.reduceLT Nat.reduceEqDiff Nat.reduceAdd Nat.reduceBEq Nat.reduceMul Nat.reduceSub Nat.reduceGT Nat.reducePow Nat.reduceLeDiff Int.reduceToNat Int.reduceLT Int.reduceAdd Int.reduceSub Nat.reduceGT Nat.reduceLeDiff Int.reduceBEq Int.reduceGT Int.reduceLE Int.reduceGE
attribute [go_sem] AoJ decide_true decide_false Bool.false_eq_true beq_self_eq_true
noncomputable def B:Base:=Aaf Tryz.prog (fun i=>if i=3 then some (C1 u32 glob3.l)else none) (fun f _=>[29,30,31,32,46,48,62,66,79,82,90,91,92,107,117,123,126,127,129,130,131,142,149,150,151,152,153,154,155].contains f) (fun _=>none) (fun _=>none) none true (fun _ _=>rfl) (some (138,44,143)) (AgB Ao5)
theorem tbk{t F x}(h:Bz Tryz.prog t=x):(B.env F).tab t=x:=(A1 Tryz.prog t).trans h
theorem ok:B.Ok:=XJ _ _ _ _ _ _ _ _ _ _
theorem lm0(F:Out):(B.env F).lm=true:=rfl
variable(F:Out)(xs:List Operand)
theorem own3:(B.env F).own 3 xs=false:=rfl
theorem own4:(B.env F).own 4 xs=false:=rfl
theorem own5:(B.env F).own 5 xs=false:=rfl
theorem own6:(B.env F).own 6 xs=false:=rfl
theorem own7:(B.env F).own 7 xs=false:=rfl
theorem own8:(B.env F).own 8 xs=false:=rfl
theorem own9:(B.env F).own 9 xs=false:=rfl
theorem Apc:(B.env F).own 10 xs=false:=rfl
theorem AnY:(B.env F).own 11 xs=false:=rfl
theorem Aoi:(B.env F).own 12 xs=false:=rfl
theorem AmM:(B.env F).own 13 xs=false:=rfl
theorem AmA:(B.env F).own 14 xs=false:=rfl
theorem Aoo:(B.env F).own 15 xs=false:=rfl
theorem Ao2:(B.env F).own 16 xs=false:=rfl
theorem AoG:(B.env F).own 17 xs=false:=rfl
theorem AmL:(B.env F).own 18 xs=false:=rfl
theorem Anu:(B.env F).own 19 xs=false:=rfl
theorem AnI:(B.env F).own 20 xs=false:=rfl
theorem Ami:(B.env F).own 21 xs=false:=rfl
theorem AoP:(B.env F).own 22 xs=false:=rfl
theorem Ant:(B.env F).own 23 xs=false:=rfl
theorem AlX:(B.env F).own 24 xs=false:=rfl
theorem Aop:(B.env F).own 25 xs=false:=rfl
theorem Ama:(B.env F).own 26 xs=false:=rfl
theorem AlP:(B.env F).own 27 xs=false:=rfl
theorem AnA:(B.env F).own 28 xs=false:=rfl
theorem Aph:(B.env F).own 29 xs=true:=rfl
theorem AoD:(B.env F).own 30 xs=true:=rfl
theorem Al8:(B.env F).own 31 xs=true:=rfl
theorem AmJ:(B.env F).own 32 xs=true:=rfl
theorem Anp:(B.env F).own 33 xs=false:=rfl
theorem AoF:(B.env F).own 34 xs=false:=rfl
theorem AnT:(B.env F).own 35 xs=false:=rfl
theorem Anv:(B.env F).own 36 xs=false:=rfl
theorem AnF:(B.env F).own 37 xs=false:=rfl
theorem Amf:(B.env F).own 38 xs=false:=rfl
theorem Aml:(B.env F).own 39 xs=false:=rfl
theorem Aoh:(B.env F).own 40 xs=false:=rfl
theorem AnM:(B.env F).own 41 xs=false:=rfl
theorem App:(B.env F).own 42 xs=false:=rfl
theorem Apg:(B.env F).own 43 xs=false:=rfl
theorem Anz:(B.env F).own 44 xs=false:=rfl
theorem AoC:(B.env F).own 45 xs=false:=rfl
theorem AnB:(B.env F).own 46 xs=true:=rfl
theorem Am3:(B.env F).own 47 xs=false:=rfl
theorem Anm:(B.env F).own 48 xs=true:=rfl
theorem AnX:(B.env F).own 49 xs=false:=rfl
theorem Am4:(B.env F).own 50 xs=false:=rfl
theorem Aog:(B.env F).own 51 xs=false:=rfl
theorem Ao0:(B.env F).own 52 xs=false:=rfl
theorem AmV:(B.env F).own 53 xs=false:=rfl
theorem Apb:(B.env F).own 54 xs=false:=rfl
theorem AmO:(B.env F).own 55 xs=false:=rfl
theorem An8:(B.env F).own 56 xs=false:=rfl
theorem AmZ:(B.env F).own 57 xs=false:=rfl
theorem Aod:(B.env F).own 58 xs=false:=rfl
theorem AnC:(B.env F).own 59 xs=false:=rfl
theorem AlL:(B.env F).own 60 xs=false:=rfl
theorem AlQ:(B.env F).own 61 xs=false:=rfl
theorem Ani:(B.env F).own 62 xs=true:=rfl
theorem Apo:(B.env F).own 63 xs=false:=rfl
theorem Ank:(B.env F).own 64 xs=false:=rfl
theorem Amj:(B.env F).own 65 xs=false:=rfl
theorem Al3:(B.env F).own 66 xs=true:=rfl
theorem Al6:(B.env F).own 67 xs=false:=rfl
theorem Anw:(B.env F).own 68 xs=false:=rfl
theorem Am1:(B.env F).own 69 xs=false:=rfl
theorem AnU:(B.env F).own 70 xs=false:=rfl
theorem Aov:(B.env F).own 71 xs=false:=rfl
theorem Amd:(B.env F).own 72 xs=false:=rfl
theorem Amv:(B.env F).own 73 xs=false:=rfl
theorem Any:(B.env F).own 74 xs=false:=rfl
theorem Ang:(B.env F).own 75 xs=false:=rfl
theorem AoV:(B.env F).own 76 xs=false:=rfl
theorem Apr:(B.env F).own 77 xs=false:=rfl
theorem AnN:(B.env F).own 78 xs=false:=rfl
theorem Aoj:(B.env F).own 79 xs=true:=rfl
theorem Aow:(B.env F).own 80 xs=false:=rfl
theorem Ano:(B.env F).own 81 xs=false:=rfl
theorem AmN:(B.env F).own 82 xs=true:=rfl
theorem Al5:(B.env F).own 83 xs=false:=rfl
theorem AnJ:(B.env F).own 84 xs=false:=rfl
theorem AmF:(B.env F).own 85 xs=false:=rfl
theorem Apj:(B.env F).own 86 xs=false:=rfl
theorem AnO:(B.env F).own 87 xs=false:=rfl
theorem AmX:(B.env F).own 88 xs=false:=rfl
theorem An7:(B.env F).own 90 xs=true:=rfl
theorem AmB:(B.env F).own 91 xs=true:=rfl
theorem Apf:(B.env F).own 92 xs=true:=rfl
theorem AoQ:(B.env F).own 93 xs=false:=rfl
theorem AmQ:(B.env F).own 94 xs=false:=rfl
theorem AlM:(B.env F).own 95 xs=false:=rfl
theorem AlZ:(B.env F).own 96 xs=false:=rfl
theorem Apd:(B.env F).own 97 xs=false:=rfl
theorem Ao7:(B.env F).own 98 xs=false:=rfl
theorem AnV:(B.env F).own 99 xs=false:=rfl
theorem AkC:(B.env F).own 101 xs=false:=rfl
theorem AhJ:(B.env F).own 102 xs=false:=rfl
theorem AiT:(B.env F).own 103 xs=false:=rfl
theorem Ak6:(B.env F).own 104 xs=false:=rfl
theorem Akg:(B.env F).own 105 xs=false:=rfl
theorem AhR:(B.env F).own 106 xs=false:=rfl
theorem AkB:(B.env F).own 107 xs=true:=rfl
theorem AkA:(B.env F).own 108 xs=false:=rfl
theorem AiX:(B.env F).own 109 xs=false:=rfl
theorem Ah4:(B.env F).own 110 xs=false:=rfl
theorem Ah6:(B.env F).own 111 xs=false:=rfl
theorem AkP:(B.env F).own 112 xs=false:=rfl
theorem Aii:(B.env F).own 113 xs=false:=rfl
theorem Ait:(B.env F).own 114 xs=false:=rfl
theorem Alr:(B.env F).own 115 xs=false:=rfl
theorem AkN:(B.env F).own 116 xs=false:=rfl
theorem Aka:(B.env F).own 117 xs=true:=rfl
theorem Aj1:(B.env F).own 118 xs=false:=rfl
theorem AiE:(B.env F).own 119 xs=false:=rfl
theorem Aiz:(B.env F).own 120 xs=false:=rfl
theorem Alj:(B.env F).own 121 xs=false:=rfl
theorem Aj4:(B.env F).own 122 xs=false:=rfl
theorem Aip:(B.env F).own 123 xs=true:=rfl
theorem Ai4:(B.env F).own 124 xs=false:=rfl
theorem AjB:(B.env F).own 125 xs=false:=rfl
theorem Aiy:(B.env F).own 126 xs=true:=rfl
theorem Ai2:(B.env F).own 127 xs=true:=rfl
theorem AhY:(B.env F).own 128 xs=false:=rfl
theorem AhZ:(B.env F).own 129 xs=true:=rfl
theorem AjV:(B.env F).own 130 xs=true:=rfl
theorem Ah1:(B.env F).own 131 xs=true:=rfl
theorem Aie:(B.env F).own 132 xs=false:=rfl
theorem Ajt:(B.env F).own 133 xs=false:=rfl
theorem Aj6:(B.env F).own 134 xs=false:=rfl
theorem AjM:(B.env F).own 135 xs=false:=rfl
theorem All:(B.env F).own 136 xs=false:=rfl
theorem Aio:(B.env F).own 137 xs=false:=rfl
theorem AjS:(B.env F).own 138 xs=false:=rfl
theorem AkE:(B.env F).own 139 xs=false:=rfl
theorem Ain:(B.env F).own 140 xs=false:=rfl
theorem Aja:(B.env F).own 141 xs=false:=rfl
theorem AiU:(B.env F).own 142 xs=true:=rfl
theorem Ak2:(B.env F).own 143 xs=false:=rfl
theorem Alg:(B.env F).own 144 xs=false:=rfl
theorem AkW:(B.env F).own 145 xs=false:=rfl
theorem Aju:(B.env F).own 146 xs=false:=rfl
theorem AiM:(B.env F).own 147 xs=false:=rfl
theorem Ai3:(B.env F).own 148 xs=false:=rfl
theorem AkI:(B.env F).own 149 xs=true:=rfl
theorem AjF:(B.env F).own 150 xs=true:=rfl
theorem AhQ:(B.env F).own 151 xs=true:=rfl
theorem AiZ:(B.env F).own 152 xs=true:=rfl
theorem Akx:(B.env F).own 153 xs=true:=rfl
theorem Ako:(B.env F).own 154 xs=true:=rfl
theorem Akh:(B.env F).own 155 xs=true:=rfl
theorem Alv:(B.env F).own 156 xs=false:=rfl
theorem Aks:(B.env F).own 157 xs=false:=rfl
theorem Alm:(B.env F).own 158 xs=false:=rfl
theorem AiB:(B.env F).own 159 xs=false:=rfl
theorem AhX:(B.env F).own 160 xs=false:=rfl
theorem AkR:(B.env F).own 161 xs=false:=rfl
theorem AiY:(B.env F).own 162 xs=false:=rfl
theorem AjY:(B.env F).own 163 xs=false:=rfl
theorem Alq:(B.env F).own 164 xs=false:=rfl
theorem Als:(B.env F).own 165 xs=false:=rfl
theorem AjC:(B.env F).own 166 xs=false:=rfl
theorem AhO:(B.env F).own 167 xs=false:=rfl
theorem AhN:(B.env F).own 168 xs=false:=rfl
theorem Akw:(B.env F).own 169 xs=false:=rfl
theorem O2:Tryz.prog.follows .mixedOrders=true:=by kernel_rfl
structure Aps where
  Za:Int
  Zb:Int
  Zc:Int
  deriving DecidableEq,Inhabited
def Ag(x:Aps):List AV:=[i64 x.Za,i64 x.Zb,i64 x.Zc]
structure Apt where
  A:Int
  B:Int
  Zb:Int
  Zd:Int
  Km:Int
  deriving DecidableEq,Inhabited
def Al(x:Apt):List AV:=[i64 x.A,i64 x.B,i64 x.Zb,i64 x.Zd,i64 x.Km]
structure Apu where
  Ze:List Aps
  Zf:List Apt
  deriving DecidableEq,Inhabited
def LL(x:Apu):List AV:=[.sl false (L Ag x.Ze),.sl false (L Al x.Zf)]
structure Apv where
  Zg:Int
  Zh:Int
  Zi:Int
  Zj:Int
  Zk:Int
  Zl:UInt64
  Zm:Int
  Zn:Int
  deriving DecidableEq,Inhabited
def Aa(x:Apv):List AV:=[i64 x.Zg,i64 x.Zh,i64 x.Zi,i64 x.Zj,i64 x.Zk,u64 x.Zl,i64 x.Zm,i64 x.Zn]
structure Apw where
  Zo:Int
  Zp:Int
  Zq:Int
  Zr:Int
  Zs:Int
  deriving DecidableEq,Inhabited
def Ae(x:Apw):List AV:=[i64 x.Zo,i64 x.Zp,i64 x.Zq,i64 x.Zr,i64 x.Zs]
structure Apx where
  Zt:Int
  Zu:Int
  Zv:Int
  deriving DecidableEq,Inhabited
def Ai(x:Apx):List AV:=[i64 x.Zt,i64 x.Zu,i64 x.Zv]
structure Apy where
  Zw:Int
  To:Int
  Zd:Int
  deriving DecidableEq,Inhabited
def Ah(x:Apy):List AV:=[i64 x.Zw,i64 x.To,i64 x.Zd]
structure Apz where
  Zx:List Apv
  Zy:List Apw
  Zz:List Apx
  Za1:List Apy
  deriving DecidableEq,Inhabited
def Qg(x:Apz):List AV:=[.sl false (L Aa x.Zx),.sl false (L Ae x.Zy),.sl false (L Ai x.Zz),.sl false (L Ah x.Za1)]
structure ApA where
  Zb1:Int
  Low:Int
  Zc1:Int
  deriving DecidableEq,Inhabited
def Af(x:ApA):List AV:=[i64 x.Zb1,i64 x.Low,i64 x.Zc1]
structure ApB where
  Zb1:Int
  deriving DecidableEq,Inhabited
def Ad(x:ApB):List AV:=[i64 x.Zb1]
structure ApC where
  Zw:Int
  To:Int
  deriving DecidableEq,Inhabited
def Kt(x:ApC):List AV:=[i64 x.Zw,i64 x.To]
structure ApD where
  Zd1:(ApC×ApC×ApC×ApC×ApC×ApC×ApC)
  Ze1:List Int
  deriving DecidableEq,Inhabited
def Kz(x:ApD):List AV:=[i64 x.Zd1.1.Zw,i64 x.Zd1.1.To,i64 x.Zd1.2.1.Zw,i64 x.Zd1.2.1.To,i64 x.Zd1.2.2.1.Zw,i64 x.Zd1.2.2.1.To,i64 x.Zd1.2.2.2.1.Zw,i64 x.Zd1.2.2.2.1.To,i64 x.Zd1.2.2.2.2.1.Zw,i64 x.Zd1.2.2.2.2.1.To,i64 x.Zd1.2.2.2.2.2.1.Zw,i64 x.Zd1.2.2.2.2.2.1.To,i64 x.Zd1.2.2.2.2.2.2.Zw,i64 x.Zd1.2.2.2.2.2.2.To,.sl false (L GC x.Ze1)]
structure ApE where
  Key:UInt64
  Zf1:ApD
  deriving DecidableEq,Inhabited
def Ab(x:ApE):List AV:=[u64 x.Key,i64 x.Zf1.Zd1.1.Zw,i64 x.Zf1.Zd1.1.To,i64 x.Zf1.Zd1.2.1.Zw,i64 x.Zf1.Zd1.2.1.To,i64 x.Zf1.Zd1.2.2.1.Zw,i64 x.Zf1.Zd1.2.2.1.To,i64 x.Zf1.Zd1.2.2.2.1.Zw,i64 x.Zf1.Zd1.2.2.2.1.To,i64 x.Zf1.Zd1.2.2.2.2.1.Zw,i64 x.Zf1.Zd1.2.2.2.2.1.To,i64 x.Zf1.Zd1.2.2.2.2.2.1.Zw,i64 x.Zf1.Zd1.2.2.2.2.2.1.To,i64 x.Zf1.Zd1.2.2.2.2.2.2.Zw,i64 x.Zf1.Zd1.2.2.2.2.2.2.To,.sl false (L GC x.Zf1.Ze1)]
structure ApF where
  Zg1:Apu
  Zh1:Apz
  Zi1:List ApA
  Zj1:List ApB
  Zk1:List ApE
  deriving DecidableEq,Inhabited
def SR(x:ApF):List AV:=[.sl false (L Ag x.Zg1.Ze),.sl false (L Al x.Zg1.Zf),.sl false (L Aa x.Zh1.Zx),.sl false (L Ae x.Zh1.Zy),.sl false (L Ai x.Zh1.Zz),.sl false (L Ah x.Zh1.Za1),.sl false (L Af x.Zi1),.sl false (L Ad x.Zj1),.sl false (L Ab x.Zk1)]
structure ApG where
  Zb:Int
  No:Int
  deriving DecidableEq,Inhabited
def Wq(x:ApG):List AV:=[i64 x.Zb,i64 x.No]
structure ApH where
  Za:Int
  Zl1:Int
  Zm1:Bool
  deriving DecidableEq,Inhabited
def Aj(x:ApH):List AV:=[i64 x.Za,i64 x.Zl1,.bool x.Zm1]
structure ApI where
  Za:Int
  Ref:ApG
  Zn1:Int
  Zb1:Int
  Zc:Int
  Zo1:Int
  Zw:Int
  To:Int
  Code:Int
  Zp1:Int
  Zq1:Int
  Zr1:Int
  Zs1:Int
  Zt1:List UInt8
  Zu1:List ApH
  deriving DecidableEq,Inhabited
def NY(x:ApI):List AV:=[i64 x.Za,i64 x.Ref.Zb,i64 x.Ref.No,i64 x.Zn1,i64 x.Zb1,i64 x.Zc,i64 x.Zo1,i64 x.Zw,i64 x.To,i64 x.Code,i64 x.Zp1,i64 x.Zq1,i64 x.Zr1,i64 x.Zs1,.str x.Zt1,.sl false (L Aj x.Zu1)]
structure ApJ where
  C:UInt64
  S:UInt64
  deriving DecidableEq,Inhabited
def R2(x:ApJ):List AV:=[u64 x.C,u64 x.S]
structure ApK where
  Zb:Int
  No:Int
  Zv1:Arr UInt8 32
  Zw1:Int
  Zx1:ApI
  Sig:ApJ
  deriving DecidableEq,Inhabited
def Ak(x:ApK):List AV:=(i64 x.Zb::i64 x.No::(C1 u8 x.Zv1.l++[i64 x.Zw1,i64 x.Zx1.Za,i64 x.Zx1.Ref.Zb,i64 x.Zx1.Ref.No,i64 x.Zx1.Zn1,i64 x.Zx1.Zb1,i64 x.Zx1.Zc,i64 x.Zx1.Zo1,i64 x.Zx1.Zw,i64 x.Zx1.To,i64 x.Zx1.Code,i64 x.Zx1.Zp1,i64 x.Zx1.Zq1,i64 x.Zx1.Zr1,i64 x.Zx1.Zs1,.str x.Zx1.Zt1,.sl false (L Aj x.Zx1.Zu1),u64 x.Sig.C,u64 x.Sig.S]))
structure ApL where
  A:ApK
  B:ApK
  deriving DecidableEq,Inhabited
def An(x:ApL):List AV:=(i64 x.A.Zb::i64 x.A.No::(C1 u8 x.A.Zv1.l++i64 x.A.Zw1::i64 x.A.Zx1.Za::i64 x.A.Zx1.Ref.Zb::i64 x.A.Zx1.Ref.No::i64 x.A.Zx1.Zn1::i64 x.A.Zx1.Zb1::i64 x.A.Zx1.Zc::i64 x.A.Zx1.Zo1::i64 x.A.Zx1.Zw::i64 x.A.Zx1.To::i64 x.A.Zx1.Code::i64 x.A.Zx1.Zp1::i64 x.A.Zx1.Zq1::i64 x.A.Zx1.Zr1::i64 x.A.Zx1.Zs1::.str x.A.Zx1.Zt1::.sl false (L Aj x.A.Zx1.Zu1)::u64 x.A.Sig.C::u64 x.A.Sig.S::i64 x.B.Zb::i64 x.B.No::(C1 u8 x.B.Zv1.l++[i64 x.B.Zw1,i64 x.B.Zx1.Za,i64 x.B.Zx1.Ref.Zb,i64 x.B.Zx1.Ref.No,i64 x.B.Zx1.Zn1,i64 x.B.Zx1.Zb1,i64 x.B.Zx1.Zc,i64 x.B.Zx1.Zo1,i64 x.B.Zx1.Zw,i64 x.B.Zx1.To,i64 x.B.Zx1.Code,i64 x.B.Zx1.Zp1,i64 x.B.Zx1.Zq1,i64 x.B.Zx1.Zr1,i64 x.B.Zx1.Zs1,.str x.B.Zx1.Zt1,.sl false (L Aj x.B.Zx1.Zu1),u64 x.B.Sig.C,u64 x.B.Sig.S])))
structure ApM where
  Zy1:List (List ApK)
  Zz1:List ApL
  deriving DecidableEq,Inhabited
def Qn(x:ApM):List AV:=[.sl false (L (cSl Ak) x.Zy1),.sl false (L An x.Zz1)]
inductive ApN where
  |mk (Za:Int) (N:Int) (B:List UInt8) (L:List ApN)
instance:Inhabited ApN:=⟨.mk default default default default⟩
def ApN.Za(x:ApN):Int:=match x with
 |.mk a _ _ _=>a
theorem Po{x0:Int}{x1:Int}{x2:List UInt8}{x3:List ApN}:(ApN.mk x0 x1 x2 x3).Za=x0:=rfl
def ApN.N(x:ApN):Int:=match x with
 |.mk _ a _ _=>a
theorem U3{x0:Int}{x1:Int}{x2:List UInt8}{x3:List ApN}:(ApN.mk x0 x1 x2 x3).N=x1:=rfl
def ApN.B(x:ApN):List UInt8:=match x with
 |.mk _ _ a _=>a
theorem Vh{x0:Int}{x1:Int}{x2:List UInt8}{x3:List ApN}:(ApN.mk x0 x1 x2 x3).B=x2:=rfl
def ApN.L(x:ApN):List ApN:=match x with
 |.mk _ _ _ a=>a
theorem TF{x0:Int}{x1:Int}{x2:List UInt8}{x3:List ApN}:(ApN.mk x0 x1 x2 x3).L=x3:=rfl
noncomputable def cApi_Value(v:ApN):List AV:=ApN.rec (motive_1:=fun _=>List AV) (motive_2:=fun _=>List (List AV)) (fun Kind_ N_ B_ L_ ih3=>[i64 Kind_,i64 N_,.sl false (L cU8 B_),.sl false ih3]) [] (fun _ _ x l=>x::l) v
theorem RL(l:List ApN):ApN.rec_1 (motive_1:=fun _=>List AV) (motive_2:=fun _=>List (List AV)) (fun Kind_ N_ B_ L_ ih3=>[i64 Kind_,i64 N_,.sl false (L cU8 B_),.sl false ih3]) [] (fun _ _ x l=>x::l) l=L cApi_Value l:=by
 induction l with
 |nil=>rfl
 |cons x l ih=>exact Ars (cApi_Value x::·) ih
theorem Kb(x:ApN):cApi_Value x=[i64 x.Za,i64 x.N,.sl false (L cU8 x.B),.sl false (L cApi_Value x.L)]:=by
  cases x with
  | mk a0 a1 a2 a3=>
    show[i64 a0,i64 a1,.sl false (L cU8 a2),.sl false (ApN.rec_1 (motive_1:=fun _=>List AV) (motive_2:=fun _=>List (List AV)) (fun Kind_ N_ B_ L_ ih3=>[i64 Kind_,i64 N_,.sl false (L cU8 B_),.sl false ih3]) [] (fun _ _ x l=>x::l) a3)]=_;rw[RL];rfl
structure ApO where
  p:ApF
  it:ApI
  ok:Bool
  deriving DecidableEq,Inhabited
def RU(x:ApO):List AV:=[.sl false (L Ag x.p.Zg1.Ze),.sl false (L Al x.p.Zg1.Zf),.sl false (L Aa x.p.Zh1.Zx),.sl false (L Ae x.p.Zh1.Zy),.sl false (L Ai x.p.Zh1.Zz),.sl false (L Ah x.p.Zh1.Za1),.sl false (L Af x.p.Zi1),.sl false (L Ad x.p.Zj1),.sl false (L Ab x.p.Zk1),i64 x.it.Za,i64 x.it.Ref.Zb,i64 x.it.Ref.No,i64 x.it.Zn1,i64 x.it.Zb1,i64 x.it.Zc,i64 x.it.Zo1,i64 x.it.Zw,i64 x.it.To,i64 x.it.Code,i64 x.it.Zp1,i64 x.it.Zq1,i64 x.it.Zr1,i64 x.it.Zs1,.str x.it.Zt1,.sl false (L Aj x.it.Zu1),.bool x.ok]
structure ApP where
  Ref:ApG
  By:ApG
  Zw1:Int
  Zx1:ApI
  deriving DecidableEq,Inhabited
def A3(x:ApP):List AV:=[i64 x.Ref.Zb,i64 x.Ref.No,i64 x.By.Zb,i64 x.By.No,i64 x.Zw1,i64 x.Zx1.Za,i64 x.Zx1.Ref.Zb,i64 x.Zx1.Ref.No,i64 x.Zx1.Zn1,i64 x.Zx1.Zb1,i64 x.Zx1.Zc,i64 x.Zx1.Zo1,i64 x.Zx1.Zw,i64 x.Zx1.To,i64 x.Zx1.Code,i64 x.Zx1.Zp1,i64 x.Zx1.Zq1,i64 x.Zx1.Zr1,i64 x.Zx1.Zs1,.str x.Zx1.Zt1,.sl false (L Aj x.Zx1.Zu1)]
structure ApQ where
  b:List UInt8
  deriving DecidableEq,Inhabited
def Pq(x:ApQ):List AV:=[.sl false (L cU8 x.b)]
theorem tt3:Bz Tryz.prog 3=some ⟨.int .i64,1,8,[i64 0]⟩:=by kernel_rfl
theorem tb3(F:Out):(B.env F).tab 3=some ⟨.int .i64,1,8,[i64 0]⟩:=(A1 Tryz.prog 3).trans tt3
theorem tt4:Bz Tryz.prog 4=some ⟨.bool,1,1,[.bool false]⟩:=by kernel_rfl
theorem tb4(F:Out):(B.env F).tab 4=some ⟨.bool,1,1,[.bool false]⟩:=(A1 Tryz.prog 4).trans tt4
theorem tt5:Bz Tryz.prog 5=some ⟨.int .u8,1,1,[u8 ((0:UInt8))]⟩:=by kernel_rfl
theorem tb5(F:Out):(B.env F).tab 5=some ⟨.int .u8,1,1,[u8 ((0:UInt8))]⟩:=(A1 Tryz.prog 5).trans tt5
theorem tt9:Bz Tryz.prog 9=some ⟨.string,1,16,[.str (([]:List UInt8))]⟩:=by kernel_rfl
theorem tb9(F:Out):(B.env F).tab 9=some ⟨.string,1,16,[.str (([]:List UInt8))]⟩:=(A1 Tryz.prog 9).trans tt9
theorem tt22:Bz Tryz.prog 22=some ⟨.slice 120,1,24,[.sl true (L Ag ([]))]⟩:=by kernel_rfl
theorem tb22(F:Out):(B.env F).tab 22=some ⟨.slice 120,1,24,[.sl true (L Ag ([]))]⟩:=(A1 Tryz.prog 22).trans tt22
theorem tt23:Bz Tryz.prog 23=some ⟨.slice 122,1,24,[.sl true (L Al ([]))]⟩:=by kernel_rfl
theorem tb23(F:Out):(B.env F).tab 23=some ⟨.slice 122,1,24,[.sl true (L Al ([]))]⟩:=(A1 Tryz.prog 23).trans tt23
theorem tt25:Bz Tryz.prog 25=some ⟨.struct #[⟨"Places", 22,0,false,"","", 0⟩,⟨"Edges", 23,1,false,"","", 24⟩],2,48,[.sl true (L Ag ([])),.sl true (L Al ([]))]⟩:=by kernel_rfl
theorem tb25(F:Out):(B.env F).tab 25=some ⟨.struct #[⟨"Places", 22,0,false,"","", 0⟩,⟨"Edges", 23,1,false,"","", 24⟩],2,48,[.sl true (L Ag ([])),.sl true (L Al ([]))]⟩:=(A1 Tryz.prog 25).trans tt25
theorem tt26:Bz Tryz.prog 26=some ⟨.slice 124,1,24,[.sl true (L Aa ([]))]⟩:=by kernel_rfl
theorem tb26(F:Out):(B.env F).tab 26=some ⟨.slice 124,1,24,[.sl true (L Aa ([]))]⟩:=(A1 Tryz.prog 26).trans tt26
theorem tt27:Bz Tryz.prog 27=some ⟨.slice 126,1,24,[.sl true (L Ae ([]))]⟩:=by kernel_rfl
theorem tb27(F:Out):(B.env F).tab 27=some ⟨.slice 126,1,24,[.sl true (L Ae ([]))]⟩:=(A1 Tryz.prog 27).trans tt27
theorem tt28:Bz Tryz.prog 28=some ⟨.slice 155,1,24,[.sl true (L Ai ([]))]⟩:=by kernel_rfl
theorem tb28(F:Out):(B.env F).tab 28=some ⟨.slice 155,1,24,[.sl true (L Ai ([]))]⟩:=(A1 Tryz.prog 28).trans tt28
theorem tt29:Bz Tryz.prog 29=some ⟨.slice 199,1,24,[.sl true (L Ah ([]))]⟩:=by kernel_rfl
theorem tb29(F:Out):(B.env F).tab 29=some ⟨.slice 199,1,24,[.sl true (L Ah ([]))]⟩:=(A1 Tryz.prog 29).trans tt29
theorem tt31:Bz Tryz.prog 31=some ⟨.struct #[⟨"Types", 26,0,false,"","", 0⟩,⟨"Wagons", 27,1,false,"","", 24⟩,⟨"Swaps", 28,2,false,"","", 48⟩,⟨"Washes", 29,3,false,"","", 72⟩],4,96,[.sl true (L Aa ([])),.sl true (L Ae ([])),.sl true (L Ai ([])),.sl true (L Ah ([]))]⟩:=by kernel_rfl
theorem tb31(F:Out):(B.env F).tab 31=some ⟨.struct #[⟨"Types", 26,0,false,"","", 0⟩,⟨"Wagons", 27,1,false,"","", 24⟩,⟨"Swaps", 28,2,false,"","", 48⟩,⟨"Washes", 29,3,false,"","", 72⟩],4,96,[.sl true (L Aa ([])),.sl true (L Ae ([])),.sl true (L Ai ([])),.sl true (L Ah ([]))]⟩:=(A1 Tryz.prog 31).trans tt31
theorem tt32:Bz Tryz.prog 32=some ⟨.slice 128,1,24,[.sl true (L Af ([]))]⟩:=by kernel_rfl
theorem tb32(F:Out):(B.env F).tab 32=some ⟨.slice 128,1,24,[.sl true (L Af ([]))]⟩:=(A1 Tryz.prog 32).trans tt32
theorem tt33:Bz Tryz.prog 33=some ⟨.slice 130,1,24,[.sl true (L Ad ([]))]⟩:=by kernel_rfl
theorem tb33(F:Out):(B.env F).tab 33=some ⟨.slice 130,1,24,[.sl true (L Ad ([]))]⟩:=(A1 Tryz.prog 33).trans tt33
theorem tt34:Bz Tryz.prog 34=some ⟨.slice 74,1,24,[.sl true (L Ab ([]))]⟩:=by kernel_rfl
theorem AlD(F:Out):(B.env F).tab 34=some ⟨.slice 74,1,24,[.sl true (L Ab ([]))]⟩:=(A1 Tryz.prog 34).trans tt34
theorem tt36:Bz Tryz.prog 36=some ⟨.struct #[⟨"Network", 25,0,false,"","", 0⟩,⟨"Fleet", 31,2,false,"","", 48⟩,⟨"Readers", 32,6,false,"","", 144⟩,⟨"Shippers", 33,7,false,"","", 168⟩,⟨"Railways", 34,8,false,"","", 192⟩],9,216,[.sl true (L Ag ([])),.sl true (L Al ([])),.sl true (L Aa ([])),.sl true (L Ae ([])),.sl true (L Ai ([])),.sl true (L Ah ([])),.sl true (L Af ([])),.sl true (L Ad ([])),.sl true (L Ab ([]))]⟩:=by kernel_rfl
theorem tb36(F:Out):(B.env F).tab 36=some ⟨.struct #[⟨"Network", 25,0,false,"","", 0⟩,⟨"Fleet", 31,2,false,"","", 48⟩,⟨"Readers", 32,6,false,"","", 144⟩,⟨"Shippers", 33,7,false,"","", 168⟩,⟨"Railways", 34,8,false,"","", 192⟩],9,216,[.sl true (L Ag ([])),.sl true (L Al ([])),.sl true (L Aa ([])),.sl true (L Ae ([])),.sl true (L Ai ([])),.sl true (L Ah ([])),.sl true (L Af ([])),.sl true (L Ad ([])),.sl true (L Ab ([]))]⟩:=(A1 Tryz.prog 36).trans tt36
theorem tt37:Bz Tryz.prog 37=some ⟨.slice 75,1,24,[.sl true (L (cSl Ak) ([]))]⟩:=by kernel_rfl
theorem AhE(F:Out):(B.env F).tab 37=some ⟨.slice 75,1,24,[.sl true (L (cSl Ak) ([]))]⟩:=(A1 Tryz.prog 37).trans tt37
theorem tt38:Bz Tryz.prog 38=some ⟨.slice 88,1,24,[.sl true (L An ([]))]⟩:=by kernel_rfl
theorem AlB(F:Out):(B.env F).tab 38=some ⟨.slice 88,1,24,[.sl true (L An ([]))]⟩:=(A1 Tryz.prog 38).trans tt38
theorem tt40:Bz Tryz.prog 40=some ⟨.struct #[⟨"Logs", 37,0,false,"","", 0⟩,⟨"Forks", 38,1,false,"","", 24⟩],2,48,[.sl true (L (cSl Ak) ([])),.sl true (L An ([]))]⟩:=by kernel_rfl
theorem tb40(F:Out):(B.env F).tab 40=some ⟨.struct #[⟨"Logs", 37,0,false,"","", 0⟩,⟨"Forks", 38,1,false,"","", 24⟩],2,48,[.sl true (L (cSl Ak) ([])),.sl true (L An ([]))]⟩:=(A1 Tryz.prog 40).trans tt40
theorem tt42:Bz Tryz.prog 42=some ⟨.array 32 5,32,32,(C1 u8 ((Arr.rep 32 (0:UInt8))).l)⟩:=by kernel_rfl
theorem Aok(F:Out):(B.env F).tab 42=some ⟨.array 32 5,32,32,(C1 u8 ((Arr.rep 32 (0:UInt8))).l)⟩:=(A1 Tryz.prog 42).trans tt42
theorem tt44:Bz Tryz.prog 44=some ⟨.struct #[⟨"Railway", 3,0,false,"","", 0⟩,⟨"No", 3,1,false,"","", 8⟩],2,16,[i64 0,i64 0]⟩:=by kernel_rfl
theorem Amy(F:Out):(B.env F).tab 44=some ⟨.struct #[⟨"Railway", 3,0,false,"","", 0⟩,⟨"No", 3,1,false,"","", 8⟩],2,16,[i64 0,i64 0]⟩:=(A1 Tryz.prog 44).trans tt44
theorem tt45:Bz Tryz.prog 45=some ⟨.slice 182,1,24,[.sl true (L Aj ([]))]⟩:=by kernel_rfl
theorem tb45(F:Out):(B.env F).tab 45=some ⟨.slice 182,1,24,[.sl true (L Aj ([]))]⟩:=(A1 Tryz.prog 45).trans tt45
theorem tt47:Bz Tryz.prog 47=some ⟨.struct #[⟨"Kind", 3,0,false,"","", 0⟩,⟨"Ref", 44,1,false,"","", 8⟩,⟨"Wagon", 3,3,false,"","", 24⟩,⟨"Place", 3,4,false,"","", 32⟩,⟨"Other", 3,5,false,"","", 40⟩,⟨"Number", 3,6,false,"","", 48⟩,⟨"From", 3,7,false,"","", 56⟩,⟨"To", 3,8,false,"","", 64⟩,⟨"Code", 3,9,false,"","", 72⟩,⟨"Dest", 3,10,false,"","", 80⟩,⟨"Class", 3,11,false,"","", 88⟩,⟨"Weight", 3,12,false,"","", 96⟩,⟨"Amount", 3,13,false,"","", 104⟩,⟨"Text", 9,14,false,"","", 112⟩,⟨"Parts", 45,15,false,"","", 128⟩],16,152,[i64 0,i64 0,i64 0,i64 0,i64 0,i64 0,i64 0,i64 0,i64 0,i64 0,i64 0,i64 0,i64 0,i64 0,.str (([]:List UInt8)),.sl true (L Aj ([]))]⟩:=by kernel_rfl
theorem tb47(F:Out):(B.env F).tab 47=some ⟨.struct #[⟨"Kind", 3,0,false,"","", 0⟩,⟨"Ref", 44,1,false,"","", 8⟩,⟨"Wagon", 3,3,false,"","", 24⟩,⟨"Place", 3,4,false,"","", 32⟩,⟨"Other", 3,5,false,"","", 40⟩,⟨"Number", 3,6,false,"","", 48⟩,⟨"From", 3,7,false,"","", 56⟩,⟨"To", 3,8,false,"","", 64⟩,⟨"Code", 3,9,false,"","", 72⟩,⟨"Dest", 3,10,false,"","", 80⟩,⟨"Class", 3,11,false,"","", 88⟩,⟨"Weight", 3,12,false,"","", 96⟩,⟨"Amount", 3,13,false,"","", 104⟩,⟨"Text", 9,14,false,"","", 112⟩,⟨"Parts", 45,15,false,"","", 128⟩],16,152,[i64 0,i64 0,i64 0,i64 0,i64 0,i64 0,i64 0,i64 0,i64 0,i64 0,i64 0,i64 0,i64 0,i64 0,.str (([]:List UInt8)),.sl true (L Aj ([]))]⟩:=(A1 Tryz.prog 47).trans tt47
theorem tt48:Bz Tryz.prog 48=some ⟨.int .u64,1,8,[u64 ((0:UInt64))]⟩:=by kernel_rfl
theorem AlC(F:Out):(B.env F).tab 48=some ⟨.int .u64,1,8,[u64 ((0:UInt64))]⟩:=(A1 Tryz.prog 48).trans tt48
theorem tt50:Bz Tryz.prog 50=some ⟨.struct #[⟨"C", 48,0,false,"","", 0⟩,⟨"S", 48,1,false,"","", 8⟩],2,16,[u64 ((0:UInt64)),u64 ((0:UInt64))]⟩:=by kernel_rfl
theorem tb50(F:Out):(B.env F).tab 50=some ⟨.struct #[⟨"C", 48,0,false,"","", 0⟩,⟨"S", 48,1,false,"","", 8⟩],2,16,[u64 ((0:UInt64)),u64 ((0:UInt64))]⟩:=(A1 Tryz.prog 50).trans tt50
theorem tt52:Bz Tryz.prog 52=some ⟨.struct #[⟨"Railway", 3,0,false,"","", 0⟩,⟨"No", 3,1,false,"","", 8⟩,⟨"Prev", 42,2,false,"","", 16⟩,⟨"Time", 3,34,false,"","", 48⟩,⟨"Item", 47,35,false,"","", 56⟩,⟨"Sig", 50,51,false,"","", 208⟩],53,224,(i64 0::i64 0::(C1 u8 ((Arr.rep 32 (0:UInt8))).l++[i64 0,i64 0,i64 0,i64 0,i64 0,i64 0,i64 0,i64 0,i64 0,i64 0,i64 0,i64 0,i64 0,i64 0,i64 0,.str (([]:List UInt8)),.sl true (L Aj ([])),u64 ((0:UInt64)),u64 ((0:UInt64))]))⟩:=by kernel_rfl
theorem AlO(F:Out):(B.env F).tab 52=some ⟨.struct #[⟨"Railway", 3,0,false,"","", 0⟩,⟨"No", 3,1,false,"","", 8⟩,⟨"Prev", 42,2,false,"","", 16⟩,⟨"Time", 3,34,false,"","", 48⟩,⟨"Item", 47,35,false,"","", 56⟩,⟨"Sig", 50,51,false,"","", 208⟩],53,224,(i64 0::i64 0::(C1 u8 ((Arr.rep 32 (0:UInt8))).l++[i64 0,i64 0,i64 0,i64 0,i64 0,i64 0,i64 0,i64 0,i64 0,i64 0,i64 0,i64 0,i64 0,i64 0,i64 0,.str (([]:List UInt8)),.sl true (L Aj ([])),u64 ((0:UInt64)),u64 ((0:UInt64))]))⟩:=(A1 Tryz.prog 52).trans tt52
theorem tt57:Bz Tryz.prog 57=some ⟨.int .i64,1,8,[i64 0]⟩:=by kernel_rfl
theorem tb57(F:Out):(B.env F).tab 57=some ⟨.int .i64,1,8,[i64 0]⟩:=(A1 Tryz.prog 57).trans tt57
theorem tt63:Bz Tryz.prog 63=some ⟨.slice 5,1,24,[.sl true (L cU8 ([]))]⟩:=by kernel_rfl
theorem AgQ(F:Out):(B.env F).tab 63=some ⟨.slice 5,1,24,[.sl true (L cU8 ([]))]⟩:=(A1 Tryz.prog 63).trans tt63
theorem tt68:Bz Tryz.prog 68=some ⟨.struct #[⟨"From", 3,0,false,"","", 0⟩,⟨"To", 3,1,false,"","", 8⟩],2,16,[i64 0,i64 0]⟩:=by kernel_rfl
theorem AnR(F:Out):(B.env F).tab 68=some ⟨.struct #[⟨"From", 3,0,false,"","", 0⟩,⟨"To", 3,1,false,"","", 8⟩],2,16,[i64 0,i64 0]⟩:=(A1 Tryz.prog 68).trans tt68
theorem tt69:Bz Tryz.prog 69=some ⟨.array 7 68,14,112,[i64 0,i64 0,i64 0,i64 0,i64 0,i64 0,i64 0,i64 0,i64 0,i64 0,i64 0,i64 0,i64 0,i64 0]⟩:=by kernel_rfl
theorem Aos(F:Out):(B.env F).tab 69=some ⟨.array 7 68,14,112,[i64 0,i64 0,i64 0,i64 0,i64 0,i64 0,i64 0,i64 0,i64 0,i64 0,i64 0,i64 0,i64 0,i64 0]⟩:=(A1 Tryz.prog 69).trans tt69
theorem tt70:Bz Tryz.prog 70=some ⟨.slice 3,1,24,[.sl true (L GC ([]))]⟩:=by kernel_rfl
theorem Apm(F:Out):(B.env F).tab 70=some ⟨.slice 3,1,24,[.sl true (L GC ([]))]⟩:=(A1 Tryz.prog 70).trans tt70
theorem tt72:Bz Tryz.prog 72=some ⟨.struct #[⟨"Open", 69,0,false,"","", 0⟩,⟨"Holidays", 70,14,false,"","", 112⟩],15,136,[i64 0,i64 0,i64 0,i64 0,i64 0,i64 0,i64 0,i64 0,i64 0,i64 0,i64 0,i64 0,i64 0,i64 0,.sl true (L GC ([]))]⟩:=by kernel_rfl
theorem tb72(F:Out):(B.env F).tab 72=some ⟨.struct #[⟨"Open", 69,0,false,"","", 0⟩,⟨"Holidays", 70,14,false,"","", 112⟩],15,136,[i64 0,i64 0,i64 0,i64 0,i64 0,i64 0,i64 0,i64 0,i64 0,i64 0,i64 0,i64 0,i64 0,i64 0,.sl true (L GC ([]))]⟩:=(A1 Tryz.prog 72).trans tt72
theorem tt74:Bz Tryz.prog 74=some ⟨.struct #[⟨"Key", 48,0,false,"","", 0⟩,⟨"Calendar", 72,1,false,"","", 8⟩],16,144,[u64 ((0:UInt64)),i64 0,i64 0,i64 0,i64 0,i64 0,i64 0,i64 0,i64 0,i64 0,i64 0,i64 0,i64 0,i64 0,i64 0,.sl true (L GC ([]))]⟩:=by kernel_rfl
theorem Am6(F:Out):(B.env F).tab 74=some ⟨.struct #[⟨"Key", 48,0,false,"","", 0⟩,⟨"Calendar", 72,1,false,"","", 8⟩],16,144,[u64 ((0:UInt64)),i64 0,i64 0,i64 0,i64 0,i64 0,i64 0,i64 0,i64 0,i64 0,i64 0,i64 0,i64 0,i64 0,i64 0,.sl true (L GC ([]))]⟩:=(A1 Tryz.prog 74).trans tt74
theorem tt75:Bz Tryz.prog 75=some ⟨.slice 52,1,24,[.sl true (L Ak ([]))]⟩:=by kernel_rfl
theorem Aej(F:Out):(B.env F).tab 75=some ⟨.slice 52,1,24,[.sl true (L Ak ([]))]⟩:=(A1 Tryz.prog 75).trans tt75
theorem tt85:Bz Tryz.prog 85=some ⟨.slice 143,1,24,[.sl true (L A3 ([]))]⟩:=by kernel_rfl
theorem AoN(F:Out):(B.env F).tab 85=some ⟨.slice 143,1,24,[.sl true (L A3 ([]))]⟩:=(A1 Tryz.prog 85).trans tt85
theorem tt88:Bz Tryz.prog 88=some ⟨.struct #[⟨"A", 52,0,false,"","", 0⟩,⟨"B", 52,53,false,"","", 224⟩],106,448,(i64 0::i64 0::(C1 u8 ((Arr.rep 32 (0:UInt8))).l++i64 0::i64 0::i64 0::i64 0::i64 0::i64 0::i64 0::i64 0::i64 0::i64 0::i64 0::i64 0::i64 0::i64 0::i64 0::.str (([]:List UInt8))::.sl true (L Aj ([]))::u64 ((0:UInt64))::u64 ((0:UInt64))::i64 0::i64 0::(C1 u8 ((Arr.rep 32 (0:UInt8))).l++[i64 0,i64 0,i64 0,i64 0,i64 0,i64 0,i64 0,i64 0,i64 0,i64 0,i64 0,i64 0,i64 0,i64 0,i64 0,.str (([]:List UInt8)),.sl true (L Aj ([])),u64 ((0:UInt64)),u64 ((0:UInt64))])))⟩:=by kernel_rfl
theorem AlU(F:Out):(B.env F).tab 88=some ⟨.struct #[⟨"A", 52,0,false,"","", 0⟩,⟨"B", 52,53,false,"","", 224⟩],106,448,(i64 0::i64 0::(C1 u8 ((Arr.rep 32 (0:UInt8))).l++i64 0::i64 0::i64 0::i64 0::i64 0::i64 0::i64 0::i64 0::i64 0::i64 0::i64 0::i64 0::i64 0::i64 0::i64 0::.str (([]:List UInt8))::.sl true (L Aj ([]))::u64 ((0:UInt64))::u64 ((0:UInt64))::i64 0::i64 0::(C1 u8 ((Arr.rep 32 (0:UInt8))).l++[i64 0,i64 0,i64 0,i64 0,i64 0,i64 0,i64 0,i64 0,i64 0,i64 0,i64 0,i64 0,i64 0,i64 0,i64 0,.str (([]:List UInt8)),.sl true (L Aj ([])),u64 ((0:UInt64)),u64 ((0:UInt64))])))⟩:=(A1 Tryz.prog 88).trans tt88
theorem Amw:Bz Tryz.prog 103=some ⟨.slice 105,1,24,[.sl true (L cApi_Value ([]))]⟩:=by kernel_rfl
theorem AdB(F:Out):(B.env F).tab 103=some ⟨.slice 105,1,24,[.sl true (L cApi_Value ([]))]⟩:=(A1 Tryz.prog 103).trans Amw
theorem AnE:Bz Tryz.prog 105=some ⟨.struct #[⟨"Kind", 3,0,false,"","", 0⟩,⟨"N", 3,1,false,"","", 8⟩,⟨"B", 63,2,false,"","", 16⟩,⟨"L", 103,3,false,"","", 40⟩],4,64,[i64 0,i64 0,.sl true (L cU8 ([])),.sl true (L cApi_Value ([]))]⟩:=by kernel_rfl
theorem AeP(F:Out):(B.env F).tab 105=some ⟨.struct #[⟨"Kind", 3,0,false,"","", 0⟩,⟨"N", 3,1,false,"","", 8⟩,⟨"B", 63,2,false,"","", 16⟩,⟨"L", 103,3,false,"","", 40⟩],4,64,[i64 0,i64 0,.sl true (L cU8 ([])),.sl true (L cApi_Value ([]))]⟩:=(A1 Tryz.prog 105).trans AnE
theorem AnW:Bz Tryz.prog 120=some ⟨.struct #[⟨"Kind", 3,0,false,"","", 0⟩,⟨"Railway", 3,1,false,"","", 8⟩,⟨"Other", 3,2,false,"","", 16⟩],3,24,[i64 0,i64 0,i64 0]⟩:=by kernel_rfl
theorem Ajp(F:Out):(B.env F).tab 120=some ⟨.struct #[⟨"Kind", 3,0,false,"","", 0⟩,⟨"Railway", 3,1,false,"","", 8⟩,⟨"Other", 3,2,false,"","", 16⟩],3,24,[i64 0,i64 0,i64 0]⟩:=(A1 Tryz.prog 120).trans AnW
theorem Aor:Bz Tryz.prog 122=some ⟨.struct #[⟨"A", 3,0,false,"","", 0⟩,⟨"B", 3,1,false,"","", 8⟩,⟨"Railway", 3,2,false,"","", 16⟩,⟨"Minutes", 3,3,false,"","", 24⟩,⟨"Km", 3,4,false,"","", 32⟩],5,40,[i64 0,i64 0,i64 0,i64 0,i64 0]⟩:=by kernel_rfl
theorem Akk(F:Out):(B.env F).tab 122=some ⟨.struct #[⟨"A", 3,0,false,"","", 0⟩,⟨"B", 3,1,false,"","", 8⟩,⟨"Railway", 3,2,false,"","", 16⟩,⟨"Minutes", 3,3,false,"","", 24⟩,⟨"Km", 3,4,false,"","", 32⟩],5,40,[i64 0,i64 0,i64 0,i64 0,i64 0]⟩:=(A1 Tryz.prog 122).trans Aor
theorem AoE:Bz Tryz.prog 124=some ⟨.struct #[⟨"Load", 3,0,false,"","", 0⟩,⟨"Tare", 3,1,false,"","", 8⟩,⟨"Length", 3,2,false,"","", 16⟩,⟨"Gauge", 3,3,false,"","", 24⟩,⟨"Brake", 3,4,false,"","", 32⟩,⟨"Classes", 48,5,false,"","", 40⟩,⟨"Life", 3,6,false,"","", 48⟩,⟨"Floor", 3,7,false,"","", 56⟩],8,64,[i64 0,i64 0,i64 0,i64 0,i64 0,u64 ((0:UInt64)),i64 0,i64 0]⟩:=by kernel_rfl
theorem AkT(F:Out):(B.env F).tab 124=some ⟨.struct #[⟨"Load", 3,0,false,"","", 0⟩,⟨"Tare", 3,1,false,"","", 8⟩,⟨"Length", 3,2,false,"","", 16⟩,⟨"Gauge", 3,3,false,"","", 24⟩,⟨"Brake", 3,4,false,"","", 32⟩,⟨"Classes", 48,5,false,"","", 40⟩,⟨"Life", 3,6,false,"","", 48⟩,⟨"Floor", 3,7,false,"","", 56⟩],8,64,[i64 0,i64 0,i64 0,i64 0,i64 0,u64 ((0:UInt64)),i64 0,i64 0]⟩:=(A1 Tryz.prog 124).trans AoE
theorem Amc:Bz Tryz.prog 126=some ⟨.struct #[⟨"Type", 3,0,false,"","", 0⟩,⟨"Owner", 3,1,false,"","", 8⟩,⟨"Home", 3,2,false,"","", 16⟩,⟨"Built", 3,3,false,"","", 24⟩,⟨"Worth", 3,4,false,"","", 32⟩],5,40,[i64 0,i64 0,i64 0,i64 0,i64 0]⟩:=by kernel_rfl
theorem AiL(F:Out):(B.env F).tab 126=some ⟨.struct #[⟨"Type", 3,0,false,"","", 0⟩,⟨"Owner", 3,1,false,"","", 8⟩,⟨"Home", 3,2,false,"","", 16⟩,⟨"Built", 3,3,false,"","", 24⟩,⟨"Worth", 3,4,false,"","", 32⟩],5,40,[i64 0,i64 0,i64 0,i64 0,i64 0]⟩:=(A1 Tryz.prog 126).trans Amc
theorem AnL:Bz Tryz.prog 128=some ⟨.struct #[⟨"Place", 3,0,false,"","", 0⟩,⟨"Low", 3,1,false,"","", 8⟩,⟨"High", 3,2,false,"","", 16⟩],3,24,[i64 0,i64 0,i64 0]⟩:=by kernel_rfl
theorem AkS(F:Out):(B.env F).tab 128=some ⟨.struct #[⟨"Place", 3,0,false,"","", 0⟩,⟨"Low", 3,1,false,"","", 8⟩,⟨"High", 3,2,false,"","", 16⟩],3,24,[i64 0,i64 0,i64 0]⟩:=(A1 Tryz.prog 128).trans AnL
theorem Am7:Bz Tryz.prog 130=some ⟨.struct #[⟨"Place", 3,0,false,"","", 0⟩],1,8,[i64 0]⟩:=by kernel_rfl
theorem Ai9(F:Out):(B.env F).tab 130=some ⟨.struct #[⟨"Place", 3,0,false,"","", 0⟩],1,8,[i64 0]⟩:=(A1 Tryz.prog 130).trans Am7
theorem AnS:Bz Tryz.prog 138=some ⟨.map 44 143,1,8,[.val (.map none)]⟩:=by kernel_rfl
theorem Amu(F:Out):(B.env F).tab 138=some ⟨.map 44 143,1,8,[.val (.map none)]⟩:=(A1 Tryz.prog 138).trans AnS
theorem Aoc:Bz Tryz.prog 143=some ⟨.struct #[⟨"Ref", 44,0,false,"","", 0⟩,⟨"By", 44,2,false,"","", 16⟩,⟨"Time", 3,4,false,"","", 32⟩,⟨"Item", 47,5,false,"","", 40⟩],21,192,[i64 0,i64 0,i64 0,i64 0,i64 0,i64 0,i64 0,i64 0,i64 0,i64 0,i64 0,i64 0,i64 0,i64 0,i64 0,i64 0,i64 0,i64 0,i64 0,.str (([]:List UInt8)),.sl true (L Aj ([]))]⟩:=by kernel_rfl
theorem AgR(F:Out):(B.env F).tab 143=some ⟨.struct #[⟨"Ref", 44,0,false,"","", 0⟩,⟨"By", 44,2,false,"","", 16⟩,⟨"Time", 3,4,false,"","", 32⟩,⟨"Item", 47,5,false,"","", 40⟩],21,192,[i64 0,i64 0,i64 0,i64 0,i64 0,i64 0,i64 0,i64 0,i64 0,i64 0,i64 0,i64 0,i64 0,i64 0,i64 0,i64 0,i64 0,i64 0,i64 0,.str (([]:List UInt8)),.sl true (L Aj ([]))]⟩:=(A1 Tryz.prog 143).trans Aoc
theorem Anf:Bz Tryz.prog 155=some ⟨.struct #[⟨"Wanted", 3,0,false,"","", 0⟩,⟨"Given", 3,1,false,"","", 8⟩,⟨"Cost", 3,2,false,"","", 16⟩],3,24,[i64 0,i64 0,i64 0]⟩:=by kernel_rfl
theorem Aj2(F:Out):(B.env F).tab 155=some ⟨.struct #[⟨"Wanted", 3,0,false,"","", 0⟩,⟨"Given", 3,1,false,"","", 8⟩,⟨"Cost", 3,2,false,"","", 16⟩],3,24,[i64 0,i64 0,i64 0]⟩:=(A1 Tryz.prog 155).trans Anf
theorem AoB:Bz Tryz.prog 177=some ⟨.pointer 3,1,8,[.val (.pointer none)]⟩:=by kernel_rfl
theorem Ai8(F:Out):(B.env F).tab 177=some ⟨.pointer 3,1,8,[.val (.pointer none)]⟩:=(A1 Tryz.prog 177).trans AoB
theorem Ams:Bz Tryz.prog 178=some ⟨.array 11 177,11,88,[.val (.pointer none),.val (.pointer none),.val (.pointer none),.val (.pointer none),.val (.pointer none),.val (.pointer none),.val (.pointer none),.val (.pointer none),.val (.pointer none),.val (.pointer none),.val (.pointer none)]⟩:=by kernel_rfl
theorem AkF(F:Out):(B.env F).tab 178=some ⟨.array 11 177,11,88,[.val (.pointer none),.val (.pointer none),.val (.pointer none),.val (.pointer none),.val (.pointer none),.val (.pointer none),.val (.pointer none),.val (.pointer none),.val (.pointer none),.val (.pointer none),.val (.pointer none)]⟩:=(A1 Tryz.prog 178).trans Ams
theorem Al1:Bz Tryz.prog 182=some ⟨.struct #[⟨"Kind", 3,0,false,"","", 0⟩,⟨"Serial", 3,1,false,"","", 8⟩,⟨"Fitted", 4,2,false,"","", 16⟩],3,24,[i64 0,i64 0,.bool false]⟩:=by kernel_rfl
theorem AeB(F:Out):(B.env F).tab 182=some ⟨.struct #[⟨"Kind", 3,0,false,"","", 0⟩,⟨"Serial", 3,1,false,"","", 8⟩,⟨"Fitted", 4,2,false,"","", 16⟩],3,24,[i64 0,i64 0,.bool false]⟩:=(A1 Tryz.prog 182).trans Al1
theorem AmK:Bz Tryz.prog 184=some ⟨.int .u64,1,8,[u64 ((0:UInt64))]⟩:=by kernel_rfl
theorem Aoq(F:Out):(B.env F).tab 184=some ⟨.int .u64,1,8,[u64 ((0:UInt64))]⟩:=(A1 Tryz.prog 184).trans AmK
theorem AmI:Bz Tryz.prog 197=some ⟨.slice 4,1,24,[.sl true (L O7 ([]))]⟩:=by kernel_rfl
theorem AfU(F:Out):(B.env F).tab 197=some ⟨.slice 4,1,24,[.sl true (L O7 ([]))]⟩:=(A1 Tryz.prog 197).trans AmI
theorem Anc:Bz Tryz.prog 199=some ⟨.struct #[⟨"From", 3,0,false,"","", 0⟩,⟨"To", 3,1,false,"","", 8⟩,⟨"Minutes", 3,2,false,"","", 16⟩],3,24,[i64 0,i64 0,i64 0]⟩:=by kernel_rfl
theorem AiD(F:Out):(B.env F).tab 199=some ⟨.struct #[⟨"From", 3,0,false,"","", 0⟩,⟨"To", 3,1,false,"","", 8⟩,⟨"Minutes", 3,2,false,"","", 16⟩],3,24,[i64 0,i64 0,i64 0]⟩:=(A1 Tryz.prog 199).trans Anc
theorem AmW:Bz Tryz.prog 204=some ⟨.slice 48,1,24,[.sl true (L R0 ([]))]⟩:=by kernel_rfl
theorem Alo(F:Out):(B.env F).tab 204=some ⟨.slice 48,1,24,[.sl true (L R0 ([]))]⟩:=(A1 Tryz.prog 204).trans AmW
theorem Ao4:Bz Tryz.prog 208=some ⟨.array 64 4,64,64,(C1 AV.bool ((Arr.rep 64 false)).l)⟩:=Qc (by kernel_rfl) (by kernel_rfl)
theorem Agt(F:Out):(B.env F).tab 208=some ⟨.array 64 4,64,64,(C1 AV.bool ((Arr.rep 64 false)).l)⟩:=(A1 Tryz.prog 208).trans Ao4
theorem Amr:Bz Tryz.prog 209=some ⟨.array 64 208,4096,4096,(C1 AV.bool ((Arr.rep 4096 false)).l)⟩:=Qc (by kernel_rfl) (by kernel_rfl)
theorem Akr(F:Out):(B.env F).tab 209=some ⟨.array 64 208,4096,4096,(C1 AV.bool ((Arr.rep 4096 false)).l)⟩:=(A1 Tryz.prog 209).trans Amr
theorem Aou:Bz Tryz.prog 211=some ⟨.struct #[⟨"p", 36,0,false,"","wagonpool/edi", 0⟩,⟨"it", 47,9,false,"","wagonpool/edi", 216⟩,⟨"ok", 4,25,false,"","wagonpool/edi", 368⟩],26,376,[.sl true (L Ag ([])),.sl true (L Al ([])),.sl true (L Aa ([])),.sl true (L Ae ([])),.sl true (L Ai ([])),.sl true (L Ah ([])),.sl true (L Af ([])),.sl true (L Ad ([])),.sl true (L Ab ([])),i64 0,i64 0,i64 0,i64 0,i64 0,i64 0,i64 0,i64 0,i64 0,i64 0,i64 0,i64 0,i64 0,i64 0,.str (([]:List UInt8)),.sl true (L Aj ([])),.bool false]⟩:=by kernel_rfl
theorem AlS(F:Out):(B.env F).tab 211=some ⟨.struct #[⟨"p", 36,0,false,"","wagonpool/edi", 0⟩,⟨"it", 47,9,false,"","wagonpool/edi", 216⟩,⟨"ok", 4,25,false,"","wagonpool/edi", 368⟩],26,376,[.sl true (L Ag ([])),.sl true (L Al ([])),.sl true (L Aa ([])),.sl true (L Ae ([])),.sl true (L Ai ([])),.sl true (L Ah ([])),.sl true (L Af ([])),.sl true (L Ad ([])),.sl true (L Ab ([])),i64 0,i64 0,i64 0,i64 0,i64 0,i64 0,i64 0,i64 0,i64 0,i64 0,i64 0,i64 0,i64 0,i64 0,.str (([]:List UInt8)),.sl true (L Aj ([])),.bool false]⟩:=(A1 Tryz.prog 211).trans Aou
theorem AoU:Bz Tryz.prog 219=some ⟨.slice 63,1,24,[.sl true (L (cSl cU8) ([]))]⟩:=by kernel_rfl
theorem Ajv(F:Out):(B.env F).tab 219=some ⟨.slice 63,1,24,[.sl true (L (cSl cU8) ([]))]⟩:=(A1 Tryz.prog 219).trans AoU
theorem Ao6:Bz Tryz.prog 220=some ⟨.int .u32,1,4,[u32 ((0:UInt32))]⟩:=by kernel_rfl
theorem AcK(F:Out):(B.env F).tab 220=some ⟨.int .u32,1,4,[u32 ((0:UInt32))]⟩:=(A1 Tryz.prog 220).trans Ao6
theorem AmR:Bz Tryz.prog 221=some ⟨.array 8 220,8,32,(C1 u32 ((Arr.rep 8 (0:UInt32))).l)⟩:=by kernel_rfl
theorem Alc(F:Out):(B.env F).tab 221=some ⟨.array 8 220,8,32,(C1 u32 ((Arr.rep 8 (0:UInt32))).l)⟩:=(A1 Tryz.prog 221).trans AmR
theorem Al0:Bz Tryz.prog 232=some ⟨.array 64 220,64,256,(C1 u32 ((Arr.rep 64 (0:UInt32))).l)⟩:=by kernel_rfl
theorem Ag5(F:Out):(B.env F).tab 232=some ⟨.array 64 220,64,256,(C1 u32 ((Arr.rep 64 (0:UInt32))).l)⟩:=(A1 Tryz.prog 232).trans Al0
theorem AkU:AV.int .u32 0=u32 0:=rfl
theorem Pz:AV.int .u32 113926993=u32 113926993:=rfl
theorem PI:AV.int .u32 264347078=u32 264347078:=rfl
theorem PO:AV.int .u32 275423344=u32 275423344:=rfl
theorem P8:AV.int .u32 310598401=u32 310598401:=rfl
theorem P5:AV.int .u32 338241895=u32 338241895:=rfl
theorem PG:AV.int .u32 430227734=u32 430227734:=rfl
theorem Ps:AV.int .u32 506948616=u32 506948616:=rfl
theorem Pp:AV.int .u32 528734635=u32 528734635:=rfl
theorem Pw:AV.int .u32 604807628=u32 604807628:=rfl
theorem P4:AV.int .u32 607225278=u32 607225278:=rfl
theorem PX:AV.int .u32 659060556=u32 659060556:=rfl
theorem P9:AV.int .u32 666307205=u32 666307205:=rfl
theorem Px:AV.int .u32 770255983=u32 770255983:=rfl
theorem P3:AV.int .u32 773529912=u32 773529912:=rfl
theorem PR:AV.int .u32 883997877=u32 883997877:=rfl
theorem Pv:AV.int .u32 958139571=u32 958139571:=rfl
theorem PF:AV.int .u32 961987163=u32 961987163:=rfl
theorem NZ:AV.int .u32 1013904242=u32 1013904242:=rfl
theorem Og:AV.int .u32 1116352408=u32 1116352408:=rfl
theorem OA:AV.int .u32 1249150122=u32 1249150122:=rfl
theorem Oo:AV.int .u32 1294757372=u32 1294757372:=rfl
theorem OG:AV.int .u32 1322822218=u32 1322822218:=rfl
theorem Pi:AV.int .u32 1359893119=u32 1359893119:=rfl
theorem ON:AV.int .u32 1396182291=u32 1396182291:=rfl
theorem NG:AV.int .u32 1426881987=u32 1426881987:=rfl
theorem MD:AV.int .u32 1508970993=u32 1508970993:=rfl
theorem MW:AV.int .u32 1537002063=u32 1537002063:=rfl
theorem OV:AV.int .u32 1541459225=u32 1541459225:=rfl
theorem MQ:AV.int .u32 1555081692=u32 1555081692:=rfl
theorem OY:AV.int .u32 1695183700=u32 1695183700:=rfl
theorem MA:AV.int .u32 1747873779=u32 1747873779:=rfl
theorem OX:AV.int .u32 1779033703=u32 1779033703:=rfl
theorem Oy:AV.int .u32 1899447441=u32 1899447441:=rfl
theorem Mz:AV.int .u32 1925078388=u32 1925078388:=rfl
theorem Oq:AV.int .u32 1955562222=u32 1955562222:=rfl
theorem O6:AV.int .u32 1986661051=u32 1986661051:=rfl
theorem MR:AV.int .u32 1996064986=u32 1996064986:=rfl
theorem Ot:AV.int .u32 2024104815=u32 2024104815:=rfl
theorem M4:AV.int .u32 2162078206=u32 2162078206:=rfl
theorem MV:AV.int .u32 2177026350=u32 2177026350:=rfl
theorem Ni:AV.int .u32 2227730452=u32 2227730452:=rfl
theorem ME:AV.int .u32 2361852424=u32 2361852424:=rfl
theorem Oc:AV.int .u32 2428436474=u32 2428436474:=rfl
theorem Nz:AV.int .u32 2453635748=u32 2453635748:=rfl
theorem MF:AV.int .u32 2456956037=u32 2456956037:=rfl
theorem OH:AV.int .u32 2554220882=u32 2554220882:=rfl
theorem MZ:AV.int .u32 2600822924=u32 2600822924:=rfl
theorem NJ:AV.int .u32 2614888103=u32 2614888103:=rfl
theorem OS:AV.int .u32 2730485921=u32 2730485921:=rfl
theorem Oi:AV.int .u32 2756734187=u32 2756734187:=rfl
theorem Ol:AV.int .u32 2773480762=u32 2773480762:=rfl
theorem MJ:AV.int .u32 2820302411=u32 2820302411:=rfl
theorem NT:AV.int .u32 2821834349=u32 2821834349:=rfl
theorem MS:AV.int .u32 2870763221=u32 2870763221:=rfl
theorem OL:AV.int .u32 2952996808=u32 2952996808:=rfl
theorem O0:AV.int .u32 3049323471=u32 3049323471:=rfl
theorem ML:AV.int .u32 3144134277=u32 3144134277:=rfl
theorem OI:AV.int .u32 3204031479=u32 3204031479:=rfl
theorem Nl:AV.int .u32 3210313671=u32 3210313671:=rfl
theorem MO:AV.int .u32 3248222580=u32 3248222580:=rfl
theorem M0:AV.int .u32 3259730800=u32 3259730800:=rfl
theorem Nb:AV.int .u32 3329325298=u32 3329325298:=rfl
theorem MK:AV.int .u32 3336571891=u32 3336571891:=rfl
theorem Nv:AV.int .u32 3345764771=u32 3345764771:=rfl
theorem Om:AV.int .u32 3516065817=u32 3516065817:=rfl
theorem Nk:AV.int .u32 3584528711=u32 3584528711:=rfl
theorem M5:AV.int .u32 3600352804=u32 3600352804:=rfl
theorem OO:AV.int .u32 3624381080=u32 3624381080:=rfl
theorem Nq:AV.int .u32 3835390401=u32 3835390401:=rfl
theorem MB:AV.int .u32 3921009573=u32 3921009573:=rfl
theorem M8:AV.int .u32 4022224774=u32 4022224774:=rfl
theorem MP:AV.int .u32 4094571909=u32 4094571909:=rfl
theorem Ajg:AV.int .u64 0=u64 0:=rfl
theorem Aia:AV.int .u64 1=u64 1:=rfl
theorem Ald:AV.int .u64 2=u64 2:=rfl
theorem Alh:AV.int .u64 3=u64 3:=rfl
theorem Aln:AV.int .u64 4=u64 4:=rfl
theorem AjP:AV.int .u64 7=u64 7:=rfl
theorem Ak1:AV.int .u64 8=u64 8:=rfl
theorem Ag9:AV.int .u64 10=u64 10:=rfl
theorem AgX:AV.int .u64 16=u64 16:=rfl
theorem AeJ:AV.int .u64 24=u64 24:=rfl
theorem Agx:AV.int .u64 31=u64 31:=rfl
theorem Ahd:AV.int .u64 32=u64 32:=rfl
theorem Af8:AV.int .u64 64=u64 64:=rfl
theorem Ab7:AV.int .u64 256=u64 256:=rfl
theorem Yt:AV.int .u64 65536=u64 65536:=rfl
theorem NQ:AV.int .u64 4294967295=u64 4294967295:=rfl
theorem N8:AV.int .u64 4294967296=u64 4294967296:=rfl
theorem Hm:AV.int .u64 1152921504606845398=u64 1152921504606845398:=rfl
theorem Ho:AV.int .u64 1152921504606845399=u64 1152921504606845399:=rfl
theorem Hk:AV.int .u64 2305843009213690799=u64 2305843009213690799:=rfl
theorem Apk:AV.int .u8 0=u8 0:=rfl
theorem Akq:AV.int .u8 23=u8 23:=rfl
theorem AjJ:AV.int .u8 31=u8 31:=rfl
theorem Aiu:AV.int .u8 32=u8 32:=rfl
theorem AhG:AV.int .u8 40=u8 40:=rfl
theorem AjA:AV.int .u8 48=u8 48:=rfl
theorem AjR:AV.int .u8 64=u8 64:=rfl
theorem Ai0:AV.int .u8 99=u8 99:=rfl
theorem Afn:AV.int .u8 100=u8 100:=rfl
theorem Ag7:AV.int .u8 102=u8 102:=rfl
theorem Afy:AV.int .u8 103=u8 103:=rfl
theorem Agj:AV.int .u8 107=u8 107:=rfl
theorem Agh:AV.int .u8 110=u8 110:=rfl
theorem Ae2:AV.int .u8 111=u8 111:=rfl
theorem Agc:AV.int .u8 112=u8 112:=rfl
theorem AeQ:AV.int .u8 113=u8 113:=rfl
theorem AgT:AV.int .u8 116=u8 116:=rfl
theorem Af4:AV.int .u8 119=u8 119:=rfl
theorem AgS:AV.int .u8 120=u8 120:=rfl
theorem Ahn:AV.int .u8 127=u8 127:=rfl
theorem Afg:AV.int .u8 128=u8 128:=rfl
theorem Ae4:AV.int .u8 255=u8 255:=rfl
theorem nb36{F}:((B.env F).bty=some 36)=False:=Aq0 (fun h:(none:Option TypeId)=some 36=>by cases h)
theorem AcY{F}{σ:Am}(s x:AV):Bf (B.env F) σ .append [34,34] [s,x]=match Gg σ x with
      | some new=>if Gp x 16=true then none else if ∀cs∈new,cs.length=16 then(match s with
          | .sl full els=>
            if els=[]∧full=true then
              if Dt new.length 144 then some (.bs false σ.length new.length 0 new.length,σ++[.buf 16 new false])else none
            else if new=[]then some (.sl full els,σ)
            else if full=true∧(∀cs∈els,cs.length=16)∧Dt (els.length+new.length) 144
            then some (.bs false σ.length (els.length+new.length) 0 (els.length+new.length),σ++[.buf 16 (els++new) false])else none
          | .bs full id tot off len=>match σ[id]? with
            | some (.buf k els ro)=>
              if els.length=tot∧k=16∧Dt (len+new.length) 144 then
                if off=0∧len=tot then some (.bs false id (tot+new.length) 0 (tot+new.length),σ.set id (.buf k (els++new) ro))
                else if new=[]then some (.bs full id tot off len,σ)
                else if full then some (.bs false σ.length (len+new.length) 0 (len+new.length),σ++[.buf k ((els.drop off).take len++new) false])
                else none
              else none
            |some (.tb T l)=>P7 σ id tot off len 144 16 74 T l new
            |_=>none
          |_=>none)
        else none
      |none=>none:=Gn (AlD F) (Am6 F) (by decide) (AlD F) (.inl ⟨_,rfl⟩) s x []
theorem nb47{F}:((B.env F).bty=some 47)=False:=Aq0 (fun h:(none:Option TypeId)=some 47=>by cases h)
theorem Ail{F}{σ:Am}(f:Bool)(l:List Aps)(x:AV):Av (B.env F) σ 22 (.sl f (L Ag l)) x=match idx x l.length with
 |some i=>some (.rp (Ag (nth l i)))
 |none=>none:=Fo Ag (tb22 F) (Ajp F) (fun _=>rfl) f l x
theorem An1{F}:((B.env F).bty=some 120)=False:=Aq0 (fun h:(none:Option TypeId)=some 120=>by cases h)
theorem AkH{F}{σ:Am}(f:Bool)(l:List Apt)(x:AV):Av (B.env F) σ 23 (.sl f (L Al l)) x=match idx x l.length with
 |some i=>some (.rp (Al (nth l i)))
 |none=>none:=Fo Al (tb23 F) (Akk F) (fun _=>rfl) f l x
theorem Al7{F}:((B.env F).bty=some 122)=False:=Aq0 (fun h:(none:Option TypeId)=some 122=>by cases h)
theorem nb57{F}:((B.env F).bty=some 57)=False:=Aq0 (fun h:(none:Option TypeId)=some 57=>by cases h)
theorem Ah3{F}{σ:Am}(f:Bool)(l:List Apv)(x:AV):Av (B.env F) σ 26 (.sl f (L Aa l)) x=match idx x l.length with
 |some i=>some (.rp (Aa (nth l i)))
 |none=>none:=Fo Aa (tb26 F) (AkT F) (fun _=>rfl) f l x
theorem Aof{F}:((B.env F).bty=some 124)=False:=Aq0 (fun h:(none:Option TypeId)=some 124=>by cases h)
theorem AkY{F}{σ:Am}(f:Bool)(id tot off len:Nat)(x:AV):Av (B.env F) σ 70 (.bs f id tot off len) x=match σ[id]?,idx x len with
 |some (.buf k els _),some i=>if els.length=tot∧k=1 then some (.eref id tot (off+i) 0)else none
 |_,_=>none:=WN (Apm F) (tb3 F) (by decide) f id tot off len x
theorem Aiw{F}{σ:Am}(f:Bool)(l:List Apw)(x:AV):Av (B.env F) σ 27 (.sl f (L Ae l)) x=match idx x l.length with
 |some i=>some (.rp (Ae (nth l i)))
 |none=>none:=Fo Ae (tb27 F) (AiL F) (fun _=>rfl) f l x
theorem Ao8{F}:((B.env F).bty=some 126)=False:=Aq0 (fun h:(none:Option TypeId)=some 126=>by cases h)
theorem Air{F}{σ:Am}(f:Bool)(l:List Apx)(x:AV):Av (B.env F) σ 28 (.sl f (L Ai l)) x=match idx x l.length with
 |some i=>some (.rp (Ai (nth l i)))
 |none=>none:=Fo Ai (tb28 F) (Aj2 F) (fun _=>rfl) f l x
theorem Amt{F}:((B.env F).bty=some 155)=False:=Aq0 (fun h:(none:Option TypeId)=some 155=>by cases h)
theorem Ana{F}:((B.env F).bty=some 209)=False:=Aq0 (fun h:(none:Option TypeId)=some 209=>by cases h)
theorem Ajd{F}{σ:Am}(f:Bool)(l:List Apy)(x:AV):Av (B.env F) σ 29 (.sl f (L Ah l)) x=match idx x l.length with
 |some i=>some (.rp (Ah (nth l i)))
 |none=>none:=Fo Ah (tb29 F) (AiD F) (fun _=>rfl) f l x
theorem Amb{F}:((B.env F).bty=some 199)=False:=Aq0 (fun h:(none:Option TypeId)=some 199=>by cases h)
theorem Afw{F}(id off:Nat)(x:AV){σ:Am}:Av (B.env F) σ 209 (.ref id off) x=match idx x 64 with
 |some i=>some (.ref id (off+i*64))
 |none=>none:=KJ (Akr F) (Agt F) id off x
theorem AgZ{F}(id off:Nat)(x:AV){σ:Am}:Av (B.env F) σ 208 (.ref id off) x=match idx x 64 with
 |some i=>some (.ref id (off+i*1))
 |none=>none:=KJ (Agt F) (tb4 F) id off x
theorem Amn{F}(cs:List AV)(x:AV):Io (B.env F) 69 (.agg cs) x=match idx x 7 with
 |some i=>partA (⟨.struct #[⟨"From", 3,0,false,"","", 0⟩,⟨"To", 3,1,false,"","", 8⟩],2,16,[i64 0,i64 0]⟩:TD) cs (i*2)
 |none=>none:=Qm (Aos F) (AnR F) cs x
theorem nb68{F}:((B.env F).bty=some 68)=False:=Aq0 (fun h:(none:Option TypeId)=some 68=>by cases h)
theorem AhK{F}{σ:Am}(f:Bool)(l:List Int)(x:AV):Av (B.env F) σ 70 (.sl f (L GC l)) x=match idx x l.length with
 |some i=>some (.rp (GC (nth l i)))
 |none=>none:=Fo GC (Apm F) (tb3 F) (fun _=>rfl) f l x
theorem Ah7{F}(l:List UInt8)(x:AV):Io (B.env F) 9 (.str l) x=match idx x l.length with
 |some i=>some (u8 (nth l i))
 |none=>none:=Xi (tb9 F) l x
theorem Ajs{F}{σ:Am}(f:Bool)(l:List ApA)(x:AV):Av (B.env F) σ 32 (.sl f (L Af l)) x=match idx x l.length with
 |some i=>some (.rp (Af (nth l i)))
 |none=>none:=Fo Af (tb32 F) (AkS F) (fun _=>rfl) f l x
theorem AmH{F}:((B.env F).bty=some 128)=False:=Aq0 (fun h:(none:Option TypeId)=some 128=>by cases h)
theorem Ak7{F}{σ:Am}(f:Bool)(l:List ApB)(x:AV):Av (B.env F) σ 33 (.sl f (L Ad l)) x=match idx x l.length with
 |some i=>some (.rp (Ad (nth l i)))
 |none=>none:=Fo Ad (tb33 F) (Ai9 F) (fun _=>rfl) f l x
theorem Amo{F}:((B.env F).bty=some 130)=False:=Aq0 (fun h:(none:Option TypeId)=some 130=>by cases h)
theorem AiN{F}{σ:Am}(f:Bool)(l:List ApE)(x:AV):Av (B.env F) σ 34 (.sl f (L Ab l)) x=match idx x l.length with
 |some i=>some (.rp (Ab (nth l i)))
 |none=>none:=Fo Ab (AlD F) (Am6 F) (fun _=>rfl) f l x
theorem nb74{F}:((B.env F).bty=some 74)=False:=Aq0 (fun h:(none:Option TypeId)=some 74=>by cases h)
theorem Ajf{F}{σ:Am}(f:Bool)(l:List (List ApK))(x:AV):Av (B.env F) σ 37 (.sl f (L (cSl Ak) l)) x=match idx x l.length with
 |some i=>some (.rp ((cSl Ak) (nth l i)))
 |none=>none:=Fo (cSl Ak) (AhE F) (Aej F) (fun _=>rfl) f l x
theorem AoZ{F}:((B.env F).bty=some 105)=False:=Aq0 (fun h:(none:Option TypeId)=some 105=>by cases h)
theorem Aic{F}(cs:List AV)(x:AV):Io (B.env F) 178 (.agg cs) x=match idx x 11 with
 |some i=>partA (⟨.pointer 3,1,8,[.val (.pointer none)]⟩:TD) cs (i*1)
 |none=>none:=Qm (AkF F) (Ai8 F) cs x
theorem XA{F}{σ:Am}(s x:AV):Bf (B.env F) σ .append [103,103] [s,x]=match Gg σ x with
      | some new=>if Gp x 4=true then none else if ∀cs∈new,cs.length=4 then(match s with
          | .sl full els=>
            if els=[]∧full=true then
              if Dt new.length 64 then some (.bs false σ.length new.length 0 new.length,σ++[.buf 4 new false])else none
            else if new=[]then some (.sl full els,σ)
            else if full=true∧(∀cs∈els,cs.length=4)∧Dt (els.length+new.length) 64
            then some (.bs false σ.length (els.length+new.length) 0 (els.length+new.length),σ++[.buf 4 (els++new) false])else none
          | .bs full id tot off len=>match σ[id]? with
            | some (.buf k els ro)=>
              if els.length=tot∧k=4∧Dt (len+new.length) 64 then
                if off=0∧len=tot then some (.bs false id (tot+new.length) 0 (tot+new.length),σ.set id (.buf k (els++new) ro))
                else if new=[]then some (.bs full id tot off len,σ)
                else if full then some (.bs false σ.length (len+new.length) 0 (len+new.length),σ++[.buf k ((els.drop off).take len++new) false])
                else none
              else none
            |some (.tb T l)=>P7 σ id tot off len 64 4 105 T l new
            |_=>none
          |_=>none)
        else none
      |none=>none:=Gn (AdB F) (AeP F) (by decide) (AdB F) (.inl ⟨_,rfl⟩) s x []
theorem Aib{F}{σ:Am}(f:Bool)(l:List ApH)(x:AV):Av (B.env F) σ 45 (.sl f (L Aj l)) x=match idx x l.length with
 |some i=>some (.rp (Aj (nth l i)))
 |none=>none:=Fo Aj (tb45 F) (AeB F) (fun _=>rfl) f l x
theorem An2{F}:((B.env F).bty=some 182)=False:=Aq0 (fun h:(none:Option TypeId)=some 182=>by cases h)
theorem AoY{F}{σ:Am}(l c:Int):Em (B.env F) σ 63 (i64 l) (i64 c)=if Mk l c 1 then some (.bs (l==c) σ.length l.toNat 0 l.toNat,σ++[.buf 1 (List.replicate l.toNat [u8 ((0:UInt8))]) false])else none:=U7 (AgQ F) (tb5 F) (by decide) l c
theorem AkG{F}{σ:Am}(f:Bool)(id tot off len:Nat)(x:AV):Av (B.env F) σ 63 (.bs f id tot off len) x=match σ[id]?,idx x len with
 |some (.buf k els _),some i=>if els.length=tot∧k=1 then some (.eref id tot (off+i) 0)else none
 |_,_=>none:=WN (AgQ F) (tb5 F) (by decide) f id tot off len x
theorem Ae1{F}{σ:Am}(f:Bool)(l:List ApN)(x:AV):Av (B.env F) σ 103 (.sl f (L cApi_Value l)) x=match idx x l.length with
 |some i=>some (.rp (cApi_Value (nth l i)))
 |none=>none:=Fo cApi_Value (AdB F) (AeP F) (fun y=>by rw[Kb];rfl) f l x
theorem AcJ{F}{σ:Am}(s x:AV):Bf (B.env F) σ .append [63,63] [s,x]=match Gg σ x with
      | some new=>if Gp x 1=true then none else if ∀cs∈new,cs.length=1 then(match s with
          | .sl full els=>
            if els=[]∧full=true then
              if Dt new.length 1 then some (.bs false σ.length new.length 0 new.length,σ++[.buf 1 new false])else none
            else if new=[]then some (.sl full els,σ)
            else if full=true∧(∀cs∈els,cs.length=1)∧Dt (els.length+new.length) 1
            then some (.bs false σ.length (els.length+new.length) 0 (els.length+new.length),σ++[.buf 1 (els++new) false])else none
          | .bs full id tot off len=>match σ[id]? with
            | some (.buf k els ro)=>
              if els.length=tot∧k=1∧Dt (len+new.length) 1 then
                if off=0∧len=tot then some (.bs false id (tot+new.length) 0 (tot+new.length),σ.set id (.buf k (els++new) ro))
                else if new=[]then some (.bs full id tot off len,σ)
                else if full then some (.bs false σ.length (len+new.length) 0 (len+new.length),σ++[.buf k ((els.drop off).take len++new) false])
                else none
              else none
            |some (.tb T l)=>P7 σ id tot off len 1 1 5 T l new
            |_=>none
          |_=>none)
        else none
      |none=>none:=Gn (AgQ F) (tb5 F) (by decide) (AgQ F) (.inl ⟨_,rfl⟩) s x []
theorem AhU{F}{σ:Am}(f:Bool)(l:List UInt8)(x:AV):Av (B.env F) σ 63 (.sl f (L cU8 l)) x=match idx x l.length with
 |some i=>some (.rp (cU8 (nth l i)))
 |none=>none:=Fo cU8 (AgQ F) (tb5 F) (fun _=>rfl) f l x
theorem AmG{F}:((B.env F).bty=some 221)=False:=Aq0 (fun h:(none:Option TypeId)=some 221=>by cases h)
theorem Amx{F}:((B.env F).bty=some 232)=False:=Aq0 (fun h:(none:Option TypeId)=some 232=>by cases h)
theorem Aho{F}{σ:Am}(id off:Nat)(x:AV):Av (B.env F) σ 232 (.ref id off) x=match idx x 64 with
 |some i=>some (.ref id (off+i*1))
 |none=>none:=KJ (Ag5 F) (AcK F) id off x
theorem AeN{F}{σ:Am}(id off:Nat)(x:AV):Av (B.env F) σ 221 (.ref id off) x=match idx x 8 with
 |some i=>some (.ref id (off+i*1))
 |none=>none:=KJ (Alc F) (AcK F) id off x
theorem Aae{F}{σ:Am}(x:AV):Av (B.env F) σ 232 (.glob 3) x=match idx x 64 with
 |some i=>some (.rp ((C1 u32 glob3.l).drop i))
 |none=>none:=Ach (Ag5 F) (AcK F) rfl x
theorem nb42{F}:((B.env F).bty=some 42)=False:=Aq0 (fun h:(none:Option TypeId)=some 42=>by cases h)
theorem AfX{F}{σ:Am}(f:Bool)(l:List (List UInt8))(x:AV):Av (B.env F) σ 219 (.sl f (L (cSl cU8) l)) x=match idx x l.length with
 |some i=>some (.rp ((cSl cU8) (nth l i)))
 |none=>none:=Fo (cSl cU8) (Ajv F) (AgQ F) (fun _=>rfl) f l x
theorem Akb{F}{σ:Am}(id off:Nat)(x:AV):Av (B.env F) σ 42 (.ref id off) x=match idx x 32 with
 |some i=>some (.ref id (off+i*1))
 |none=>none:=KJ (Aok F) (tb5 F) id off x
theorem AeW{F}{σ:Am}(f:Bool)(l:List UInt64)(x:AV):Av (B.env F) σ 204 (.sl f (L R0 l)) x=match idx x l.length with
 |some i=>some (.rp (R0 (nth l i)))
 |none=>none:=Fo R0 (Alo F) (AlC F) (fun _=>rfl) f l x
theorem nb50{F}:((B.env F).bty=some 50)=False:=Aq0 (fun h:(none:Option TypeId)=some 50=>by cases h)
theorem Acm{F}(a0:Int)(a1:Int)(b0:Int)(b1:Int):AO (B.env F) .eql 44 (.agg [i64 a0,i64 a1]) (.agg [i64 b0,i64 b1])=some (.bool (((a0==b0)&&(a1==b1)))) :=
 Jt (Amy F) (by kernel_rfl) (by kernel_rfl) (Jd (by decide) (tb3 F) rfl rfl (KC a0 b0) (Mh (by decide) (tb3 F) rfl rfl (KC a1 b1)))
theorem Anh{F}:((B.env F).bty=some 211)=False:=Aq0 (fun h:(none:Option TypeId)=some 211=>by cases h)
theorem AiF{F}{op:BinOp}(a b:Arr UInt8 32):AO (B.env F) op 42 (.agg (C1 u8 a.l)) (.agg (C1 u8 b.l))=match op with
 |.eql=>some (.bool (a==b))
 |.neq=>some (.bool (!(a==b)))
 |_=>none:=Y0 (Aok F) (tb5 F) a b
theorem Ack{F}(a0:UInt64)(a1:UInt64)(b0:UInt64)(b1:UInt64):AO (B.env F) .eql 50 (.agg [u64 a0,u64 a1]) (.agg [u64 b0,u64 b1])=some (.bool (((a0==b0)&&(a1==b1)))) :=
 Jt (tb50 F) (by kernel_rfl) (by kernel_rfl) (Jd (by decide) (AlC F) rfl rfl (AaP a0 b0) (Mh (by decide) (AlC F) rfl rfl (AaP a1 b1)))
theorem Ah5{F}{σ:Am}(f:Bool)(l:List ApK)(x:AV):Av (B.env F) σ 75 (.sl f (L Ak l)) x=match idx x l.length with
 |some i=>some (.rp (Ak (nth l i)))
 |none=>none:=Fo Ak (Aej F) (AlO F) (fun y=>by simp only[Ak,Aqg,Aqe,DT,Aqr]) f l x
theorem nb44{F}:((B.env F).bty=some 44)=False:=Aq0 (fun h:(none:Option TypeId)=some 44=>by cases h)
theorem AbJ{F}(a0:Int)(a1:Int)(b0:Int)(b1:Int):AO (B.env F) .neq 44 (.agg [i64 a0,i64 a1]) (.agg [i64 b0,i64 b1])=some (.bool (!((a0==b0)&&(a1==b1)))) :=
 Jq (Amy F) (by kernel_rfl) (by kernel_rfl) (Jd (by decide) (tb3 F) rfl rfl (KC a0 b0) (Mh (by decide) (tb3 F) rfl rfl (KC a1 b1)))
theorem Adn{F}{σ:Am}(s x:AV):Bf (B.env F) σ .append [75,75] [s,x]=match Gg σ x with
      | some new=>if Gp x 53=true then none else if ∀cs∈new,cs.length=53 then(match s with
          | .sl full els=>
            if els=[]∧full=true then
              if Dt new.length 224 then some (.bs false σ.length new.length 0 new.length,σ++[.buf 53 new false])else none
            else if new=[]then some (.sl full els,σ)
            else if full=true∧(∀cs∈els,cs.length=53)∧Dt (els.length+new.length) 224
            then some (.bs false σ.length (els.length+new.length) 0 (els.length+new.length),σ++[.buf 53 (els++new) false])else none
          | .bs full id tot off len=>match σ[id]? with
            | some (.buf k els ro)=>
              if els.length=tot∧k=53∧Dt (len+new.length) 224 then
                if off=0∧len=tot then some (.bs false id (tot+new.length) 0 (tot+new.length),σ.set id (.buf k (els++new) ro))
                else if new=[]then some (.bs full id tot off len,σ)
                else if full then some (.bs false σ.length (len+new.length) 0 (len+new.length),σ++[.buf k ((els.drop off).take len++new) false])
                else none
              else none
            |some (.tb T l)=>P7 σ id tot off len 224 53 52 T l new
            |_=>none
          |_=>none)
        else none
      |none=>none:=Gn (Aej F) (AlO F) (by decide) (Aej F) (.inl ⟨_,rfl⟩) s x []
theorem AhP{F}{σ:Am}(f:Bool)(l:List ApL)(x:AV):Av (B.env F) σ 38 (.sl f (L An l)) x=match idx x l.length with
 |some i=>some (.rp (An (nth l i)))
 |none=>none:=Fo An (AlB F) (AlU F) (fun y=>by simp only[An,Aqg,Aqe,DT,Aqr]) f l x
theorem Abm{F}{σ:Am}(s x:AV):Bf (B.env F) σ .append [38,38] [s,x]=match Gg σ x with
      | some new=>if Gp x 106=true then none else if ∀cs∈new,cs.length=106 then(match s with
          | .sl full els=>
            if els=[]∧full=true then
              if Dt new.length 448 then some (.bs false σ.length new.length 0 new.length,σ++[.buf 106 new false])else none
            else if new=[]then some (.sl full els,σ)
            else if full=true∧(∀cs∈els,cs.length=106)∧Dt (els.length+new.length) 448
            then some (.bs false σ.length (els.length+new.length) 0 (els.length+new.length),σ++[.buf 106 (els++new) false])else none
          | .bs full id tot off len=>match σ[id]? with
            | some (.buf k els ro)=>
              if els.length=tot∧k=106∧Dt (len+new.length) 448 then
                if off=0∧len=tot then some (.bs false id (tot+new.length) 0 (tot+new.length),σ.set id (.buf k (els++new) ro))
                else if new=[]then some (.bs full id tot off len,σ)
                else if full then some (.bs false σ.length (len+new.length) 0 (len+new.length),σ++[.buf k ((els.drop off).take len++new) false])
                else none
              else none
            |some (.tb T l)=>P7 σ id tot off len 448 106 88 T l new
            |_=>none
          |_=>none)
        else none
      |none=>none:=Gn (AlB F) (AlU F) (by decide) (AlB F) (.inl ⟨_,rfl⟩) s x []
theorem nb40{F}:((B.env F).bty=some 40)=False:=Aq0 (fun h:(none:Option TypeId)=some 40=>by cases h)
theorem Api{F}{σ:Am}(l c:Int):Em (B.env F) σ 37 (i64 l) (i64 c)=if Mk l c 24 then some (.bs (l==c) σ.length l.toNat 0 l.toNat,σ++[.buf 1 (List.replicate l.toNat [.sl false (L Ak ([]))]) false])else none:=U7 (AhE F) (Aej F) (by decide) l c
theorem Ajb{F}{σ:Am}(f:Bool)(id tot off len:Nat)(x:AV):Av (B.env F) σ 37 (.bs f id tot off len) x=match σ[id]?,idx x len with
 |some (.buf k els _),some i=>if els.length=tot∧k=1 then some (.eref id tot (off+i) 0)else none
 |_,_=>none:=WN (AhE F) (Aej F) (by decide) f id tot off len x
theorem nb52{F}:((B.env F).bty=some 52)=False:=Aq0 (fun h:(none:Option TypeId)=some 52=>by cases h)
theorem YY{F}(a0:Int)(a1:Int)(a2:Bool)(b0:Int)(b1:Int)(b2:Bool):AO (B.env F) .neq 182 (.agg [i64 a0,i64 a1,.bool a2]) (.agg [i64 b0,i64 b1,.bool b2])=some (.bool (!((a0==b0)&&((a1==b1)&&(a2==b2))))) :=
 Jq (AeB F) (by kernel_rfl) (by kernel_rfl) (Jd (by decide) (tb3 F) rfl rfl (KC a0 b0) (Jd (by decide) (tb3 F) rfl rfl (KC a1 b1) (Mh (by decide) (tb4 F) rfl rfl (Ade a2 b2))))
theorem nb88{F}:((B.env F).bty=some 88)=False:=Aq0 (fun h:(none:Option TypeId)=some 88=>by cases h)
theorem AdT{F}{σ:Am}(s x:AV):Bf (B.env F) σ .append [37,37] [s,x]=match Gg σ x with
      | some new=>if Gp x 1=true then none else if ∀cs∈new,cs.length=1 then(match s with
          | .sl full els=>
            if els=[]∧full=true then
              if Dt new.length 24 then some (.bs false σ.length new.length 0 new.length,σ++[.buf 1 new false])else none
            else if new=[]then some (.sl full els,σ)
            else if full=true∧(∀cs∈els,cs.length=1)∧Dt (els.length+new.length) 24
            then some (.bs false σ.length (els.length+new.length) 0 (els.length+new.length),σ++[.buf 1 (els++new) false])else none
          | .bs full id tot off len=>match σ[id]? with
            | some (.buf k els ro)=>
              if els.length=tot∧k=1∧Dt (len+new.length) 24 then
                if off=0∧len=tot then some (.bs false id (tot+new.length) 0 (tot+new.length),σ.set id (.buf k (els++new) ro))
                else if new=[]then some (.bs full id tot off len,σ)
                else if full then some (.bs false σ.length (len+new.length) 0 (len+new.length),σ++[.buf k ((els.drop off).take len++new) false])
                else none
              else none
            |some (.tb T l)=>P7 σ id tot off len 24 1 75 T l new
            |_=>none
          |_=>none)
        else none
      |none=>none:=Gn (AhE F) (Aej F) (by decide) (AhE F) (.inl ⟨_,rfl⟩) s x []
theorem nb85{F}:((B.env F).bty=some 85)=False:=Aq0 (fun h:(none:Option TypeId)=some 85=>by cases h)
theorem AgV{F}:AdZ (B.env F) 138=true:=rfl
def EM(x:ApP):AV:=.agg (A3 x)
def CN:ApP:=({ Ref:=({ Zb:=0,No:=0 }:ApG),By:=({ Zb:=0,No:=0 }:ApG),Zw1:=0,Zx1:=({ Za:=0,Ref:=({ Zb:=0,No:=0 }:ApG),Zn1:=0,Zb1:=0,Zc:=0,Zo1:=0,Zw:=0,To:=0,Code:=0,Zp1:=0,Zq1:=0,Zr1:=0,Zs1:=0,Zt1:=([]:List UInt8),Zu1:=[] }:ApI) }:ApP)
theorem Agp(a0:Int)(a1:Int)(a2:Int)(a3:Int)(a4:Int)(a5:Int)(a6:Int)(a7:Int)(a8:Int)(a9:Int)(a10:Int)(a11:Int)(a12:Int)(a13:Int)(a14:Int)(a15:Int)(a16:Int)(a17:Int)(a18:Int)(a19:List UInt8)(a20:List ApH){l:List ((Int×Int)×ApP)}{k:Int×Int}:LV (M2 EM l) k (.agg [i64 a0,i64 a1,i64 a2,i64 a3,i64 a4,i64 a5,i64 a6,i64 a7,i64 a8,i64 a9,i64 a10,i64 a11,i64 a12,i64 a13,i64 a14,i64 a15,i64 a16,i64 a17,i64 a18,.str a19,.sl false (L Aj a20)])=M2 EM (AkV l k (({ Ref:=({ Zb:=a0,No:=a1 }:ApG),By:=({ Zb:=a2,No:=a3 }:ApG),Zw1:=a4,Zx1:=({ Za:=a5,Ref:=({ Zb:=a6,No:=a7 }:ApG),Zn1:=a8,Zb1:=a9,Zc:=a10,Zo1:=a11,Zw:=a12,To:=a13,Code:=a14,Zp1:=a15,Zq1:=a16,Zr1:=a17,Zs1:=a18,Zt1:=a19,Zu1:=a20 }:ApI) }:ApP))):=Aee (c:=EM) (x:=({ Ref:=({ Zb:=a0,No:=a1 }:ApG),By:=({ Zb:=a2,No:=a3 }:ApG),Zw1:=a4,Zx1:=({ Za:=a5,Ref:=({ Zb:=a6,No:=a7 }:ApG),Zn1:=a8,Zb1:=a9,Zc:=a10,Zo1:=a11,Zw:=a12,To:=a13,Code:=a14,Zp1:=a15,Zq1:=a16,Zr1:=a17,Zs1:=a18,Zt1:=a19,Zu1:=a20 }:ApI) }:ApP))
theorem Abz{F}{l:List ((Int×Int)×ApP)}(a b:Int):OP (B.env F) 138 (M2 EM l) (.agg [i64 a,i64 b]) true=if Tg a b then some (.tup [.agg [i64 (((((FW l (a,b)).getD CN)).Ref).Zb),i64 (((((FW l (a,b)).getD CN)).Ref).No),i64 (((((FW l (a,b)).getD CN)).By).Zb),i64 (((((FW l (a,b)).getD CN)).By).No),i64 ((((FW l (a,b)).getD CN)).Zw1),i64 (((((FW l (a,b)).getD CN)).Zx1).Za),i64 ((((((FW l (a,b)).getD CN)).Zx1).Ref).Zb),i64 ((((((FW l (a,b)).getD CN)).Zx1).Ref).No),i64 (((((FW l (a,b)).getD CN)).Zx1).Zn1),i64 (((((FW l (a,b)).getD CN)).Zx1).Zb1),i64 (((((FW l (a,b)).getD CN)).Zx1).Zc),i64 (((((FW l (a,b)).getD CN)).Zx1).Zo1),i64 (((((FW l (a,b)).getD CN)).Zx1).Zw),i64 (((((FW l (a,b)).getD CN)).Zx1).To),i64 (((((FW l (a,b)).getD CN)).Zx1).Code),i64 (((((FW l (a,b)).getD CN)).Zx1).Zp1),i64 (((((FW l (a,b)).getD CN)).Zx1).Zq1),i64 (((((FW l (a,b)).getD CN)).Zx1).Zr1),i64 (((((FW l (a,b)).getD CN)).Zx1).Zs1),.str (((((FW l (a,b)).getD CN)).Zx1).Zt1),.sl false (L Aj (((((FW l (a,b)).getD CN)).Zx1).Zu1))],.bool ((FW l (a,b)).isSome)])else none:=ZJ (c:=EM) (z:=CN) rfl (AgR F) (by decide) rfl
theorem AnH{F}:((B.env F).bty=some 138)=False:=Aq0 (fun h:(none:Option TypeId)=some 138=>by cases h)
theorem Ann{F}:((B.env F).bty=some 143)=False:=Aq0 (fun h:(none:Option TypeId)=some 143=>by cases h)
theorem AcO{F}{σ:Am}(s x:AV):Bf (B.env F) σ .append [85,85] [s,x]=match Gg σ x with
      | some new=>if Gp x 21=true then none else if ∀cs∈new,cs.length=21 then(match s with
          | .sl full els=>
            if els=[]∧full=true then
              if Dt new.length 192 then some (.bs false σ.length new.length 0 new.length,σ++[.buf 21 new false])else none
            else if new=[]then some (.sl full els,σ)
            else if full=true∧(∀cs∈els,cs.length=21)∧Dt (els.length+new.length) 192
            then some (.bs false σ.length (els.length+new.length) 0 (els.length+new.length),σ++[.buf 21 (els++new) false])else none
          | .bs full id tot off len=>match σ[id]? with
            | some (.buf k els ro)=>
              if els.length=tot∧k=21∧Dt (len+new.length) 192 then
                if off=0∧len=tot then some (.bs false id (tot+new.length) 0 (tot+new.length),σ.set id (.buf k (els++new) ro))
                else if new=[]then some (.bs full id tot off len,σ)
                else if full then some (.bs false σ.length (len+new.length) 0 (len+new.length),σ++[.buf k ((els.drop off).take len++new) false])
                else none
              else none
            |some (.tb T l)=>P7 σ id tot off len 192 21 143 T l new
            |_=>none
          |_=>none)
        else none
      |none=>none:=Gn (AoN F) (AgR F) (by decide) (AoN F) (.inl ⟨_,rfl⟩) s x []
theorem Ady{F}{op:BinOp}(a:Arr UInt8 32):AO (B.env F) op 42 (.agg (C1 u8 a.l)) (.agg [u8 (0:UInt8),u8 (0:UInt8),u8 (0:UInt8),u8 (0:UInt8),u8 (0:UInt8),u8 (0:UInt8),u8 (0:UInt8),u8 (0:UInt8),u8 (0:UInt8),u8 (0:UInt8),u8 (0:UInt8),u8 (0:UInt8),u8 (0:UInt8),u8 (0:UInt8),u8 (0:UInt8),u8 (0:UInt8),u8 (0:UInt8),u8 (0:UInt8),u8 (0:UInt8),u8 (0:UInt8),u8 (0:UInt8),u8 (0:UInt8),u8 (0:UInt8),u8 (0:UInt8),u8 (0:UInt8),u8 (0:UInt8),u8 (0:UInt8),u8 (0:UInt8),u8 (0:UInt8),u8 (0:UInt8),u8 (0:UInt8),u8 (0:UInt8)])=match op with
 |.eql=>some (.bool (a==(⟨[(0:UInt8),0,0,0,0,0,0,0,0,0,0,0,0,0,0,0,0,0,0,0,0,0,0,0,0,0,0,0,0,0,0,0],rfl⟩:Arr UInt8 32)))
 |.neq=>some (.bool (!(a==(⟨[(0:UInt8),0,0,0,0,0,0,0,0,0,0,0,0,0,0,0,0,0,0,0,0,0,0,0,0,0,0,0,0,0,0,0],rfl⟩:Arr UInt8 32))))
 |_=>none:=AiF a (⟨[(0:UInt8),0,0,0,0,0,0,0,0,0,0,0,0,0,0,0,0,0,0,0,0,0,0,0,0,0,0,0,0,0,0,0],rfl⟩:Arr UInt8 32)
theorem Aiq{F}{σ:Am}(l c:Int):Em (B.env F) σ 197 (i64 l) (i64 c)=if Mk l c 1 then some (.bs (l==c) σ.length l.toNat 0 l.toNat,σ++[.buf 1 (List.replicate l.toNat [.bool false]) false])else none:=U7 (AfU F) (tb4 F) (by decide) l c
theorem Aev{F}{σ:Am}(f:Bool)(id tot off len:Nat)(x:AV):Av (B.env F) σ 197 (.bs f id tot off len) x=match σ[id]?,idx x len with
 |some (.buf k els _),some i=>if els.length=tot∧k=1 then some (.eref id tot (off+i) 0)else none
 |_,_=>none:=WN (AfU F) (tb4 F) (by decide) f id tot off len x
theorem AiQ{F}{σ:Am}(id off:Nat)(x:AV):Av (B.env F) σ 69 (.ref id off) x=match idx x 7 with
 |some i=>some (.ref id (off+i*2))
 |none=>none:=KJ (Aos F) (AnR F) id off x
theorem Ao1{F}:((B.env F).bty=some 178)=False:=Aq0 (fun h:(none:Option TypeId)=some 178=>by cases h)
attribute [go_sem] lm0 own3 own4 own5 own6 own7 own8 own9 Apc AnY Aoi AmM AmA Aoo Ao2 AoG AmL Anu AnI Ami AoP Ant AlX Aop Ama AlP AnA Aph AoD Al8 AmJ Anp AoF AnT Anv AnF Amf Aml Aoh AnM App Apg Anz AoC AnB Am3 Anm AnX Am4 Aog Ao0 AmV Apb AmO An8 AmZ Aod AnC AlL AlQ Ani Apo Ank Amj Al3 Al6 Anw Am1 AnU Aov Amd Amv Any Ang AoV Apr AnN Aoj Aow Ano AmN Al5 AnJ AmF Apj AnO AmX An7 AmB Apf AoQ AmQ AlM AlZ Apd Ao7 AnV AkC AhJ AiT Ak6 Akg AhR AkB AkA AiX Ah4 Ah6 AkP Aii Ait Alr AkN Aka Aj1 AiE Aiz Alj Aj4 Aip Ai4 AjB Aiy Ai2 AhY AhZ AjV Ah1 Aie Ajt Aj6 AjM All Aio AjS AkE Ain Aja AiU Ak2 Alg AkW Aju AiM Ai3 AkI AjF AhQ AiZ Akx Ako Akh Alv Aks Alm AiB AhX AkR AiY AjY Alq Als AjC AhO AhN Akw Ag Al LL Aa Ae Ai Ah Qg Af Ad Kt Kz Ab SR Wq Aj NY R2 Ak An Qn Po U3 Vh TF Kb RU A3 Pq tb3 tb4 tb5 tb9 tb22 tb23 tb25 tb26 tb27 tb28 tb29 tb31 tb32 tb33 AlD tb36 AhE AlB tb40 Aok Amy tb45 tb47 AlC tb50 AlO tb57 AgQ AnR Aos Apm tb72 Am6 Aej AoN AlU AdB AeP Ajp Akk AkT AiL AkS Ai9 Amu AgR Aj2 Ai8 AkF AeB Aoq AfU AiD Alo Agt Akr AlS Ajv AcK Alc Ag5 AkU Pz PI PO P8 P5 PG Ps Pp Pw P4 PX P9 Px P3 PR Pv PF NZ Og OA Oo OG Pi ON NG MD MW OV MQ OY MA OX Oy Mz Oq O6 MR Ot M4 MV Ni ME Oc Nz MF OH MZ NJ OS Oi Ol MJ NT MS OL O0 ML OI Nl MO M0 Nb MK Nv Om Nk M5 OO Nq MB M8 MP Ajg Aia Ald Alh Aln AjP Ak1 Ag9 AgX AeJ Agx Ahd Af8 Ab7 Yt NQ N8 Hm Ho Hk Apk Akq AjJ Aiu AhG AjA AjR Ai0 Afn Ag7 Afy Agj Agh Ae2 Agc AeQ AgT Af4 AgS Ahn Afg Ae4 nb36 AcY nb47 Ail An1 AkH Al7 nb57 Ah3 Aof AkY Aiw Ao8 Air Amt Ana Ajd Amb Afw AgZ Amn nb68 AhK Ah7 Ajs AmH Ak7 Amo AiN nb74 Ajf AoZ Aic XA Aib An2 AoY AkG Ae1 AcJ AhU AmG Amx Aho AeN Aae nb42 AfX Akb AeW nb50 Acm Anh AiF Ack Ah5 nb44 AbJ Adn AhP Abm nb40 Api Ajb nb52 YY nb88 AdT nb85 AgV EM Agp Abz AnH Ann AcO Ady Aiq Aev AiQ Ao1
section
variable {V:Type}
def Amm(step:V→ApG→ApK→Option V)(row:List ApK)(i:Int)(kv:Int×V):Option ((Int×V)⊕V) :=
 if(decide (kv.1<(row.length:Int)))then
  if InR kv.1 row.length then(step kv.2 { Zb:=i,No:=w64 (kv.1+1) } (nth row kv.1.toNat)).bind fun v'=>some (.inl (w64 (kv.1+1),v'))else none
 else some (.inr kv.2)
def AoK(step:V→ApG→ApK→Option V)(logs:List (List ApK))(iv:Int×V):Option ((Int×V)⊕V) :=
 if(decide (iv.1<(logs.length:Int)))then
  if InR iv.1 logs.length then(Ax (Amm step (nth logs iv.1.toNat) iv.1) (0,iv.2)).bind fun v'=>some (.inl (w64 (iv.1+1),v'))else none
 else some (.inr iv.2)
def Ai6(step:V→ApG→ApK→Option V)(logs:List (List ApK))(v:V):Option V:=(Ax (AoK step logs) (0,v)).bind some
end
theorem Ac1(N:Nat)(ts:List Nat)(l:Fr):leL (Ar N l) (Ar N (keep ts l)):=by
  have key:∀(ns:List Nat),leL (ns.map (Rv.look l)) (ns.map (Rv.look (keep ts l))):=by
    intro ns
    induction ns with
    |nil=>exact trivial
    | cons t ns ih=>
      refine⟨?_,ih⟩;rcases Tu ts l t with h|h
      · exact .inl h
      · rw[h];exact .inr (AV.wk_refl _)
  exact key _
theorem AcD(n N:Nat):∀(l:Fr),(∀p∈l,p.2.under n=true)→QP n (Ar N l):=by
  intro l h x hx;obtain⟨t,_,rfl⟩:=Ara.1 hx
  induction l with
  |nil=>show(AV.junk).under n=true;simp[AV.under]
  | cons p l ih=>
    show(if t=p.1 then p.2 else Rv.look l t).under n=true;by_cases e:t=p.1
    · rw[ApU e];exact h p Aqc
    · rw[ApV e];exact ih (fun q hq=>h q (AqE _ hq)) (by simp only[Ar,Ara,AqN];exact⟨t,by simpa using ‹t∈List.range N›,rfl⟩)
set_option maxHeartbeats 2000000 in
theorem ZK{V:Type}{o:Out}{n:Nat}{gop:Operand}{assign body:Code}{N:Nat}{fr l:Fr}{K:Ds}{S:V→Am}{step:V→ApG→ApK→Option V}{logs:List (List ApK)}{forks:List ApL}{f1 f2 ro:Bool}{v0 x:V}{p1 p2 idb:Nat}(M:Nat) (hx:Ai6 step logs v0=some x) (hmk:o.mks=true) (hg:ev (Ar N fr) gop=.fn 100 [.ref idb 0]) (hS:∀v,(S v).length=M) (hb:(S v0)[idb]?=some (.box [.sl f1 (L (cSl Ak) logs),.sl f2 (L An forks)] ro)) (hl:∀p∈l,p.1<N∧Rv.look fr p.1=p.2) (hp1:p1<N) (hp2:p2<N) (hpn:p1≠p2) (hpl:∀p∈l,p.1≠p1∧p.1≠p2) (hca:J0 assign=true) (hcb:J0 body=true) (hround:∀(lp:Nat) (ac bd:Code) (v:V) (i k:Int) (r:ApK) (v':V),step v ⟨i,k⟩ r=some v' →Run (B.env { F:=o.F,rd:=some lp }) (M+1) assign ⟨Ar N ((p2,.agg (Ak r))::(p1,.agg [i64 i,i64 k])::l),S v++[.lp false N l #[p1,p2] ac bd,.box (Ak r) false]⟩ (wkP (B.env { F:=o.F,rd:=some lp }) (M+1) (AlT (B.env { F:=o.F,rd:=some lp }) M N l #[p1,p2] ac bd body (wkP (B.env { F:=o.F,rd:=some lp }) (M+1) (AnP M (S v'++[.lp true N l #[p1,p2] ac bd])))))) (hk:K .normal ⟨Ar N fr,S x++[.gone]⟩):Run (B.env o) n (.rangeFunc gop #[p1,p2] assign body) ⟨Ar N fr,S v0⟩ K:=by
 refine Y9 ok hmk hg (by intro ys h;cases h) Tryz.func100 rfl (by decide +kernel) rfl l hl ?_;rw[hS v0];have hE:=ok.env { F:=o.F };refine GU ?_;have hidb:idb<(S v0).length:=(ApR.1 hb).1
 have hb0:(S v0++[ABlk.lp false N l #[p1,p2] assign body])[idb]?=some (.box [.sl f1 (L (cSl Ak) logs),.sl f2 (L An forks)] ro):=by
  rw[Ap0 hidb];exact hb
 show Run (B.env { F:=o.F }) (M+1) _ ⟨Ls 32 [.yld M,.ref idb 0],_⟩ _;rw[H4 32 [.yld M,.ref idb 0] (AqQ rfl) (Pn 0 _) (fun t _=>Hn _ 0 t (Aqm _))];show Run (B.env { F:=o.F }) (M+1) _ ⟨Ar 32 [(0,.yld M),(1,.ref idb 0)],_⟩ _;revert hx;unfold Ai6;refine T0 [0,8,9,10] ?_ (by simp only[go_sem,hb0];exact AY);refine Sb ?_;refine Lo (fun iv=>⟨Ar 32 [(0,.yld M),(8,.sl f1 (L (cSl Ak) logs)),(9,i64 ((logs.length:Int))),(10,i64 iv.1)],S iv.2++[.lp false N l #[p1,p2] assign body]⟩) (Weak.refl _ _) ?_;rintro⟨i,v⟩ x1 o1 hj1 hx1;show AoK step logs (i,v)=some o1→_;unfold AoK;dsimp only;refine T0 [0,8,9,10,11] ?_;refine Sq ?_;refine Cd ?_ ?_
 ·refine Sk ?_;refine Tn ?_;refine Sq ?_;refine Sb ?_;refine Ck fun hc1=>?_
  refine Te [0,3,4,8,9,10] Ac (Ev (by simp only[go_sem,qR hc1];exact AY)) ?_;refine T0 [0,3,8,9,10,15,16,17] ?_;refine Sb ?_;refine Lo (fun kv=>⟨Ar 32 [(0,.yld M),(3,i64 i),(8,.sl f1 (L (cSl Ak) logs)),(9,i64 ((logs.length:Int))),(10,i64 i),(15,.sl false (L Ak (nth logs i.toNat))),(16,i64 (((nth logs i.toNat).length:Int))),(17,i64 kv.1)],S kv.2++[.lp false N l #[p1,p2] assign body]⟩) (Weak.refl _ _) ?_;rintro⟨k,v⟩ x2 o2 hj2 hx2;show Amm step (nth logs i.toNat) i (k,v)=some o2→_;unfold Amm;dsimp only;refine T0 [0,3,8,9,10,15,16,17,18] ?_;refine Sq ?_;refine Cd ?_ ?_
  ·refine Sk ?_;refine Tn ?_;refine Sq ?_;refine Sb ?_;refine Ck fun hc2=>?_
   obtain⟨r,hr⟩:∃r,nth (nth logs i.toNat) k.toNat=r:=⟨_,rfl⟩;have hlen:(S v++[ABlk.lp false N l #[p1,p2] assign body]).length=M+1:=by simp[hS v]
   rw[hr];generalize hσ0:S v++[ABlk.lp false N l #[p1,p2] assign body]=σ0 at hlen;have hlast:∀b:ABlk,(σ0++[b])[M+1]?=some b:=fun b=>by rw[ApY (by omega),hlen];simp
   have hset:∀b c:ABlk,(σ0++[b]).set (M+1) c=σ0++[c]:=fun b c=>by rw[Ard _ _ (by omega),hlen];simp
   refine Te [0,3,5,6,8,9,10,15,16,17] Ac (Ev (by simp only[go_sem,qR hc2,hr,hlen,hlast,hset];exact AY)) ?_;refine Bd fun v' hv=>?_
   refine Sq ?_;intro hP
   refine Ab3 6 (idl:=M) (σ1:=σ0++[.box (Ak r) false]) (fr1:=(27,.agg (Ak r))::(26,.agg [i64 i,i64 (w64 (k+1))])::(25,i64 (w64 (k+1)))::(24,i64 k)::(23,i64 i)::(22,.yld M)::[(0,.yld M),(3,i64 i),(5,i64 k),(6,.ref (M+1) 0),(8,.sl f1 (L (cSl Ak) logs)),(9,i64 ((logs.length:Int))),(10,i64 i),(15,.sl false (L Ak (nth logs i.toNat))),(16,i64 (((nth logs i.toNat).length:Int))),(17,i64 k)]) (fr3:=(29,.bool (!true))::(28,.bool true)::[(0,.yld M),(3,i64 i),(8,.sl f1 (L (cSl Ak) logs)),(9,i64 ((logs.length:Int))),(10,i64 i),(15,.sl false (L Ak (nth logs i.toNat))),(16,i64 (((nth logs i.toNat).length:Int))),(17,i64 k)]) (M:=N) (l:=l) (ps:=#[p1,p2]) (assign:=assign) (body:=body) (fr2:=[(0,.yld M),(3,i64 i),(8,.sl f1 (L (cSl Ak) logs)),(9,i64 ((logs.length:Int))),(10,i64 i),(15,.sl false (L Ak (nth logs i.toNat))),(16,i64 (((nth logs i.toNat).length:Int))),(17,i64 k)])
    (args:=[.agg [i64 i,i64 (w64 (k+1))],.agg (Ak r)]) hE rfl ?h1 rfl rfl rfl rfl ?hf ?hσ rfl (Nat.lt_succ_self M) hca hcb ?hle ?hun ?hp1 ?hp2 ?hp3 ?hargs (fun σ3=>?h3) (fun lp=>?h)
   case h1=>
    refine(EU _ _).symm.trans ?_;simp only[go_sem,hlast,hlen]
   case hf=>rfl
   case hσ=>
    rw[←hσ0,AqU,ApY (by rw[hS v];exact Ap5 _),hS v,ArJ];rfl
   case hle=>exact Ac1 32 [0,3,8,9,10,15,16,17] _
   case hun=>
    refine AcD _ _ _ (fun p hp=>?_);simp only[Aqq,List.not_mem_nil,or_false]at hp;rcases hp with rfl|rfl|rfl|rfl|rfl|rfl|rfl|rfl<;>simp[AV.under,i64]
   case hp1=>intro p hp;simp at hp;rcases hp with rfl|rfl<;>assumption
   case hp2=>intro p hp hh;simp at hh;rcases hh with hh|hh;exact(hpl p hp).1 hh;exact(hpl p hp).2 hh
   case hp3=>simpa using hpn
   case hargs=>rfl
   case h3=>
    refine(EU _ _).symm.trans ?_;simp only[go_sem]
   case h=>
    have h2:=GU (hround lp assign body v i (w64 (k+1)) r v' hv);have hst:σ0++[ABlk.box (Ak r) false]=S v++[.lp false N l #[p1,p2] assign body,.box (Ak r) false]:=by rw[←hσ0,AqU];rfl
    rw[hst];refine E2 h2 ?_;rintro ex st1 ⟨rfl,q1,q2⟩;refine⟨rfl,q1,E2 (GU q2) ?_⟩;rintro ex st2 ⟨rfl,q3⟩;rw[q3];refine⟨rfl,by rw[ApY (by rw[hS v'];exact Ap5 _),hS v',ArJ];rfl,?_⟩;rw[Ard _ _ (by rw[hS v'];exact Ap5 _),hS v',ArJ,Ase];revert hP;refine Tn ?_;refine Cf ?_;refine Sk ?_;refine Bn ?_;refine Tn ?_;refine F0 [0,3,8,9,10,15,16,17] ?_;exact Ln (Weak.refl _ _)
  ·refine Sx ?_;refine Tx ?_;refine Ly hx2 hj2 ?_;refine Bx ?_;refine Bn ?_;refine Tn ?_;refine F0 [0,8,9,10] ?_;exact Ln (Weak.refl _ _)
 ·refine Sx ?_;refine Tx ?_;refine Ly hx1 hj1 ?_;refine Bx ?_;refine Wp (Weak.refl _ _) ?_;intro h;obtain rfl:=Aqp h;refine⟨.inl rfl,by rw[ApY (by rw[hS];exact Ap5 _),hS,ArJ];rfl,?_⟩;rw[Ard _ _ (by rw[hS];exact Ap5 _),hS,ArJ,Ase];exact hk
theorem Ra{V:Type}{F:Addr→Prop}{base:Nat}{n:Nat}{gop:Operand}{assign body:Code}{N:Nat}{fr:Fr}{K:Ds}(S:V→Am)(l:Fr){step:V→ApG→ApK→Option V}{logs:List (List ApK)}{forks:List ApL}{f1 f2 ro:Bool}{v0 x:V}{p1 p2 idb:Nat}(M:Nat)(σ0 σx:Am) (hround:∀(lp:Nat) (ac bd:Code) (v:V) (i k:Int) (r:ApK) (v':V),step v ⟨i,k⟩ r=some v' →Run (B.env { F:=F,rd:=some lp }) (M+1) assign ⟨Ar N ((p2,.agg (Ak r))::(p1,.agg [i64 i,i64 k])::l),S v++[.lp false N l #[p1,p2] ac bd,.box (Ak r) false]⟩ (wkP (B.env { F:=F,rd:=some lp }) (M+1) (AlT (B.env { F:=F,rd:=some lp }) M N l #[p1,p2] ac bd body (wkP (B.env { F:=F,rd:=some lp }) (M+1) (AnP M (S v'++[.lp true N l #[p1,p2] ac bd])))))) (hk:K .normal ⟨Ar N fr,σx⟩) (hx:Ai6 step logs v0=some x) (hl:Anb N fr l) (h0:S v0=σ0:=by rfl) (hσx:S x++[.gone]=σx:=by rfl) (hg:ev (Ar N fr) gop=.fn 100 [.ref idb 0]:=by rfl) (hS:∀v,(S v).length=M:=by exact fun _=>rfl) (hb:(S v0)[idb]?=some (.box [.sl f1 (L (cSl Ak) logs),.sl f2 (L An forks)] ro):=by rfl) (hp:(decide (p1<N)&&decide (p2<N)&&p1 != p2&&(l.map (·.1)).all (fun t=>t != p1&&t != p2))=true:=by rfl) (hca:J0 assign=true:=by rfl) (hcb:J0 body=true:=by rfl) :Run (B.env { F:=F,mks:=true,base:=base }) n (.rangeFunc gop #[p1,p2] assign body) ⟨Ar N fr,σ0⟩ K:=by
 subst h0 hσx;simp only[Ap9,Aqd,AsF,ne_eq,Ap8,Ara]at hp;obtain⟨⟨⟨h1,h2⟩,h3⟩,h4⟩:=hp;exact ZK (o:={ F:=F,mks:=true,base:=base }) M hx rfl hg hS hb (Ww hl) h1 h2 h3 (fun p hp=>h4 _ ⟨p,hp,rfl⟩) hca hcb hround hk
def FP(a:UInt64)(b:UInt64)(c:UInt64)(d:UInt64):Option ((UInt64×UInt64×UInt64)⊕(UInt64)) :=if (decide (c>(0:UInt64)))then (if((c%(2:UInt64))==(1:UInt64))then if ¬a=0 then some ((d+b)%a) else none else some d:Option (UInt64)).bind fun e=>if ¬a=0 then some (.inl (((b+b)%a),(c/(2:UInt64)),e)) else none else some (.inr d)
def Hp(a:UInt64)(b:UInt64)(c:UInt64):Option (UInt64) :=((Ax (fun(v:UInt64×UInt64×UInt64)=>FP c v.1 v.2.1 v.2.2) (a,b,(0:UInt64))).bind fun d=>some d:Option (UInt64)).bind fun e=>some e
def H1(a:UInt64)(b:UInt64)(c:UInt64):Option ((UInt64×UInt64×UInt64)⊕(UInt64)) :=if(decide (b>(0:UInt64)))then (if((b%(2:UInt64))==(1:UInt64))then (Hp c a (2305843009213690799:UInt64)).bind fun d=>some d else some c:Option (UInt64)).bind fun e=>(Hp a a (2305843009213690799:UInt64)).bind fun f=>some (.inl (f,(b/(2:UInt64)),e)) else some (.inr c)
def Lm(a:UInt64)(b:UInt64):Option (UInt64) :=(lt1 (a%(2305843009213690799:UInt64)) fun(c:UInt64)=>(Ax (fun(v:UInt64×UInt64×UInt64)=>H1 v.1 v.2.1 v.2.2) (c,b,(1:UInt64))).bind fun d=>some d:Option (UInt64)).bind fun e=>some e
def KH(a:UInt64):Option (UInt64×Int) :=(if(decide (a<(1:UInt64)))then some true else some (decide (a≥(1152921504606845399:UInt64))):Option (Bool)).bind fun b=>if b then some ((0:UInt64),30) else (Lm (4:UInt64) a).bind fun c=>some (c,0)
def GY(a:Int)(b:List ApE):Option ((Int×List ApE)⊕(List ApE)) :=if(decide (a<2))then (KH (UInt64.ofInt (w64 (7+a)))).bind fun c=>if Dt (b.length+1) 144 then lt1 (b++([({ Key:=c.1,Zf1:=({ Zd1:=(({ Zw:=0,To:=0 }:ApC),({ Zw:=0,To:=0 }:ApC),({ Zw:=0,To:=0 }:ApC),({ Zw:=0,To:=0 }:ApC),({ Zw:=0,To:=0 }:ApC),({ Zw:=0,To:=0 }:ApC),({ Zw:=0,To:=0 }:ApC)),Ze1:=[] }:ApD) }:ApE)]:List ApE)) fun(d:List ApE)=>some (.inl ((w64 (a+1)),d)) else none else some (.inr b)
def r14_Example  : Option (ApF) :=lt1 ([({ Za:=1,Zb:=0,Zc:=(-1) }:Aps),({ Za:=3,Zb:=0,Zc:=1 }:Aps),({ Za:=4,Zb:=1,Zc:=(-1) }:Aps)]:List Aps) fun(a:List Aps)=>lt1 ([({ A:=0,B:=1,Zb:=0,Zd:=10,Km:=5 }:Apt),({ A:=1,B:=2,Zb:=1,Zd:=20,Km:=9 }:Apt)]:List Apt) fun(b:List Apt)=>lt1 ([({ Zg:=1000,Zh:=0,Zi:=0,Zj:=0,Zk:=0,Zl:=(7:UInt64),Zm:=1000,Zn:=0 }:Apv)]:List Apv) fun(c:List Apv)=>lt1 ([({ Zo:=0,Zp:=0,Zq:=0,Zr:=0,Zs:=5000 }:Apw)]:List Apw) fun(d:List Apw)=>lt1 ([({ Zb1:=0,Low:=(-3),Zc1:=3 }:ApA)]:List ApA) fun(e:List ApA)=>lt1 ([({ Zb1:=2 }:ApB)]:List ApB) fun(f:List ApB)=>((Ax (fun(v:Int×List ApE)=>GY v.1 v.2) (0,[])).bind fun g=>some g:Option (List ApE)).bind fun i=>some ({ Zg1:=({ Ze:=a,Zf:=b }:Apu),Zh1:=({ Zx:=c,Zy:=d,Zz:=[],Za1:=[] }:Apz),Zi1:=e,Zj1:=f,Zk1:=i }:ApF)
def C7(a:Int):Option (ApI) :=some ({ Za:=8,Ref:=({ Zb:=0,No:=0 }:ApG),Zn1:=0,Zb1:=0,Zc:=0,Zo1:=0,Zw:=3,To:=0,Code:=a,Zp1:=0,Zq1:=0,Zr1:=0,Zs1:=0,Zt1:=([]:List UInt8),Zu1:=[] }:ApI)
def Fj(a:Aps):Option (Bool) :=(if(decide (a.Za<1))then some true else if(decide (a.Za>5))then some true else if(decide (a.Zb<0))then some true else some (decide (a.Zb≥16)):Option (Bool)).bind fun b=>if b then some false else if(a.Za != 3)then some (a.Zc==(-1)) else (if(decide (a.Zc≥0))then if(decide (a.Zc<16))then some (a.Zc != a.Zb) else some false else some false:Option (Bool)).bind fun c=>some c
def Cz(b:Apu)(a:Int):Option ((Int)⊕((Unit)⊕((Unit)⊕(Int)))) :=if (decide (a<(b.Ze.length:Int)))then if InR a b.Ze.length then lt1 ((nth b.Ze a.toNat).Za) fun(c:Int)=>lt1 ((nth b.Ze a.toNat).Zb) fun(d:Int)=>lt1 ((nth b.Ze a.toNat).Zc) fun(e:Int)=>(Fj ({ Za:=c,Zb:=d,Zc:=e }:Aps)).bind fun f=>if(!f)then ((some 1).bind fun g=>some (.inr g)).bind fun i=>some (.inr (.inr i)) else some (.inl (w64 (a+1))) else none else some (.inr (.inl ()))
def Cy(b:Apu)(i:Int)(a:Int):Option ((Int)⊕((Unit)⊕((Unit)⊕(Int)))) :=if (decide (a<(b.Zf.length:Int)))then if InR a b.Zf.length then lt1 ((nth b.Zf a.toNat).A) fun(c:Int)=>lt1 ((nth b.Zf a.toNat).B) fun(d:Int)=>lt1 ((nth b.Zf a.toNat).Zb) fun(e:Int)=>lt1 ((nth b.Zf a.toNat).Zd) fun(f:Int)=>lt1 ((nth b.Zf a.toNat).Km) fun(g:Int)=>(if(decide ((Pm (Pm (Pm c d) e) g)<0))then some true else if(decide ((JT c d)≥i))then some true else if(c==d)then some true else if(decide (e≥16))then some true else if(decide (f<1))then some true else if(decide (f>100000))then some true else some (decide (g>10000)):Option (Bool)).bind fun j=>if j then ((some 1).bind fun k=>some (.inr k)).bind fun l=>some (.inr (.inr l)) else some (.inl (w64 (a+1))) else none else some (.inr (.inl ()))
def EO(a:Apu):Option (Int) :=lt1 (a.Ze.length:Int) fun(b:Int)=>(if(decide (b>512))then some true else some (decide ((a.Zf.length:Int)>2048)):Option (Bool)).bind fun c=>if c then some 2 else ((Ax (fun(v:Int)=>Cz a v) 0).bind fun x=>match x with
  |.inl ()=>some (.inl ())
  |.inr z=>some z:Option ((Unit)⊕(Int))).bind fun x=>match x with
  | .inl ()=>((Ax (fun(v:Int)=>Cy a b v) 0).bind fun x=>match x with
   |.inl ()=>some (.inl ())
   |.inr z=>some z:Option ((Unit)⊕(Int))).bind fun x=>match x with
   |.inl ()=>some 0
   |.inr z=>some z
  |.inr z=>some z
def AC(a:Bool)(b:Int):Option (Int) :=if(!a)then some 1 else some b
def A6(a:Int)(b:Int)(c:Int):Option (Bool) :=(if(decide (a≥b))then some (decide (a≤c)) else some false:Option (Bool)).bind fun d=>some d
def D6(d:Int)(b:List Int)(a:Int)(c:Int):Option ((Int×Int)⊕(Int)) :=if(decide (a<d))then if InR a b.length then (A6 (nth b a.toNat) 0 1000000).bind fun e=>(AC e c).bind fun f=>some (.inl ((w64 (a+1)),f)) else none else some (.inr c)
def CX(b:Apz)(a:Int)(d:Int):Option ((Int×Int)⊕(Int)) :=if (decide (a<(b.Zx.length:Int)))then (if InR a b.Zx.length then lt1 ((nth b.Zx a.toNat).Zg) fun(e:Int)=>lt1 ((nth b.Zx a.toNat).Zh) fun(f:Int)=>lt1 ((nth b.Zx a.toNat).Zi) fun(g:Int)=>lt1 ((nth b.Zx a.toNat).Zj) fun(j:Int)=>lt1 ((nth b.Zx a.toNat).Zk) fun(i:Int)=>lt1 ((nth b.Zx a.toNat).Zl) fun(z:UInt64)=>lt1 ((nth b.Zx a.toNat).Zm) fun(k:Int)=>lt1 ((nth b.Zx a.toNat).Zn) fun(l:Int)=>(lt1 (([e,f,g,i]:List Int).length:Int) fun(m:Int)=>lt1 ([e,f,g,i]:List Int) fun(n:List Int)=>(Ax (fun(v:Int×Int)=>D6 m n v.1 v.2) (0,d)).bind fun o=>some o:Option (Int)).bind fun c=>((A6 j 0 7).bind fun p=>if p then (A6 k 1 1073741824).bind fun q=>if q then (A6 l 0 100).bind fun s=>(AC s c).bind fun t=>some t else (AC false c).bind fun u=>some u else (AC false c).bind fun w=>some w:Option (Int)).bind fun x=>some x else none:Option (Int)).bind fun y=>some (.inl ((w64 (a+1)),y)) else some (.inr d)
def CW(a:Apz)(b:Int)(c:Int):Option ((Int×Int)⊕(Int)) :=if (decide (b<(a.Zy.length:Int)))then if InR b a.Zy.length then lt1 ((nth a.Zy b.toNat).Zo) fun(e:Int)=>lt1 ((nth a.Zy b.toNat).Zp) fun(f:Int)=>lt1 ((nth a.Zy b.toNat).Zq) fun(g:Int)=>lt1 ((nth a.Zy b.toNat).Zr) fun(i:Int)=>lt1 ((nth a.Zy b.toNat).Zs) fun(j:Int)=>((A6 e 0 (w64 ((a.Zx.length:Int)-1))).bind fun k=>if k then (A6 f 0 63).bind fun l=>if l then (A6 g 0 511).bind fun m=>(AC m c).bind fun n=>some n else (AC false c).bind fun o=>some o else (AC false c).bind fun p=>some p:Option (Int)).bind fun d=>((A6 i 0 1073741824).bind fun q=>if q then (A6 j 0 1099511627776).bind fun s=>(AC s d).bind fun t=>some t else (AC false d).bind fun u=>some u:Option (Int)).bind fun v=>some (.inl ((w64 (b+1)),v)) else none else some (.inr c)
def CV(a:Apz)(b:Int)(c:Int):Option ((Int×Int)⊕(Int)) :=if (decide (b<(a.Zz.length:Int)))then if InR b a.Zz.length then lt1 ((nth a.Zz b.toNat).Zt) fun(d:Int)=>lt1 ((nth a.Zz b.toNat).Zu) fun(e:Int)=>lt1 ((nth a.Zz b.toNat).Zv) fun(f:Int)=>((A6 d 0 (w64 ((a.Zx.length:Int)-1))).bind fun g=>if g then (A6 e 0 (w64 ((a.Zx.length:Int)-1))).bind fun i=>if i then if(d != e)then (A6 f 0 1000000000).bind fun j=>(AC j c).bind fun k=>some k else (AC false c).bind fun l=>some l else (AC false c).bind fun m=>some m else (AC false c).bind fun n=>some n:Option (Int)).bind fun o=>some (.inl ((w64 (b+1)),o)) else none else some (.inr c)
def CO(d:Apz)(a:Int)(f:Int)(e:Arr Bool 4096):Option ((Int×Int×Arr Bool 4096)⊕(Int)) :=if (decide (a<(d.Za1.length:Int)))then (if InR a d.Za1.length then lt1 ((nth d.Za1 a.toNat).Zw) fun(b:Int)=>lt1 ((nth d.Za1 a.toNat).To) fun(c:Int)=>lt1 ((nth d.Za1 a.toNat).Zd) fun(j:Int)=>((A6 b 0 63).bind fun k=>if k then (A6 c 0 63).bind fun l=>if l then if(b != c)then (A6 j 0 100000).bind fun m=>some m else some false else some false else some false:Option (Bool)).bind fun g=>(AC g f).bind fun i=>if g = true then if InR b 64 then if InR c 64 then (AC (!(e.get (b.toNat*64+c.toNat))) i).bind fun n=>if InR b 64 then if InR c 64 then lt1 (e.set (b.toNat*64+c.toNat) true) fun(o:Arr Bool 4096)=>some (n,o) else none else none else none else none else some (i,e) else none:Option (Int×Arr Bool 4096)).bind fun(p,q)=>some (.inl ((w64 (a+1)),p,q)) else some (.inr f)
def G0(a:Apz):Option (Int) :=(if(decide ((a.Zx.length:Int)>32))then some true else if(decide ((a.Zy.length:Int)>4096))then some true else if(decide ((a.Zz.length:Int)>1024))then some true else some (decide ((a.Za1.length:Int)>4096)):Option (Bool)).bind fun b=>if b then some 2 else ((Ax (fun(v:Int×Int)=>CX a v.1 v.2) (0,0)).bind fun c=>some c:Option (Int)).bind fun d=>((Ax (fun(v:Int×Int)=>CW a v.1 v.2) (0,d)).bind fun e=>some e:Option (Int)).bind fun f=>((Ax (fun(v:Int×Int)=>CV a v.1 v.2) (0,f)).bind fun g=>some g:Option (Int)).bind fun i=>((Ax (fun(v:Int×Int×Arr Bool 4096)=>CO a v.1 v.2.1 v.2.2) (0,i,(Arr.rep 4096 false))).bind fun j=>some j:Option (Int)).bind fun k=>some k
def CA(b:ApD)(d:Int)(a:Int):Option ((Int×Int)⊕((Unit)⊕((Unit)⊕(Int)))) :=if (decide (a<(b.Ze1.length:Int)))then if InR a b.Ze1.length then lt1 (nth b.Ze1 a.toNat) fun(c:Int)=>(if(decide (c≤d))then some true else some (decide (c>745654)):Option (Bool)).bind fun e=>if e then ((some 1).bind fun f=>some (.inr f)).bind fun g=>some (.inr (.inr g)) else some (.inl (c,(w64 (a+1)))) else none else some (.inr (.inl ()))
def CR(a:ApD):Option (Int) :=lt1 a.Zd1.2.2.2.2.2.1.Zw fun(b:Int)=>lt1 a.Zd1.2.2.2.2.2.2.Zw fun(c:Int)=>((if(decide (a.Zd1.1.Zw<0))then some true else if(decide (a.Zd1.1.To<a.Zd1.1.Zw))then some true else some (decide (a.Zd1.1.To>1440)):Option (Bool)).bind fun d=>if d then (some 1).bind fun e=>some (.inr e) else (if(decide (a.Zd1.2.1.Zw<0))then some true else if(decide (a.Zd1.2.1.To<a.Zd1.2.1.Zw))then some true else some (decide (a.Zd1.2.1.To>1440)):Option (Bool)).bind fun f=>if f then (some 1).bind fun g=>some (.inr g) else (if(decide (a.Zd1.2.2.1.Zw<0))then some true else if(decide (a.Zd1.2.2.1.To<a.Zd1.2.2.1.Zw))then some true else some (decide (a.Zd1.2.2.1.To>1440)):Option (Bool)).bind fun i=>if i then (some 1).bind fun j=>some (.inr j) else (if(decide (a.Zd1.2.2.2.1.Zw<0))then some true else if(decide (a.Zd1.2.2.2.1.To<a.Zd1.2.2.2.1.Zw))then some true else some (decide (a.Zd1.2.2.2.1.To>1440)):Option (Bool)).bind fun k=>if k then (some 1).bind fun l=>some (.inr l) else (if(decide (a.Zd1.2.2.2.2.1.Zw<0))then some true else if(decide (a.Zd1.2.2.2.2.1.To<a.Zd1.2.2.2.2.1.Zw))then some true else some (decide (a.Zd1.2.2.2.2.1.To>1440)):Option (Bool)).bind fun m=>if m then (some 1).bind fun n=>some (.inr n) else (if(decide (b<0))then some true else if(decide (a.Zd1.2.2.2.2.2.1.To<b))then some true else some (decide (a.Zd1.2.2.2.2.2.1.To>1440)):Option (Bool)).bind fun o=>if o then (some 1).bind fun p=>some (.inr p) else (if(decide (c<0))then some true else if(decide (a.Zd1.2.2.2.2.2.2.To<c))then some true else some (decide (a.Zd1.2.2.2.2.2.2.To>1440)):Option (Bool)).bind fun q=>if q then (some 1).bind fun s=>some (.inr s) else some (.inl ()):Option ((Unit)⊕(Int))).bind fun x=>match x with
 | .inl ()=>((Ax (fun(v:Int×Int)=>CA a v.1 v.2) ((-1),0)).bind fun x=>match x with
  |.inl ()=>some (.inl ())
  |.inr z=>some z:Option ((Unit)⊕(Int))).bind fun x=>match x with
  |.inl ()=>some 0
  |.inr z=>some z
 |.inr z=>some z
def Ht(a:UInt64)(b:UInt64):Option (UInt64×UInt64) :=lt1 (a &&& (4294967295:UInt64)) fun(x0_2596:UInt64)=>lt1 (CM a (32:UInt64).toNat) fun(x1_2598:UInt64)=>lt1 (b &&& (4294967295:UInt64)) fun(y0_2600:UInt64)=>lt1 (CM b (32:UInt64).toNat) fun(y1_2602:UInt64)=>lt1 ((x1_2598*y0_2600)+(CM (x0_2596*y0_2600) (32:UInt64).toNat)) fun(c:UInt64)=>lt1 (c &&& (4294967295:UInt64)) fun(w1_2606:UInt64)=>lt1 (CM c (32:UInt64).toNat) fun(w2_2608:UInt64)=>lt1 (w1_2606+(x0_2596*y1_2602)) fun(w1_2610:UInt64)=>lt1 (((x1_2598*y1_2602)+w2_2608)+(CM w1_2610 (32:UInt64).toNat)) fun(d:UInt64)=>some (d,(a*b))
def Es(a:UInt64):Option (Int) :=(if(decide (a≥(4294967296:UInt64)))then lt1 (CM a (32:UInt64).toNat) fun(g:UInt64)=>some (g,32) else some (a,0):Option (UInt64×Int)).bind fun(b,d)=>(if(decide (b≥(65536:UInt64)))then lt1 (CM b (16:UInt64).toNat) fun(i:UInt64)=>some (i,(w64 (d+16))) else some (b,d):Option (UInt64×Int)).bind fun(c,e)=>(if(decide (c≥(256:UInt64)))then lt1 (CM c (8:UInt64).toNat) fun(j:UInt64)=>some (j,(w64 (e+8))) else some (c,e):Option (UInt64×Int)).bind fun(f,k)=>if InR (f.toUInt8.toNat:Int) (([0,1,2,2,3,3,3,3,4,4,4,4,4,4,4,4,5,5,5,5,5,5,5,5,5,5,5,5,5,5,5,5,6,6,6,6,6,6,6,6,6,6,6,6,6,6,6,6,6,6,6,6,6,6,6,6,6,6,6,6,6,6,6,6,7,7,7,7,7,7,7,7,7,7,7,7,7,7,7,7,7,7,7,7,7,7,7,7,7,7,7,7,7,7,7,7,7,7,7,7,7,7,7,7,7,7,7,7,7,7,7,7,7,7,7,7,7,7,7,7,7,7,7,7,7,7,7,7,8,8,8,8,8,8,8,8,8,8,8,8,8,8,8,8,8,8,8,8,8,8,8,8,8,8,8,8,8,8,8,8,8,8,8,8,8,8,8,8,8,8,8,8,8,8,8,8,8,8,8,8,8,8,8,8,8,8,8,8,8,8,8,8,8,8,8,8,8,8,8,8,8,8,8,8,8,8,8,8,8,8,8,8,8,8,8,8,8,8,8,8,8,8,8,8,8,8,8,8,8,8,8,8,8,8,8,8,8,8,8,8,8,8,8,8,8,8,8,8,8,8,8,8,8,8,8,8]:List UInt8).length)then lt1 (w64 (k+((nth ([0,1,2,2,3,3,3,3,4,4,4,4,4,4,4,4,5,5,5,5,5,5,5,5,5,5,5,5,5,5,5,5,6,6,6,6,6,6,6,6,6,6,6,6,6,6,6,6,6,6,6,6,6,6,6,6,6,6,6,6,6,6,6,6,7,7,7,7,7,7,7,7,7,7,7,7,7,7,7,7,7,7,7,7,7,7,7,7,7,7,7,7,7,7,7,7,7,7,7,7,7,7,7,7,7,7,7,7,7,7,7,7,7,7,7,7,7,7,7,7,7,7,7,7,7,7,7,7,8,8,8,8,8,8,8,8,8,8,8,8,8,8,8,8,8,8,8,8,8,8,8,8,8,8,8,8,8,8,8,8,8,8,8,8,8,8,8,8,8,8,8,8,8,8,8,8,8,8,8,8,8,8,8,8,8,8,8,8,8,8,8,8,8,8,8,8,8,8,8,8,8,8,8,8,8,8,8,8,8,8,8,8,8,8,8,8,8,8,8,8,8,8,8,8,8,8,8,8,8,8,8,8,8,8,8,8,8,8,8,8,8,8,8,8,8,8,8,8,8,8,8,8,8,8,8,8]:List UInt8) f.toUInt8.toNat).toNat:Int))) fun(l:Int)=>some l else none
def CE(a:UInt64):Option (Int) :=(Es a).bind fun b=>some (w64 (64-b))
def Et(yn1_2658:UInt64)(yn0_2660:UInt64)(un1_2666:UInt64)(q1_2701:UInt64)(a:UInt64):Option ((UInt64×UInt64)⊕(UInt64)) :=(if(decide (q1_2701≥(4294967296:UInt64)))then some true else some (decide ((q1_2701*yn0_2660)>(((4294967296:UInt64)*a)+un1_2666))):Option (Bool)).bind fun b=>if b then if(decide ((a+yn1_2658)≥(4294967296:UInt64)))then some (.inr (q1_2701-(1:UInt64))) else some (.inl ((q1_2701-(1:UInt64)),(a+yn1_2658))) else some (.inr q1_2701)
def Eg(yn1_2658:UInt64)(yn0_2660:UInt64)(un0_2668:UInt64)(a:UInt64)(q0_2749:UInt64):Option ((UInt64×UInt64)⊕(UInt64)) :=(if(decide (q0_2749≥(4294967296:UInt64)))then some true else some (decide ((q0_2749*yn0_2660)>(((4294967296:UInt64)*a)+un0_2668))):Option (Bool)).bind fun b=>if b then if(decide ((a+yn1_2658)≥(4294967296:UInt64)))then some (.inr (q0_2749-(1:UInt64))) else some (.inl ((a+yn1_2658),(q0_2749-(1:UInt64)))) else some (.inr q0_2749)
def Gj(e:UInt64)(c:UInt64)(a:UInt64):Option (UInt64×UInt64) :=if(a==(0:UInt64))then none else if(decide (a≤e))then none else if (e==(0:UInt64))then if ¬a=0 then if ¬a=0 then some ((c/a),(c%a)) else none else none else (CE a).bind fun b=>lt1 (Ic a (UInt64.ofInt b).toNat) fun(d:UInt64)=>lt1 (CM d (32:UInt64).toNat) fun(yn1_2658:UInt64)=>lt1 (d &&& (4294967295:UInt64)) fun(yn0_2660:UInt64)=>lt1 ((Ic e (UInt64.ofInt b).toNat) ||| (CM c ((64:UInt64)-(UInt64.ofInt b)).toNat)) fun(un32_2662:UInt64)=>lt1 (Ic c (UInt64.ofInt b).toNat) fun(un10_2664:UInt64)=>lt1 (CM un10_2664 (32:UInt64).toNat) fun(un1_2666:UInt64)=>lt1 (un10_2664 &&& (4294967295:UInt64)) fun(un0_2668:UInt64)=>if ¬yn1_2658=0 then lt1 (un32_2662-((un32_2662/yn1_2658)*yn1_2658)) fun(f:UInt64)=>((Ax (fun(v:UInt64×UInt64)=>Et yn1_2658 yn0_2660 un1_2666 v.1 v.2) ((un32_2662/yn1_2658),f)).bind fun q1_2706=>some q1_2706:Option (UInt64)).bind fun q1_2692=>lt1 (((un32_2662*(4294967296:UInt64))+un1_2666)-(q1_2692*d)) fun(un21_2715:UInt64)=>if ¬yn1_2658=0 then lt1 (un21_2715-((un21_2715/yn1_2658)*yn1_2658)) fun(g:UInt64)=>((Ax (fun(v:UInt64×UInt64)=>Eg yn1_2658 yn0_2660 un0_2668 v.1 v.2) (g,(un21_2715/yn1_2658))).bind fun q0_2753=>some q0_2753:Option (UInt64)).bind fun q0_2739=>lt1 ((q1_2692*(4294967296:UInt64))+q0_2739) fun(i:UInt64)=>lt1 (CM (((un21_2715*(4294967296:UInt64))+un0_2668)-(q0_2739*d)) (UInt64.ofInt b).toNat) fun(j:UInt64)=>some (i,j) else none else none
def CJ(c:UInt64)(d:UInt64)(a:UInt64):Option (UInt64×UInt64) :=if ¬a=0 then if ¬a=0 then (Ht (c%a) (d%a)).bind fun b=>(Gj b.1 b.2 a).bind fun e=>some (e.2,a) else none else none
def E9(a:UInt64):Option (UInt64) :=some a
def E6(g:UInt64)(d:UInt64)(i:Int)(c:UInt64)(a:Int)(j:UInt64):Option ((UInt64×Int×UInt64)⊕(UInt64)) :=if (decide (a<i))then ((CJ c c j).bind fun b=>(Es d).bind fun e=>if DV (w64 ((w64 (e-1))-a))then lt1 (((CM d ((w64 ((w64 (e-1))-a)).toNat)) &&& (1:UInt64))==(1:UInt64)) fun(k:Bool)=>if k then (CJ b.1 g b.2).bind fun f=>some (f.1,f.2) else some (b.1,b.2) else none:Option (UInt64×UInt64)).bind fun(l,m)=>some (.inl (l,(w64 (a+1)),m)) else some (.inr c)
def F8(b:UInt64)(a:UInt64):Option (UInt64) :=(E9 (2305843009213690799:UInt64)).bind fun c=>((Es a).bind fun d=>(Ax (fun(v:UInt64×Int×UInt64)=>E6 b a d v.1 v.2.1 v.2.2) ((1:UInt64),0,c)).bind fun e=>some e:Option (UInt64)).bind fun f=>some f
def F4(a:UInt64):Option (Bool) :=(if(decide (a≥(2:UInt64)))then if(decide (a<(2305843009213690799:UInt64)))then (F8 a (1152921504606845399:UInt64)).bind fun b=>some (b==(1:UInt64)) else some false else some false:Option (Bool)).bind fun c=>some c
def BN(a:ApF)(c:Bool)(b:Int):Option ((Bool×Int)⊕(Bool)) :=if (decide (b<(a.Zi1.length:Int)))then if InR b a.Zi1.length then lt1 ((nth a.Zi1 b.toNat).Zb1) fun(f:Int)=>lt1 ((nth a.Zi1 b.toNat).Low) fun(d:Int)=>lt1 ((nth a.Zi1 b.toNat).Zc1) fun(e:Int)=>(if c then some true else (A6 f 0 (w64 ((a.Zg1.Ze.length:Int)-1))).bind fun g=>if(!g)then some true else if(decide (d<(-1000)))then some true else if(decide (d>e))then some true else some (decide (e>1000)):Option (Bool)).bind fun i=>some (.inl (i,(w64 (b+1)))) else none else some (.inr c)
def BQ(a:ApF)(d:Bool)(b:Int):Option ((Bool×Int)⊕(Bool)) :=if (decide (b<(a.Zj1.length:Int)))then if InR b a.Zj1.length then lt1 ((nth a.Zj1 b.toNat).Zb1) fun(c:Int)=>(if d then some true else (A6 c 0 (w64 ((a.Zg1.Ze.length:Int)-1))).bind fun e=>if(!e)then some true else if InR c a.Zg1.Ze.length then some ((nth a.Zg1.Ze c.toNat).Za != 4) else none:Option (Bool)).bind fun f=>some (.inl (f,(w64 (b+1)))) else none else some (.inr d)
def BL(a:ApF)(c:Bool)(b:Int):Option ((Bool×Int)⊕(Bool)) :=if (decide (b<(a.Zh1.Zy.length:Int)))then if InR b a.Zh1.Zy.length then lt1 ((nth a.Zh1.Zy b.toNat).Zo) fun(f:Int)=>lt1 ((nth a.Zh1.Zy b.toNat).Zp) fun(g:Int)=>lt1 ((nth a.Zh1.Zy b.toNat).Zq) fun(d:Int)=>lt1 ((nth a.Zh1.Zy b.toNat).Zr) fun(i:Int)=>lt1 ((nth a.Zh1.Zy b.toNat).Zs) fun(j:Int)=>(if c then some true else some (decide (d≥(a.Zg1.Ze.length:Int))):Option (Bool)).bind fun e=>some (.inl (e,(w64 (b+1)))) else none else some (.inr c)
def BO(b:ApF)(c:Int)(d:Bool)(a:Int):Option ((Bool×Int)⊕(Bool)) :=if (decide (a<(b.Zg1.Ze.length:Int)))then if InR a b.Zg1.Ze.length then lt1 ((nth b.Zg1.Ze a.toNat).Za) fun(i:Int)=>lt1 ((nth b.Zg1.Ze a.toNat).Zb) fun(e:Int)=>lt1 ((nth b.Zg1.Ze a.toNat).Zc) fun(f:Int)=>(if d then some true else if(decide (e≥c))then some true else some (decide (f≥c)):Option (Bool)).bind fun g=>some (.inl (g,(w64 (a+1)))) else none else some (.inr d)
def BI(b:ApF)(d:Int)(c:Bool)(a:Int):Option ((Bool×Int)⊕(Bool)) :=if (decide (a<(b.Zg1.Zf.length:Int)))then if InR a b.Zg1.Zf.length then lt1 ((nth b.Zg1.Zf a.toNat).A) fun(g:Int)=>lt1 ((nth b.Zg1.Zf a.toNat).B) fun(i:Int)=>lt1 ((nth b.Zg1.Zf a.toNat).Zb) fun(e:Int)=>lt1 ((nth b.Zg1.Zf a.toNat).Zd) fun(j:Int)=>lt1 ((nth b.Zg1.Zf a.toNat).Km) fun(k:Int)=>(if c then some true else some (decide (e≥d)):Option (Bool)).bind fun f=>some (.inl (f,(w64 (a+1)))) else none else some (.inr c)
def BH(b:ApF)(c:Bool)(a:Int):Option ((Bool×Int)⊕(Bool)) :=if (decide (a<(b.Zk1.length:Int)))then if InR a b.Zk1.length then lt1 ((nth b.Zk1 a.toNat).Key) fun(d:UInt64)=>lt1 (((((nth b.Zk1 a.toNat).Zf1).Zd1).1).Zw) fun(e:Int)=>lt1 (((((nth b.Zk1 a.toNat).Zf1).Zd1).1).To) fun(f:Int)=>lt1 (((((nth b.Zk1 a.toNat).Zf1).Zd1).2.1).Zw) fun(g:Int)=>lt1 (((((nth b.Zk1 a.toNat).Zf1).Zd1).2.1).To) fun(i:Int)=>lt1 (((((nth b.Zk1 a.toNat).Zf1).Zd1).2.2.1).Zw) fun(j:Int)=>lt1 (((((nth b.Zk1 a.toNat).Zf1).Zd1).2.2.1).To) fun(k:Int)=>lt1 (((((nth b.Zk1 a.toNat).Zf1).Zd1).2.2.2.1).Zw) fun(l:Int)=>lt1 (((((nth b.Zk1 a.toNat).Zf1).Zd1).2.2.2.1).To) fun(m:Int)=>lt1 (((((nth b.Zk1 a.toNat).Zf1).Zd1).2.2.2.2.1).Zw) fun(n:Int)=>lt1 (((((nth b.Zk1 a.toNat).Zf1).Zd1).2.2.2.2.1).To) fun(o:Int)=>lt1 (((((nth b.Zk1 a.toNat).Zf1).Zd1).2.2.2.2.2.1).Zw) fun(p:Int)=>lt1 (((((nth b.Zk1 a.toNat).Zf1).Zd1).2.2.2.2.2.1).To) fun(q:Int)=>lt1 (((((nth b.Zk1 a.toNat).Zf1).Zd1).2.2.2.2.2.2).Zw) fun(s:Int)=>lt1 (((((nth b.Zk1 a.toNat).Zf1).Zd1).2.2.2.2.2.2).To) fun(t:Int)=>lt1 (((nth b.Zk1 a.toNat).Zf1).Ze1) fun(u:List Int)=>(if c then some true else (CR ({ Zd1:=(({ Zw:=e,To:=f }:ApC),({ Zw:=g,To:=i }:ApC),({ Zw:=j,To:=k }:ApC),({ Zw:=l,To:=m }:ApC),({ Zw:=n,To:=o }:ApC),({ Zw:=p,To:=q }:ApC),({ Zw:=s,To:=t }:ApC)),Ze1:=u }:ApD)).bind fun v=>if(v != 0)then some true else (F4 d).bind fun w=>some (!w):Option (Bool)).bind fun x=>some (.inl (x,(w64 (a+1)))) else none else some (.inr c)
def B5(a:ApF):Option (Int) :=(EO a.Zg1).bind fun c=>if(c != 0)then some c else (G0 a.Zh1).bind fun d=>if(d != 0)then some d else (if(decide ((a.Zi1.length:Int)>256))then some true else if(decide ((a.Zj1.length:Int)>256))then some true else some (decide ((a.Zk1.length:Int)>16)):Option (Bool)).bind fun e=>if e then some 2 else lt1 (a.Zk1.length:Int) fun(b:Int)=>((Ax (fun(v:Bool×Int)=>BN a v.1 v.2) ((b==0),0)).bind fun f=>some f:Option (Bool)).bind fun g=>((Ax (fun(v:Bool×Int)=>BQ a v.1 v.2) (g,0)).bind fun i=>some i:Option (Bool)).bind fun j=>((Ax (fun(v:Bool×Int)=>BL a v.1 v.2) (j,0)).bind fun k=>some k:Option (Bool)).bind fun l=>((Ax (fun(v:Bool×Int)=>BO a b v.1 v.2) (l,0)).bind fun m=>some m:Option (Bool)).bind fun n=>((Ax (fun(v:Bool×Int)=>BI a b v.1 v.2) (n,0)).bind fun o=>some o:Option (Bool)).bind fun p=>((Ax (fun(v:Bool×Int)=>BH a v.1 v.2) (p,0)).bind fun q=>some q:Option (Bool)).bind fun s=>if s then some 1 else some 0
def HX(a:UInt64):Option (UInt64×Int) :=(if(decide (a<(1:UInt64)))then some true else some (decide (a≥(1152921504606845399:UInt64))):Option (Bool)).bind fun b=>if b then some ((0:UInt64),30) else (F8 (4:UInt64) a).bind fun c=>some (c,0)
def Gl(a:ApM)(b:Int):Option (List ApK) :=if(decide (b≥(a.Zy1.length:Int)))then some ([]) else if InR b a.Zy1.length then some (nth a.Zy1 b.toNat) else none
def FB(a:Int):Option (ApN) :=some (ApN.mk 1 a ([]) ([]))
def Jc(a:List UInt8):Option (ApN) :=some (ApN.mk 2 0 a ([]))
def AR(a:Int):Option (ApN) :=some (ApN.mk 1 a ([]) ([]))
def edi_list_cnil  : Option (ApN) :=some (ApN.mk 3 0 ([]) ([]))
def GN(a:List ApN):Option (ApN) :=some (ApN.mk 3 0 ([]) a)
def Ek(a:List ApN):Option (ApN) :=some (ApN.mk 3 0 ([]) a)
def Mi(a:List UInt8):Option (ApN) :=some (ApN.mk 2 0 a ([]))
def DN(b:ApI)(a:Int)(c:List ApN):Option ((Int×List ApN)⊕(List ApN)) :=if (decide (a<(b.Zu1.length:Int)))then if InR a b.Zu1.length then lt1 ((nth b.Zu1 a.toNat).Za) fun(e:Int)=>lt1 ((nth b.Zu1 a.toNat).Zl1) fun(f:Int)=>lt1 ((nth b.Zu1 a.toNat).Zm1) fun(g:Bool)=>(if g then some 1 else some 0:Option (Int)).bind fun i=>(AR e).bind fun j=>(AR f).bind fun k=>(AR i).bind fun l=>(Ek ([j,k,l]:List ApN)).bind fun d=>if Dt (c.length+1) 64 then lt1 (c++([(ApN.mk d.Za d.N ([]) d.L)]:List ApN)) fun(m:List ApN)=>some (.inl ((w64 (a+1)),m)) else none else none else some (.inr c)
def G2(a : ApI):Option (ApN) :=(AR a.Za).bind fun s=>(AR a.Ref.Zb).bind fun t=>(AR a.Ref.No).bind fun u=>(Ek ([t,u]:List ApN)).bind fun b=>lt1 ([s,(ApN.mk b.Za b.N ([]) b.L)]:List ApN) fun(d:List ApN)=>((AR a.Zn1).bind fun w=>if Dt (d.length+1) 64 then lt1 (d++([w]:List ApN)) fun(e:List ApN)=>(AR a.Zb1).bind fun x=>if Dt (e.length+1) 64 then lt1 (e++([x]:List ApN)) fun(f:List ApN)=>(AR a.Zc).bind fun y=>if Dt (f.length+1) 64 then lt1 (f++([y]:List ApN)) fun(g:List ApN)=>(AR a.Zo1).bind fun z=>if Dt (g.length+1) 64 then lt1 (g++([z]:List ApN)) fun(i:List ApN)=>(AR a.Zw).bind fun aa=>if Dt (i.length+1) 64 then lt1 (i++([aa]:List ApN)) fun(j:List ApN)=>(AR a.To).bind fun ab=>if Dt (j.length+1) 64 then lt1 (j++([ab]:List ApN)) fun(k:List ApN)=>(AR a.Code).bind fun ac=>if Dt (k.length+1) 64 then lt1 (k++([ac]:List ApN)) fun(l:List ApN)=>(AR a.Zp1).bind fun ad=>if Dt (l.length+1) 64 then lt1 (l++([ad]:List ApN)) fun(m:List ApN)=>(AR a.Zq1).bind fun ae=>if Dt (m.length+1) 64 then lt1 (m++([ae]:List ApN)) fun(n:List ApN)=>(AR a.Zr1).bind fun af=>if Dt (n.length+1) 64 then lt1 (n++([af]:List ApN)) fun(o:List ApN)=>(AR a.Zs1).bind fun ag=>if Dt (o.length+1) 64 then lt1 (o++([ag]:List ApN)) fun(ah:List ApN)=>some ah else none else none else none else none else none else none else none else none else none else none else none:Option (List ApN)).bind fun p=>edi_list_cnil.bind fun q=>((Ax (fun(v:Int×List ApN)=>DN a v.1 v.2) (0,[])).bind fun ai=>some ai:Option (List ApN)).bind fun aj=>(Mi a.Zt1).bind fun ak=>if Dt (p.length+2) 64 then (GN (p++([ak,(ApN.mk q.Za q.N ([]) aj)]:List ApN))).bind fun c=>lt1 c.L fun(al:List ApN)=>some (ApN.mk c.Za c.N ([]) al) else none
def Eo(a:ApK):Option (List ApN) :=(FB a.Zb).bind fun b=>(FB a.No).bind fun c=>(Jc a.Zv1.l).bind fun d=>(FB a.Zw1).bind fun e=>(G2 a.Zx1).bind fun f=>lt1 ([b,c,d,e,f]:List ApN) fun(g:List ApN)=>some g
def DO(c:UInt64)(d:List UInt8)(a:Int)(b:List UInt8):Option ((Int×List UInt8)⊕(List UInt8)) :=if (decide (a<(d.length:Int)))then if DV (w64 (56-(w64 (8*a))))then if InR a b.length then lt1 (b.set a.toNat ((CM c ((w64 (56-(w64 (8*a)))).toNat)).toUInt8)) fun(e:List UInt8)=>some (.inl ((w64 (a+1)),e)) else none else none else some (.inr b)
def H6(b:UInt64):Option (ApN) :=if Mk 8 8 1 then lt1 (List.replicate 8 (0:UInt8)) fun(a:List UInt8)=>((Ax (fun(v:Int×List UInt8)=>DO b a v.1 v.2) (0,a)).bind fun c=>some c:Option (List UInt8)).bind fun d=>(Jc d).bind fun e=>some e else none
def I5(a:List ApN):Option (ApN) :=some (ApN.mk 3 0 ([]) a)
def Cg(b:ApN)(rec_:ApN→Option (Int×Bool))(c:Int)(a:Int):Option ((Int×Int)⊕((Int)⊕((Int)⊕((Unit)⊕(Int×Bool))))) :=if (decide (a<(b.L.length:Int)))then if InR a b.L.length then lt1 ((nth b.L a.toNat).Za) fun(e:Int)=>lt1 ((nth b.L a.toNat).N) fun(f:Int)=>lt1 ((nth b.L a.toNat).B) fun(g:List UInt8)=>lt1 ((nth b.L a.toNat).L) fun(i:List ApN)=>(rec_ (ApN.mk e f g i)).bind fun d=>if(!d.2)then (((some (0,false)).bind fun j=>some (.inr j)).bind fun k=>some (.inr k)).bind fun l=>some (.inr (.inr l)) else some (.inl ((JT c d.1),(w64 (a+1)))) else none else some (.inr (.inl c))
def EV(rec_:ApN→Option (Int×Bool))(a:ApN):Option (Int×Bool) :=(if(a.Za==1)then (if((a.B.length:Int)==0)then some ((a.L.length:Int)==0) else some false:Option (Bool)).bind fun b=>(some (0,b)).bind fun c=>some (.inr c) else if(a.Za==2)then (if(a.N==0)then some ((a.L.length:Int)==0) else some false:Option (Bool)).bind fun d=>(some (0,d)).bind fun e=>some (.inr e) else if (a.Za==3)then (if(a.N != 0)then some true else some ((a.B.length:Int) != 0):Option (Bool)).bind fun f=>if f then (some (0,false)).bind fun g=>some (.inr g) else ((Ax (fun(v:Int×Int)=>Cg a rec_ v.1 v.2) (0,0)).bind fun x=>match x with
     |.inl i=>some (.inl i)
     |.inr z=>some z:Option ((Int)⊕((Unit)⊕(Int×Bool)))).bind fun x=>match x with
     |.inl j=>(some ((w64 (j+1)),true)).bind fun k=>some (.inr k)
     |.inr z=>some z else some (.inl ()):Option ((Unit)⊕(Int×Bool))).bind fun x=>match x with
 |.inl ()=>some (0,false)
 |.inr z=>some z
def Ej(n:Nat):ApN→Option (Int×Bool):=match n with
 |0=>fun _=>none
 |n+1=>EV (Ej n)
def JJ(a:ApN):Option (Int×Bool):=Ej 18446744073709551616 a
def Bm(a:UInt64)(b:Int):Option ((UInt64×Int)⊕(Int)) :=if(decide (a>(0:UInt64)))then lt1 (CM a (8:UInt64).toNat) fun(c:UInt64)=>some (.inl (c,(w64 (b+1)))) else some (.inr b)
def Cb(a:UInt64):Option (Int) :=((Ax (fun(v:UInt64×Int)=>Bm v.1 v.2) (a,0)).bind fun b=>some b:Option (Int)).bind fun c=>some c
def Bq(d:Int)(b:Int)(a:Int)(c:List UInt8):Option ((Int×List UInt8)⊕(List UInt8)) :=if (decide (a<b))then if DV (w64 (8*(w64 ((w64 (b-1))-a))))then if Dt (c.length+1) 1 then lt1 (c++([(CM (UInt64.ofInt d) ((w64 (8*(w64 ((w64 (b-1))-a)))).toNat)).toUInt8]:List UInt8)) fun(e:List UInt8)=>some (.inl ((w64 (a+1)),e)) else none else none else some (.inr c)
def DP(b:List UInt8)(a:Int):Option (List UInt8) :=(Cb (UInt64.ofInt a)).bind fun c=>lt1 (UInt8.ofInt (w64 (32+c))) fun(e:UInt8)=>(if(decide (a<0))then (Cb (~~~(UInt64.ofInt a))).bind fun d=>lt1 (UInt8.ofInt (w64 (31-d))) fun(f:UInt8)=>some (d,f) else some (c,e):Option (Int×UInt8)).bind fun(g,i)=>if Dt (b.length+1) 1 then lt1 (b++([i]:List UInt8)) fun(j:List UInt8)=>((Ax (fun(v:Int×List UInt8)=>Bq a g v.1 v.2) (0,j)).bind fun k=>some k:Option (List UInt8)).bind fun l=>some l else none
def AX(b:ApN)(a:Int)(c:List UInt8):Option ((Int×List UInt8)⊕(List UInt8)) :=if (decide (a<(b.B.length:Int)))then (if InR a b.B.length then if Dt (c.length+1) 1 then lt1 (c++([nth b.B a.toNat]:List UInt8)) fun(d:List UInt8)=>if(nth b.B a.toNat==(0:UInt8))then if Dt (d.length+1) 1 then lt1 (d++([(255:UInt8)]:List UInt8)) fun(e:List UInt8)=>some e else none else some d else none else none:Option (List UInt8)).bind fun f=>some (.inl ((w64 (a+1)),f)) else some (.inr c)
def AW(b:ApN)(rec_:(List UInt8)→ApN→Option (List UInt8))(a:Int)(c:List UInt8):Option ((Int×List UInt8)⊕(List UInt8)) :=if(decide (a<(b.L.length:Int)))then if InR a b.L.length then lt1 ((nth b.L a.toNat).Za) fun(d:Int)=>lt1 ((nth b.L a.toNat).N) fun(e:Int)=>lt1 ((nth b.L a.toNat).B) fun(f:List UInt8)=>lt1 ((nth b.L a.toNat).L) fun(g:List ApN)=>(rec_ c (ApN.mk d e f g)).bind fun i=>some (.inl ((w64 (a+1)),i)) else none else some (.inr c)
def CD(rec_:(List UInt8)→ApN→Option (List UInt8))(a:List UInt8)(b:ApN):Option (List UInt8) :=(if(b.Za==1)then (DP a b.N).bind fun e=>(some e).bind fun f=>some (.inr f) else if (b.Za==2)then if Dt (a.length+1) 1 then lt1 (a++([(48:UInt8)]:List UInt8)) fun(g:List UInt8)=>((Ax (fun(v:Int×List UInt8)=>AX b v.1 v.2) (0,g)).bind fun i=>some i:Option (List UInt8)).bind fun c=>if Dt (c.length+2) 1 then lt1 (c++([(0:UInt8),(0:UInt8)]:List UInt8)) fun(j:List UInt8)=>(some j).bind fun k=>some (.inr k) else none else none else some (.inl ()):Option ((Unit)⊕(List UInt8))).bind fun x=>match x with
 | .inl ()=>if Dt (a.length+1) 1 then lt1 (a++([(64:UInt8)]:List UInt8)) fun(l:List UInt8)=>((Ax (fun(v:Int×List UInt8)=>AW b rec_ v.1 v.2) (0,l)).bind fun m=>some m:Option (List UInt8)).bind fun d=>if Dt (d.length+1) 1 then lt1 (d++([(0:UInt8)]:List UInt8)) fun(n:List UInt8)=>some n else none else none
 |.inr z=>some z
def Ca(n:Nat):(List UInt8)→ApN→Option (List UInt8):=match n with
 |0=>fun _ _=>none
 |n+1=>CD (Ca n)
def Fx(a:List UInt8)(b:ApN):Option (List UInt8):=Ca 18446744073709551616 a b
def EL(a:ApN):Option (List UInt8×Int) :=(JJ a).bind fun b=>if(!b.2)then some ([],10) else if(decide (b.1>16))then some ([],2) else (Fx ([]) a).bind fun c=>if(decide ((c.length:Int)>65536))then some ([],2) else some (c,0)
def Gs(a:ApK):Option (List UInt8×Int) :=(Eo a).bind fun b=>(H6 a.Sig.C).bind fun d=>(H6 a.Sig.S).bind fun e=>(I5 ([d,e]:List ApN)).bind fun f=>if Dt (b.length+1) 64 then (I5 (b++([f]:List ApN))).bind fun g=>(EL g).bind fun c=>some (c.1,c.2) else none
def Aw(a:UInt32)(c:Int):Option (UInt32) :=lt1 ((UInt64.ofInt c) &&& (31:UInt64)) fun(b:UInt64)=>lt1 ((OC a b.toNat) ||| (LX a ((32:UInt64)-b).toNat)) fun(d:UInt32)=>some d
def Bc(b:List UInt8)(a:Int)(c:Arr UInt32 64):Option ((Int×Arr UInt32 64)⊕(Arr UInt32 64)) :=if (decide (a<16))then if InR (w64 (4*a)) b.length then if InR (w64 ((w64 (4*a))+1)) b.length then if InR (w64 ((w64 (4*a))+2)) b.length then if InR (w64 ((w64 (4*a))+3)) b.length then if InR a 64 then lt1 (c.set a.toNat ((((OC ((nth b ((w64 (4*a)).toNat)).toUInt32) (24:UInt64).toNat) ||| (OC ((nth b ((w64 ((w64 (4*a))+1)).toNat)).toUInt32) (16:UInt64).toNat)) ||| (OC ((nth b ((w64 ((w64 (4*a))+2)).toNat)).toUInt32) (8:UInt64).toNat)) ||| (nth b ((w64 ((w64 (4*a))+3)).toNat)).toUInt32)) fun(d:Arr UInt32 64)=>some (.inl ((w64 (a+1)),d)) else none else none else none else none else none else some (.inr c)
def AM(a:Int)(b:Arr UInt32 64):Option ((Int×Arr UInt32 64)⊕(Arr UInt32 64)) :=if (decide (a<64))then if InR (w64 (a-15)) 64 then if InR (w64 (a-2)) 64 then lt1 (b.get ((w64 (a-15)).toNat)) fun(c:UInt32)=>lt1 (b.get ((w64 (a-2)).toNat)) fun(d:UInt32)=>(Aw c (-7)).bind fun e=>(Aw c (-18)).bind fun f=>lt1 ((e ^^^ f) ^^^ (LX c (3:UInt64).toNat)) fun(s0_5401:UInt32)=>(Aw d (-17)).bind fun g=>(Aw d (-19)).bind fun i=>lt1 ((g ^^^ i) ^^^ (LX d (10:UInt64).toNat)) fun(s1_5407:UInt32)=>if InR (w64 (a-16)) 64 then if InR (w64 (a-7)) 64 then if InR a 64 then lt1 (b.set a.toNat ((((b.get ((w64 (a-16)).toNat))+s0_5401)+(b.get ((w64 (a-7)).toNat)))+s1_5407)) fun(j:Arr UInt32 64)=>some (.inl ((w64 (a+1)),j)) else none else none else none else none else none else some (.inr b)
def Ba(d:Arr UInt32 64)(b:Int)(a:Arr UInt32 8):Option ((Int×Arr UInt32 8)⊕(Arr UInt32 8)) :=if (decide (b<64))then (Aw (a.get 4) (-6)).bind fun e=>(Aw (a.get 4) (-11)).bind fun f=>(Aw (a.get 4) (-25)).bind fun g=>if InR b 64 then if InR b 64 then lt1 (((((a.get 7)+((e ^^^ f) ^^^ g))+(((a.get 4) &&& (a.get 5)) ^^^ ((~~~(a.get 4)) &&& (a.get 6))))+(glob3.get b.toNat))+(d.get b.toNat)) fun(c:UInt32)=>(Aw (a.get 0) (-2)).bind fun i=>(Aw (a.get 0) (-13)).bind fun j=>(Aw (a.get 0) (-22)).bind fun k=>lt1 (((i ^^^ j) ^^^ k)+((((a.get 0) &&& (a.get 1)) ^^^ ((a.get 0) &&& (a.get 2))) ^^^ ((a.get 1) &&& (a.get 2)))) fun(l:UInt32)=>lt1 (⟨[(c+l),(a.get 0),(a.get 1),(a.get 2),((a.get 3)+c),(a.get 4),(a.get 5),(a.get 6)],rfl⟩:Arr UInt32 8) fun(m:Arr UInt32 8)=>some (.inl ((w64 (b+1)),m)) else none else none else some (.inr a)
def Bi(c:Arr UInt32 8)(a:Int)(b:Arr UInt32 8):Option ((Int×Arr UInt32 8)⊕(Arr UInt32 8)) :=if (decide (a<8))then if InR a 8 then if InR a 8 then if InR a 8 then lt1 (b.set a.toNat ((b.get a.toNat)+(c.get a.toNat))) fun(d:Arr UInt32 8)=>some (.inl ((w64 (a+1)),d)) else none else none else none else some (.inr b)
def CK(a:Arr UInt32 8)(b:List UInt8):Option (Arr UInt32 8) :=((Ax (fun(v:Int×Arr UInt32 64)=>Bc b v.1 v.2) (0,(Arr.rep 64 (0:UInt32)))).bind fun c=>some c:Option (Arr UInt32 64)).bind fun d=>((Ax (fun(v:Int×Arr UInt32 64)=>AM v.1 v.2) (16,d)).bind fun e=>some e:Option (Arr UInt32 64)).bind fun f=>((Ax (fun(v:Int×Arr UInt32 8)=>Ba f v.1 v.2) (0,a)).bind fun g=>some g:Option (Arr UInt32 8)).bind fun i=>((Ax (fun(v:Int×Arr UInt32 8)=>Bi i v.1 v.2) (0,a)).bind fun j=>some j:Option (Arr UInt32 8)).bind fun k=>some k
def Ch(b:List (List UInt8))(a:Int)(c:List UInt8):Option ((Int×List UInt8)⊕(List UInt8)) :=if (decide (a<(b.length:Int)))then if InR a b.length then lt1 (nth b a.toNat) fun(d:List UInt8)=>if Dt (c.length+d.length) 1 then lt1 (c++d) fun(e:List UInt8)=>some (.inl ((w64 (a+1)),e)) else none else none else some (.inr c)
def B7(a:List UInt8):Option ((List UInt8)⊕(List UInt8)) :=if((((a.length:Int):Int).tmod 64) != 56)then if Dt (a.length+1) 1 then lt1 (a++([(0:UInt8)]:List UInt8)) fun(b:List UInt8)=>some (.inl b) else none else some (.inr a)
def C5(c:UInt64)(a:Int)(b:List UInt8):Option ((Int×List UInt8)⊕(List UInt8)) :=if (decide (a≥0))then if DV a then if Dt (b.length+1) 1 then lt1 (b++([(CM c a.toNat).toUInt8]:List UInt8)) fun(d:List UInt8)=>some (.inl ((w64 (a-8)),d)) else none else none else some (.inr b)
def C4(d:List UInt8)(b:Nat)(a:Nat)(c:Arr UInt32 8):Option ((Nat×Nat×Arr UInt32 8)⊕(Arr UInt32 8)) :=if (decide ((a:Int)>0))then if InB 64 a then (CK c ((d.drop b).take 64)).bind fun e=>if InB 64 a then some (.inl ((b+64),(a-64),e)) else none else none else some (.inr c)
def BP(c:Arr UInt32 8)(a:Int)(b:Arr UInt8 32):Option ((Int×Arr UInt8 32)⊕(Arr UInt8 32)) :=if (decide (a<32))then if InR (w64 ((a:Int).tdiv 4)) 8 then if DV (w64 (24-(w64 (8*((a:Int).tmod 4)))))then if InR a 32 then lt1 (b.set a.toNat ((LX (c.get ((w64 ((a:Int).tdiv 4)).toNat)) ((w64 (24-(w64 (8*((a:Int).tmod 4))))).toNat)).toUInt8)) fun(d:Arr UInt8 32)=>some (.inl ((w64 (a+1)),d)) else none else none else none else some (.inr b)
def Fv(c:List (List UInt8)):Option (Arr UInt8 32) :=((Ax (fun(v:Int×List UInt8)=>Ch c v.1 v.2) (0,[])).bind fun d=>some d:Option (List UInt8)).bind fun a=>lt1 ((UInt64.ofInt (a.length:Int))*(8:UInt64)) fun(e:UInt64)=>if Dt (a.length+1) 1 then lt1 (a++([(128:UInt8)]:List UInt8)) fun(f:List UInt8)=>((Ax (fun(v:List UInt8)=>B7 v) f).bind fun g=>some g:Option (List UInt8)).bind fun i=>((Ax (fun(v:Int×List UInt8)=>C5 e v.1 v.2) (56,i)).bind fun j=>some j:Option (List UInt8)).bind fun b=>lt1 (⟨[(1779033703:UInt32),3144134277,1013904242,2773480762,1359893119,2600822924,528734635,1541459225],rfl⟩:Arr UInt32 8) fun(k:Arr UInt32 8)=>((Ax (fun(v:Nat×Nat×Arr UInt32 8)=>C4 b v.1 v.2.1 v.2.2) (0,b.length,k)).bind fun l=>some l:Option (Arr UInt32 8)).bind fun m=>((Ax (fun(v:Int×Arr UInt8 32)=>BP m v.1 v.2) (0,(Arr.rep 32 (0:UInt8)))).bind fun n=>some n:Option (Arr UInt8 32)).bind fun o=>some o else none
def CL(a:List UInt8)(c:List UInt8):Option (Arr UInt8 32) :=if InB (Pm (a.length:Int) 255) a.length then lt1 (a.take ((Pm (a.length:Int) 255).toNat)) fun(b:List UInt8)=>(Fv ([([(UInt8.ofInt (b.length:Int))]:List UInt8),b,c]:List (List UInt8))).bind fun d=>some d else none
def DQ(b:ApK):Option (Arr UInt8 32×Int) :=(Gs b).bind fun a=>if(a.2 != 0)then some ((Arr.rep 32 (0:UInt8)),a.2) else (CL ([114,101,99,111,114,100]:List UInt8) a.1).bind fun c=>some (c,0)
def Gm(b:ApK):Option (List UInt8×Int) :=(Eo b).bind fun c=>(I5 c).bind fun d=>(EL d).bind fun a=>some (a.1,a.2)
def Dz(c:UInt64)(a:Int)(b:List UInt8):Option ((Int×List UInt8)⊕(List UInt8)) :=if (decide (a<8))then if DV (w64 (56-(w64 (8*a))))then if Dt (b.length+1) 1 then lt1 (b++([(CM c ((w64 (56-(w64 (8*a)))).toNat)).toUInt8]:List UInt8)) fun(d:List UInt8)=>some (.inl ((w64 (a+1)),d)) else none else none else some (.inr b)
def D0(b:List UInt64)(a:Int)(c:List UInt8):Option ((Int×List UInt8)⊕(List UInt8)) :=if(decide (a<(b.length:Int)))then (if InR a b.length then lt1 (nth b a.toNat) fun(d:UInt64)=>(Ax (fun(v:Int×List UInt8)=>Dz d v.1 v.2) (0,c)).bind fun e=>some e else none:Option (List UInt8)).bind fun f=>some (.inl ((w64 (a+1)),f)) else some (.inr c)
def F5(a:List UInt8)(b:List UInt64):Option (List UInt8) :=if Mk 0 (w64 ((w64 (8*(b.length:Int)))+(a.length:Int))) 1 then lt1 (List.replicate 0 (0:UInt8)) fun(d:List UInt8)=>((Ax (fun(v:Int×List UInt8)=>D0 b v.1 v.2) (0,d)).bind fun e=>some e:Option (List UInt8)).bind fun c=>if Dt (c.length+a.length) 1 then lt1 (c++a) fun(f:List UInt8)=>some f else none else none
def BU(b:Arr UInt8 32)(c:UInt64)(a:Int):Option ((UInt64×Int)⊕(UInt64)) :=if(decide (a<((b.l.take 8).length:Int)))then if InR a ((b.l.take 8).length)then lt1 (nth (b.l.take 8) a.toNat) fun(d:UInt8)=>lt1 ((Ic c (8:UInt64).toNat) ||| d.toUInt64) fun(e:UInt64)=>some (.inl (e,(w64 (a+1)))) else none else some (.inr c)
def Er(a:Arr UInt8 32):Option (UInt64) :=((Ax (fun(v:UInt64×Int)=>BU a v.1 v.2) ((0:UInt64),0)).bind fun b=>some b:Option (UInt64)).bind fun c=>some c
def D8(a:UInt64)(b:UInt64)(c:List UInt8):Option (UInt64) :=(F5 c ([a,b]:List UInt64)).bind fun d=>(CL ([99,104,97,108,108,101,110,103,101]:List UInt8) d).bind fun e=>(Er e).bind fun f=>some (f%(1152921504606845399:UInt64))
def Nn(a:UInt64)(b:List UInt8):Option (ApJ×Int) :=(HX a).bind fun c=>if(c.2 != 0)then some (({ C:=(0:UInt64),S:=(0:UInt64) }:ApJ),c.2) else if(decide ((b.length:Int)>65536))then some (({ C:=(0:UInt64),S:=(0:UInt64) }:ApJ),2) else (F5 b ([a]:List UInt64)).bind fun f=>(CL ([110,111,110,99,101]:List UInt8) f).bind fun g=>(Er g).bind fun i=>lt1 ((i%(1152921504606845398:UInt64))+(1:UInt64)) fun(d:UInt64)=>(F8 (4:UInt64) d).bind fun j=>(D8 j c.1 b).bind fun e=>(E9 (1152921504606845399:UInt64)).bind fun k=>(CJ e a k).bind fun l=>lt1 ((d+l.1)%(1152921504606845399:UInt64)) fun(m:UInt64)=>some (({ C:=e,S:=m }:ApJ),0)
def Fa(a:ApI):Option (Bool) :=if((a.Ref.Zb==0)&&(a.Ref.No==0))then some (a.Za != 14) else (if(decide (a.Ref.Zb≥0))then if(decide (a.Ref.Zb<16))then if(decide (a.Ref.No≥1))then some (decide (a.Ref.No≤4096)) else some false else some false else some false:Option (Bool)).bind fun b=>some b
def Cj(a:ApO)(b:Int)(c:Int):Option (ApO) :=(if a.ok=true then if(decide (b≤a.it.Zn1))then some (decide (a.it.Zn1≤c)) else some false else some false:Option (Bool)).bind fun d=>some ({ p:=a.p,it:=({ Za:=a.it.Za,Ref:=a.it.Ref,Zn1:=0,Zb1:=a.it.Zb1,Zc:=a.it.Zc,Zo1:=a.it.Zo1,Zw:=a.it.Zw,To:=a.it.To,Code:=a.it.Code,Zp1:=a.it.Zp1,Zq1:=a.it.Zq1,Zr1:=a.it.Zr1,Zs1:=a.it.Zs1,Zt1:=a.it.Zt1,Zu1:=a.it.Zu1 }:ApI),ok:=d }:ApO)
def Bt(a:ApO)(b:Int)(c:Int):Option (ApO) :=(if a.ok=true then if(decide (b≤a.it.Zc))then some (decide (a.it.Zc≤c)) else some false else some false:Option (Bool)).bind fun d=>some ({ p:=a.p,it:=({ Za:=a.it.Za,Ref:=a.it.Ref,Zn1:=a.it.Zn1,Zb1:=a.it.Zb1,Zc:=0,Zo1:=a.it.Zo1,Zw:=a.it.Zw,To:=a.it.To,Code:=a.it.Code,Zp1:=a.it.Zp1,Zq1:=a.it.Zq1,Zr1:=a.it.Zr1,Zs1:=a.it.Zs1,Zt1:=a.it.Zt1,Zu1:=a.it.Zu1 }:ApI),ok:=d }:ApO)
def Bu(a:ApO)(b:Int)(c:Int):Option (ApO) :=(if a.ok=true then if(decide (b≤a.it.Zo1))then some (decide (a.it.Zo1≤c)) else some false else some false:Option (Bool)).bind fun d=>some ({ p:=a.p,it:=({ Za:=a.it.Za,Ref:=a.it.Ref,Zn1:=a.it.Zn1,Zb1:=a.it.Zb1,Zc:=a.it.Zc,Zo1:=0,Zw:=a.it.Zw,To:=a.it.To,Code:=a.it.Code,Zp1:=a.it.Zp1,Zq1:=a.it.Zq1,Zr1:=a.it.Zr1,Zs1:=a.it.Zs1,Zt1:=a.it.Zt1,Zu1:=a.it.Zu1 }:ApI),ok:=d }:ApO)
def Cq(a:ApO)(b:Int)(c:Int):Option (ApO) :=(if a.ok=true then if(decide (b≤a.it.Zw))then some (decide (a.it.Zw≤c)) else some false else some false:Option (Bool)).bind fun d=>some ({ p:=a.p,it:=({ Za:=a.it.Za,Ref:=a.it.Ref,Zn1:=a.it.Zn1,Zb1:=a.it.Zb1,Zc:=a.it.Zc,Zo1:=a.it.Zo1,Zw:=0,To:=a.it.To,Code:=a.it.Code,Zp1:=a.it.Zp1,Zq1:=a.it.Zq1,Zr1:=a.it.Zr1,Zs1:=a.it.Zs1,Zt1:=a.it.Zt1,Zu1:=a.it.Zu1 }:ApI),ok:=d }:ApO)
def Cr(a:ApO)(b:Int)(c:Int):Option (ApO) :=(if a.ok=true then if(decide (b≤a.it.To))then some (decide (a.it.To≤c)) else some false else some false:Option (Bool)).bind fun d=>some ({ p:=a.p,it:=({ Za:=a.it.Za,Ref:=a.it.Ref,Zn1:=a.it.Zn1,Zb1:=a.it.Zb1,Zc:=a.it.Zc,Zo1:=a.it.Zo1,Zw:=a.it.Zw,To:=0,Code:=a.it.Code,Zp1:=a.it.Zp1,Zq1:=a.it.Zq1,Zr1:=a.it.Zr1,Zs1:=a.it.Zs1,Zt1:=a.it.Zt1,Zu1:=a.it.Zu1 }:ApI),ok:=d }:ApO)
def Be(a:ApO)(b:Int)(c:Int):Option (ApO) :=(if a.ok=true then if(decide (b≤a.it.Code))then some (decide (a.it.Code≤c)) else some false else some false:Option (Bool)).bind fun d=>some ({ p:=a.p,it:=({ Za:=a.it.Za,Ref:=a.it.Ref,Zn1:=a.it.Zn1,Zb1:=a.it.Zb1,Zc:=a.it.Zc,Zo1:=a.it.Zo1,Zw:=a.it.Zw,To:=a.it.To,Code:=0,Zp1:=a.it.Zp1,Zq1:=a.it.Zq1,Zr1:=a.it.Zr1,Zs1:=a.it.Zs1,Zt1:=a.it.Zt1,Zu1:=a.it.Zu1 }:ApI),ok:=d }:ApO)
def Cu(a:ApO)(b:Int)(c:Int):Option (ApO) :=(if a.ok=true then if(decide (b≤a.it.Zp1))then some (decide (a.it.Zp1≤c)) else some false else some false:Option (Bool)).bind fun d=>some ({ p:=a.p,it:=({ Za:=a.it.Za,Ref:=a.it.Ref,Zn1:=a.it.Zn1,Zb1:=a.it.Zb1,Zc:=a.it.Zc,Zo1:=a.it.Zo1,Zw:=a.it.Zw,To:=a.it.To,Code:=a.it.Code,Zp1:=0,Zq1:=a.it.Zq1,Zr1:=a.it.Zr1,Zs1:=a.it.Zs1,Zt1:=a.it.Zt1,Zu1:=a.it.Zu1 }:ApI),ok:=d }:ApO)
def Cn(a:ApO)(b:Int)(c:Int):Option (ApO) :=(if a.ok=true then if(decide (b≤a.it.Zq1))then some (decide (a.it.Zq1≤c)) else some false else some false:Option (Bool)).bind fun d=>some ({ p:=a.p,it:=({ Za:=a.it.Za,Ref:=a.it.Ref,Zn1:=a.it.Zn1,Zb1:=a.it.Zb1,Zc:=a.it.Zc,Zo1:=a.it.Zo1,Zw:=a.it.Zw,To:=a.it.To,Code:=a.it.Code,Zp1:=a.it.Zp1,Zq1:=0,Zr1:=a.it.Zr1,Zs1:=a.it.Zs1,Zt1:=a.it.Zt1,Zu1:=a.it.Zu1 }:ApI),ok:=d }:ApO)
def B8(a:ApO)(b:Int)(c:Int):Option (ApO) :=(if a.ok=true then if(decide (b≤a.it.Zr1))then some (decide (a.it.Zr1≤c)) else some false else some false:Option (Bool)).bind fun d=>some ({ p:=a.p,it:=({ Za:=a.it.Za,Ref:=a.it.Ref,Zn1:=a.it.Zn1,Zb1:=a.it.Zb1,Zc:=a.it.Zc,Zo1:=a.it.Zo1,Zw:=a.it.Zw,To:=a.it.To,Code:=a.it.Code,Zp1:=a.it.Zp1,Zq1:=a.it.Zq1,Zr1:=0,Zs1:=a.it.Zs1,Zt1:=a.it.Zt1,Zu1:=a.it.Zu1 }:ApI),ok:=d }:ApO)
def B9(a:ApO)(b:Int)(c:Int):Option (ApO) :=(if a.ok=true then if(decide (b≤a.it.Zs1))then some (decide (a.it.Zs1≤c)) else some false else some false:Option (Bool)).bind fun d=>some ({ p:=a.p,it:=({ Za:=a.it.Za,Ref:=a.it.Ref,Zn1:=a.it.Zn1,Zb1:=a.it.Zb1,Zc:=a.it.Zc,Zo1:=a.it.Zo1,Zw:=a.it.Zw,To:=a.it.To,Code:=a.it.Code,Zp1:=a.it.Zp1,Zq1:=a.it.Zq1,Zr1:=a.it.Zr1,Zs1:=0,Zt1:=a.it.Zt1,Zu1:=a.it.Zu1 }:ApI),ok:=d }:ApO)
def CB(a:ApO):Option (ApO) :=(Cj a 0 (w64 ((a.p.Zh1.Zy.length:Int)-1))).bind fun b=>some b
def Bw(a:ApO):Option (ApO) :=(Cq a 0 1073741824).bind fun b=>some b
def Bj(a:ApO)(c:Int):Option (Aps×ApO) :=((if(decide (a.it.Zb1≥0))then some (decide (a.it.Zb1<(a.p.Zg1.Ze.length:Int))) else some false:Option (Bool)).bind fun d=>if d then if InR a.it.Zb1 a.p.Zg1.Ze.length then lt1 ((nth a.p.Zg1.Ze a.it.Zb1.toNat).Za) fun(e:Int)=>lt1 ((nth a.p.Zg1.Ze a.it.Zb1.toNat).Zb) fun(f:Int)=>lt1 ((nth a.p.Zg1.Ze a.it.Zb1.toNat).Zc) fun(g:Int)=>some (e,f,g) else none else some (0,0,0):Option (Int×Int×Int)).bind fun(b,i,j)=>(if a.ok=true then if(b != 0)then if(c==0)then some true else some (b==c) else some false else some false:Option (Bool)).bind fun k=>some (({ Za:=b,Zb:=i,Zc:=j }:Aps),({ p:=a.p,it:=({ Za:=a.it.Za,Ref:=a.it.Ref,Zn1:=a.it.Zn1,Zb1:=0,Zc:=a.it.Zc,Zo1:=a.it.Zo1,Zw:=a.it.Zw,To:=a.it.To,Code:=a.it.Code,Zp1:=a.it.Zp1,Zq1:=a.it.Zq1,Zr1:=a.it.Zr1,Zs1:=a.it.Zs1,Zt1:=a.it.Zt1,Zu1:=a.it.Zu1 }:ApI),ok:=k }:ApO))
def CH(a:ApO):Option (ApO) :=(Cr a (JT a.it.Zw 0) 1073741824).bind fun b=>(Bw b).bind fun c=>some c
def Cc(a:ApO):Option (ApO) :=(Bt a 0 (w64 ((a.p.Zj1.length:Int)-1))).bind fun b=>some b
def Dc(a:ApO):Option (ApO) :=(Cn a 0 63).bind fun b=>some b
def C3(c:ApO):Option (ApO) :=if(decide (c.it.Za<1))then some ({ p:=c.p,it:=c.it,ok:=false }:ApO) else (CB c).bind fun b=>if(b.it.Za==1)then (Bt b 0 (w64 ((b.p.Zi1.length:Int)-1))).bind fun f=>(Bw f).bind fun g=>some g else if(b.it.Za==2)then (Bj b 0).bind fun i=>(CH i.2).bind fun j=>some j else (if(b.it.Za==3)then some (b.it.Za==3) else some (b.it.Za==4):Option (Bool)).bind fun k=>if k then (Bj b 3).bind fun a=>(if a.2.ok=true then if(a.2.it.Zc==a.1.Zb)then some true else some (a.2.it.Zc==a.1.Zc) else some false:Option (Bool)).bind fun l=>(Bw ({ p:=a.2.p,it:=({ Za:=a.2.it.Za,Ref:=a.2.it.Ref,Zn1:=a.2.it.Zn1,Zb1:=a.2.it.Zb1,Zc:=0,Zo1:=a.2.it.Zo1,Zw:=a.2.it.Zw,To:=a.2.it.To,Code:=a.2.it.Code,Zp1:=a.2.it.Zp1,Zq1:=a.2.it.Zq1,Zr1:=a.2.it.Zr1,Zs1:=a.2.it.Zs1,Zt1:=a.2.it.Zt1,Zu1:=a.2.it.Zu1 }:ApI),ok:=l }:ApO)).bind fun m=>(Be m 0 8).bind fun n=>some n else if(b.it.Za==5)then (Bu b 1 1000000000).bind fun o=>(Cc o).bind fun q=>(Bj q 0).bind fun e=>(Cu e.2 0 (w64 ((e.2.p.Zg1.Ze.length:Int)-1))).bind fun s=>(Dc s).bind fun t=>(B8 t 0 1000000).bind fun u=>(Bw u).bind fun v=>some v else (if(b.it.Za==6)then some (b.it.Za==6) else some (b.it.Za==7):Option (Bool)).bind fun w=>if w then (Bj b 0).bind fun x=>(Cc x.2).bind fun y=>(Bw y).bind fun d=>if(d.it.Za==6)then (Be d 0 1).bind fun z=>some z else some d else some b
def Eb(b:List ApH)(e:Bool)(a:Int):Option ((Int)⊕((Unit)⊕((Unit)⊕(Bool)))) :=if (decide (a<(b.length:Int)))then if InR a b.length then lt1 ((nth b a.toNat).Za) fun(c:Int)=>lt1 ((nth b a.toNat).Zl1) fun(d:Int)=>lt1 ((nth b a.toNat).Zm1) fun(f:Bool)=>(if(decide (c<1))then some true else if(decide (c>3))then some true else if(decide (d<0))then some true else if(decide (d>1073741824))then some true else if f then some (!e) else some false:Option (Bool)).bind fun g=>if g then ((some false).bind fun i=>some (.inr i)).bind fun j=>some (.inr (.inr j)) else some (.inl (w64 (a+1))) else none else some (.inr (.inl ()))
def H0(a:List ApH)(b:Bool):Option (Bool) :=((Ax (fun(v:Int)=>Eb a b v) 0).bind fun x=>match x with
 |.inl ()=>some (.inl ())
 |.inr z=>some z:Option ((Unit)⊕(Bool))).bind fun x=>match x with
 |.inl ()=>some (decide ((a.length:Int)≤16))
 |.inr z=>some z
def Db(b:ApO):Option (ApO) :=if(b.it.Za==8)then (CB b).bind fun f=>(Bw f).bind fun g=>(Be g 1 9).bind fun i=>some i else if(b.it.Za==9)then (CB b).bind fun j=>(Bj j 5).bind fun k=>(CH k.2).bind fun l=>(Be l 1 2).bind fun m=>(B9 m 0 1000000000).bind fun d=>(if d.ok=true then (H0 d.it.Zu1 true).bind fun n=>some n else some false:Option (Bool)).bind fun o=>some ({ p:=d.p,it:=({ Za:=d.it.Za,Ref:=d.it.Ref,Zn1:=d.it.Zn1,Zb1:=d.it.Zb1,Zc:=d.it.Zc,Zo1:=d.it.Zo1,Zw:=d.it.Zw,To:=d.it.To,Code:=d.it.Code,Zp1:=d.it.Zp1,Zq1:=d.it.Zq1,Zr1:=d.it.Zr1,Zs1:=d.it.Zs1,Zt1:=d.it.Zt1,Zu1:=[] }:ApI),ok:=o }:ApO) else if (b.it.Za==10)then (Bt b 0 63).bind fun c=>(if c.ok=true then if(decide ((c.it.Zu1.length:Int)>0))then (H0 c.it.Zu1 false).bind fun q=>some q else some false else some false:Option (Bool)).bind fun s=>some ({ p:=c.p,it:=({ Za:=c.it.Za,Ref:=c.it.Ref,Zn1:=c.it.Zn1,Zb1:=c.it.Zb1,Zc:=c.it.Zc,Zo1:=c.it.Zo1,Zw:=c.it.Zw,To:=c.it.To,Code:=c.it.Code,Zp1:=c.it.Zp1,Zq1:=c.it.Zq1,Zr1:=c.it.Zr1,Zs1:=c.it.Zs1,Zt1:=c.it.Zt1,Zu1:=[] }:ApI),ok:=s }:ApO) else (if(b.it.Za==11)then some (b.it.Za==11) else if(b.it.Za==12)then some (b.it.Za==12) else some (b.it.Za==13):Option (Bool)).bind fun t=>if t then (Bu b 1 6).bind fun u=>(Bw u).bind fun a=>if (a.it.Za != 13)then (if a.ok=true then if(decide ((a.it.Zt1.length:Int)≥1))then some (decide ((a.it.Zt1.length:Int)≤2000)) else some false else some false:Option (Bool)).bind fun v=>some ({ p:=a.p,it:=({ Za:=a.it.Za,Ref:=a.it.Ref,Zn1:=a.it.Zn1,Zb1:=a.it.Zb1,Zc:=a.it.Zc,Zo1:=a.it.Zo1,Zw:=a.it.Zw,To:=a.it.To,Code:=a.it.Code,Zp1:=a.it.Zp1,Zq1:=a.it.Zq1,Zr1:=a.it.Zr1,Zs1:=a.it.Zs1,Zt1:=([]:List UInt8),Zu1:=a.it.Zu1 }:ApI),ok:=v }:ApO) else some a else if(b.it.Za==14)then some b else if(b.it.Za==15)then (Cc b).bind fun w=>(Bj w 0).bind fun x=>(Dc x.2).bind fun e=>(Bu e 0 (w64 ((e.p.Zh1.Zx.length:Int)-1))).bind fun y=>(B8 y 1 1000).bind fun z=>(CH z).bind fun aa=>(B9 aa 0 1000000000).bind fun ab=>some ab else some ({ p:=b.p,it:=b.it,ok:=false }:ApO)
def Ep(d:ApF)(c:ApI):Option (Bool) :=(if(decide (c.Za≤7))then (C3 ({ p:=d,it:=c,ok:=true }:ApO)).bind fun a=>some (a.p.Zg1.Ze,a.p.Zg1.Zf,a.p.Zh1.Zx,a.p.Zh1.Zy,a.p.Zh1.Zz,a.p.Zh1.Za1,a.p.Zi1,a.p.Zj1,a.p.Zk1,a.it.Za,a.it.Ref.Zb,a.it.Ref.No,a.it.Zn1,a.it.Zb1,a.it.Zc,a.it.Zo1,a.it.Zw,a.it.To,a.it.Code,a.it.Zp1,a.it.Zq1,a.it.Zr1,a.it.Zs1,a.it.Zt1,a.it.Zu1,a.ok) else (Db ({ p:=d,it:=c,ok:=true }:ApO)).bind fun b=>some (b.p.Zg1.Ze,b.p.Zg1.Zf,b.p.Zh1.Zx,b.p.Zh1.Zy,b.p.Zh1.Zz,b.p.Zh1.Za1,b.p.Zi1,b.p.Zj1,b.p.Zk1,b.it.Za,b.it.Ref.Zb,b.it.Ref.No,b.it.Zn1,b.it.Zb1,b.it.Zc,b.it.Zo1,b.it.Zw,b.it.To,b.it.Code,b.it.Zp1,b.it.Zq1,b.it.Zr1,b.it.Zs1,b.it.Zt1,b.it.Zu1,b.ok):Option (List Aps×List Apt×List Apv×List Apw×List Apx×List Apy×List ApA×List ApB×List ApE×Int×Int×Int×Int×Int×Int×Int×Int×Int×Int×Int×Int×Int×Int×List UInt8×List ApH×Bool)).bind fun(ai,aj,ak,al,am,an,ao,ap,aq,ar,au,av,e,f,g,i,j,k,l,m,n,o,q,s,t,u)=>((if u then some (e==0) else some false:Option (Bool)).bind fun v=>(if v then some (f==0) else some false:Option (Bool)).bind fun w=>(if w then some (g==0) else some false:Option (Bool)).bind fun x=>(if x then some (i==0) else some false:Option (Bool)).bind fun y=>(if y then some (j==0) else some false:Option (Bool)).bind fun z=>(if z then some (k==0) else some false:Option (Bool)).bind fun aa=>(if aa then some (l==0) else some false:Option (Bool)).bind fun ab=>(if ab then some (m==0) else some false:Option (Bool)).bind fun ac=>(if ac then some (n==0) else some false:Option (Bool)).bind fun ad=>(if ad then some (o==0) else some false:Option (Bool)).bind fun ae=>(if ae then some (q==0) else some false:Option (Bool)).bind fun af=>some af:Option (Bool)).bind fun ag=>(if ag then if(s==([]:List UInt8))then some ((t.length:Int)==0) else some false else some false:Option (Bool)).bind fun ah=>some ah
def Gt(a:ApF)(b:ApI):Option (Int) :=(B5 a).bind fun c=>if(c != 0)then some c else ((Fa b).bind fun d=>if(!d)then some true else (Ep a b).bind fun e=>some (!e):Option (Bool)).bind fun f=>if f then some 110 else some 0
def E5(b:UInt64)(c:List UInt8)(a:ApJ):Option (Bool) :=(if(decide ((c.length:Int)>65536))then some true else if(decide (a.C≥(1152921504606845399:UInt64)))then some true else if(decide (a.S≥(1152921504606845399:UInt64)))then some true else (F4 b).bind fun d=>some (!d):Option (Bool)).bind fun e=>if e then some false else (E9 (2305843009213690799:UInt64)).bind fun f=>(F8 (4:UInt64) a.S).bind fun g=>(F8 b ((1152921504606845399:UInt64)-a.C)).bind fun i=>(CJ g i f).bind fun j=>(D8 j.1 b c).bind fun k=>some (k==a.C)
def E8(b:ApF)(a:ApK):Option (Int) :=(B5 b).bind fun d=>if(d != 0)then some d else (if(decide (a.Zb<0))then some true else if(decide (a.Zb≥(b.Zk1.length:Int)))then some true else if(decide (a.No<1))then some true else if(decide (a.No>4096))then some true else if(decide (a.Zw1<0))then some true else if(decide (a.Zw1>1073741824))then some true else some (decide ((AgG a.Sig.C a.Sig.S)≥(1152921504606845399:UInt64))):Option (Bool)).bind fun f=>if f then some 1 else (Gt b a.Zx1).bind fun e=>if(e != 0)then some e else (Gm a).bind fun c=>if(c.2 != 0)then some c.2 else if InR a.Zb b.Zk1.length then (E5 ((nth b.Zk1 a.Zb.toNat).Key) c.1 a.Sig).bind fun g=>if(!g)then some 31 else some 0 else none
def EN(a:Int):Option (Bool) :=some (a != a)
def Df(a:Int)(b:Int):Option (Int) :=(EN a).bind fun d=>(EN b).bind fun c=>if d then if c then some 0 else some (-1) else if c then some 1 else if(decide (a<b))then some (-1) else if(decide (a>b))then some 1 else some 0
def Gq(a:List UInt8)(b:List UInt8):Option (Int):=OQ a b
def Ff(a:List UInt8)(b:List UInt8):Option (Int) :=(Gq a b).bind fun c=>some c
def Bl(s1_7111:List ApN)(s2_7112:List ApN)(c:ApN→ApN→Option (Int))(a:Int):Option ((Int)⊕((Unit)⊕((Unit)⊕(Int)))) :=if (decide (a<(s1_7111.length:Int)))then if InR a s1_7111.length then lt1 ((nth s1_7111 a.toNat).Za) fun(d:Int)=>lt1 ((nth s1_7111 a.toNat).N) fun(e:Int)=>lt1 ((nth s1_7111 a.toNat).B) fun(f:List UInt8)=>lt1 ((nth s1_7111 a.toNat).L) fun(g:List ApN)=>if(decide (a≥(s2_7112.length:Int)))then ((some 1).bind fun i=>some (.inr i)).bind fun j=>some (.inr (.inr j)) else if InR a s2_7112.length then lt1 ((nth s2_7112 a.toNat).Za) fun(k:Int)=>lt1 ((nth s2_7112 a.toNat).N) fun(l:Int)=>lt1 ((nth s2_7112 a.toNat).B) fun(m:List UInt8)=>lt1 ((nth s2_7112 a.toNat).L) fun(n:List ApN)=>(c (ApN.mk d e f g) (ApN.mk k l m n)).bind fun b=>if(b != 0)then ((some b).bind fun o=>some (.inr o)).bind fun p=>some (.inr (.inr p)) else some (.inl (w64 (a+1))) else none else none else some (.inr (.inl ()))
def BX(b:ApN→ApN→Option (Int))(s1_7111:List ApN)(s2_7112:List ApN)(a:ApN→ApN→Option (Int)):Option (Int) :=((Ax (fun(v:Int)=>Bl s1_7111 s2_7112 a v) 0).bind fun x=>match x with
 |.inl ()=>some (.inl ())
 |.inr z=>some z:Option ((Unit)⊕(Int))).bind fun x=>match x with
 | .inl ()=>if(decide ((s1_7111.length:Int)<(s2_7112.length:Int)))then some (-1) else some 0
 |.inr z=>some z
def DD(rec_:ApN→ApN→Option (Int))(a:ApN)(b:ApN):Option (Int) :=(Df a.Za b.Za).bind fun c=>if(c != 0)then some c else if(a.Za==1)then (Df a.N b.N).bind fun d=>some d else if(a.Za==2)then (Ff a.B b.B).bind fun e=>some e else if(a.Za==3)then (BX rec_ a.L b.L rec_).bind fun f=>some f else some 0
def DJ(n:Nat):ApN→ApN→Option (Int):=match n with
 |0=>fun _ _=>none
 |n+1=>DD (DJ n)
def FZ(a:ApN)(b:ApN):Option (Int):=DJ 18446744073709551616 a b
def H5(a:ApK)(b:ApK):Option (Bool) :=(if (a.Zb==b.Zb)then if (a.No==b.No)then if(a.Zv1==b.Zv1)then if(a.Zw1==b.Zw1)then some ((a.Sig.C==b.Sig.C)&&(a.Sig.S==b.Sig.S)) else some false else some false else some false else some false:Option (Bool)).bind fun c=>(if c then (G2 a.Zx1).bind fun d=>(G2 b.Zx1).bind fun e=>(FZ d e).bind fun f=>some (f==0) else some false:Option (Bool)).bind fun g=>some g
def EJ(b:List ApK)(a:ApK):Option (Int) :=if(decide (a.No>(w64 ((b.length:Int)+1))))then some 140 else (if (decide (a.No>1))then if InR (w64 (a.No-2)) b.length then (DQ (nth b ((w64 (a.No-2)).toNat))).bind fun c=>(if(c.2 != 0)then some true else if InR (w64 (a.No-2)) b.length then some (decide (a.Zw1<(nth b ((w64 (a.No-2)).toNat)).Zw1)) else none:Option (Bool)).bind fun d=>if d then (some 140).bind fun e=>some (.inr e) else some (.inl c.1) else none else some (.inl (Arr.rep 32 (0:UInt8))):Option ((Arr UInt8 32)⊕(Int))).bind fun x=>match x with
  | .inl f=>if(!(f==a.Zv1))then some 140 else (if (!((a.Zx1.Ref.Zb==0)&&(a.Zx1.Ref.No==0)))then if(a.Zx1.Ref.Zb != a.Zb)then some true else if(decide (a.Zx1.Ref.No<1))then some true else if(decide (a.Zx1.Ref.No≥a.No))then some true else if InR (w64 (a.Zx1.Ref.No-1)) b.length then some (!(((((nth b ((w64 (a.Zx1.Ref.No-1)).toNat)).Zx1).Ref).Zb==0)&&((((nth b ((w64 (a.Zx1.Ref.No-1)).toNat)).Zx1).Ref).No==0))) else none else some false:Option (Bool)).bind fun g=>if g then some 110 else some 0
  |.inr z=>some z
def DK(a:List ApK):Option (List ApK) :=if Dt (0+a.length) 224 then lt1 (([]:List ApK)++a) fun(b:List ApK)=>some b else none
def Fk(b:ApL)(a:ApK):Option (Bool×ApK) :=(if(b.A.Zb==a.Zb)then some (b.A.No==a.No) else some false:Option (Bool)).bind fun c=>some (c,a)
def AL(c:List ApL)(b:Int)(d:Int)(e:Int)(f:Arr UInt8 32)(g:Int)(i:Int)(j:Int)(k:Int)(l:Int)(m:Int)(n:Int)(o:Int)(p:Int)(q:Int)(s:Int)(t:Int)(u:Int)(v:Int)(w:Int)(x:List UInt8)(y:List ApH)(z:UInt64)(aa:UInt64):Option ((Int×Int×Int×Arr UInt8 32×Int×Int×Int×Int×Int×Int×Int×Int×Int×Int×Int×Int×Int×Int×Int×List UInt8×List ApH×UInt64×UInt64)⊕((Int×Int×Arr UInt8 32×Int×Int×Int×Int×Int×Int×Int×Int×Int×Int×Int×Int×Int×Int×Int×List UInt8×List ApH×UInt64×UInt64)⊕((Int×Int×Arr UInt8 32×Int×Int×Int×Int×Int×Int×Int×Int×Int×Int×Int×Int×Int×Int×Int×List UInt8×List ApH×UInt64×UInt64)⊕(Int×ApK)))) :=if (decide (b<(c.length:Int)))then if InR b c.length then (Fk ({ A:=(nth c b.toNat).A,B:=(nth c b.toNat).B }:ApL) ({ Zb:=d,No:=e,Zv1:=f,Zw1:=g,Zx1:=({ Za:=i,Ref:=({ Zb:=j,No:=k }:ApG),Zn1:=l,Zb1:=m,Zc:=n,Zo1:=o,Zw:=p,To:=q,Code:=s,Zp1:=t,Zq1:=u,Zr1:=v,Zs1:=w,Zt1:=x,Zu1:=y }:ApI),Sig:=({ C:=z,S:=aa }:ApJ) }:ApK)).bind fun a=>if a.1=true then ((some (b,a.2)).bind fun ab=>some (.inr ab)).bind fun ac=>some (.inr (.inr ac)) else some (.inl ((w64 (b+1)),a.2.Zb,a.2.No,a.2.Zv1,a.2.Zw1,a.2.Zx1.Za,a.2.Zx1.Ref.Zb,a.2.Zx1.Ref.No,a.2.Zx1.Zn1,a.2.Zx1.Zb1,a.2.Zx1.Zc,a.2.Zx1.Zo1,a.2.Zx1.Zw,a.2.Zx1.To,a.2.Zx1.Code,a.2.Zx1.Zp1,a.2.Zx1.Zq1,a.2.Zx1.Zr1,a.2.Zx1.Zs1,a.2.Zx1.Zt1,a.2.Zx1.Zu1,a.2.Sig.C,a.2.Sig.S)) else none else some (.inr (.inl (d,e,f,g,i,j,k,l,m,n,o,p,q,s,t,u,v,w,x,y,z,aa)))
def BV(b:List ApL)(a:ApK):Option (Int×ApK) :=((Ax (fun(v:Int×Int×Int×Arr UInt8 32×Int×Int×Int×Int×Int×Int×Int×Int×Int×Int×Int×Int×Int×Int×Int×List UInt8×List ApH×UInt64×UInt64)=>AL b v.1 v.2.1 v.2.2.1 v.2.2.2.1 v.2.2.2.2.1 v.2.2.2.2.2.1 v.2.2.2.2.2.2.1 v.2.2.2.2.2.2.2.1 v.2.2.2.2.2.2.2.2.1 v.2.2.2.2.2.2.2.2.2.1 v.2.2.2.2.2.2.2.2.2.2.1 v.2.2.2.2.2.2.2.2.2.2.2.1 v.2.2.2.2.2.2.2.2.2.2.2.2.1 v.2.2.2.2.2.2.2.2.2.2.2.2.2.1 v.2.2.2.2.2.2.2.2.2.2.2.2.2.2.1 v.2.2.2.2.2.2.2.2.2.2.2.2.2.2.2.1 v.2.2.2.2.2.2.2.2.2.2.2.2.2.2.2.2.1 v.2.2.2.2.2.2.2.2.2.2.2.2.2.2.2.2.2.1 v.2.2.2.2.2.2.2.2.2.2.2.2.2.2.2.2.2.2.1 v.2.2.2.2.2.2.2.2.2.2.2.2.2.2.2.2.2.2.2.1 v.2.2.2.2.2.2.2.2.2.2.2.2.2.2.2.2.2.2.2.2.1 v.2.2.2.2.2.2.2.2.2.2.2.2.2.2.2.2.2.2.2.2.2.1 v.2.2.2.2.2.2.2.2.2.2.2.2.2.2.2.2.2.2.2.2.2.2) (0,a.Zb,a.No,a.Zv1,a.Zw1,a.Zx1.Za,a.Zx1.Ref.Zb,a.Zx1.Ref.No,a.Zx1.Zn1,a.Zx1.Zb1,a.Zx1.Zc,a.Zx1.Zo1,a.Zx1.Zw,a.Zx1.To,a.Zx1.Code,a.Zx1.Zp1,a.Zx1.Zq1,a.Zx1.Zr1,a.Zx1.Zs1,a.Zx1.Zt1,a.Zx1.Zu1,a.Sig.C,a.Sig.S)).bind fun x=>match x with
 |.inl (c,d,e,f,g,i,j,k,l,m,n,o,p,q,s,t,u,w,y,aa,ab,ac)=>some (.inl (c,d,e,f,g,i,j,k,l,m,n,o,p,q,s,t,u,w,y,aa,ab,ac))
 |.inr z=>some z:Option ((Int×Int×Arr UInt8 32×Int×Int×Int×Int×Int×Int×Int×Int×Int×Int×Int×Int×Int×Int×Int×List UInt8×List ApH×UInt64×UInt64)⊕(Int×ApK))).bind fun x=>match x with
 |.inl (ad,ae,af,ag,ah,ai,aj,ak,al,am,an,ao,ap,aq,ar,au,av,aw,ax,ay,az,aA)=>some ((-1),({ Zb:=ad,No:=ae,Zv1:=af,Zw1:=ag,Zx1:=({ Za:=ah,Ref:=({ Zb:=ai,No:=aj }:ApG),Zn1:=ak,Zb1:=al,Zc:=am,Zo1:=an,Zw:=ao,To:=ap,Code:=aq,Zp1:=ar,Zq1:=au,Zr1:=av,Zs1:=aw,Zt1:=ax,Zu1:=ay }:ApI),Sig:=({ C:=az,S:=aA }:ApJ) }:ApK))
 |.inr z=>some z
def Bh(b:List ApL)(c:ApK):Option (Bool×ApK) :=(BV b c).bind fun a=>some ((decide (a.1≥0)),a.2)
def DH(a:List ApL):Option (List ApL) :=if Dt (0+a.length) 448 then lt1 (([]:List ApL)++a) fun(b:List ApL)=>some b else none
def Bb(d:ApF)(a:ApM)(b:ApK):Option (ApM×Int) :=(E8 d b).bind fun f=>if(f != 0)then some (({ Zy1:=[],Zz1:=[] }:ApM),f) else (Gl a b.Zb).bind fun c=>(if(decide (b.No≤(c.length:Int)))then if InR (w64 (b.No-1)) c.length then (H5 (nth c ((w64 (b.No-1)).toNat)) b).bind fun m=>some m else none else some false:Option (Bool)).bind fun n=>if n then some (a,0) else (EJ c b).bind fun g=>if(g != 0)then some (({ Zy1:=[],Zz1:=[] }:ApM),g) else if (b.No==(w64 ((c.length:Int)+1)))then if Mk (JT (a.Zy1.length:Int) (d.Zk1.length:Int)) (JT (a.Zy1.length:Int) (d.Zk1.length:Int)) 24 then lt1 (List.replicate ((JT (a.Zy1.length:Int) (d.Zk1.length:Int)).toNat) ([])) fun(i:List (List ApK))=>lt1 (ovl i (a.Zy1.take (min a.Zy1.length i.length)) 0) fun(j:List (List ApK))=>(DK c).bind fun k=>if Dt (k.length+1) 224 then if InR b.Zb j.length then lt1 (j.set b.Zb.toNat (k++([b]:List ApK))) fun(o:List (List ApK))=>some (({ Zy1:=o,Zz1:=a.Zz1 }:ApM),0) else none else none else none else ((Bh a.Zz1 b).bind fun e=>if (!e.1)then (DH a.Zz1).bind fun l=>if InR (w64 (e.2.No-1)) c.length then if Dt (l.length+1) 448 then lt1 (l++([({ A:=nth c ((w64 (e.2.No-1)).toNat),B:=e.2 }:ApL)]:List ApL)) fun(p:List ApL)=>some p else none else none else some a.Zz1:Option (List ApL)).bind fun q=>some (({ Zy1:=a.Zy1,Zz1:=q }:ApM),0)
def BE(c : ApF)(m:ApM)(a:Int)(n:UInt64)(e:Int)(f:ApI):Option (ApK×Int) :=(B5 c).bind fun o=>if(o != 0)then some (({ Zb:=0,No:=0,Zv1:=(Arr.rep 32 (0:UInt8)),Zw1:=0,Zx1:=({ Za:=0,Ref:=({ Zb:=0,No:=0 }:ApG),Zn1:=0,Zb1:=0,Zc:=0,Zo1:=0,Zw:=0,To:=0,Code:=0,Zp1:=0,Zq1:=0,Zr1:=0,Zs1:=0,Zt1:=([]:List UInt8),Zu1:=[] }:ApI),Sig:=({ C:=(0:UInt64),S:=(0:UInt64) }:ApJ) }:ApK),o) else (if(decide (a<0))then some true else some (decide (a≥(c.Zk1.length:Int))):Option (Bool)).bind fun q=>if q then some (({ Zb:=0,No:=0,Zv1:=(Arr.rep 32 (0:UInt8)),Zw1:=0,Zx1:=({ Za:=0,Ref:=({ Zb:=0,No:=0 }:ApG),Zn1:=0,Zb1:=0,Zc:=0,Zo1:=0,Zw:=0,To:=0,Code:=0,Zp1:=0,Zq1:=0,Zr1:=0,Zs1:=0,Zt1:=([]:List UInt8),Zu1:=[] }:ApI),Sig:=({ C:=(0:UInt64),S:=(0:UInt64) }:ApJ) }:ApK),1) else (HX n).bind fun g=>if(g.2 != 0)then some (({ Zb:=0,No:=0,Zv1:=(Arr.rep 32 (0:UInt8)),Zw1:=0,Zx1:=({ Za:=0,Ref:=({ Zb:=0,No:=0 }:ApG),Zn1:=0,Zb1:=0,Zc:=0,Zo1:=0,Zw:=0,To:=0,Code:=0,Zp1:=0,Zq1:=0,Zr1:=0,Zs1:=0,Zt1:=([]:List UInt8),Zu1:=[] }:ApI),Sig:=({ C:=(0:UInt64),S:=(0:UInt64) }:ApJ) }:ApK),g.2) else if InR a c.Zk1.length then if(g.1 != (nth c.Zk1 a.toNat).Key)then some (({ Zb:=0,No:=0,Zv1:=(Arr.rep 32 (0:UInt8)),Zw1:=0,Zx1:=({ Za:=0,Ref:=({ Zb:=0,No:=0 }:ApG),Zn1:=0,Zb1:=0,Zc:=0,Zo1:=0,Zw:=0,To:=0,Code:=0,Zp1:=0,Zq1:=0,Zr1:=0,Zs1:=0,Zt1:=([]:List UInt8),Zu1:=[] }:ApI),Sig:=({ C:=(0:UInt64),S:=(0:UInt64) }:ApJ) }:ApK),30) else (Gl m a).bind fun b=>lt1 (w64 ((b.length:Int)+1)) fun(i:Int)=>(if(decide ((b.length:Int)>0))then if InR (w64 ((b.length:Int)-1)) b.length then (DQ (nth b ((w64 ((b.length:Int)-1)).toNat))).bind fun j=>if(j.2 != 0)then (some (({ Zb:=0,No:=0,Zv1:=(Arr.rep 32 (0:UInt8)),Zw1:=0,Zx1:=({ Za:=0,Ref:=({ Zb:=0,No:=0 }:ApG),Zn1:=0,Zb1:=0,Zc:=0,Zo1:=0,Zw:=0,To:=0,Code:=0,Zp1:=0,Zq1:=0,Zr1:=0,Zs1:=0,Zt1:=([]:List UInt8),Zu1:=[] }:ApI),Sig:=({ C:=(0:UInt64),S:=(0:UInt64) }:ApJ) }:ApK),j.2)).bind fun s=>some (.inr s) else some (.inl j.1) else none else some (.inl (Arr.rep 32 (0:UInt8))):Option ((Arr UInt8 32)⊕(ApK×Int))).bind fun x=>match x with
      | .inl k=>(Gm ({ Zb:=a,No:=i,Zv1:=k,Zw1:=e,Zx1:=f,Sig:=({ C:=(0:UInt64),S:=(0:UInt64) }:ApJ) }:ApK)).bind fun l=>if(l.2 != 0)then some (({ Zb:=0,No:=0,Zv1:=(Arr.rep 32 (0:UInt8)),Zw1:=0,Zx1:=({ Za:=0,Ref:=({ Zb:=0,No:=0 }:ApG),Zn1:=0,Zb1:=0,Zc:=0,Zo1:=0,Zw:=0,To:=0,Code:=0,Zp1:=0,Zq1:=0,Zr1:=0,Zs1:=0,Zt1:=([]:List UInt8),Zu1:=[] }:ApI),Sig:=({ C:=(0:UInt64),S:=(0:UInt64) }:ApJ) }:ApK),l.2) else (Nn n l.1).bind fun d=>if(d.2 != 0)then some (({ Zb:=0,No:=0,Zv1:=(Arr.rep 32 (0:UInt8)),Zw1:=0,Zx1:=({ Za:=0,Ref:=({ Zb:=0,No:=0 }:ApG),Zn1:=0,Zb1:=0,Zc:=0,Zo1:=0,Zw:=0,To:=0,Code:=0,Zp1:=0,Zq1:=0,Zr1:=0,Zs1:=0,Zt1:=([]:List UInt8),Zu1:=[] }:ApI),Sig:=({ C:=(0:UInt64),S:=(0:UInt64) }:ApJ) }:ApK),d.2) else (Bb c m ({ Zb:=a,No:=i,Zv1:=k,Zw1:=e,Zx1:=f,Sig:=d.1 }:ApK)).bind fun p=>if(p.2 != 0)then some (({ Zb:=0,No:=0,Zv1:=(Arr.rep 32 (0:UInt8)),Zw1:=0,Zx1:=({ Za:=0,Ref:=({ Zb:=0,No:=0 }:ApG),Zn1:=0,Zb1:=0,Zc:=0,Zo1:=0,Zw:=0,To:=0,Code:=0,Zp1:=0,Zq1:=0,Zr1:=0,Zs1:=0,Zt1:=([]:List UInt8),Zu1:=[] }:ApI),Sig:=({ C:=(0:UInt64),S:=(0:UInt64) }:ApJ) }:ApK),p.2) else some (({ Zb:=a,No:=i,Zv1:=k,Zw1:=e,Zx1:=f,Sig:=d.1 }:ApK),0)
      |.inr z=>some z else none
def B6(a : ApI)(b:UInt8):Option (Int) :=if(b==(119:UInt8))then some a.Zn1 else if(b==(112:UInt8))then some a.Zb1 else if(b==(111:UInt8))then some a.Zc else if(b==(110:UInt8))then some a.Zo1 else if(b==(102:UInt8))then some a.Zw else if(b==(116:UInt8))then some a.To else if(b==(99:UInt8))then some a.Code else if(b==(100:UInt8))then some a.Zp1 else if(b==(107:UInt8))then some a.Zq1 else if(b==(103:UInt8))then some a.Zr1 else some a.Zs1
def CG(b:List ApH)(c:List ApH)(a:Int):Option ((Int)⊕((Unit)⊕((Unit)⊕(Bool)))) :=if (decide (a<(b.length:Int)))then if InR a b.length then if InR a c.length then lt1 (!(((nth b a.toNat).Za==(nth c a.toNat).Za)&&(((nth b a.toNat).Zl1==(nth c a.toNat).Zl1)&&((nth b a.toNat).Zm1==(nth c a.toNat).Zm1)))) fun(d:Bool)=>if d then ((some false).bind fun e=>some (.inr e)).bind fun f=>some (.inr (.inr f)) else some (.inl (w64 (a+1))) else none else none else some (.inr (.inl ()))
def EY(a:List ApH)(b:List ApH):Option (Bool) :=if((a.length:Int) != (b.length:Int))then some false else ((Ax (fun(v:Int)=>CG a b v) 0).bind fun x=>match x with
  |.inl ()=>some (.inl ())
  |.inr z=>some z:Option ((Unit)⊕(Bool))).bind fun x=>match x with
  |.inl ()=>some true
  |.inr z=>some z
def Fz(b:ApI)(c:ApI)(a:Int):Option ((Int)⊕((Unit)⊕((Unit)⊕(Bool)))) :=if (decide (a<11))then if InR a (([119,112,111,110,102,116,99,100,107,103,97]:List UInt8).length)then (B6 b (nth ([119,112,111,110,102,116,99,100,107,103,97]:List UInt8) a.toNat)).bind fun d=>if InR a (([119,112,111,110,102,116,99,100,107,103,97]:List UInt8).length)then (B6 c (nth ([119,112,111,110,102,116,99,100,107,103,97]:List UInt8) a.toNat)).bind fun e=>if(d != e)then ((some false).bind fun f=>some (.inr f)).bind fun g=>some (.inr (.inr g)) else some (.inl (w64 (a+1))) else none else none else some (.inr (.inl ()))
def JV(a:ApI)(b:ApI):Option (Bool) :=((Ax (fun(v:Int)=>Fz a b v) 0).bind fun x=>match x with
 |.inl ()=>some (.inl ())
 |.inr z=>some z:Option ((Unit)⊕(Bool))).bind fun x=>match x with
 | .inl ()=>(if(a.Za==b.Za)then if((a.Ref.Zb==b.Ref.Zb)&&(a.Ref.No==b.Ref.No))then if(a.Zt1==b.Zt1)then (EY a.Zu1 b.Zu1).bind fun c=>some c else some false else some false else some false:Option (Bool)).bind fun d=>some d
 |.inr z=>some z
def CS(a:ApK)(b:ApK):Option (Bool) :=(if (a.Zb==b.Zb)then if (a.No==b.No)then if (a.Zv1==b.Zv1)then if(a.Zw1==b.Zw1)then if((a.Sig.C==b.Sig.C)&&(a.Sig.S==b.Sig.S))then (JV a.Zx1 b.Zx1).bind fun c=>some c else some false else some false else some false else some false else some false:Option (Bool)).bind fun d=>some d
def D7(b:List ApK)(c:List ApK)(a:Int):Option ((Int)⊕((Unit)⊕((Unit)⊕(Bool)))) :=if (decide (a<(b.length:Int)))then if InR a b.length then if InR a c.length then (CS (nth b a.toNat) (nth c a.toNat)).bind fun d=>if(!d)then ((some false).bind fun e=>some (.inr e)).bind fun f=>some (.inr (.inr f)) else some (.inl (w64 (a+1))) else none else none else some (.inr (.inl ()))
def Fq(a:List ApK)(b:List ApK):Option (Bool) :=if((a.length:Int) != (b.length:Int))then some false else ((Ax (fun(v:Int)=>D7 a b v) 0).bind fun x=>match x with
  |.inl ()=>some (.inl ())
  |.inr z=>some z:Option ((Unit)⊕(Bool))).bind fun x=>match x with
  |.inl ()=>some true
  |.inr z=>some z
def J9(b:ApM)(c:ApM)(a:Int):Option ((Int)⊕((Unit)⊕((Unit)⊕(Bool)))) :=if (decide (a<(b.Zy1.length:Int)))then if InR a b.Zy1.length then if InR a c.Zy1.length then (Fq (nth b.Zy1 a.toNat) (nth c.Zy1 a.toNat)).bind fun d=>if(!d)then ((some false).bind fun e=>some (.inr e)).bind fun f=>some (.inr (.inr f)) else some (.inl (w64 (a+1))) else none else none else some (.inr (.inl ()))
def JK(b:ApM)(c:ApM)(a:Int):Option ((Int)⊕((Unit)⊕((Unit)⊕(Bool)))) :=if (decide (a<(b.Zz1.length:Int)))then (if InR a b.Zz1.length then if InR a c.Zz1.length then (CS ((nth b.Zz1 a.toNat).A) ((nth c.Zz1 a.toNat).A)).bind fun d=>if(!d)then some true else if InR a b.Zz1.length then if InR a c.Zz1.length then (CS ((nth b.Zz1 a.toNat).B) ((nth c.Zz1 a.toNat).B)).bind fun e=>some (!e) else none else none else none else none:Option (Bool)).bind fun f=>if f then ((some false).bind fun g=>some (.inr g)).bind fun i=>some (.inr (.inr i)) else some (.inl (w64 (a+1))) else some (.inr (.inl ()))
def JR(a:ApM)(b:ApM):Option (Bool) :=(if((a.Zy1.length:Int) != (b.Zy1.length:Int))then some true else some ((a.Zz1.length:Int) != (b.Zz1.length:Int)):Option (Bool)).bind fun c=>if c then some false else ((Ax (fun(v:Int)=>J9 a b v) 0).bind fun x=>match x with
  |.inl ()=>some (.inl ())
  |.inr z=>some z:Option ((Unit)⊕(Bool))).bind fun x=>match x with
  | .inl ()=>((Ax (fun(v:Int)=>JK a b v) 0).bind fun x=>match x with
   |.inl ()=>some (.inl ())
   |.inr z=>some z:Option ((Unit)⊕(Bool))).bind fun x=>match x with
   |.inl ()=>some true
   |.inr z=>some z
  |.inr z=>some z
def Ha(b:ApM)(e:Int)(c:Int)(a:Int):Option ((Int×Int)⊕(Int)) :=if (decide (a<(b.Zz1.length:Int)))then (if InR a b.Zz1.length then lt1 (((nth b.Zz1 a.toNat).A).Zb) fun(f:Int)=>lt1 (((nth b.Zz1 a.toNat).A).No) fun(d:Int)=>lt1 (((nth b.Zz1 a.toNat).A).Zv1) fun(j:Arr UInt8 32)=>lt1 (((nth b.Zz1 a.toNat).A).Zw1) fun(k:Int)=>lt1 ((((nth b.Zz1 a.toNat).A).Zx1).Za) fun(l:Int)=>lt1 (((((nth b.Zz1 a.toNat).A).Zx1).Ref).Zb) fun(m:Int)=>lt1 (((((nth b.Zz1 a.toNat).A).Zx1).Ref).No) fun(n:Int)=>lt1 ((((nth b.Zz1 a.toNat).A).Zx1).Zn1) fun(o:Int)=>lt1 ((((nth b.Zz1 a.toNat).A).Zx1).Zb1) fun(p:Int)=>lt1 ((((nth b.Zz1 a.toNat).A).Zx1).Zc) fun(q:Int)=>lt1 ((((nth b.Zz1 a.toNat).A).Zx1).Zo1) fun(s:Int)=>lt1 ((((nth b.Zz1 a.toNat).A).Zx1).Zw) fun(t:Int)=>lt1 ((((nth b.Zz1 a.toNat).A).Zx1).To) fun(u:Int)=>lt1 ((((nth b.Zz1 a.toNat).A).Zx1).Code) fun(v:Int)=>lt1 ((((nth b.Zz1 a.toNat).A).Zx1).Zp1) fun(w:Int)=>lt1 ((((nth b.Zz1 a.toNat).A).Zx1).Zq1) fun(x:Int)=>lt1 ((((nth b.Zz1 a.toNat).A).Zx1).Zr1) fun(y:Int)=>lt1 ((((nth b.Zz1 a.toNat).A).Zx1).Zs1) fun(z:Int)=>lt1 ((((nth b.Zz1 a.toNat).A).Zx1).Zt1) fun(aa:List UInt8)=>lt1 ((((nth b.Zz1 a.toNat).A).Zx1).Zu1) fun(ab:List ApH)=>lt1 ((((nth b.Zz1 a.toNat).A).Sig).C) fun(ac:UInt64)=>lt1 ((((nth b.Zz1 a.toNat).A).Sig).S) fun(ad:UInt64)=>lt1 (((nth b.Zz1 a.toNat).B).Zb) fun(ae:Int)=>lt1 (((nth b.Zz1 a.toNat).B).No) fun(af:Int)=>lt1 (((nth b.Zz1 a.toNat).B).Zv1) fun(ag:Arr UInt8 32)=>lt1 (((nth b.Zz1 a.toNat).B).Zw1) fun(ah:Int)=>lt1 ((((nth b.Zz1 a.toNat).B).Zx1).Za) fun(ai:Int)=>lt1 (((((nth b.Zz1 a.toNat).B).Zx1).Ref).Zb) fun(aj:Int)=>lt1 (((((nth b.Zz1 a.toNat).B).Zx1).Ref).No) fun(ak:Int)=>lt1 ((((nth b.Zz1 a.toNat).B).Zx1).Zn1) fun(al:Int)=>lt1 ((((nth b.Zz1 a.toNat).B).Zx1).Zb1) fun(am:Int)=>lt1 ((((nth b.Zz1 a.toNat).B).Zx1).Zc) fun(an:Int)=>lt1 ((((nth b.Zz1 a.toNat).B).Zx1).Zo1) fun(ao:Int)=>lt1 ((((nth b.Zz1 a.toNat).B).Zx1).Zw) fun(ap:Int)=>lt1 ((((nth b.Zz1 a.toNat).B).Zx1).To) fun(aq:Int)=>lt1 ((((nth b.Zz1 a.toNat).B).Zx1).Code) fun(ar:Int)=>lt1 ((((nth b.Zz1 a.toNat).B).Zx1).Zp1) fun(au:Int)=>lt1 ((((nth b.Zz1 a.toNat).B).Zx1).Zq1) fun(av:Int)=>lt1 ((((nth b.Zz1 a.toNat).B).Zx1).Zr1) fun(aw:Int)=>lt1 ((((nth b.Zz1 a.toNat).B).Zx1).Zs1) fun(ax:Int)=>lt1 ((((nth b.Zz1 a.toNat).B).Zx1).Zt1) fun(ay:List UInt8)=>lt1 ((((nth b.Zz1 a.toNat).B).Zx1).Zu1) fun(az:List ApH)=>lt1 ((((nth b.Zz1 a.toNat).B).Sig).C) fun(aA:UInt64)=>lt1 ((((nth b.Zz1 a.toNat).B).Sig).S) fun(aB:UInt64)=>(if(f==e)then if(decide (d≥1))then if(c==0)then some true else some (decide (d<c)) else some false else some false:Option (Bool)).bind fun g=>if g then some d else some c else none:Option (Int)).bind fun i=>some (.inl (i,(w64 (a+1)))) else some (.inr c)
def Dn(a:ApM)(b:Int):Option (Int) :=((Ax (fun(v:Int×Int)=>Ha a b v.1 v.2) (0,0)).bind fun c=>some c:Option (Int)).bind fun d=>some d
def G6(c:ApM)(a:Int)(d:List (List ApK)):Option ((Int×List (List ApK))⊕(List (List ApK))) :=if (decide (a<(c.Zy1.length:Int)))then if InR a c.Zy1.length then lt1 (nth c.Zy1 a.toNat) fun(b:List ApK)=>((Dn c a).bind fun e=>if(decide (e>0))then if InB (Pm (w64 (e-1)) (b.length:Int)) b.length then lt1 (b.take ((Pm (w64 (e-1)) (b.length:Int)).toNat)) fun(f:List ApK)=>some f else none else some b:Option (List ApK)).bind fun g=>if Dt (d.length+1) 24 then lt1 (d++([g]:List (List ApK))) fun(i:List (List ApK))=>some (.inl ((w64 (a+1)),i)) else none else none else some (.inr d)
def Il(a:ApM):Option (ApM) :=((Ax (fun(v:Int×List (List ApK))=>G6 a v.1 v.2) (0,[])).bind fun b=>some b:Option (List (List ApK))).bind fun c=>some ({ Zy1:=c,Zz1:=[] }:ApM)
def Mb(a:ApM):Option (ApM) :=some a
def Gz(b:List ((Int×Int)×ApP))(c:Int)(d:Int)(a:ApK):Option (List ((Int×Int)×ApP)) :=(if(!((a.Zx1.Ref.Zb==0)&&(a.Zx1.Ref.No==0)))then some (a.Zx1.Ref.Zb==c) else some false:Option (Bool)).bind fun e=>if e then if Tg a.Zx1.Ref.Zb a.Zx1.Ref.No then lt1 (AkV b (a.Zx1.Ref.Zb,a.Zx1.Ref.No) ({ Ref:=a.Zx1.Ref,By:=({ Zb:=c,No:=d }:ApG),Zw1:=a.Zw1,Zx1:=a.Zx1 }:ApP)) fun(f:List ((Int×Int)×ApP))=>some f else none else some b
def G9(c:List ((Int×Int)×ApP))(e:List ApP)(a:Int)(b:Int)(d:ApK):Option (List ApP) :=lt1 (!((d.Zx1.Ref.Zb==0)&&(d.Zx1.Ref.No==0))) fun(g:Bool)=>if g then some e else if Tg a b then lt1 ((FW c (a,b)).isSome) fun(i:Bool)=>lt1 ((((FW c (a,b)).getD CN).Ref).Zb) fun(j:Int)=>lt1 ((((FW c (a,b)).getD CN).Ref).No) fun(k:Int)=>lt1 ((((FW c (a,b)).getD CN).By).Zb) fun(l:Int)=>lt1 ((((FW c (a,b)).getD CN).By).No) fun(m:Int)=>lt1 (((FW c (a,b)).getD CN).Zw1) fun(n:Int)=>lt1 ((((FW c (a,b)).getD CN).Zx1).Za) fun(f:Int)=>lt1 (((((FW c (a,b)).getD CN).Zx1).Ref).Zb) fun(o:Int)=>lt1 (((((FW c (a,b)).getD CN).Zx1).Ref).No) fun(p:Int)=>lt1 ((((FW c (a,b)).getD CN).Zx1).Zn1) fun(q:Int)=>lt1 ((((FW c (a,b)).getD CN).Zx1).Zb1) fun(s:Int)=>lt1 ((((FW c (a,b)).getD CN).Zx1).Zc) fun(t:Int)=>lt1 ((((FW c (a,b)).getD CN).Zx1).Zo1) fun(u:Int)=>lt1 ((((FW c (a,b)).getD CN).Zx1).Zw) fun(v:Int)=>lt1 ((((FW c (a,b)).getD CN).Zx1).To) fun(w:Int)=>lt1 ((((FW c (a,b)).getD CN).Zx1).Code) fun(y:Int)=>lt1 ((((FW c (a,b)).getD CN).Zx1).Zp1) fun(aa:Int)=>lt1 ((((FW c (a,b)).getD CN).Zx1).Zq1) fun(ab:Int)=>lt1 ((((FW c (a,b)).getD CN).Zx1).Zr1) fun(ac:Int)=>lt1 ((((FW c (a,b)).getD CN).Zx1).Zs1) fun(ad:Int)=>lt1 ((((FW c (a,b)).getD CN).Zx1).Zt1) fun(ae:List UInt8)=>lt1 ((((FW c (a,b)).getD CN).Zx1).Zu1) fun(af:List ApH)=>(if(!i)then some (.inl (a,b,a,b,d.Zw1,d.Zx1.Za,d.Zx1.Ref.Zb,d.Zx1.Ref.No,d.Zx1.Zn1,d.Zx1.Zb1,d.Zx1.Zc,d.Zx1.Zo1,d.Zx1.Zw,d.Zx1.To,d.Zx1.Code,d.Zx1.Zp1,d.Zx1.Zq1,d.Zx1.Zr1,d.Zx1.Zs1,d.Zx1.Zt1,d.Zx1.Zu1)) else if(f==14)then (some e).bind fun ag=>some (.inr ag) else some (.inl (j,k,l,m,n,f,o,p,q,s,t,u,v,w,y,aa,ab,ac,ad,ae,af)):Option ((Int×Int×Int×Int×Int×Int×Int×Int×Int×Int×Int×Int×Int×Int×Int×Int×Int×Int×Int×List UInt8×List ApH)⊕(List ApP))).bind fun x=>match x with
   | .inl (ah,ai,aj,ak,al,am,aD,aE,an,ao,ap,aq,ar,au,av,aw,ax,ay,az,aA,aB)=>if Dt (e.length+1) 192 then lt1 (e++([({ Ref:=({ Zb:=ah,No:=ai }:ApG),By:=({ Zb:=aj,No:=ak }:ApG),Zw1:=al,Zx1:=({ Za:=am,Ref:=({ Zb:=0,No:=0 }:ApG),Zn1:=an,Zb1:=ao,Zc:=ap,Zo1:=aq,Zw:=ar,To:=au,Code:=av,Zp1:=aw,Zq1:=ax,Zr1:=ay,Zs1:=az,Zt1:=aA,Zu1:=aB }:ApI) }:ApP)]:List ApP)) fun(aC:List ApP)=>some aC else none
   |.inr z=>some z else none
def BF(b:ApM):Option (List ApP) :=(Il b).bind fun a=>(Mb a).bind fun c=>(Ai6 (fun(v:List ((Int×Int)×ApP)) (q:ApG) (r:ApK)=>Gz v q.Zb q.No r) c.Zy1 ([])).bind fun d=>(Mb a).bind fun e=>(Ai6 (fun(v:List ApP) (q:ApG) (r:ApK)=>G9 d v q.Zb q.No r) e.Zy1 ([])).bind fun f=>some f
def law14_sane  : Option (Bool) :=r14_Example.bind fun b=>(C7 1).bind fun j=>(BE b ({ Zy1:=[],Zz1:=[] }:ApM) 0 (7:UInt64) 5 j).bind fun c=>(Bb b ({ Zy1:=[],Zz1:=[] }:ApM) c.1).bind fun a=>(Bb b a.1 c.1).bind fun e=>(C7 1).bind fun k=>(BE b a.1 0 (7:UInt64) 4 k).bind fun l=>(C7 2).bind fun m=>(BE b ({ Zy1:=[],Zz1:=[] }:ApM) 0 (7:UInt64) 5 m).bind fun f=>(Bb b a.1 f.1).bind fun d=>(C7 1).bind fun n=>(BE b ({ Zy1:=[],Zz1:=[] }:ApM) 0 (8:UInt64) 5 n).bind fun o=>(BE b a.1 0 (7:UInt64) 6 ({ Za:=14,Ref:=({ Zb:=0,No:=1 }:ApG),Zn1:=0,Zb1:=0,Zc:=0,Zo1:=0,Zw:=0,To:=0,Code:=0,Zp1:=0,Zq1:=0,Zr1:=0,Zs1:=0,Zt1:=([]:List UInt8),Zu1:=[] }:ApI)).bind fun g=>(Bb b a.1 g.1).bind fun i=>(BE b ({ Zy1:=[],Zz1:=[] }:ApM) 0 (7:UInt64) 5 ({ Za:=14,Ref:=({ Zb:=0,No:=1 }:ApG),Zn1:=0,Zb1:=0,Zc:=0,Zo1:=0,Zw:=0,To:=0,Code:=0,Zp1:=0,Zq1:=0,Zr1:=0,Zs1:=0,Zt1:=([]:List UInt8),Zu1:=[] }:ApI)).bind fun p=>(if (c.2 == 0)then if (c.1.No==1)then if (c.1.Zv1==(⟨[(0:UInt8),0,0,0,0,0,0,0,0,0,0,0,0,0,0,0,0,0,0,0,0,0,0,0,0,0,0,0,0,0,0,0],rfl⟩:Arr UInt8 32))then if (a.2==0)then if ((a.1.Zy1.length:Int)==2)then if InR 0 a.1.Zy1.length then if (((nth a.1.Zy1 0).length:Int)==1)then if(e.2==0)then (JR e.1 a.1).bind fun q=>if q then some (l.2==140) else some false else some false else some false else none else some false else some false else some false else some false else some false:Option (Bool)).bind fun s=>(if (f.2==0)then if (d.2==0)then if ((d.1.Zz1.length:Int)==1)then (Dn d.1 0).bind fun t=>if (t==1)then (Dn a.1 0).bind fun u=>if(u==0)then (BF d.1).bind fun v=>if((v.length:Int)==0)then (BF a.1).bind fun w=>some ((w.length:Int)==1) else some false else some false else some false else some false else some false else some false:Option (Bool)).bind fun x=>(if s = true then if x = true then if (o.2==30)then if (g.2==0)then if(i.2==0)then (BF i.1).bind fun y=>if((y.length:Int)==0)then some (p.2==110) else some false else some false else some false else some false else some false else some false:Option (Bool)).bind fun z=>some z
def FN(b:ApF)(a:Int):Option ((Int)⊕((Unit)⊕((Unit)⊕(Bool)))) :=(if(decide (a<(b.Zk1.length:Int)))then some (decide (a<5)) else some false:Option (Bool)).bind fun c=>if c then if InR a b.Zk1.length then lt1 (decide (((((nth b.Zk1 a.toNat).Zf1).Ze1).length:Int)>5)) fun(d:Bool)=>if d then ((some false).bind fun e=>some (.inr e)).bind fun f=>some (.inr (.inr f)) else some (.inl (w64 (a+1))) else none else some (.inr (.inl ()))
def H7(a:ApF):Option (Bool) :=((Ax (fun(v:Int)=>FN a v) 0).bind fun x=>match x with
 |.inl ()=>some (.inl ())
 |.inr z=>some z:Option ((Unit)⊕(Bool))).bind fun x=>match x with
 | .inl ()=>(if(decide ((a.Zg1.Ze.length:Int)≤20))then some (decide ((a.Zg1.Zf.length:Int)≤20)) else some false:Option (Bool)).bind fun b=>(if(decide ((a.Zh1.Zy.length:Int)≤20))then if(decide ((a.Zh1.Zx.length:Int)≤20))then if(decide ((a.Zh1.Zz.length:Int)≤20))then some (decide ((a.Zh1.Za1.length:Int)≤20)) else some false else some false else some false:Option (Bool)).bind fun c=>(if b then if c then if(decide ((a.Zi1.length:Int)≤20))then if(decide ((a.Zj1.length:Int)≤20))then some (decide ((a.Zk1.length:Int)≤4)) else some false else some false else some false else some false:Option (Bool)).bind fun d=>some d
 |.inr z=>some z
def Dm(a:ApI):Option (Bool) :=(if(decide ((a.Zt1.length:Int)≤1000))then some (decide ((a.Zu1.length:Int)≤20)) else some false:Option (Bool)).bind fun b=>some b
def CT(a:ApM)(b:Int)(c:Int):Option ((Int)⊕((Unit)⊕((Unit)⊕((Int)⊕((Unit)⊕((Unit)⊕(Bool))))))) :=if InR b a.Zy1.length then lt1 (decide (c<((nth a.Zy1 b.toNat).length:Int))) fun(d:Bool)=>if d then if InR b a.Zy1.length then if InR c ((nth a.Zy1 b.toNat).length)then (Dm ((nth (nth a.Zy1 b.toNat) c.toNat).Zx1)).bind fun e=>if(!e)then ((((some false).bind fun f=>some (.inr f)).bind fun g=>some (.inr (.inr g))).bind fun i=>some (.inr i)).bind fun j=>some (.inr (.inr j)) else some (.inl (w64 (c+1))) else none else none else some (.inr (.inl ())) else none
def D4(b:ApM)(a:Int):Option ((Int)⊕((Unit)⊕((Unit)⊕(Bool)))) :=if (decide (a<(b.Zy1.length:Int)))then (if InR a b.Zy1.length then lt1 (decide (((nth b.Zy1 a.toNat).length:Int)>12)) fun(c:Bool)=>if c then (((some false).bind fun d=>some (.inr d)).bind fun e=>some (.inr (.inr e))).bind fun f=>some (.inr f) else (Ax (fun(v:Int)=>CT b a v) 0).bind fun x=>match x with
    |.inl ()=>some (.inl ())
    |.inr z=>some z else none:Option ((Unit)⊕((Int)⊕((Unit)⊕((Unit)⊕(Bool)))))).bind fun x=>match x with
  |.inl ()=>some (.inl (w64 (a+1)))
  |.inr z=>some z else some (.inr (.inl ()))
def D5(b:ApM)(a:Int):Option ((Int)⊕((Unit)⊕((Unit)⊕(Bool)))) :=if (decide (a<(b.Zz1.length:Int)))then (if InR a b.Zz1.length then (Dm (((nth b.Zz1 a.toNat).A).Zx1)).bind fun c=>if(!c)then some true else if InR a b.Zz1.length then (Dm (((nth b.Zz1 a.toNat).B).Zx1)).bind fun d=>some (!d) else none else none:Option (Bool)).bind fun e=>if e then ((some false).bind fun f=>some (.inr f)).bind fun g=>some (.inr (.inr g)) else some (.inl (w64 (a+1))) else some (.inr (.inl ()))
def F2(a:ApM):Option (Bool) :=(if(decide ((a.Zy1.length:Int)>4))then some true else some (decide ((a.Zz1.length:Int)>6)):Option (Bool)).bind fun b=>if b then some false else ((Ax (fun(v:Int)=>D4 a v) 0).bind fun x=>match x with
  |.inl ()=>some (.inl ())
  |.inr z=>some z:Option ((Unit)⊕(Bool))).bind fun x=>match x with
  | .inl ()=>((Ax (fun(v:Int)=>D5 a v) 0).bind fun x=>match x with
   |.inl ()=>some (.inl ())
   |.inr z=>some z:Option ((Unit)⊕(Bool))).bind fun x=>match x with
   |.inl ()=>some true
   |.inr z=>some z
  |.inr z=>some z
def C2(a:Int)(b:Int)(c:Int):Option (Bool) :=(if(decide (b≤a))then some (decide (a≤c)) else some false:Option (Bool)).bind fun d=>some d
def FD(a:Aps):Option (Bool) :=((C2 a.Za 1 5).bind fun b=>if(!b)then some true else (C2 a.Zb 0 15).bind fun c=>some (!c):Option (Bool)).bind fun d=>if d then some false else if(a.Za==3)then ((C2 a.Zc 0 15).bind fun e=>if e then some (a.Zc != a.Zb) else some false:Option (Bool)).bind fun f=>some f else some (a.Zc==(-1))
def HD(a:Apt)(b:Int):Option (Bool) :=((C2 a.A 0 (w64 (b-1))).bind fun c=>if c = true then (C2 a.B 0 (w64 (b-1))).bind fun d=>if d then if (a.A != a.B)then (C2 a.Zb 0 15).bind fun e=>if e then (C2 a.Zd 1 100000).bind fun f=>if f then (C2 a.Km 0 10000).bind fun g=>some g else some false else some false else some false else some false else some false:Option (Bool)).bind fun i=>some i
def DU(b:Apu)(a:Int):Option ((Int)⊕((Unit)⊕((Unit)⊕(Int)))) :=if (decide (a<(b.Ze.length:Int)))then if InR a b.Ze.length then (FD (nth b.Ze a.toNat)).bind fun c=>if(!c)then ((some 1).bind fun d=>some (.inr d)).bind fun e=>some (.inr (.inr e)) else some (.inl (w64 (a+1))) else none else some (.inr (.inl ()))
def DL(a:Apu)(b:Int):Option ((Int)⊕((Unit)⊕((Unit)⊕(Int)))) :=if (decide (b<(a.Zf.length:Int)))then if InR b a.Zf.length then (HD (nth a.Zf b.toNat) (a.Ze.length:Int)).bind fun c=>if(!c)then ((some 1).bind fun d=>some (.inr d)).bind fun e=>some (.inr (.inr e)) else some (.inl (w64 (b+1))) else none else some (.inr (.inl ()))
def ID(a:Apu):Option (Int) :=(if(decide ((a.Ze.length:Int)>512))then some true else some (decide ((a.Zf.length:Int)>2048)):Option (Bool)).bind fun b=>if b then some 2 else ((Ax (fun(v:Int)=>DU a v) 0).bind fun x=>match x with
  |.inl ()=>some (.inl ())
  |.inr z=>some z:Option ((Unit)⊕(Int))).bind fun x=>match x with
  | .inl ()=>((Ax (fun(v:Int)=>DL a v) 0).bind fun x=>match x with
   |.inl ()=>some (.inl ())
   |.inr z=>some z:Option ((Unit)⊕(Int))).bind fun x=>match x with
   |.inl ()=>some 0
   |.inr z=>some z
  |.inr z=>some z
def AU(a:Int)(b:Int)(c:Int):Option (Bool) :=(if(decide (a≥b))then some (decide (a≤c)) else some false:Option (Bool)).bind fun d=>some d
def Dl(a:Apv):Option (Bool) :=((AU a.Zg 0 1000000).bind fun b=>if b = true then (AU a.Zh 0 1000000).bind fun c=>if c = true then (AU a.Zi 0 1000000).bind fun d=>if d then (AU a.Zk 0 1000000).bind fun e=>if e then (AU a.Zj 0 7).bind fun f=>if f then (AU a.Zm 1 1073741824).bind fun g=>if g then (AU a.Zn 0 100).bind fun i=>some i else some false else some false else some false else some false else some false else some false:Option (Bool)).bind fun j=>some j
def CP(a:Apw)(b:Int):Option (Bool) :=((AU a.Zo 0 (w64 (b-1))).bind fun c=>if c then (AU a.Zp 0 63).bind fun d=>if d then (AU a.Zq 0 511).bind fun e=>if e then (AU a.Zr 0 1073741824).bind fun f=>if f then (AU a.Zs 0 1099511627776).bind fun g=>some g else some false else some false else some false else some false:Option (Bool)).bind fun i=>some i
def Fh(d:List Apy)(a:Int)(e:List Bool):Option ((Int×List Bool)⊕((Unit)⊕((Unit)⊕(Int)))) :=if (decide (a<(d.length:Int)))then if InR a d.length then lt1 ((nth d a.toNat).Zw) fun(b:Int)=>lt1 ((nth d a.toNat).To) fun(c:Int)=>lt1 ((nth d a.toNat).Zd) fun(f:Int)=>((AU b 0 63).bind fun g=>if(!g)then some true else (AU c 0 63).bind fun i=>if(!i)then some true else if(b==c)then some true else (AU f 0 100000).bind fun j=>some (!j):Option (Bool)).bind fun k=>if k then ((some 1).bind fun l=>some (.inr l)).bind fun m=>some (.inr (.inr m)) else if InR (w64 ((w64 (64*b))+c)) e.length then if nth e ((w64 ((w64 (64*b))+c)).toNat)=true then ((some 1).bind fun n=>some (.inr n)).bind fun o=>some (.inr (.inr o)) else if InR (w64 ((w64 (64*b))+c)) e.length then lt1 (e.set ((w64 ((w64 (64*b))+c)).toNat) true) fun(p:List Bool)=>some (.inl ((w64 (a+1)),p)) else none else none else none else some (.inr (.inl ()))
def Hq(a:List Apy):Option (Int) :=if Mk 4096 4096 1 then lt1 (List.replicate 4096 false) fun(b:List Bool)=>((Ax (fun(v:Int×List Bool)=>Fh a v.1 v.2) (0,b)).bind fun x=>match x with
  |.inl ()=>some (.inl ())
  |.inr z=>some z:Option ((Unit)⊕(Int))).bind fun x=>match x with
  |.inl ()=>some 0
  |.inr z=>some z else none
def DM(b:Apz)(a:Int):Option ((Int)⊕((Unit)⊕((Unit)⊕(Int)))) :=if (decide (a<(b.Zx.length:Int)))then if InR a b.Zx.length then (Dl (nth b.Zx a.toNat)).bind fun c=>if(!c)then ((some 1).bind fun d=>some (.inr d)).bind fun e=>some (.inr (.inr e)) else some (.inl (w64 (a+1))) else none else some (.inr (.inl ()))
def DG(a:Apz)(b:Int):Option ((Int)⊕((Unit)⊕((Unit)⊕(Int)))) :=if (decide (b<(a.Zy.length:Int)))then if InR b a.Zy.length then (CP (nth a.Zy b.toNat) (a.Zx.length:Int)).bind fun c=>if(!c)then ((some 1).bind fun d=>some (.inr d)).bind fun e=>some (.inr (.inr e)) else some (.inl (w64 (b+1))) else none else some (.inr (.inl ()))
def DF(a:Apz)(b:Int):Option ((Int)⊕((Unit)⊕((Unit)⊕(Int)))) :=if (decide (b<(a.Zz.length:Int)))then if InR b a.Zz.length then lt1 ((nth a.Zz b.toNat).Zt) fun(c:Int)=>lt1 ((nth a.Zz b.toNat).Zu) fun(d:Int)=>lt1 ((nth a.Zz b.toNat).Zv) fun(e:Int)=>((AU c 0 (w64 ((a.Zx.length:Int)-1))).bind fun f=>if(!f)then some true else (AU d 0 (w64 ((a.Zx.length:Int)-1))).bind fun g=>if(!g)then some true else if(c==d)then some true else (AU e 0 1000000000).bind fun i=>some (!i):Option (Bool)).bind fun j=>if j then ((some 1).bind fun k=>some (.inr k)).bind fun l=>some (.inr (.inr l)) else some (.inl (w64 (b+1))) else none else some (.inr (.inl ()))
def IE(a:Apz):Option (Int) :=(if(decide ((a.Zx.length:Int)>32))then some true else if(decide ((a.Zy.length:Int)>4096))then some true else if(decide ((a.Zz.length:Int)>1024))then some true else some (decide ((a.Za1.length:Int)>4096)):Option (Bool)).bind fun b=>if b then some 2 else ((Ax (fun(v:Int)=>DM a v) 0).bind fun x=>match x with
  |.inl ()=>some (.inl ())
  |.inr z=>some z:Option ((Unit)⊕(Int))).bind fun x=>match x with
  | .inl ()=>((Ax (fun(v:Int)=>DG a v) 0).bind fun x=>match x with
   |.inl ()=>some (.inl ())
   |.inr z=>some z:Option ((Unit)⊕(Int))).bind fun x=>match x with
   | .inl ()=>((Ax (fun(v:Int)=>DF a v) 0).bind fun x=>match x with
    |.inl ()=>some (.inl ())
    |.inr z=>some z:Option ((Unit)⊕(Int))).bind fun x=>match x with
    |.inl ()=>(Hq a.Za1).bind fun c=>some c
    |.inr z=>some z
   |.inr z=>some z
  |.inr z=>some z
def ED(b:ApF)(e:Int)(a:Int):Option ((Int)⊕((Unit)⊕((Unit)⊕(Bool)))) :=if (decide (a<(b.Zi1.length:Int)))then if InR a b.Zi1.length then lt1 ((nth b.Zi1 a.toNat).Zb1) fun(f:Int)=>lt1 ((nth b.Zi1 a.toNat).Low) fun(c:Int)=>lt1 ((nth b.Zi1 a.toNat).Zc1) fun(d:Int)=>((AU f 0 (w64 (e-1))).bind fun g=>if(!g)then some true else if(decide (c<(-1000)))then some true else if(decide (d<c))then some true else some (decide (d>1000)):Option (Bool)).bind fun i=>if i then ((some false).bind fun j=>some (.inr j)).bind fun k=>some (.inr (.inr k)) else some (.inl (w64 (a+1))) else none else some (.inr (.inl ()))
def E7(a:ApF)(c:Int)(b:Int):Option ((Int)⊕((Unit)⊕((Unit)⊕(Bool)))) :=if (decide (b<(a.Zj1.length:Int)))then (if InR b a.Zj1.length then (AU ((nth a.Zj1 b.toNat).Zb1) 0 (w64 (c-1))).bind fun d=>if(!d)then some true else if InR b a.Zj1.length then if InR ((nth a.Zj1 b.toNat).Zb1) a.Zg1.Ze.length then some ((nth a.Zg1.Ze (((nth a.Zj1 b.toNat).Zb1).toNat)).Za != 4) else none else none else none:Option (Bool)).bind fun e=>if e then ((some false).bind fun f=>some (.inr f)).bind fun g=>some (.inr (.inr g)) else some (.inl (w64 (b+1))) else some (.inr (.inl ()))
def EB(b:ApF)(c:Int)(a:Int):Option ((Int)⊕((Unit)⊕((Unit)⊕(Bool)))) :=if (decide (a<(b.Zh1.Zy.length:Int)))then if InR a b.Zh1.Zy.length then lt1 (decide ((nth b.Zh1.Zy a.toNat).Zq≥c)) fun(d:Bool)=>if d then ((some false).bind fun e=>some (.inr e)).bind fun f=>some (.inr (.inr f)) else some (.inl (w64 (a+1))) else none else some (.inr (.inl ()))
def Ka(a:ApF):Option (Bool) :=lt1 (a.Zg1.Ze.length:Int) fun(b:Int)=>((Ax (fun(v:Int)=>ED a b v) 0).bind fun x=>match x with
 |.inl ()=>some (.inl ())
 |.inr z=>some z:Option ((Unit)⊕(Bool))).bind fun x=>match x with
 | .inl ()=>((Ax (fun(v:Int)=>E7 a b v) 0).bind fun x=>match x with
  |.inl ()=>some (.inl ())
  |.inr z=>some z:Option ((Unit)⊕(Bool))).bind fun x=>match x with
  | .inl ()=>((Ax (fun(v:Int)=>EB a b v) 0).bind fun x=>match x with
   |.inl ()=>some (.inl ())
   |.inr z=>some z:Option ((Unit)⊕(Bool))).bind fun x=>match x with
   |.inl ()=>some true
   |.inr z=>some z
  |.inr z=>some z
 |.inr z=>some z
def Ed(b:ApF)(c:Int)(a:Int):Option ((Int)⊕((Unit)⊕((Unit)⊕(Bool)))) :=if (decide (a<(b.Zg1.Ze.length:Int)))then if InR a b.Zg1.Ze.length then lt1 ((nth b.Zg1.Ze a.toNat).Za) fun(j:Int)=>lt1 ((nth b.Zg1.Ze a.toNat).Zb) fun(d:Int)=>lt1 ((nth b.Zg1.Ze a.toNat).Zc) fun(e:Int)=>(if(decide (d≥c))then some true else some (decide (e≥c)):Option (Bool)).bind fun f=>if f then ((some false).bind fun g=>some (.inr g)).bind fun i=>some (.inr (.inr i)) else some (.inl (w64 (a+1))) else none else some (.inr (.inl ()))
def DX(b:ApF)(c:Int)(a:Int):Option ((Int)⊕((Unit)⊕((Unit)⊕(Bool)))) :=if (decide (a<(b.Zg1.Zf.length:Int)))then if InR a b.Zg1.Zf.length then lt1 (decide ((nth b.Zg1.Zf a.toNat).Zb≥c)) fun(d:Bool)=>if d then ((some false).bind fun e=>some (.inr e)).bind fun f=>some (.inr (.inr f)) else some (.inl (w64 (a+1))) else none else some (.inr (.inl ()))
def I8(a:ApF):Option (Bool) :=lt1 (a.Zk1.length:Int) fun(b:Int)=>((Ax (fun(v:Int)=>Ed a b v) 0).bind fun x=>match x with
 |.inl ()=>some (.inl ())
 |.inr z=>some z:Option ((Unit)⊕(Bool))).bind fun x=>match x with
 | .inl ()=>((Ax (fun(v:Int)=>DX a b v) 0).bind fun x=>match x with
  |.inl ()=>some (.inl ())
  |.inr z=>some z:Option ((Unit)⊕(Bool))).bind fun x=>match x with
  |.inl ()=>some true
  |.inr z=>some z
 |.inr z=>some z
def DE(b:ApD)(a:Int):Option ((Int)⊕((Unit)⊕((Unit)⊕(Int)))) :=if (decide (a<(b.Ze1.length:Int)))then if InR a b.Ze1.length then lt1 (nth b.Ze1 a.toNat) fun(c:Int)=>(if(decide (c<0))then some true else if(decide (c>745654))then some true else if(decide (a>0))then if InR (w64 (a-1)) b.Ze1.length then some (decide (nth b.Ze1 ((w64 (a-1)).toNat)≥c)) else none else some false:Option (Bool)).bind fun d=>if d then ((some 1).bind fun e=>some (.inr e)).bind fun f=>some (.inr (.inr f)) else some (.inl (w64 (a+1))) else none else some (.inr (.inl ()))
def FE(a:ApD):Option (Int) :=lt1 a.Zd1.2.2.2.2.1.Zw fun(b:Int)=>lt1 a.Zd1.2.2.2.2.2.1.Zw fun(c:Int)=>lt1 a.Zd1.2.2.2.2.2.1.To fun(d:Int)=>lt1 a.Zd1.2.2.2.2.2.2.Zw fun(e:Int)=>lt1 a.Zd1.2.2.2.2.2.2.To fun(f:Int)=>((if(decide (a.Zd1.1.Zw<0))then some true else if(decide (a.Zd1.1.To<a.Zd1.1.Zw))then some true else some (decide (a.Zd1.1.To>1440)):Option (Bool)).bind fun g=>if g then (some 1).bind fun i=>some (.inr i) else (if(decide (a.Zd1.2.1.Zw<0))then some true else if(decide (a.Zd1.2.1.To<a.Zd1.2.1.Zw))then some true else some (decide (a.Zd1.2.1.To>1440)):Option (Bool)).bind fun j=>if j then (some 1).bind fun k=>some (.inr k) else (if(decide (a.Zd1.2.2.1.Zw<0))then some true else if(decide (a.Zd1.2.2.1.To<a.Zd1.2.2.1.Zw))then some true else some (decide (a.Zd1.2.2.1.To>1440)):Option (Bool)).bind fun l=>if l then (some 1).bind fun m=>some (.inr m) else (if(decide (a.Zd1.2.2.2.1.Zw<0))then some true else if(decide (a.Zd1.2.2.2.1.To<a.Zd1.2.2.2.1.Zw))then some true else some (decide (a.Zd1.2.2.2.1.To>1440)):Option (Bool)).bind fun n=>if n then (some 1).bind fun o=>some (.inr o) else (if(decide (b<0))then some true else if(decide (a.Zd1.2.2.2.2.1.To<b))then some true else some (decide (a.Zd1.2.2.2.2.1.To>1440)):Option (Bool)).bind fun p=>if p then (some 1).bind fun q=>some (.inr q) else (if(decide (c<0))then some true else if(decide (d<c))then some true else some (decide (d>1440)):Option (Bool)).bind fun s=>if s then (some 1).bind fun t=>some (.inr t) else (if(decide (e<0))then some true else if(decide (f<e))then some true else some (decide (f>1440)):Option (Bool)).bind fun u=>if u then (some 1).bind fun w=>some (.inr w) else some (.inl ()):Option ((Unit)⊕(Int))).bind fun x=>match x with
 | .inl ()=>((Ax (fun(v:Int)=>DE a v) 0).bind fun x=>match x with
  |.inl ()=>some (.inl ())
  |.inr z=>some z:Option ((Unit)⊕(Int))).bind fun x=>match x with
  |.inl ()=>some 0
  |.inr z=>some z
 |.inr z=>some z
def Gu(a:UInt64):Option (Bool) :=(if(decide (a≥(2:UInt64)))then if(decide (a<(2305843009213690799:UInt64)))then (Lm a (1152921504606845399:UInt64)).bind fun b=>some (b==(1:UInt64)) else some false else some false:Option (Bool)).bind fun c=>some c
def C0(b:ApF)(a:Int):Option ((Int)⊕((Unit)⊕((Unit)⊕(Int)))) :=if (decide (a<(b.Zk1.length:Int)))then (if InR a b.Zk1.length then (FE ({ Zd1:=((((nth b.Zk1 a.toNat).Zf1).Zd1).1,(((nth b.Zk1 a.toNat).Zf1).Zd1).2.1,(((nth b.Zk1 a.toNat).Zf1).Zd1).2.2.1,(((nth b.Zk1 a.toNat).Zf1).Zd1).2.2.2.1,(((nth b.Zk1 a.toNat).Zf1).Zd1).2.2.2.2.1,(((nth b.Zk1 a.toNat).Zf1).Zd1).2.2.2.2.2.1,(((nth b.Zk1 a.toNat).Zf1).Zd1).2.2.2.2.2.2),Ze1:=((nth b.Zk1 a.toNat).Zf1).Ze1 }:ApD)).bind fun c=>if(c != 0)then some true else if InR a b.Zk1.length then (Gu ((nth b.Zk1 a.toNat).Key)).bind fun d=>some (!d) else none else none:Option (Bool)).bind fun e=>if e then ((some 1).bind fun f=>some (.inr f)).bind fun g=>some (.inr (.inr g)) else some (.inl (w64 (a+1))) else some (.inr (.inl ()))
def El(a:ApF):Option (Int) :=(ID a.Zg1).bind fun b=>if(b != 0)then some b else (IE a.Zh1).bind fun c=>if(c != 0)then some c else (if(decide ((a.Zi1.length:Int)>256))then some true else if(decide ((a.Zj1.length:Int)>256))then some true else some (decide ((a.Zk1.length:Int)>16)):Option (Bool)).bind fun d=>if d then some 2 else ((Ka a).bind fun e=>if(!e)then some true else (I8 a).bind fun f=>some (!f):Option (Bool)).bind fun g=>if g then some 1 else ((Ax (fun(v:Int)=>C0 a v) 0).bind fun x=>match x with
     |.inl ()=>some (.inl ())
     |.inr z=>some z:Option ((Unit)⊕(Int))).bind fun x=>match x with
     | .inl ()=>if((a.Zk1.length:Int)==0)then some 1 else some 0
     |.inr z=>some z
def Gb(a : Int):Option (List UInt8) :=if(a==1)then some ([119,111,102]:List UInt8) else if(a==2)then some ([119,112,102,116]:List UInt8) else (if(a==3)then some (a==3) else some (a==4):Option (Bool)).bind fun b=>if b then some ([119,112,111,102,99]:List UInt8) else if(a==5)then some ([110,119,111,112,100,107,103,102]:List UInt8) else if(a==6)then some ([119,112,111,102,99]:List UInt8) else if(a==7)then some ([119,112,111,102]:List UInt8) else if(a==8)then some ([119,102,99]:List UInt8) else if(a==9)then some ([119,112,102,116,99,97,113]:List UInt8) else if(a==10)then some ([111,113]:List UInt8) else (if(a==11)then some (a==11) else some (a==12):Option (Bool)).bind fun c=>if c then some ([110,102,120]:List UInt8) else if(a==13)then some ([110,102]:List UInt8) else if(a==15)then some ([111,112,107,110,103,102,116,97]:List UInt8) else some ([]:List UInt8)
def A9(a:Int)(b:Int)(c:Int):Option (Bool) :=(if(decide (b≤a))then some (decide (a≤c)) else some false:Option (Bool)).bind fun d=>some d
def Ef(a:ApI):Option (Bool) :=if((a.Ref.Zb==0)&&(a.Ref.No==0))then some (a.Za != 14) else ((A9 a.Ref.Zb 0 15).bind fun b=>if b then (A9 a.Ref.No 1 4096).bind fun c=>some c else some false:Option (Bool)).bind fun d=>some d
def IP(b:List UInt8)(c:UInt8)(a:Int):Option ((Int)⊕((Unit)⊕((Unit)⊕(Bool)))) :=if (decide (a<(b.length:Int)))then if InR a b.length then if((nth b a.toNat)==c)then ((some true).bind fun d=>some (.inr d)).bind fun e=>some (.inr (.inr e)) else some (.inl (w64 (a+1))) else none else some (.inr (.inl ()))
def JX(a:List UInt8)(b:UInt8):Option (Bool) :=((Ax (fun(v:Int)=>IP a b v) 0).bind fun x=>match x with
 |.inl ()=>some (.inl ())
 |.inr z=>some z:Option ((Unit)⊕(Bool))).bind fun x=>match x with
 |.inl ()=>some false
 |.inr z=>some z
def Ox(b:ApF)(a:ApI):Option (Bool) :=(A9 a.Zb1 0 (w64 ((b.Zg1.Ze.length:Int)-1))).bind fun d=>if(!d)then some false else if InR a.Zb1 b.Zg1.Ze.length then lt1 ((nth b.Zg1.Ze a.Zb1.toNat).Za) fun(c:Int)=>(if(a.Za==3)then some (a.Za==3) else some (a.Za==4):Option (Bool)).bind fun e=>if e then some (c==3) else if(a.Za==9)then some (c==5) else some true else none
def OD(b:ApF)(a:ApI):Option (Bool) :=if(a.Za==1)then (A9 a.Zc 0 (w64 ((b.Zi1.length:Int)-1))).bind fun c=>some c else (if(a.Za==3)then some (a.Za==3) else some (a.Za==4):Option (Bool)).bind fun d=>if d then if InR a.Zb1 b.Zg1.Ze.length then lt1 ((nth b.Zg1.Ze a.Zb1.toNat).Za) fun(k:Int)=>lt1 ((nth b.Zg1.Ze a.Zb1.toNat).Zb) fun(e:Int)=>lt1 ((nth b.Zg1.Ze a.Zb1.toNat).Zc) fun(f:Int)=>(if(a.Zc==e)then some true else some (a.Zc==f):Option (Bool)).bind fun g=>some g else none else if(a.Za==10)then (A9 a.Zc 0 63).bind fun i=>some i else (A9 a.Zc 0 (w64 ((b.Zj1.length:Int)-1))).bind fun j=>some j
def Lu(b:ApF)(a:ApI):Option (Bool) :=if(a.Za==5)then (A9 a.Zo1 1 1000000000).bind fun c=>some c else if(a.Za==15)then (A9 a.Zo1 0 (w64 ((b.Zh1.Zx.length:Int)-1))).bind fun d=>some d else (A9 a.Zo1 1 6).bind fun e=>some e
def RJ(a:ApI):Option (Bool) :=(if(a.Za==3)then some (a.Za==3) else some (a.Za==4):Option (Bool)).bind fun b=>if b then (A9 a.Code 0 8).bind fun c=>some c else if(a.Za==6)then (A9 a.Code 0 1).bind fun d=>some d else if(a.Za==8)then (A9 a.Code 1 9).bind fun e=>some e else (A9 a.Code 1 2).bind fun f=>some f
def Ow(c : ApF)(a:ApI)(b:UInt8):Option (Bool) :=if(b==(119:UInt8))then (A9 a.Zn1 0 (w64 ((c.Zh1.Zy.length:Int)-1))).bind fun d=>some d else if(b==(112:UInt8))then (Ox c a).bind fun e=>some e else if(b==(111:UInt8))then (OD c a).bind fun f=>some f else if(b==(110:UInt8))then (Lu c a).bind fun g=>some g else if(b==(102:UInt8))then (A9 a.Zw 0 1073741824).bind fun i=>some i else if(b==(116:UInt8))then (A9 a.To a.Zw 1073741824).bind fun j=>some j else if(b==(99:UInt8))then (RJ a).bind fun k=>some k else if(b==(100:UInt8))then (A9 a.Zp1 0 (w64 ((c.Zg1.Ze.length:Int)-1))).bind fun l=>some l else if(b==(107:UInt8))then (A9 a.Zq1 0 63).bind fun m=>some m else if(b==(103:UInt8))then if(a.Za==15)then (A9 a.Zr1 1 1000).bind fun n=>some n else (A9 a.Zr1 0 1000000).bind fun o=>some o else (A9 a.Zs1 0 1000000000).bind fun p=>some p
def FH(a:ApI)(b:Int):Option ((Int)⊕((Unit)⊕((Unit)⊕(Bool)))) :=if (decide (b<(a.Zu1.length:Int)))then if InR b a.Zu1.length then lt1 ((nth a.Zu1 b.toNat).Za) fun(c:Int)=>lt1 ((nth a.Zu1 b.toNat).Zl1) fun(d:Int)=>lt1 ((nth a.Zu1 b.toNat).Zm1) fun(e:Bool)=>((A9 c 1 3).bind fun f=>if(!f)then some true else (A9 d 0 1073741824).bind fun g=>if(!g)then some true else if(a.Za==10)then some e else some false:Option (Bool)).bind fun i=>if i then ((some false).bind fun j=>some (.inr j)).bind fun k=>some (.inr (.inr k)) else some (.inl (w64 (b+1))) else none else some (.inr (.inl ()))
def Nt(a:ApI):Option (Bool) :=(if(decide ((a.Zu1.length:Int)>16))then some true else if(a.Za==10)then some ((a.Zu1.length:Int)==0) else some false:Option (Bool)).bind fun b=>if b then some false else ((Ax (fun(v:Int)=>FH a v) 0).bind fun x=>match x with
  |.inl ()=>some (.inl ())
  |.inr z=>some z:Option ((Unit)⊕(Bool))).bind fun x=>match x with
  |.inl ()=>some true
  |.inr z=>some z
def FC(e:ApF)(c:ApI)(d:List UInt8)(b:Int):Option ((Int)⊕((Unit)⊕((Unit)⊕(Bool)))) :=if (decide (b<11))then if InR b (([119,112,111,110,102,116,99,100,107,103,97]:List UInt8).length)then lt1 (nth ([119,112,111,110,102,116,99,100,107,103,97]:List UInt8) b.toNat) fun(a:UInt8)=>((JX d a).bind fun f=>if f then (Ow e c a).bind fun g=>if(!g)then some true else (JX d a).bind fun i=>if(!i)then (B6 c a).bind fun j=>some (j != 0) else some false else (JX d a).bind fun k=>if(!k)then (B6 c a).bind fun l=>some (l != 0) else some false:Option (Bool)).bind fun m=>if m then ((some false).bind fun n=>some (.inr n)).bind fun o=>some (.inr (.inr o)) else some (.inl (w64 (b+1))) else none else some (.inr (.inl ()))
def K0(c:ApF)(a:ApI):Option (Bool) :=(Gb a.Za).bind fun b=>((A9 a.Za 1 15).bind fun d=>if(!d)then some true else (Ef a).bind fun e=>some (!e):Option (Bool)).bind fun f=>if f then some false else ((Ax (fun(v:Int)=>FC c a b v) 0).bind fun x=>match x with
  |.inl ()=>some (.inl ())
  |.inr z=>some z:Option ((Unit)⊕(Bool))).bind fun x=>match x with
  | .inl ()=>((JX b (120:UInt8)).bind fun g=>if(!(g==(!(a.Zt1==([]:List UInt8)))))then some true else some (decide ((a.Zt1.length:Int)>2000)):Option (Bool)).bind fun i=>if i then some false else ((JX b (113:UInt8)).bind fun j=>if j then (Nt a).bind fun k=>if k then some true else if((a.Zu1.length:Int)==0)then (JX b (113:UInt8)).bind fun l=>some (!l) else some false else if((a.Zu1.length:Int)==0)then (JX b (113:UInt8)).bind fun m=>some (!m) else some false:Option (Bool)).bind fun n=>some n
  |.inr z=>some z
def HR(a:List UInt8):Option ((List UInt8)⊕(List UInt8)) :=if((((a.length:Int):Int).tmod 64) != 56)then if Dt (a.length+1) 1 then lt1 (a++([(0:UInt8)]:List UInt8)) fun(b:List UInt8)=>some (.inl b) else none else some (.inr a)
def Di(c:UInt64)(a:Int)(b:List UInt8):Option ((Int×List UInt8)⊕(List UInt8)) :=if (decide (a<8))then if DV (w64 (56-(w64 (8*a))))then if Dt (b.length+1) 1 then lt1 (b++([(CM c ((w64 (56-(w64 (8*a)))).toNat)).toUInt8]:List UInt8)) fun(d:List UInt8)=>some (.inl ((w64 (a+1)),d)) else none else none else some (.inr b)
def KO(a:List UInt8):Option (List UInt8) :=lt1 ([]:List UInt8) fun(b:List UInt8)=>if Dt (b.length+a.length) 1 then lt1 (b++a) fun(c:List UInt8)=>if Dt (c.length+1) 1 then lt1 (c++([(128:UInt8)]:List UInt8)) fun(d:List UInt8)=>((Ax (fun(v:List UInt8)=>HR v) d).bind fun e=>some e:Option (List UInt8)).bind fun f=>lt1 ((UInt64.ofInt (a.length:Int))*(8:UInt64)) fun(g:UInt64)=>((Ax (fun(v:Int×List UInt8)=>Di g v.1 v.2) (0,f)).bind fun i=>some i:Option (List UInt8)).bind fun j=>some j else none else none
def BW(b:UInt32)(a:Int):Option (UInt32) :=if DV a then if DV (w64 (32-a))then lt1 ((LX b a.toNat) ||| (OC b ((w64 (32-a)).toNat))) fun(c:UInt32)=>some c else none else none
def G7(b:List UInt8)(a:Int)(c:Arr UInt32 64):Option ((Int×Arr UInt32 64)⊕(Arr UInt32 64)) :=if (decide (a<16))then if InR (w64 (4*a)) b.length then if InR (w64 ((w64 (4*a))+1)) b.length then if InR (w64 ((w64 (4*a))+2)) b.length then if InR (w64 ((w64 (4*a))+3)) b.length then if InR a 64 then lt1 (c.set a.toNat ((((OC ((nth b ((w64 (4*a)).toNat)).toUInt32) (24:UInt64).toNat) ||| (OC ((nth b ((w64 ((w64 (4*a))+1)).toNat)).toUInt32) (16:UInt64).toNat)) ||| (OC ((nth b ((w64 ((w64 (4*a))+2)).toNat)).toUInt32) (8:UInt64).toNat)) ||| (nth b ((w64 ((w64 (4*a))+3)).toNat)).toUInt32)) fun(d:Arr UInt32 64)=>some (.inl ((w64 (a+1)),d)) else none else none else none else none else none else some (.inr c)
def Fc(a : Int)(b:Arr UInt32 64):Option ((Int×Arr UInt32 64)⊕(Arr UInt32 64)) :=if (decide (a<64))then if InR (w64 (a-15)) 64 then (BW (b.get ((w64 (a-15)).toNat)) 7).bind fun c=>if InR (w64 (a-15)) 64 then (BW (b.get ((w64 (a-15)).toNat)) 18).bind fun d=>if InR (w64 (a-15)) 64 then lt1 ((c ^^^ d) ^^^ (LX (b.get ((w64 (a-15)).toNat)) (3:UInt64).toNat)) fun(s0_13437:UInt32)=>if InR (w64 (a-2)) 64 then (BW (b.get ((w64 (a-2)).toNat)) 17).bind fun e=>if InR (w64 (a-2)) 64 then (BW (b.get ((w64 (a-2)).toNat)) 19).bind fun f=>if InR (w64 (a-2)) 64 then lt1 ((e ^^^ f) ^^^ (LX (b.get ((w64 (a-2)).toNat)) (10:UInt64).toNat)) fun(s1_13446:UInt32)=>if InR (w64 (a-16)) 64 then if InR (w64 (a-7)) 64 then if InR a 64 then lt1 (b.set a.toNat ((((b.get ((w64 (a-16)).toNat))+s0_13437)+(b.get ((w64 (a-7)).toNat)))+s1_13446)) fun(g:Arr UInt32 64)=>some (.inl ((w64 (a+1)),g)) else none else none else none else none else none else none else none else none else none else some (.inr b)
def IA(a:List UInt8):Option (Arr UInt32 64) :=lt1 (⟨[(0:UInt32),0,0,0,0,0,0,0,0,0,0,0,0,0,0,0,0,0,0,0,0,0,0,0,0,0,0,0,0,0,0,0,0,0,0,0,0,0,0,0,0,0,0,0,0,0,0,0,0,0,0,0,0,0,0,0,0,0,0,0,0,0,0,0],rfl⟩:Arr UInt32 64) fun(b:Arr UInt32 64)=>((Ax (fun(v:Int×Arr UInt32 64)=>G7 a v.1 v.2) (0,b)).bind fun c=>some c:Option (Arr UInt32 64)).bind fun d=>((Ax (fun(v:Int×Arr UInt32 64)=>Fc v.1 v.2) (16,d)).bind fun e=>some e:Option (Arr UInt32 64)).bind fun f=>some f
def r02_constants  : Option (Arr UInt32 64) :=lt1 (⟨[(1116352408:UInt32),1899447441,3049323471,3921009573,961987163,1508970993,2453635748,2870763221,3624381080,310598401,607225278,1426881987,1925078388,2162078206,2614888103,3248222580,3835390401,4022224774,264347078,604807628,770255983,1249150122,1555081692,1996064986,2554220882,2821834349,2952996808,3210313671,3336571891,3584528711,113926993,338241895,666307205,773529912,1294757372,1396182291,1695183700,1986661051,2177026350,2456956037,2730485921,2820302411,3259730800,3345764771,3516065817,3600352804,4094571909,275423344,430227734,506948616,659060556,883997877,958139571,1322822218,1537002063,1747873779,1955562222,2024104815,2227730452,2361852424,2428436474,2756734187,3204031479,3329325298],rfl⟩:Arr UInt32 64) fun(a:Arr UInt32 64)=>some a
def GP(c:Arr UInt32 64)(d:Arr UInt32 64)(b:Int)(a:Arr UInt32 8):Option ((Int×Arr UInt32 8)⊕(Arr UInt32 8)) :=if (decide (b<64))then (BW (a.get 4) 6).bind fun e=>(BW (a.get 4) 11).bind fun f=>(BW (a.get 4) 25).bind fun g=>lt1 ((e ^^^ f) ^^^ g) fun(s1_13750:UInt32)=>lt1 (((a.get 4) &&& (a.get 5)) ^^^ ((~~~(a.get 4)) &&& (a.get 6))) fun(i:UInt32)=>if InR b 64 then if InR b 64 then lt1 (((((a.get 7)+s1_13750)+i)+(d.get b.toNat))+(c.get b.toNat)) fun(t1_13761:UInt32)=>(BW (a.get 0) 2).bind fun j=>(BW (a.get 0) 13).bind fun k=>(BW (a.get 0) 22).bind fun l=>lt1 ((j ^^^ k) ^^^ l) fun(s0_13772:UInt32)=>lt1 ((((a.get 0) &&& (a.get 1)) ^^^ ((a.get 0) &&& (a.get 2))) ^^^ ((a.get 1) &&& (a.get 2))) fun(m:UInt32)=>lt1 (s0_13772+m) fun(t2_13782:UInt32)=>lt1 (⟨[(t1_13761+t2_13782),(a.get 0),(a.get 1),(a.get 2),((a.get 3)+t1_13761),(a.get 4),(a.get 5),(a.get 6)],rfl⟩:Arr UInt32 8) fun(n:Arr UInt32 8)=>some (.inl ((w64 (b+1)),n)) else none else none else some (.inr a)
def IL(c:Arr UInt32 8)(a:Int)(b:Arr UInt32 8):Option ((Int×Arr UInt32 8)⊕(Arr UInt32 8)) :=if (decide (a<8))then if InR a 8 then if InR a 8 then if InR a 8 then lt1 (b.set a.toNat ((b.get a.toNat)+(c.get a.toNat))) fun(d:Arr UInt32 8)=>some (.inl ((w64 (a+1)),d)) else none else none else none else some (.inr b)
def Ns(a:Arr UInt32 8)(b:List UInt8):Option (Arr UInt32 8) :=(IA b).bind fun c=>r02_constants.bind fun d=>((Ax (fun(v:Int×Arr UInt32 8)=>GP c d v.1 v.2) (0,a)).bind fun e=>some e:Option (Arr UInt32 8)).bind fun f=>((Ax (fun(v:Int×Arr UInt32 8)=>IL f v.1 v.2) (0,a)).bind fun g=>some g:Option (Arr UInt32 8)).bind fun i=>some i
def F6(b:List UInt8)(a:Int)(c:Arr UInt32 8):Option ((Int×Arr UInt32 8)⊕(Arr UInt32 8)) :=if (decide (a<(b.length:Int)))then if InB (w64 (a+64)) b.length then if InB a ((w64 (a+64)).toNat)then (Ns c ((b.drop a.toNat).take ((w64 (a+64)).toNat-a.toNat))).bind fun d=>some (.inl ((w64 (a+64)),d)) else none else none else some (.inr c)
def Lb(c:Arr UInt32 8)(a:Int)(b:Arr UInt8 32):Option ((Int×Arr UInt8 32)⊕(Arr UInt8 32)) :=if (decide (a<32))then if InR (w64 ((a:Int).tdiv 4)) 8 then if DV (w64 (24-(w64 (8*((a:Int).tmod 4)))))then if InR a 32 then lt1 (b.set a.toNat ((LX (c.get ((w64 ((a:Int).tdiv 4)).toNat)) ((w64 (24-(w64 (8*((a:Int).tmod 4))))).toNat)).toUInt8)) fun(d:Arr UInt8 32)=>some (.inl ((w64 (a+1)),d)) else none else none else none else some (.inr b)
def VI(a:List UInt8):Option (Arr UInt8 32) :=lt1 (⟨[(1779033703:UInt32),3144134277,1013904242,2773480762,1359893119,2600822924,528734635,1541459225],rfl⟩:Arr UInt32 8) fun(b:Arr UInt32 8)=>(KO a).bind fun c=>((Ax (fun(v:Int×Arr UInt32 8)=>F6 c v.1 v.2) (0,b)).bind fun d=>some d:Option (Arr UInt32 8)).bind fun e=>lt1 (⟨[(0:UInt8),0,0,0,0,0,0,0,0,0,0,0,0,0,0,0,0,0,0,0,0,0,0,0,0,0,0,0,0,0,0,0],rfl⟩:Arr UInt8 32) fun(f:Arr UInt8 32)=>((Ax (fun(v:Int×Arr UInt8 32)=>Lb e v.1 v.2) (0,f)).bind fun g=>some g:Option (Arr UInt8 32)).bind fun i=>some i
def YN(b:ApM)(a:Int):Option (List ApK) :=(if(decide (a<0))then some true else some (decide (a≥(b.Zy1.length:Int))):Option (Bool)).bind fun c=>if c then some ([]) else if InR a b.Zy1.length then some (nth b.Zy1 a.toNat) else none
def AG(b:ApM)(c:ApM×Int)(a:Int):Option ((Int)⊕((Unit)⊕((Unit)⊕(Bool)))) :=if (decide (a<(b.Zy1.length:Int)))then if InR a b.Zy1.length then lt1 ((nth b.Zy1 a.toNat).length:Int) fun(d:Int)=>(if InR a c.1.Zy1.length then if(decide (((nth c.1.Zy1 a.toNat).length:Int)<d))then some true else if InR a c.1.Zy1.length then if InB d ((nth c.1.Zy1 a.toNat).length)then if InR a b.Zy1.length then (Fq ((nth c.1.Zy1 a.toNat).take d.toNat) (nth b.Zy1 a.toNat)).bind fun e=>some (!e) else none else none else none else none:Option (Bool)).bind fun f=>if f then ((some false).bind fun g=>some (.inr g)).bind fun i=>some (.inr (.inr i)) else some (.inl (w64 (a+1))) else none else some (.inr (.inl ()))
def BB(b:ApF)(d:ApM)(a:ApK):Option (Bool) :=law14_sane.bind fun f=>if(!f)then some false else ((H7 b).bind fun g=>if(!g)then some true else (F2 d).bind fun i=>if(!i)then some true else (Dm a.Zx1).bind fun j=>some (!j):Option (Bool)).bind fun k=>if k then some true else (Bb b d a).bind fun c=>if(c.2 != 0)then lt1 ((w64 ((c.1.Zy1.length:Int)+(c.1.Zz1.length:Int)))==0) fun(l:Bool)=>some l else ((El b).bind fun m=>if(m != 0)then some true else if(decide (a.Zb<0))then some true else some (decide (a.Zb≥(b.Zk1.length:Int))):Option (Bool)).bind fun n=>if n then some false else (Gm a).bind fun e=>(if(e.2 != 0)then some true else if InR a.Zb b.Zk1.length then (E5 ((nth b.Zk1 a.Zb.toNat).Key) e.1 a.Sig).bind fun o=>if(!o)then some true else if(decide ((c.1.Zy1.length:Int)<(d.Zy1.length:Int)))then some true else some (decide ((c.1.Zz1.length:Int)<(d.Zz1.length:Int))) else none:Option (Bool)).bind fun p=>if p then some false else ((Ax (fun(v:Int)=>AG d c v) 0).bind fun x=>match x with
      |.inl ()=>some (.inl ())
      |.inr z=>some z:Option ((Unit)⊕(Bool))).bind fun x=>match x with
      |.inl ()=>some true
      |.inr z=>some z
end Go.Proofs.YtioapcamanmoiaaGreatDoor
