/-
  Part 46.
-/
import Derived.Test.YtioapcamanmoiaaGreatDoorProg
import Derived.Test.YtioapcamanmoiaaGreatDoorYR42
import Derived.Test.YtioapcamanmoiaaGreatDoorYR45
import Derived.KernelRfl
namespace Go.Proofs.YtioapcamanmoiaaGreatDoor
open Go.Rv
set_option linter.unusedVariables false
set_option linter.unusedSimpArgs false
set_option maxRecDepth 20000
def glob3:Arr UInt32 64:=⟨[1116352408,1899447441,3049323471,3921009573,961987163,1508970993,2453635748,2870763221,3624381080,310598401,607225278,1426881987,1925078388,2162078206,2614888103,3248222580,3835390401,4022224774,264347078,604807628,770255983,1249150122,1555081692,1996064986,2554220882,2821834349,2952996808,3210313671,3336571891,3584528711,113926993,338241895,666307205,773529912,1294757372,1396182291,1695183700,1986661051,2177026350,2456956037,2730485921,2820302411,3259730800,3345764771,3516065817,3600352804,4094571909,275423344,430227734,506948616,659060556,883997877,958139571,1322822218,1537002063,1747873779,1955562222,2024104815,2227730452,2361852424,2428436474,2756734187,3204031479,3329325298],rfl⟩
theorem An7:MpLaw Tryz.prog 138 44 143:=AcE (m:=6) (by kernel_rfl) (by decide) (by kernel_rfl) (by kernel_rfl) (by kernel_rfl) (fun a b h=>Agm (m:=254) ⟨"Railway", 3,0,false,"","", 0⟩ ⟨"No", 3,1,false,"","", 8⟩ (by kernel_rfl) (by kernel_rfl) (by kernel_rfl) (by kernel_rfl) (by kernel_rfl) (by kernel_rfl) (by kernel_rfl) rfl rfl (by decide) (by decide) (by kernel_rfl) h)
attribute [go_sem_proc] reduceIte Nat.reduceLT Nat.reduceEqDiff Nat.reduceAdd Nat.reduceBEq Nat.reduceMul Nat.reduceSub Nat.reduceGT Nat.reducePow Nat.reduceLeDiff Int.reduceToNat Int.reduceLT Int.reduceAdd Int.reduceSub Nat.reduceGT Nat.reduceLeDiff Int.reduceBEq Int.reduceGT Int.reduceLE Int.reduceGE
attribute [go_sem] Al3 decide_true decide_false Bool.false_eq_true beq_self_eq_true
noncomputable def B:Base:=Y4 Tryz.prog (fun i=>if i=3 then some (C1 u32 glob3.l)else none) (fun f _=>[29,30,31,32,46,48,62,66,79,82,90,91,92,107,117,123,126,127,129,130,131,142,149,150,151,152,153,154,155].contains f) (fun _=>none) (fun _=>none) none true (fun _ _=>rfl) (some (138,44,143)) (Afs An7)
theorem tbk{t F x}(h:Bc Tryz.prog t=x):(B.env F).tab t=x:=(Ay Tryz.prog t).trans h
theorem ok:B.Ok:=XX _ _ _ _ _ _ _ _ _ _
theorem lm0(F:Out):(B.env F).lm=true:=rfl
variable(F:Out)(xs:List Operand)
theorem own3:(B.env F).own 3 xs=false:=rfl
theorem own4:(B.env F).own 4 xs=false:=rfl
theorem own5:(B.env F).own 5 xs=false:=rfl
theorem own6:(B.env F).own 6 xs=false:=rfl
theorem own7:(B.env F).own 7 xs=false:=rfl
theorem own8:(B.env F).own 8 xs=false:=rfl
theorem own9:(B.env F).own 9 xs=false:=rfl
theorem Ak4:(B.env F).own 10 xs=false:=rfl
theorem Ale:(B.env F).own 11 xs=false:=rfl
theorem Amc:(B.env F).own 12 xs=false:=rfl
theorem Amh:(B.env F).own 13 xs=false:=rfl
theorem Anb:(B.env F).own 14 xs=false:=rfl
theorem AlN:(B.env F).own 15 xs=false:=rfl
theorem AkY:(B.env F).own 16 xs=false:=rfl
theorem AlG:(B.env F).own 17 xs=false:=rfl
theorem AmJ:(B.env F).own 18 xs=false:=rfl
theorem AnW:(B.env F).own 19 xs=false:=rfl
theorem Ann:(B.env F).own 20 xs=false:=rfl
theorem AkI:(B.env F).own 21 xs=false:=rfl
theorem AlQ:(B.env F).own 22 xs=false:=rfl
theorem An9:(B.env F).own 23 xs=false:=rfl
theorem Al9:(B.env F).own 24 xs=false:=rfl
theorem AnM:(B.env F).own 25 xs=false:=rfl
theorem Alr:(B.env F).own 26 xs=false:=rfl
theorem AkM:(B.env F).own 27 xs=false:=rfl
theorem AlJ:(B.env F).own 28 xs=false:=rfl
theorem Ans:(B.env F).own 29 xs=true:=rfl
theorem Al0:(B.env F).own 30 xs=true:=rfl
theorem AnO:(B.env F).own 31 xs=true:=rfl
theorem AnQ:(B.env F).own 32 xs=true:=rfl
theorem AlD:(B.env F).own 33 xs=false:=rfl
theorem An6:(B.env F).own 34 xs=false:=rfl
theorem Ala:(B.env F).own 35 xs=false:=rfl
theorem AnG:(B.env F).own 36 xs=false:=rfl
theorem Alx:(B.env F).own 37 xs=false:=rfl
theorem AnC:(B.env F).own 38 xs=false:=rfl
theorem Ana:(B.env F).own 39 xs=false:=rfl
theorem Amz:(B.env F).own 40 xs=false:=rfl
theorem Alo:(B.env F).own 41 xs=false:=rfl
theorem Alm:(B.env F).own 42 xs=false:=rfl
theorem AlV:(B.env F).own 43 xs=false:=rfl
theorem Alk:(B.env F).own 44 xs=false:=rfl
theorem AnE:(B.env F).own 45 xs=false:=rfl
theorem AlC:(B.env F).own 46 xs=true:=rfl
theorem AmS:(B.env F).own 47 xs=false:=rfl
theorem AmF:(B.env F).own 48 xs=true:=rfl
theorem Alc:(B.env F).own 49 xs=false:=rfl
theorem Ald:(B.env F).own 50 xs=false:=rfl
theorem Anc:(B.env F).own 51 xs=false:=rfl
theorem Alb:(B.env F).own 52 xs=false:=rfl
theorem AnN:(B.env F).own 53 xs=false:=rfl
theorem AnY:(B.env F).own 54 xs=false:=rfl
theorem AlT:(B.env F).own 55 xs=false:=rfl
theorem An2:(B.env F).own 56 xs=false:=rfl
theorem AmB:(B.env F).own 57 xs=false:=rfl
theorem Amp:(B.env F).own 58 xs=false:=rfl
theorem AnX:(B.env F).own 59 xs=false:=rfl
theorem Ak8:(B.env F).own 60 xs=false:=rfl
theorem AmO:(B.env F).own 61 xs=false:=rfl
theorem Anx:(B.env F).own 62 xs=true:=rfl
theorem Anz:(B.env F).own 63 xs=false:=rfl
theorem AmA:(B.env F).own 64 xs=false:=rfl
theorem Aml:(B.env F).own 65 xs=false:=rfl
theorem Ams:(B.env F).own 66 xs=true:=rfl
theorem AlA:(B.env F).own 67 xs=false:=rfl
theorem AkP:(B.env F).own 68 xs=false:=rfl
theorem Alj:(B.env F).own 69 xs=false:=rfl
theorem Anw:(B.env F).own 70 xs=false:=rfl
theorem AnA:(B.env F).own 71 xs=false:=rfl
theorem An0:(B.env F).own 72 xs=false:=rfl
theorem AmI:(B.env F).own 73 xs=false:=rfl
theorem AlZ:(B.env F).own 74 xs=false:=rfl
theorem Amr:(B.env F).own 75 xs=false:=rfl
theorem AlL:(B.env F).own 76 xs=false:=rfl
theorem Aoi:(B.env F).own 77 xs=false:=rfl
theorem Am9:(B.env F).own 78 xs=false:=rfl
theorem AlX:(B.env F).own 79 xs=true:=rfl
theorem AnF:(B.env F).own 80 xs=false:=rfl
theorem AlS:(B.env F).own 81 xs=false:=rfl
theorem AlH:(B.env F).own 82 xs=true:=rfl
theorem AnR:(B.env F).own 83 xs=false:=rfl
theorem Anf:(B.env F).own 84 xs=false:=rfl
theorem Anj:(B.env F).own 85 xs=false:=rfl
theorem Aog:(B.env F).own 86 xs=false:=rfl
theorem AlR:(B.env F).own 87 xs=false:=rfl
theorem AlY:(B.env F).own 88 xs=false:=rfl
theorem Anm:(B.env F).own 90 xs=true:=rfl
theorem AmQ:(B.env F).own 91 xs=true:=rfl
theorem Ank:(B.env F).own 92 xs=true:=rfl
theorem AnH:(B.env F).own 93 xs=false:=rfl
theorem Alz:(B.env F).own 94 xs=false:=rfl
theorem AmC:(B.env F).own 95 xs=false:=rfl
theorem Aoa:(B.env F).own 96 xs=false:=rfl
theorem AmP:(B.env F).own 97 xs=false:=rfl
theorem AlM:(B.env F).own 98 xs=false:=rfl
theorem AmK:(B.env F).own 99 xs=false:=rfl
theorem AjG:(B.env F).own 101 xs=false:=rfl
theorem Ajj:(B.env F).own 102 xs=false:=rfl
theorem AhQ:(B.env F).own 103 xs=false:=rfl
theorem Ajn:(B.env F).own 104 xs=false:=rfl
theorem Ai2:(B.env F).own 105 xs=false:=rfl
theorem AjA:(B.env F).own 106 xs=false:=rfl
theorem Ajy:(B.env F).own 107 xs=true:=rfl
theorem Ajw:(B.env F).own 108 xs=false:=rfl
theorem AjM:(B.env F).own 109 xs=false:=rfl
theorem Ahp:(B.env F).own 110 xs=false:=rfl
theorem AiE:(B.env F).own 111 xs=false:=rfl
theorem Ah5:(B.env F).own 112 xs=false:=rfl
theorem AjB:(B.env F).own 113 xs=false:=rfl
theorem AhE:(B.env F).own 114 xs=false:=rfl
theorem Aj0:(B.env F).own 115 xs=false:=rfl
theorem AgZ:(B.env F).own 116 xs=false:=rfl
theorem Ajh:(B.env F).own 117 xs=true:=rfl
theorem Ahl:(B.env F).own 118 xs=false:=rfl
theorem Ahq:(B.env F).own 119 xs=false:=rfl
theorem Ajx:(B.env F).own 120 xs=false:=rfl
theorem Aiw:(B.env F).own 121 xs=false:=rfl
theorem Aif:(B.env F).own 122 xs=false:=rfl
theorem Aii:(B.env F).own 123 xs=true:=rfl
theorem Ajv:(B.env F).own 124 xs=false:=rfl
theorem Ail:(B.env F).own 125 xs=false:=rfl
theorem AhZ:(B.env F).own 126 xs=true:=rfl
theorem AhP:(B.env F).own 127 xs=true:=rfl
theorem Aj3:(B.env F).own 128 xs=false:=rfl
theorem Ahg:(B.env F).own 129 xs=true:=rfl
theorem AgW:(B.env F).own 130 xs=true:=rfl
theorem Aja:(B.env F).own 131 xs=true:=rfl
theorem AjY:(B.env F).own 132 xs=false:=rfl
theorem Aj4:(B.env F).own 133 xs=false:=rfl
theorem Ahz:(B.env F).own 134 xs=false:=rfl
theorem AiO:(B.env F).own 135 xs=false:=rfl
theorem Aiy:(B.env F).own 136 xs=false:=rfl
theorem AjJ:(B.env F).own 137 xs=false:=rfl
theorem Ai9:(B.env F).own 138 xs=false:=rfl
theorem AhY:(B.env F).own 139 xs=false:=rfl
theorem Aiq:(B.env F).own 140 xs=false:=rfl
theorem Ajm:(B.env F).own 141 xs=false:=rfl
theorem AgT:(B.env F).own 142 xs=true:=rfl
theorem Ahs:(B.env F).own 143 xs=false:=rfl
theorem Ahi:(B.env F).own 144 xs=false:=rfl
theorem Ajb:(B.env F).own 145 xs=false:=rfl
theorem Aip:(B.env F).own 146 xs=false:=rfl
theorem AjR:(B.env F).own 147 xs=false:=rfl
theorem AgQ:(B.env F).own 148 xs=false:=rfl
theorem AhV:(B.env F).own 149 xs=true:=rfl
theorem Akk:(B.env F).own 150 xs=true:=rfl
theorem Ag8:(B.env F).own 151 xs=true:=rfl
theorem Ahx:(B.env F).own 152 xs=true:=rfl
theorem AgX:(B.env F).own 153 xs=true:=rfl
theorem AhD:(B.env F).own 154 xs=true:=rfl
theorem Akp:(B.env F).own 155 xs=true:=rfl
theorem Ag7:(B.env F).own 156 xs=false:=rfl
theorem AhM:(B.env F).own 157 xs=false:=rfl
theorem AiS:(B.env F).own 158 xs=false:=rfl
theorem Aih:(B.env F).own 159 xs=false:=rfl
theorem Aib:(B.env F).own 160 xs=false:=rfl
theorem AiQ:(B.env F).own 161 xs=false:=rfl
theorem Akr:(B.env F).own 162 xs=false:=rfl
theorem AiA:(B.env F).own 163 xs=false:=rfl
theorem AhF:(B.env F).own 164 xs=false:=rfl
theorem AjF:(B.env F).own 165 xs=false:=rfl
theorem Akc:(B.env F).own 166 xs=false:=rfl
theorem AiG:(B.env F).own 167 xs=false:=rfl
theorem AiP:(B.env F).own 168 xs=false:=rfl
theorem AiM:(B.env F).own 169 xs=false:=rfl
theorem K6:Tryz.prog.follows .mixedOrders=true:=by kernel_rfl
structure Aol where
  Za:Int
  Zb:Int
  Zc:Int
  deriving DecidableEq,Inhabited
def Ah(x:Aol):List AV:=[i64 x.Za,i64 x.Zb,i64 x.Zc]
structure Aom where
  A:Int
  B:Int
  Zb:Int
  Zd:Int
  Km:Int
  deriving DecidableEq,Inhabited
def Al(x:Aom):List AV:=[i64 x.A,i64 x.B,i64 x.Zb,i64 x.Zd,i64 x.Km]
structure Aon where
  Ze:List Aol
  Zf:List Aom
  deriving DecidableEq,Inhabited
def SJ(x:Aon):List AV:=[.sl false (L Ah x.Ze),.sl false (L Al x.Zf)]
structure Aoo where
  Zg:Int
  Zh:Int
  Zi:Int
  Zj:Int
  Zk:Int
  Zl:UInt64
  Zm:Int
  Zn:Int
  deriving DecidableEq,Inhabited
def Ab(x:Aoo):List AV:=[i64 x.Zg,i64 x.Zh,i64 x.Zi,i64 x.Zj,i64 x.Zk,u64 x.Zl,i64 x.Zm,i64 x.Zn]
structure Aop where
  Zo:Int
  Zp:Int
  Zq:Int
  Zr:Int
  Zs:Int
  deriving DecidableEq,Inhabited
def Af(x:Aop):List AV:=[i64 x.Zo,i64 x.Zp,i64 x.Zq,i64 x.Zr,i64 x.Zs]
structure Aoq where
  Zt:Int
  Zu:Int
  Zv:Int
  deriving DecidableEq,Inhabited
def Aj(x:Aoq):List AV:=[i64 x.Zt,i64 x.Zu,i64 x.Zv]
structure Aor where
  Zw:Int
  To:Int
  Zd:Int
  deriving DecidableEq,Inhabited
def Ai(x:Aor):List AV:=[i64 x.Zw,i64 x.To,i64 x.Zd]
structure Aos where
  Zx:List Aoo
  Zy:List Aop
  Zz:List Aoq
  Za1:List Aor
  deriving DecidableEq,Inhabited
def WN(x:Aos):List AV:=[.sl false (L Ab x.Zx),.sl false (L Af x.Zy),.sl false (L Aj x.Zz),.sl false (L Ai x.Za1)]
structure Aot where
  Zb1:Int
  Low:Int
  Zc1:Int
  deriving DecidableEq,Inhabited
def Ag(x:Aot):List AV:=[i64 x.Zb1,i64 x.Low,i64 x.Zc1]
structure Aou where
  Zb1:Int
  deriving DecidableEq,Inhabited
def Ae(x:Aou):List AV:=[i64 x.Zb1]
structure Aov where
  Zw:Int
  To:Int
  deriving DecidableEq,Inhabited
def Yy(x:Aov):List AV:=[i64 x.Zw,i64 x.To]
structure Aow where
  Zd1:(Aov×Aov×Aov×Aov×Aov×Aov×Aov)
  Ze1:List Int
  deriving DecidableEq,Inhabited
def Rs(x:Aow):List AV:=[i64 x.Zd1.1.Zw,i64 x.Zd1.1.To,i64 x.Zd1.2.1.Zw,i64 x.Zd1.2.1.To,i64 x.Zd1.2.2.1.Zw,i64 x.Zd1.2.2.1.To,i64 x.Zd1.2.2.2.1.Zw,i64 x.Zd1.2.2.2.1.To,i64 x.Zd1.2.2.2.2.1.Zw,i64 x.Zd1.2.2.2.2.1.To,i64 x.Zd1.2.2.2.2.2.1.Zw,i64 x.Zd1.2.2.2.2.2.1.To,i64 x.Zd1.2.2.2.2.2.2.Zw,i64 x.Zd1.2.2.2.2.2.2.To,.sl false (L JD x.Ze1)]
structure Aox where
  Key:UInt64
  Zf1:Aow
  deriving DecidableEq,Inhabited
def Ac(x:Aox):List AV:=[u64 x.Key,i64 x.Zf1.Zd1.1.Zw,i64 x.Zf1.Zd1.1.To,i64 x.Zf1.Zd1.2.1.Zw,i64 x.Zf1.Zd1.2.1.To,i64 x.Zf1.Zd1.2.2.1.Zw,i64 x.Zf1.Zd1.2.2.1.To,i64 x.Zf1.Zd1.2.2.2.1.Zw,i64 x.Zf1.Zd1.2.2.2.1.To,i64 x.Zf1.Zd1.2.2.2.2.1.Zw,i64 x.Zf1.Zd1.2.2.2.2.1.To,i64 x.Zf1.Zd1.2.2.2.2.2.1.Zw,i64 x.Zf1.Zd1.2.2.2.2.2.1.To,i64 x.Zf1.Zd1.2.2.2.2.2.2.Zw,i64 x.Zf1.Zd1.2.2.2.2.2.2.To,.sl false (L JD x.Zf1.Ze1)]
structure Aoy where
  Zg1:Aon
  Zh1:Aos
  Zi1:List Aot
  Zj1:List Aou
  Zk1:List Aox
  deriving DecidableEq,Inhabited
def Y3(x:Aoy):List AV:=[.sl false (L Ah x.Zg1.Ze),.sl false (L Al x.Zg1.Zf),.sl false (L Ab x.Zh1.Zx),.sl false (L Af x.Zh1.Zy),.sl false (L Aj x.Zh1.Zz),.sl false (L Ai x.Zh1.Za1),.sl false (L Ag x.Zi1),.sl false (L Ae x.Zj1),.sl false (L Ac x.Zk1)]
structure Aoz where
  Zb:Int
  No:Int
  deriving DecidableEq,Inhabited
def V8(x:Aoz):List AV:=[i64 x.Zb,i64 x.No]
structure AoA where
  Za:Int
  Zl1:Int
  Zm1:Bool
  deriving DecidableEq,Inhabited
def Ad(x:AoA):List AV:=[i64 x.Za,i64 x.Zl1,.bool x.Zm1]
structure AoB where
  Za:Int
  Ref:Aoz
  Zn1:Int
  Zb1:Int
  Zc:Int
  Zo1:Int
  Zw:Int
  To:Int
  Code:Int
  Zp1:Int
  Zq1:Int
  Zr1:Int
  Zs1:Int
  Zt1:List UInt8
  Zu1:List AoA
  deriving DecidableEq,Inhabited
def MK(x:AoB):List AV:=[i64 x.Za,i64 x.Ref.Zb,i64 x.Ref.No,i64 x.Zn1,i64 x.Zb1,i64 x.Zc,i64 x.Zo1,i64 x.Zw,i64 x.To,i64 x.Code,i64 x.Zp1,i64 x.Zq1,i64 x.Zr1,i64 x.Zs1,.str x.Zt1,.sl false (L Ad x.Zu1)]
structure AoC where
  C:UInt64
  S:UInt64
  deriving DecidableEq,Inhabited
def Qr(x:AoC):List AV:=[u64 x.C,u64 x.S]
structure AoD where
  Zb:Int
  No:Int
  Zv1:Arr UInt8 32
  Zw1:Int
  Zx1:AoB
  Sig:AoC
  deriving DecidableEq,Inhabited
def Ak(x:AoD):List AV:=(i64 x.Zb::i64 x.No::(C1 u8 x.Zv1.l++[i64 x.Zw1,i64 x.Zx1.Za,i64 x.Zx1.Ref.Zb,i64 x.Zx1.Ref.No,i64 x.Zx1.Zn1,i64 x.Zx1.Zb1,i64 x.Zx1.Zc,i64 x.Zx1.Zo1,i64 x.Zx1.Zw,i64 x.Zx1.To,i64 x.Zx1.Code,i64 x.Zx1.Zp1,i64 x.Zx1.Zq1,i64 x.Zx1.Zr1,i64 x.Zx1.Zs1,.str x.Zx1.Zt1,.sl false (L Ad x.Zx1.Zu1),u64 x.Sig.C,u64 x.Sig.S]))
structure AoE where
  A:AoD
  B:AoD
  deriving DecidableEq,Inhabited
def An(x:AoE):List AV:=(i64 x.A.Zb::i64 x.A.No::(C1 u8 x.A.Zv1.l++i64 x.A.Zw1::i64 x.A.Zx1.Za::i64 x.A.Zx1.Ref.Zb::i64 x.A.Zx1.Ref.No::i64 x.A.Zx1.Zn1::i64 x.A.Zx1.Zb1::i64 x.A.Zx1.Zc::i64 x.A.Zx1.Zo1::i64 x.A.Zx1.Zw::i64 x.A.Zx1.To::i64 x.A.Zx1.Code::i64 x.A.Zx1.Zp1::i64 x.A.Zx1.Zq1::i64 x.A.Zx1.Zr1::i64 x.A.Zx1.Zs1::.str x.A.Zx1.Zt1::.sl false (L Ad x.A.Zx1.Zu1)::u64 x.A.Sig.C::u64 x.A.Sig.S::i64 x.B.Zb::i64 x.B.No::(C1 u8 x.B.Zv1.l++[i64 x.B.Zw1,i64 x.B.Zx1.Za,i64 x.B.Zx1.Ref.Zb,i64 x.B.Zx1.Ref.No,i64 x.B.Zx1.Zn1,i64 x.B.Zx1.Zb1,i64 x.B.Zx1.Zc,i64 x.B.Zx1.Zo1,i64 x.B.Zx1.Zw,i64 x.B.Zx1.To,i64 x.B.Zx1.Code,i64 x.B.Zx1.Zp1,i64 x.B.Zx1.Zq1,i64 x.B.Zx1.Zr1,i64 x.B.Zx1.Zs1,.str x.B.Zx1.Zt1,.sl false (L Ad x.B.Zx1.Zu1),u64 x.B.Sig.C,u64 x.B.Sig.S])))
structure AoF where
  Zy1:List (List AoD)
  Zz1:List AoE
  deriving DecidableEq,Inhabited
def Xc(x:AoF):List AV:=[.sl false (L (cSl Ak) x.Zy1),.sl false (L An x.Zz1)]
inductive AoG where
  |mk (Za:Int) (N:Int) (B:List UInt8) (L:List AoG)
instance:Inhabited AoG:=⟨.mk default default default default⟩
def AoG.Za(x:AoG):Int:=match x with
 |.mk a _ _ _=>a
theorem OU{x0:Int}{x1:Int}{x2:List UInt8}{x3:List AoG}:(AoG.mk x0 x1 x2 x3).Za=x0:=rfl
def AoG.N(x:AoG):Int:=match x with
 |.mk _ a _ _=>a
theorem UZ{x0:Int}{x1:Int}{x2:List UInt8}{x3:List AoG}:(AoG.mk x0 x1 x2 x3).N=x1:=rfl
def AoG.B(x:AoG):List UInt8:=match x with
 |.mk _ _ a _=>a
theorem Uq{x0:Int}{x1:Int}{x2:List UInt8}{x3:List AoG}:(AoG.mk x0 x1 x2 x3).B=x2:=rfl
def AoG.L(x:AoG):List AoG:=match x with
 |.mk _ _ _ a=>a
theorem TI{x0:Int}{x1:Int}{x2:List UInt8}{x3:List AoG}:(AoG.mk x0 x1 x2 x3).L=x3:=rfl
noncomputable def cApi_Value(v:AoG):List AV:=AoG.rec (motive_1:=fun _=>List AV) (motive_2:=fun _=>List (List AV)) (fun Kind_ N_ B_ L_ ih3=>[i64 Kind_,i64 N_,.sl false (L cU8 B_),.sl false ih3]) [] (fun _ _ x l=>x::l) v
theorem Tg(l:List AoG):AoG.rec_1 (motive_1:=fun _=>List AV) (motive_2:=fun _=>List (List AV)) (fun Kind_ N_ B_ L_ ih3=>[i64 Kind_,i64 N_,.sl false (L cU8 B_),.sl false ih3]) [] (fun _ _ x l=>x::l) l=L cApi_Value l:=by
 induction l with
 |nil=>rfl
 |cons x l ih=>exact ApW (cApi_Value x::·) ih
theorem JR(x:AoG):cApi_Value x=[i64 x.Za,i64 x.N,.sl false (L cU8 x.B),.sl false (L cApi_Value x.L)]:=by
  cases x with
  | mk a0 a1 a2 a3=>
    show[i64 a0,i64 a1,.sl false (L cU8 a2),.sl false (AoG.rec_1 (motive_1:=fun _=>List AV) (motive_2:=fun _=>List (List AV)) (fun Kind_ N_ B_ L_ ih3=>[i64 Kind_,i64 N_,.sl false (L cU8 B_),.sl false ih3]) [] (fun _ _ x l=>x::l) a3)]=_;rw[Tg];rfl
structure AoH where
  p:Aoy
  it:AoB
  ok:Bool
  deriving DecidableEq,Inhabited
def Sw(x:AoH):List AV:=[.sl false (L Ah x.p.Zg1.Ze),.sl false (L Al x.p.Zg1.Zf),.sl false (L Ab x.p.Zh1.Zx),.sl false (L Af x.p.Zh1.Zy),.sl false (L Aj x.p.Zh1.Zz),.sl false (L Ai x.p.Zh1.Za1),.sl false (L Ag x.p.Zi1),.sl false (L Ae x.p.Zj1),.sl false (L Ac x.p.Zk1),i64 x.it.Za,i64 x.it.Ref.Zb,i64 x.it.Ref.No,i64 x.it.Zn1,i64 x.it.Zb1,i64 x.it.Zc,i64 x.it.Zo1,i64 x.it.Zw,i64 x.it.To,i64 x.it.Code,i64 x.it.Zp1,i64 x.it.Zq1,i64 x.it.Zr1,i64 x.it.Zs1,.str x.it.Zt1,.sl false (L Ad x.it.Zu1),.bool x.ok]
structure AoI where
  Ref:Aoz
  By:Aoz
  Zw1:Int
  Zx1:AoB
  deriving DecidableEq,Inhabited
def A5(x:AoI):List AV:=[i64 x.Ref.Zb,i64 x.Ref.No,i64 x.By.Zb,i64 x.By.No,i64 x.Zw1,i64 x.Zx1.Za,i64 x.Zx1.Ref.Zb,i64 x.Zx1.Ref.No,i64 x.Zx1.Zn1,i64 x.Zx1.Zb1,i64 x.Zx1.Zc,i64 x.Zx1.Zo1,i64 x.Zx1.Zw,i64 x.Zx1.To,i64 x.Zx1.Code,i64 x.Zx1.Zp1,i64 x.Zx1.Zq1,i64 x.Zx1.Zr1,i64 x.Zx1.Zs1,.str x.Zx1.Zt1,.sl false (L Ad x.Zx1.Zu1)]
structure AoJ where
  b:List UInt8
  deriving DecidableEq,Inhabited
def Ps(x:AoJ):List AV:=[.sl false (L cU8 x.b)]
theorem tt3:Bc Tryz.prog 3=some ⟨.int .i64,1,8,[i64 0]⟩:=by kernel_rfl
theorem tb3(F:Out):(B.env F).tab 3=some ⟨.int .i64,1,8,[i64 0]⟩:=(Ay Tryz.prog 3).trans tt3
theorem tt4:Bc Tryz.prog 4=some ⟨.bool,1,1,[.bool false]⟩:=by kernel_rfl
theorem tb4(F:Out):(B.env F).tab 4=some ⟨.bool,1,1,[.bool false]⟩:=(Ay Tryz.prog 4).trans tt4
theorem tt5:Bc Tryz.prog 5=some ⟨.int .u8,1,1,[u8 ((0:UInt8))]⟩:=by kernel_rfl
theorem tb5(F:Out):(B.env F).tab 5=some ⟨.int .u8,1,1,[u8 ((0:UInt8))]⟩:=(Ay Tryz.prog 5).trans tt5
theorem tt9:Bc Tryz.prog 9=some ⟨.string,1,16,[.str (([]:List UInt8))]⟩:=by kernel_rfl
theorem tb9(F:Out):(B.env F).tab 9=some ⟨.string,1,16,[.str (([]:List UInt8))]⟩:=(Ay Tryz.prog 9).trans tt9
theorem tt22:Bc Tryz.prog 22=some ⟨.slice 120,1,24,[.sl true (L Ah ([]))]⟩:=by kernel_rfl
theorem tb22(F:Out):(B.env F).tab 22=some ⟨.slice 120,1,24,[.sl true (L Ah ([]))]⟩:=(Ay Tryz.prog 22).trans tt22
theorem tt23:Bc Tryz.prog 23=some ⟨.slice 122,1,24,[.sl true (L Al ([]))]⟩:=by kernel_rfl
theorem tb23(F:Out):(B.env F).tab 23=some ⟨.slice 122,1,24,[.sl true (L Al ([]))]⟩:=(Ay Tryz.prog 23).trans tt23
theorem tt25:Bc Tryz.prog 25=some ⟨.struct #[⟨"Places", 22,0,false,"","", 0⟩,⟨"Edges", 23,1,false,"","", 24⟩],2,48,[.sl true (L Ah ([])),.sl true (L Al ([]))]⟩:=by kernel_rfl
theorem tb25(F:Out):(B.env F).tab 25=some ⟨.struct #[⟨"Places", 22,0,false,"","", 0⟩,⟨"Edges", 23,1,false,"","", 24⟩],2,48,[.sl true (L Ah ([])),.sl true (L Al ([]))]⟩:=(Ay Tryz.prog 25).trans tt25
theorem tt26:Bc Tryz.prog 26=some ⟨.slice 124,1,24,[.sl true (L Ab ([]))]⟩:=by kernel_rfl
theorem tb26(F:Out):(B.env F).tab 26=some ⟨.slice 124,1,24,[.sl true (L Ab ([]))]⟩:=(Ay Tryz.prog 26).trans tt26
theorem tt27:Bc Tryz.prog 27=some ⟨.slice 126,1,24,[.sl true (L Af ([]))]⟩:=by kernel_rfl
theorem tb27(F:Out):(B.env F).tab 27=some ⟨.slice 126,1,24,[.sl true (L Af ([]))]⟩:=(Ay Tryz.prog 27).trans tt27
theorem tt28:Bc Tryz.prog 28=some ⟨.slice 155,1,24,[.sl true (L Aj ([]))]⟩:=by kernel_rfl
theorem tb28(F:Out):(B.env F).tab 28=some ⟨.slice 155,1,24,[.sl true (L Aj ([]))]⟩:=(Ay Tryz.prog 28).trans tt28
theorem tt29:Bc Tryz.prog 29=some ⟨.slice 199,1,24,[.sl true (L Ai ([]))]⟩:=by kernel_rfl
theorem tb29(F:Out):(B.env F).tab 29=some ⟨.slice 199,1,24,[.sl true (L Ai ([]))]⟩:=(Ay Tryz.prog 29).trans tt29
theorem tt31:Bc Tryz.prog 31=some ⟨.struct #[⟨"Types", 26,0,false,"","", 0⟩,⟨"Wagons", 27,1,false,"","", 24⟩,⟨"Swaps", 28,2,false,"","", 48⟩,⟨"Washes", 29,3,false,"","", 72⟩],4,96,[.sl true (L Ab ([])),.sl true (L Af ([])),.sl true (L Aj ([])),.sl true (L Ai ([]))]⟩:=by kernel_rfl
theorem tb31(F:Out):(B.env F).tab 31=some ⟨.struct #[⟨"Types", 26,0,false,"","", 0⟩,⟨"Wagons", 27,1,false,"","", 24⟩,⟨"Swaps", 28,2,false,"","", 48⟩,⟨"Washes", 29,3,false,"","", 72⟩],4,96,[.sl true (L Ab ([])),.sl true (L Af ([])),.sl true (L Aj ([])),.sl true (L Ai ([]))]⟩:=(Ay Tryz.prog 31).trans tt31
theorem tt32:Bc Tryz.prog 32=some ⟨.slice 128,1,24,[.sl true (L Ag ([]))]⟩:=by kernel_rfl
theorem tb32(F:Out):(B.env F).tab 32=some ⟨.slice 128,1,24,[.sl true (L Ag ([]))]⟩:=(Ay Tryz.prog 32).trans tt32
theorem tt33:Bc Tryz.prog 33=some ⟨.slice 130,1,24,[.sl true (L Ae ([]))]⟩:=by kernel_rfl
theorem tb33(F:Out):(B.env F).tab 33=some ⟨.slice 130,1,24,[.sl true (L Ae ([]))]⟩:=(Ay Tryz.prog 33).trans tt33
theorem tt34:Bc Tryz.prog 34=some ⟨.slice 74,1,24,[.sl true (L Ac ([]))]⟩:=by kernel_rfl
theorem Aku(F:Out):(B.env F).tab 34=some ⟨.slice 74,1,24,[.sl true (L Ac ([]))]⟩:=(Ay Tryz.prog 34).trans tt34
theorem tt36:Bc Tryz.prog 36=some ⟨.struct #[⟨"Network", 25,0,false,"","", 0⟩,⟨"Fleet", 31,2,false,"","", 48⟩,⟨"Readers", 32,6,false,"","", 144⟩,⟨"Shippers", 33,7,false,"","", 168⟩,⟨"Railways", 34,8,false,"","", 192⟩],9,216,[.sl true (L Ah ([])),.sl true (L Al ([])),.sl true (L Ab ([])),.sl true (L Af ([])),.sl true (L Aj ([])),.sl true (L Ai ([])),.sl true (L Ag ([])),.sl true (L Ae ([])),.sl true (L Ac ([]))]⟩:=by kernel_rfl
theorem tb36(F:Out):(B.env F).tab 36=some ⟨.struct #[⟨"Network", 25,0,false,"","", 0⟩,⟨"Fleet", 31,2,false,"","", 48⟩,⟨"Readers", 32,6,false,"","", 144⟩,⟨"Shippers", 33,7,false,"","", 168⟩,⟨"Railways", 34,8,false,"","", 192⟩],9,216,[.sl true (L Ah ([])),.sl true (L Al ([])),.sl true (L Ab ([])),.sl true (L Af ([])),.sl true (L Aj ([])),.sl true (L Ai ([])),.sl true (L Ag ([])),.sl true (L Ae ([])),.sl true (L Ac ([]))]⟩:=(Ay Tryz.prog 36).trans tt36
theorem tt37:Bc Tryz.prog 37=some ⟨.slice 75,1,24,[.sl true (L (cSl Ak) ([]))]⟩:=by kernel_rfl
theorem AgK(F:Out):(B.env F).tab 37=some ⟨.slice 75,1,24,[.sl true (L (cSl Ak) ([]))]⟩:=(Ay Tryz.prog 37).trans tt37
theorem tt38:Bc Tryz.prog 38=some ⟨.slice 88,1,24,[.sl true (L An ([]))]⟩:=by kernel_rfl
theorem AkE(F:Out):(B.env F).tab 38=some ⟨.slice 88,1,24,[.sl true (L An ([]))]⟩:=(Ay Tryz.prog 38).trans tt38
theorem tt40:Bc Tryz.prog 40=some ⟨.struct #[⟨"Logs", 37,0,false,"","", 0⟩,⟨"Forks", 38,1,false,"","", 24⟩],2,48,[.sl true (L (cSl Ak) ([])),.sl true (L An ([]))]⟩:=by kernel_rfl
theorem tb40(F:Out):(B.env F).tab 40=some ⟨.struct #[⟨"Logs", 37,0,false,"","", 0⟩,⟨"Forks", 38,1,false,"","", 24⟩],2,48,[.sl true (L (cSl Ak) ([])),.sl true (L An ([]))]⟩:=(Ay Tryz.prog 40).trans tt40
theorem tt42:Bc Tryz.prog 42=some ⟨.array 32 5,32,32,(C1 u8 ((Arr.rep 32 (0:UInt8))).l)⟩:=by kernel_rfl
theorem AkA(F:Out):(B.env F).tab 42=some ⟨.array 32 5,32,32,(C1 u8 ((Arr.rep 32 (0:UInt8))).l)⟩:=(Ay Tryz.prog 42).trans tt42
theorem tt44:Bc Tryz.prog 44=some ⟨.struct #[⟨"Railway", 3,0,false,"","", 0⟩,⟨"No", 3,1,false,"","", 8⟩],2,16,[i64 0,i64 0]⟩:=by kernel_rfl
theorem AnP(F:Out):(B.env F).tab 44=some ⟨.struct #[⟨"Railway", 3,0,false,"","", 0⟩,⟨"No", 3,1,false,"","", 8⟩],2,16,[i64 0,i64 0]⟩:=(Ay Tryz.prog 44).trans tt44
theorem tt45:Bc Tryz.prog 45=some ⟨.slice 182,1,24,[.sl true (L Ad ([]))]⟩:=by kernel_rfl
theorem AkD(F:Out):(B.env F).tab 45=some ⟨.slice 182,1,24,[.sl true (L Ad ([]))]⟩:=(Ay Tryz.prog 45).trans tt45
theorem tt47:Bc Tryz.prog 47=some ⟨.struct #[⟨"Kind", 3,0,false,"","", 0⟩,⟨"Ref", 44,1,false,"","", 8⟩,⟨"Wagon", 3,3,false,"","", 24⟩,⟨"Place", 3,4,false,"","", 32⟩,⟨"Other", 3,5,false,"","", 40⟩,⟨"Number", 3,6,false,"","", 48⟩,⟨"From", 3,7,false,"","", 56⟩,⟨"To", 3,8,false,"","", 64⟩,⟨"Code", 3,9,false,"","", 72⟩,⟨"Dest", 3,10,false,"","", 80⟩,⟨"Class", 3,11,false,"","", 88⟩,⟨"Weight", 3,12,false,"","", 96⟩,⟨"Amount", 3,13,false,"","", 104⟩,⟨"Text", 9,14,false,"","", 112⟩,⟨"Parts", 45,15,false,"","", 128⟩],16,152,[i64 0,i64 0,i64 0,i64 0,i64 0,i64 0,i64 0,i64 0,i64 0,i64 0,i64 0,i64 0,i64 0,i64 0,.str (([]:List UInt8)),.sl true (L Ad ([]))]⟩:=by kernel_rfl
theorem tb47(F:Out):(B.env F).tab 47=some ⟨.struct #[⟨"Kind", 3,0,false,"","", 0⟩,⟨"Ref", 44,1,false,"","", 8⟩,⟨"Wagon", 3,3,false,"","", 24⟩,⟨"Place", 3,4,false,"","", 32⟩,⟨"Other", 3,5,false,"","", 40⟩,⟨"Number", 3,6,false,"","", 48⟩,⟨"From", 3,7,false,"","", 56⟩,⟨"To", 3,8,false,"","", 64⟩,⟨"Code", 3,9,false,"","", 72⟩,⟨"Dest", 3,10,false,"","", 80⟩,⟨"Class", 3,11,false,"","", 88⟩,⟨"Weight", 3,12,false,"","", 96⟩,⟨"Amount", 3,13,false,"","", 104⟩,⟨"Text", 9,14,false,"","", 112⟩,⟨"Parts", 45,15,false,"","", 128⟩],16,152,[i64 0,i64 0,i64 0,i64 0,i64 0,i64 0,i64 0,i64 0,i64 0,i64 0,i64 0,i64 0,i64 0,i64 0,.str (([]:List UInt8)),.sl true (L Ad ([]))]⟩:=(Ay Tryz.prog 47).trans tt47
theorem tt48:Bc Tryz.prog 48=some ⟨.int .u64,1,8,[u64 ((0:UInt64))]⟩:=by kernel_rfl
theorem AkC(F:Out):(B.env F).tab 48=some ⟨.int .u64,1,8,[u64 ((0:UInt64))]⟩:=(Ay Tryz.prog 48).trans tt48
theorem tt50:Bc Tryz.prog 50=some ⟨.struct #[⟨"C", 48,0,false,"","", 0⟩,⟨"S", 48,1,false,"","", 8⟩],2,16,[u64 ((0:UInt64)),u64 ((0:UInt64))]⟩:=by kernel_rfl
theorem tb50(F:Out):(B.env F).tab 50=some ⟨.struct #[⟨"C", 48,0,false,"","", 0⟩,⟨"S", 48,1,false,"","", 8⟩],2,16,[u64 ((0:UInt64)),u64 ((0:UInt64))]⟩:=(Ay Tryz.prog 50).trans tt50
theorem tt52:Bc Tryz.prog 52=some ⟨.struct #[⟨"Railway", 3,0,false,"","", 0⟩,⟨"No", 3,1,false,"","", 8⟩,⟨"Prev", 42,2,false,"","", 16⟩,⟨"Time", 3,34,false,"","", 48⟩,⟨"Item", 47,35,false,"","", 56⟩,⟨"Sig", 50,51,false,"","", 208⟩],53,224,(i64 0::i64 0::(C1 u8 ((Arr.rep 32 (0:UInt8))).l++[i64 0,i64 0,i64 0,i64 0,i64 0,i64 0,i64 0,i64 0,i64 0,i64 0,i64 0,i64 0,i64 0,i64 0,i64 0,.str (([]:List UInt8)),.sl true (L Ad ([])),u64 ((0:UInt64)),u64 ((0:UInt64))]))⟩:=by kernel_rfl
theorem AkT(F:Out):(B.env F).tab 52=some ⟨.struct #[⟨"Railway", 3,0,false,"","", 0⟩,⟨"No", 3,1,false,"","", 8⟩,⟨"Prev", 42,2,false,"","", 16⟩,⟨"Time", 3,34,false,"","", 48⟩,⟨"Item", 47,35,false,"","", 56⟩,⟨"Sig", 50,51,false,"","", 208⟩],53,224,(i64 0::i64 0::(C1 u8 ((Arr.rep 32 (0:UInt8))).l++[i64 0,i64 0,i64 0,i64 0,i64 0,i64 0,i64 0,i64 0,i64 0,i64 0,i64 0,i64 0,i64 0,i64 0,i64 0,.str (([]:List UInt8)),.sl true (L Ad ([])),u64 ((0:UInt64)),u64 ((0:UInt64))]))⟩:=(Ay Tryz.prog 52).trans tt52
theorem tt57:Bc Tryz.prog 57=some ⟨.int .i64,1,8,[i64 0]⟩:=by kernel_rfl
theorem tb57(F:Out):(B.env F).tab 57=some ⟨.int .i64,1,8,[i64 0]⟩:=(Ay Tryz.prog 57).trans tt57
theorem tt63:Bc Tryz.prog 63=some ⟨.slice 5,1,24,[.sl true (L cU8 ([]))]⟩:=by kernel_rfl
theorem Aeh(F:Out):(B.env F).tab 63=some ⟨.slice 5,1,24,[.sl true (L cU8 ([]))]⟩:=(Ay Tryz.prog 63).trans tt63
theorem tt68:Bc Tryz.prog 68=some ⟨.struct #[⟨"From", 3,0,false,"","", 0⟩,⟨"To", 3,1,false,"","", 8⟩],2,16,[i64 0,i64 0]⟩:=by kernel_rfl
theorem tb68(F:Out):(B.env F).tab 68=some ⟨.struct #[⟨"From", 3,0,false,"","", 0⟩,⟨"To", 3,1,false,"","", 8⟩],2,16,[i64 0,i64 0]⟩:=(Ay Tryz.prog 68).trans tt68
theorem tt69:Bc Tryz.prog 69=some ⟨.array 7 68,14,112,[i64 0,i64 0,i64 0,i64 0,i64 0,i64 0,i64 0,i64 0,i64 0,i64 0,i64 0,i64 0,i64 0,i64 0]⟩:=by kernel_rfl
theorem tb69(F:Out):(B.env F).tab 69=some ⟨.array 7 68,14,112,[i64 0,i64 0,i64 0,i64 0,i64 0,i64 0,i64 0,i64 0,i64 0,i64 0,i64 0,i64 0,i64 0,i64 0]⟩:=(Ay Tryz.prog 69).trans tt69
theorem tt70:Bc Tryz.prog 70=some ⟨.slice 3,1,24,[.sl true (L JD ([]))]⟩:=by kernel_rfl
theorem AkN(F:Out):(B.env F).tab 70=some ⟨.slice 3,1,24,[.sl true (L JD ([]))]⟩:=(Ay Tryz.prog 70).trans tt70
theorem tt72:Bc Tryz.prog 72=some ⟨.struct #[⟨"Open", 69,0,false,"","", 0⟩,⟨"Holidays", 70,14,false,"","", 112⟩],15,136,[i64 0,i64 0,i64 0,i64 0,i64 0,i64 0,i64 0,i64 0,i64 0,i64 0,i64 0,i64 0,i64 0,i64 0,.sl true (L JD ([]))]⟩:=by kernel_rfl
theorem tb72(F:Out):(B.env F).tab 72=some ⟨.struct #[⟨"Open", 69,0,false,"","", 0⟩,⟨"Holidays", 70,14,false,"","", 112⟩],15,136,[i64 0,i64 0,i64 0,i64 0,i64 0,i64 0,i64 0,i64 0,i64 0,i64 0,i64 0,i64 0,i64 0,i64 0,.sl true (L JD ([]))]⟩:=(Ay Tryz.prog 72).trans tt72
theorem tt74:Bc Tryz.prog 74=some ⟨.struct #[⟨"Key", 48,0,false,"","", 0⟩,⟨"Calendar", 72,1,false,"","", 8⟩],16,144,[u64 ((0:UInt64)),i64 0,i64 0,i64 0,i64 0,i64 0,i64 0,i64 0,i64 0,i64 0,i64 0,i64 0,i64 0,i64 0,i64 0,.sl true (L JD ([]))]⟩:=by kernel_rfl
theorem AnV(F:Out):(B.env F).tab 74=some ⟨.struct #[⟨"Key", 48,0,false,"","", 0⟩,⟨"Calendar", 72,1,false,"","", 8⟩],16,144,[u64 ((0:UInt64)),i64 0,i64 0,i64 0,i64 0,i64 0,i64 0,i64 0,i64 0,i64 0,i64 0,i64 0,i64 0,i64 0,i64 0,.sl true (L JD ([]))]⟩:=(Ay Tryz.prog 74).trans tt74
theorem tt75:Bc Tryz.prog 75=some ⟨.slice 52,1,24,[.sl true (L Ak ([]))]⟩:=by kernel_rfl
theorem AdT(F:Out):(B.env F).tab 75=some ⟨.slice 52,1,24,[.sl true (L Ak ([]))]⟩:=(Ay Tryz.prog 75).trans tt75
theorem tt85:Bc Tryz.prog 85=some ⟨.slice 143,1,24,[.sl true (L A5 ([]))]⟩:=by kernel_rfl
theorem Amf(F:Out):(B.env F).tab 85=some ⟨.slice 143,1,24,[.sl true (L A5 ([]))]⟩:=(Ay Tryz.prog 85).trans tt85
theorem tt88:Bc Tryz.prog 88=some ⟨.struct #[⟨"A", 52,0,false,"","", 0⟩,⟨"B", 52,53,false,"","", 224⟩],106,448,(i64 0::i64 0::(C1 u8 ((Arr.rep 32 (0:UInt8))).l++i64 0::i64 0::i64 0::i64 0::i64 0::i64 0::i64 0::i64 0::i64 0::i64 0::i64 0::i64 0::i64 0::i64 0::i64 0::.str (([]:List UInt8))::.sl true (L Ad ([]))::u64 ((0:UInt64))::u64 ((0:UInt64))::i64 0::i64 0::(C1 u8 ((Arr.rep 32 (0:UInt8))).l++[i64 0,i64 0,i64 0,i64 0,i64 0,i64 0,i64 0,i64 0,i64 0,i64 0,i64 0,i64 0,i64 0,i64 0,i64 0,.str (([]:List UInt8)),.sl true (L Ad ([])),u64 ((0:UInt64)),u64 ((0:UInt64))])))⟩:=by kernel_rfl
theorem Ak0(F:Out):(B.env F).tab 88=some ⟨.struct #[⟨"A", 52,0,false,"","", 0⟩,⟨"B", 52,53,false,"","", 224⟩],106,448,(i64 0::i64 0::(C1 u8 ((Arr.rep 32 (0:UInt8))).l++i64 0::i64 0::i64 0::i64 0::i64 0::i64 0::i64 0::i64 0::i64 0::i64 0::i64 0::i64 0::i64 0::i64 0::i64 0::.str (([]:List UInt8))::.sl true (L Ad ([]))::u64 ((0:UInt64))::u64 ((0:UInt64))::i64 0::i64 0::(C1 u8 ((Arr.rep 32 (0:UInt8))).l++[i64 0,i64 0,i64 0,i64 0,i64 0,i64 0,i64 0,i64 0,i64 0,i64 0,i64 0,i64 0,i64 0,i64 0,i64 0,.str (([]:List UInt8)),.sl true (L Ad ([])),u64 ((0:UInt64)),u64 ((0:UInt64))])))⟩:=(Ay Tryz.prog 88).trans tt88
theorem AkQ:Bc Tryz.prog 103=some ⟨.slice 105,1,24,[.sl true (L cApi_Value ([]))]⟩:=by kernel_rfl
theorem Ab3(F:Out):(B.env F).tab 103=some ⟨.slice 105,1,24,[.sl true (L cApi_Value ([]))]⟩:=(Ay Tryz.prog 103).trans AkQ
theorem Amv:Bc Tryz.prog 105=some ⟨.struct #[⟨"Kind", 3,0,false,"","", 0⟩,⟨"N", 3,1,false,"","", 8⟩,⟨"B", 63,2,false,"","", 16⟩,⟨"L", 103,3,false,"","", 40⟩],4,64,[i64 0,i64 0,.sl true (L cU8 ([])),.sl true (L cApi_Value ([]))]⟩:=by kernel_rfl
theorem AeV(F:Out):(B.env F).tab 105=some ⟨.struct #[⟨"Kind", 3,0,false,"","", 0⟩,⟨"N", 3,1,false,"","", 8⟩,⟨"B", 63,2,false,"","", 16⟩,⟨"L", 103,3,false,"","", 40⟩],4,64,[i64 0,i64 0,.sl true (L cU8 ([])),.sl true (L cApi_Value ([]))]⟩:=(Ay Tryz.prog 105).trans Amv
theorem Aof:Bc Tryz.prog 120=some ⟨.struct #[⟨"Kind", 3,0,false,"","", 0⟩,⟨"Railway", 3,1,false,"","", 8⟩,⟨"Other", 3,2,false,"","", 16⟩],3,24,[i64 0,i64 0,i64 0]⟩:=by kernel_rfl
theorem AiZ(F:Out):(B.env F).tab 120=some ⟨.struct #[⟨"Kind", 3,0,false,"","", 0⟩,⟨"Railway", 3,1,false,"","", 8⟩,⟨"Other", 3,2,false,"","", 16⟩],3,24,[i64 0,i64 0,i64 0]⟩:=(Ay Tryz.prog 120).trans Aof
theorem Anu:Bc Tryz.prog 122=some ⟨.struct #[⟨"A", 3,0,false,"","", 0⟩,⟨"B", 3,1,false,"","", 8⟩,⟨"Railway", 3,2,false,"","", 16⟩,⟨"Minutes", 3,3,false,"","", 24⟩,⟨"Km", 3,4,false,"","", 32⟩],5,40,[i64 0,i64 0,i64 0,i64 0,i64 0]⟩:=by kernel_rfl
theorem Akj(F:Out):(B.env F).tab 122=some ⟨.struct #[⟨"A", 3,0,false,"","", 0⟩,⟨"B", 3,1,false,"","", 8⟩,⟨"Railway", 3,2,false,"","", 16⟩,⟨"Minutes", 3,3,false,"","", 24⟩,⟨"Km", 3,4,false,"","", 32⟩],5,40,[i64 0,i64 0,i64 0,i64 0,i64 0]⟩:=(Ay Tryz.prog 122).trans Anu
theorem AnT:Bc Tryz.prog 124=some ⟨.struct #[⟨"Load", 3,0,false,"","", 0⟩,⟨"Tare", 3,1,false,"","", 8⟩,⟨"Length", 3,2,false,"","", 16⟩,⟨"Gauge", 3,3,false,"","", 24⟩,⟨"Brake", 3,4,false,"","", 32⟩,⟨"Classes", 48,5,false,"","", 40⟩,⟨"Life", 3,6,false,"","", 48⟩,⟨"Floor", 3,7,false,"","", 56⟩],8,64,[i64 0,i64 0,i64 0,i64 0,i64 0,u64 ((0:UInt64)),i64 0,i64 0]⟩:=by kernel_rfl
theorem AjN(F:Out):(B.env F).tab 124=some ⟨.struct #[⟨"Load", 3,0,false,"","", 0⟩,⟨"Tare", 3,1,false,"","", 8⟩,⟨"Length", 3,2,false,"","", 16⟩,⟨"Gauge", 3,3,false,"","", 24⟩,⟨"Brake", 3,4,false,"","", 32⟩,⟨"Classes", 48,5,false,"","", 40⟩,⟨"Life", 3,6,false,"","", 48⟩,⟨"Floor", 3,7,false,"","", 56⟩],8,64,[i64 0,i64 0,i64 0,i64 0,i64 0,u64 ((0:UInt64)),i64 0,i64 0]⟩:=(Ay Tryz.prog 124).trans AnT
theorem Ak9:Bc Tryz.prog 126=some ⟨.struct #[⟨"Type", 3,0,false,"","", 0⟩,⟨"Owner", 3,1,false,"","", 8⟩,⟨"Home", 3,2,false,"","", 16⟩,⟨"Built", 3,3,false,"","", 24⟩,⟨"Worth", 3,4,false,"","", 32⟩],5,40,[i64 0,i64 0,i64 0,i64 0,i64 0]⟩:=by kernel_rfl
theorem AhU(F:Out):(B.env F).tab 126=some ⟨.struct #[⟨"Type", 3,0,false,"","", 0⟩,⟨"Owner", 3,1,false,"","", 8⟩,⟨"Home", 3,2,false,"","", 16⟩,⟨"Built", 3,3,false,"","", 24⟩,⟨"Worth", 3,4,false,"","", 32⟩],5,40,[i64 0,i64 0,i64 0,i64 0,i64 0]⟩:=(Ay Tryz.prog 126).trans Ak9
theorem Aok:Bc Tryz.prog 128=some ⟨.struct #[⟨"Place", 3,0,false,"","", 0⟩,⟨"Low", 3,1,false,"","", 8⟩,⟨"High", 3,2,false,"","", 16⟩],3,24,[i64 0,i64 0,i64 0]⟩:=by kernel_rfl
theorem Ahf(F:Out):(B.env F).tab 128=some ⟨.struct #[⟨"Place", 3,0,false,"","", 0⟩,⟨"Low", 3,1,false,"","", 8⟩,⟨"High", 3,2,false,"","", 16⟩],3,24,[i64 0,i64 0,i64 0]⟩:=(Ay Tryz.prog 128).trans Aok
theorem Alf:Bc Tryz.prog 130=some ⟨.struct #[⟨"Place", 3,0,false,"","", 0⟩],1,8,[i64 0]⟩:=by kernel_rfl
theorem Ag0(F:Out):(B.env F).tab 130=some ⟨.struct #[⟨"Place", 3,0,false,"","", 0⟩],1,8,[i64 0]⟩:=(Ay Tryz.prog 130).trans Alf
theorem Ak2:Bc Tryz.prog 138=some ⟨.map 44 143,1,8,[.val (.map none)]⟩:=by kernel_rfl
theorem Aod(F:Out):(B.env F).tab 138=some ⟨.map 44 143,1,8,[.val (.map none)]⟩:=(Ay Tryz.prog 138).trans Ak2
theorem Ano:Bc Tryz.prog 143=some ⟨.struct #[⟨"Ref", 44,0,false,"","", 0⟩,⟨"By", 44,2,false,"","", 16⟩,⟨"Time", 3,4,false,"","", 32⟩,⟨"Item", 47,5,false,"","", 40⟩],21,192,[i64 0,i64 0,i64 0,i64 0,i64 0,i64 0,i64 0,i64 0,i64 0,i64 0,i64 0,i64 0,i64 0,i64 0,i64 0,i64 0,i64 0,i64 0,i64 0,.str (([]:List UInt8)),.sl true (L Ad ([]))]⟩:=by kernel_rfl
theorem Afy(F:Out):(B.env F).tab 143=some ⟨.struct #[⟨"Ref", 44,0,false,"","", 0⟩,⟨"By", 44,2,false,"","", 16⟩,⟨"Time", 3,4,false,"","", 32⟩,⟨"Item", 47,5,false,"","", 40⟩],21,192,[i64 0,i64 0,i64 0,i64 0,i64 0,i64 0,i64 0,i64 0,i64 0,i64 0,i64 0,i64 0,i64 0,i64 0,i64 0,i64 0,i64 0,i64 0,i64 0,.str (([]:List UInt8)),.sl true (L Ad ([]))]⟩:=(Ay Tryz.prog 143).trans Ano
theorem Anv:Bc Tryz.prog 155=some ⟨.struct #[⟨"Wanted", 3,0,false,"","", 0⟩,⟨"Given", 3,1,false,"","", 8⟩,⟨"Cost", 3,2,false,"","", 16⟩],3,24,[i64 0,i64 0,i64 0]⟩:=by kernel_rfl
theorem Ajg(F:Out):(B.env F).tab 155=some ⟨.struct #[⟨"Wanted", 3,0,false,"","", 0⟩,⟨"Given", 3,1,false,"","", 8⟩,⟨"Cost", 3,2,false,"","", 16⟩],3,24,[i64 0,i64 0,i64 0]⟩:=(Ay Tryz.prog 155).trans Anv
theorem Als:Bc Tryz.prog 170=some ⟨.int .i64,1,8,[i64 0]⟩:=by kernel_rfl
theorem AfJ(F:Out):(B.env F).tab 170=some ⟨.int .i64,1,8,[i64 0]⟩:=(Ay Tryz.prog 170).trans Als
theorem All:Bc Tryz.prog 174=some ⟨.struct #[⟨"b", 63,0,false,"","wagonpool/codec", 0⟩],1,24,[.sl true (L cU8 ([]))]⟩:=by kernel_rfl
theorem Aoe(F:Out):(B.env F).tab 174=some ⟨.struct #[⟨"b", 63,0,false,"","wagonpool/codec", 0⟩],1,24,[.sl true (L cU8 ([]))]⟩:=(Ay Tryz.prog 174).trans All
theorem Anr:Bc Tryz.prog 177=some ⟨.pointer 3,1,8,[.val (.pointer none)]⟩:=by kernel_rfl
theorem Ae4(F:Out):(B.env F).tab 177=some ⟨.pointer 3,1,8,[.val (.pointer none)]⟩:=(Ay Tryz.prog 177).trans Anr
theorem Anq:Bc Tryz.prog 178=some ⟨.array 11 177,11,88,[.val (.pointer none),.val (.pointer none),.val (.pointer none),.val (.pointer none),.val (.pointer none),.val (.pointer none),.val (.pointer none),.val (.pointer none),.val (.pointer none),.val (.pointer none),.val (.pointer none)]⟩:=by kernel_rfl
theorem AfK(F:Out):(B.env F).tab 178=some ⟨.array 11 177,11,88,[.val (.pointer none),.val (.pointer none),.val (.pointer none),.val (.pointer none),.val (.pointer none),.val (.pointer none),.val (.pointer none),.val (.pointer none),.val (.pointer none),.val (.pointer none),.val (.pointer none)]⟩:=(Ay Tryz.prog 178).trans Anq
theorem AlK:Bc Tryz.prog 182=some ⟨.struct #[⟨"Kind", 3,0,false,"","", 0⟩,⟨"Serial", 3,1,false,"","", 8⟩,⟨"Fitted", 4,2,false,"","", 16⟩],3,24,[i64 0,i64 0,.bool false]⟩:=by kernel_rfl
theorem Acv(F:Out):(B.env F).tab 182=some ⟨.struct #[⟨"Kind", 3,0,false,"","", 0⟩,⟨"Serial", 3,1,false,"","", 8⟩,⟨"Fitted", 4,2,false,"","", 16⟩],3,24,[i64 0,i64 0,.bool false]⟩:=(Ay Tryz.prog 182).trans AlK
theorem Am1:Bc Tryz.prog 184=some ⟨.int .u64,1,8,[u64 ((0:UInt64))]⟩:=by kernel_rfl
theorem Am8(F:Out):(B.env F).tab 184=some ⟨.int .u64,1,8,[u64 ((0:UInt64))]⟩:=(Ay Tryz.prog 184).trans Am1
theorem Am3:Bc Tryz.prog 199=some ⟨.struct #[⟨"From", 3,0,false,"","", 0⟩,⟨"To", 3,1,false,"","", 8⟩,⟨"Minutes", 3,2,false,"","", 16⟩],3,24,[i64 0,i64 0,i64 0]⟩:=by kernel_rfl
theorem Ag6(F:Out):(B.env F).tab 199=some ⟨.struct #[⟨"From", 3,0,false,"","", 0⟩,⟨"To", 3,1,false,"","", 8⟩,⟨"Minutes", 3,2,false,"","", 16⟩],3,24,[i64 0,i64 0,i64 0]⟩:=(Ay Tryz.prog 199).trans Am3
theorem AkR:Bc Tryz.prog 204=some ⟨.slice 48,1,24,[.sl true (L R3 ([]))]⟩:=by kernel_rfl
theorem Ahk(F:Out):(B.env F).tab 204=some ⟨.slice 48,1,24,[.sl true (L R3 ([]))]⟩:=(Ay Tryz.prog 204).trans AkR
theorem Ant:Bc Tryz.prog 208=some ⟨.array 64 4,64,64,(C1 AV.bool ((Arr.rep 64 false)).l)⟩:=Qb (by kernel_rfl) (by kernel_rfl)
theorem Aea(F:Out):(B.env F).tab 208=some ⟨.array 64 4,64,64,(C1 AV.bool ((Arr.rep 64 false)).l)⟩:=(Ay Tryz.prog 208).trans Ant
theorem Any:Bc Tryz.prog 209=some ⟨.array 64 208,4096,4096,(C1 AV.bool ((Arr.rep 4096 false)).l)⟩:=Qb (by kernel_rfl) (by kernel_rfl)
theorem AjD(F:Out):(B.env F).tab 209=some ⟨.array 64 208,4096,4096,(C1 AV.bool ((Arr.rep 4096 false)).l)⟩:=(Ay Tryz.prog 209).trans Any
theorem AnS:Bc Tryz.prog 211=some ⟨.struct #[⟨"p", 36,0,false,"","wagonpool/edi", 0⟩,⟨"it", 47,9,false,"","wagonpool/edi", 216⟩,⟨"ok", 4,25,false,"","wagonpool/edi", 368⟩],26,376,[.sl true (L Ah ([])),.sl true (L Al ([])),.sl true (L Ab ([])),.sl true (L Af ([])),.sl true (L Aj ([])),.sl true (L Ai ([])),.sl true (L Ag ([])),.sl true (L Ae ([])),.sl true (L Ac ([])),i64 0,i64 0,i64 0,i64 0,i64 0,i64 0,i64 0,i64 0,i64 0,i64 0,i64 0,i64 0,i64 0,i64 0,.str (([]:List UInt8)),.sl true (L Ad ([])),.bool false]⟩:=by kernel_rfl
theorem Aob(F:Out):(B.env F).tab 211=some ⟨.struct #[⟨"p", 36,0,false,"","wagonpool/edi", 0⟩,⟨"it", 47,9,false,"","wagonpool/edi", 216⟩,⟨"ok", 4,25,false,"","wagonpool/edi", 368⟩],26,376,[.sl true (L Ah ([])),.sl true (L Al ([])),.sl true (L Ab ([])),.sl true (L Af ([])),.sl true (L Aj ([])),.sl true (L Ai ([])),.sl true (L Ag ([])),.sl true (L Ae ([])),.sl true (L Ac ([])),i64 0,i64 0,i64 0,i64 0,i64 0,i64 0,i64 0,i64 0,i64 0,i64 0,i64 0,i64 0,i64 0,i64 0,.str (([]:List UInt8)),.sl true (L Ad ([])),.bool false]⟩:=(Ay Tryz.prog 211).trans AnS
theorem An8:Bc Tryz.prog 219=some ⟨.slice 63,1,24,[.sl true (L (cSl cU8) ([]))]⟩:=by kernel_rfl
theorem Aj7(F:Out):(B.env F).tab 219=some ⟨.slice 63,1,24,[.sl true (L (cSl cU8) ([]))]⟩:=(Ay Tryz.prog 219).trans An8
theorem Am7:Bc Tryz.prog 220=some ⟨.int .u32,1,4,[u32 ((0:UInt32))]⟩:=by kernel_rfl
theorem AbP(F:Out):(B.env F).tab 220=some ⟨.int .u32,1,4,[u32 ((0:UInt32))]⟩:=(Ay Tryz.prog 220).trans Am7
theorem Aoc:Bc Tryz.prog 221=some ⟨.array 8 220,8,32,(C1 u32 ((Arr.rep 8 (0:UInt32))).l)⟩:=by kernel_rfl
theorem AhB(F:Out):(B.env F).tab 221=some ⟨.array 8 220,8,32,(C1 u32 ((Arr.rep 8 (0:UInt32))).l)⟩:=(Ay Tryz.prog 221).trans Aoc
theorem AkZ:Bc Tryz.prog 232=some ⟨.array 64 220,64,256,(C1 u32 ((Arr.rep 64 (0:UInt32))).l)⟩:=by kernel_rfl
theorem AfQ(F:Out):(B.env F).tab 232=some ⟨.array 64 220,64,256,(C1 u32 ((Arr.rep 64 (0:UInt32))).l)⟩:=(Ay Tryz.prog 232).trans AkZ
theorem AhR:AV.int .u32 0=u32 0:=rfl
theorem OY:AV.int .u32 113926993=u32 113926993:=rfl
theorem Pf:AV.int .u32 264347078=u32 264347078:=rfl
theorem Pg:AV.int .u32 275423344=u32 275423344:=rfl
theorem Pc:AV.int .u32 310598401=u32 310598401:=rfl
theorem Px:AV.int .u32 338241895=u32 338241895:=rfl
theorem P3:AV.int .u32 430227734=u32 430227734:=rfl
theorem OQ:AV.int .u32 506948616=u32 506948616:=rfl
theorem Pt:AV.int .u32 528734635=u32 528734635:=rfl
theorem Pp:AV.int .u32 604807628=u32 604807628:=rfl
theorem Pj:AV.int .u32 607225278=u32 607225278:=rfl
theorem Pu:AV.int .u32 659060556=u32 659060556:=rfl
theorem Ph:AV.int .u32 666307205=u32 666307205:=rfl
theorem OT:AV.int .u32 770255983=u32 770255983:=rfl
theorem P5:AV.int .u32 773529912=u32 773529912:=rfl
theorem Pl:AV.int .u32 883997877=u32 883997877:=rfl
theorem Pk:AV.int .u32 958139571=u32 958139571:=rfl
theorem P1:AV.int .u32 961987163=u32 961987163:=rfl
theorem M5:AV.int .u32 1013904242=u32 1013904242:=rfl
theorem NS:AV.int .u32 1116352408=u32 1116352408:=rfl
theorem O9:AV.int .u32 1249150122=u32 1249150122:=rfl
theorem OA:AV.int .u32 1294757372=u32 1294757372:=rfl
theorem Mx:AV.int .u32 1322822218=u32 1322822218:=rfl
theorem Od:AV.int .u32 1359893119=u32 1359893119:=rfl
theorem NZ:AV.int .u32 1396182291=u32 1396182291:=rfl
theorem Mt:AV.int .u32 1426881987=u32 1426881987:=rfl
theorem MQ:AV.int .u32 1508970993=u32 1508970993:=rfl
theorem OC:AV.int .u32 1537002063=u32 1537002063:=rfl
theorem Nh:AV.int .u32 1541459225=u32 1541459225:=rfl
theorem Oh:AV.int .u32 1555081692=u32 1555081692:=rfl
theorem Oq:AV.int .u32 1695183700=u32 1695183700:=rfl
theorem Np:AV.int .u32 1747873779=u32 1747873779:=rfl
theorem NI:AV.int .u32 1779033703=u32 1779033703:=rfl
theorem MH:AV.int .u32 1899447441=u32 1899447441:=rfl
theorem NF:AV.int .u32 1925078388=u32 1925078388:=rfl
theorem ME:AV.int .u32 1955562222=u32 1955562222:=rfl
theorem Na:AV.int .u32 1986661051=u32 1986661051:=rfl
theorem MA:AV.int .u32 1996064986=u32 1996064986:=rfl
theorem M8:AV.int .u32 2024104815=u32 2024104815:=rfl
theorem MG:AV.int .u32 2162078206=u32 2162078206:=rfl
theorem Nr:AV.int .u32 2177026350=u32 2177026350:=rfl
theorem Nv:AV.int .u32 2227730452=u32 2227730452:=rfl
theorem N0:AV.int .u32 2361852424=u32 2361852424:=rfl
theorem Ot:AV.int .u32 2428436474=u32 2428436474:=rfl
theorem NJ:AV.int .u32 2453635748=u32 2453635748:=rfl
theorem Mu:AV.int .u32 2456956037=u32 2456956037:=rfl
theorem MU:AV.int .u32 2554220882=u32 2554220882:=rfl
theorem MM:AV.int .u32 2600822924=u32 2600822924:=rfl
theorem NU:AV.int .u32 2614888103=u32 2614888103:=rfl
theorem M4:AV.int .u32 2730485921=u32 2730485921:=rfl
theorem MW:AV.int .u32 2756734187=u32 2756734187:=rfl
theorem N8:AV.int .u32 2773480762=u32 2773480762:=rfl
theorem Ns:AV.int .u32 2820302411=u32 2820302411:=rfl
theorem Mz:AV.int .u32 2821834349=u32 2821834349:=rfl
theorem Ny:AV.int .u32 2870763221=u32 2870763221:=rfl
theorem M3:AV.int .u32 2952996808=u32 2952996808:=rfl
theorem OB:AV.int .u32 3049323471=u32 3049323471:=rfl
theorem My:AV.int .u32 3144134277=u32 3144134277:=rfl
theorem O3:AV.int .u32 3204031479=u32 3204031479:=rfl
theorem Nj:AV.int .u32 3210313671=u32 3210313671:=rfl
theorem Oe:AV.int .u32 3248222580=u32 3248222580:=rfl
theorem Ng:AV.int .u32 3259730800=u32 3259730800:=rfl
theorem MP:AV.int .u32 3329325298=u32 3329325298:=rfl
theorem O4:AV.int .u32 3336571891=u32 3336571891:=rfl
theorem Nz:AV.int .u32 3345764771=u32 3345764771:=rfl
theorem M6:AV.int .u32 3516065817=u32 3516065817:=rfl
theorem Ol:AV.int .u32 3584528711=u32 3584528711:=rfl
theorem NN:AV.int .u32 3600352804=u32 3600352804:=rfl
theorem Nc:AV.int .u32 3624381080=u32 3624381080:=rfl
theorem O2:AV.int .u32 3835390401=u32 3835390401:=rfl
theorem NV:AV.int .u32 3921009573=u32 3921009573:=rfl
theorem OK:AV.int .u32 4022224774=u32 4022224774:=rfl
theorem MD:AV.int .u32 4094571909=u32 4094571909:=rfl
theorem Akg:AV.int .u64 0=u64 0:=rfl
theorem AhG:AV.int .u64 1=u64 1:=rfl
theorem AjZ:AV.int .u64 2=u64 2:=rfl
theorem Ag3:AV.int .u64 3=u64 3:=rfl
theorem Ajc:AV.int .u64 4=u64 4:=rfl
theorem Ajq:AV.int .u64 7=u64 7:=rfl
theorem Ai7:AV.int .u64 8=u64 8:=rfl
theorem Aey:AV.int .u64 10=u64 10:=rfl
theorem AfR:AV.int .u64 16=u64 16:=rfl
theorem Agn:AV.int .u64 24=u64 24:=rfl
theorem Aeo:AV.int .u64 31=u64 31:=rfl
theorem Aew:AV.int .u64 32=u64 32:=rfl
theorem Aem:AV.int .u64 64=u64 64:=rfl
theorem AbO:AV.int .u64 256=u64 256:=rfl
theorem WA:AV.int .u64 65536=u64 65536:=rfl
theorem NM:AV.int .u64 4294967295=u64 4294967295:=rfl
theorem M1:AV.int .u64 4294967296=u64 4294967296:=rfl
theorem Hd:AV.int .u64 1152921504606845398=u64 1152921504606845398:=rfl
theorem GS:AV.int .u64 1152921504606845399=u64 1152921504606845399:=rfl
theorem Hg:AV.int .u64 2305843009213690799=u64 2305843009213690799:=rfl
theorem Alq:AV.int .u8 0=u8 0:=rfl
theorem AgO:AV.int .u8 23=u8 23:=rfl
theorem Akh:AV.int .u8 31=u8 31:=rfl
theorem AiT:AV.int .u8 32=u8 32:=rfl
theorem AhS:AV.int .u8 40=u8 40:=rfl
theorem Aji:AV.int .u8 48=u8 48:=rfl
theorem AiK:AV.int .u8 64=u8 64:=rfl
theorem AjU:AV.int .u8 99=u8 99:=rfl
theorem Aes:AV.int .u8 100=u8 100:=rfl
theorem Afr:AV.int .u8 102=u8 102:=rfl
theorem AfB:AV.int .u8 103=u8 103:=rfl
theorem Af5:AV.int .u8 107=u8 107:=rfl
theorem AeG:AV.int .u8 110=u8 110:=rfl
theorem Aet:AV.int .u8 111=u8 111:=rfl
theorem Agv:AV.int .u8 112=u8 112:=rfl
theorem Ags:AV.int .u8 113=u8 113:=rfl
theorem Aeb:AV.int .u8 116=u8 116:=rfl
theorem AfN:AV.int .u8 119=u8 119:=rfl
theorem Aep:AV.int .u8 120=u8 120:=rfl
theorem Aex:AV.int .u8 127=u8 127:=rfl
theorem AeW:AV.int .u8 128=u8 128:=rfl
theorem Aeg:AV.int .u8 255=u8 255:=rfl
theorem nb36{F}:((B.env F).bty=some 36)=False:=ApV (fun h:(none:Option TypeId)=some 36=>by cases h)
theorem Adj{F}{σ:Am}(s x:AV):AU (B.env F) σ .append [34,34] [s,x]=match ER σ x with
      | some new=>if E5 x 16=true then none else if ∀cs∈new,cs.length=16 then(match s with
          | .sl full els=>
            if els=[]∧full=true then
              if CI new.length 144 then some (.bs false σ.length new.length 0 new.length,σ++[.buf 16 new false])else none
            else if new=[]then some (.sl full els,σ)
            else if full=true∧(∀cs∈els,cs.length=16)∧CI (els.length+new.length) 144
            then some (.bs false σ.length (els.length+new.length) 0 (els.length+new.length),σ++[.buf 16 (els++new) false])else none
          | .bs full id tot off len=>match σ[id]? with
            | some (.buf k els ro)=>
              if els.length=tot∧k=16∧CI (len+new.length) 144 then
                if off=0∧len=tot then some (.bs false id (tot+new.length) 0 (tot+new.length),σ.set id (.buf k (els++new) ro))
                else if new=[]then some (.bs full id tot off len,σ)
                else if full then some (.bs false σ.length (len+new.length) 0 (len+new.length),σ++[.buf k ((els.drop off).take len++new) false])
                else none
              else none
            |some (.tb T l)=>NL σ id tot off len 144 16 74 T l new
            |_=>none
          |_=>none)
        else none
      |none=>none:=EP (Aku F) (AnV F) (by decide) (Aku F) (.inl ⟨_,rfl⟩) s x []
theorem nb47{F}:((B.env F).bty=some 47)=False:=ApV (fun h:(none:Option TypeId)=some 47=>by cases h)
theorem Aht{F}{σ:Am}(f:Bool)(l:List Aol)(x:AV):Ar (B.env F) σ 22 (.sl f (L Ah l)) x=match idx x l.length with
 |some i=>some (.rp (Ah (nth l i)))
 |none=>none:=E6 Ah (tb22 F) (AiZ F) (fun _=>rfl) f l x
theorem AnZ{F}:((B.env F).bty=some 120)=False:=ApV (fun h:(none:Option TypeId)=some 120=>by cases h)
theorem Aje{F}{σ:Am}(f:Bool)(l:List Aom)(x:AV):Ar (B.env F) σ 23 (.sl f (L Al l)) x=match idx x l.length with
 |some i=>some (.rp (Al (nth l i)))
 |none=>none:=E6 Al (tb23 F) (Akj F) (fun _=>rfl) f l x
theorem Am0{F}:((B.env F).bty=some 122)=False:=ApV (fun h:(none:Option TypeId)=some 122=>by cases h)
theorem nb57{F}:((B.env F).bty=some 57)=False:=ApV (fun h:(none:Option TypeId)=some 57=>by cases h)
theorem Ahh{F}{σ:Am}(f:Bool)(l:List Aoo)(x:AV):Ar (B.env F) σ 26 (.sl f (L Ab l)) x=match idx x l.length with
 |some i=>some (.rp (Ab (nth l i)))
 |none=>none:=E6 Ab (tb26 F) (AjN F) (fun _=>rfl) f l x
theorem AmT{F}:((B.env F).bty=some 124)=False:=ApV (fun h:(none:Option TypeId)=some 124=>by cases h)
theorem AiL{F}{σ:Am}(f:Bool)(id tot off len:Nat)(x:AV):Ar (B.env F) σ 70 (.bs f id tot off len) x=match σ[id]?,idx x len with
 |some (.buf k els _),some i=>if els.length=tot∧k=1 then some (.eref id tot (off+i) 0)else none
 |_,_=>none:=YE (AkN F) (tb3 F) (by decide) f id tot off len x
theorem Aie{F}{σ:Am}(f:Bool)(l:List Aop)(x:AV):Ar (B.env F) σ 27 (.sl f (L Af l)) x=match idx x l.length with
 |some i=>some (.rp (Af (nth l i)))
 |none=>none:=E6 Af (tb27 F) (AhU F) (fun _=>rfl) f l x
theorem Ami{F}:((B.env F).bty=some 126)=False:=ApV (fun h:(none:Option TypeId)=some 126=>by cases h)
theorem AgY{F}{σ:Am}(f:Bool)(l:List Aoq)(x:AV):Ar (B.env F) σ 28 (.sl f (L Aj l)) x=match idx x l.length with
 |some i=>some (.rp (Aj (nth l i)))
 |none=>none:=E6 Aj (tb28 F) (Ajg F) (fun _=>rfl) f l x
theorem Ama{F}:((B.env F).bty=some 155)=False:=ApV (fun h:(none:Option TypeId)=some 155=>by cases h)
theorem AlI{F}:((B.env F).bty=some 209)=False:=ApV (fun h:(none:Option TypeId)=some 209=>by cases h)
theorem AjC{F}{σ:Am}(f:Bool)(l:List Aor)(x:AV):Ar (B.env F) σ 29 (.sl f (L Ai l)) x=match idx x l.length with
 |some i=>some (.rp (Ai (nth l i)))
 |none=>none:=E6 Ai (tb29 F) (Ag6 F) (fun _=>rfl) f l x
theorem AkJ{F}:((B.env F).bty=some 199)=False:=ApV (fun h:(none:Option TypeId)=some 199=>by cases h)
theorem Af0{F}(id off:Nat)(x:AV){σ:Am}:Ar (B.env F) σ 209 (.ref id off) x=match idx x 64 with
 |some i=>some (.ref id (off+i*64))
 |none=>none:=K3 (AjD F) (Aea F) id off x
theorem AeM{F}(id off:Nat)(x:AV){σ:Am}:Ar (B.env F) σ 208 (.ref id off) x=match idx x 64 with
 |some i=>some (.ref id (off+i*1))
 |none=>none:=K3 (Aea F) (tb4 F) id off x
theorem AnK{F}(cs:List AV)(x:AV):HY (B.env F) 69 (.agg cs) x=match idx x 7 with
 |some i=>partA (⟨.struct #[⟨"From", 3,0,false,"","", 0⟩,⟨"To", 3,1,false,"","", 8⟩],2,16,[i64 0,i64 0]⟩:TD) cs (i*2)
 |none=>none:=P9 (tb69 F) (tb68 F) cs x
theorem nb68{F}:((B.env F).bty=some 68)=False:=ApV (fun h:(none:Option TypeId)=some 68=>by cases h)
theorem AjT{F}{σ:Am}(f:Bool)(l:List Int)(x:AV):Ar (B.env F) σ 70 (.sl f (L JD l)) x=match idx x l.length with
 |some i=>some (.rp (JD (nth l i)))
 |none=>none:=E6 JD (AkN F) (tb3 F) (fun _=>rfl) f l x
theorem AiN{F}(l:List UInt8)(x:AV):HY (B.env F) 9 (.str l) x=match idx x l.length with
 |some i=>some (u8 (nth l i))
 |none=>none:=WC (tb9 F) l x
theorem Ahd{F}{σ:Am}(f:Bool)(l:List Aot)(x:AV):Ar (B.env F) σ 32 (.sl f (L Ag l)) x=match idx x l.length with
 |some i=>some (.rp (Ag (nth l i)))
 |none=>none:=E6 Ag (tb32 F) (Ahf F) (fun _=>rfl) f l x
theorem Al5{F}:((B.env F).bty=some 128)=False:=ApV (fun h:(none:Option TypeId)=some 128=>by cases h)
theorem Akm{F}{σ:Am}(f:Bool)(l:List Aou)(x:AV):Ar (B.env F) σ 33 (.sl f (L Ae l)) x=match idx x l.length with
 |some i=>some (.rp (Ae (nth l i)))
 |none=>none:=E6 Ae (tb33 F) (Ag0 F) (fun _=>rfl) f l x
theorem Alw{F}:((B.env F).bty=some 130)=False:=ApV (fun h:(none:Option TypeId)=some 130=>by cases h)
theorem Ahr{F}{σ:Am}(f:Bool)(l:List Aox)(x:AV):Ar (B.env F) σ 34 (.sl f (L Ac l)) x=match idx x l.length with
 |some i=>some (.rp (Ac (nth l i)))
 |none=>none:=E6 Ac (Aku F) (AnV F) (fun _=>rfl) f l x
theorem nb74{F}:((B.env F).bty=some 74)=False:=ApV (fun h:(none:Option TypeId)=some 74=>by cases h)
theorem Aki{F}{σ:Am}(f:Bool)(l:List (List AoD))(x:AV):Ar (B.env F) σ 37 (.sl f (L (cSl Ak) l)) x=match idx x l.length with
 |some i=>some (.rp ((cSl Ak) (nth l i)))
 |none=>none:=E6 (cSl Ak) (AgK F) (AdT F) (fun _=>rfl) f l x
theorem An3{F}:((B.env F).bty=some 105)=False:=ApV (fun h:(none:Option TypeId)=some 105=>by cases h)
theorem Ai8{F}(cs:List AV)(x:AV):HY (B.env F) 178 (.agg cs) x=match idx x 11 with
 |some i=>partA (⟨.pointer 3,1,8,[.val (.pointer none)]⟩:TD) cs (i*1)
 |none=>none:=P9 (AfK F) (Ae4 F) cs x
theorem XA{F}{σ:Am}(s x:AV):AU (B.env F) σ .append [103,103] [s,x]=match ER σ x with
      | some new=>if E5 x 4=true then none else if ∀cs∈new,cs.length=4 then(match s with
          | .sl full els=>
            if els=[]∧full=true then
              if CI new.length 64 then some (.bs false σ.length new.length 0 new.length,σ++[.buf 4 new false])else none
            else if new=[]then some (.sl full els,σ)
            else if full=true∧(∀cs∈els,cs.length=4)∧CI (els.length+new.length) 64
            then some (.bs false σ.length (els.length+new.length) 0 (els.length+new.length),σ++[.buf 4 (els++new) false])else none
          | .bs full id tot off len=>match σ[id]? with
            | some (.buf k els ro)=>
              if els.length=tot∧k=4∧CI (len+new.length) 64 then
                if off=0∧len=tot then some (.bs false id (tot+new.length) 0 (tot+new.length),σ.set id (.buf k (els++new) ro))
                else if new=[]then some (.bs full id tot off len,σ)
                else if full then some (.bs false σ.length (len+new.length) 0 (len+new.length),σ++[.buf k ((els.drop off).take len++new) false])
                else none
              else none
            |some (.tb T l)=>NL σ id tot off len 64 4 105 T l new
            |_=>none
          |_=>none)
        else none
      |none=>none:=EP (Ab3 F) (AeV F) (by decide) (Ab3 F) (.inl ⟨_,rfl⟩) s x []
theorem Aj8{F}{σ:Am}(f:Bool)(l:List AoA)(x:AV):Ar (B.env F) σ 45 (.sl f (L Ad l)) x=match idx x l.length with
 |some i=>some (.rp (Ad (nth l i)))
 |none=>none:=E6 Ad (AkD F) (Acv F) (fun _=>rfl) f l x
theorem AmH{F}:((B.env F).bty=some 182)=False:=ApV (fun h:(none:Option TypeId)=some 182=>by cases h)
theorem AnB{F}{σ:Am}(l c:Int):Eb (B.env F) σ 63 (i64 l) (i64 c)=if Mk l c 1 then some (.bs (l==c) σ.length l.toNat 0 l.toNat,σ++[.buf 1 (List.replicate l.toNat [u8 ((0:UInt8))]) false])else none:=Aam (Aeh F) (tb5 F) (by decide) l c
theorem AiB{F}{σ:Am}(f:Bool)(id tot off len:Nat)(x:AV):Ar (B.env F) σ 63 (.bs f id tot off len) x=match σ[id]?,idx x len with
 |some (.buf k els _),some i=>if els.length=tot∧k=1 then some (.eref id tot (off+i) 0)else none
 |_,_=>none:=YE (Aeh F) (tb5 F) (by decide) f id tot off len x
theorem Afj{F}{σ:Am}(f:Bool)(l:List AoG)(x:AV):Ar (B.env F) σ 103 (.sl f (L cApi_Value l)) x=match idx x l.length with
 |some i=>some (.rp (cApi_Value (nth l i)))
 |none=>none:=E6 cApi_Value (Ab3 F) (AeV F) (fun y=>by rw[JR];rfl) f l x
theorem AbW{F}{σ:Am}(s x:AV):AU (B.env F) σ .append [63,63] [s,x]=match ER σ x with
      | some new=>if E5 x 1=true then none else if ∀cs∈new,cs.length=1 then(match s with
          | .sl full els=>
            if els=[]∧full=true then
              if CI new.length 1 then some (.bs false σ.length new.length 0 new.length,σ++[.buf 1 new false])else none
            else if new=[]then some (.sl full els,σ)
            else if full=true∧(∀cs∈els,cs.length=1)∧CI (els.length+new.length) 1
            then some (.bs false σ.length (els.length+new.length) 0 (els.length+new.length),σ++[.buf 1 (els++new) false])else none
          | .bs full id tot off len=>match σ[id]? with
            | some (.buf k els ro)=>
              if els.length=tot∧k=1∧CI (len+new.length) 1 then
                if off=0∧len=tot then some (.bs false id (tot+new.length) 0 (tot+new.length),σ.set id (.buf k (els++new) ro))
                else if new=[]then some (.bs full id tot off len,σ)
                else if full then some (.bs false σ.length (len+new.length) 0 (len+new.length),σ++[.buf k ((els.drop off).take len++new) false])
                else none
              else none
            |some (.tb T l)=>NL σ id tot off len 1 1 5 T l new
            |_=>none
          |_=>none)
        else none
      |none=>none:=EP (Aeh F) (tb5 F) (by decide) (Aeh F) (.inl ⟨_,rfl⟩) s x []
theorem Akd{F}{σ:Am}(f:Bool)(l:List UInt8)(x:AV):Ar (B.env F) σ 63 (.sl f (L cU8 l)) x=match idx x l.length with
 |some i=>some (.rp (cU8 (nth l i)))
 |none=>none:=E6 cU8 (Aeh F) (tb5 F) (fun _=>rfl) f l x
theorem Alu{F}:((B.env F).bty=some 221)=False:=ApV (fun h:(none:Option TypeId)=some 221=>by cases h)
theorem Anp{F}:((B.env F).bty=some 232)=False:=ApV (fun h:(none:Option TypeId)=some 232=>by cases h)
theorem AfM{F}{σ:Am}(id off:Nat)(x:AV):Ar (B.env F) σ 232 (.ref id off) x=match idx x 64 with
 |some i=>some (.ref id (off+i*1))
 |none=>none:=K3 (AfQ F) (AbP F) id off x
theorem Agj{F}{σ:Am}(id off:Nat)(x:AV):Ar (B.env F) σ 221 (.ref id off) x=match idx x 8 with
 |some i=>some (.ref id (off+i*1))
 |none=>none:=K3 (AhB F) (AbP F) id off x
theorem Yt{F}{σ:Am}(x:AV):Ar (B.env F) σ 232 (.glob 3) x=match idx x 64 with
 |some i=>some (.rp ((C1 u32 glob3.l).drop i))
 |none=>none:=Abs (AfQ F) (AbP F) rfl x
theorem nb42{F}:((B.env F).bty=some 42)=False:=ApV (fun h:(none:Option TypeId)=some 42=>by cases h)
theorem AeS{F}{σ:Am}(f:Bool)(l:List (List UInt8))(x:AV):Ar (B.env F) σ 219 (.sl f (L (cSl cU8) l)) x=match idx x l.length with
 |some i=>some (.rp ((cSl cU8) (nth l i)))
 |none=>none:=E6 (cSl cU8) (Aj7 F) (Aeh F) (fun _=>rfl) f l x
theorem Ajz{F}{σ:Am}(id off:Nat)(x:AV):Ar (B.env F) σ 42 (.ref id off) x=match idx x 32 with
 |some i=>some (.ref id (off+i*1))
 |none=>none:=K3 (AkA F) (tb5 F) id off x
theorem AeX{F}{σ:Am}(f:Bool)(l:List UInt64)(x:AV):Ar (B.env F) σ 204 (.sl f (L R3 l)) x=match idx x l.length with
 |some i=>some (.rp (R3 (nth l i)))
 |none=>none:=E6 R3 (Ahk F) (AkC F) (fun _=>rfl) f l x
theorem nb50{F}:((B.env F).bty=some 50)=False:=ApV (fun h:(none:Option TypeId)=some 50=>by cases h)
theorem Ads{F}(a0:Int)(a1:Int)(b0:Int)(b1:Int):AD (B.env F) .eql 44 (.agg [i64 a0,i64 a1]) (.agg [i64 b0,i64 b1])=some (.bool (((a0==b0)&&(a1==b1)))) :=
 Jq (AnP F) (by kernel_rfl) (by kernel_rfl) (Jd (by decide) (tb3 F) rfl rfl (KZ a0 b0) (Mp (by decide) (tb3 F) rfl rfl (KZ a1 b1)))
theorem AlW{F}:((B.env F).bty=some 211)=False:=ApV (fun h:(none:Option TypeId)=some 211=>by cases h)
theorem Ag1{F}{op:BinOp}(a b:Arr UInt8 32):AD (B.env F) op 42 (.agg (C1 u8 a.l)) (.agg (C1 u8 b.l))=match op with
 |.eql=>some (.bool (a==b))
 |.neq=>some (.bool (!(a==b)))
 |_=>none:=WD (AkA F) (tb5 F) a b
theorem Acl{F}(a0:UInt64)(a1:UInt64)(b0:UInt64)(b1:UInt64):AD (B.env F) .eql 50 (.agg [u64 a0,u64 a1]) (.agg [u64 b0,u64 b1])=some (.bool (((a0==b0)&&(a1==b1)))) :=
 Jq (tb50 F) (by kernel_rfl) (by kernel_rfl) (Jd (by decide) (AkC F) rfl rfl (YV a0 b0) (Mp (by decide) (AkC F) rfl rfl (YV a1 b1)))
theorem AhJ{F}{σ:Am}(f:Bool)(l:List AoD)(x:AV):Ar (B.env F) σ 75 (.sl f (L Ak l)) x=match idx x l.length with
 |some i=>some (.rp (Ak (nth l i)))
 |none=>none:=E6 Ak (AdT F) (AkT F) (fun y=>by simp only[Ak,Ape,Ao7,DC,Apr]) f l x
theorem nb44{F}:((B.env F).bty=some 44)=False:=ApV (fun h:(none:Option TypeId)=some 44=>by cases h)
theorem Ab9{F}(a0:Int)(a1:Int)(b0:Int)(b1:Int):AD (B.env F) .neq 44 (.agg [i64 a0,i64 a1]) (.agg [i64 b0,i64 b1])=some (.bool (!((a0==b0)&&(a1==b1)))) :=
 Jp (AnP F) (by kernel_rfl) (by kernel_rfl) (Jd (by decide) (tb3 F) rfl rfl (KZ a0 b0) (Mp (by decide) (tb3 F) rfl rfl (KZ a1 b1)))
theorem AcK{F}{σ:Am}(s x:AV):AU (B.env F) σ .append [75,75] [s,x]=match ER σ x with
      | some new=>if E5 x 53=true then none else if ∀cs∈new,cs.length=53 then(match s with
          | .sl full els=>
            if els=[]∧full=true then
              if CI new.length 224 then some (.bs false σ.length new.length 0 new.length,σ++[.buf 53 new false])else none
            else if new=[]then some (.sl full els,σ)
            else if full=true∧(∀cs∈els,cs.length=53)∧CI (els.length+new.length) 224
            then some (.bs false σ.length (els.length+new.length) 0 (els.length+new.length),σ++[.buf 53 (els++new) false])else none
          | .bs full id tot off len=>match σ[id]? with
            | some (.buf k els ro)=>
              if els.length=tot∧k=53∧CI (len+new.length) 224 then
                if off=0∧len=tot then some (.bs false id (tot+new.length) 0 (tot+new.length),σ.set id (.buf k (els++new) ro))
                else if new=[]then some (.bs full id tot off len,σ)
                else if full then some (.bs false σ.length (len+new.length) 0 (len+new.length),σ++[.buf k ((els.drop off).take len++new) false])
                else none
              else none
            |some (.tb T l)=>NL σ id tot off len 224 53 52 T l new
            |_=>none
          |_=>none)
        else none
      |none=>none:=EP (AdT F) (AkT F) (by decide) (AdT F) (.inl ⟨_,rfl⟩) s x []
theorem AgS{F}{σ:Am}(f:Bool)(l:List AoE)(x:AV):Ar (B.env F) σ 38 (.sl f (L An l)) x=match idx x l.length with
 |some i=>some (.rp (An (nth l i)))
 |none=>none:=E6 An (AkE F) (Ak0 F) (fun y=>by simp only[An,Ape,Ao7,DC,Apr]) f l x
theorem Ac9{F}{σ:Am}(s x:AV):AU (B.env F) σ .append [38,38] [s,x]=match ER σ x with
      | some new=>if E5 x 106=true then none else if ∀cs∈new,cs.length=106 then(match s with
          | .sl full els=>
            if els=[]∧full=true then
              if CI new.length 448 then some (.bs false σ.length new.length 0 new.length,σ++[.buf 106 new false])else none
            else if new=[]then some (.sl full els,σ)
            else if full=true∧(∀cs∈els,cs.length=106)∧CI (els.length+new.length) 448
            then some (.bs false σ.length (els.length+new.length) 0 (els.length+new.length),σ++[.buf 106 (els++new) false])else none
          | .bs full id tot off len=>match σ[id]? with
            | some (.buf k els ro)=>
              if els.length=tot∧k=106∧CI (len+new.length) 448 then
                if off=0∧len=tot then some (.bs false id (tot+new.length) 0 (tot+new.length),σ.set id (.buf k (els++new) ro))
                else if new=[]then some (.bs full id tot off len,σ)
                else if full then some (.bs false σ.length (len+new.length) 0 (len+new.length),σ++[.buf k ((els.drop off).take len++new) false])
                else none
              else none
            |some (.tb T l)=>NL σ id tot off len 448 106 88 T l new
            |_=>none
          |_=>none)
        else none
      |none=>none:=EP (AkE F) (Ak0 F) (by decide) (AkE F) (.inl ⟨_,rfl⟩) s x []
theorem nb40{F}:((B.env F).bty=some 40)=False:=ApV (fun h:(none:Option TypeId)=some 40=>by cases h)
theorem Amx{F}{σ:Am}(l c:Int):Eb (B.env F) σ 37 (i64 l) (i64 c)=if Mk l c 24 then some (.bs (l==c) σ.length l.toNat 0 l.toNat,σ++[.buf 1 (List.replicate l.toNat [.sl false (L Ak ([]))]) false])else none:=Aam (AgK F) (AdT F) (by decide) l c
theorem AhW{F}{σ:Am}(f:Bool)(id tot off len:Nat)(x:AV):Ar (B.env F) σ 37 (.bs f id tot off len) x=match σ[id]?,idx x len with
 |some (.buf k els _),some i=>if els.length=tot∧k=1 then some (.eref id tot (off+i) 0)else none
 |_,_=>none:=YE (AgK F) (AdT F) (by decide) f id tot off len x
theorem nb52{F}:((B.env F).bty=some 52)=False:=ApV (fun h:(none:Option TypeId)=some 52=>by cases h)
theorem AaU{F}(a0:Int)(a1:Int)(a2:Bool)(b0:Int)(b1:Int)(b2:Bool):AD (B.env F) .neq 182 (.agg [i64 a0,i64 a1,.bool a2]) (.agg [i64 b0,i64 b1,.bool b2])=some (.bool (!((a0==b0)&&((a1==b1)&&(a2==b2))))) :=
 Jp (Acv F) (by kernel_rfl) (by kernel_rfl) (Jd (by decide) (tb3 F) rfl rfl (KZ a0 b0) (Jd (by decide) (tb3 F) rfl rfl (KZ a1 b1) (Mp (by decide) (tb4 F) rfl rfl (Abk a2 b2))))
theorem nb88{F}:((B.env F).bty=some 88)=False:=ApV (fun h:(none:Option TypeId)=some 88=>by cases h)
theorem Adc{F}{σ:Am}(s x:AV):AU (B.env F) σ .append [37,37] [s,x]=match ER σ x with
      | some new=>if E5 x 1=true then none else if ∀cs∈new,cs.length=1 then(match s with
          | .sl full els=>
            if els=[]∧full=true then
              if CI new.length 24 then some (.bs false σ.length new.length 0 new.length,σ++[.buf 1 new false])else none
            else if new=[]then some (.sl full els,σ)
            else if full=true∧(∀cs∈els,cs.length=1)∧CI (els.length+new.length) 24
            then some (.bs false σ.length (els.length+new.length) 0 (els.length+new.length),σ++[.buf 1 (els++new) false])else none
          | .bs full id tot off len=>match σ[id]? with
            | some (.buf k els ro)=>
              if els.length=tot∧k=1∧CI (len+new.length) 24 then
                if off=0∧len=tot then some (.bs false id (tot+new.length) 0 (tot+new.length),σ.set id (.buf k (els++new) ro))
                else if new=[]then some (.bs full id tot off len,σ)
                else if full then some (.bs false σ.length (len+new.length) 0 (len+new.length),σ++[.buf k ((els.drop off).take len++new) false])
                else none
              else none
            |some (.tb T l)=>NL σ id tot off len 24 1 75 T l new
            |_=>none
          |_=>none)
        else none
      |none=>none:=EP (AgK F) (AdT F) (by decide) (AgK F) (.inl ⟨_,rfl⟩) s x []
theorem nb85{F}:((B.env F).bty=some 85)=False:=ApV (fun h:(none:Option TypeId)=some 85=>by cases h)
theorem AgB{F}:AdZ (B.env F) 138=true:=rfl
def Ed(x:AoI):AV:=.agg (A5 x)
def Cx:AoI:=({ Ref:=({ Zb:=0,No:=0 }:Aoz),By:=({ Zb:=0,No:=0 }:Aoz),Zw1:=0,Zx1:=({ Za:=0,Ref:=({ Zb:=0,No:=0 }:Aoz),Zn1:=0,Zb1:=0,Zc:=0,Zo1:=0,Zw:=0,To:=0,Code:=0,Zp1:=0,Zq1:=0,Zr1:=0,Zs1:=0,Zt1:=([]:List UInt8),Zu1:=[] }:AoB) }:AoI)
theorem AfC(a0:Int)(a1:Int)(a2:Int)(a3:Int)(a4:Int)(a5:Int)(a6:Int)(a7:Int)(a8:Int)(a9:Int)(a10:Int)(a11:Int)(a12:Int)(a13:Int)(a14:Int)(a15:Int)(a16:Int)(a17:Int)(a18:Int)(a19:List UInt8)(a20:List AoA){l:List ((Int×Int)×AoI)}{k:Int×Int}:LH (M2 Ed l) k (.agg [i64 a0,i64 a1,i64 a2,i64 a3,i64 a4,i64 a5,i64 a6,i64 a7,i64 a8,i64 a9,i64 a10,i64 a11,i64 a12,i64 a13,i64 a14,i64 a15,i64 a16,i64 a17,i64 a18,.str a19,.sl false (L Ad a20)])=M2 Ed (Aj9 l k (({ Ref:=({ Zb:=a0,No:=a1 }:Aoz),By:=({ Zb:=a2,No:=a3 }:Aoz),Zw1:=a4,Zx1:=({ Za:=a5,Ref:=({ Zb:=a6,No:=a7 }:Aoz),Zn1:=a8,Zb1:=a9,Zc:=a10,Zo1:=a11,Zw:=a12,To:=a13,Code:=a14,Zp1:=a15,Zq1:=a16,Zr1:=a17,Zs1:=a18,Zt1:=a19,Zu1:=a20 }:AoB) }:AoI))):=AdW (c:=Ed) (x:=({ Ref:=({ Zb:=a0,No:=a1 }:Aoz),By:=({ Zb:=a2,No:=a3 }:Aoz),Zw1:=a4,Zx1:=({ Za:=a5,Ref:=({ Zb:=a6,No:=a7 }:Aoz),Zn1:=a8,Zb1:=a9,Zc:=a10,Zo1:=a11,Zw:=a12,To:=a13,Code:=a14,Zp1:=a15,Zq1:=a16,Zr1:=a17,Zs1:=a18,Zt1:=a19,Zu1:=a20 }:AoB) }:AoI))
theorem AcP{F}{l:List ((Int×Int)×AoI)}(a b:Int):O1 (B.env F) 138 (M2 Ed l) (.agg [i64 a,i64 b]) true=if RZ a b then some (.tup [.agg [i64 (((((Fq l (a,b)).getD Cx)).Ref).Zb),i64 (((((Fq l (a,b)).getD Cx)).Ref).No),i64 (((((Fq l (a,b)).getD Cx)).By).Zb),i64 (((((Fq l (a,b)).getD Cx)).By).No),i64 ((((Fq l (a,b)).getD Cx)).Zw1),i64 (((((Fq l (a,b)).getD Cx)).Zx1).Za),i64 ((((((Fq l (a,b)).getD Cx)).Zx1).Ref).Zb),i64 ((((((Fq l (a,b)).getD Cx)).Zx1).Ref).No),i64 (((((Fq l (a,b)).getD Cx)).Zx1).Zn1),i64 (((((Fq l (a,b)).getD Cx)).Zx1).Zb1),i64 (((((Fq l (a,b)).getD Cx)).Zx1).Zc),i64 (((((Fq l (a,b)).getD Cx)).Zx1).Zo1),i64 (((((Fq l (a,b)).getD Cx)).Zx1).Zw),i64 (((((Fq l (a,b)).getD Cx)).Zx1).To),i64 (((((Fq l (a,b)).getD Cx)).Zx1).Code),i64 (((((Fq l (a,b)).getD Cx)).Zx1).Zp1),i64 (((((Fq l (a,b)).getD Cx)).Zx1).Zq1),i64 (((((Fq l (a,b)).getD Cx)).Zx1).Zr1),i64 (((((Fq l (a,b)).getD Cx)).Zx1).Zs1),.str (((((Fq l (a,b)).getD Cx)).Zx1).Zt1),.sl false (L Ad (((((Fq l (a,b)).getD Cx)).Zx1).Zu1))],.bool ((Fq l (a,b)).isSome)])else none:=Y6 (c:=Ed) (z:=Cx) rfl (Afy F) (by decide) rfl
theorem AlE{F}:((B.env F).bty=some 138)=False:=ApV (fun h:(none:Option TypeId)=some 138=>by cases h)
theorem AkO{F}:((B.env F).bty=some 143)=False:=ApV (fun h:(none:Option TypeId)=some 143=>by cases h)
theorem Abn{F}{σ:Am}(s x:AV):AU (B.env F) σ .append [85,85] [s,x]=match ER σ x with
      | some new=>if E5 x 21=true then none else if ∀cs∈new,cs.length=21 then(match s with
          | .sl full els=>
            if els=[]∧full=true then
              if CI new.length 192 then some (.bs false σ.length new.length 0 new.length,σ++[.buf 21 new false])else none
            else if new=[]then some (.sl full els,σ)
            else if full=true∧(∀cs∈els,cs.length=21)∧CI (els.length+new.length) 192
            then some (.bs false σ.length (els.length+new.length) 0 (els.length+new.length),σ++[.buf 21 (els++new) false])else none
          | .bs full id tot off len=>match σ[id]? with
            | some (.buf k els ro)=>
              if els.length=tot∧k=21∧CI (len+new.length) 192 then
                if off=0∧len=tot then some (.bs false id (tot+new.length) 0 (tot+new.length),σ.set id (.buf k (els++new) ro))
                else if new=[]then some (.bs full id tot off len,σ)
                else if full then some (.bs false σ.length (len+new.length) 0 (len+new.length),σ++[.buf k ((els.drop off).take len++new) false])
                else none
              else none
            |some (.tb T l)=>NL σ id tot off len 192 21 143 T l new
            |_=>none
          |_=>none)
        else none
      |none=>none:=EP (Amf F) (Afy F) (by decide) (Amf F) (.inl ⟨_,rfl⟩) s x []
theorem AbG{F}{op:BinOp}(a:Arr UInt8 32):AD (B.env F) op 42 (.agg (C1 u8 a.l)) (.agg [u8 (0:UInt8),u8 (0:UInt8),u8 (0:UInt8),u8 (0:UInt8),u8 (0:UInt8),u8 (0:UInt8),u8 (0:UInt8),u8 (0:UInt8),u8 (0:UInt8),u8 (0:UInt8),u8 (0:UInt8),u8 (0:UInt8),u8 (0:UInt8),u8 (0:UInt8),u8 (0:UInt8),u8 (0:UInt8),u8 (0:UInt8),u8 (0:UInt8),u8 (0:UInt8),u8 (0:UInt8),u8 (0:UInt8),u8 (0:UInt8),u8 (0:UInt8),u8 (0:UInt8),u8 (0:UInt8),u8 (0:UInt8),u8 (0:UInt8),u8 (0:UInt8),u8 (0:UInt8),u8 (0:UInt8),u8 (0:UInt8),u8 (0:UInt8)])=match op with
 |.eql=>some (.bool (a==(⟨[(0:UInt8),0,0,0,0,0,0,0,0,0,0,0,0,0,0,0,0,0,0,0,0,0,0,0,0,0,0,0,0,0,0,0],rfl⟩:Arr UInt8 32)))
 |.neq=>some (.bool (!(a==(⟨[(0:UInt8),0,0,0,0,0,0,0,0,0,0,0,0,0,0,0,0,0,0,0,0,0,0,0,0,0,0,0,0,0,0,0],rfl⟩:Arr UInt8 32))))
 |_=>none:=Ag1 a (⟨[(0:UInt8),0,0,0,0,0,0,0,0,0,0,0,0,0,0,0,0,0,0,0,0,0,0,0,0,0,0,0,0,0,0,0],rfl⟩:Arr UInt8 32)
theorem Aim{F}(x y:Bool):AD (B.env F) .neq 4 (.bool x) (.bool y)=some (.bool (!(x==y))):=SO (tb4 F) x y
theorem AmW{F}:((B.env F).bty=some 178)=False:=ApV (fun h:(none:Option TypeId)=some 178=>by cases h)
theorem Agd{F}{σ:Am}(id off:Nat)(x:AV):Ar (B.env F) σ 178 (.ref id off) x=match idx x 11 with
 |some i=>some (.ref id (off+i*1))
 |none=>none:=K3 (AfK F) (Ae4 F) id off x
theorem AcI{F}{σ:Am}(s x:AV):AU (B.env F) σ .append [45,45] [s,x]=match ER σ x with
      | some new=>if E5 x 3=true then none else if ∀cs∈new,cs.length=3 then(match s with
          | .sl full els=>
            if els=[]∧full=true then
              if CI new.length 24 then some (.bs false σ.length new.length 0 new.length,σ++[.buf 3 new false])else none
            else if new=[]then some (.sl full els,σ)
            else if full=true∧(∀cs∈els,cs.length=3)∧CI (els.length+new.length) 24
            then some (.bs false σ.length (els.length+new.length) 0 (els.length+new.length),σ++[.buf 3 (els++new) false])else none
          | .bs full id tot off len=>match σ[id]? with
            | some (.buf k els ro)=>
              if els.length=tot∧k=3∧CI (len+new.length) 24 then
                if off=0∧len=tot then some (.bs false id (tot+new.length) 0 (tot+new.length),σ.set id (.buf k (els++new) ro))
                else if new=[]then some (.bs full id tot off len,σ)
                else if full then some (.bs false σ.length (len+new.length) 0 (len+new.length),σ++[.buf k ((els.drop off).take len++new) false])
                else none
              else none
            |some (.tb T l)=>NL σ id tot off len 24 3 182 T l new
            |_=>none
          |_=>none)
        else none
      |none=>none:=EP (AkD F) (Acv F) (by decide) (AkD F) (.inl ⟨_,rfl⟩) s x []
theorem Amt{F}(f:Bool)(l:List UInt8):J2 (B.env F) 42 (.sl f (L cU8 l))=if InB 32 l.length then some (.rp (C1 u8 (Sj 32 ((0:UInt8)) l).l))else none:=sapA (AkA F) (fun _=>rfl) (by decide) f l
attribute [go_sem] lm0 own3 own4 own5 own6 own7 own8 own9 Ak4 Ale Amc Amh Anb AlN AkY AlG AmJ AnW Ann AkI AlQ An9 Al9 AnM Alr AkM AlJ Ans Al0 AnO AnQ AlD An6 Ala AnG Alx AnC Ana Amz Alo Alm AlV Alk AnE AlC AmS AmF Alc Ald Anc Alb AnN AnY AlT An2 AmB Amp AnX Ak8 AmO Anx Anz AmA Aml Ams AlA AkP Alj Anw AnA An0 AmI AlZ Amr AlL Aoi Am9 AlX AnF AlS AlH AnR Anf Anj Aog AlR AlY Anm AmQ Ank AnH Alz AmC Aoa AmP AlM AmK AjG Ajj AhQ Ajn Ai2 AjA Ajy Ajw AjM Ahp AiE Ah5 AjB AhE Aj0 AgZ Ajh Ahl Ahq Ajx Aiw Aif Aii Ajv Ail AhZ AhP Aj3 Ahg AgW Aja AjY Aj4 Ahz AiO Aiy AjJ Ai9 AhY Aiq Ajm AgT Ahs Ahi Ajb Aip AjR AgQ AhV Akk Ag8 Ahx AgX AhD Akp Ag7 AhM AiS Aih Aib AiQ Akr AiA AhF AjF Akc AiG AiP AiM Ah Al SJ Ab Af Aj Ai WN Ag Ae Yy Rs Ac Y3 V8 Ad MK Qr Ak An Xc OU UZ Uq TI JR Sw A5 Ps tb3 tb4 tb5 tb9 tb22 tb23 tb25 tb26 tb27 tb28 tb29 tb31 tb32 tb33 Aku tb36 AgK AkE tb40 AkA AnP AkD tb47 AkC tb50 AkT tb57 Aeh tb68 tb69 AkN tb72 AnV AdT Amf Ak0 Ab3 AeV AiZ Akj AjN AhU Ahf Ag0 Aod Afy Ajg AfJ Aoe Ae4 AfK Acv Am8 Ag6 Ahk Aea AjD Aob Aj7 AbP AhB AfQ AhR OY Pf Pg Pc Px P3 OQ Pt Pp Pj Pu Ph OT P5 Pl Pk P1 M5 NS O9 OA Mx Od NZ Mt MQ OC Nh Oh Oq Np NI MH NF ME Na MA M8 MG Nr Nv N0 Ot NJ Mu MU MM NU M4 MW N8 Ns Mz Ny M3 OB My O3 Nj Oe Ng MP O4 Nz M6 Ol NN Nc O2 NV OK MD Akg AhG AjZ Ag3 Ajc Ajq Ai7 Aey AfR Agn Aeo Aew Aem AbO WA NM M1 Hd GS Hg Alq AgO Akh AiT AhS Aji AiK AjU Aes Afr AfB Af5 AeG Aet Agv Ags Aeb AfN Aep Aex AeW Aeg nb36 Adj nb47 Aht AnZ Aje Am0 nb57 Ahh AmT AiL Aie Ami AgY Ama AlI AjC AkJ Af0 AeM AnK nb68 AjT AiN Ahd Al5 Akm Alw Ahr nb74 Aki An3 Ai8 XA Aj8 AmH AnB AiB Afj AbW Akd Alu Anp AfM Agj Yt nb42 AeS Ajz AeX nb50 Ads AlW Ag1 Acl AhJ nb44 Ab9 AcK AgS Ac9 nb40 Amx AhW nb52 AaU nb88 Adc nb85 AgB Ed AfC AcP AlE AkO Abn AbG Aim AmW Agd AcI Amt
section
variable {V:Type}
def An4(step:V→Aoz→AoD→Option V)(row:List AoD)(i:Int)(kv:Int×V):Option ((Int×V)⊕V) :=
 if(decide (kv.1<(row.length:Int)))then
  if InR kv.1 row.length then(step kv.2 { Zb:=i,No:=w64 (kv.1+1) } (nth row kv.1.toNat)).bind fun v'=>some (.inl (w64 (kv.1+1),v'))else none
 else some (.inr kv.2)
def AkX(step:V→Aoz→AoD→Option V)(logs:List (List AoD))(iv:Int×V):Option ((Int×V)⊕V) :=
 if(decide (iv.1<(logs.length:Int)))then
  if InR iv.1 logs.length then(AF (An4 step (nth logs iv.1.toNat) iv.1) (0,iv.2)).bind fun v'=>some (.inl (w64 (iv.1+1),v'))else none
 else some (.inr iv.2)
def Ag2(step:V→Aoz→AoD→Option V)(logs:List (List AoD))(v:V):Option V:=(AF (AkX step logs) (0,v)).bind some
end
theorem AcB(N:Nat)(ts:List Nat)(l:Fr):leL (Aq N l) (Aq N (keep ts l)):=by
  have key:∀(ns:List Nat),leL (ns.map (Rv.look l)) (ns.map (Rv.look (keep ts l))):=by
    intro ns
    induction ns with
    |nil=>exact trivial
    | cons t ns ih=>
      refine⟨?_,ih⟩;rcases SQ ts l t with h|h
      · exact .inl h
      · rw[h];exact .inr (AV.wk_refl _)
  exact key _
theorem AbB(n N:Nat):∀(l:Fr),(∀p∈l,p.2.under n=true)→Rl n (Aq N l):=by
  intro l h x hx;obtain⟨t,_,rfl⟩:=ApT.1 hx
  induction l with
  |nil=>show(AV.junk).under n=true;simp[AV.under]
  | cons p l ih=>
    show(if t=p.1 then p.2 else Rv.look l t).under n=true;by_cases e:t=p.1
    · rw[AoO e];exact h p Ao2
    · rw[AoQ e];exact ih (fun q hq=>h q (Api _ hq)) (by simp only[Aq,ApT,Apz];exact⟨t,by simpa using ‹t∈List.range N›,rfl⟩)
set_option maxHeartbeats 2000000 in
theorem Yg{V:Type}{o:Out}{n:Nat}{gop:Operand}{assign body:Code}{N:Nat}{fr l:Fr}{K:Ch}{S:V→Am}{step:V→Aoz→AoD→Option V}{logs:List (List AoD)}{forks:List AoE}{f1 f2 ro:Bool}{v0 x:V}{p1 p2 idb:Nat}(M:Nat) (hx:Ag2 step logs v0=some x) (hmk:o.mks=true) (hg:ev (Aq N fr) gop=.fn 100 [.ref idb 0]) (hS:∀v,(S v).length=M) (hb:(S v0)[idb]?=some (.box [.sl f1 (L (cSl Ak) logs),.sl f2 (L An forks)] ro)) (hl:∀p∈l,p.1<N∧Rv.look fr p.1=p.2) (hp1:p1<N) (hp2:p2<N) (hpn:p1≠p2) (hpl:∀p∈l,p.1≠p1∧p.1≠p2) (hca:JK assign=true) (hcb:JK body=true) (hround:∀(lp:Nat) (ac bd:Code) (v:V) (i k:Int) (r:AoD) (v':V),step v ⟨i,k⟩ r=some v' →Run (B.env { F:=o.F,rd:=some lp }) (M+1) assign ⟨Aq N ((p2,.agg (Ak r))::(p1,.agg [i64 i,i64 k])::l),S v++[.lp false N l #[p1,p2] ac bd,.box (Ak r) false]⟩ (wkP (B.env { F:=o.F,rd:=some lp }) (M+1) (AmX (B.env { F:=o.F,rd:=some lp }) M N l #[p1,p2] ac bd body (wkP (B.env { F:=o.F,rd:=some lp }) (M+1) (An5 M (S v'++[.lp true N l #[p1,p2] ac bd])))))) (hk:K .normal ⟨Aq N fr,S x++[.gone]⟩):Run (B.env o) n (.rangeFunc gop #[p1,p2] assign body) ⟨Aq N fr,S v0⟩ K:=by
 refine Abc ok hmk hg (by intro ys h;cases h) Tryz.func100 rfl (by decide +kernel) rfl l hl ?_;rw[hS v0];have hE:=ok.env { F:=o.F };refine FG ?_;have hidb:idb<(S v0).length:=(AoK.1 hb).1
 have hb0:(S v0++[ABlk.lp false N l #[p1,p2] assign body])[idb]?=some (.box [.sl f1 (L (cSl Ak) logs),.sl f2 (L An forks)] ro):=by
  rw[AoU hidb];exact hb
 show Run (B.env { F:=o.F }) (M+1) _ ⟨Kf 32 [.yld M,.ref idb 0],_⟩ _;rw[DX 32 [.yld M,.ref idb 0] (Apm rfl) (Lg 0 _) (fun t _=>Eu _ 0 t (Apx _))];show Run (B.env { F:=o.F }) (M+1) _ ⟨Aq 32 [(0,.yld M),(1,.ref idb 0)],_⟩ _;revert hx;unfold Ag2;refine T0 [0,8,9,10] ?_ (by simp only[go_sem,hb0];exact AK);refine Sb ?_;refine Lo (fun iv=>⟨Aq 32 [(0,.yld M),(8,.sl f1 (L (cSl Ak) logs)),(9,i64 ((logs.length:Int))),(10,i64 iv.1)],S iv.2++[.lp false N l #[p1,p2] assign body]⟩) (Weak.refl _ _) ?_;rintro⟨i,v⟩ x1 o1 hj1 hx1;show AkX step logs (i,v)=some o1→_;unfold AkX;dsimp only;refine T0 [0,8,9,10,11] ?_;refine Sq ?_;refine Cd ?_ ?_
 ·refine Sk ?_;refine Tn ?_;refine Sq ?_;refine Sb ?_;refine Ck fun hc1=>?_
  refine Te [0,3,4,8,9,10] Aa (Ev (by simp only[go_sem,qR hc1];exact AK)) ?_;refine T0 [0,3,8,9,10,15,16,17] ?_;refine Sb ?_;refine Lo (fun kv=>⟨Aq 32 [(0,.yld M),(3,i64 i),(8,.sl f1 (L (cSl Ak) logs)),(9,i64 ((logs.length:Int))),(10,i64 i),(15,.sl false (L Ak (nth logs i.toNat))),(16,i64 (((nth logs i.toNat).length:Int))),(17,i64 kv.1)],S kv.2++[.lp false N l #[p1,p2] assign body]⟩) (Weak.refl _ _) ?_;rintro⟨k,v⟩ x2 o2 hj2 hx2;show An4 step (nth logs i.toNat) i (k,v)=some o2→_;unfold An4;dsimp only;refine T0 [0,3,8,9,10,15,16,17,18] ?_;refine Sq ?_;refine Cd ?_ ?_
  ·refine Sk ?_;refine Tn ?_;refine Sq ?_;refine Sb ?_;refine Ck fun hc2=>?_
   obtain⟨r,hr⟩:∃r,nth (nth logs i.toNat) k.toNat=r:=⟨_,rfl⟩;have hlen:(S v++[ABlk.lp false N l #[p1,p2] assign body]).length=M+1:=by simp[hS v]
   rw[hr];generalize hσ0:S v++[ABlk.lp false N l #[p1,p2] assign body]=σ0 at hlen;have hlast:∀b:ABlk,(σ0++[b])[M+1]?=some b:=fun b=>by rw[AoS (by omega),hlen];simp
   have hset:∀b c:ABlk,(σ0++[b]).set (M+1) c=σ0++[c]:=fun b c=>by rw[Aqd _ _ (by omega),hlen];simp
   refine Te [0,3,5,6,8,9,10,15,16,17] Aa (Ev (by simp only[go_sem,qR hc2,hr,hlen,hlast,hset];exact AK)) ?_;refine Bd fun v' hv=>?_
   refine Sq ?_;intro hP
   refine AcO 6 (idl:=M) (σ1:=σ0++[.box (Ak r) false]) (fr1:=(27,.agg (Ak r))::(26,.agg [i64 i,i64 (w64 (k+1))])::(25,i64 (w64 (k+1)))::(24,i64 k)::(23,i64 i)::(22,.yld M)::[(0,.yld M),(3,i64 i),(5,i64 k),(6,.ref (M+1) 0),(8,.sl f1 (L (cSl Ak) logs)),(9,i64 ((logs.length:Int))),(10,i64 i),(15,.sl false (L Ak (nth logs i.toNat))),(16,i64 (((nth logs i.toNat).length:Int))),(17,i64 k)]) (fr3:=(29,.bool (!true))::(28,.bool true)::[(0,.yld M),(3,i64 i),(8,.sl f1 (L (cSl Ak) logs)),(9,i64 ((logs.length:Int))),(10,i64 i),(15,.sl false (L Ak (nth logs i.toNat))),(16,i64 (((nth logs i.toNat).length:Int))),(17,i64 k)]) (M:=N) (l:=l) (ps:=#[p1,p2]) (assign:=assign) (body:=body) (fr2:=[(0,.yld M),(3,i64 i),(8,.sl f1 (L (cSl Ak) logs)),(9,i64 ((logs.length:Int))),(10,i64 i),(15,.sl false (L Ak (nth logs i.toNat))),(16,i64 (((nth logs i.toNat).length:Int))),(17,i64 k)])
    (args:=[.agg [i64 i,i64 (w64 (k+1))],.agg (Ak r)]) hE rfl ?h1 rfl rfl rfl rfl ?hf ?hσ rfl (Nat.lt_succ_self M) hca hcb ?hle ?hun ?hp1 ?hp2 ?hp3 ?hargs (fun σ3=>?h3) (fun lp=>?h)
   case h1=>
    refine(Ds _ _).symm.trans ?_;simp only[go_sem,hlast,hlen]
   case hf=>rfl
   case hσ=>
    rw[←hσ0,Ap8,AoS (by rw[hS v];exact Ao0 _),hS v,AqF];rfl
   case hle=>exact AcB 32 [0,3,8,9,10,15,16,17] _
   case hun=>
    refine AbB _ _ _ (fun p hp=>?_);simp only[Ao9,ArR,or_false]at hp;rcases hp with rfl|rfl|rfl|rfl|rfl|rfl|rfl|rfl<;>simp[AV.under,i64]
   case hp1=>intro p hp;simp at hp;rcases hp with rfl|rfl<;>assumption
   case hp2=>intro p hp hh;simp at hh;rcases hh with hh|hh;exact(hpl p hp).1 hh;exact(hpl p hp).2 hh
   case hp3=>simpa using hpn
   case hargs=>rfl
   case h3=>
    refine(Ds _ _).symm.trans ?_;simp only[go_sem]
   case h=>
    have h2:=FG (hround lp assign body v i (w64 (k+1)) r v' hv);have hst:σ0++[ABlk.box (Ak r) false]=S v++[.lp false N l #[p1,p2] assign body,.box (Ak r) false]:=by rw[←hσ0,Ap8];rfl
    rw[hst];refine D9 h2 ?_;rintro ex st1 ⟨rfl,q1,q2⟩;refine⟨rfl,q1,D9 (FG q2) ?_⟩;rintro ex st2 ⟨rfl,q3⟩;rw[q3];refine⟨rfl,by rw[AoS (by rw[hS v'];exact Ao0 _),hS v',AqF];rfl,?_⟩;rw[Aqd _ _ (by rw[hS v'];exact Ao0 _),hS v',AqF,Arc];revert hP;refine Tn ?_;refine Cf ?_;refine Sk ?_;refine Bn ?_;refine Tn ?_;refine F0 [0,3,8,9,10,15,16,17] ?_;exact Ln (Weak.refl _ _)
  ·refine Sx ?_;refine Tx ?_;refine Ly hx2 hj2 ?_;refine Bx ?_;refine Bn ?_;refine Tn ?_;refine F0 [0,8,9,10] ?_;exact Ln (Weak.refl _ _)
 ·refine Sx ?_;refine Tx ?_;refine Ly hx1 hj1 ?_;refine Bx ?_;refine Wp (Weak.refl _ _) ?_;intro h;obtain rfl:=AoR h;refine⟨.inl rfl,by rw[AoS (by rw[hS];exact Ao0 _),hS,AqF];rfl,?_⟩;rw[Aqd _ _ (by rw[hS];exact Ao0 _),hS,AqF,Arc];exact hk
theorem Ra{V:Type}{F:Addr→Prop}{base:Nat}{n:Nat}{gop:Operand}{assign body:Code}{N:Nat}{fr:Fr}{K:Ch}(S:V→Am)(l:Fr){step:V→Aoz→AoD→Option V}{logs:List (List AoD)}{forks:List AoE}{f1 f2 ro:Bool}{v0 x:V}{p1 p2 idb:Nat}(M:Nat)(σ0 σx:Am) (hround:∀(lp:Nat) (ac bd:Code) (v:V) (i k:Int) (r:AoD) (v':V),step v ⟨i,k⟩ r=some v' →Run (B.env { F:=F,rd:=some lp }) (M+1) assign ⟨Aq N ((p2,.agg (Ak r))::(p1,.agg [i64 i,i64 k])::l),S v++[.lp false N l #[p1,p2] ac bd,.box (Ak r) false]⟩ (wkP (B.env { F:=F,rd:=some lp }) (M+1) (AmX (B.env { F:=F,rd:=some lp }) M N l #[p1,p2] ac bd body (wkP (B.env { F:=F,rd:=some lp }) (M+1) (An5 M (S v'++[.lp true N l #[p1,p2] ac bd])))))) (hk:K .normal ⟨Aq N fr,σx⟩) (hx:Ag2 step logs v0=some x) (hl:Ak7 N fr l) (h0:S v0=σ0:=by rfl) (hσx:S x++[.gone]=σx:=by rfl) (hg:ev (Aq N fr) gop=.fn 100 [.ref idb 0]:=by rfl) (hS:∀v,(S v).length=M:=by exact fun _=>rfl) (hb:(S v0)[idb]?=some (.box [.sl f1 (L (cSl Ak) logs),.sl f2 (L An forks)] ro):=by rfl) (hp:(decide (p1<N)&&decide (p2<N)&&p1 != p2&&(l.map (·.1)).all (fun t=>t != p1&&t != p2))=true:=by rfl) (hca:JK assign=true:=by rfl) (hcb:JK body=true:=by rfl) :Run (B.env { F:=F,mks:=true,base:=base }) n (.rangeFunc gop #[p1,p2] assign body) ⟨Aq N fr,σ0⟩ K:=by
 subst h0 hσx;simp only[Apb,Apj,Ars,ne_eq,AoZ,ApT]at hp;obtain⟨⟨⟨h1,h2⟩,h3⟩,h4⟩:=hp;exact Yg (o:={ F:=F,mks:=true,base:=base }) M hx rfl hg hS hb (Wi hl) h1 h2 h3 (fun p hp=>h4 _ ⟨p,hp,rfl⟩) hca hcb hround hk
def EQ(a:UInt64)(b:UInt64)(c:UInt64)(d:UInt64):Option ((UInt64×UInt64×UInt64)⊕(UInt64)) :=if (decide (c>(0:UInt64)))then (if((c%(2:UInt64))==(1:UInt64))then if ¬a=0 then some ((d+b)%a) else none else some d:Option (UInt64)).bind fun e=>if ¬a=0 then some (.inl (((b+b)%a),(c/(2:UInt64)),e)) else none else some (.inr d)
def GU(a:UInt64)(b:UInt64)(c:UInt64):Option (UInt64) :=((AF (fun(v:UInt64×UInt64×UInt64)=>EQ c v.1 v.2.1 v.2.2) (a,b,(0:UInt64))).bind fun d=>some d:Option (UInt64)).bind fun e=>some e
def GP(a:UInt64)(b:UInt64)(c:UInt64):Option ((UInt64×UInt64×UInt64)⊕(UInt64)) :=if(decide (b>(0:UInt64)))then (if((b%(2:UInt64))==(1:UInt64))then (GU c a (2305843009213690799:UInt64)).bind fun d=>some d else some c:Option (UInt64)).bind fun e=>(GU a a (2305843009213690799:UInt64)).bind fun f=>some (.inl (f,(b/(2:UInt64)),e)) else some (.inr c)
def KJ(a:UInt64)(b:UInt64):Option (UInt64) :=(lt1 (a%(2305843009213690799:UInt64)) fun(c:UInt64)=>(AF (fun(v:UInt64×UInt64×UInt64)=>GP v.1 v.2.1 v.2.2) (c,b,(1:UInt64))).bind fun d=>some d:Option (UInt64)).bind fun e=>some e
def Lp(a:UInt64):Option (UInt64×Int) :=(if(decide (a<(1:UInt64)))then some true else some (decide (a≥(1152921504606845399:UInt64))):Option (Bool)).bind fun b=>if b then some ((0:UInt64),30) else (KJ (4:UInt64) a).bind fun c=>some (c,0)
def GH(a:Int)(b:List Aox):Option ((Int×List Aox)⊕(List Aox)) :=if(decide (a<2))then (Lp (UInt64.ofInt (w64 (7+a)))).bind fun c=>if CI (b.length+1) 144 then lt1 (b++([({ Key:=c.1,Zf1:=({ Zd1:=(({ Zw:=0,To:=0 }:Aov),({ Zw:=0,To:=0 }:Aov),({ Zw:=0,To:=0 }:Aov),({ Zw:=0,To:=0 }:Aov),({ Zw:=0,To:=0 }:Aov),({ Zw:=0,To:=0 }:Aov),({ Zw:=0,To:=0 }:Aov)),Ze1:=[] }:Aow) }:Aox)]:List Aox)) fun(d:List Aox)=>some (.inl ((w64 (a+1)),d)) else none else some (.inr b)
def r14_Example  : Option (Aoy) :=lt1 ([({ Za:=1,Zb:=0,Zc:=(-1) }:Aol),({ Za:=3,Zb:=0,Zc:=1 }:Aol),({ Za:=4,Zb:=1,Zc:=(-1) }:Aol)]:List Aol) fun(a:List Aol)=>lt1 ([({ A:=0,B:=1,Zb:=0,Zd:=10,Km:=5 }:Aom),({ A:=1,B:=2,Zb:=1,Zd:=20,Km:=9 }:Aom)]:List Aom) fun(b:List Aom)=>lt1 ([({ Zg:=1000,Zh:=0,Zi:=0,Zj:=0,Zk:=0,Zl:=(7:UInt64),Zm:=1000,Zn:=0 }:Aoo)]:List Aoo) fun(c:List Aoo)=>lt1 ([({ Zo:=0,Zp:=0,Zq:=0,Zr:=0,Zs:=5000 }:Aop)]:List Aop) fun(d:List Aop)=>lt1 ([({ Zb1:=0,Low:=(-3),Zc1:=3 }:Aot)]:List Aot) fun(e:List Aot)=>lt1 ([({ Zb1:=2 }:Aou)]:List Aou) fun(f:List Aou)=>((AF (fun(v:Int×List Aox)=>GH v.1 v.2) (0,[])).bind fun g=>some g:Option (List Aox)).bind fun i=>some ({ Zg1:=({ Ze:=a,Zf:=b }:Aon),Zh1:=({ Zx:=c,Zy:=d,Zz:=[],Za1:=[] }:Aos),Zi1:=e,Zj1:=f,Zk1:=i }:Aoy)
def BU(a:Int):Option (AoB) :=some ({ Za:=8,Ref:=({ Zb:=0,No:=0 }:Aoz),Zn1:=0,Zb1:=0,Zc:=0,Zo1:=0,Zw:=3,To:=0,Code:=a,Zp1:=0,Zq1:=0,Zr1:=0,Zs1:=0,Zt1:=([]:List UInt8),Zu1:=[] }:AoB)
def HL(a:Aol):Option (Bool) :=(if(decide (a.Za<1))then some true else if(decide (a.Za>5))then some true else if(decide (a.Zb<0))then some true else some (decide (a.Zb≥16)):Option (Bool)).bind fun b=>if b then some false else if(a.Za != 3)then some (a.Zc==(-1)) else (if(decide (a.Zc≥0))then if(decide (a.Zc<16))then some (a.Zc != a.Zb) else some false else some false:Option (Bool)).bind fun c=>some c
def Fm(b:Aon)(a:Int):Option ((Int)⊕((Unit)⊕((Unit)⊕(Int)))) :=if (decide (a<(b.Ze.length:Int)))then if InR a b.Ze.length then lt1 ((nth b.Ze a.toNat).Za) fun(c:Int)=>lt1 ((nth b.Ze a.toNat).Zb) fun(d:Int)=>lt1 ((nth b.Ze a.toNat).Zc) fun(e:Int)=>(HL ({ Za:=c,Zb:=d,Zc:=e }:Aol)).bind fun f=>if(!f)then ((some 1).bind fun g=>some (.inr g)).bind fun i=>some (.inr (.inr i)) else some (.inl (w64 (a+1))) else none else some (.inr (.inl ()))
def Fo(b:Aon)(i:Int)(a:Int):Option ((Int)⊕((Unit)⊕((Unit)⊕(Int)))) :=if (decide (a<(b.Zf.length:Int)))then if InR a b.Zf.length then lt1 ((nth b.Zf a.toNat).A) fun(c:Int)=>lt1 ((nth b.Zf a.toNat).B) fun(d:Int)=>lt1 ((nth b.Zf a.toNat).Zb) fun(e:Int)=>lt1 ((nth b.Zf a.toNat).Zd) fun(f:Int)=>lt1 ((nth b.Zf a.toNat).Km) fun(g:Int)=>(if(decide ((WS (WS (WS c d) e) g)<0))then some true else if(decide ((Hi c d)≥i))then some true else if(c==d)then some true else if(decide (e≥16))then some true else if(decide (f<1))then some true else if(decide (f>100000))then some true else some (decide (g>10000)):Option (Bool)).bind fun j=>if j then ((some 1).bind fun k=>some (.inr k)).bind fun l=>some (.inr (.inr l)) else some (.inl (w64 (a+1))) else none else some (.inr (.inl ()))
def HC(a:Aon):Option (Int) :=lt1 (a.Ze.length:Int) fun(b:Int)=>(if(decide (b>512))then some true else some (decide ((a.Zf.length:Int)>2048)):Option (Bool)).bind fun c=>if c then some 2 else ((AF (fun(v:Int)=>Fm a v) 0).bind fun x=>match x with
  |.inl ()=>some (.inl ())
  |.inr z=>some z:Option ((Unit)⊕(Int))).bind fun x=>match x with
  | .inl ()=>((AF (fun(v:Int)=>Fo a b v) 0).bind fun x=>match x with
   |.inl ()=>some (.inl ())
   |.inr z=>some z:Option ((Unit)⊕(Int))).bind fun x=>match x with
   |.inl ()=>some 0
   |.inr z=>some z
  |.inr z=>some z
def AM(a:Bool)(b:Int):Option (Int) :=if(!a)then some 1 else some b
def A9(a:Int)(b:Int)(c:Int):Option (Bool) :=(if(decide (a≥b))then some (decide (a≤c)) else some false:Option (Bool)).bind fun d=>some d
def G5(d:Int)(b:List Int)(a:Int)(c:Int):Option ((Int×Int)⊕(Int)) :=if(decide (a<d))then if InR a b.length then (A9 (nth b a.toNat) 0 1000000).bind fun e=>(AM e c).bind fun f=>some (.inl ((w64 (a+1)),f)) else none else some (.inr c)
def G6(b:Aos)(a:Int)(d:Int):Option ((Int×Int)⊕(Int)) :=if (decide (a<(b.Zx.length:Int)))then (if InR a b.Zx.length then lt1 ((nth b.Zx a.toNat).Zg) fun(e:Int)=>lt1 ((nth b.Zx a.toNat).Zh) fun(f:Int)=>lt1 ((nth b.Zx a.toNat).Zi) fun(g:Int)=>lt1 ((nth b.Zx a.toNat).Zj) fun(j:Int)=>lt1 ((nth b.Zx a.toNat).Zk) fun(i:Int)=>lt1 ((nth b.Zx a.toNat).Zl) fun(z:UInt64)=>lt1 ((nth b.Zx a.toNat).Zm) fun(k:Int)=>lt1 ((nth b.Zx a.toNat).Zn) fun(l:Int)=>(lt1 (([e,f,g,i]:List Int).length:Int) fun(m:Int)=>lt1 ([e,f,g,i]:List Int) fun(n:List Int)=>(AF (fun(v:Int×Int)=>G5 m n v.1 v.2) (0,d)).bind fun o=>some o:Option (Int)).bind fun c=>((A9 j 0 7).bind fun p=>if p then (A9 k 1 1073741824).bind fun q=>if q then (A9 l 0 100).bind fun s=>(AM s c).bind fun t=>some t else (AM false c).bind fun u=>some u else (AM false c).bind fun w=>some w:Option (Int)).bind fun x=>some x else none:Option (Int)).bind fun y=>some (.inl ((w64 (a+1)),y)) else some (.inr d)
def GA(a:Aos)(b:Int)(c:Int):Option ((Int×Int)⊕(Int)) :=if (decide (b<(a.Zy.length:Int)))then if InR b a.Zy.length then lt1 ((nth a.Zy b.toNat).Zo) fun(e:Int)=>lt1 ((nth a.Zy b.toNat).Zp) fun(f:Int)=>lt1 ((nth a.Zy b.toNat).Zq) fun(g:Int)=>lt1 ((nth a.Zy b.toNat).Zr) fun(i:Int)=>lt1 ((nth a.Zy b.toNat).Zs) fun(j:Int)=>((A9 e 0 (w64 ((a.Zx.length:Int)-1))).bind fun k=>if k then (A9 f 0 63).bind fun l=>if l then (A9 g 0 511).bind fun m=>(AM m c).bind fun n=>some n else (AM false c).bind fun o=>some o else (AM false c).bind fun p=>some p:Option (Int)).bind fun d=>((A9 i 0 1073741824).bind fun q=>if q then (A9 j 0 1099511627776).bind fun s=>(AM s d).bind fun t=>some t else (AM false d).bind fun u=>some u:Option (Int)).bind fun v=>some (.inl ((w64 (b+1)),v)) else none else some (.inr c)
def GE(a:Aos)(b:Int)(c:Int):Option ((Int×Int)⊕(Int)) :=if (decide (b<(a.Zz.length:Int)))then if InR b a.Zz.length then lt1 ((nth a.Zz b.toNat).Zt) fun(d:Int)=>lt1 ((nth a.Zz b.toNat).Zu) fun(e:Int)=>lt1 ((nth a.Zz b.toNat).Zv) fun(f:Int)=>((A9 d 0 (w64 ((a.Zx.length:Int)-1))).bind fun g=>if g then (A9 e 0 (w64 ((a.Zx.length:Int)-1))).bind fun i=>if i then if(d != e)then (A9 f 0 1000000000).bind fun j=>(AM j c).bind fun k=>some k else (AM false c).bind fun l=>some l else (AM false c).bind fun m=>some m else (AM false c).bind fun n=>some n:Option (Int)).bind fun o=>some (.inl ((w64 (b+1)),o)) else none else some (.inr c)
def G4(d:Aos)(a:Int)(f:Int)(e:Arr Bool 4096):Option ((Int×Int×Arr Bool 4096)⊕(Int)) :=if (decide (a<(d.Za1.length:Int)))then (if InR a d.Za1.length then lt1 ((nth d.Za1 a.toNat).Zw) fun(b:Int)=>lt1 ((nth d.Za1 a.toNat).To) fun(c:Int)=>lt1 ((nth d.Za1 a.toNat).Zd) fun(j:Int)=>((A9 b 0 63).bind fun k=>if k then (A9 c 0 63).bind fun l=>if l then if(b != c)then (A9 j 0 100000).bind fun m=>some m else some false else some false else some false:Option (Bool)).bind fun g=>(AM g f).bind fun i=>if g = true then if InR b 64 then if InR c 64 then (AM (!(e.get (b.toNat*64+c.toNat))) i).bind fun n=>if InR b 64 then if InR c 64 then lt1 (e.set (b.toNat*64+c.toNat) true) fun(o:Arr Bool 4096)=>some (n,o) else none else none else none else none else some (i,e) else none:Option (Int×Arr Bool 4096)).bind fun(p,q)=>some (.inl ((w64 (a+1)),p,q)) else some (.inr f)
def Jy(a:Aos):Option (Int) :=(if(decide ((a.Zx.length:Int)>32))then some true else if(decide ((a.Zy.length:Int)>4096))then some true else if(decide ((a.Zz.length:Int)>1024))then some true else some (decide ((a.Za1.length:Int)>4096)):Option (Bool)).bind fun b=>if b then some 2 else ((AF (fun(v:Int×Int)=>G6 a v.1 v.2) (0,0)).bind fun c=>some c:Option (Int)).bind fun d=>((AF (fun(v:Int×Int)=>GA a v.1 v.2) (0,d)).bind fun e=>some e:Option (Int)).bind fun f=>((AF (fun(v:Int×Int)=>GE a v.1 v.2) (0,f)).bind fun g=>some g:Option (Int)).bind fun i=>((AF (fun(v:Int×Int×Arr Bool 4096)=>G4 a v.1 v.2.1 v.2.2) (0,i,(Arr.rep 4096 false))).bind fun j=>some j:Option (Int)).bind fun k=>some k
def BW(b:Aow)(d:Int)(a:Int):Option ((Int×Int)⊕((Unit)⊕((Unit)⊕(Int)))) :=if (decide (a<(b.Ze1.length:Int)))then if InR a b.Ze1.length then lt1 (nth b.Ze1 a.toNat) fun(c:Int)=>(if(decide (c≤d))then some true else some (decide (c>745654)):Option (Bool)).bind fun e=>if e then ((some 1).bind fun f=>some (.inr f)).bind fun g=>some (.inr (.inr g)) else some (.inl (c,(w64 (a+1)))) else none else some (.inr (.inl ()))
def DI(a:Aow):Option (Int) :=lt1 a.Zd1.2.2.2.2.2.1.Zw fun(b:Int)=>lt1 a.Zd1.2.2.2.2.2.2.Zw fun(c:Int)=>((if(decide (a.Zd1.1.Zw<0))then some true else if(decide (a.Zd1.1.To<a.Zd1.1.Zw))then some true else some (decide (a.Zd1.1.To>1440)):Option (Bool)).bind fun d=>if d then (some 1).bind fun e=>some (.inr e) else (if(decide (a.Zd1.2.1.Zw<0))then some true else if(decide (a.Zd1.2.1.To<a.Zd1.2.1.Zw))then some true else some (decide (a.Zd1.2.1.To>1440)):Option (Bool)).bind fun f=>if f then (some 1).bind fun g=>some (.inr g) else (if(decide (a.Zd1.2.2.1.Zw<0))then some true else if(decide (a.Zd1.2.2.1.To<a.Zd1.2.2.1.Zw))then some true else some (decide (a.Zd1.2.2.1.To>1440)):Option (Bool)).bind fun i=>if i then (some 1).bind fun j=>some (.inr j) else (if(decide (a.Zd1.2.2.2.1.Zw<0))then some true else if(decide (a.Zd1.2.2.2.1.To<a.Zd1.2.2.2.1.Zw))then some true else some (decide (a.Zd1.2.2.2.1.To>1440)):Option (Bool)).bind fun k=>if k then (some 1).bind fun l=>some (.inr l) else (if(decide (a.Zd1.2.2.2.2.1.Zw<0))then some true else if(decide (a.Zd1.2.2.2.2.1.To<a.Zd1.2.2.2.2.1.Zw))then some true else some (decide (a.Zd1.2.2.2.2.1.To>1440)):Option (Bool)).bind fun m=>if m then (some 1).bind fun n=>some (.inr n) else (if(decide (b<0))then some true else if(decide (a.Zd1.2.2.2.2.2.1.To<b))then some true else some (decide (a.Zd1.2.2.2.2.2.1.To>1440)):Option (Bool)).bind fun o=>if o then (some 1).bind fun p=>some (.inr p) else (if(decide (c<0))then some true else if(decide (a.Zd1.2.2.2.2.2.2.To<c))then some true else some (decide (a.Zd1.2.2.2.2.2.2.To>1440)):Option (Bool)).bind fun q=>if q then (some 1).bind fun s=>some (.inr s) else some (.inl ()):Option ((Unit)⊕(Int))).bind fun x=>match x with
 | .inl ()=>((AF (fun(v:Int×Int)=>BW a v.1 v.2) ((-1),0)).bind fun x=>match x with
  |.inl ()=>some (.inl ())
  |.inr z=>some z:Option ((Unit)⊕(Int))).bind fun x=>match x with
  |.inl ()=>some 0
  |.inr z=>some z
 |.inr z=>some z
def Hb(a:UInt64)(b:UInt64):Option (UInt64×UInt64) :=lt1 (a &&& (4294967295:UInt64)) fun(x0_2596:UInt64)=>lt1 (CV a (32:UInt64).toNat) fun(x1_2598:UInt64)=>lt1 (b &&& (4294967295:UInt64)) fun(y0_2600:UInt64)=>lt1 (CV b (32:UInt64).toNat) fun(y1_2602:UInt64)=>lt1 ((x1_2598*y0_2600)+(CV (x0_2596*y0_2600) (32:UInt64).toNat)) fun(c:UInt64)=>lt1 (c &&& (4294967295:UInt64)) fun(w1_2606:UInt64)=>lt1 (CV c (32:UInt64).toNat) fun(w2_2608:UInt64)=>lt1 (w1_2606+(x0_2596*y1_2602)) fun(w1_2610:UInt64)=>lt1 (((x1_2598*y1_2602)+w2_2608)+(CV w1_2610 (32:UInt64).toNat)) fun(d:UInt64)=>some (d,(a*b))
def Ec(a:UInt64):Option (Int) :=(if(decide (a≥(4294967296:UInt64)))then lt1 (CV a (32:UInt64).toNat) fun(g:UInt64)=>some (g,32) else some (a,0):Option (UInt64×Int)).bind fun(b,d)=>(if(decide (b≥(65536:UInt64)))then lt1 (CV b (16:UInt64).toNat) fun(i:UInt64)=>some (i,(w64 (d+16))) else some (b,d):Option (UInt64×Int)).bind fun(c,e)=>(if(decide (c≥(256:UInt64)))then lt1 (CV c (8:UInt64).toNat) fun(j:UInt64)=>some (j,(w64 (e+8))) else some (c,e):Option (UInt64×Int)).bind fun(f,k)=>if InR (f.toUInt8.toNat:Int) (([0,1,2,2,3,3,3,3,4,4,4,4,4,4,4,4,5,5,5,5,5,5,5,5,5,5,5,5,5,5,5,5,6,6,6,6,6,6,6,6,6,6,6,6,6,6,6,6,6,6,6,6,6,6,6,6,6,6,6,6,6,6,6,6,7,7,7,7,7,7,7,7,7,7,7,7,7,7,7,7,7,7,7,7,7,7,7,7,7,7,7,7,7,7,7,7,7,7,7,7,7,7,7,7,7,7,7,7,7,7,7,7,7,7,7,7,7,7,7,7,7,7,7,7,7,7,7,7,8,8,8,8,8,8,8,8,8,8,8,8,8,8,8,8,8,8,8,8,8,8,8,8,8,8,8,8,8,8,8,8,8,8,8,8,8,8,8,8,8,8,8,8,8,8,8,8,8,8,8,8,8,8,8,8,8,8,8,8,8,8,8,8,8,8,8,8,8,8,8,8,8,8,8,8,8,8,8,8,8,8,8,8,8,8,8,8,8,8,8,8,8,8,8,8,8,8,8,8,8,8,8,8,8,8,8,8,8,8,8,8,8,8,8,8,8,8,8,8,8,8,8,8,8,8,8,8]:List UInt8).length)then lt1 (w64 (k+((nth ([0,1,2,2,3,3,3,3,4,4,4,4,4,4,4,4,5,5,5,5,5,5,5,5,5,5,5,5,5,5,5,5,6,6,6,6,6,6,6,6,6,6,6,6,6,6,6,6,6,6,6,6,6,6,6,6,6,6,6,6,6,6,6,6,7,7,7,7,7,7,7,7,7,7,7,7,7,7,7,7,7,7,7,7,7,7,7,7,7,7,7,7,7,7,7,7,7,7,7,7,7,7,7,7,7,7,7,7,7,7,7,7,7,7,7,7,7,7,7,7,7,7,7,7,7,7,7,7,8,8,8,8,8,8,8,8,8,8,8,8,8,8,8,8,8,8,8,8,8,8,8,8,8,8,8,8,8,8,8,8,8,8,8,8,8,8,8,8,8,8,8,8,8,8,8,8,8,8,8,8,8,8,8,8,8,8,8,8,8,8,8,8,8,8,8,8,8,8,8,8,8,8,8,8,8,8,8,8,8,8,8,8,8,8,8,8,8,8,8,8,8,8,8,8,8,8,8,8,8,8,8,8,8,8,8,8,8,8,8,8,8,8,8,8,8,8,8,8,8,8,8,8,8,8,8,8]:List UInt8) f.toUInt8.toNat).toNat:Int))) fun(l:Int)=>some l else none
def Ca(a:UInt64):Option (Int) :=(Ec a).bind fun b=>some (w64 (64-b))
def DB(yn1_2658:UInt64)(yn0_2660:UInt64)(un1_2666:UInt64)(q1_2701:UInt64)(a:UInt64):Option ((UInt64×UInt64)⊕(UInt64)) :=(if(decide (q1_2701≥(4294967296:UInt64)))then some true else some (decide ((q1_2701*yn0_2660)>(((4294967296:UInt64)*a)+un1_2666))):Option (Bool)).bind fun b=>if b then if(decide ((a+yn1_2658)≥(4294967296:UInt64)))then some (.inr (q1_2701-(1:UInt64))) else some (.inl ((q1_2701-(1:UInt64)),(a+yn1_2658))) else some (.inr q1_2701)
def D4(yn1_2658:UInt64)(yn0_2660:UInt64)(un0_2668:UInt64)(a:UInt64)(q0_2749:UInt64):Option ((UInt64×UInt64)⊕(UInt64)) :=(if(decide (q0_2749≥(4294967296:UInt64)))then some true else some (decide ((q0_2749*yn0_2660)>(((4294967296:UInt64)*a)+un0_2668))):Option (Bool)).bind fun b=>if b then if(decide ((a+yn1_2658)≥(4294967296:UInt64)))then some (.inr (q0_2749-(1:UInt64))) else some (.inl ((a+yn1_2658),(q0_2749-(1:UInt64)))) else some (.inr q0_2749)
def F4(e:UInt64)(c:UInt64)(a:UInt64):Option (UInt64×UInt64) :=if(a==(0:UInt64))then none else if(decide (a≤e))then none else if (e==(0:UInt64))then if ¬a=0 then if ¬a=0 then some ((c/a),(c%a)) else none else none else (Ca a).bind fun b=>lt1 (Fi a (UInt64.ofInt b).toNat) fun(d:UInt64)=>lt1 (CV d (32:UInt64).toNat) fun(yn1_2658:UInt64)=>lt1 (d &&& (4294967295:UInt64)) fun(yn0_2660:UInt64)=>lt1 ((Fi e (UInt64.ofInt b).toNat) ||| (CV c ((64:UInt64)-(UInt64.ofInt b)).toNat)) fun(un32_2662:UInt64)=>lt1 (Fi c (UInt64.ofInt b).toNat) fun(un10_2664:UInt64)=>lt1 (CV un10_2664 (32:UInt64).toNat) fun(un1_2666:UInt64)=>lt1 (un10_2664 &&& (4294967295:UInt64)) fun(un0_2668:UInt64)=>if ¬yn1_2658=0 then lt1 (un32_2662-((un32_2662/yn1_2658)*yn1_2658)) fun(f:UInt64)=>((AF (fun(v:UInt64×UInt64)=>DB yn1_2658 yn0_2660 un1_2666 v.1 v.2) ((un32_2662/yn1_2658),f)).bind fun q1_2706=>some q1_2706:Option (UInt64)).bind fun q1_2692=>lt1 (((un32_2662*(4294967296:UInt64))+un1_2666)-(q1_2692*d)) fun(un21_2715:UInt64)=>if ¬yn1_2658=0 then lt1 (un21_2715-((un21_2715/yn1_2658)*yn1_2658)) fun(g:UInt64)=>((AF (fun(v:UInt64×UInt64)=>D4 yn1_2658 yn0_2660 un0_2668 v.1 v.2) (g,(un21_2715/yn1_2658))).bind fun q0_2753=>some q0_2753:Option (UInt64)).bind fun q0_2739=>lt1 ((q1_2692*(4294967296:UInt64))+q0_2739) fun(i:UInt64)=>lt1 (CV (((un21_2715*(4294967296:UInt64))+un0_2668)-(q0_2739*d)) (UInt64.ofInt b).toNat) fun(j:UInt64)=>some (i,j) else none else none
def Cq(c:UInt64)(d:UInt64)(a:UInt64):Option (UInt64×UInt64) :=if ¬a=0 then if ¬a=0 then (Hb (c%a) (d%a)).bind fun b=>(F4 b.1 b.2 a).bind fun e=>some (e.2,a) else none else none
def EC(a:UInt64):Option (UInt64) :=some a
def DS(g:UInt64)(d:UInt64)(i:Int)(c:UInt64)(a:Int)(j:UInt64):Option ((UInt64×Int×UInt64)⊕(UInt64)) :=if (decide (a<i))then ((Cq c c j).bind fun b=>(Ec d).bind fun e=>if EU (w64 ((w64 (e-1))-a))then lt1 (((CV d ((w64 ((w64 (e-1))-a)).toNat)) &&& (1:UInt64))==(1:UInt64)) fun(k:Bool)=>if k then (Cq b.1 g b.2).bind fun f=>some (f.1,f.2) else some (b.1,b.2) else none:Option (UInt64×UInt64)).bind fun(l,m)=>some (.inl (l,(w64 (a+1)),m)) else some (.inr c)
def Fx(b:UInt64)(a:UInt64):Option (UInt64) :=(EC (2305843009213690799:UInt64)).bind fun c=>((Ec a).bind fun d=>(AF (fun(v:UInt64×Int×UInt64)=>DS b a d v.1 v.2.1 v.2.2) ((1:UInt64),0,c)).bind fun e=>some e:Option (UInt64)).bind fun f=>some f
def F6(a:UInt64):Option (Bool) :=(if(decide (a≥(2:UInt64)))then if(decide (a<(2305843009213690799:UInt64)))then (Fx a (1152921504606845399:UInt64)).bind fun b=>some (b==(1:UInt64)) else some false else some false:Option (Bool)).bind fun c=>some c
def B4(a:Aoy)(c:Bool)(b:Int):Option ((Bool×Int)⊕(Bool)) :=if (decide (b<(a.Zi1.length:Int)))then if InR b a.Zi1.length then lt1 ((nth a.Zi1 b.toNat).Zb1) fun(f:Int)=>lt1 ((nth a.Zi1 b.toNat).Low) fun(d:Int)=>lt1 ((nth a.Zi1 b.toNat).Zc1) fun(e:Int)=>(if c then some true else (A9 f 0 (w64 ((a.Zg1.Ze.length:Int)-1))).bind fun g=>if(!g)then some true else if(decide (d<(-1000)))then some true else if(decide (d>e))then some true else some (decide (e>1000)):Option (Bool)).bind fun i=>some (.inl (i,(w64 (b+1)))) else none else some (.inr c)
def B5(a:Aoy)(d:Bool)(b:Int):Option ((Bool×Int)⊕(Bool)) :=if (decide (b<(a.Zj1.length:Int)))then if InR b a.Zj1.length then lt1 ((nth a.Zj1 b.toNat).Zb1) fun(c:Int)=>(if d then some true else (A9 c 0 (w64 ((a.Zg1.Ze.length:Int)-1))).bind fun e=>if(!e)then some true else if InR c a.Zg1.Ze.length then some ((nth a.Zg1.Ze c.toNat).Za != 4) else none:Option (Bool)).bind fun f=>some (.inl (f,(w64 (b+1)))) else none else some (.inr d)
def B3(a:Aoy)(c:Bool)(b:Int):Option ((Bool×Int)⊕(Bool)) :=if (decide (b<(a.Zh1.Zy.length:Int)))then if InR b a.Zh1.Zy.length then lt1 ((nth a.Zh1.Zy b.toNat).Zo) fun(f:Int)=>lt1 ((nth a.Zh1.Zy b.toNat).Zp) fun(g:Int)=>lt1 ((nth a.Zh1.Zy b.toNat).Zq) fun(d:Int)=>lt1 ((nth a.Zh1.Zy b.toNat).Zr) fun(i:Int)=>lt1 ((nth a.Zh1.Zy b.toNat).Zs) fun(j:Int)=>(if c then some true else some (decide (d≥(a.Zg1.Ze.length:Int))):Option (Bool)).bind fun e=>some (.inl (e,(w64 (b+1)))) else none else some (.inr c)
def Eo(b:Aoy)(c:Int)(d:Bool)(a:Int):Option ((Bool×Int)⊕(Bool)) :=if (decide (a<(b.Zg1.Ze.length:Int)))then if InR a b.Zg1.Ze.length then lt1 ((nth b.Zg1.Ze a.toNat).Za) fun(i:Int)=>lt1 ((nth b.Zg1.Ze a.toNat).Zb) fun(e:Int)=>lt1 ((nth b.Zg1.Ze a.toNat).Zc) fun(f:Int)=>(if d then some true else if(decide (e≥c))then some true else some (decide (f≥c)):Option (Bool)).bind fun g=>some (.inl (g,(w64 (a+1)))) else none else some (.inr d)
def Es(b:Aoy)(d:Int)(c:Bool)(a:Int):Option ((Bool×Int)⊕(Bool)) :=if (decide (a<(b.Zg1.Zf.length:Int)))then if InR a b.Zg1.Zf.length then lt1 ((nth b.Zg1.Zf a.toNat).A) fun(g:Int)=>lt1 ((nth b.Zg1.Zf a.toNat).B) fun(i:Int)=>lt1 ((nth b.Zg1.Zf a.toNat).Zb) fun(e:Int)=>lt1 ((nth b.Zg1.Zf a.toNat).Zd) fun(j:Int)=>lt1 ((nth b.Zg1.Zf a.toNat).Km) fun(k:Int)=>(if c then some true else some (decide (e≥d)):Option (Bool)).bind fun f=>some (.inl (f,(w64 (a+1)))) else none else some (.inr c)
def Ew(b:Aoy)(c:Bool)(a:Int):Option ((Bool×Int)⊕(Bool)) :=if (decide (a<(b.Zk1.length:Int)))then if InR a b.Zk1.length then lt1 ((nth b.Zk1 a.toNat).Key) fun(d:UInt64)=>lt1 (((((nth b.Zk1 a.toNat).Zf1).Zd1).1).Zw) fun(e:Int)=>lt1 (((((nth b.Zk1 a.toNat).Zf1).Zd1).1).To) fun(f:Int)=>lt1 (((((nth b.Zk1 a.toNat).Zf1).Zd1).2.1).Zw) fun(g:Int)=>lt1 (((((nth b.Zk1 a.toNat).Zf1).Zd1).2.1).To) fun(i:Int)=>lt1 (((((nth b.Zk1 a.toNat).Zf1).Zd1).2.2.1).Zw) fun(j:Int)=>lt1 (((((nth b.Zk1 a.toNat).Zf1).Zd1).2.2.1).To) fun(k:Int)=>lt1 (((((nth b.Zk1 a.toNat).Zf1).Zd1).2.2.2.1).Zw) fun(l:Int)=>lt1 (((((nth b.Zk1 a.toNat).Zf1).Zd1).2.2.2.1).To) fun(m:Int)=>lt1 (((((nth b.Zk1 a.toNat).Zf1).Zd1).2.2.2.2.1).Zw) fun(n:Int)=>lt1 (((((nth b.Zk1 a.toNat).Zf1).Zd1).2.2.2.2.1).To) fun(o:Int)=>lt1 (((((nth b.Zk1 a.toNat).Zf1).Zd1).2.2.2.2.2.1).Zw) fun(p:Int)=>lt1 (((((nth b.Zk1 a.toNat).Zf1).Zd1).2.2.2.2.2.1).To) fun(q:Int)=>lt1 (((((nth b.Zk1 a.toNat).Zf1).Zd1).2.2.2.2.2.2).Zw) fun(s:Int)=>lt1 (((((nth b.Zk1 a.toNat).Zf1).Zd1).2.2.2.2.2.2).To) fun(t:Int)=>lt1 (((nth b.Zk1 a.toNat).Zf1).Ze1) fun(u:List Int)=>(if c then some true else (DI ({ Zd1:=(({ Zw:=e,To:=f }:Aov),({ Zw:=g,To:=i }:Aov),({ Zw:=j,To:=k }:Aov),({ Zw:=l,To:=m }:Aov),({ Zw:=n,To:=o }:Aov),({ Zw:=p,To:=q }:Aov),({ Zw:=s,To:=t }:Aov)),Ze1:=u }:Aow)).bind fun v=>if(v != 0)then some true else (F6 d).bind fun w=>some (!w):Option (Bool)).bind fun x=>some (.inl (x,(w64 (a+1)))) else none else some (.inr c)
def C5(a:Aoy):Option (Int) :=(HC a.Zg1).bind fun c=>if(c != 0)then some c else (Jy a.Zh1).bind fun d=>if(d != 0)then some d else (if(decide ((a.Zi1.length:Int)>256))then some true else if(decide ((a.Zj1.length:Int)>256))then some true else some (decide ((a.Zk1.length:Int)>16)):Option (Bool)).bind fun e=>if e then some 2 else lt1 (a.Zk1.length:Int) fun(b:Int)=>((AF (fun(v:Bool×Int)=>B4 a v.1 v.2) ((b==0),0)).bind fun f=>some f:Option (Bool)).bind fun g=>((AF (fun(v:Bool×Int)=>B5 a v.1 v.2) (g,0)).bind fun i=>some i:Option (Bool)).bind fun j=>((AF (fun(v:Bool×Int)=>B3 a v.1 v.2) (j,0)).bind fun k=>some k:Option (Bool)).bind fun l=>((AF (fun(v:Bool×Int)=>Eo a b v.1 v.2) (l,0)).bind fun m=>some m:Option (Bool)).bind fun n=>((AF (fun(v:Bool×Int)=>Es a b v.1 v.2) (n,0)).bind fun o=>some o:Option (Bool)).bind fun p=>((AF (fun(v:Bool×Int)=>Ew a v.1 v.2) (p,0)).bind fun q=>some q:Option (Bool)).bind fun s=>if s then some 1 else some 0
def Hm(a:UInt64):Option (UInt64×Int) :=(if(decide (a<(1:UInt64)))then some true else some (decide (a≥(1152921504606845399:UInt64))):Option (Bool)).bind fun b=>if b then some ((0:UInt64),30) else (Fx (4:UInt64) a).bind fun c=>some (c,0)
def IM(a:AoF)(b:Int):Option (List AoD) :=if(decide (b≥(a.Zy1.length:Int)))then some ([]) else if InR b a.Zy1.length then some (nth a.Zy1 b.toNat) else none
def ET(a:Int):Option (AoG) :=some (AoG.mk 1 a ([]) ([]))
def IR(a:List UInt8):Option (AoG) :=some (AoG.mk 2 0 a ([]))
def AO(a:Int):Option (AoG) :=some (AoG.mk 1 a ([]) ([]))
def edi_list_cnil  : Option (AoG) :=some (AoG.mk 3 0 ([]) ([]))
def Gc(a:List AoG):Option (AoG) :=some (AoG.mk 3 0 ([]) a)
def Dy(a:List AoG):Option (AoG) :=some (AoG.mk 3 0 ([]) a)
def LY(a:List UInt8):Option (AoG) :=some (AoG.mk 2 0 a ([]))
def Dd(b:AoB)(a:Int)(c:List AoG):Option ((Int×List AoG)⊕(List AoG)) :=if (decide (a<(b.Zu1.length:Int)))then if InR a b.Zu1.length then lt1 ((nth b.Zu1 a.toNat).Za) fun(e:Int)=>lt1 ((nth b.Zu1 a.toNat).Zl1) fun(f:Int)=>lt1 ((nth b.Zu1 a.toNat).Zm1) fun(g:Bool)=>(if g then some 1 else some 0:Option (Int)).bind fun i=>(AO e).bind fun j=>(AO f).bind fun k=>(AO i).bind fun l=>(Dy ([j,k,l]:List AoG)).bind fun d=>if CI (c.length+1) 64 then lt1 (c++([(AoG.mk d.Za d.N ([]) d.L)]:List AoG)) fun(m:List AoG)=>some (.inl ((w64 (a+1)),m)) else none else none else some (.inr c)
def Er(a : AoB):Option (AoG) :=(AO a.Za).bind fun s=>(AO a.Ref.Zb).bind fun t=>(AO a.Ref.No).bind fun u=>(Dy ([t,u]:List AoG)).bind fun b=>lt1 ([s,(AoG.mk b.Za b.N ([]) b.L)]:List AoG) fun(d:List AoG)=>((AO a.Zn1).bind fun w=>if CI (d.length+1) 64 then lt1 (d++([w]:List AoG)) fun(e:List AoG)=>(AO a.Zb1).bind fun x=>if CI (e.length+1) 64 then lt1 (e++([x]:List AoG)) fun(f:List AoG)=>(AO a.Zc).bind fun y=>if CI (f.length+1) 64 then lt1 (f++([y]:List AoG)) fun(g:List AoG)=>(AO a.Zo1).bind fun z=>if CI (g.length+1) 64 then lt1 (g++([z]:List AoG)) fun(i:List AoG)=>(AO a.Zw).bind fun aa=>if CI (i.length+1) 64 then lt1 (i++([aa]:List AoG)) fun(j:List AoG)=>(AO a.To).bind fun ab=>if CI (j.length+1) 64 then lt1 (j++([ab]:List AoG)) fun(k:List AoG)=>(AO a.Code).bind fun ac=>if CI (k.length+1) 64 then lt1 (k++([ac]:List AoG)) fun(l:List AoG)=>(AO a.Zp1).bind fun ad=>if CI (l.length+1) 64 then lt1 (l++([ad]:List AoG)) fun(m:List AoG)=>(AO a.Zq1).bind fun ae=>if CI (m.length+1) 64 then lt1 (m++([ae]:List AoG)) fun(n:List AoG)=>(AO a.Zr1).bind fun af=>if CI (n.length+1) 64 then lt1 (n++([af]:List AoG)) fun(o:List AoG)=>(AO a.Zs1).bind fun ag=>if CI (o.length+1) 64 then lt1 (o++([ag]:List AoG)) fun(ah:List AoG)=>some ah else none else none else none else none else none else none else none else none else none else none else none:Option (List AoG)).bind fun p=>edi_list_cnil.bind fun q=>((AF (fun(v:Int×List AoG)=>Dd a v.1 v.2) (0,[])).bind fun ai=>some ai:Option (List AoG)).bind fun aj=>(LY a.Zt1).bind fun ak=>if CI (p.length+2) 64 then (Gc (p++([ak,(AoG.mk q.Za q.N ([]) aj)]:List AoG))).bind fun c=>lt1 c.L fun(al:List AoG)=>some (AoG.mk c.Za c.N ([]) al) else none
def Dx(a:AoD):Option (List AoG) :=(ET a.Zb).bind fun b=>(ET a.No).bind fun c=>(IR a.Zv1.l).bind fun d=>(ET a.Zw1).bind fun e=>(Er a.Zx1).bind fun f=>lt1 ([b,c,d,e,f]:List AoG) fun(g:List AoG)=>some g
def CX(c:UInt64)(d:List UInt8)(a:Int)(b:List UInt8):Option ((Int×List UInt8)⊕(List UInt8)) :=if (decide (a<(d.length:Int)))then if EU (w64 (56-(w64 (8*a))))then if InR a b.length then lt1 (b.set a.toNat ((CV c ((w64 (56-(w64 (8*a)))).toNat)).toUInt8)) fun(e:List UInt8)=>some (.inl ((w64 (a+1)),e)) else none else none else some (.inr b)
def GK(b:UInt64):Option (AoG) :=if Mk 8 8 1 then lt1 (List.replicate 8 (0:UInt8)) fun(a:List UInt8)=>((AF (fun(v:Int×List UInt8)=>CX b a v.1 v.2) (0,a)).bind fun c=>some c:Option (List UInt8)).bind fun d=>(IR d).bind fun e=>some e else none
def Iu(a:List AoG):Option (AoG) :=some (AoG.mk 3 0 ([]) a)
def BG(b:AoG)(rec_:AoG→Option (Int×Bool))(c:Int)(a:Int):Option ((Int×Int)⊕((Int)⊕((Int)⊕((Unit)⊕(Int×Bool))))) :=if (decide (a<(b.L.length:Int)))then if InR a b.L.length then lt1 ((nth b.L a.toNat).Za) fun(e:Int)=>lt1 ((nth b.L a.toNat).N) fun(f:Int)=>lt1 ((nth b.L a.toNat).B) fun(g:List UInt8)=>lt1 ((nth b.L a.toNat).L) fun(i:List AoG)=>(rec_ (AoG.mk e f g i)).bind fun d=>if(!d.2)then (((some (0,false)).bind fun j=>some (.inr j)).bind fun k=>some (.inr k)).bind fun l=>some (.inr (.inr l)) else some (.inl ((Hi c d.1),(w64 (a+1)))) else none else some (.inr (.inl c))
def Ef(rec_:AoG→Option (Int×Bool))(a:AoG):Option (Int×Bool) :=(if(a.Za==1)then (if((a.B.length:Int)==0)then some ((a.L.length:Int)==0) else some false:Option (Bool)).bind fun b=>(some (0,b)).bind fun c=>some (.inr c) else if(a.Za==2)then (if(a.N==0)then some ((a.L.length:Int)==0) else some false:Option (Bool)).bind fun d=>(some (0,d)).bind fun e=>some (.inr e) else if (a.Za==3)then (if(a.N != 0)then some true else some ((a.B.length:Int) != 0):Option (Bool)).bind fun f=>if f then (some (0,false)).bind fun g=>some (.inr g) else ((AF (fun(v:Int×Int)=>BG a rec_ v.1 v.2) (0,0)).bind fun x=>match x with
     |.inl i=>some (.inl i)
     |.inr z=>some z:Option ((Int)⊕((Unit)⊕(Int×Bool)))).bind fun x=>match x with
     |.inl j=>(some ((w64 (j+1)),true)).bind fun k=>some (.inr k)
     |.inr z=>some z else some (.inl ()):Option ((Unit)⊕(Int×Bool))).bind fun x=>match x with
 |.inl ()=>some (0,false)
 |.inr z=>some z
def D8(n:Nat):AoG→Option (Int×Bool):=match n with
 |0=>fun _=>none
 |n+1=>Ef (D8 n)
def EA(a:AoG):Option (Int×Bool):=D8 18446744073709551616 a
def AX(a:UInt64)(b:Int):Option ((UInt64×Int)⊕(Int)) :=if(decide (a>(0:UInt64)))then lt1 (CV a (8:UInt64).toNat) fun(c:UInt64)=>some (.inl (c,(w64 (b+1)))) else some (.inr b)
def BD(a:UInt64):Option (Int) :=((AF (fun(v:UInt64×Int)=>AX v.1 v.2) (a,0)).bind fun b=>some b:Option (Int)).bind fun c=>some c
def AY(d:Int)(b:Int)(a:Int)(c:List UInt8):Option ((Int×List UInt8)⊕(List UInt8)) :=if (decide (a<b))then if EU (w64 (8*(w64 ((w64 (b-1))-a))))then if CI (c.length+1) 1 then lt1 (c++([(CV (UInt64.ofInt d) ((w64 (8*(w64 ((w64 (b-1))-a)))).toNat)).toUInt8]:List UInt8)) fun(e:List UInt8)=>some (.inl ((w64 (a+1)),e)) else none else none else some (.inr c)
def Dh(b:List UInt8)(a:Int):Option (List UInt8) :=(BD (UInt64.ofInt a)).bind fun c=>lt1 (UInt8.ofInt (w64 (32+c))) fun(e:UInt8)=>(if(decide (a<0))then (BD (~~~(UInt64.ofInt a))).bind fun d=>lt1 (UInt8.ofInt (w64 (31-d))) fun(f:UInt8)=>some (d,f) else some (c,e):Option (Int×UInt8)).bind fun(g,i)=>if CI (b.length+1) 1 then lt1 (b++([i]:List UInt8)) fun(j:List UInt8)=>((AF (fun(v:Int×List UInt8)=>AY a g v.1 v.2) (0,j)).bind fun k=>some k:Option (List UInt8)).bind fun l=>some l else none
def AQ(b:AoG)(a:Int)(c:List UInt8):Option ((Int×List UInt8)⊕(List UInt8)) :=if (decide (a<(b.B.length:Int)))then (if InR a b.B.length then if CI (c.length+1) 1 then lt1 (c++([nth b.B a.toNat]:List UInt8)) fun(d:List UInt8)=>if(nth b.B a.toNat==(0:UInt8))then if CI (d.length+1) 1 then lt1 (d++([(255:UInt8)]:List UInt8)) fun(e:List UInt8)=>some e else none else some d else none else none:Option (List UInt8)).bind fun f=>some (.inl ((w64 (a+1)),f)) else some (.inr c)
def AP(b:AoG)(rec_:(List UInt8)→AoG→Option (List UInt8))(a:Int)(c:List UInt8):Option ((Int×List UInt8)⊕(List UInt8)) :=if(decide (a<(b.L.length:Int)))then if InR a b.L.length then lt1 ((nth b.L a.toNat).Za) fun(d:Int)=>lt1 ((nth b.L a.toNat).N) fun(e:Int)=>lt1 ((nth b.L a.toNat).B) fun(f:List UInt8)=>lt1 ((nth b.L a.toNat).L) fun(g:List AoG)=>(rec_ c (AoG.mk d e f g)).bind fun i=>some (.inl ((w64 (a+1)),i)) else none else some (.inr c)
def Cb(rec_:(List UInt8)→AoG→Option (List UInt8))(a:List UInt8)(b:AoG):Option (List UInt8) :=(if(b.Za==1)then (Dh a b.N).bind fun e=>(some e).bind fun f=>some (.inr f) else if (b.Za==2)then if CI (a.length+1) 1 then lt1 (a++([(48:UInt8)]:List UInt8)) fun(g:List UInt8)=>((AF (fun(v:Int×List UInt8)=>AQ b v.1 v.2) (0,g)).bind fun i=>some i:Option (List UInt8)).bind fun c=>if CI (c.length+2) 1 then lt1 (c++([(0:UInt8),(0:UInt8)]:List UInt8)) fun(j:List UInt8)=>(some j).bind fun k=>some (.inr k) else none else none else some (.inl ()):Option ((Unit)⊕(List UInt8))).bind fun x=>match x with
 | .inl ()=>if CI (a.length+1) 1 then lt1 (a++([(64:UInt8)]:List UInt8)) fun(l:List UInt8)=>((AF (fun(v:Int×List UInt8)=>AP b rec_ v.1 v.2) (0,l)).bind fun m=>some m:Option (List UInt8)).bind fun d=>if CI (d.length+1) 1 then lt1 (d++([(0:UInt8)]:List UInt8)) fun(n:List UInt8)=>some n else none else none
 |.inr z=>some z
def BC(n:Nat):(List UInt8)→AoG→Option (List UInt8):=match n with
 |0=>fun _ _=>none
 |n+1=>Cb (BC n)
def E7(a:List UInt8)(b:AoG):Option (List UInt8):=BC 18446744073709551616 a b
def DW(a:AoG):Option (List UInt8×Int) :=(EA a).bind fun b=>if(!b.2)then some ([],10) else if(decide (b.1>16))then some ([],2) else (E7 ([]) a).bind fun c=>if(decide ((c.length:Int)>65536))then some ([],2) else some (c,0)
def CH(a:AoD):Option (List UInt8×Int) :=(Dx a).bind fun b=>(GK a.Sig.C).bind fun d=>(GK a.Sig.S).bind fun e=>(Iu ([d,e]:List AoG)).bind fun f=>if CI (b.length+1) 64 then (Iu (b++([f]:List AoG))).bind fun g=>(DW g).bind fun c=>some (c.1,c.2) else none
def Au(a:UInt32)(c:Int):Option (UInt32) :=lt1 ((UInt64.ofInt c) &&& (31:UInt64)) fun(b:UInt64)=>lt1 ((Sd a b.toNat) ||| (QQ a ((32:UInt64)-b).toNat)) fun(d:UInt32)=>some d
def FD(b:List UInt8)(a:Int)(c:Arr UInt32 64):Option ((Int×Arr UInt32 64)⊕(Arr UInt32 64)) :=if (decide (a<16))then if InR (w64 (4*a)) b.length then if InR (w64 ((w64 (4*a))+1)) b.length then if InR (w64 ((w64 (4*a))+2)) b.length then if InR (w64 ((w64 (4*a))+3)) b.length then if InR a 64 then lt1 (c.set a.toNat ((((Sd ((nth b ((w64 (4*a)).toNat)).toUInt32) (24:UInt64).toNat) ||| (Sd ((nth b ((w64 ((w64 (4*a))+1)).toNat)).toUInt32) (16:UInt64).toNat)) ||| (Sd ((nth b ((w64 ((w64 (4*a))+2)).toNat)).toUInt32) (8:UInt64).toNat)) ||| (nth b ((w64 ((w64 (4*a))+3)).toNat)).toUInt32)) fun(d:Arr UInt32 64)=>some (.inl ((w64 (a+1)),d)) else none else none else none else none else none else some (.inr c)
def FV(a:Int)(b:Arr UInt32 64):Option ((Int×Arr UInt32 64)⊕(Arr UInt32 64)) :=if (decide (a<64))then if InR (w64 (a-15)) 64 then if InR (w64 (a-2)) 64 then lt1 (b.get ((w64 (a-15)).toNat)) fun(c:UInt32)=>lt1 (b.get ((w64 (a-2)).toNat)) fun(d:UInt32)=>(Au c (-7)).bind fun e=>(Au c (-18)).bind fun f=>lt1 ((e ^^^ f) ^^^ (QQ c (3:UInt64).toNat)) fun(s0_5401:UInt32)=>(Au d (-17)).bind fun g=>(Au d (-19)).bind fun i=>lt1 ((g ^^^ i) ^^^ (QQ d (10:UInt64).toNat)) fun(s1_5407:UInt32)=>if InR (w64 (a-16)) 64 then if InR (w64 (a-7)) 64 then if InR a 64 then lt1 (b.set a.toNat ((((b.get ((w64 (a-16)).toNat))+s0_5401)+(b.get ((w64 (a-7)).toNat)))+s1_5407)) fun(j:Arr UInt32 64)=>some (.inl ((w64 (a+1)),j)) else none else none else none else none else none else some (.inr b)
def Dt(d:Arr UInt32 64)(b:Int)(a:Arr UInt32 8):Option ((Int×Arr UInt32 8)⊕(Arr UInt32 8)) :=if (decide (b<64))then (Au (a.get 4) (-6)).bind fun e=>(Au (a.get 4) (-11)).bind fun f=>(Au (a.get 4) (-25)).bind fun g=>if InR b 64 then if InR b 64 then lt1 (((((a.get 7)+((e ^^^ f) ^^^ g))+(((a.get 4) &&& (a.get 5)) ^^^ ((~~~(a.get 4)) &&& (a.get 6))))+(glob3.get b.toNat))+(d.get b.toNat)) fun(c:UInt32)=>(Au (a.get 0) (-2)).bind fun i=>(Au (a.get 0) (-13)).bind fun j=>(Au (a.get 0) (-22)).bind fun k=>lt1 (((i ^^^ j) ^^^ k)+((((a.get 0) &&& (a.get 1)) ^^^ ((a.get 0) &&& (a.get 2))) ^^^ ((a.get 1) &&& (a.get 2)))) fun(l:UInt32)=>lt1 (⟨[(c+l),(a.get 0),(a.get 1),(a.get 2),((a.get 3)+c),(a.get 4),(a.get 5),(a.get 6)],rfl⟩:Arr UInt32 8) fun(m:Arr UInt32 8)=>some (.inl ((w64 (b+1)),m)) else none else none else some (.inr a)
def FQ(c:Arr UInt32 8)(a:Int)(b:Arr UInt32 8):Option ((Int×Arr UInt32 8)⊕(Arr UInt32 8)) :=if (decide (a<8))then if InR a 8 then if InR a 8 then if InR a 8 then lt1 (b.set a.toNat ((b.get a.toNat)+(c.get a.toNat))) fun(d:Arr UInt32 8)=>some (.inl ((w64 (a+1)),d)) else none else none else none else some (.inr b)
def Gl(a:Arr UInt32 8)(b:List UInt8):Option (Arr UInt32 8) :=((AF (fun(v:Int×Arr UInt32 64)=>FD b v.1 v.2) (0,(Arr.rep 64 (0:UInt32)))).bind fun c=>some c:Option (Arr UInt32 64)).bind fun d=>((AF (fun(v:Int×Arr UInt32 64)=>FV v.1 v.2) (16,d)).bind fun e=>some e:Option (Arr UInt32 64)).bind fun f=>((AF (fun(v:Int×Arr UInt32 8)=>Dt f v.1 v.2) (0,a)).bind fun g=>some g:Option (Arr UInt32 8)).bind fun i=>((AF (fun(v:Int×Arr UInt32 8)=>FQ i v.1 v.2) (0,a)).bind fun j=>some j:Option (Arr UInt32 8)).bind fun k=>some k
def H7(b:List (List UInt8))(a:Int)(c:List UInt8):Option ((Int×List UInt8)⊕(List UInt8)) :=if (decide (a<(b.length:Int)))then if InR a b.length then lt1 (nth b a.toNat) fun(d:List UInt8)=>if CI (c.length+d.length) 1 then lt1 (c++d) fun(e:List UInt8)=>some (.inl ((w64 (a+1)),e)) else none else none else some (.inr c)
def HJ(a:List UInt8):Option ((List UInt8)⊕(List UInt8)) :=if((((a.length:Int):Int).tmod 64) != 56)then if CI (a.length+1) 1 then lt1 (a++([(0:UInt8)]:List UInt8)) fun(b:List UInt8)=>some (.inl b) else none else some (.inr a)
def H6(c:UInt64)(a:Int)(b:List UInt8):Option ((Int×List UInt8)⊕(List UInt8)) :=if (decide (a≥0))then if EU a then if CI (b.length+1) 1 then lt1 (b++([(CV c a.toNat).toUInt8]:List UInt8)) fun(d:List UInt8)=>some (.inl ((w64 (a-8)),d)) else none else none else some (.inr b)
def HG(d:List UInt8)(b:Nat)(a:Nat)(c:Arr UInt32 8):Option ((Nat×Nat×Arr UInt32 8)⊕(Arr UInt32 8)) :=if (decide ((a:Int)>0))then if InB 64 a then (Gl c ((d.drop b).take 64)).bind fun e=>if InB 64 a then some (.inl ((b+64),(a-64),e)) else none else none else some (.inr c)
def HA(c:Arr UInt32 8)(a:Int)(b:Arr UInt8 32):Option ((Int×Arr UInt8 32)⊕(Arr UInt8 32)) :=if (decide (a<32))then if InR (w64 ((a:Int).tdiv 4)) 8 then if EU (w64 (24-(w64 (8*((a:Int).tmod 4)))))then if InR a 32 then lt1 (b.set a.toNat ((QQ (c.get ((w64 ((a:Int).tdiv 4)).toNat)) ((w64 (24-(w64 (8*((a:Int).tmod 4))))).toNat)).toUInt8)) fun(d:Arr UInt8 32)=>some (.inl ((w64 (a+1)),d)) else none else none else none else some (.inr b)
def KA(c:List (List UInt8)):Option (Arr UInt8 32) :=((AF (fun(v:Int×List UInt8)=>H7 c v.1 v.2) (0,[])).bind fun d=>some d:Option (List UInt8)).bind fun a=>lt1 ((UInt64.ofInt (a.length:Int))*(8:UInt64)) fun(e:UInt64)=>if CI (a.length+1) 1 then lt1 (a++([(128:UInt8)]:List UInt8)) fun(f:List UInt8)=>((AF (fun(v:List UInt8)=>HJ v) f).bind fun g=>some g:Option (List UInt8)).bind fun i=>((AF (fun(v:Int×List UInt8)=>H6 e v.1 v.2) (56,i)).bind fun j=>some j:Option (List UInt8)).bind fun b=>lt1 (⟨[(1779033703:UInt32),3144134277,1013904242,2773480762,1359893119,2600822924,528734635,1541459225],rfl⟩:Arr UInt32 8) fun(k:Arr UInt32 8)=>((AF (fun(v:Nat×Nat×Arr UInt32 8)=>HG b v.1 v.2.1 v.2.2) (0,b.length,k)).bind fun l=>some l:Option (Arr UInt32 8)).bind fun m=>((AF (fun(v:Int×Arr UInt8 32)=>HA m v.1 v.2) (0,(Arr.rep 32 (0:UInt8)))).bind fun n=>some n:Option (Arr UInt8 32)).bind fun o=>some o else none
def Ep(a:List UInt8)(c:List UInt8):Option (Arr UInt8 32) :=if InB (WS (a.length:Int) 255) a.length then lt1 (a.take ((WS (a.length:Int) 255).toNat)) fun(b:List UInt8)=>(KA ([([(UInt8.ofInt (b.length:Int))]:List UInt8),b,c]:List (List UInt8))).bind fun d=>some d else none
def FA(b:AoD):Option (Arr UInt8 32×Int) :=(CH b).bind fun a=>if(a.2 != 0)then some ((Arr.rep 32 (0:UInt8)),a.2) else (Ep ([114,101,99,111,114,100]:List UInt8) a.1).bind fun c=>some (c,0)
def EO(b:AoD):Option (List UInt8×Int) :=(Dx b).bind fun c=>(Iu c).bind fun d=>(DW d).bind fun a=>some (a.1,a.2)
def Gz(c:UInt64)(a:Int)(b:List UInt8):Option ((Int×List UInt8)⊕(List UInt8)) :=if (decide (a<8))then if EU (w64 (56-(w64 (8*a))))then if CI (b.length+1) 1 then lt1 (b++([(CV c ((w64 (56-(w64 (8*a)))).toNat)).toUInt8]:List UInt8)) fun(d:List UInt8)=>some (.inl ((w64 (a+1)),d)) else none else none else some (.inr b)
def G9(b:List UInt64)(a:Int)(c:List UInt8):Option ((Int×List UInt8)⊕(List UInt8)) :=if(decide (a<(b.length:Int)))then (if InR a b.length then lt1 (nth b a.toNat) fun(d:UInt64)=>(AF (fun(v:Int×List UInt8)=>Gz d v.1 v.2) (0,c)).bind fun e=>some e else none:Option (List UInt8)).bind fun f=>some (.inl ((w64 (a+1)),f)) else some (.inr c)
def HI(a:List UInt8)(b:List UInt64):Option (List UInt8) :=if Mk 0 (w64 ((w64 (8*(b.length:Int)))+(a.length:Int))) 1 then lt1 (List.replicate 0 (0:UInt8)) fun(d:List UInt8)=>((AF (fun(v:Int×List UInt8)=>G9 b v.1 v.2) (0,d)).bind fun e=>some e:Option (List UInt8)).bind fun c=>if CI (c.length+a.length) 1 then lt1 (c++a) fun(f:List UInt8)=>some f else none else none
def Fh(b:Arr UInt8 32)(c:UInt64)(a:Int):Option ((UInt64×Int)⊕(UInt64)) :=if(decide (a<((b.l.take 8).length:Int)))then if InR a ((b.l.take 8).length)then lt1 (nth (b.l.take 8) a.toNat) fun(d:UInt8)=>lt1 ((Fi c (8:UInt64).toNat) ||| d.toUInt64) fun(e:UInt64)=>some (.inl (e,(w64 (a+1)))) else none else some (.inr c)
def Fv(a:Arr UInt8 32):Option (UInt64) :=((AF (fun(v:UInt64×Int)=>Fh a v.1 v.2) ((0:UInt64),0)).bind fun b=>some b:Option (UInt64)).bind fun c=>some c
def EM(a:UInt64)(b:UInt64)(c:List UInt8):Option (UInt64) :=(HI c ([a,b]:List UInt64)).bind fun d=>(Ep ([99,104,97,108,108,101,110,103,101]:List UInt8) d).bind fun e=>(Fv e).bind fun f=>some (f%(1152921504606845399:UInt64))
def OH(a:UInt64)(b:List UInt8):Option (AoC×Int) :=(Hm a).bind fun c=>if(c.2 != 0)then some (({ C:=(0:UInt64),S:=(0:UInt64) }:AoC),c.2) else if(decide ((b.length:Int)>65536))then some (({ C:=(0:UInt64),S:=(0:UInt64) }:AoC),2) else (HI b ([a]:List UInt64)).bind fun f=>(Ep ([110,111,110,99,101]:List UInt8) f).bind fun g=>(Fv g).bind fun i=>lt1 ((i%(1152921504606845398:UInt64))+(1:UInt64)) fun(d:UInt64)=>(Fx (4:UInt64) d).bind fun j=>(EM j c.1 b).bind fun e=>(EC (1152921504606845399:UInt64)).bind fun k=>(Cq e a k).bind fun l=>lt1 ((d+l.1)%(1152921504606845399:UInt64)) fun(m:UInt64)=>some (({ C:=e,S:=m }:AoC),0)
def Hv(a:AoB):Option (Bool) :=if((a.Ref.Zb==0)&&(a.Ref.No==0))then some (a.Za != 14) else (if(decide (a.Ref.Zb≥0))then if(decide (a.Ref.Zb<16))then if(decide (a.Ref.No≥1))then some (decide (a.Ref.No≤4096)) else some false else some false else some false:Option (Bool)).bind fun b=>some b
def Dv(a:AoH)(b:Int)(c:Int):Option (AoH) :=(if a.ok=true then if(decide (b≤a.it.Zn1))then some (decide (a.it.Zn1≤c)) else some false else some false:Option (Bool)).bind fun d=>some ({ p:=a.p,it:=({ Za:=a.it.Za,Ref:=a.it.Ref,Zn1:=0,Zb1:=a.it.Zb1,Zc:=a.it.Zc,Zo1:=a.it.Zo1,Zw:=a.it.Zw,To:=a.it.To,Code:=a.it.Code,Zp1:=a.it.Zp1,Zq1:=a.it.Zq1,Zr1:=a.it.Zr1,Zs1:=a.it.Zs1,Zt1:=a.it.Zt1,Zu1:=a.it.Zu1 }:AoB),ok:=d }:AoH)
def BI(a:AoH)(b:Int)(c:Int):Option (AoH) :=(if a.ok=true then if(decide (b≤a.it.Zc))then some (decide (a.it.Zc≤c)) else some false else some false:Option (Bool)).bind fun d=>some ({ p:=a.p,it:=({ Za:=a.it.Za,Ref:=a.it.Ref,Zn1:=a.it.Zn1,Zb1:=a.it.Zb1,Zc:=0,Zo1:=a.it.Zo1,Zw:=a.it.Zw,To:=a.it.To,Code:=a.it.Code,Zp1:=a.it.Zp1,Zq1:=a.it.Zq1,Zr1:=a.it.Zr1,Zs1:=a.it.Zs1,Zt1:=a.it.Zt1,Zu1:=a.it.Zu1 }:AoB),ok:=d }:AoH)
def BM(a:AoH)(b:Int)(c:Int):Option (AoH) :=(if a.ok=true then if(decide (b≤a.it.Zo1))then some (decide (a.it.Zo1≤c)) else some false else some false:Option (Bool)).bind fun d=>some ({ p:=a.p,it:=({ Za:=a.it.Za,Ref:=a.it.Ref,Zn1:=a.it.Zn1,Zb1:=a.it.Zb1,Zc:=a.it.Zc,Zo1:=0,Zw:=a.it.Zw,To:=a.it.To,Code:=a.it.Code,Zp1:=a.it.Zp1,Zq1:=a.it.Zq1,Zr1:=a.it.Zr1,Zs1:=a.it.Zs1,Zt1:=a.it.Zt1,Zu1:=a.it.Zu1 }:AoB),ok:=d }:AoH)
def CY(a:AoH)(b:Int)(c:Int):Option (AoH) :=(if a.ok=true then if(decide (b≤a.it.Zw))then some (decide (a.it.Zw≤c)) else some false else some false:Option (Bool)).bind fun d=>some ({ p:=a.p,it:=({ Za:=a.it.Za,Ref:=a.it.Ref,Zn1:=a.it.Zn1,Zb1:=a.it.Zb1,Zc:=a.it.Zc,Zo1:=a.it.Zo1,Zw:=0,To:=a.it.To,Code:=a.it.Code,Zp1:=a.it.Zp1,Zq1:=a.it.Zq1,Zr1:=a.it.Zr1,Zs1:=a.it.Zs1,Zt1:=a.it.Zt1,Zu1:=a.it.Zu1 }:AoB),ok:=d }:AoH)
def Dr(a:AoH)(b:Int)(c:Int):Option (AoH) :=(if a.ok=true then if(decide (b≤a.it.To))then some (decide (a.it.To≤c)) else some false else some false:Option (Bool)).bind fun d=>some ({ p:=a.p,it:=({ Za:=a.it.Za,Ref:=a.it.Ref,Zn1:=a.it.Zn1,Zb1:=a.it.Zb1,Zc:=a.it.Zc,Zo1:=a.it.Zo1,Zw:=a.it.Zw,To:=0,Code:=a.it.Code,Zp1:=a.it.Zp1,Zq1:=a.it.Zq1,Zr1:=a.it.Zr1,Zs1:=a.it.Zs1,Zt1:=a.it.Zt1,Zu1:=a.it.Zu1 }:AoB),ok:=d }:AoH)
def Bu(a:AoH)(b:Int)(c:Int):Option (AoH) :=(if a.ok=true then if(decide (b≤a.it.Code))then some (decide (a.it.Code≤c)) else some false else some false:Option (Bool)).bind fun d=>some ({ p:=a.p,it:=({ Za:=a.it.Za,Ref:=a.it.Ref,Zn1:=a.it.Zn1,Zb1:=a.it.Zb1,Zc:=a.it.Zc,Zo1:=a.it.Zo1,Zw:=a.it.Zw,To:=a.it.To,Code:=0,Zp1:=a.it.Zp1,Zq1:=a.it.Zq1,Zr1:=a.it.Zr1,Zs1:=a.it.Zs1,Zt1:=a.it.Zt1,Zu1:=a.it.Zu1 }:AoB),ok:=d }:AoH)
def Df(a:AoH)(b:Int)(c:Int):Option (AoH) :=(if a.ok=true then if(decide (b≤a.it.Zp1))then some (decide (a.it.Zp1≤c)) else some false else some false:Option (Bool)).bind fun d=>some ({ p:=a.p,it:=({ Za:=a.it.Za,Ref:=a.it.Ref,Zn1:=a.it.Zn1,Zb1:=a.it.Zb1,Zc:=a.it.Zc,Zo1:=a.it.Zo1,Zw:=a.it.Zw,To:=a.it.To,Code:=a.it.Code,Zp1:=0,Zq1:=a.it.Zq1,Zr1:=a.it.Zr1,Zs1:=a.it.Zs1,Zt1:=a.it.Zt1,Zu1:=a.it.Zu1 }:AoB),ok:=d }:AoH)
def Da(a:AoH)(b:Int)(c:Int):Option (AoH) :=(if a.ok=true then if(decide (b≤a.it.Zq1))then some (decide (a.it.Zq1≤c)) else some false else some false:Option (Bool)).bind fun d=>some ({ p:=a.p,it:=({ Za:=a.it.Za,Ref:=a.it.Ref,Zn1:=a.it.Zn1,Zb1:=a.it.Zb1,Zc:=a.it.Zc,Zo1:=a.it.Zo1,Zw:=a.it.Zw,To:=a.it.To,Code:=a.it.Code,Zp1:=a.it.Zp1,Zq1:=0,Zr1:=a.it.Zr1,Zs1:=a.it.Zs1,Zt1:=a.it.Zt1,Zu1:=a.it.Zu1 }:AoB),ok:=d }:AoH)
def Cr(a:AoH)(b:Int)(c:Int):Option (AoH) :=(if a.ok=true then if(decide (b≤a.it.Zr1))then some (decide (a.it.Zr1≤c)) else some false else some false:Option (Bool)).bind fun d=>some ({ p:=a.p,it:=({ Za:=a.it.Za,Ref:=a.it.Ref,Zn1:=a.it.Zn1,Zb1:=a.it.Zb1,Zc:=a.it.Zc,Zo1:=a.it.Zo1,Zw:=a.it.Zw,To:=a.it.To,Code:=a.it.Code,Zp1:=a.it.Zp1,Zq1:=a.it.Zq1,Zr1:=0,Zs1:=a.it.Zs1,Zt1:=a.it.Zt1,Zu1:=a.it.Zu1 }:AoB),ok:=d }:AoH)
def Cs(a:AoH)(b:Int)(c:Int):Option (AoH) :=(if a.ok=true then if(decide (b≤a.it.Zs1))then some (decide (a.it.Zs1≤c)) else some false else some false:Option (Bool)).bind fun d=>some ({ p:=a.p,it:=({ Za:=a.it.Za,Ref:=a.it.Ref,Zn1:=a.it.Zn1,Zb1:=a.it.Zb1,Zc:=a.it.Zc,Zo1:=a.it.Zo1,Zw:=a.it.Zw,To:=a.it.To,Code:=a.it.Code,Zp1:=a.it.Zp1,Zq1:=a.it.Zq1,Zr1:=a.it.Zr1,Zs1:=0,Zt1:=a.it.Zt1,Zu1:=a.it.Zu1 }:AoB),ok:=d }:AoH)
def C4(a:AoH):Option (AoH) :=(Dv a 0 (w64 ((a.p.Zh1.Zy.length:Int)-1))).bind fun b=>some b
def Bp(a:AoH):Option (AoH) :=(CY a 0 1073741824).bind fun b=>some b
def B0(a:AoH)(c:Int):Option (Aol×AoH) :=((if(decide (a.it.Zb1≥0))then some (decide (a.it.Zb1<(a.p.Zg1.Ze.length:Int))) else some false:Option (Bool)).bind fun d=>if d then if InR a.it.Zb1 a.p.Zg1.Ze.length then lt1 ((nth a.p.Zg1.Ze a.it.Zb1.toNat).Za) fun(e:Int)=>lt1 ((nth a.p.Zg1.Ze a.it.Zb1.toNat).Zb) fun(f:Int)=>lt1 ((nth a.p.Zg1.Ze a.it.Zb1.toNat).Zc) fun(g:Int)=>some (e,f,g) else none else some (0,0,0):Option (Int×Int×Int)).bind fun(b,i,j)=>(if a.ok=true then if(b != 0)then if(c==0)then some true else some (b==c) else some false else some false:Option (Bool)).bind fun k=>some (({ Za:=b,Zb:=i,Zc:=j }:Aol),({ p:=a.p,it:=({ Za:=a.it.Za,Ref:=a.it.Ref,Zn1:=a.it.Zn1,Zb1:=0,Zc:=a.it.Zc,Zo1:=a.it.Zo1,Zw:=a.it.Zw,To:=a.it.To,Code:=a.it.Code,Zp1:=a.it.Zp1,Zq1:=a.it.Zq1,Zr1:=a.it.Zr1,Zs1:=a.it.Zs1,Zt1:=a.it.Zt1,Zu1:=a.it.Zu1 }:AoB),ok:=k }:AoH))
def CO(a:AoH):Option (AoH) :=(Dr a (Hi a.it.Zw 0) 1073741824).bind fun b=>(Bp b).bind fun c=>some c
def Cc(a:AoH):Option (AoH) :=(BI a 0 (w64 ((a.p.Zj1.length:Int)-1))).bind fun b=>some b
def D6(a:AoH):Option (AoH) :=(Da a 0 63).bind fun b=>some b
def DD(c:AoH):Option (AoH) :=if(decide (c.it.Za<1))then some ({ p:=c.p,it:=c.it,ok:=false }:AoH) else (C4 c).bind fun b=>if(b.it.Za==1)then (BI b 0 (w64 ((b.p.Zi1.length:Int)-1))).bind fun f=>(Bp f).bind fun g=>some g else if(b.it.Za==2)then (B0 b 0).bind fun i=>(CO i.2).bind fun j=>some j else (if(b.it.Za==3)then some (b.it.Za==3) else some (b.it.Za==4):Option (Bool)).bind fun k=>if k then (B0 b 3).bind fun a=>(if a.2.ok=true then if(a.2.it.Zc==a.1.Zb)then some true else some (a.2.it.Zc==a.1.Zc) else some false:Option (Bool)).bind fun l=>(Bp ({ p:=a.2.p,it:=({ Za:=a.2.it.Za,Ref:=a.2.it.Ref,Zn1:=a.2.it.Zn1,Zb1:=a.2.it.Zb1,Zc:=0,Zo1:=a.2.it.Zo1,Zw:=a.2.it.Zw,To:=a.2.it.To,Code:=a.2.it.Code,Zp1:=a.2.it.Zp1,Zq1:=a.2.it.Zq1,Zr1:=a.2.it.Zr1,Zs1:=a.2.it.Zs1,Zt1:=a.2.it.Zt1,Zu1:=a.2.it.Zu1 }:AoB),ok:=l }:AoH)).bind fun m=>(Bu m 0 8).bind fun n=>some n else if(b.it.Za==5)then (BM b 1 1000000000).bind fun o=>(Cc o).bind fun q=>(B0 q 0).bind fun e=>(Df e.2 0 (w64 ((e.2.p.Zg1.Ze.length:Int)-1))).bind fun s=>(D6 s).bind fun t=>(Cr t 0 1000000).bind fun u=>(Bp u).bind fun v=>some v else (if(b.it.Za==6)then some (b.it.Za==6) else some (b.it.Za==7):Option (Bool)).bind fun w=>if w then (B0 b 0).bind fun x=>(Cc x.2).bind fun y=>(Bp y).bind fun d=>if(d.it.Za==6)then (Bu d 0 1).bind fun z=>some z else some d else some b
def Ik(b:List AoA)(e:Bool)(a:Int):Option ((Int)⊕((Unit)⊕((Unit)⊕(Bool)))) :=if (decide (a<(b.length:Int)))then if InR a b.length then lt1 ((nth b a.toNat).Za) fun(c:Int)=>lt1 ((nth b a.toNat).Zl1) fun(d:Int)=>lt1 ((nth b a.toNat).Zm1) fun(f:Bool)=>(if(decide (c<1))then some true else if(decide (c>3))then some true else if(decide (d<0))then some true else if(decide (d>1073741824))then some true else if f then some (!e) else some false:Option (Bool)).bind fun g=>if g then ((some false).bind fun i=>some (.inr i)).bind fun j=>some (.inr (.inr j)) else some (.inl (w64 (a+1))) else none else some (.inr (.inl ()))
def Kn(a:List AoA)(b:Bool):Option (Bool) :=((AF (fun(v:Int)=>Ik a b v) 0).bind fun x=>match x with
 |.inl ()=>some (.inl ())
 |.inr z=>some z:Option ((Unit)⊕(Bool))).bind fun x=>match x with
 |.inl ()=>some (decide ((a.length:Int)≤16))
 |.inr z=>some z
def EK(b:AoH):Option (AoH) :=if(b.it.Za==8)then (C4 b).bind fun f=>(Bp f).bind fun g=>(Bu g 1 9).bind fun i=>some i else if(b.it.Za==9)then (C4 b).bind fun j=>(B0 j 5).bind fun k=>(CO k.2).bind fun l=>(Bu l 1 2).bind fun m=>(Cs m 0 1000000000).bind fun d=>(if d.ok=true then (Kn d.it.Zu1 true).bind fun n=>some n else some false:Option (Bool)).bind fun o=>some ({ p:=d.p,it:=({ Za:=d.it.Za,Ref:=d.it.Ref,Zn1:=d.it.Zn1,Zb1:=d.it.Zb1,Zc:=d.it.Zc,Zo1:=d.it.Zo1,Zw:=d.it.Zw,To:=d.it.To,Code:=d.it.Code,Zp1:=d.it.Zp1,Zq1:=d.it.Zq1,Zr1:=d.it.Zr1,Zs1:=d.it.Zs1,Zt1:=d.it.Zt1,Zu1:=[] }:AoB),ok:=o }:AoH) else if (b.it.Za==10)then (BI b 0 63).bind fun c=>(if c.ok=true then if(decide ((c.it.Zu1.length:Int)>0))then (Kn c.it.Zu1 false).bind fun q=>some q else some false else some false:Option (Bool)).bind fun s=>some ({ p:=c.p,it:=({ Za:=c.it.Za,Ref:=c.it.Ref,Zn1:=c.it.Zn1,Zb1:=c.it.Zb1,Zc:=c.it.Zc,Zo1:=c.it.Zo1,Zw:=c.it.Zw,To:=c.it.To,Code:=c.it.Code,Zp1:=c.it.Zp1,Zq1:=c.it.Zq1,Zr1:=c.it.Zr1,Zs1:=c.it.Zs1,Zt1:=c.it.Zt1,Zu1:=[] }:AoB),ok:=s }:AoH) else (if(b.it.Za==11)then some (b.it.Za==11) else if(b.it.Za==12)then some (b.it.Za==12) else some (b.it.Za==13):Option (Bool)).bind fun t=>if t then (BM b 1 6).bind fun u=>(Bp u).bind fun a=>if (a.it.Za != 13)then (if a.ok=true then if(decide ((a.it.Zt1.length:Int)≥1))then some (decide ((a.it.Zt1.length:Int)≤2000)) else some false else some false:Option (Bool)).bind fun v=>some ({ p:=a.p,it:=({ Za:=a.it.Za,Ref:=a.it.Ref,Zn1:=a.it.Zn1,Zb1:=a.it.Zb1,Zc:=a.it.Zc,Zo1:=a.it.Zo1,Zw:=a.it.Zw,To:=a.it.To,Code:=a.it.Code,Zp1:=a.it.Zp1,Zq1:=a.it.Zq1,Zr1:=a.it.Zr1,Zs1:=a.it.Zs1,Zt1:=([]:List UInt8),Zu1:=a.it.Zu1 }:AoB),ok:=v }:AoH) else some a else if(b.it.Za==14)then some b else if(b.it.Za==15)then (Cc b).bind fun w=>(B0 w 0).bind fun x=>(D6 x.2).bind fun e=>(BM e 0 (w64 ((e.p.Zh1.Zx.length:Int)-1))).bind fun y=>(Cr y 1 1000).bind fun z=>(CO z).bind fun aa=>(Cs aa 0 1000000000).bind fun ab=>some ab else some ({ p:=b.p,it:=b.it,ok:=false }:AoH)
def KR(d:Aoy)(c:AoB):Option (Bool) :=(if(decide (c.Za≤7))then (DD ({ p:=d,it:=c,ok:=true }:AoH)).bind fun a=>some (a.p.Zg1.Ze,a.p.Zg1.Zf,a.p.Zh1.Zx,a.p.Zh1.Zy,a.p.Zh1.Zz,a.p.Zh1.Za1,a.p.Zi1,a.p.Zj1,a.p.Zk1,a.it.Za,a.it.Ref.Zb,a.it.Ref.No,a.it.Zn1,a.it.Zb1,a.it.Zc,a.it.Zo1,a.it.Zw,a.it.To,a.it.Code,a.it.Zp1,a.it.Zq1,a.it.Zr1,a.it.Zs1,a.it.Zt1,a.it.Zu1,a.ok) else (EK ({ p:=d,it:=c,ok:=true }:AoH)).bind fun b=>some (b.p.Zg1.Ze,b.p.Zg1.Zf,b.p.Zh1.Zx,b.p.Zh1.Zy,b.p.Zh1.Zz,b.p.Zh1.Za1,b.p.Zi1,b.p.Zj1,b.p.Zk1,b.it.Za,b.it.Ref.Zb,b.it.Ref.No,b.it.Zn1,b.it.Zb1,b.it.Zc,b.it.Zo1,b.it.Zw,b.it.To,b.it.Code,b.it.Zp1,b.it.Zq1,b.it.Zr1,b.it.Zs1,b.it.Zt1,b.it.Zu1,b.ok):Option (List Aol×List Aom×List Aoo×List Aop×List Aoq×List Aor×List Aot×List Aou×List Aox×Int×Int×Int×Int×Int×Int×Int×Int×Int×Int×Int×Int×Int×Int×List UInt8×List AoA×Bool)).bind fun(ai,aj,ak,al,am,an,ao,ap,aq,ar,au,av,e,f,g,i,j,k,l,m,n,o,q,s,t,u)=>((if u then some (e==0) else some false:Option (Bool)).bind fun v=>(if v then some (f==0) else some false:Option (Bool)).bind fun w=>(if w then some (g==0) else some false:Option (Bool)).bind fun x=>(if x then some (i==0) else some false:Option (Bool)).bind fun y=>(if y then some (j==0) else some false:Option (Bool)).bind fun z=>(if z then some (k==0) else some false:Option (Bool)).bind fun aa=>(if aa then some (l==0) else some false:Option (Bool)).bind fun ab=>(if ab then some (m==0) else some false:Option (Bool)).bind fun ac=>(if ac then some (n==0) else some false:Option (Bool)).bind fun ad=>(if ad then some (o==0) else some false:Option (Bool)).bind fun ae=>(if ae then some (q==0) else some false:Option (Bool)).bind fun af=>some af:Option (Bool)).bind fun ag=>(if ag then if(s==([]:List UInt8))then some ((t.length:Int)==0) else some false else some false:Option (Bool)).bind fun ah=>some ah
def Kz(a:Aoy)(b:AoB):Option (Int) :=(C5 a).bind fun c=>if(c != 0)then some c else ((Hv b).bind fun d=>if(!d)then some true else (KR a b).bind fun e=>some (!e):Option (Bool)).bind fun f=>if f then some 110 else some 0
def HD(b:UInt64)(c:List UInt8)(a:AoC):Option (Bool) :=(if(decide ((c.length:Int)>65536))then some true else if(decide (a.C≥(1152921504606845399:UInt64)))then some true else if(decide (a.S≥(1152921504606845399:UInt64)))then some true else (F6 b).bind fun d=>some (!d):Option (Bool)).bind fun e=>if e then some false else (EC (2305843009213690799:UInt64)).bind fun f=>(Fx (4:UInt64) a.S).bind fun g=>(Fx b ((1152921504606845399:UInt64)-a.C)).bind fun i=>(Cq g i f).bind fun j=>(EM j.1 b c).bind fun k=>some (k==a.C)
def J5(b:Aoy)(a:AoD):Option (Int) :=(C5 b).bind fun d=>if(d != 0)then some d else (if(decide (a.Zb<0))then some true else if(decide (a.Zb≥(b.Zk1.length:Int)))then some true else if(decide (a.No<1))then some true else if(decide (a.No>4096))then some true else if(decide (a.Zw1<0))then some true else if(decide (a.Zw1>1073741824))then some true else some (decide ((Ad3 a.Sig.C a.Sig.S)≥(1152921504606845399:UInt64))):Option (Bool)).bind fun f=>if f then some 1 else (Kz b a.Zx1).bind fun e=>if(e != 0)then some e else (EO a).bind fun c=>if(c.2 != 0)then some c.2 else if InR a.Zb b.Zk1.length then (HD ((nth b.Zk1 a.Zb.toNat).Key) c.1 a.Sig).bind fun g=>if(!g)then some 31 else some 0 else none
def Ey(a:Int):Option (Bool) :=some (a != a)
def C6(a:Int)(b:Int):Option (Int) :=(Ey a).bind fun d=>(Ey b).bind fun c=>if d then if c then some 0 else some (-1) else if c then some 1 else if(decide (a<b))then some (-1) else if(decide (a>b))then some 1 else some 0
def FU(a:List UInt8)(b:List UInt8):Option (Int):=Nf a b
def Et(a:List UInt8)(b:List UInt8):Option (Int) :=(FU a b).bind fun c=>some c
def AW(s1_7111:List AoG)(s2_7112:List AoG)(c:AoG→AoG→Option (Int))(a:Int):Option ((Int)⊕((Unit)⊕((Unit)⊕(Int)))) :=if (decide (a<(s1_7111.length:Int)))then if InR a s1_7111.length then lt1 ((nth s1_7111 a.toNat).Za) fun(d:Int)=>lt1 ((nth s1_7111 a.toNat).N) fun(e:Int)=>lt1 ((nth s1_7111 a.toNat).B) fun(f:List UInt8)=>lt1 ((nth s1_7111 a.toNat).L) fun(g:List AoG)=>if(decide (a≥(s2_7112.length:Int)))then ((some 1).bind fun i=>some (.inr i)).bind fun j=>some (.inr (.inr j)) else if InR a s2_7112.length then lt1 ((nth s2_7112 a.toNat).Za) fun(k:Int)=>lt1 ((nth s2_7112 a.toNat).N) fun(l:Int)=>lt1 ((nth s2_7112 a.toNat).B) fun(m:List UInt8)=>lt1 ((nth s2_7112 a.toNat).L) fun(n:List AoG)=>(c (AoG.mk d e f g) (AoG.mk k l m n)).bind fun b=>if(b != 0)then ((some b).bind fun o=>some (.inr o)).bind fun p=>some (.inr (.inr p)) else some (.inl (w64 (a+1))) else none else none else some (.inr (.inl ()))
def B8(b:AoG→AoG→Option (Int))(s1_7111:List AoG)(s2_7112:List AoG)(a:AoG→AoG→Option (Int)):Option (Int) :=((AF (fun(v:Int)=>AW s1_7111 s2_7112 a v) 0).bind fun x=>match x with
 |.inl ()=>some (.inl ())
 |.inr z=>some z:Option ((Unit)⊕(Int))).bind fun x=>match x with
 | .inl ()=>if(decide ((s1_7111.length:Int)<(s2_7112.length:Int)))then some (-1) else some 0
 |.inr z=>some z
def Dj(rec_:AoG→AoG→Option (Int))(a:AoG)(b:AoG):Option (Int) :=(C6 a.Za b.Za).bind fun c=>if(c != 0)then some c else if(a.Za==1)then (C6 a.N b.N).bind fun d=>some d else if(a.Za==2)then (Et a.B b.B).bind fun e=>some e else if(a.Za==3)then (B8 rec_ a.L b.L rec_).bind fun f=>some f else some 0
def Dc(n:Nat):AoG→AoG→Option (Int):=match n with
 |0=>fun _ _=>none
 |n+1=>Dj (Dc n)
def Ft(a:AoG)(b:AoG):Option (Int):=Dc 18446744073709551616 a b
def On(a:AoD)(b:AoD):Option (Bool) :=(if (a.Zb==b.Zb)then if (a.No==b.No)then if(a.Zv1==b.Zv1)then if(a.Zw1==b.Zw1)then some ((a.Sig.C==b.Sig.C)&&(a.Sig.S==b.Sig.S)) else some false else some false else some false else some false:Option (Bool)).bind fun c=>(if c then (Er a.Zx1).bind fun d=>(Er b.Zx1).bind fun e=>(Ft d e).bind fun f=>some (f==0) else some false:Option (Bool)).bind fun g=>some g
def IB(b:List AoD)(a:AoD):Option (Int) :=if(decide (a.No>(w64 ((b.length:Int)+1))))then some 140 else (if (decide (a.No>1))then if InR (w64 (a.No-2)) b.length then (FA (nth b ((w64 (a.No-2)).toNat))).bind fun c=>(if(c.2 != 0)then some true else if InR (w64 (a.No-2)) b.length then some (decide (a.Zw1<(nth b ((w64 (a.No-2)).toNat)).Zw1)) else none:Option (Bool)).bind fun d=>if d then (some 140).bind fun e=>some (.inr e) else some (.inl c.1) else none else some (.inl (Arr.rep 32 (0:UInt8))):Option ((Arr UInt8 32)⊕(Int))).bind fun x=>match x with
  | .inl f=>if(!(f==a.Zv1))then some 140 else (if (!((a.Zx1.Ref.Zb==0)&&(a.Zx1.Ref.No==0)))then if(a.Zx1.Ref.Zb != a.Zb)then some true else if(decide (a.Zx1.Ref.No<1))then some true else if(decide (a.Zx1.Ref.No≥a.No))then some true else if InR (w64 (a.Zx1.Ref.No-1)) b.length then some (!(((((nth b ((w64 (a.Zx1.Ref.No-1)).toNat)).Zx1).Ref).Zb==0)&&((((nth b ((w64 (a.Zx1.Ref.No-1)).toNat)).Zx1).Ref).No==0))) else none else some false:Option (Bool)).bind fun g=>if g then some 110 else some 0
  |.inr z=>some z
def FC(a:List AoD):Option (List AoD) :=if CI (0+a.length) 224 then lt1 (([]:List AoD)++a) fun(b:List AoD)=>some b else none
def HK(b:AoE)(a:AoD):Option (Bool×AoD) :=(if(b.A.Zb==a.Zb)then some (b.A.No==a.No) else some false:Option (Bool)).bind fun c=>some (c,a)
def BO(c:List AoE)(b:Int)(d:Int)(e:Int)(f:Arr UInt8 32)(g:Int)(i:Int)(j:Int)(k:Int)(l:Int)(m:Int)(n:Int)(o:Int)(p:Int)(q:Int)(s:Int)(t:Int)(u:Int)(v:Int)(w:Int)(x:List UInt8)(y:List AoA)(z:UInt64)(aa:UInt64):Option ((Int×Int×Int×Arr UInt8 32×Int×Int×Int×Int×Int×Int×Int×Int×Int×Int×Int×Int×Int×Int×Int×List UInt8×List AoA×UInt64×UInt64)⊕((Int×Int×Arr UInt8 32×Int×Int×Int×Int×Int×Int×Int×Int×Int×Int×Int×Int×Int×Int×Int×List UInt8×List AoA×UInt64×UInt64)⊕((Int×Int×Arr UInt8 32×Int×Int×Int×Int×Int×Int×Int×Int×Int×Int×Int×Int×Int×Int×Int×List UInt8×List AoA×UInt64×UInt64)⊕(Int×AoD)))) :=if (decide (b<(c.length:Int)))then if InR b c.length then (HK ({ A:=(nth c b.toNat).A,B:=(nth c b.toNat).B }:AoE) ({ Zb:=d,No:=e,Zv1:=f,Zw1:=g,Zx1:=({ Za:=i,Ref:=({ Zb:=j,No:=k }:Aoz),Zn1:=l,Zb1:=m,Zc:=n,Zo1:=o,Zw:=p,To:=q,Code:=s,Zp1:=t,Zq1:=u,Zr1:=v,Zs1:=w,Zt1:=x,Zu1:=y }:AoB),Sig:=({ C:=z,S:=aa }:AoC) }:AoD)).bind fun a=>if a.1=true then ((some (b,a.2)).bind fun ab=>some (.inr ab)).bind fun ac=>some (.inr (.inr ac)) else some (.inl ((w64 (b+1)),a.2.Zb,a.2.No,a.2.Zv1,a.2.Zw1,a.2.Zx1.Za,a.2.Zx1.Ref.Zb,a.2.Zx1.Ref.No,a.2.Zx1.Zn1,a.2.Zx1.Zb1,a.2.Zx1.Zc,a.2.Zx1.Zo1,a.2.Zx1.Zw,a.2.Zx1.To,a.2.Zx1.Code,a.2.Zx1.Zp1,a.2.Zx1.Zq1,a.2.Zx1.Zr1,a.2.Zx1.Zs1,a.2.Zx1.Zt1,a.2.Zx1.Zu1,a.2.Sig.C,a.2.Sig.S)) else none else some (.inr (.inl (d,e,f,g,i,j,k,l,m,n,o,p,q,s,t,u,v,w,x,y,z,aa)))
def Cg(b:List AoE)(a:AoD):Option (Int×AoD) :=((AF (fun(v:Int×Int×Int×Arr UInt8 32×Int×Int×Int×Int×Int×Int×Int×Int×Int×Int×Int×Int×Int×Int×Int×List UInt8×List AoA×UInt64×UInt64)=>BO b v.1 v.2.1 v.2.2.1 v.2.2.2.1 v.2.2.2.2.1 v.2.2.2.2.2.1 v.2.2.2.2.2.2.1 v.2.2.2.2.2.2.2.1 v.2.2.2.2.2.2.2.2.1 v.2.2.2.2.2.2.2.2.2.1 v.2.2.2.2.2.2.2.2.2.2.1 v.2.2.2.2.2.2.2.2.2.2.2.1 v.2.2.2.2.2.2.2.2.2.2.2.2.1 v.2.2.2.2.2.2.2.2.2.2.2.2.2.1 v.2.2.2.2.2.2.2.2.2.2.2.2.2.2.1 v.2.2.2.2.2.2.2.2.2.2.2.2.2.2.2.1 v.2.2.2.2.2.2.2.2.2.2.2.2.2.2.2.2.1 v.2.2.2.2.2.2.2.2.2.2.2.2.2.2.2.2.2.1 v.2.2.2.2.2.2.2.2.2.2.2.2.2.2.2.2.2.2.1 v.2.2.2.2.2.2.2.2.2.2.2.2.2.2.2.2.2.2.2.1 v.2.2.2.2.2.2.2.2.2.2.2.2.2.2.2.2.2.2.2.2.1 v.2.2.2.2.2.2.2.2.2.2.2.2.2.2.2.2.2.2.2.2.2.1 v.2.2.2.2.2.2.2.2.2.2.2.2.2.2.2.2.2.2.2.2.2.2) (0,a.Zb,a.No,a.Zv1,a.Zw1,a.Zx1.Za,a.Zx1.Ref.Zb,a.Zx1.Ref.No,a.Zx1.Zn1,a.Zx1.Zb1,a.Zx1.Zc,a.Zx1.Zo1,a.Zx1.Zw,a.Zx1.To,a.Zx1.Code,a.Zx1.Zp1,a.Zx1.Zq1,a.Zx1.Zr1,a.Zx1.Zs1,a.Zx1.Zt1,a.Zx1.Zu1,a.Sig.C,a.Sig.S)).bind fun x=>match x with
 |.inl (c,d,e,f,g,i,j,k,l,m,n,o,p,q,s,t,u,w,y,aa,ab,ac)=>some (.inl (c,d,e,f,g,i,j,k,l,m,n,o,p,q,s,t,u,w,y,aa,ab,ac))
 |.inr z=>some z:Option ((Int×Int×Arr UInt8 32×Int×Int×Int×Int×Int×Int×Int×Int×Int×Int×Int×Int×Int×Int×Int×List UInt8×List AoA×UInt64×UInt64)⊕(Int×AoD))).bind fun x=>match x with
 |.inl (ad,ae,af,ag,ah,ai,aj,ak,al,am,an,ao,ap,aq,ar,au,av,aw,ax,ay,az,aA)=>some ((-1),({ Zb:=ad,No:=ae,Zv1:=af,Zw1:=ag,Zx1:=({ Za:=ah,Ref:=({ Zb:=ai,No:=aj }:Aoz),Zn1:=ak,Zb1:=al,Zc:=am,Zo1:=an,Zw:=ao,To:=ap,Code:=aq,Zp1:=ar,Zq1:=au,Zr1:=av,Zs1:=aw,Zt1:=ax,Zu1:=ay }:AoB),Sig:=({ C:=az,S:=aA }:AoC) }:AoD))
 |.inr z=>some z
def BP(b:List AoE)(c:AoD):Option (Bool×AoD) :=(Cg b c).bind fun a=>some ((decide (a.1≥0)),a.2)
def FO(a:List AoE):Option (List AoE) :=if CI (0+a.length) 448 then lt1 (([]:List AoE)++a) fun(b:List AoE)=>some b else none
def Bq(d:Aoy)(a:AoF)(b:AoD):Option (AoF×Int) :=(J5 d b).bind fun f=>if(f != 0)then some (({ Zy1:=[],Zz1:=[] }:AoF),f) else (IM a b.Zb).bind fun c=>(if(decide (b.No≤(c.length:Int)))then if InR (w64 (b.No-1)) c.length then (On (nth c ((w64 (b.No-1)).toNat)) b).bind fun m=>some m else none else some false:Option (Bool)).bind fun n=>if n then some (a,0) else (IB c b).bind fun g=>if(g != 0)then some (({ Zy1:=[],Zz1:=[] }:AoF),g) else if (b.No==(w64 ((c.length:Int)+1)))then if Mk (Hi (a.Zy1.length:Int) (d.Zk1.length:Int)) (Hi (a.Zy1.length:Int) (d.Zk1.length:Int)) 24 then lt1 (List.replicate ((Hi (a.Zy1.length:Int) (d.Zk1.length:Int)).toNat) ([])) fun(i:List (List AoD))=>lt1 (ovl i (a.Zy1.take (min a.Zy1.length i.length)) 0) fun(j:List (List AoD))=>(FC c).bind fun k=>if CI (k.length+1) 224 then if InR b.Zb j.length then lt1 (j.set b.Zb.toNat (k++([b]:List AoD))) fun(o:List (List AoD))=>some (({ Zy1:=o,Zz1:=a.Zz1 }:AoF),0) else none else none else none else ((BP a.Zz1 b).bind fun e=>if (!e.1)then (FO a.Zz1).bind fun l=>if InR (w64 (e.2.No-1)) c.length then if CI (l.length+1) 448 then lt1 (l++([({ A:=nth c ((w64 (e.2.No-1)).toNat),B:=e.2 }:AoE)]:List AoE)) fun(p:List AoE)=>some p else none else none else some a.Zz1:Option (List AoE)).bind fun q=>some (({ Zy1:=a.Zy1,Zz1:=q }:AoF),0)
def Bs(c : Aoy)(m:AoF)(a:Int)(n:UInt64)(e:Int)(f:AoB):Option (AoD×Int) :=(C5 c).bind fun o=>if(o != 0)then some (({ Zb:=0,No:=0,Zv1:=(Arr.rep 32 (0:UInt8)),Zw1:=0,Zx1:=({ Za:=0,Ref:=({ Zb:=0,No:=0 }:Aoz),Zn1:=0,Zb1:=0,Zc:=0,Zo1:=0,Zw:=0,To:=0,Code:=0,Zp1:=0,Zq1:=0,Zr1:=0,Zs1:=0,Zt1:=([]:List UInt8),Zu1:=[] }:AoB),Sig:=({ C:=(0:UInt64),S:=(0:UInt64) }:AoC) }:AoD),o) else (if(decide (a<0))then some true else some (decide (a≥(c.Zk1.length:Int))):Option (Bool)).bind fun q=>if q then some (({ Zb:=0,No:=0,Zv1:=(Arr.rep 32 (0:UInt8)),Zw1:=0,Zx1:=({ Za:=0,Ref:=({ Zb:=0,No:=0 }:Aoz),Zn1:=0,Zb1:=0,Zc:=0,Zo1:=0,Zw:=0,To:=0,Code:=0,Zp1:=0,Zq1:=0,Zr1:=0,Zs1:=0,Zt1:=([]:List UInt8),Zu1:=[] }:AoB),Sig:=({ C:=(0:UInt64),S:=(0:UInt64) }:AoC) }:AoD),1) else (Hm n).bind fun g=>if(g.2 != 0)then some (({ Zb:=0,No:=0,Zv1:=(Arr.rep 32 (0:UInt8)),Zw1:=0,Zx1:=({ Za:=0,Ref:=({ Zb:=0,No:=0 }:Aoz),Zn1:=0,Zb1:=0,Zc:=0,Zo1:=0,Zw:=0,To:=0,Code:=0,Zp1:=0,Zq1:=0,Zr1:=0,Zs1:=0,Zt1:=([]:List UInt8),Zu1:=[] }:AoB),Sig:=({ C:=(0:UInt64),S:=(0:UInt64) }:AoC) }:AoD),g.2) else if InR a c.Zk1.length then if(g.1 != (nth c.Zk1 a.toNat).Key)then some (({ Zb:=0,No:=0,Zv1:=(Arr.rep 32 (0:UInt8)),Zw1:=0,Zx1:=({ Za:=0,Ref:=({ Zb:=0,No:=0 }:Aoz),Zn1:=0,Zb1:=0,Zc:=0,Zo1:=0,Zw:=0,To:=0,Code:=0,Zp1:=0,Zq1:=0,Zr1:=0,Zs1:=0,Zt1:=([]:List UInt8),Zu1:=[] }:AoB),Sig:=({ C:=(0:UInt64),S:=(0:UInt64) }:AoC) }:AoD),30) else (IM m a).bind fun b=>lt1 (w64 ((b.length:Int)+1)) fun(i:Int)=>(if(decide ((b.length:Int)>0))then if InR (w64 ((b.length:Int)-1)) b.length then (FA (nth b ((w64 ((b.length:Int)-1)).toNat))).bind fun j=>if(j.2 != 0)then (some (({ Zb:=0,No:=0,Zv1:=(Arr.rep 32 (0:UInt8)),Zw1:=0,Zx1:=({ Za:=0,Ref:=({ Zb:=0,No:=0 }:Aoz),Zn1:=0,Zb1:=0,Zc:=0,Zo1:=0,Zw:=0,To:=0,Code:=0,Zp1:=0,Zq1:=0,Zr1:=0,Zs1:=0,Zt1:=([]:List UInt8),Zu1:=[] }:AoB),Sig:=({ C:=(0:UInt64),S:=(0:UInt64) }:AoC) }:AoD),j.2)).bind fun s=>some (.inr s) else some (.inl j.1) else none else some (.inl (Arr.rep 32 (0:UInt8))):Option ((Arr UInt8 32)⊕(AoD×Int))).bind fun x=>match x with
      | .inl k=>(EO ({ Zb:=a,No:=i,Zv1:=k,Zw1:=e,Zx1:=f,Sig:=({ C:=(0:UInt64),S:=(0:UInt64) }:AoC) }:AoD)).bind fun l=>if(l.2 != 0)then some (({ Zb:=0,No:=0,Zv1:=(Arr.rep 32 (0:UInt8)),Zw1:=0,Zx1:=({ Za:=0,Ref:=({ Zb:=0,No:=0 }:Aoz),Zn1:=0,Zb1:=0,Zc:=0,Zo1:=0,Zw:=0,To:=0,Code:=0,Zp1:=0,Zq1:=0,Zr1:=0,Zs1:=0,Zt1:=([]:List UInt8),Zu1:=[] }:AoB),Sig:=({ C:=(0:UInt64),S:=(0:UInt64) }:AoC) }:AoD),l.2) else (OH n l.1).bind fun d=>if(d.2 != 0)then some (({ Zb:=0,No:=0,Zv1:=(Arr.rep 32 (0:UInt8)),Zw1:=0,Zx1:=({ Za:=0,Ref:=({ Zb:=0,No:=0 }:Aoz),Zn1:=0,Zb1:=0,Zc:=0,Zo1:=0,Zw:=0,To:=0,Code:=0,Zp1:=0,Zq1:=0,Zr1:=0,Zs1:=0,Zt1:=([]:List UInt8),Zu1:=[] }:AoB),Sig:=({ C:=(0:UInt64),S:=(0:UInt64) }:AoC) }:AoD),d.2) else (Bq c m ({ Zb:=a,No:=i,Zv1:=k,Zw1:=e,Zx1:=f,Sig:=d.1 }:AoD)).bind fun p=>if(p.2 != 0)then some (({ Zb:=0,No:=0,Zv1:=(Arr.rep 32 (0:UInt8)),Zw1:=0,Zx1:=({ Za:=0,Ref:=({ Zb:=0,No:=0 }:Aoz),Zn1:=0,Zb1:=0,Zc:=0,Zo1:=0,Zw:=0,To:=0,Code:=0,Zp1:=0,Zq1:=0,Zr1:=0,Zs1:=0,Zt1:=([]:List UInt8),Zu1:=[] }:AoB),Sig:=({ C:=(0:UInt64),S:=(0:UInt64) }:AoC) }:AoD),p.2) else some (({ Zb:=a,No:=i,Zv1:=k,Zw1:=e,Zx1:=f,Sig:=d.1 }:AoD),0)
      |.inr z=>some z else none
def Iq(a : AoB)(b:UInt8):Option (Int) :=if(b==(119:UInt8))then some a.Zn1 else if(b==(112:UInt8))then some a.Zb1 else if(b==(111:UInt8))then some a.Zc else if(b==(110:UInt8))then some a.Zo1 else if(b==(102:UInt8))then some a.Zw else if(b==(116:UInt8))then some a.To else if(b==(99:UInt8))then some a.Code else if(b==(100:UInt8))then some a.Zp1 else if(b==(107:UInt8))then some a.Zq1 else if(b==(103:UInt8))then some a.Zr1 else some a.Zs1
def Ci(b:List AoA)(c:List AoA)(a:Int):Option ((Int)⊕((Unit)⊕((Unit)⊕(Bool)))) :=if (decide (a<(b.length:Int)))then if InR a b.length then if InR a c.length then lt1 (!(((nth b a.toNat).Za==(nth c a.toNat).Za)&&(((nth b a.toNat).Zl1==(nth c a.toNat).Zl1)&&((nth b a.toNat).Zm1==(nth c a.toNat).Zm1)))) fun(d:Bool)=>if d then ((some false).bind fun e=>some (.inr e)).bind fun f=>some (.inr (.inr f)) else some (.inl (w64 (a+1))) else none else none else some (.inr (.inl ()))
def En(a:List AoA)(b:List AoA):Option (Bool) :=if((a.length:Int) != (b.length:Int))then some false else ((AF (fun(v:Int)=>Ci a b v) 0).bind fun x=>match x with
  |.inl ()=>some (.inl ())
  |.inr z=>some z:Option ((Unit)⊕(Bool))).bind fun x=>match x with
  |.inl ()=>some true
  |.inr z=>some z
def EI(b:AoB)(c:AoB)(a:Int):Option ((Int)⊕((Unit)⊕((Unit)⊕(Bool)))) :=if (decide (a<11))then if InR a (([119,112,111,110,102,116,99,100,107,103,97]:List UInt8).length)then (Iq b (nth ([119,112,111,110,102,116,99,100,107,103,97]:List UInt8) a.toNat)).bind fun d=>if InR a (([119,112,111,110,102,116,99,100,107,103,97]:List UInt8).length)then (Iq c (nth ([119,112,111,110,102,116,99,100,107,103,97]:List UInt8) a.toNat)).bind fun e=>if(d != e)then ((some false).bind fun f=>some (.inr f)).bind fun g=>some (.inr (.inr g)) else some (.inl (w64 (a+1))) else none else none else some (.inr (.inl ()))
def JV(a:AoB)(b:AoB):Option (Bool) :=((AF (fun(v:Int)=>EI a b v) 0).bind fun x=>match x with
 |.inl ()=>some (.inl ())
 |.inr z=>some z:Option ((Unit)⊕(Bool))).bind fun x=>match x with
 | .inl ()=>(if(a.Za==b.Za)then if((a.Ref.Zb==b.Ref.Zb)&&(a.Ref.No==b.Ref.No))then if(a.Zt1==b.Zt1)then (En a.Zu1 b.Zu1).bind fun c=>some c else some false else some false else some false:Option (Bool)).bind fun d=>some d
 |.inr z=>some z
def Bf(a:AoD)(b:AoD):Option (Bool) :=(if (a.Zb==b.Zb)then if (a.No==b.No)then if (a.Zv1==b.Zv1)then if(a.Zw1==b.Zw1)then if((a.Sig.C==b.Sig.C)&&(a.Sig.S==b.Sig.S))then (JV a.Zx1 b.Zx1).bind fun c=>some c else some false else some false else some false else some false else some false:Option (Bool)).bind fun d=>some d
def G0(b:List AoD)(c:List AoD)(a:Int):Option ((Int)⊕((Unit)⊕((Unit)⊕(Bool)))) :=if (decide (a<(b.length:Int)))then if InR a b.length then if InR a c.length then (Bf (nth b a.toNat) (nth c a.toNat)).bind fun d=>if(!d)then ((some false).bind fun e=>some (.inr e)).bind fun f=>some (.inr (.inr f)) else some (.inl (w64 (a+1))) else none else none else some (.inr (.inl ()))
def Jz(a:List AoD)(b:List AoD):Option (Bool) :=if((a.length:Int) != (b.length:Int))then some false else ((AF (fun(v:Int)=>G0 a b v) 0).bind fun x=>match x with
  |.inl ()=>some (.inl ())
  |.inr z=>some z:Option ((Unit)⊕(Bool))).bind fun x=>match x with
  |.inl ()=>some true
  |.inr z=>some z
def J7(b:AoF)(c:AoF)(a:Int):Option ((Int)⊕((Unit)⊕((Unit)⊕(Bool)))) :=if (decide (a<(b.Zy1.length:Int)))then if InR a b.Zy1.length then if InR a c.Zy1.length then (Jz (nth b.Zy1 a.toNat) (nth c.Zy1 a.toNat)).bind fun d=>if(!d)then ((some false).bind fun e=>some (.inr e)).bind fun f=>some (.inr (.inr f)) else some (.inl (w64 (a+1))) else none else none else some (.inr (.inl ()))
def JJ(b:AoF)(c:AoF)(a:Int):Option ((Int)⊕((Unit)⊕((Unit)⊕(Bool)))) :=if (decide (a<(b.Zz1.length:Int)))then (if InR a b.Zz1.length then if InR a c.Zz1.length then (Bf ((nth b.Zz1 a.toNat).A) ((nth c.Zz1 a.toNat).A)).bind fun d=>if(!d)then some true else if InR a b.Zz1.length then if InR a c.Zz1.length then (Bf ((nth b.Zz1 a.toNat).B) ((nth c.Zz1 a.toNat).B)).bind fun e=>some (!e) else none else none else none else none:Option (Bool)).bind fun f=>if f then ((some false).bind fun g=>some (.inr g)).bind fun i=>some (.inr (.inr i)) else some (.inl (w64 (a+1))) else some (.inr (.inl ()))
def Kk(a:AoF)(b:AoF):Option (Bool) :=(if((a.Zy1.length:Int) != (b.Zy1.length:Int))then some true else some ((a.Zz1.length:Int) != (b.Zz1.length:Int)):Option (Bool)).bind fun c=>if c then some false else ((AF (fun(v:Int)=>J7 a b v) 0).bind fun x=>match x with
  |.inl ()=>some (.inl ())
  |.inr z=>some z:Option ((Unit)⊕(Bool))).bind fun x=>match x with
  | .inl ()=>((AF (fun(v:Int)=>JJ a b v) 0).bind fun x=>match x with
   |.inl ()=>some (.inl ())
   |.inr z=>some z:Option ((Unit)⊕(Bool))).bind fun x=>match x with
   |.inl ()=>some true
   |.inr z=>some z
  |.inr z=>some z
def GF(b:AoF)(e:Int)(c:Int)(a:Int):Option ((Int×Int)⊕(Int)) :=if (decide (a<(b.Zz1.length:Int)))then (if InR a b.Zz1.length then lt1 (((nth b.Zz1 a.toNat).A).Zb) fun(f:Int)=>lt1 (((nth b.Zz1 a.toNat).A).No) fun(d:Int)=>lt1 (((nth b.Zz1 a.toNat).A).Zv1) fun(j:Arr UInt8 32)=>lt1 (((nth b.Zz1 a.toNat).A).Zw1) fun(k:Int)=>lt1 ((((nth b.Zz1 a.toNat).A).Zx1).Za) fun(l:Int)=>lt1 (((((nth b.Zz1 a.toNat).A).Zx1).Ref).Zb) fun(m:Int)=>lt1 (((((nth b.Zz1 a.toNat).A).Zx1).Ref).No) fun(n:Int)=>lt1 ((((nth b.Zz1 a.toNat).A).Zx1).Zn1) fun(o:Int)=>lt1 ((((nth b.Zz1 a.toNat).A).Zx1).Zb1) fun(p:Int)=>lt1 ((((nth b.Zz1 a.toNat).A).Zx1).Zc) fun(q:Int)=>lt1 ((((nth b.Zz1 a.toNat).A).Zx1).Zo1) fun(s:Int)=>lt1 ((((nth b.Zz1 a.toNat).A).Zx1).Zw) fun(t:Int)=>lt1 ((((nth b.Zz1 a.toNat).A).Zx1).To) fun(u:Int)=>lt1 ((((nth b.Zz1 a.toNat).A).Zx1).Code) fun(v:Int)=>lt1 ((((nth b.Zz1 a.toNat).A).Zx1).Zp1) fun(w:Int)=>lt1 ((((nth b.Zz1 a.toNat).A).Zx1).Zq1) fun(x:Int)=>lt1 ((((nth b.Zz1 a.toNat).A).Zx1).Zr1) fun(y:Int)=>lt1 ((((nth b.Zz1 a.toNat).A).Zx1).Zs1) fun(z:Int)=>lt1 ((((nth b.Zz1 a.toNat).A).Zx1).Zt1) fun(aa:List UInt8)=>lt1 ((((nth b.Zz1 a.toNat).A).Zx1).Zu1) fun(ab:List AoA)=>lt1 ((((nth b.Zz1 a.toNat).A).Sig).C) fun(ac:UInt64)=>lt1 ((((nth b.Zz1 a.toNat).A).Sig).S) fun(ad:UInt64)=>lt1 (((nth b.Zz1 a.toNat).B).Zb) fun(ae:Int)=>lt1 (((nth b.Zz1 a.toNat).B).No) fun(af:Int)=>lt1 (((nth b.Zz1 a.toNat).B).Zv1) fun(ag:Arr UInt8 32)=>lt1 (((nth b.Zz1 a.toNat).B).Zw1) fun(ah:Int)=>lt1 ((((nth b.Zz1 a.toNat).B).Zx1).Za) fun(ai:Int)=>lt1 (((((nth b.Zz1 a.toNat).B).Zx1).Ref).Zb) fun(aj:Int)=>lt1 (((((nth b.Zz1 a.toNat).B).Zx1).Ref).No) fun(ak:Int)=>lt1 ((((nth b.Zz1 a.toNat).B).Zx1).Zn1) fun(al:Int)=>lt1 ((((nth b.Zz1 a.toNat).B).Zx1).Zb1) fun(am:Int)=>lt1 ((((nth b.Zz1 a.toNat).B).Zx1).Zc) fun(an:Int)=>lt1 ((((nth b.Zz1 a.toNat).B).Zx1).Zo1) fun(ao:Int)=>lt1 ((((nth b.Zz1 a.toNat).B).Zx1).Zw) fun(ap:Int)=>lt1 ((((nth b.Zz1 a.toNat).B).Zx1).To) fun(aq:Int)=>lt1 ((((nth b.Zz1 a.toNat).B).Zx1).Code) fun(ar:Int)=>lt1 ((((nth b.Zz1 a.toNat).B).Zx1).Zp1) fun(au:Int)=>lt1 ((((nth b.Zz1 a.toNat).B).Zx1).Zq1) fun(av:Int)=>lt1 ((((nth b.Zz1 a.toNat).B).Zx1).Zr1) fun(aw:Int)=>lt1 ((((nth b.Zz1 a.toNat).B).Zx1).Zs1) fun(ax:Int)=>lt1 ((((nth b.Zz1 a.toNat).B).Zx1).Zt1) fun(ay:List UInt8)=>lt1 ((((nth b.Zz1 a.toNat).B).Zx1).Zu1) fun(az:List AoA)=>lt1 ((((nth b.Zz1 a.toNat).B).Sig).C) fun(aA:UInt64)=>lt1 ((((nth b.Zz1 a.toNat).B).Sig).S) fun(aB:UInt64)=>(if(f==e)then if(decide (d≥1))then if(c==0)then some true else some (decide (d<c)) else some false else some false:Option (Bool)).bind fun g=>if g then some d else some c else none:Option (Int)).bind fun i=>some (.inl (i,(w64 (a+1)))) else some (.inr c)
def CG(a:AoF)(b:Int):Option (Int) :=((AF (fun(v:Int×Int)=>GF a b v.1 v.2) (0,0)).bind fun c=>some c:Option (Int)).bind fun d=>some d
def FN(c:AoF)(a:Int)(d:List (List AoD)):Option ((Int×List (List AoD))⊕(List (List AoD))) :=if (decide (a<(c.Zy1.length:Int)))then if InR a c.Zy1.length then lt1 (nth c.Zy1 a.toNat) fun(b:List AoD)=>((CG c a).bind fun e=>if(decide (e>0))then if InB (WS (w64 (e-1)) (b.length:Int)) b.length then lt1 (b.take ((WS (w64 (e-1)) (b.length:Int)).toNat)) fun(f:List AoD)=>some f else none else some b:Option (List AoD)).bind fun g=>if CI (d.length+1) 24 then lt1 (d++([g]:List (List AoD))) fun(i:List (List AoD))=>some (.inl ((w64 (a+1)),i)) else none else none else some (.inr d)
def I9(a:AoF):Option (AoF) :=((AF (fun(v:Int×List (List AoD))=>FN a v.1 v.2) (0,[])).bind fun b=>some b:Option (List (List AoD))).bind fun c=>some ({ Zy1:=c,Zz1:=[] }:AoF)
def Mb(a:AoF):Option (AoF) :=some a
def FY(b:List ((Int×Int)×AoI))(c:Int)(d:Int)(a:AoD):Option (List ((Int×Int)×AoI)) :=(if(!((a.Zx1.Ref.Zb==0)&&(a.Zx1.Ref.No==0)))then some (a.Zx1.Ref.Zb==c) else some false:Option (Bool)).bind fun e=>if e then if RZ a.Zx1.Ref.Zb a.Zx1.Ref.No then lt1 (Aj9 b (a.Zx1.Ref.Zb,a.Zx1.Ref.No) ({ Ref:=a.Zx1.Ref,By:=({ Zb:=c,No:=d }:Aoz),Zw1:=a.Zw1,Zx1:=a.Zx1 }:AoI)) fun(f:List ((Int×Int)×AoI))=>some f else none else some b
def FP(c:List ((Int×Int)×AoI))(e:List AoI)(a:Int)(b:Int)(d:AoD):Option (List AoI) :=lt1 (!((d.Zx1.Ref.Zb==0)&&(d.Zx1.Ref.No==0))) fun(g:Bool)=>if g then some e else if RZ a b then lt1 ((Fq c (a,b)).isSome) fun(i:Bool)=>lt1 ((((Fq c (a,b)).getD Cx).Ref).Zb) fun(j:Int)=>lt1 ((((Fq c (a,b)).getD Cx).Ref).No) fun(k:Int)=>lt1 ((((Fq c (a,b)).getD Cx).By).Zb) fun(l:Int)=>lt1 ((((Fq c (a,b)).getD Cx).By).No) fun(m:Int)=>lt1 (((Fq c (a,b)).getD Cx).Zw1) fun(n:Int)=>lt1 ((((Fq c (a,b)).getD Cx).Zx1).Za) fun(f:Int)=>lt1 (((((Fq c (a,b)).getD Cx).Zx1).Ref).Zb) fun(o:Int)=>lt1 (((((Fq c (a,b)).getD Cx).Zx1).Ref).No) fun(p:Int)=>lt1 ((((Fq c (a,b)).getD Cx).Zx1).Zn1) fun(q:Int)=>lt1 ((((Fq c (a,b)).getD Cx).Zx1).Zb1) fun(s:Int)=>lt1 ((((Fq c (a,b)).getD Cx).Zx1).Zc) fun(t:Int)=>lt1 ((((Fq c (a,b)).getD Cx).Zx1).Zo1) fun(u:Int)=>lt1 ((((Fq c (a,b)).getD Cx).Zx1).Zw) fun(v:Int)=>lt1 ((((Fq c (a,b)).getD Cx).Zx1).To) fun(w:Int)=>lt1 ((((Fq c (a,b)).getD Cx).Zx1).Code) fun(y:Int)=>lt1 ((((Fq c (a,b)).getD Cx).Zx1).Zp1) fun(aa:Int)=>lt1 ((((Fq c (a,b)).getD Cx).Zx1).Zq1) fun(ab:Int)=>lt1 ((((Fq c (a,b)).getD Cx).Zx1).Zr1) fun(ac:Int)=>lt1 ((((Fq c (a,b)).getD Cx).Zx1).Zs1) fun(ad:Int)=>lt1 ((((Fq c (a,b)).getD Cx).Zx1).Zt1) fun(ae:List UInt8)=>lt1 ((((Fq c (a,b)).getD Cx).Zx1).Zu1) fun(af:List AoA)=>(if(!i)then some (.inl (a,b,a,b,d.Zw1,d.Zx1.Za,d.Zx1.Ref.Zb,d.Zx1.Ref.No,d.Zx1.Zn1,d.Zx1.Zb1,d.Zx1.Zc,d.Zx1.Zo1,d.Zx1.Zw,d.Zx1.To,d.Zx1.Code,d.Zx1.Zp1,d.Zx1.Zq1,d.Zx1.Zr1,d.Zx1.Zs1,d.Zx1.Zt1,d.Zx1.Zu1)) else if(f==14)then (some e).bind fun ag=>some (.inr ag) else some (.inl (j,k,l,m,n,f,o,p,q,s,t,u,v,w,y,aa,ab,ac,ad,ae,af)):Option ((Int×Int×Int×Int×Int×Int×Int×Int×Int×Int×Int×Int×Int×Int×Int×Int×Int×Int×Int×List UInt8×List AoA)⊕(List AoI))).bind fun x=>match x with
   | .inl (ah,ai,aj,ak,al,am,aD,aE,an,ao,ap,aq,ar,au,av,aw,ax,ay,az,aA,aB)=>if CI (e.length+1) 192 then lt1 (e++([({ Ref:=({ Zb:=ah,No:=ai }:Aoz),By:=({ Zb:=aj,No:=ak }:Aoz),Zw1:=al,Zx1:=({ Za:=am,Ref:=({ Zb:=0,No:=0 }:Aoz),Zn1:=an,Zb1:=ao,Zc:=ap,Zo1:=aq,Zw:=ar,To:=au,Code:=av,Zp1:=aw,Zq1:=ax,Zr1:=ay,Zs1:=az,Zt1:=aA,Zu1:=aB }:AoB) }:AoI)]:List AoI)) fun(aC:List AoI)=>some aC else none
   |.inr z=>some z else none
def Bw(b:AoF):Option (List AoI) :=(I9 b).bind fun a=>(Mb a).bind fun c=>(Ag2 (fun(v:List ((Int×Int)×AoI)) (q:Aoz) (r:AoD)=>FY v q.Zb q.No r) c.Zy1 ([])).bind fun d=>(Mb a).bind fun e=>(Ag2 (fun(v:List AoI) (q:Aoz) (r:AoD)=>FP d v q.Zb q.No r) e.Zy1 ([])).bind fun f=>some f
def law14_sane  : Option (Bool) :=r14_Example.bind fun b=>(BU 1).bind fun j=>(Bs b ({ Zy1:=[],Zz1:=[] }:AoF) 0 (7:UInt64) 5 j).bind fun c=>(Bq b ({ Zy1:=[],Zz1:=[] }:AoF) c.1).bind fun a=>(Bq b a.1 c.1).bind fun e=>(BU 1).bind fun k=>(Bs b a.1 0 (7:UInt64) 4 k).bind fun l=>(BU 2).bind fun m=>(Bs b ({ Zy1:=[],Zz1:=[] }:AoF) 0 (7:UInt64) 5 m).bind fun f=>(Bq b a.1 f.1).bind fun d=>(BU 1).bind fun n=>(Bs b ({ Zy1:=[],Zz1:=[] }:AoF) 0 (8:UInt64) 5 n).bind fun o=>(Bs b a.1 0 (7:UInt64) 6 ({ Za:=14,Ref:=({ Zb:=0,No:=1 }:Aoz),Zn1:=0,Zb1:=0,Zc:=0,Zo1:=0,Zw:=0,To:=0,Code:=0,Zp1:=0,Zq1:=0,Zr1:=0,Zs1:=0,Zt1:=([]:List UInt8),Zu1:=[] }:AoB)).bind fun g=>(Bq b a.1 g.1).bind fun i=>(Bs b ({ Zy1:=[],Zz1:=[] }:AoF) 0 (7:UInt64) 5 ({ Za:=14,Ref:=({ Zb:=0,No:=1 }:Aoz),Zn1:=0,Zb1:=0,Zc:=0,Zo1:=0,Zw:=0,To:=0,Code:=0,Zp1:=0,Zq1:=0,Zr1:=0,Zs1:=0,Zt1:=([]:List UInt8),Zu1:=[] }:AoB)).bind fun p=>(if (c.2 == 0)then if (c.1.No==1)then if (c.1.Zv1==(⟨[(0:UInt8),0,0,0,0,0,0,0,0,0,0,0,0,0,0,0,0,0,0,0,0,0,0,0,0,0,0,0,0,0,0,0],rfl⟩:Arr UInt8 32))then if (a.2==0)then if ((a.1.Zy1.length:Int)==2)then if InR 0 a.1.Zy1.length then if (((nth a.1.Zy1 0).length:Int)==1)then if(e.2==0)then (Kk e.1 a.1).bind fun q=>if q then some (l.2==140) else some false else some false else some false else none else some false else some false else some false else some false else some false:Option (Bool)).bind fun s=>(if (f.2==0)then if (d.2==0)then if ((d.1.Zz1.length:Int)==1)then (CG d.1 0).bind fun t=>if (t==1)then (CG a.1 0).bind fun u=>if(u==0)then (Bw d.1).bind fun v=>if((v.length:Int)==0)then (Bw a.1).bind fun w=>some ((w.length:Int)==1) else some false else some false else some false else some false else some false else some false:Option (Bool)).bind fun x=>(if s = true then if x = true then if (o.2==30)then if (g.2==0)then if(i.2==0)then (Bw i.1).bind fun y=>if((y.length:Int)==0)then some (p.2==110) else some false else some false else some false else some false else some false else some false:Option (Bool)).bind fun z=>some z
def E9(a:AoB):Option (Bool) :=(if(decide ((a.Zt1.length:Int)≤1000))then some (decide ((a.Zu1.length:Int)≤20)) else some false:Option (Bool)).bind fun b=>some b
def IL(a:Int)(b:Int)(c:Int):Option (Bool) :=(if(decide (a≥b))then some (decide (a≤c)) else some false:Option (Bool)).bind fun d=>some d
def Ht(b:Aoy)(e:Int)(a:Int):Option ((Int)⊕((Unit)⊕((Unit)⊕(Bool)))) :=if (decide (a<(b.Zi1.length:Int)))then if InR a b.Zi1.length then lt1 ((nth b.Zi1 a.toNat).Zb1) fun(f:Int)=>lt1 ((nth b.Zi1 a.toNat).Low) fun(c:Int)=>lt1 ((nth b.Zi1 a.toNat).Zc1) fun(d:Int)=>((IL f 0 (w64 (e-1))).bind fun g=>if(!g)then some true else if(decide (c<(-1000)))then some true else if(decide (d<c))then some true else some (decide (d>1000)):Option (Bool)).bind fun i=>if i then ((some false).bind fun j=>some (.inr j)).bind fun k=>some (.inr (.inr k)) else some (.inl (w64 (a+1))) else none else some (.inr (.inl ()))
def H8(a:Aoy)(c:Int)(b:Int):Option ((Int)⊕((Unit)⊕((Unit)⊕(Bool)))) :=if (decide (b<(a.Zj1.length:Int)))then (if InR b a.Zj1.length then (IL ((nth a.Zj1 b.toNat).Zb1) 0 (w64 (c-1))).bind fun d=>if(!d)then some true else if InR b a.Zj1.length then if InR ((nth a.Zj1 b.toNat).Zb1) a.Zg1.Ze.length then some ((nth a.Zg1.Ze (((nth a.Zj1 b.toNat).Zb1).toNat)).Za != 4) else none else none else none:Option (Bool)).bind fun e=>if e then ((some false).bind fun f=>some (.inr f)).bind fun g=>some (.inr (.inr g)) else some (.inl (w64 (b+1))) else some (.inr (.inl ()))
def Hy(b:Aoy)(c:Int)(a:Int):Option ((Int)⊕((Unit)⊕((Unit)⊕(Bool)))) :=if (decide (a<(b.Zh1.Zy.length:Int)))then if InR a b.Zh1.Zy.length then lt1 (decide ((nth b.Zh1.Zy a.toNat).Zq≥c)) fun(d:Bool)=>if d then ((some false).bind fun e=>some (.inr e)).bind fun f=>some (.inr (.inr f)) else some (.inl (w64 (a+1))) else none else some (.inr (.inl ()))
def Gk(b:Aoy)(c:Int)(a:Int):Option ((Int)⊕((Unit)⊕((Unit)⊕(Bool)))) :=if (decide (a<(b.Zg1.Ze.length:Int)))then if InR a b.Zg1.Ze.length then lt1 ((nth b.Zg1.Ze a.toNat).Za) fun(j:Int)=>lt1 ((nth b.Zg1.Ze a.toNat).Zb) fun(d:Int)=>lt1 ((nth b.Zg1.Ze a.toNat).Zc) fun(e:Int)=>(if(decide (d≥c))then some true else some (decide (e≥c)):Option (Bool)).bind fun f=>if f then ((some false).bind fun g=>some (.inr g)).bind fun i=>some (.inr (.inr i)) else some (.inl (w64 (a+1))) else none else some (.inr (.inl ()))
def Gq(b:Aoy)(c:Int)(a:Int):Option ((Int)⊕((Unit)⊕((Unit)⊕(Bool)))) :=if (decide (a<(b.Zg1.Zf.length:Int)))then if InR a b.Zg1.Zf.length then lt1 (decide ((nth b.Zg1.Zf a.toNat).Zb≥c)) fun(d:Bool)=>if d then ((some false).bind fun e=>some (.inr e)).bind fun f=>some (.inr (.inr f)) else some (.inl (w64 (a+1))) else none else some (.inr (.inl ()))
def EX(b:Aow)(a:Int):Option ((Int)⊕((Unit)⊕((Unit)⊕(Int)))) :=if (decide (a<(b.Ze1.length:Int)))then if InR a b.Ze1.length then lt1 (nth b.Ze1 a.toNat) fun(c:Int)=>(if(decide (c<0))then some true else if(decide (c>745654))then some true else if(decide (a>0))then if InR (w64 (a-1)) b.Ze1.length then some (decide (nth b.Ze1 ((w64 (a-1)).toNat)≥c)) else none else some false:Option (Bool)).bind fun d=>if d then ((some 1).bind fun e=>some (.inr e)).bind fun f=>some (.inr (.inr f)) else some (.inl (w64 (a+1))) else none else some (.inr (.inl ()))
def Hf(a:Aow):Option (Int) :=lt1 a.Zd1.2.2.2.2.1.Zw fun(b:Int)=>lt1 a.Zd1.2.2.2.2.2.1.Zw fun(c:Int)=>lt1 a.Zd1.2.2.2.2.2.1.To fun(d:Int)=>lt1 a.Zd1.2.2.2.2.2.2.Zw fun(e:Int)=>lt1 a.Zd1.2.2.2.2.2.2.To fun(f:Int)=>((if(decide (a.Zd1.1.Zw<0))then some true else if(decide (a.Zd1.1.To<a.Zd1.1.Zw))then some true else some (decide (a.Zd1.1.To>1440)):Option (Bool)).bind fun g=>if g then (some 1).bind fun i=>some (.inr i) else (if(decide (a.Zd1.2.1.Zw<0))then some true else if(decide (a.Zd1.2.1.To<a.Zd1.2.1.Zw))then some true else some (decide (a.Zd1.2.1.To>1440)):Option (Bool)).bind fun j=>if j then (some 1).bind fun k=>some (.inr k) else (if(decide (a.Zd1.2.2.1.Zw<0))then some true else if(decide (a.Zd1.2.2.1.To<a.Zd1.2.2.1.Zw))then some true else some (decide (a.Zd1.2.2.1.To>1440)):Option (Bool)).bind fun l=>if l then (some 1).bind fun m=>some (.inr m) else (if(decide (a.Zd1.2.2.2.1.Zw<0))then some true else if(decide (a.Zd1.2.2.2.1.To<a.Zd1.2.2.2.1.Zw))then some true else some (decide (a.Zd1.2.2.2.1.To>1440)):Option (Bool)).bind fun n=>if n then (some 1).bind fun o=>some (.inr o) else (if(decide (b<0))then some true else if(decide (a.Zd1.2.2.2.2.1.To<b))then some true else some (decide (a.Zd1.2.2.2.2.1.To>1440)):Option (Bool)).bind fun p=>if p then (some 1).bind fun q=>some (.inr q) else (if(decide (c<0))then some true else if(decide (d<c))then some true else some (decide (d>1440)):Option (Bool)).bind fun s=>if s then (some 1).bind fun t=>some (.inr t) else (if(decide (e<0))then some true else if(decide (f<e))then some true else some (decide (f>1440)):Option (Bool)).bind fun u=>if u then (some 1).bind fun w=>some (.inr w) else some (.inl ()):Option ((Unit)⊕(Int))).bind fun x=>match x with
 | .inl ()=>((AF (fun(v:Int)=>EX a v) 0).bind fun x=>match x with
  |.inl ()=>some (.inl ())
  |.inr z=>some z:Option ((Unit)⊕(Int))).bind fun x=>match x with
  |.inl ()=>some 0
  |.inr z=>some z
 |.inr z=>some z
def I4(a:UInt64):Option (Bool) :=(if(decide (a≥(2:UInt64)))then if(decide (a<(2305843009213690799:UInt64)))then (KJ a (1152921504606845399:UInt64)).bind fun b=>some (b==(1:UInt64)) else some false else some false:Option (Bool)).bind fun c=>some c
def DQ(b:Aoy)(a:Int):Option ((Int)⊕((Unit)⊕((Unit)⊕(Int)))) :=if (decide (a<(b.Zk1.length:Int)))then (if InR a b.Zk1.length then (Hf ({ Zd1:=((((nth b.Zk1 a.toNat).Zf1).Zd1).1,(((nth b.Zk1 a.toNat).Zf1).Zd1).2.1,(((nth b.Zk1 a.toNat).Zf1).Zd1).2.2.1,(((nth b.Zk1 a.toNat).Zf1).Zd1).2.2.2.1,(((nth b.Zk1 a.toNat).Zf1).Zd1).2.2.2.2.1,(((nth b.Zk1 a.toNat).Zf1).Zd1).2.2.2.2.2.1,(((nth b.Zk1 a.toNat).Zf1).Zd1).2.2.2.2.2.2),Ze1:=((nth b.Zk1 a.toNat).Zf1).Ze1 }:Aow)).bind fun c=>if(c != 0)then some true else if InR a b.Zk1.length then (I4 ((nth b.Zk1 a.toNat).Key)).bind fun d=>some (!d) else none else none:Option (Bool)).bind fun e=>if e then ((some 1).bind fun f=>some (.inr f)).bind fun g=>some (.inr (.inr g)) else some (.inl (w64 (a+1))) else some (.inr (.inl ()))
def MF(a:Int)(b:Int)(c:Int):Option (Bool) :=(if(decide (b≤a))then some (decide (a≤c)) else some false:Option (Bool)).bind fun d=>some d
def Rg(a:AoB):Option (Bool) :=if((a.Ref.Zb==0)&&(a.Ref.No==0))then some (a.Za != 14) else ((MF a.Ref.Zb 0 15).bind fun b=>if b then (MF a.Ref.No 1 4096).bind fun c=>some c else some false:Option (Bool)).bind fun d=>some d
def CU(b:UInt32)(a:Int):Option (UInt32) :=if EU a then if EU (w64 (32-a))then lt1 ((QQ b a.toNat) ||| (Sd b ((w64 (32-a)).toNat))) fun(c:UInt32)=>some c else none else none
def Ks  : Option (Arr UInt32 64) :=lt1 (⟨[(1116352408:UInt32),1899447441,3049323471,3921009573,961987163,1508970993,2453635748,2870763221,3624381080,310598401,607225278,1426881987,1925078388,2162078206,2614888103,3248222580,3835390401,4022224774,264347078,604807628,770255983,1249150122,1555081692,1996064986,2554220882,2821834349,2952996808,3210313671,3336571891,3584528711,113926993,338241895,666307205,773529912,1294757372,1396182291,1695183700,1986661051,2177026350,2456956037,2730485921,2820302411,3259730800,3345764771,3516065817,3600352804,4094571909,275423344,430227734,506948616,659060556,883997877,958139571,1322822218,1537002063,1747873779,1955562222,2024104815,2227730452,2361852424,2428436474,2756734187,3204031479,3329325298],rfl⟩:Arr UInt32 64) fun(a:Arr UInt32 64)=>some a
def LC(c:Arr UInt32 64)(d:Arr UInt32 64)(b:Int)(a:Arr UInt32 8):Option ((Int×Arr UInt32 8)⊕(Arr UInt32 8)) :=if (decide (b<64))then (CU (a.get 4) 6).bind fun e=>(CU (a.get 4) 11).bind fun f=>(CU (a.get 4) 25).bind fun g=>lt1 ((e ^^^ f) ^^^ g) fun(s1_13750:UInt32)=>lt1 (((a.get 4) &&& (a.get 5)) ^^^ ((~~~(a.get 4)) &&& (a.get 6))) fun(i:UInt32)=>if InR b 64 then if InR b 64 then lt1 (((((a.get 7)+s1_13750)+i)+(d.get b.toNat))+(c.get b.toNat)) fun(t1_13761:UInt32)=>(CU (a.get 0) 2).bind fun j=>(CU (a.get 0) 13).bind fun k=>(CU (a.get 0) 22).bind fun l=>lt1 ((j ^^^ k) ^^^ l) fun(s0_13772:UInt32)=>lt1 ((((a.get 0) &&& (a.get 1)) ^^^ ((a.get 0) &&& (a.get 2))) ^^^ ((a.get 1) &&& (a.get 2))) fun(m:UInt32)=>lt1 (s0_13772+m) fun(t2_13782:UInt32)=>lt1 (⟨[(t1_13761+t2_13782),(a.get 0),(a.get 1),(a.get 2),((a.get 3)+t1_13761),(a.get 4),(a.get 5),(a.get 6)],rfl⟩:Arr UInt32 8) fun(n:Arr UInt32 8)=>some (.inl ((w64 (b+1)),n)) else none else none else some (.inr a)
noncomputable def HU(r:(UInt8×AoJ)⊕(Int×AoJ)):Outc:=match r with
 |.inl r=>.ret (u8 r.1) [.box [.sl false (L cU8 r.2.b)] false]
 |.inr r=>.pan (.iface 170 (.int .i64 r.1)) [.box [.sl false (L cU8 r.2.b)] false]
def A4(a:AoJ):Option ((UInt8×AoJ)⊕(Int×AoJ)) :=if((a.b.length:Int)==0)then some (.inr (5,a)) else if InR 0 a.b.length then if InB 1 a.b.length then lt1 ((a.b.drop 1).take (a.b.length-1)) fun(c:List UInt8)=>some (.inl (nth a.b 0,({ b:=c }:AoJ))) else none else none
noncomputable def G8(r:(AoG×AoJ)⊕(Int×AoJ)):Outc:=match r with
 |.inl r=>.ret (.agg [i64 r.1.Za,i64 r.1.N,.sl false (L cU8 r.1.B),.sl false (L cApi_Value r.1.L)]) [.box [.sl false (L cU8 r.2.b)] false]
 |.inr r=>.pan (.iface 170 (.int .i64 r.1)) [.box [.sl false (L cU8 r.2.b)] false]
def A1(e:Int)(c:UInt8)(f:UInt64)(d:Int)(g:List UInt8):Option ((UInt64×Int×List UInt8)⊕((UInt64×List UInt8)⊕((UInt64×List UInt8)⊕((AoG×AoJ)⊕(Int×AoJ))))) :=if (decide (d<e))then (A4 ({ b:=g }:AoJ)).bind fun j=>match j with
  | .inl a=>(if(d==0)then if((a.1 ^^^ c)==(0:UInt8))then some true else if(e==8)then some (decide ((a.1 ^^^ c)>(127:UInt8))) else some false else some false:Option (Bool)).bind fun k=>if k then ((some (.inr (4,a.2))).bind fun l=>some (.inr l)).bind fun m=>some (.inr (.inr m)) else lt1 ((Fi f (8:UInt64).toNat) ||| (a.1 ^^^ c).toUInt64) fun(n:UInt64)=>some (.inl (n,(w64 (d+1)),a.2.b))
  |.inr i=>((some (.inr (i.1,i.2))).bind fun o=>some (.inr o)).bind fun p=>some (.inr (.inr p)) else some (.inr (.inl (f,g)))
def Bv(d:AoJ)(e:Int)(a:UInt8):Option ((AoG×AoJ)⊕(Int×AoJ)) :=((AF (fun(v:UInt64×Int×List UInt8)=>A1 e a v.1 v.2.1 v.2.2) ((0:UInt64),0,d.b)).bind fun x=>match x with
 |.inl (f,g)=>some (.inl (f,g))
 |.inr z=>some z:Option ((UInt64×List UInt8)⊕((AoG×AoJ)⊕(Int×AoJ)))).bind fun x=>match x with
 | .inl (c,i)=>(if(a != (0:UInt8))then some (~~~c) else some c:Option (UInt64)).bind fun j=>lt1 (w64 (j.toNat:Int)) fun(k:Int)=>some (.inl ((AoG.mk 1 k ([]) ([])),({ b:=i }:AoJ)))
 |.inr z=>some z
noncomputable def HR(r:(AoG×AoJ)⊕(Int×AoJ)):Outc:=match r with
 |.inl r=>.ret (.agg [i64 r.1.Za,i64 r.1.N,.sl false (L cU8 r.1.B),.sl false (L cApi_Value r.1.L)]) [.box [.sl false (L cU8 r.2.b)] false]
 |.inr r=>.pan (.iface 170 (.int .i64 r.1)) [.box [.sl false (L cU8 r.2.b)] false]
def Av(g:List UInt8)(a:List UInt8):Option ((List UInt8×List UInt8)⊕((AoG×AoJ)⊕(Int×AoJ))) :=(A4 ({ b:=g }:AoJ)).bind fun i=>match i with
 | .inl d=>if(d.1 != (0:UInt8))then if CI (a.length+1) 1 then lt1 (a++([d.1]:List UInt8)) fun(j:List UInt8)=>some (.inl (d.2.b,j)) else none else (A4 d.2).bind fun k=>match k with
   | .inl c=>if(c.1==(0:UInt8))then (some (.inl ((AoG.mk 2 0 a ([])),c.2))).bind fun l=>some (.inr l) else if(c.1==(255:UInt8))then if CI (a.length+1) 1 then lt1 (a++([(0:UInt8)]:List UInt8)) fun(m:List UInt8)=>some (.inl (c.2.b,m)) else none else (some (.inr (4,c.2))).bind fun n=>some (.inr n)
   |.inr e=>(some (.inr (e.1,e.2))).bind fun o=>some (.inr o)
 |.inr f=>(some (.inr (f.1,f.2))).bind fun p=>some (.inr p)
def CS(a:AoJ):Option ((AoG×AoJ)⊕(Int×AoJ)) :=(AF (fun(v:List UInt8×List UInt8)=>Av v.1 v.2) (a.b,[])).bind fun z=>some z
noncomputable def BT(r:(AoG×AoJ)⊕(Int×AoJ)):Outc:=match r with
 |.inl r=>.ret (.agg [i64 r.1.Za,i64 r.1.N,.sl false (L cU8 r.1.B),.sl false (L cApi_Value r.1.L)]) [.box [.sl false (L cU8 r.2.b)] false]
 |.inr r=>.pan (.iface 170 (.int .i64 r.1)) [.box [.sl false (L cU8 r.2.b)] false]
def AJ(rec_:AoJ→UInt8→Option ((AoG×AoJ)⊕(Int×AoJ)))(c:UInt8)(d:List UInt8)(a:List AoG):Option ((UInt8×List UInt8×List AoG)⊕((List UInt8×List AoG)⊕((List UInt8×List AoG)⊕((Unit)⊕((AoG×AoJ)⊕(Int×AoJ)))))) :=if (c != (0:UInt8))then (rec_ ({ b:=d }:AoJ) c).bind fun j=>match j with
  | .inl e=>if CI (a.length+1) 64 then lt1 (a++([e.1]:List AoG)) fun(k:List AoG)=>(A4 e.2).bind fun l=>match l with
    |.inl f=>some (.inl (f.1,f.2.b,k))
    |.inr g=>(((some (.inr (g.1,g.2))).bind fun m=>some (.inr m)).bind fun n=>some (.inr n)).bind fun o=>some (.inr (.inr o)) else none
  |.inr i=>(((some (.inr (i.1,i.2))).bind fun p=>some (.inr p)).bind fun q=>some (.inr q)).bind fun s=>some (.inr (.inr s)) else some (.inr (.inl (d,a)))
def AC(rec_:AoJ→UInt8→Option ((AoG×AoJ)⊕(Int×AoJ)))(c:AoJ)(a:UInt8):Option ((AoG×AoJ)⊕(Int×AoJ)) :=((if(decide (a≥(32:UInt8)))then some (decide (a≤(40:UInt8))) else some false:Option (Bool)).bind fun m=>if m then (Bv c ((a-(32:UInt8)).toNat:Int) (0:UInt8)).bind fun n=>match n with
  |.inl d=>(some (.inl (d.1,d.2))).bind fun o=>some (.inr o)
  |.inr e=>(some (.inr (e.1,e.2))).bind fun p=>some (.inr p) else (if(decide (a<(32:UInt8)))then some (decide (a≥(23:UInt8))) else some false:Option (Bool)).bind fun q=>if q then (Bv c (((31:UInt8)-a).toNat:Int) (255:UInt8)).bind fun s=>match s with
   |.inl f=>(some (.inl (f.1,f.2))).bind fun t=>some (.inr t)
   |.inr g=>(some (.inr (g.1,g.2))).bind fun u=>some (.inr u) else if(a==(48:UInt8))then (CS c).bind fun w=>match w with
    |.inl i=>(some (.inl (i.1,i.2))).bind fun y=>some (.inr y)
    |.inr j=>(some (.inr (j.1,j.2))).bind fun aa=>some (.inr aa) else if (a==(64:UInt8))then ((A4 c).bind fun ab=>match ab with
     | .inl k=>(AF (fun(v:UInt8×List UInt8×List AoG)=>AJ rec_ v.1 v.2.1 v.2.2) (k.1,k.2.b,[])).bind fun x=>match x with
      |.inl (ac,ad)=>some (.inl (ac,ad))
      |.inr z=>some z
     |.inr l=>((some (.inr (l.1,l.2))).bind fun ae=>some (.inr ae)).bind fun af=>some (.inr af):Option ((List UInt8×List AoG)⊕((Unit)⊕((AoG×AoJ)⊕(Int×AoJ))))).bind fun x=>match x with
     |.inl (ag,ah)=>(some (.inl ((AoG.mk 3 0 ([]) ah),({ b:=ag }:AoJ)))).bind fun ai=>some (.inr ai)
     |.inr z=>some z else some (.inl ()):Option ((Unit)⊕((AoG×AoJ)⊕(Int×AoJ)))).bind fun x=>match x with
 |.inl ()=>some (.inr (4,c))
 |.inr z=>some z
def A0(n:Nat):AoJ→UInt8→Option ((AoG×AoJ)⊕(Int×AoJ)):=match n with
 |0=>fun _ _=>none
 |n+1=>AC (A0 n)
def CE(a:AoJ)(b:UInt8):Option ((AoG×AoJ)⊕(Int×AoJ)):=A0 18446744073709551616 a b
def BJ(c:List UInt8):Option (AoG×Int) :=if(decide ((c.length:Int)>65536))then some ((AoG.mk 0 0 ([]) ([])),2) else (A4 ({ b:=c }:AoJ)).bind fun e=>match e with
  | .inl d=>(CE d.2 d.1).bind fun f=>match f with
   | .inl a=>if(decide ((a.2.b.length:Int)>0))then some ((AoG.mk 0 0 ([]) ([])),4) else (EA a.1).bind fun g=>if(decide (g.1>16))then some ((AoG.mk 0 0 ([]) ([])),2) else some (a.1,0)
   |.inr i=>some ((AoG.mk 0 0 ([]) ([])),i.1)
  |.inr j=>some ((AoG.mk 0 0 ([]) ([])),j.1)
def FM(b:AoG)(c:AoG)(rec_:AoG→AoG→Option (Bool))(a:Int):Option ((Int)⊕((Unit)⊕((Unit)⊕(Bool)))) :=if (decide (a<(b.L.length:Int)))then if InR a b.L.length then if InR a c.L.length then (rec_ (nth b.L a.toNat) (nth c.L a.toNat)).bind fun d=>if(!d)then ((some false).bind fun e=>some (.inr e)).bind fun f=>some (.inr (.inr f)) else some (.inl (w64 (a+1))) else none else none else some (.inr (.inl ()))
def GV(rec_:AoG→AoG→Option (Bool))(a:AoG)(b:AoG):Option (Bool) :=(if(a.Za != b.Za)then some true else (Ft a b).bind fun c=>if(c != 0)then some true else if(a.N != b.N)then some true else if((a.B.length:Int) != (b.B.length:Int))then some true else some ((a.L.length:Int) != (b.L.length:Int)):Option (Bool)).bind fun d=>if d then some false else ((AF (fun(v:Int)=>FM a b rec_ v) 0).bind fun x=>match x with
  |.inl ()=>some (.inl ())
  |.inr z=>some z:Option ((Unit)⊕(Bool))).bind fun x=>match x with
  |.inl ()=>some true
  |.inr z=>some z
def F5(n:Nat):AoG→AoG→Option (Bool):=match n with
 |0=>fun _ _=>none
 |n+1=>GV (F5 n)
def Ml(a:AoG)(b:AoG):Option (Bool):=F5 18446744073709551616 a b
def Cl(c:AoG)(a:Int)(d:List AoA):Option ((Int×List AoA)⊕((List AoA)⊕((List AoA)⊕(AoB×Int)))) :=if (decide (a<(((nth c.L 14).L).length:Int)))then if InR a (((nth c.L 14).L).length)then lt1 ((nth ((nth c.L 14).L) a.toNat).Za) fun(i:Int)=>lt1 ((nth ((nth c.L 14).L) a.toNat).N) fun(j:Int)=>lt1 ((nth ((nth c.L 14).L) a.toNat).B) fun(k:List UInt8)=>lt1 ((nth ((nth c.L 14).L) a.toNat).L) fun(b:List AoG)=>if((b.length:Int) != 3)then ((some (({ Za:=0,Ref:=({ Zb:=0,No:=0 }:Aoz),Zn1:=0,Zb1:=0,Zc:=0,Zo1:=0,Zw:=0,To:=0,Code:=0,Zp1:=0,Zq1:=0,Zr1:=0,Zs1:=0,Zt1:=([]:List UInt8),Zu1:=[] }:AoB),10)).bind fun e=>some (.inr e)).bind fun f=>some (.inr (.inr f)) else if InR 0 b.length then if InR 1 b.length then if InR 2 b.length then if CI (d.length+1) 24 then lt1 (d++([({ Za:=(nth b 0).N,Zl1:=(nth b 1).N,Zm1:=((nth b 2).N==1) }:AoA)]:List AoA)) fun(g:List AoA)=>some (.inl ((w64 (a+1)),g)) else none else none else none else none else none else some (.inr (.inl d))
def BS(a : AoG):Option (AoB×Int) :=(if((a.L.length:Int) != 15)then some true else if InR 1 a.L.length then some ((((nth a.L 1).L).length:Int) != 2) else none:Option (Bool)).bind fun e=>if e then some (({ Za:=0,Ref:=({ Zb:=0,No:=0 }:Aoz),Zn1:=0,Zb1:=0,Zc:=0,Zo1:=0,Zw:=0,To:=0,Code:=0,Zp1:=0,Zq1:=0,Zr1:=0,Zs1:=0,Zt1:=([]:List UInt8),Zu1:=[] }:AoB),10) else if InR 0 a.L.length then if InR 1 a.L.length then if InR 0 (((nth a.L 1).L).length)then if InR 1 a.L.length then if InR 1 (((nth a.L 1).L).length)then lt1 ((nth ((nth a.L 1).L) 0).N) fun(b:Int)=>lt1 ((nth ((nth a.L 1).L) 1).N) fun(c:Int)=>(if InR 2 a.L.length then if InR 3 a.L.length then if InR 4 a.L.length then if InR 5 a.L.length then if InR 6 a.L.length then if InR 7 a.L.length then if InR 8 a.L.length then if InR 9 a.L.length then if InR 10 a.L.length then if InR 11 a.L.length then if InR 12 a.L.length then some () else none else none else none else none else none else none else none else none else none else none else none:Option (Unit)).bind fun()=>if InR 13 a.L.length then (if InR 14 a.L.length then (AF (fun(v:Int×List AoA)=>Cl a v.1 v.2) (0,[])).bind fun x=>match x with
         |.inl f=>some (.inl f)
         |.inr z=>some z else none:Option ((List AoA)⊕(AoB×Int))).bind fun x=>match x with
        | .inl d=>(Er ({ Za:=(nth a.L 0).N,Ref:=({ Zb:=b,No:=c }:Aoz),Zn1:=(nth a.L 2).N,Zb1:=(nth a.L 3).N,Zc:=(nth a.L 4).N,Zo1:=(nth a.L 5).N,Zw:=(nth a.L 6).N,To:=(nth a.L 7).N,Code:=(nth a.L 8).N,Zp1:=(nth a.L 9).N,Zq1:=(nth a.L 10).N,Zr1:=(nth a.L 11).N,Zs1:=(nth a.L 12).N,Zt1:=(nth a.L 13).B,Zu1:=d }:AoB)).bind fun g=>(Ml g a).bind fun i=>if(!i)then some (({ Za:=0,Ref:=({ Zb:=0,No:=0 }:Aoz),Zn1:=0,Zb1:=0,Zc:=0,Zo1:=0,Zw:=0,To:=0,Code:=0,Zp1:=0,Zq1:=0,Zr1:=0,Zs1:=0,Zt1:=([]:List UInt8),Zu1:=[] }:AoB),10) else some (({ Za:=(nth a.L 0).N,Ref:=({ Zb:=b,No:=c }:Aoz),Zn1:=(nth a.L 2).N,Zb1:=(nth a.L 3).N,Zc:=(nth a.L 4).N,Zo1:=(nth a.L 5).N,Zw:=(nth a.L 6).N,To:=(nth a.L 7).N,Code:=(nth a.L 8).N,Zp1:=(nth a.L 9).N,Zq1:=(nth a.L 10).N,Zr1:=(nth a.L 11).N,Zs1:=(nth a.L 12).N,Zt1:=(nth a.L 13).B,Zu1:=d }:AoB),0)
        |.inr z=>some z else none else none else none else none else none else none
def CP(b:AoG)(c:UInt64)(a:Int):Option ((UInt64×Int)⊕(UInt64)) :=if(decide (a<(b.B.length:Int)))then if InR a b.B.length then lt1 (nth b.B a.toNat) fun(d:UInt8)=>lt1 ((Fi c (8:UInt64).toNat) ||| d.toUInt64) fun(e:UInt64)=>some (.inl (e,(w64 (a+1)))) else none else some (.inr c)
def DT(a:AoG):Option (UInt64×Bool) :=((AF (fun(v:UInt64×Int)=>CP a v.1 v.2) ((0:UInt64),0)).bind fun b=>some b:Option (UInt64)).bind fun c=>(if(a.Za==2)then some ((a.B.length:Int)==8) else some false:Option (Bool)).bind fun d=>some (c,d)
def BX(e : List UInt8):Option (AoD×Int) :=(BJ e).bind fun a=>if(a.2 != 0)then some (({ Zb:=0,No:=0,Zv1:=(Arr.rep 32 (0:UInt8)),Zw1:=0,Zx1:=({ Za:=0,Ref:=({ Zb:=0,No:=0 }:Aoz),Zn1:=0,Zb1:=0,Zc:=0,Zo1:=0,Zw:=0,To:=0,Code:=0,Zp1:=0,Zq1:=0,Zr1:=0,Zs1:=0,Zt1:=([]:List UInt8),Zu1:=[] }:AoB),Sig:=({ C:=(0:UInt64),S:=(0:UInt64) }:AoC) }:AoD),a.2) else (if((a.1.L.length:Int) != 6)then some true else if InR 0 a.1.L.length then if((nth a.1.L 0).Za != 1)then some true else if InR 1 a.1.L.length then if((nth a.1.L 1).Za != 1)then some true else if InR 2 a.1.L.length then if((nth a.1.L 2).Za != 2)then some true else if InR 2 a.1.L.length then if((((nth a.1.L 2).B).length:Int) != 32)then some true else if InR 3 a.1.L.length then if((nth a.1.L 3).Za != 1)then some true else if InR 5 a.1.L.length then some ((((nth a.1.L 5).L).length:Int) != 2) else none else none else none else none else none else none:Option (Bool)).bind fun f=>if f then some (({ Zb:=0,No:=0,Zv1:=(Arr.rep 32 (0:UInt8)),Zw1:=0,Zx1:=({ Za:=0,Ref:=({ Zb:=0,No:=0 }:Aoz),Zn1:=0,Zb1:=0,Zc:=0,Zo1:=0,Zw:=0,To:=0,Code:=0,Zp1:=0,Zq1:=0,Zr1:=0,Zs1:=0,Zt1:=([]:List UInt8),Zu1:=[] }:AoB),Sig:=({ C:=(0:UInt64),S:=(0:UInt64) }:AoC) }:AoD),10) else if InR 4 a.1.L.length then (BS (nth a.1.L 4)).bind fun b=>if InR 5 a.1.L.length then if InR 0 (((nth a.1.L 5).L).length)then (DT (nth ((nth a.1.L 5).L) 0)).bind fun c=>if InR 5 a.1.L.length then if InR 1 (((nth a.1.L 5).L).length)then (DT (nth ((nth a.1.L 5).L) 1)).bind fun d=>(if(b.2 != 0)then some true else if(!c.2)then some true else some (!d.2):Option (Bool)).bind fun g=>if g then some (({ Zb:=0,No:=0,Zv1:=(Arr.rep 32 (0:UInt8)),Zw1:=0,Zx1:=({ Za:=0,Ref:=({ Zb:=0,No:=0 }:Aoz),Zn1:=0,Zb1:=0,Zc:=0,Zo1:=0,Zw:=0,To:=0,Code:=0,Zp1:=0,Zq1:=0,Zr1:=0,Zs1:=0,Zt1:=([]:List UInt8),Zu1:=[] }:AoB),Sig:=({ C:=(0:UInt64),S:=(0:UInt64) }:AoC) }:AoD),10) else if InR 0 a.1.L.length then if InR 1 a.1.L.length then if InR 2 a.1.L.length then if InB 32 ((nth a.1.L 2).B).length then if InR 3 a.1.L.length then lt1 (Sj 32 (0:UInt8) ((nth a.1.L 2).B)) fun(i:Arr UInt8 32)=>some (({ Zb:=(nth a.1.L 0).N,No:=(nth a.1.L 1).N,Zv1:=i,Zw1:=(nth a.1.L 3).N,Zx1:=b.1,Sig:=({ C:=c.1,S:=d.1 }:AoC) }:AoD),0) else none else none else none else none else none else none else none else none else none else none
def BZ(a:AoD)(b:AoD)(c:List UInt8):Option (Bool) :=law14_sane.bind fun k=>if(!k)then some false else ((E9 a.Zx1).bind fun l=>if(!l)then some true else (E9 b.Zx1).bind fun m=>if(!m)then some true else some (decide ((c.length:Int)>2000)):Option (Bool)).bind fun n=>if n then some true else (CH a).bind fun e=>(BX e.1).bind fun f=>(if(e.2 != 0)then some true else if(f.2 != 0)then some true else (Bf f.1 a).bind fun o=>some (!o):Option (Bool)).bind fun p=>if p then some false else (EO a).bind fun g=>(EO b).bind fun i=>(if(g.2 != 0)then some true else if(i.2 != 0)then some true else if(g.1==i.1)then (Bf a b).bind fun q=>some (!(((a.Sig.C==b.Sig.C)&&(a.Sig.S==b.Sig.S))==q)) else (Bf a b).bind fun s=>some (!(false==s)):Option (Bool)).bind fun t=>if t then some false else (BX c).bind fun d=>if(d.2 != 0)then (Bf d.1 ({ Zb:=0,No:=0,Zv1:=(Arr.rep 32 (0:UInt8)),Zw1:=0,Zx1:=({ Za:=0,Ref:=({ Zb:=0,No:=0 }:Aoz),Zn1:=0,Zb1:=0,Zc:=0,Zo1:=0,Zw:=0,To:=0,Code:=0,Zp1:=0,Zq1:=0,Zr1:=0,Zs1:=0,Zt1:=([]:List UInt8),Zu1:=[] }:AoB),Sig:=({ C:=(0:UInt64),S:=(0:UInt64) }:AoC) }:AoD)).bind fun u=>some u else (CH d.1).bind fun j=>(if(j.2==0)then some (j.1==c) else some false:Option (Bool)).bind fun v=>some v
set_option maxRecDepth 4000
variable{α X:Type}
theorem CA{β:Type}(x:α)(f:α→Option β):lt1 x f=f x:=Arq (eq_self (f x))
theorem GR{k:Nat}(h:k<9223372036854775807):w64 ((k:Int)+1)=((k+1:Nat):Int):=by rw[Ea (by omega)];rfl
theorem AaK(b c:Bool):(if b then some true else some c)=some (b||c):=by cases b<;>rfl
theorem Aoh(b c:Bool):(if b then some c else some false)=some (b&&c):=by cases b<;>rfl
theorem ES{β:Type}(x:α)(f:α→Option β):(some x).bind f=f x:=Arq (eq_self (f x))
theorem Hz[Inhabited α](l:List α)(f:Int→Option (Int⊕X))(p:α→Bool)(good bad:X)(hl:l.length<1152921504606846976) (hs:∀k:Nat,k<l.length→f (k:Int)=some (if p (nth l k)=true then .inl ((k+1:Nat):Int)else .inr bad)) (he:f (l.length:Int)=some (.inr good)) :AF (fun v=>f v) 0=some (if l.all p=true then good else bad):=by
 obtain⟨x,hx,hq⟩:∃x,AF (fun v=>f v) 0=some x∧x=(if l.all p=true then good else bad):=by
  refine Cj (fun v=>∃k:Nat,v=(k:Int)∧k≤l.length∧(l.take k).all p=true) (fun v=>(l.length-v).toNat) _ ?_ ⟨0,rfl,Apx _,rfl⟩ (by simp;omega);rintro v ⟨k,rfl,hk,ht⟩;by_cases h1:k<l.length
  ·have hn:nth l k=l[k]:=by simp[nth,h1]
   rw[hs k h1];by_cases hp:p (nth l k)=true
   ·left;refine⟨_,by rw[AoO hp],⟨k+1,rfl,by omega,?_⟩,by omega⟩;rw[Ard h1,List.all_append,ht,←hn];simp[hp]
   ·right;refine⟨_,by rw[AoQ hp],?_⟩;rw[AoQ];intro ha;rw[AoZ]at ha;exact hp (by rw[hn];exact ha _ (ApO h1))
  ·right;have:k=l.length:=by omega
   subst this;rw[AqC]at ht;exact⟨_,he,by rw[AoO ht]⟩
 rw[hx,hq]
theorem JZ{V S:Type}[Inhabited α](l:List α)(f:V→Option (V⊕X))(st:Int→S→V)(g:S→α→S)(out:S→X)(s0:S)(hl:l.length<1152921504606846976) (hs:∀(k:Nat) (s:S),k<l.length→f (st (k:Int) s)=some (.inl (st ((k+1:Nat):Int) (g s (nth l k))))) (he:∀s,f (st (l.length:Int) s)=some (.inr (out s))) :AF f (st 0 s0)=some (out (l.foldl g s0)):=by
 obtain⟨x,hx,hq⟩:∃x,AF f (st 0 s0)=some x∧x=out (l.foldl g s0):=by
  refine FI l.length (fun k v=>v=st (k:Int) ((l.take k).foldl g s0)) _ (by omega) ?_ ?_ rfl
  ·rintro k v hk rfl;refine⟨_,hs k _ hk,?_⟩;rw[Ard hk,ArL];simp[nth,hk]
  ·rintro v rfl;exact⟨_,he _,by rw[AqC]⟩
 rw[hx,hq]
theorem Abx{V S:Type}(n:Nat)(f:V→Option (V⊕X))(st:Int→S→V)(F:Nat→S)(out:S→X)(hn:n<1152921504606846976) (hs:∀k:Nat,k<n→f (st (k:Int) (F k))=some (.inl (st ((k+1:Nat):Int) (F (k+1))))) (he:f (st (n:Int) (F n))=some (.inr (out (F n)))) :AF f (st 0 (F 0))=some (out (F n)):=by
 obtain⟨x,hx,hq⟩:∃x,AF f (st 0 (F 0))=some x∧x=out (F n):=by
  refine FI n (fun k v=>v=st (k:Int) (F k)) _ (by omega) ?_ ?_ rfl
  ·rintro k v hk rfl;exact⟨_,hs k hk,rfl⟩
  ·rintro v rfl;exact⟨_,he,rfl⟩
 rw[hx,hq]
theorem AaZ[Inhabited α][DecidableEq α](a b:List α)(f:Int→Option (Int⊕(Unit⊕(Unit⊕Bool))))(hl:a.length=b.length)(hb:a.length<1152921504606846976) (hs:∀k:Nat,k<a.length→f (k:Int)=some (if nth a k=nth b k then .inl ((k+1:Nat):Int)else .inr (.inr (.inr false)))) (he:f (a.length:Int)=some (.inr (.inl ()))) :AF (fun v=>f v) 0=some (if a=b then .inl ()else .inr (.inr false)):=by
 obtain⟨x,hx,hq⟩:∃x,AF (fun v=>f v) 0=some x∧x=(if a=b then .inl ()else .inr (.inr false)):=by
  refine Cj (fun v=>∃k:Nat,v=(k:Int)∧k≤a.length∧a.take k=b.take k) (fun v=>(a.length-v).toNat) _ ?_ ⟨0,rfl,Apx _,rfl⟩ (by simp;omega);rintro v ⟨k,rfl,hk,ht⟩;by_cases h1:k<a.length
  ·have h2:k<b.length:=by omega
   rw[hs k h1];have ea:a.take (k+1)=a.take k++[nth a k]:=by rw[Aqx,AoN h1];simp[nth,AoN h1]
   have eb:b.take (k+1)=b.take k++[nth b k]:=by rw[Aqx,AoN h2];simp[nth,AoN h2]
   by_cases hk':nth a k=nth b k
   ·left;exact⟨_,by rw[AoO hk'],⟨k+1,rfl,by omega,by rw[ea,eb,ht,hk']⟩,by omega⟩
   ·right;refine⟨_,by rw[AoQ hk'],?_⟩;rw[AoQ (fun h=>hk' (by rw[h]))]
  ·right;have:k=a.length:=by omega
   subst this;refine⟨_,he,?_⟩;rw[AqC,Aps (by omega)]at ht;rw[AoO ht]
 rw[hx,hq]
theorem Ago(x y:AoA):(!((x.Za==y.Za)&&((x.Zl1==y.Zl1)&&(x.Zm1==y.Zm1))))=decide (x≠y):=by
 by_cases h:x=y
 ·subst h;simp
 ·rw[Apo h];rcases x with⟨a,b,c⟩
  rcases y with⟨d,e,f⟩
  simp only[AoA.mk.injEq,not_and]at h;simp only[AqJ,Ap7,Aql,ne_eq];by_cases h1:a=d
  ·by_cases h2:b=e
   ·exact .inr (.inr (by simpa using h h1 h2))
   ·exact .inr (.inl h2)
  ·exact .inl h1
theorem XZ{a b:List AoA}(ha:a.length≤1000000):En a b=some (decide (a=b)):=by
 unfold En;by_cases hl:a.length=b.length
 ·rw[AoQ (by simp[hl]),AaZ a b (fun v=>Ci a b v) hl (by omega) ?_ ?_]
  ·by_cases h:a=b<;>simp[h]
  ·intro k hk;unfold Ci;rw[AoO (Apo (by omega)),AoO (DM hk),AoO (DM (by omega))];simp only[CA,Apa,Ago];by_cases he:nth a k=nth b k
   ·rw[AoQ (by simp[he]),AoO he,GR (by omega)]
   ·rw[AoO (by simp[he]),AoQ he];rfl
  ·unfold Ci;rw[AoQ (by simp)]
 ·rw[AoO (by simp;omega),ApE (fun h=>hl (by rw[h]))]
def MY(it:AoB):List Int:=[it.Zn1,it.Zb1,it.Zc,it.Zo1,it.Zw,it.To,it.Code,it.Zp1,it.Zq1,it.Zr1,it.Zs1]
theorem VV(it:AoB):∀{k:Nat},k<11→Iq it (nth [119,112,111,110,102,116,99,100,107,103,97] k)=some (nth (MY it) k)
 |0,_=>rfl
 |1,_=>rfl
 |2,_=>rfl
 |3,_=>rfl
 |4,_=>rfl
 |5,_=>rfl
 |6,_=>rfl
 |7,_=>rfl
 |8,_=>rfl
 |9,_=>rfl
 |10,_=>rfl
 |k+11,h=>by omega
theorem Acu{a b:AoB}(h:MY a=MY b)(hk:a.Za=b.Za)(hr1:a.Ref.Zb=b.Ref.Zb)(hr2:a.Ref.No=b.Ref.No)(ht:a.Zt1=b.Zt1)(hp:a.Zu1=b.Zu1):a=b:=by
 rcases a with⟨k,⟨r,n⟩,a1,a2,a3,a4,a5,a6,a7,a8,a9,a10,a11,t,p⟩
 rcases b with⟨k',⟨r',n'⟩,b1,b2,b3,b4,b5,b6,b7,b8,b9,b10,b11,t',p'⟩
 simp only[MY,Arx,Ara]at h;obtain⟨rfl,rfl,rfl,rfl,rfl,rfl,rfl,rfl,rfl,rfl,rfl⟩:=h;simp only at hk hr1 hr2 ht hp;subst hk hr1 hr2 ht hp;rfl
theorem Abf{a b:AoB}(ha:a.Zu1.length≤1000000):JV a b=some (decide (a=b)):=by
 unfold JV;have l11:∀it:AoB,(MY it).length=11:=fun _=>rfl
 rw[AaZ (MY a) (MY b) (fun v=>EI a b v) rfl (by rw[l11];omega) ?_ ?_]
 ·by_cases hn:MY a=MY b
  ·simp only[AoO hn,AoP];by_cases h1:a.Za=b.Za
   ·by_cases h2:a.Ref.Zb=b.Ref.Zb
    ·by_cases h3:a.Ref.No=b.Ref.No
     ·by_cases h4:a.Zt1=b.Zt1
      ·rw[AoO (by simpa using h1),AoO (by simp[h2,h3]),AoO (by simpa using h4),XZ ha];by_cases h5:a.Zu1=b.Zu1
       ·rw[Apo h5,Apo (Acu hn h1 h2 h3 h4 h5)];rfl
       ·rw[ApE h5,ApE (fun h=>h5 (by rw[h]))];rfl
      ·rw[AoO (by simpa using h1),AoO (by simp[h2,h3]),AoQ (by simpa using h4),ApE (fun h=>h4 (by rw[h]))];rfl
     ·rw[AoO (by simpa using h1),AoQ (by simp[h3]),ApE (fun h=>h3 (by rw[h]))];rfl
    ·rw[AoO (by simpa using h1),AoQ (by simp[h2]),ApE (fun h=>h2 (by rw[h]))];rfl
   ·rw[AoQ (by simpa using h1),ApE (fun h=>h1 (by rw[h]))];rfl
  ·rw[ApE (fun h=>hn (by rw[h])),AoQ hn];rfl
 ·intro k hk;rw[l11]at hk;unfold EI;have hin:InR (k:Int) ([119,112,111,110,102,116,99,100,107,103,97]:List UInt8).length:=⟨by omega,by simpa using hk⟩;rw[AoO (Apo (by omega)),AoO hin];simp only[Apa];rw[VV a hk,AoP,AoO hin,VV b hk,AoP];by_cases he:nth (MY a) k=nth (MY b) k
  ·rw[AoQ (by simp[he]),AoO he,GR (by omega)]
  ·rw[AoO (by simpa using he),AoQ he];rfl
 ·unfold EI;rw[l11,AoQ (by simp)]
theorem AeO{a b:AoD}(h1:a.Zb=b.Zb)(h2:a.No=b.No)(h3:a.Zv1=b.Zv1)(h4:a.Zw1=b.Zw1)(h5:a.Sig.C=b.Sig.C)(h6:a.Sig.S=b.Sig.S)(h7:a.Zx1=b.Zx1):a=b:=by
 rcases a with⟨a1,a2,a3,a4,a5,c,s⟩
 rcases b with⟨b1,b2,b3,b4,b5,c',s'⟩
 simp only at h1 h2 h3 h4 h5 h6 h7;subst h1 h2 h3 h4 h5 h6 h7;rfl
theorem QI{a b:AoD}(ha:a.Zx1.Zu1.length≤1000000):Bf a b=some (decide (a=b)):=by
 unfold Bf;by_cases h1:a.Zb=b.Zb
 case neg=>rw[AoQ (by simpa using h1),ApE (fun h=>h1 (by rw[h]))];rfl
 by_cases h2:a.No=b.No
 case neg=>rw[AoO (by simpa using h1),AoQ (by simpa using h2),ApE (fun h=>h2 (by rw[h]))];rfl
 by_cases h3:a.Zv1=b.Zv1
 case neg=>rw[AoO (by simpa using h1),AoO (by simpa using h2),AoQ (by simpa using h3),ApE (fun h=>h3 (by rw[h]))];rfl
 by_cases h4:a.Zw1=b.Zw1
 case neg=>rw[AoO (by simpa using h1),AoO (by simpa using h2),AoO (by simpa using h3),AoQ (by simpa using h4),ApE (fun h=>h4 (by rw[h]))];rfl
 by_cases h5:a.Sig.C=b.Sig.C
 case neg=>rw[AoO (by simpa using h1),AoO (by simpa using h2),AoO (by simpa using h3),AoO (by simpa using h4),AoQ (by simp[h5]),ApE (fun h=>h5 (by rw[h]))];rfl
 by_cases h6:a.Sig.S=b.Sig.S
 case neg=>rw[AoO (by simpa using h1),AoO (by simpa using h2),AoO (by simpa using h3),AoO (by simpa using h4),AoQ (by simp[h6]),ApE (fun h=>h6 (by rw[h]))];rfl
 rw[AoO (by simpa using h1),AoO (by simpa using h2),AoO (by simpa using h3),AoO (by simpa using h4),AoO (by simp[h5,h6]),Abf ha];by_cases h7:a.Zx1=b.Zx1
 ·rw[Apo h7,Apo (AeO h1 h2 h3 h4 h5 h6 h7)];rfl
 ·rw[ApE h7,ApE (fun h=>h7 (by rw[h]))];rfl
theorem J1[Inhabited α]{l:List α}{k:Nat}(h:k<l.length):nth l k∈l:=by
 simp[nth,AoN h]
def PT(it:AoB):Bool:=decide (it.Zt1.length≤1000)&&decide (it.Zu1.length≤20)
theorem W4(it:AoB):E9 it=some (PT it):=by
 unfold E9 PT;have e1:decide ((it.Zt1.length:Int)≤1000)=decide (it.Zt1.length≤1000):=by simp;omega
 have e2:decide ((it.Zu1.length:Int)≤20)=decide (it.Zu1.length≤20):=by simp;omega
 rw[e1,e2];by_cases h:it.Zt1.length≤1000<;>simp[h]
structure Small(it:AoB):Prop where
  text:it.Zt1.length≤1000
  parts:it.Zu1.length≤20
theorem VF{it:AoB}(h:PT it=true):Small it:=by
 simp only[PT,Apb,Apj]at h;exact⟨h.1,h.2⟩
structure Short(b:AoF):Prop where
  logs:b.Zy1.length≤4
  forks:b.Zz1.length≤6
  row:∀l∈b.Zy1,l.length≤12
  item:∀l∈b.Zy1,∀r∈l,Small r.Zx1
  fork:∀f∈b.Zz1,Small f.A.Zx1∧Small f.B.Zx1
def I64(x:Int):Prop:=-9223372036854775808≤x∧x≤9223372036854775807
end Go.Proofs.YtioapcamanmoiaaGreatDoor
