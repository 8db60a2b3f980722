/-
  Part 43.
-/
import Derived.Test.YtioapcamanmoiaaDoorProg
import Derived.Test.YtioapcamanmoiaaDoorYF439
import Derived.Test.YtioapcamanmoiaaDoorYF440
import Derived.KernelRfl
namespace Go.Proofs.YtioapcamanmoiaaDoor
open Go.Rv
set_option linter.unusedVariables false
set_option linter.unusedSimpArgs false
set_option maxRecDepth 20000
def glob2:Arr UInt32 64:=⟨[1116352408,1899447441,3049323471,3921009573,961987163,1508970993,2453635748,2870763221,3624381080,310598401,607225278,1426881987,1925078388,2162078206,2614888103,3248222580,3835390401,4022224774,264347078,604807628,770255983,1249150122,1555081692,1996064986,2554220882,2821834349,2952996808,3210313671,3336571891,3584528711,113926993,338241895,666307205,773529912,1294757372,1396182291,1695183700,1986661051,2177026350,2456956037,2730485921,2820302411,3259730800,3345764771,3516065817,3600352804,4094571909,275423344,430227734,506948616,659060556,883997877,958139571,1322822218,1537002063,1747873779,1955562222,2024104815,2227730452,2361852424,2428436474,2756734187,3204031479,3329325298],rfl⟩
theorem AhF:MpLaw Tryd.prog 119 43 89:=Yt (m:=6) (by kernel_rfl) (by decide) (by kernel_rfl) (by kernel_rfl) (by kernel_rfl) (fun a b h=>Ac1 (m:=216) ⟨"Railway", 3,0,false,"","", 0⟩ ⟨"No", 3,1,false,"","", 8⟩ (by kernel_rfl) (by kernel_rfl) (by kernel_rfl) (by kernel_rfl) (by kernel_rfl) (by kernel_rfl) (by kernel_rfl) rfl rfl (by decide) (by decide) (by kernel_rfl) h)
attribute [go_sem_proc] reduceIte Nat.reduceLT Nat.reduceEqDiff Nat.reduceAdd Nat.reduceBEq Nat.reduceMul Nat.reduceSub Nat.reduceGT Nat.reducePow Nat.reduceLeDiff Int.reduceToNat Int.reduceLT Int.reduceAdd Int.reduceSub Nat.reduceGT Nat.reduceLeDiff Int.reduceBEq Int.reduceGT Int.reduceLE Int.reduceGE
attribute [go_sem] AiB decide_true decide_false Bool.false_eq_true beq_self_eq_true
noncomputable def B:Base:=XY Tryd.prog (fun i=>if i=2 then some (C1 u32 glob2.l)else none) (fun f _=>[39,40,41,42,45,47,50,65,67,70,78,85,86,88,92,93,97,98,99,100,101,102,103].contains f) (fun _=>none) (fun _=>none) none true (fun _ _=>rfl) (some (119,43,89)) (Ack AhF)
theorem tbk{t F x}(h:Bp Tryd.prog t=x):(B.env F).tab t=x:=(Az Tryd.prog t).trans h
theorem ok:B.Ok:=Vn _ _ _ _ _ _ _ _ _ _
theorem lm0(F:Out):(B.env F).lm=true:=rfl
variable(F:Out)(xs:List Operand)
theorem own3:(B.env F).own 3 xs=false:=rfl
theorem own4:(B.env F).own 4 xs=false:=rfl
theorem own5:(B.env F).own 5 xs=false:=rfl
theorem own6:(B.env F).own 6 xs=false:=rfl
theorem own7:(B.env F).own 7 xs=false:=rfl
theorem own8:(B.env F).own 8 xs=false:=rfl
theorem own9:(B.env F).own 9 xs=false:=rfl
theorem AjK:(B.env F).own 10 xs=false:=rfl
theorem Ag6:(B.env F).own 11 xs=false:=rfl
theorem AiU:(B.env F).own 12 xs=false:=rfl
theorem AiK:(B.env F).own 13 xs=false:=rfl
theorem AhE:(B.env F).own 14 xs=false:=rfl
theorem AjR:(B.env F).own 15 xs=false:=rfl
theorem Ah9:(B.env F).own 16 xs=false:=rfl
theorem Ai6:(B.env F).own 17 xs=false:=rfl
theorem Ake:(B.env F).own 18 xs=false:=rfl
theorem Ahg:(B.env F).own 19 xs=false:=rfl
theorem AjF:(B.env F).own 20 xs=false:=rfl
theorem Ait:(B.env F).own 21 xs=false:=rfl
theorem Aia:(B.env F).own 22 xs=false:=rfl
theorem Ai0:(B.env F).own 23 xs=false:=rfl
theorem Ag7:(B.env F).own 24 xs=false:=rfl
theorem AjB:(B.env F).own 25 xs=false:=rfl
theorem AhI:(B.env F).own 26 xs=false:=rfl
theorem Ahj:(B.env F).own 27 xs=false:=rfl
theorem Akc:(B.env F).own 28 xs=false:=rfl
theorem Ahi:(B.env F).own 29 xs=false:=rfl
theorem AhR:(B.env F).own 30 xs=false:=rfl
theorem Akd:(B.env F).own 31 xs=false:=rfl
theorem AjI:(B.env F).own 32 xs=false:=rfl
theorem Ajv:(B.env F).own 33 xs=false:=rfl
theorem Akk:(B.env F).own 34 xs=false:=rfl
theorem Ahc:(B.env F).own 35 xs=false:=rfl
theorem Ah6:(B.env F).own 36 xs=false:=rfl
theorem AiA:(B.env F).own 37 xs=false:=rfl
theorem Ai2:(B.env F).own 38 xs=false:=rfl
theorem Ahs:(B.env F).own 39 xs=true:=rfl
theorem Ajc:(B.env F).own 40 xs=true:=rfl
theorem AhN:(B.env F).own 41 xs=true:=rfl
theorem Aik:(B.env F).own 42 xs=true:=rfl
theorem Ajy:(B.env F).own 43 xs=false:=rfl
theorem AjX:(B.env F).own 44 xs=false:=rfl
theorem Aiu:(B.env F).own 45 xs=true:=rfl
theorem Aio:(B.env F).own 46 xs=false:=rfl
theorem Ah3:(B.env F).own 47 xs=true:=rfl
theorem Ah0:(B.env F).own 48 xs=false:=rfl
theorem AhU:(B.env F).own 49 xs=false:=rfl
theorem Aki:(B.env F).own 50 xs=true:=rfl
theorem Aja:(B.env F).own 51 xs=false:=rfl
theorem Aiw:(B.env F).own 52 xs=false:=rfl
theorem AiE:(B.env F).own 53 xs=false:=rfl
theorem Ajx:(B.env F).own 54 xs=false:=rfl
theorem Ajs:(B.env F).own 55 xs=false:=rfl
theorem AjS:(B.env F).own 56 xs=false:=rfl
theorem Ahx:(B.env F).own 57 xs=false:=rfl
theorem Aii:(B.env F).own 58 xs=false:=rfl
theorem Ah4:(B.env F).own 59 xs=false:=rfl
theorem AjL:(B.env F).own 60 xs=false:=rfl
theorem Aj6:(B.env F).own 61 xs=false:=rfl
theorem AhT:(B.env F).own 62 xs=false:=rfl
theorem Ajn:(B.env F).own 63 xs=false:=rfl
theorem Aho:(B.env F).own 64 xs=false:=rfl
theorem Ag5:(B.env F).own 65 xs=true:=rfl
theorem Aka:(B.env F).own 66 xs=false:=rfl
theorem AiR:(B.env F).own 67 xs=true:=rfl
theorem Aiy:(B.env F).own 68 xs=false:=rfl
theorem Aj2:(B.env F).own 69 xs=false:=rfl
theorem AhB:(B.env F).own 70 xs=true:=rfl
theorem Aiv:(B.env F).own 71 xs=false:=rfl
theorem AiX:(B.env F).own 72 xs=false:=rfl
theorem Ais:(B.env F).own 73 xs=false:=rfl
theorem Ahz:(B.env F).own 75 xs=false:=rfl
theorem Ajz:(B.env F).own 76 xs=false:=rfl
theorem Aic:(B.env F).own 77 xs=false:=rfl
theorem Aip:(B.env F).own 78 xs=true:=rfl
theorem AiN:(B.env F).own 79 xs=false:=rfl
theorem Aie:(B.env F).own 80 xs=false:=rfl
theorem Aiz:(B.env F).own 81 xs=false:=rfl
theorem Ahf:(B.env F).own 82 xs=false:=rfl
theorem Aib:(B.env F).own 83 xs=false:=rfl
theorem AiI:(B.env F).own 84 xs=false:=rfl
theorem AhG:(B.env F).own 85 xs=true:=rfl
theorem AhW:(B.env F).own 86 xs=true:=rfl
theorem Aha:(B.env F).own 87 xs=false:=rfl
theorem Ah5:(B.env F).own 88 xs=true:=rfl
theorem AjO:(B.env F).own 89 xs=false:=rfl
theorem AiQ:(B.env F).own 90 xs=false:=rfl
theorem Ai9:(B.env F).own 91 xs=false:=rfl
theorem AjG:(B.env F).own 92 xs=true:=rfl
theorem AhA:(B.env F).own 93 xs=true:=rfl
theorem Ai7:(B.env F).own 94 xs=false:=rfl
theorem AhS:(B.env F).own 95 xs=false:=rfl
theorem AjM:(B.env F).own 96 xs=false:=rfl
theorem Ah1:(B.env F).own 97 xs=true:=rfl
theorem AiW:(B.env F).own 98 xs=true:=rfl
theorem Ajl:(B.env F).own 99 xs=true:=rfl
theorem Af5:(B.env F).own 100 xs=true:=rfl
theorem AfP:(B.env F).own 101 xs=true:=rfl
theorem Ags:(B.env F).own 102 xs=true:=rfl
theorem AeV:(B.env F).own 103 xs=true:=rfl
theorem AfJ:(B.env F).own 104 xs=false:=rfl
theorem MB:Tryd.prog.follows .mixedOrders=true:=by kernel_rfl
structure Akn where
  Za:Int
  Zb:Int
  Zc:Int
  deriving DecidableEq,Inhabited
def Ag(x:Akn):List AV:=[i64 x.Za,i64 x.Zb,i64 x.Zc]
structure Ako where
  A:Int
  B:Int
  Zb:Int
  Zd:Int
  Km:Int
  deriving DecidableEq,Inhabited
def Am(x:Ako):List AV:=[i64 x.A,i64 x.B,i64 x.Zb,i64 x.Zd,i64 x.Km]
structure Akp where
  Ze:List Akn
  Zf:List Ako
  deriving DecidableEq,Inhabited
def KW(x:Akp):List AV:=[.sl false (L Ag x.Ze),.sl false (L Am x.Zf)]
structure Akq where
  Zg:Int
  Zh:Int
  Zi:Int
  Zj:Int
  Zk:Int
  Zl:UInt64
  Zm:Int
  Zn:Int
  deriving DecidableEq,Inhabited
def Ab(x:Akq):List AV:=[i64 x.Zg,i64 x.Zh,i64 x.Zi,i64 x.Zj,i64 x.Zk,u64 x.Zl,i64 x.Zm,i64 x.Zn]
structure Akr where
  Zo:Int
  Zp:Int
  Zq:Int
  Zr:Int
  Zs:Int
  deriving DecidableEq,Inhabited
def Ae(x:Akr):List AV:=[i64 x.Zo,i64 x.Zp,i64 x.Zq,i64 x.Zr,i64 x.Zs]
structure Aks where
  Zt:Int
  Zu:Int
  Zv:Int
  deriving DecidableEq,Inhabited
def Ai(x:Aks):List AV:=[i64 x.Zt,i64 x.Zu,i64 x.Zv]
structure Akt where
  Zw:Int
  To:Int
  Zd:Int
  deriving DecidableEq,Inhabited
def Ah(x:Akt):List AV:=[i64 x.Zw,i64 x.To,i64 x.Zd]
structure Aku where
  Zx:List Akq
  Zy:List Akr
  Zz:List Aks
  Za1:List Akt
  deriving DecidableEq,Inhabited
def Oh(x:Aku):List AV:=[.sl false (L Ab x.Zx),.sl false (L Ae x.Zy),.sl false (L Ai x.Zz),.sl false (L Ah x.Za1)]
structure Akv where
  Zb1:Int
  Low:Int
  Zc1:Int
  deriving DecidableEq,Inhabited
def Af(x:Akv):List AV:=[i64 x.Zb1,i64 x.Low,i64 x.Zc1]
structure Akw where
  Zb1:Int
  deriving DecidableEq,Inhabited
def Ad(x:Akw):List AV:=[i64 x.Zb1]
structure Akx where
  Zw:Int
  To:Int
  deriving DecidableEq,Inhabited
def JA(x:Akx):List AV:=[i64 x.Zw,i64 x.To]
structure Aky where
  Zd1:(Akx×Akx×Akx×Akx×Akx×Akx×Akx)
  Ze1:List Int
  deriving DecidableEq,Inhabited
def JC(x:Aky):List AV:=[i64 x.Zd1.1.Zw,i64 x.Zd1.1.To,i64 x.Zd1.2.1.Zw,i64 x.Zd1.2.1.To,i64 x.Zd1.2.2.1.Zw,i64 x.Zd1.2.2.1.To,i64 x.Zd1.2.2.2.1.Zw,i64 x.Zd1.2.2.2.1.To,i64 x.Zd1.2.2.2.2.1.Zw,i64 x.Zd1.2.2.2.2.1.To,i64 x.Zd1.2.2.2.2.2.1.Zw,i64 x.Zd1.2.2.2.2.2.1.To,i64 x.Zd1.2.2.2.2.2.2.Zw,i64 x.Zd1.2.2.2.2.2.2.To,.sl false (L Iy x.Ze1)]
structure Akz where
  Key:UInt64
  Zf1:Aky
  deriving DecidableEq,Inhabited
def Ac(x:Akz):List AV:=[u64 x.Key,i64 x.Zf1.Zd1.1.Zw,i64 x.Zf1.Zd1.1.To,i64 x.Zf1.Zd1.2.1.Zw,i64 x.Zf1.Zd1.2.1.To,i64 x.Zf1.Zd1.2.2.1.Zw,i64 x.Zf1.Zd1.2.2.1.To,i64 x.Zf1.Zd1.2.2.2.1.Zw,i64 x.Zf1.Zd1.2.2.2.1.To,i64 x.Zf1.Zd1.2.2.2.2.1.Zw,i64 x.Zf1.Zd1.2.2.2.2.1.To,i64 x.Zf1.Zd1.2.2.2.2.2.1.Zw,i64 x.Zf1.Zd1.2.2.2.2.2.1.To,i64 x.Zf1.Zd1.2.2.2.2.2.2.Zw,i64 x.Zf1.Zd1.2.2.2.2.2.2.To,.sl false (L Iy x.Zf1.Ze1)]
structure AkA where
  Zg1:Akp
  Zh1:Aku
  Zi1:List Akv
  Zj1:List Akw
  Zk1:List Akz
  deriving DecidableEq,Inhabited
def Av(x:AkA):List AV:=[.sl false (L Ag x.Zg1.Ze),.sl false (L Am x.Zg1.Zf),.sl false (L Ab x.Zh1.Zx),.sl false (L Ae x.Zh1.Zy),.sl false (L Ai x.Zh1.Zz),.sl false (L Ah x.Zh1.Za1),.sl false (L Af x.Zi1),.sl false (L Ad x.Zj1),.sl false (L Ac x.Zk1)]
structure AkB where
  Zb:Int
  No:Int
  deriving DecidableEq,Inhabited
def UE(x:AkB):List AV:=[i64 x.Zb,i64 x.No]
structure AkC where
  Za:Int
  Zl1:Int
  Zm1:Bool
  deriving DecidableEq,Inhabited
def Aj(x:AkC):List AV:=[i64 x.Za,i64 x.Zl1,.bool x.Zm1]
structure AkD where
  Za:Int
  Ref:AkB
  Zn1:Int
  Zb1:Int
  Zc:Int
  Zo1:Int
  Zw:Int
  To:Int
  Code:Int
  Zp1:Int
  Zq1:Int
  Zr1:Int
  Zs1:Int
  Zt1:List UInt8
  Zu1:List AkC
  deriving DecidableEq,Inhabited
def A2(x:AkD):List AV:=[i64 x.Za,i64 x.Ref.Zb,i64 x.Ref.No,i64 x.Zn1,i64 x.Zb1,i64 x.Zc,i64 x.Zo1,i64 x.Zw,i64 x.To,i64 x.Code,i64 x.Zp1,i64 x.Zq1,i64 x.Zr1,i64 x.Zs1,.str x.Zt1,.sl false (L Aj x.Zu1)]
structure AkE where
  C:UInt64
  S:UInt64
  deriving DecidableEq,Inhabited
def OE(x:AkE):List AV:=[u64 x.C,u64 x.S]
structure AkF where
  Zb:Int
  No:Int
  Zv1:Arr UInt8 32
  Zw1:Int
  Zx1:AkD
  Sig:AkE
  deriving DecidableEq,Inhabited
def Ak(x:AkF):List AV:=(i64 x.Zb::i64 x.No::(C1 u8 x.Zv1.l++[i64 x.Zw1,i64 x.Zx1.Za,i64 x.Zx1.Ref.Zb,i64 x.Zx1.Ref.No,i64 x.Zx1.Zn1,i64 x.Zx1.Zb1,i64 x.Zx1.Zc,i64 x.Zx1.Zo1,i64 x.Zx1.Zw,i64 x.Zx1.To,i64 x.Zx1.Code,i64 x.Zx1.Zp1,i64 x.Zx1.Zq1,i64 x.Zx1.Zr1,i64 x.Zx1.Zs1,.str x.Zx1.Zt1,.sl false (L Aj x.Zx1.Zu1),u64 x.Sig.C,u64 x.Sig.S]))
structure AkG where
  A:AkF
  B:AkF
  deriving DecidableEq,Inhabited
def Aw(x:AkG):List AV:=(i64 x.A.Zb::i64 x.A.No::(C1 u8 x.A.Zv1.l++i64 x.A.Zw1::i64 x.A.Zx1.Za::i64 x.A.Zx1.Ref.Zb::i64 x.A.Zx1.Ref.No::i64 x.A.Zx1.Zn1::i64 x.A.Zx1.Zb1::i64 x.A.Zx1.Zc::i64 x.A.Zx1.Zo1::i64 x.A.Zx1.Zw::i64 x.A.Zx1.To::i64 x.A.Zx1.Code::i64 x.A.Zx1.Zp1::i64 x.A.Zx1.Zq1::i64 x.A.Zx1.Zr1::i64 x.A.Zx1.Zs1::.str x.A.Zx1.Zt1::.sl false (L Aj x.A.Zx1.Zu1)::u64 x.A.Sig.C::u64 x.A.Sig.S::i64 x.B.Zb::i64 x.B.No::(C1 u8 x.B.Zv1.l++[i64 x.B.Zw1,i64 x.B.Zx1.Za,i64 x.B.Zx1.Ref.Zb,i64 x.B.Zx1.Ref.No,i64 x.B.Zx1.Zn1,i64 x.B.Zx1.Zb1,i64 x.B.Zx1.Zc,i64 x.B.Zx1.Zo1,i64 x.B.Zx1.Zw,i64 x.B.Zx1.To,i64 x.B.Zx1.Code,i64 x.B.Zx1.Zp1,i64 x.B.Zx1.Zq1,i64 x.B.Zx1.Zr1,i64 x.B.Zx1.Zs1,.str x.B.Zx1.Zt1,.sl false (L Aj x.B.Zx1.Zu1),u64 x.B.Sig.C,u64 x.B.Sig.S])))
structure AkH where
  Zy1:List (List AkF)
  Zz1:List AkG
  deriving DecidableEq,Inhabited
def An(x:AkH):List AV:=[.sl false (L (cSl Ak) x.Zy1),.sl false (L Aw x.Zz1)]
inductive AkI where
  |mk (Za:Int) (N:Int) (B:List UInt8) (L:List AkI)
instance:Inhabited AkI:=⟨.mk default default default default⟩
def AkI.Za(x:AkI):Int:=match x with
 |.mk a _ _ _=>a
theorem NJ{x0:Int}{x1:Int}{x2:List UInt8}{x3:List AkI}:(AkI.mk x0 x1 x2 x3).Za=x0:=rfl
def AkI.N(x:AkI):Int:=match x with
 |.mk _ a _ _=>a
theorem SX{x0:Int}{x1:Int}{x2:List UInt8}{x3:List AkI}:(AkI.mk x0 x1 x2 x3).N=x1:=rfl
def AkI.B(x:AkI):List UInt8:=match x with
 |.mk _ _ a _=>a
theorem RU{x0:Int}{x1:Int}{x2:List UInt8}{x3:List AkI}:(AkI.mk x0 x1 x2 x3).B=x2:=rfl
def AkI.L(x:AkI):List AkI:=match x with
 |.mk _ _ _ a=>a
theorem S2{x0:Int}{x1:Int}{x2:List UInt8}{x3:List AkI}:(AkI.mk x0 x1 x2 x3).L=x3:=rfl
noncomputable def cApi_Value(v:AkI):List AV:=AkI.rec (motive_1:=fun _=>List AV) (motive_2:=fun _=>List (List AV)) (fun Kind_ N_ B_ L_ ih3=>[i64 Kind_,i64 N_,.sl false (L cU8 B_),.sl false ih3]) [] (fun _ _ x l=>x::l) v
theorem Qb(l:List AkI):AkI.rec_1 (motive_1:=fun _=>List AV) (motive_2:=fun _=>List (List AV)) (fun Kind_ N_ B_ L_ ih3=>[i64 Kind_,i64 N_,.sl false (L cU8 B_),.sl false ih3]) [] (fun _ _ x l=>x::l) l=L cApi_Value l:=by
 induction l with
 |nil=>rfl
 |cons x l ih=>exact Amf (cApi_Value x::·) ih
theorem Jg(x:AkI):cApi_Value x=[i64 x.Za,i64 x.N,.sl false (L cU8 x.B),.sl false (L cApi_Value x.L)]:=by
  cases x with
  | mk a0 a1 a2 a3=>
    show[i64 a0,i64 a1,.sl false (L cU8 a2),.sl false (AkI.rec_1 (motive_1:=fun _=>List AV) (motive_2:=fun _=>List (List AV)) (fun Kind_ N_ B_ L_ ih3=>[i64 Kind_,i64 N_,.sl false (L cU8 B_),.sl false ih3]) [] (fun _ _ x l=>x::l) a3)]=_;rw[Qb];rfl
structure AkJ where
  p:AkA
  it:AkD
  ok:Bool
  deriving DecidableEq,Inhabited
def QC(x:AkJ):List AV:=[.sl false (L Ag x.p.Zg1.Ze),.sl false (L Am x.p.Zg1.Zf),.sl false (L Ab x.p.Zh1.Zx),.sl false (L Ae x.p.Zh1.Zy),.sl false (L Ai x.p.Zh1.Zz),.sl false (L Ah x.p.Zh1.Za1),.sl false (L Af x.p.Zi1),.sl false (L Ad x.p.Zj1),.sl false (L Ac x.p.Zk1),i64 x.it.Za,i64 x.it.Ref.Zb,i64 x.it.Ref.No,i64 x.it.Zn1,i64 x.it.Zb1,i64 x.it.Zc,i64 x.it.Zo1,i64 x.it.Zw,i64 x.it.To,i64 x.it.Code,i64 x.it.Zp1,i64 x.it.Zq1,i64 x.it.Zr1,i64 x.it.Zs1,.str x.it.Zt1,.sl false (L Aj x.it.Zu1),.bool x.ok]
structure AkK where
  Ref:AkB
  By:AkB
  Zw1:Int
  Zx1:AkD
  deriving DecidableEq,Inhabited
def A1(x:AkK):List AV:=[i64 x.Ref.Zb,i64 x.Ref.No,i64 x.By.Zb,i64 x.By.No,i64 x.Zw1,i64 x.Zx1.Za,i64 x.Zx1.Ref.Zb,i64 x.Zx1.Ref.No,i64 x.Zx1.Zn1,i64 x.Zx1.Zb1,i64 x.Zx1.Zc,i64 x.Zx1.Zo1,i64 x.Zx1.Zw,i64 x.Zx1.To,i64 x.Zx1.Code,i64 x.Zx1.Zp1,i64 x.Zx1.Zq1,i64 x.Zx1.Zr1,i64 x.Zx1.Zs1,.str x.Zx1.Zt1,.sl false (L Aj x.Zx1.Zu1)]
theorem tt3:Bp Tryd.prog 3=some ⟨.int .i64,1,8,[i64 0]⟩:=by kernel_rfl
theorem tb3(F:Out):(B.env F).tab 3=some ⟨.int .i64,1,8,[i64 0]⟩:=(Az Tryd.prog 3).trans tt3
theorem tt4:Bp Tryd.prog 4=some ⟨.bool,1,1,[.bool false]⟩:=by kernel_rfl
theorem tb4(F:Out):(B.env F).tab 4=some ⟨.bool,1,1,[.bool false]⟩:=(Az Tryd.prog 4).trans tt4
theorem tt5:Bp Tryd.prog 5=some ⟨.int .u8,1,1,[u8 ((0:UInt8))]⟩:=by kernel_rfl
theorem tb5(F:Out):(B.env F).tab 5=some ⟨.int .u8,1,1,[u8 ((0:UInt8))]⟩:=(Az Tryd.prog 5).trans tt5
theorem tt9:Bp Tryd.prog 9=some ⟨.string,1,16,[.str (([]:List UInt8))]⟩:=by kernel_rfl
theorem tb9(F:Out):(B.env F).tab 9=some ⟨.string,1,16,[.str (([]:List UInt8))]⟩:=(Az Tryd.prog 9).trans tt9
theorem tt22:Bp Tryd.prog 22=some ⟨.slice 127,1,24,[.sl true (L Ag ([]))]⟩:=by kernel_rfl
theorem tb22(F:Out):(B.env F).tab 22=some ⟨.slice 127,1,24,[.sl true (L Ag ([]))]⟩:=(Az Tryd.prog 22).trans tt22
theorem tt23:Bp Tryd.prog 23=some ⟨.slice 129,1,24,[.sl true (L Am ([]))]⟩:=by kernel_rfl
theorem tb23(F:Out):(B.env F).tab 23=some ⟨.slice 129,1,24,[.sl true (L Am ([]))]⟩:=(Az Tryd.prog 23).trans tt23
theorem tt25:Bp Tryd.prog 25=some ⟨.struct #[⟨"Places", 22,0,false,"","", 0⟩,⟨"Edges", 23,1,false,"","", 24⟩],2,48,[.sl true (L Ag ([])),.sl true (L Am ([]))]⟩:=by kernel_rfl
theorem tb25(F:Out):(B.env F).tab 25=some ⟨.struct #[⟨"Places", 22,0,false,"","", 0⟩,⟨"Edges", 23,1,false,"","", 24⟩],2,48,[.sl true (L Ag ([])),.sl true (L Am ([]))]⟩:=(Az Tryd.prog 25).trans tt25
theorem tt26:Bp Tryd.prog 26=some ⟨.slice 131,1,24,[.sl true (L Ab ([]))]⟩:=by kernel_rfl
theorem tb26(F:Out):(B.env F).tab 26=some ⟨.slice 131,1,24,[.sl true (L Ab ([]))]⟩:=(Az Tryd.prog 26).trans tt26
theorem tt27:Bp Tryd.prog 27=some ⟨.slice 133,1,24,[.sl true (L Ae ([]))]⟩:=by kernel_rfl
theorem tb27(F:Out):(B.env F).tab 27=some ⟨.slice 133,1,24,[.sl true (L Ae ([]))]⟩:=(Az Tryd.prog 27).trans tt27
theorem tt28:Bp Tryd.prog 28=some ⟨.slice 167,1,24,[.sl true (L Ai ([]))]⟩:=by kernel_rfl
theorem tb28(F:Out):(B.env F).tab 28=some ⟨.slice 167,1,24,[.sl true (L Ai ([]))]⟩:=(Az Tryd.prog 28).trans tt28
theorem tt29:Bp Tryd.prog 29=some ⟨.slice 171,1,24,[.sl true (L Ah ([]))]⟩:=by kernel_rfl
theorem tb29(F:Out):(B.env F).tab 29=some ⟨.slice 171,1,24,[.sl true (L Ah ([]))]⟩:=(Az Tryd.prog 29).trans tt29
theorem tt31:Bp Tryd.prog 31=some ⟨.struct #[⟨"Types", 26,0,false,"","", 0⟩,⟨"Wagons", 27,1,false,"","", 24⟩,⟨"Swaps", 28,2,false,"","", 48⟩,⟨"Washes", 29,3,false,"","", 72⟩],4,96,[.sl true (L Ab ([])),.sl true (L Ae ([])),.sl true (L Ai ([])),.sl true (L Ah ([]))]⟩:=by kernel_rfl
theorem tb31(F:Out):(B.env F).tab 31=some ⟨.struct #[⟨"Types", 26,0,false,"","", 0⟩,⟨"Wagons", 27,1,false,"","", 24⟩,⟨"Swaps", 28,2,false,"","", 48⟩,⟨"Washes", 29,3,false,"","", 72⟩],4,96,[.sl true (L Ab ([])),.sl true (L Ae ([])),.sl true (L Ai ([])),.sl true (L Ah ([]))]⟩:=(Az Tryd.prog 31).trans tt31
theorem tt32:Bp Tryd.prog 32=some ⟨.slice 135,1,24,[.sl true (L Af ([]))]⟩:=by kernel_rfl
theorem tb32(F:Out):(B.env F).tab 32=some ⟨.slice 135,1,24,[.sl true (L Af ([]))]⟩:=(Az Tryd.prog 32).trans tt32
theorem tt33:Bp Tryd.prog 33=some ⟨.slice 137,1,24,[.sl true (L Ad ([]))]⟩:=by kernel_rfl
theorem tb33(F:Out):(B.env F).tab 33=some ⟨.slice 137,1,24,[.sl true (L Ad ([]))]⟩:=(Az Tryd.prog 33).trans tt33
theorem tt34:Bp Tryd.prog 34=some ⟨.slice 74,1,24,[.sl true (L Ac ([]))]⟩:=by kernel_rfl
theorem AgX(F:Out):(B.env F).tab 34=some ⟨.slice 74,1,24,[.sl true (L Ac ([]))]⟩:=(Az Tryd.prog 34).trans tt34
theorem tt36:Bp Tryd.prog 36=some ⟨.struct #[⟨"Network", 25,0,false,"","", 0⟩,⟨"Fleet", 31,2,false,"","", 48⟩,⟨"Readers", 32,6,false,"","", 144⟩,⟨"Shippers", 33,7,false,"","", 168⟩,⟨"Railways", 34,8,false,"","", 192⟩],9,216,[.sl true (L Ag ([])),.sl true (L Am ([])),.sl true (L Ab ([])),.sl true (L Ae ([])),.sl true (L Ai ([])),.sl true (L Ah ([])),.sl true (L Af ([])),.sl true (L Ad ([])),.sl true (L Ac ([]))]⟩:=by kernel_rfl
theorem tb36(F:Out):(B.env F).tab 36=some ⟨.struct #[⟨"Network", 25,0,false,"","", 0⟩,⟨"Fleet", 31,2,false,"","", 48⟩,⟨"Readers", 32,6,false,"","", 144⟩,⟨"Shippers", 33,7,false,"","", 168⟩,⟨"Railways", 34,8,false,"","", 192⟩],9,216,[.sl true (L Ag ([])),.sl true (L Am ([])),.sl true (L Ab ([])),.sl true (L Ae ([])),.sl true (L Ai ([])),.sl true (L Ah ([])),.sl true (L Af ([])),.sl true (L Ad ([])),.sl true (L Ac ([]))]⟩:=(Az Tryd.prog 36).trans tt36
theorem tt37:Bp Tryd.prog 37=some ⟨.slice 75,1,24,[.sl true (L (cSl Ak) ([]))]⟩:=by kernel_rfl
theorem Ad9(F:Out):(B.env F).tab 37=some ⟨.slice 75,1,24,[.sl true (L (cSl Ak) ([]))]⟩:=(Az Tryd.prog 37).trans tt37
theorem tt38:Bp Tryd.prog 38=some ⟨.slice 96,1,24,[.sl true (L Aw ([]))]⟩:=by kernel_rfl
theorem AgU(F:Out):(B.env F).tab 38=some ⟨.slice 96,1,24,[.sl true (L Aw ([]))]⟩:=(Az Tryd.prog 38).trans tt38
theorem tt40:Bp Tryd.prog 40=some ⟨.struct #[⟨"Logs", 37,0,false,"","", 0⟩,⟨"Forks", 38,1,false,"","", 24⟩],2,48,[.sl true (L (cSl Ak) ([])),.sl true (L Aw ([]))]⟩:=by kernel_rfl
theorem tb40(F:Out):(B.env F).tab 40=some ⟨.struct #[⟨"Logs", 37,0,false,"","", 0⟩,⟨"Forks", 38,1,false,"","", 24⟩],2,48,[.sl true (L (cSl Ak) ([])),.sl true (L Aw ([]))]⟩:=(Az Tryd.prog 40).trans tt40
theorem tt41:Bp Tryd.prog 41=some ⟨.int .u64,1,8,[u64 ((0:UInt64))]⟩:=by kernel_rfl
theorem AgM(F:Out):(B.env F).tab 41=some ⟨.int .u64,1,8,[u64 ((0:UInt64))]⟩:=(Az Tryd.prog 41).trans tt41
theorem tt43:Bp Tryd.prog 43=some ⟨.struct #[⟨"Railway", 3,0,false,"","", 0⟩,⟨"No", 3,1,false,"","", 8⟩],2,16,[i64 0,i64 0]⟩:=by kernel_rfl
theorem AiC(F:Out):(B.env F).tab 43=some ⟨.struct #[⟨"Railway", 3,0,false,"","", 0⟩,⟨"No", 3,1,false,"","", 8⟩],2,16,[i64 0,i64 0]⟩:=(Az Tryd.prog 43).trans tt43
theorem tt44:Bp Tryd.prog 44=some ⟨.slice 175,1,24,[.sl true (L Aj ([]))]⟩:=by kernel_rfl
theorem tb44(F:Out):(B.env F).tab 44=some ⟨.slice 175,1,24,[.sl true (L Aj ([]))]⟩:=(Az Tryd.prog 44).trans tt44
theorem tt46:Bp Tryd.prog 46=some ⟨.struct #[⟨"Kind", 3,0,false,"","", 0⟩,⟨"Ref", 43,1,false,"","", 8⟩,⟨"Wagon", 3,3,false,"","", 24⟩,⟨"Place", 3,4,false,"","", 32⟩,⟨"Other", 3,5,false,"","", 40⟩,⟨"Number", 3,6,false,"","", 48⟩,⟨"From", 3,7,false,"","", 56⟩,⟨"To", 3,8,false,"","", 64⟩,⟨"Code", 3,9,false,"","", 72⟩,⟨"Dest", 3,10,false,"","", 80⟩,⟨"Class", 3,11,false,"","", 88⟩,⟨"Weight", 3,12,false,"","", 96⟩,⟨"Amount", 3,13,false,"","", 104⟩,⟨"Text", 9,14,false,"","", 112⟩,⟨"Parts", 44,15,false,"","", 128⟩],16,152,[i64 0,i64 0,i64 0,i64 0,i64 0,i64 0,i64 0,i64 0,i64 0,i64 0,i64 0,i64 0,i64 0,i64 0,.str (([]:List UInt8)),.sl true (L Aj ([]))]⟩:=by kernel_rfl
theorem tb46(F:Out):(B.env F).tab 46=some ⟨.struct #[⟨"Kind", 3,0,false,"","", 0⟩,⟨"Ref", 43,1,false,"","", 8⟩,⟨"Wagon", 3,3,false,"","", 24⟩,⟨"Place", 3,4,false,"","", 32⟩,⟨"Other", 3,5,false,"","", 40⟩,⟨"Number", 3,6,false,"","", 48⟩,⟨"From", 3,7,false,"","", 56⟩,⟨"To", 3,8,false,"","", 64⟩,⟨"Code", 3,9,false,"","", 72⟩,⟨"Dest", 3,10,false,"","", 80⟩,⟨"Class", 3,11,false,"","", 88⟩,⟨"Weight", 3,12,false,"","", 96⟩,⟨"Amount", 3,13,false,"","", 104⟩,⟨"Text", 9,14,false,"","", 112⟩,⟨"Parts", 44,15,false,"","", 128⟩],16,152,[i64 0,i64 0,i64 0,i64 0,i64 0,i64 0,i64 0,i64 0,i64 0,i64 0,i64 0,i64 0,i64 0,i64 0,.str (([]:List UInt8)),.sl true (L Aj ([]))]⟩:=(Az Tryd.prog 46).trans tt46
theorem tt52:Bp Tryd.prog 52=some ⟨.array 32 5,32,32,(C1 u8 ((Arr.rep 32 (0:UInt8))).l)⟩:=by kernel_rfl
theorem AjZ(F:Out):(B.env F).tab 52=some ⟨.array 32 5,32,32,(C1 u8 ((Arr.rep 32 (0:UInt8))).l)⟩:=(Az Tryd.prog 52).trans tt52
theorem tt54:Bp Tryd.prog 54=some ⟨.struct #[⟨"C", 41,0,false,"","", 0⟩,⟨"S", 41,1,false,"","", 8⟩],2,16,[u64 ((0:UInt64)),u64 ((0:UInt64))]⟩:=by kernel_rfl
theorem tb54(F:Out):(B.env F).tab 54=some ⟨.struct #[⟨"C", 41,0,false,"","", 0⟩,⟨"S", 41,1,false,"","", 8⟩],2,16,[u64 ((0:UInt64)),u64 ((0:UInt64))]⟩:=(Az Tryd.prog 54).trans tt54
theorem tt56:Bp Tryd.prog 56=some ⟨.struct #[⟨"Railway", 3,0,false,"","", 0⟩,⟨"No", 3,1,false,"","", 8⟩,⟨"Prev", 52,2,false,"","", 16⟩,⟨"Time", 3,34,false,"","", 48⟩,⟨"Item", 46,35,false,"","", 56⟩,⟨"Sig", 54,51,false,"","", 208⟩],53,224,(i64 0::i64 0::(C1 u8 ((Arr.rep 32 (0:UInt8))).l++[i64 0,i64 0,i64 0,i64 0,i64 0,i64 0,i64 0,i64 0,i64 0,i64 0,i64 0,i64 0,i64 0,i64 0,i64 0,.str (([]:List UInt8)),.sl true (L Aj ([])),u64 ((0:UInt64)),u64 ((0:UInt64))]))⟩:=by kernel_rfl
theorem AjD(F:Out):(B.env F).tab 56=some ⟨.struct #[⟨"Railway", 3,0,false,"","", 0⟩,⟨"No", 3,1,false,"","", 8⟩,⟨"Prev", 52,2,false,"","", 16⟩,⟨"Time", 3,34,false,"","", 48⟩,⟨"Item", 46,35,false,"","", 56⟩,⟨"Sig", 54,51,false,"","", 208⟩],53,224,(i64 0::i64 0::(C1 u8 ((Arr.rep 32 (0:UInt8))).l++[i64 0,i64 0,i64 0,i64 0,i64 0,i64 0,i64 0,i64 0,i64 0,i64 0,i64 0,i64 0,i64 0,i64 0,i64 0,.str (([]:List UInt8)),.sl true (L Aj ([])),u64 ((0:UInt64)),u64 ((0:UInt64))]))⟩:=(Az Tryd.prog 56).trans tt56
theorem tt57:Bp Tryd.prog 57=some ⟨.int .i64,1,8,[i64 0]⟩:=by kernel_rfl
theorem tb57(F:Out):(B.env F).tab 57=some ⟨.int .i64,1,8,[i64 0]⟩:=(Az Tryd.prog 57).trans tt57
theorem tt63:Bp Tryd.prog 63=some ⟨.slice 5,1,24,[.sl true (L cU8 ([]))]⟩:=by kernel_rfl
theorem AbM(F:Out):(B.env F).tab 63=some ⟨.slice 5,1,24,[.sl true (L cU8 ([]))]⟩:=(Az Tryd.prog 63).trans tt63
theorem tt68:Bp Tryd.prog 68=some ⟨.struct #[⟨"From", 3,0,false,"","", 0⟩,⟨"To", 3,1,false,"","", 8⟩],2,16,[i64 0,i64 0]⟩:=by kernel_rfl
theorem tb68(F:Out):(B.env F).tab 68=some ⟨.struct #[⟨"From", 3,0,false,"","", 0⟩,⟨"To", 3,1,false,"","", 8⟩],2,16,[i64 0,i64 0]⟩:=(Az Tryd.prog 68).trans tt68
theorem tt69:Bp Tryd.prog 69=some ⟨.array 7 68,14,112,[i64 0,i64 0,i64 0,i64 0,i64 0,i64 0,i64 0,i64 0,i64 0,i64 0,i64 0,i64 0,i64 0,i64 0]⟩:=by kernel_rfl
theorem tb69(F:Out):(B.env F).tab 69=some ⟨.array 7 68,14,112,[i64 0,i64 0,i64 0,i64 0,i64 0,i64 0,i64 0,i64 0,i64 0,i64 0,i64 0,i64 0,i64 0,i64 0]⟩:=(Az Tryd.prog 69).trans tt69
theorem tt70:Bp Tryd.prog 70=some ⟨.slice 3,1,24,[.sl true (L Iy ([]))]⟩:=by kernel_rfl
theorem AhX(F:Out):(B.env F).tab 70=some ⟨.slice 3,1,24,[.sl true (L Iy ([]))]⟩:=(Az Tryd.prog 70).trans tt70
theorem tt72:Bp Tryd.prog 72=some ⟨.struct #[⟨"Open", 69,0,false,"","", 0⟩,⟨"Holidays", 70,14,false,"","", 112⟩],15,136,[i64 0,i64 0,i64 0,i64 0,i64 0,i64 0,i64 0,i64 0,i64 0,i64 0,i64 0,i64 0,i64 0,i64 0,.sl true (L Iy ([]))]⟩:=by kernel_rfl
theorem tb72(F:Out):(B.env F).tab 72=some ⟨.struct #[⟨"Open", 69,0,false,"","", 0⟩,⟨"Holidays", 70,14,false,"","", 112⟩],15,136,[i64 0,i64 0,i64 0,i64 0,i64 0,i64 0,i64 0,i64 0,i64 0,i64 0,i64 0,i64 0,i64 0,i64 0,.sl true (L Iy ([]))]⟩:=(Az Tryd.prog 72).trans tt72
theorem tt74:Bp Tryd.prog 74=some ⟨.struct #[⟨"Key", 41,0,false,"","", 0⟩,⟨"Calendar", 72,1,false,"","", 8⟩],16,144,[u64 ((0:UInt64)),i64 0,i64 0,i64 0,i64 0,i64 0,i64 0,i64 0,i64 0,i64 0,i64 0,i64 0,i64 0,i64 0,i64 0,.sl true (L Iy ([]))]⟩:=by kernel_rfl
theorem AhO(F:Out):(B.env F).tab 74=some ⟨.struct #[⟨"Key", 41,0,false,"","", 0⟩,⟨"Calendar", 72,1,false,"","", 8⟩],16,144,[u64 ((0:UInt64)),i64 0,i64 0,i64 0,i64 0,i64 0,i64 0,i64 0,i64 0,i64 0,i64 0,i64 0,i64 0,i64 0,i64 0,.sl true (L Iy ([]))]⟩:=(Az Tryd.prog 74).trans tt74
theorem tt75:Bp Tryd.prog 75=some ⟨.slice 56,1,24,[.sl true (L Ak ([]))]⟩:=by kernel_rfl
theorem Abm(F:Out):(B.env F).tab 75=some ⟨.slice 56,1,24,[.sl true (L Ak ([]))]⟩:=(Az Tryd.prog 75).trans tt75
theorem tt85:Bp Tryd.prog 85=some ⟨.slice 89,1,24,[.sl true (L A1 ([]))]⟩:=by kernel_rfl
theorem AhK(F:Out):(B.env F).tab 85=some ⟨.slice 89,1,24,[.sl true (L A1 ([]))]⟩:=(Az Tryd.prog 85).trans tt85
theorem tt89:Bp Tryd.prog 89=some ⟨.struct #[⟨"Ref", 43,0,false,"","", 0⟩,⟨"By", 43,2,false,"","", 16⟩,⟨"Time", 3,4,false,"","", 32⟩,⟨"Item", 46,5,false,"","", 40⟩],21,192,[i64 0,i64 0,i64 0,i64 0,i64 0,i64 0,i64 0,i64 0,i64 0,i64 0,i64 0,i64 0,i64 0,i64 0,i64 0,i64 0,i64 0,i64 0,i64 0,.str (([]:List UInt8)),.sl true (L Aj ([]))]⟩:=by kernel_rfl
theorem AhP(F:Out):(B.env F).tab 89=some ⟨.struct #[⟨"Ref", 43,0,false,"","", 0⟩,⟨"By", 43,2,false,"","", 16⟩,⟨"Time", 3,4,false,"","", 32⟩,⟨"Item", 46,5,false,"","", 40⟩],21,192,[i64 0,i64 0,i64 0,i64 0,i64 0,i64 0,i64 0,i64 0,i64 0,i64 0,i64 0,i64 0,i64 0,i64 0,i64 0,i64 0,i64 0,i64 0,i64 0,.str (([]:List UInt8)),.sl true (L Aj ([]))]⟩:=(Az Tryd.prog 89).trans tt89
theorem tt96:Bp Tryd.prog 96=some ⟨.struct #[⟨"A", 56,0,false,"","", 0⟩,⟨"B", 56,53,false,"","", 224⟩],106,448,(i64 0::i64 0::(C1 u8 ((Arr.rep 32 (0:UInt8))).l++i64 0::i64 0::i64 0::i64 0::i64 0::i64 0::i64 0::i64 0::i64 0::i64 0::i64 0::i64 0::i64 0::i64 0::i64 0::.str (([]:List UInt8))::.sl true (L Aj ([]))::u64 ((0:UInt64))::u64 ((0:UInt64))::i64 0::i64 0::(C1 u8 ((Arr.rep 32 (0:UInt8))).l++[i64 0,i64 0,i64 0,i64 0,i64 0,i64 0,i64 0,i64 0,i64 0,i64 0,i64 0,i64 0,i64 0,i64 0,i64 0,.str (([]:List UInt8)),.sl true (L Aj ([])),u64 ((0:UInt64)),u64 ((0:UInt64))])))⟩:=by kernel_rfl
theorem AiG(F:Out):(B.env F).tab 96=some ⟨.struct #[⟨"A", 56,0,false,"","", 0⟩,⟨"B", 56,53,false,"","", 224⟩],106,448,(i64 0::i64 0::(C1 u8 ((Arr.rep 32 (0:UInt8))).l++i64 0::i64 0::i64 0::i64 0::i64 0::i64 0::i64 0::i64 0::i64 0::i64 0::i64 0::i64 0::i64 0::i64 0::i64 0::.str (([]:List UInt8))::.sl true (L Aj ([]))::u64 ((0:UInt64))::u64 ((0:UInt64))::i64 0::i64 0::(C1 u8 ((Arr.rep 32 (0:UInt8))).l++[i64 0,i64 0,i64 0,i64 0,i64 0,i64 0,i64 0,i64 0,i64 0,i64 0,i64 0,i64 0,i64 0,i64 0,i64 0,.str (([]:List UInt8)),.sl true (L Aj ([])),u64 ((0:UInt64)),u64 ((0:UInt64))])))⟩:=(Az Tryd.prog 96).trans tt96
theorem AjV:Bp Tryd.prog 110=some ⟨.slice 112,1,24,[.sl true (L cApi_Value ([]))]⟩:=by kernel_rfl
theorem Yy(F:Out):(B.env F).tab 110=some ⟨.slice 112,1,24,[.sl true (L cApi_Value ([]))]⟩:=(Az Tryd.prog 110).trans AjV
theorem Ahh:Bp Tryd.prog 112=some ⟨.struct #[⟨"Kind", 3,0,false,"","", 0⟩,⟨"N", 3,1,false,"","", 8⟩,⟨"B", 63,2,false,"","", 16⟩,⟨"L", 110,3,false,"","", 40⟩],4,64,[i64 0,i64 0,.sl true (L cU8 ([])),.sl true (L cApi_Value ([]))]⟩:=by kernel_rfl
theorem AcR(F:Out):(B.env F).tab 112=some ⟨.struct #[⟨"Kind", 3,0,false,"","", 0⟩,⟨"N", 3,1,false,"","", 8⟩,⟨"B", 63,2,false,"","", 16⟩,⟨"L", 110,3,false,"","", 40⟩],4,64,[i64 0,i64 0,.sl true (L cU8 ([])),.sl true (L cApi_Value ([]))]⟩:=(Az Tryd.prog 112).trans Ahh
theorem Ajg:Bp Tryd.prog 119=some ⟨.map 43 89,1,8,[.val (.map none)]⟩:=by kernel_rfl
theorem Aiq(F:Out):(B.env F).tab 119=some ⟨.map 43 89,1,8,[.val (.map none)]⟩:=(Az Tryd.prog 119).trans Ajg
theorem Ajo:Bp Tryd.prog 127=some ⟨.struct #[⟨"Kind", 3,0,false,"","", 0⟩,⟨"Railway", 3,1,false,"","", 8⟩,⟨"Other", 3,2,false,"","", 16⟩],3,24,[i64 0,i64 0,i64 0]⟩:=by kernel_rfl
theorem Aem(F:Out):(B.env F).tab 127=some ⟨.struct #[⟨"Kind", 3,0,false,"","", 0⟩,⟨"Railway", 3,1,false,"","", 8⟩,⟨"Other", 3,2,false,"","", 16⟩],3,24,[i64 0,i64 0,i64 0]⟩:=(Az Tryd.prog 127).trans Ajo
theorem Ai5:Bp Tryd.prog 129=some ⟨.struct #[⟨"A", 3,0,false,"","", 0⟩,⟨"B", 3,1,false,"","", 8⟩,⟨"Railway", 3,2,false,"","", 16⟩,⟨"Minutes", 3,3,false,"","", 24⟩,⟨"Km", 3,4,false,"","", 32⟩],5,40,[i64 0,i64 0,i64 0,i64 0,i64 0]⟩:=by kernel_rfl
theorem Afv(F:Out):(B.env F).tab 129=some ⟨.struct #[⟨"A", 3,0,false,"","", 0⟩,⟨"B", 3,1,false,"","", 8⟩,⟨"Railway", 3,2,false,"","", 16⟩,⟨"Minutes", 3,3,false,"","", 24⟩,⟨"Km", 3,4,false,"","", 32⟩],5,40,[i64 0,i64 0,i64 0,i64 0,i64 0]⟩:=(Az Tryd.prog 129).trans Ai5
theorem AiH:Bp Tryd.prog 131=some ⟨.struct #[⟨"Load", 3,0,false,"","", 0⟩,⟨"Tare", 3,1,false,"","", 8⟩,⟨"Length", 3,2,false,"","", 16⟩,⟨"Gauge", 3,3,false,"","", 24⟩,⟨"Brake", 3,4,false,"","", 32⟩,⟨"Classes", 41,5,false,"","", 40⟩,⟨"Life", 3,6,false,"","", 48⟩,⟨"Floor", 3,7,false,"","", 56⟩],8,64,[i64 0,i64 0,i64 0,i64 0,i64 0,u64 ((0:UInt64)),i64 0,i64 0]⟩:=by kernel_rfl
theorem Afi(F:Out):(B.env F).tab 131=some ⟨.struct #[⟨"Load", 3,0,false,"","", 0⟩,⟨"Tare", 3,1,false,"","", 8⟩,⟨"Length", 3,2,false,"","", 16⟩,⟨"Gauge", 3,3,false,"","", 24⟩,⟨"Brake", 3,4,false,"","", 32⟩,⟨"Classes", 41,5,false,"","", 40⟩,⟨"Life", 3,6,false,"","", 48⟩,⟨"Floor", 3,7,false,"","", 56⟩],8,64,[i64 0,i64 0,i64 0,i64 0,i64 0,u64 ((0:UInt64)),i64 0,i64 0]⟩:=(Az Tryd.prog 131).trans AiH
theorem Ag0:Bp Tryd.prog 133=some ⟨.struct #[⟨"Type", 3,0,false,"","", 0⟩,⟨"Owner", 3,1,false,"","", 8⟩,⟨"Home", 3,2,false,"","", 16⟩,⟨"Built", 3,3,false,"","", 24⟩,⟨"Worth", 3,4,false,"","", 32⟩],5,40,[i64 0,i64 0,i64 0,i64 0,i64 0]⟩:=by kernel_rfl
theorem Afb(F:Out):(B.env F).tab 133=some ⟨.struct #[⟨"Type", 3,0,false,"","", 0⟩,⟨"Owner", 3,1,false,"","", 8⟩,⟨"Home", 3,2,false,"","", 16⟩,⟨"Built", 3,3,false,"","", 24⟩,⟨"Worth", 3,4,false,"","", 32⟩],5,40,[i64 0,i64 0,i64 0,i64 0,i64 0]⟩:=(Az Tryd.prog 133).trans Ag0
theorem Ahn:Bp Tryd.prog 135=some ⟨.struct #[⟨"Place", 3,0,false,"","", 0⟩,⟨"Low", 3,1,false,"","", 8⟩,⟨"High", 3,2,false,"","", 16⟩],3,24,[i64 0,i64 0,i64 0]⟩:=by kernel_rfl
theorem Afu(F:Out):(B.env F).tab 135=some ⟨.struct #[⟨"Place", 3,0,false,"","", 0⟩,⟨"Low", 3,1,false,"","", 8⟩,⟨"High", 3,2,false,"","", 16⟩],3,24,[i64 0,i64 0,i64 0]⟩:=(Az Tryd.prog 135).trans Ahn
theorem AiT:Bp Tryd.prog 137=some ⟨.struct #[⟨"Place", 3,0,false,"","", 0⟩],1,8,[i64 0]⟩:=by kernel_rfl
theorem Afy(F:Out):(B.env F).tab 137=some ⟨.struct #[⟨"Place", 3,0,false,"","", 0⟩],1,8,[i64 0]⟩:=(Az Tryd.prog 137).trans AiT
theorem Ag1:Bp Tryd.prog 160=some ⟨.slice 63,1,24,[.sl true (L (cSl cU8) ([]))]⟩:=by kernel_rfl
theorem Aep(F:Out):(B.env F).tab 160=some ⟨.slice 63,1,24,[.sl true (L (cSl cU8) ([]))]⟩:=(Az Tryd.prog 160).trans Ag1
theorem Ail:Bp Tryd.prog 161=some ⟨.int .u32,1,4,[u32 ((0:UInt32))]⟩:=by kernel_rfl
theorem Aav(F:Out):(B.env F).tab 161=some ⟨.int .u32,1,4,[u32 ((0:UInt32))]⟩:=(Az Tryd.prog 161).trans Ail
theorem AjT:Bp Tryd.prog 162=some ⟨.array 8 161,8,32,(C1 u32 ((Arr.rep 8 (0:UInt32))).l)⟩:=by kernel_rfl
theorem Aez(F:Out):(B.env F).tab 162=some ⟨.array 8 161,8,32,(C1 u32 ((Arr.rep 8 (0:UInt32))).l)⟩:=(Az Tryd.prog 162).trans AjT
theorem AiS:Bp Tryd.prog 167=some ⟨.struct #[⟨"Wanted", 3,0,false,"","", 0⟩,⟨"Given", 3,1,false,"","", 8⟩,⟨"Cost", 3,2,false,"","", 16⟩],3,24,[i64 0,i64 0,i64 0]⟩:=by kernel_rfl
theorem Aev(F:Out):(B.env F).tab 167=some ⟨.struct #[⟨"Wanted", 3,0,false,"","", 0⟩,⟨"Given", 3,1,false,"","", 8⟩,⟨"Cost", 3,2,false,"","", 16⟩],3,24,[i64 0,i64 0,i64 0]⟩:=(Az Tryd.prog 167).trans AiS
theorem Ag9:Bp Tryd.prog 168=some ⟨.array 64 4,64,64,(C1 AV.bool ((Arr.rep 64 false)).l)⟩:=Ot (by kernel_rfl) (by kernel_rfl)
theorem AbP(F:Out):(B.env F).tab 168=some ⟨.array 64 4,64,64,(C1 AV.bool ((Arr.rep 64 false)).l)⟩:=(Az Tryd.prog 168).trans Ag9
theorem Ajb:Bp Tryd.prog 169=some ⟨.array 64 168,4096,4096,(C1 AV.bool ((Arr.rep 4096 false)).l)⟩:=Ot (by kernel_rfl) (by kernel_rfl)
theorem Afn(F:Out):(B.env F).tab 169=some ⟨.array 64 168,4096,4096,(C1 AV.bool ((Arr.rep 4096 false)).l)⟩:=(Az Tryd.prog 169).trans Ajb
theorem AhL:Bp Tryd.prog 171=some ⟨.struct #[⟨"From", 3,0,false,"","", 0⟩,⟨"To", 3,1,false,"","", 8⟩,⟨"Minutes", 3,2,false,"","", 16⟩],3,24,[i64 0,i64 0,i64 0]⟩:=by kernel_rfl
theorem AfA(F:Out):(B.env F).tab 171=some ⟨.struct #[⟨"From", 3,0,false,"","", 0⟩,⟨"To", 3,1,false,"","", 8⟩,⟨"Minutes", 3,2,false,"","", 16⟩],3,24,[i64 0,i64 0,i64 0]⟩:=(Az Tryd.prog 171).trans AhL
theorem Ahb:Bp Tryd.prog 172=some ⟨.int .u64,1,8,[u64 ((0:UInt64))]⟩:=by kernel_rfl
theorem Ahl(F:Out):(B.env F).tab 172=some ⟨.int .u64,1,8,[u64 ((0:UInt64))]⟩:=(Az Tryd.prog 172).trans Ahb
theorem Air:Bp Tryd.prog 173=some ⟨.slice 41,1,24,[.sl true (L Pi ([]))]⟩:=by kernel_rfl
theorem AfU(F:Out):(B.env F).tab 173=some ⟨.slice 41,1,24,[.sl true (L Pi ([]))]⟩:=(Az Tryd.prog 173).trans Air
theorem Ahd:Bp Tryd.prog 175=some ⟨.struct #[⟨"Kind", 3,0,false,"","", 0⟩,⟨"Serial", 3,1,false,"","", 8⟩,⟨"Fitted", 4,2,false,"","", 16⟩],3,24,[i64 0,i64 0,.bool false]⟩:=by kernel_rfl
theorem Acf(F:Out):(B.env F).tab 175=some ⟨.struct #[⟨"Kind", 3,0,false,"","", 0⟩,⟨"Serial", 3,1,false,"","", 8⟩,⟨"Fitted", 4,2,false,"","", 16⟩],3,24,[i64 0,i64 0,.bool false]⟩:=(Az Tryd.prog 175).trans Ahd
theorem AhJ:Bp Tryd.prog 180=some ⟨.pointer 3,1,8,[.val (.pointer none)]⟩:=by kernel_rfl
theorem AfL(F:Out):(B.env F).tab 180=some ⟨.pointer 3,1,8,[.val (.pointer none)]⟩:=(Az Tryd.prog 180).trans AhJ
theorem Ain:Bp Tryd.prog 181=some ⟨.array 11 180,11,88,[.val (.pointer none),.val (.pointer none),.val (.pointer none),.val (.pointer none),.val (.pointer none),.val (.pointer none),.val (.pointer none),.val (.pointer none),.val (.pointer none),.val (.pointer none),.val (.pointer none)]⟩:=by kernel_rfl
theorem Afa(F:Out):(B.env F).tab 181=some ⟨.array 11 180,11,88,[.val (.pointer none),.val (.pointer none),.val (.pointer none),.val (.pointer none),.val (.pointer none),.val (.pointer none),.val (.pointer none),.val (.pointer none),.val (.pointer none),.val (.pointer none),.val (.pointer none)]⟩:=(Az Tryd.prog 181).trans Ain
theorem Ajr:Bp Tryd.prog 188=some ⟨.array 64 161,64,256,(C1 u32 ((Arr.rep 64 (0:UInt32))).l)⟩:=by kernel_rfl
theorem Ab3(F:Out):(B.env F).tab 188=some ⟨.array 64 161,64,256,(C1 u32 ((Arr.rep 64 (0:UInt32))).l)⟩:=(Az Tryd.prog 188).trans Ajr
theorem Ah8:Bp Tryd.prog 192=some ⟨.struct #[⟨"p", 36,0,false,"","wagonpool/edi", 0⟩,⟨"it", 46,9,false,"","wagonpool/edi", 216⟩,⟨"ok", 4,25,false,"","wagonpool/edi", 368⟩],26,376,[.sl true (L Ag ([])),.sl true (L Am ([])),.sl true (L Ab ([])),.sl true (L Ae ([])),.sl true (L Ai ([])),.sl true (L Ah ([])),.sl true (L Af ([])),.sl true (L Ad ([])),.sl true (L Ac ([])),i64 0,i64 0,i64 0,i64 0,i64 0,i64 0,i64 0,i64 0,i64 0,i64 0,i64 0,i64 0,i64 0,i64 0,.str (([]:List UInt8)),.sl true (L Aj ([])),.bool false]⟩:=by kernel_rfl
theorem Akj(F:Out):(B.env F).tab 192=some ⟨.struct #[⟨"p", 36,0,false,"","wagonpool/edi", 0⟩,⟨"it", 46,9,false,"","wagonpool/edi", 216⟩,⟨"ok", 4,25,false,"","wagonpool/edi", 368⟩],26,376,[.sl true (L Ag ([])),.sl true (L Am ([])),.sl true (L Ab ([])),.sl true (L Ae ([])),.sl true (L Ai ([])),.sl true (L Ah ([])),.sl true (L Af ([])),.sl true (L Ad ([])),.sl true (L Ac ([])),i64 0,i64 0,i64 0,i64 0,i64 0,i64 0,i64 0,i64 0,i64 0,i64 0,i64 0,i64 0,i64 0,i64 0,.str (([]:List UInt8)),.sl true (L Aj ([])),.bool false]⟩:=(Az Tryd.prog 192).trans Ah8
theorem Agf:AV.int .u32 0=u32 0:=rfl
theorem NT:AV.int .u32 528734635=u32 528734635:=rfl
theorem Mn:AV.int .u32 1013904242=u32 1013904242:=rfl
theorem Mm:AV.int .u32 1359893119=u32 1359893119:=rfl
theorem MY:AV.int .u32 1541459225=u32 1541459225:=rfl
theorem Nb:AV.int .u32 1779033703=u32 1779033703:=rfl
theorem MJ:AV.int .u32 2600822924=u32 2600822924:=rfl
theorem LW:AV.int .u32 2773480762=u32 2773480762:=rfl
theorem Nw:AV.int .u32 3144134277=u32 3144134277:=rfl
theorem AfR:AV.int .u64 0=u64 0:=rfl
theorem AeN:AV.int .u64 1=u64 1:=rfl
theorem Agy:AV.int .u64 2=u64 2:=rfl
theorem Agt:AV.int .u64 3=u64 3:=rfl
theorem Agj:AV.int .u64 4=u64 4:=rfl
theorem Agz:AV.int .u64 7=u64 7:=rfl
theorem Agb:AV.int .u64 8=u64 8:=rfl
theorem AbC:AV.int .u64 10=u64 10:=rfl
theorem AdF:AV.int .u64 16=u64 16:=rfl
theorem AdY:AV.int .u64 24=u64 24:=rfl
theorem AbO:AV.int .u64 31=u64 31:=rfl
theorem AcK:AV.int .u64 32=u64 32:=rfl
theorem Adu:AV.int .u64 64=u64 64:=rfl
theorem Aaq:AV.int .u64 256=u64 256:=rfl
theorem Vk:AV.int .u64 65536=u64 65536:=rfl
theorem MA:AV.int .u64 4294967295=u64 4294967295:=rfl
theorem Mv:AV.int .u64 4294967296=u64 4294967296:=rfl
theorem GK:AV.int .u64 1152921504606845398=u64 1152921504606845398:=rfl
theorem GG:AV.int .u64 1152921504606845399=u64 1152921504606845399:=rfl
theorem Ha:AV.int .u64 2305843009213690799=u64 2305843009213690799:=rfl
theorem AjH:AV.int .u8 0=u8 0:=rfl
theorem Aer:AV.int .u8 48=u8 48:=rfl
theorem Agv:AV.int .u8 64=u8 64:=rfl
theorem Ae2:AV.int .u8 99=u8 99:=rfl
theorem AdH:AV.int .u8 100=u8 100:=rfl
theorem AdB:AV.int .u8 102=u8 102:=rfl
theorem Adp:AV.int .u8 103=u8 103:=rfl
theorem Ad5:AV.int .u8 107=u8 107:=rfl
theorem AcS:AV.int .u8 110=u8 110:=rfl
theorem AdS:AV.int .u8 111=u8 111:=rfl
theorem AcW:AV.int .u8 112=u8 112:=rfl
theorem Adv:AV.int .u8 116=u8 116:=rfl
theorem Ad1:AV.int .u8 119=u8 119:=rfl
theorem Ado:AV.int .u8 128=u8 128:=rfl
theorem AdC:AV.int .u8 255=u8 255:=rfl
theorem nb36{F}:((B.env F).bty=some 36)=False:=AlO (fun h:(none:Option TypeId)=some 36=>by cases h)
theorem Aay{F}{σ:Al}(s x:AV):AW (B.env F) σ .append [34,34] [s,x]=match FG σ x with
      | some new=>if FS x 16=true then none else if ∀cs∈new,cs.length=16 then(match s with
          | .sl full els=>
            if els=[]∧full=true then
              if Dj new.length 144 then some (.bs false σ.length new.length 0 new.length,σ++[.buf 16 new false])else none
            else if new=[]then some (.sl full els,σ)
            else if full=true∧(∀cs∈els,cs.length=16)∧Dj (els.length+new.length) 144
            then some (.bs false σ.length (els.length+new.length) 0 (els.length+new.length),σ++[.buf 16 (els++new) false])else none
          | .bs full id tot off len=>match σ[id]? with
            | some (.buf k els ro)=>
              if els.length=tot∧k=16∧Dj (len+new.length) 144 then
                if off=0∧len=tot then some (.bs false id (tot+new.length) 0 (tot+new.length),σ.set id (.buf k (els++new) ro))
                else if new=[]then some (.bs full id tot off len,σ)
                else if full then some (.bs false σ.length (len+new.length) 0 (len+new.length),σ++[.buf k ((els.drop off).take len++new) false])
                else none
              else none
            |some (.tb T l)=>NH σ id tot off len 144 16 74 T l new
            |_=>none
          |_=>none)
        else none
      |none=>none:=FX (AgX F) (AhO F) (by decide) (AgX F) (.inl ⟨_,rfl⟩) s x []
theorem nb46{F}:((B.env F).bty=some 46)=False:=AlO (fun h:(none:Option TypeId)=some 46=>by cases h)
theorem Ae4{F}{σ:Al}(f:Bool)(l:List Akn)(x:AV):Au (B.env F) σ 22 (.sl f (L Ag l)) x=match idx x l.length with
 |some i=>some (.rp (Ag (nth l i)))
 |none=>none:=EL Ag (tb22 F) (Aem F) (fun _=>rfl) f l x
theorem Aid{F}:((B.env F).bty=some 127)=False:=AlO (fun h:(none:Option TypeId)=some 127=>by cases h)
theorem Aga{F}{σ:Al}(f:Bool)(l:List Ako)(x:AV):Au (B.env F) σ 23 (.sl f (L Am l)) x=match idx x l.length with
 |some i=>some (.rp (Am (nth l i)))
 |none=>none:=EL Am (tb23 F) (Afv F) (fun _=>rfl) f l x
theorem Ahv{F}:((B.env F).bty=some 129)=False:=AlO (fun h:(none:Option TypeId)=some 129=>by cases h)
theorem nb57{F}:((B.env F).bty=some 57)=False:=AlO (fun h:(none:Option TypeId)=some 57=>by cases h)
theorem Af1{F}{σ:Al}(f:Bool)(l:List Akq)(x:AV):Au (B.env F) σ 26 (.sl f (L Ab l)) x=match idx x l.length with
 |some i=>some (.rp (Ab (nth l i)))
 |none=>none:=EL Ab (tb26 F) (Afi F) (fun _=>rfl) f l x
theorem Aj0{F}:((B.env F).bty=some 131)=False:=AlO (fun h:(none:Option TypeId)=some 131=>by cases h)
theorem Af0{F}{σ:Al}(f:Bool)(id tot off len:Nat)(x:AV):Au (B.env F) σ 70 (.bs f id tot off len) x=match σ[id]?,idx x len with
 |some (.buf k els _),some i=>if els.length=tot∧k=1 then some (.eref id tot (off+i) 0)else none
 |_,_=>none:=Xn (AhX F) (tb3 F) (by decide) f id tot off len x
theorem Aek{F}{σ:Al}(f:Bool)(l:List Akr)(x:AV):Au (B.env F) σ 27 (.sl f (L Ae l)) x=match idx x l.length with
 |some i=>some (.rp (Ae (nth l i)))
 |none=>none:=EL Ae (tb27 F) (Afb F) (fun _=>rfl) f l x
theorem Ahr{F}:((B.env F).bty=some 133)=False:=AlO (fun h:(none:Option TypeId)=some 133=>by cases h)
theorem Afd{F}{σ:Al}(f:Bool)(l:List Aks)(x:AV):Au (B.env F) σ 28 (.sl f (L Ai l)) x=match idx x l.length with
 |some i=>some (.rp (Ai (nth l i)))
 |none=>none:=EL Ai (tb28 F) (Aev F) (fun _=>rfl) f l x
theorem Aj1{F}:((B.env F).bty=some 167)=False:=AlO (fun h:(none:Option TypeId)=some 167=>by cases h)
theorem AhZ{F}:((B.env F).bty=some 169)=False:=AlO (fun h:(none:Option TypeId)=some 169=>by cases h)
theorem Agl{F}{σ:Al}(f:Bool)(l:List Akt)(x:AV):Au (B.env F) σ 29 (.sl f (L Ah l)) x=match idx x l.length with
 |some i=>some (.rp (Ah (nth l i)))
 |none=>none:=EL Ah (tb29 F) (AfA F) (fun _=>rfl) f l x
theorem AjP{F}:((B.env F).bty=some 171)=False:=AlO (fun h:(none:Option TypeId)=some 171=>by cases h)
theorem AbZ{F}(id off:Nat)(x:AV){σ:Al}:Au (B.env F) σ 169 (.ref id off) x=match idx x 64 with
 |some i=>some (.ref id (off+i*64))
 |none=>none:=MW (Afn F) (AbP F) id off x
theorem AdG{F}(id off:Nat)(x:AV){σ:Al}:Au (B.env F) σ 168 (.ref id off) x=match idx x 64 with
 |some i=>some (.ref id (off+i*1))
 |none=>none:=MW (AbP F) (tb4 F) id off x
theorem Ahp{F}(cs:List AV)(x:AV):H7 (B.env F) 69 (.agg cs) x=match idx x 7 with
 |some i=>partA (⟨.struct #[⟨"From", 3,0,false,"","", 0⟩,⟨"To", 3,1,false,"","", 8⟩],2,16,[i64 0,i64 0]⟩:TD) cs (i*2)
 |none=>none:=Ou (tb69 F) (tb68 F) cs x
theorem nb68{F}:((B.env F).bty=some 68)=False:=AlO (fun h:(none:Option TypeId)=some 68=>by cases h)
theorem AfY{F}{σ:Al}(f:Bool)(l:List Int)(x:AV):Au (B.env F) σ 70 (.sl f (L Iy l)) x=match idx x l.length with
 |some i=>some (.rp (Iy (nth l i)))
 |none=>none:=EL Iy (AhX F) (tb3 F) (fun _=>rfl) f l x
theorem AfM{F}(l:List UInt8)(x:AV):H7 (B.env F) 9 (.str l) x=match idx x l.length with
 |some i=>some (u8 (nth l i))
 |none=>none:=Vx (tb9 F) l x
theorem AeM{F}{σ:Al}(f:Bool)(l:List Akv)(x:AV):Au (B.env F) σ 32 (.sl f (L Af l)) x=match idx x l.length with
 |some i=>some (.rp (Af (nth l i)))
 |none=>none:=EL Af (tb32 F) (Afu F) (fun _=>rfl) f l x
theorem AiP{F}:((B.env F).bty=some 135)=False:=AlO (fun h:(none:Option TypeId)=some 135=>by cases h)
theorem Aeg{F}{σ:Al}(f:Bool)(l:List Akw)(x:AV):Au (B.env F) σ 33 (.sl f (L Ad l)) x=match idx x l.length with
 |some i=>some (.rp (Ad (nth l i)))
 |none=>none:=EL Ad (tb33 F) (Afy F) (fun _=>rfl) f l x
theorem AjE{F}:((B.env F).bty=some 137)=False:=AlO (fun h:(none:Option TypeId)=some 137=>by cases h)
theorem AgD{F}{σ:Al}(f:Bool)(l:List Akz)(x:AV):Au (B.env F) σ 34 (.sl f (L Ac l)) x=match idx x l.length with
 |some i=>some (.rp (Ac (nth l i)))
 |none=>none:=EL Ac (AgX F) (AhO F) (fun _=>rfl) f l x
theorem nb74{F}:((B.env F).bty=some 74)=False:=AlO (fun h:(none:Option TypeId)=some 74=>by cases h)
theorem Aet{F}{σ:Al}(f:Bool)(l:List (List AkF))(x:AV):Au (B.env F) σ 37 (.sl f (L (cSl Ak) l)) x=match idx x l.length with
 |some i=>some (.rp ((cSl Ak) (nth l i)))
 |none=>none:=EL (cSl Ak) (Ad9 F) (Abm F) (fun _=>rfl) f l x
theorem Akb{F}:((B.env F).bty=some 112)=False:=AlO (fun h:(none:Option TypeId)=some 112=>by cases h)
theorem Afh{F}(cs:List AV)(x:AV):H7 (B.env F) 181 (.agg cs) x=match idx x 11 with
 |some i=>partA (⟨.pointer 3,1,8,[.val (.pointer none)]⟩:TD) cs (i*1)
 |none=>none:=Ou (Afa F) (AfL F) cs x
theorem Wf{F}{σ:Al}(s x:AV):AW (B.env F) σ .append [110,110] [s,x]=match FG σ x with
      | some new=>if FS x 4=true then none else if ∀cs∈new,cs.length=4 then(match s with
          | .sl full els=>
            if els=[]∧full=true then
              if Dj new.length 64 then some (.bs false σ.length new.length 0 new.length,σ++[.buf 4 new false])else none
            else if new=[]then some (.sl full els,σ)
            else if full=true∧(∀cs∈els,cs.length=4)∧Dj (els.length+new.length) 64
            then some (.bs false σ.length (els.length+new.length) 0 (els.length+new.length),σ++[.buf 4 (els++new) false])else none
          | .bs full id tot off len=>match σ[id]? with
            | some (.buf k els ro)=>
              if els.length=tot∧k=4∧Dj (len+new.length) 64 then
                if off=0∧len=tot then some (.bs false id (tot+new.length) 0 (tot+new.length),σ.set id (.buf k (els++new) ro))
                else if new=[]then some (.bs full id tot off len,σ)
                else if full then some (.bs false σ.length (len+new.length) 0 (len+new.length),σ++[.buf k ((els.drop off).take len++new) false])
                else none
              else none
            |some (.tb T l)=>NH σ id tot off len 64 4 112 T l new
            |_=>none
          |_=>none)
        else none
      |none=>none:=FX (Yy F) (AcR F) (by decide) (Yy F) (.inl ⟨_,rfl⟩) s x []
theorem Agq{F}{σ:Al}(f:Bool)(l:List AkC)(x:AV):Au (B.env F) σ 44 (.sl f (L Aj l)) x=match idx x l.length with
 |some i=>some (.rp (Aj (nth l i)))
 |none=>none:=EL Aj (tb44 F) (Acf F) (fun _=>rfl) f l x
theorem AhD{F}:((B.env F).bty=some 175)=False:=AlO (fun h:(none:Option TypeId)=some 175=>by cases h)
theorem Ajt{F}{σ:Al}(l c:Int):Em (B.env F) σ 63 (i64 l) (i64 c)=if Mk l c 1 then some (.bs (l==c) σ.length l.toNat 0 l.toNat,σ++[.buf 1 (List.replicate l.toNat [u8 ((0:UInt8))]) false])else none:=W3 (AbM F) (tb5 F) (by decide) l c
theorem AfE{F}{σ:Al}(f:Bool)(id tot off len:Nat)(x:AV):Au (B.env F) σ 63 (.bs f id tot off len) x=match σ[id]?,idx x len with
 |some (.buf k els _),some i=>if els.length=tot∧k=1 then some (.eref id tot (off+i) 0)else none
 |_,_=>none:=Xn (AbM F) (tb5 F) (by decide) f id tot off len x
theorem AdP{F}{σ:Al}(f:Bool)(l:List AkI)(x:AV):Au (B.env F) σ 110 (.sl f (L cApi_Value l)) x=match idx x l.length with
 |some i=>some (.rp (cApi_Value (nth l i)))
 |none=>none:=EL cApi_Value (Yy F) (AcR F) (fun y=>by rw[Jg];rfl) f l x
theorem Y9{F}{σ:Al}(s x:AV):AW (B.env F) σ .append [63,63] [s,x]=match FG σ x with
      | some new=>if FS x 1=true then none else if ∀cs∈new,cs.length=1 then(match s with
          | .sl full els=>
            if els=[]∧full=true then
              if Dj new.length 1 then some (.bs false σ.length new.length 0 new.length,σ++[.buf 1 new false])else none
            else if new=[]then some (.sl full els,σ)
            else if full=true∧(∀cs∈els,cs.length=1)∧Dj (els.length+new.length) 1
            then some (.bs false σ.length (els.length+new.length) 0 (els.length+new.length),σ++[.buf 1 (els++new) false])else none
          | .bs full id tot off len=>match σ[id]? with
            | some (.buf k els ro)=>
              if els.length=tot∧k=1∧Dj (len+new.length) 1 then
                if off=0∧len=tot then some (.bs false id (tot+new.length) 0 (tot+new.length),σ.set id (.buf k (els++new) ro))
                else if new=[]then some (.bs full id tot off len,σ)
                else if full then some (.bs false σ.length (len+new.length) 0 (len+new.length),σ++[.buf k ((els.drop off).take len++new) false])
                else none
              else none
            |some (.tb T l)=>NH σ id tot off len 1 1 5 T l new
            |_=>none
          |_=>none)
        else none
      |none=>none:=FX (AbM F) (tb5 F) (by decide) (AbM F) (.inl ⟨_,rfl⟩) s x []
theorem AeS{F}{σ:Al}(f:Bool)(l:List UInt8)(x:AV):Au (B.env F) σ 63 (.sl f (L cU8 l)) x=match idx x l.length with
 |some i=>some (.rp (cU8 (nth l i)))
 |none=>none:=EL cU8 (AbM F) (tb5 F) (fun _=>rfl) f l x
theorem AjQ{F}:((B.env F).bty=some 162)=False:=AlO (fun h:(none:Option TypeId)=some 162=>by cases h)
theorem Ahm{F}:((B.env F).bty=some 188)=False:=AlO (fun h:(none:Option TypeId)=some 188=>by cases h)
theorem Ac6{F}{σ:Al}(id off:Nat)(x:AV):Au (B.env F) σ 188 (.ref id off) x=match idx x 64 with
 |some i=>some (.ref id (off+i*1))
 |none=>none:=MW (Ab3 F) (Aav F) id off x
theorem Acl{F}{σ:Al}(id off:Nat)(x:AV):Au (B.env F) σ 162 (.ref id off) x=match idx x 8 with
 |some i=>some (.ref id (off+i*1))
 |none=>none:=MW (Aez F) (Aav F) id off x
theorem Wk{F}{σ:Al}(x:AV):Au (B.env F) σ 188 (.glob 2) x=match idx x 64 with
 |some i=>some (.rp ((C1 u32 glob2.l).drop i))
 |none=>none:=YE (Ab3 F) (Aav F) rfl x
theorem nb52{F}:((B.env F).bty=some 52)=False:=AlO (fun h:(none:Option TypeId)=some 52=>by cases h)
theorem Ac5{F}{σ:Al}(f:Bool)(l:List (List UInt8))(x:AV):Au (B.env F) σ 160 (.sl f (L (cSl cU8) l)) x=match idx x l.length with
 |some i=>some (.rp ((cSl cU8) (nth l i)))
 |none=>none:=EL (cSl cU8) (Aep F) (AbM F) (fun _=>rfl) f l x
theorem AgI{F}{σ:Al}(id off:Nat)(x:AV):Au (B.env F) σ 52 (.ref id off) x=match idx x 32 with
 |some i=>some (.ref id (off+i*1))
 |none=>none:=MW (AjZ F) (tb5 F) id off x
theorem Ad6{F}{σ:Al}(f:Bool)(l:List UInt64)(x:AV):Au (B.env F) σ 173 (.sl f (L Pi l)) x=match idx x l.length with
 |some i=>some (.rp (Pi (nth l i)))
 |none=>none:=EL Pi (AfU F) (AgM F) (fun _=>rfl) f l x
theorem nb54{F}:((B.env F).bty=some 54)=False:=AlO (fun h:(none:Option TypeId)=some 54=>by cases h)
theorem Y0{F}(a0:Int)(a1:Int)(b0:Int)(b1:Int):AJ (B.env F) .eql 43 (.agg [i64 a0,i64 a1]) (.agg [i64 b0,i64 b1])=some (.bool (((a0==b0)&&(a1==b1)))) :=
 I1 (AiC F) (by kernel_rfl) (by kernel_rfl) (Iw (by decide) (tb3 F) rfl rfl (Kb a0 b0) (L5 (by decide) (tb3 F) rfl rfl (Kb a1 b1)))
theorem AiJ{F}:((B.env F).bty=some 192)=False:=AlO (fun h:(none:Option TypeId)=some 192=>by cases h)
theorem Agp{F}{op:BinOp}(a b:Arr UInt8 32):AJ (B.env F) op 52 (.agg (C1 u8 a.l)) (.agg (C1 u8 b.l))=match op with
 |.eql=>some (.bool (a==b))
 |.neq=>some (.bool (!(a==b)))
 |_=>none:=V3 (AjZ F) (tb5 F) a b
theorem Aaf{F}(a0:UInt64)(a1:UInt64)(b0:UInt64)(b1:UInt64):AJ (B.env F) .eql 54 (.agg [u64 a0,u64 a1]) (.agg [u64 b0,u64 b1])=some (.bool (((a0==b0)&&(a1==b1)))) :=
 I1 (tb54 F) (by kernel_rfl) (by kernel_rfl) (Iw (by decide) (AgM F) rfl rfl (Xq a0 b0) (L5 (by decide) (AgM F) rfl rfl (Xq a1 b1)))
theorem AeF{F}{σ:Al}(f:Bool)(l:List AkF)(x:AV):Au (B.env F) σ 75 (.sl f (L Ak l)) x=match idx x l.length with
 |some i=>some (.rp (Ak (nth l i)))
 |none=>none:=EL Ak (Abm F) (AjD F) (fun y=>by simp only[Ak,Ak9,Ak8,DA,All]) f l x
theorem nb43{F}:((B.env F).bty=some 43)=False:=AlO (fun h:(none:Option TypeId)=some 43=>by cases h)
theorem ZK{F}(a0:Int)(a1:Int)(b0:Int)(b1:Int):AJ (B.env F) .neq 43 (.agg [i64 a0,i64 a1]) (.agg [i64 b0,i64 b1])=some (.bool (!((a0==b0)&&(a1==b1)))) :=
 I2 (AiC F) (by kernel_rfl) (by kernel_rfl) (Iw (by decide) (tb3 F) rfl rfl (Kb a0 b0) (L5 (by decide) (tb3 F) rfl rfl (Kb a1 b1)))
theorem Aan{F}{σ:Al}(s x:AV):AW (B.env F) σ .append [75,75] [s,x]=match FG σ x with
      | some new=>if FS x 53=true then none else if ∀cs∈new,cs.length=53 then(match s with
          | .sl full els=>
            if els=[]∧full=true then
              if Dj new.length 224 then some (.bs false σ.length new.length 0 new.length,σ++[.buf 53 new false])else none
            else if new=[]then some (.sl full els,σ)
            else if full=true∧(∀cs∈els,cs.length=53)∧Dj (els.length+new.length) 224
            then some (.bs false σ.length (els.length+new.length) 0 (els.length+new.length),σ++[.buf 53 (els++new) false])else none
          | .bs full id tot off len=>match σ[id]? with
            | some (.buf k els ro)=>
              if els.length=tot∧k=53∧Dj (len+new.length) 224 then
                if off=0∧len=tot then some (.bs false id (tot+new.length) 0 (tot+new.length),σ.set id (.buf k (els++new) ro))
                else if new=[]then some (.bs full id tot off len,σ)
                else if full then some (.bs false σ.length (len+new.length) 0 (len+new.length),σ++[.buf k ((els.drop off).take len++new) false])
                else none
              else none
            |some (.tb T l)=>NH σ id tot off len 224 53 56 T l new
            |_=>none
          |_=>none)
        else none
      |none=>none:=FX (Abm F) (AjD F) (by decide) (Abm F) (.inl ⟨_,rfl⟩) s x []
theorem Afe{F}{σ:Al}(f:Bool)(l:List AkG)(x:AV):Au (B.env F) σ 38 (.sl f (L Aw l)) x=match idx x l.length with
 |some i=>some (.rp (Aw (nth l i)))
 |none=>none:=EL Aw (AgU F) (AiG F) (fun y=>by simp only[Aw,Ak9,Ak8,DA,All]) f l x
theorem Aar{F}{σ:Al}(s x:AV):AW (B.env F) σ .append [38,38] [s,x]=match FG σ x with
      | some new=>if FS x 106=true then none else if ∀cs∈new,cs.length=106 then(match s with
          | .sl full els=>
            if els=[]∧full=true then
              if Dj new.length 448 then some (.bs false σ.length new.length 0 new.length,σ++[.buf 106 new false])else none
            else if new=[]then some (.sl full els,σ)
            else if full=true∧(∀cs∈els,cs.length=106)∧Dj (els.length+new.length) 448
            then some (.bs false σ.length (els.length+new.length) 0 (els.length+new.length),σ++[.buf 106 (els++new) false])else none
          | .bs full id tot off len=>match σ[id]? with
            | some (.buf k els ro)=>
              if els.length=tot∧k=106∧Dj (len+new.length) 448 then
                if off=0∧len=tot then some (.bs false id (tot+new.length) 0 (tot+new.length),σ.set id (.buf k (els++new) ro))
                else if new=[]then some (.bs full id tot off len,σ)
                else if full then some (.bs false σ.length (len+new.length) 0 (len+new.length),σ++[.buf k ((els.drop off).take len++new) false])
                else none
              else none
            |some (.tb T l)=>NH σ id tot off len 448 106 96 T l new
            |_=>none
          |_=>none)
        else none
      |none=>none:=FX (AgU F) (AiG F) (by decide) (AgU F) (.inl ⟨_,rfl⟩) s x []
theorem nb40{F}:((B.env F).bty=some 40)=False:=AlO (fun h:(none:Option TypeId)=some 40=>by cases h)
theorem Ag3{F}{σ:Al}(l c:Int):Em (B.env F) σ 37 (i64 l) (i64 c)=if Mk l c 24 then some (.bs (l==c) σ.length l.toNat 0 l.toNat,σ++[.buf 1 (List.replicate l.toNat [.sl false (L Ak ([]))]) false])else none:=W3 (Ad9 F) (Abm F) (by decide) l c
theorem AfQ{F}{σ:Al}(f:Bool)(id tot off len:Nat)(x:AV):Au (B.env F) σ 37 (.bs f id tot off len) x=match σ[id]?,idx x len with
 |some (.buf k els _),some i=>if els.length=tot∧k=1 then some (.eref id tot (off+i) 0)else none
 |_,_=>none:=Xn (Ad9 F) (Abm F) (by decide) f id tot off len x
theorem nb56{F}:((B.env F).bty=some 56)=False:=AlO (fun h:(none:Option TypeId)=some 56=>by cases h)
theorem XF{F}(a0:Int)(a1:Int)(a2:Bool)(b0:Int)(b1:Int)(b2:Bool):AJ (B.env F) .neq 175 (.agg [i64 a0,i64 a1,.bool a2]) (.agg [i64 b0,i64 b1,.bool b2])=some (.bool (!((a0==b0)&&((a1==b1)&&(a2==b2))))) :=
 I2 (Acf F) (by kernel_rfl) (by kernel_rfl) (Iw (by decide) (tb3 F) rfl rfl (Kb a0 b0) (Iw (by decide) (tb3 F) rfl rfl (Kb a1 b1) (L5 (by decide) (tb4 F) rfl rfl (AaU a2 b2))))
theorem nb96{F}:((B.env F).bty=some 96)=False:=AlO (fun h:(none:Option TypeId)=some 96=>by cases h)
theorem ZE{F}{σ:Al}(s x:AV):AW (B.env F) σ .append [37,37] [s,x]=match FG σ x with
      | some new=>if FS x 1=true then none else if ∀cs∈new,cs.length=1 then(match s with
          | .sl full els=>
            if els=[]∧full=true then
              if Dj new.length 24 then some (.bs false σ.length new.length 0 new.length,σ++[.buf 1 new false])else none
            else if new=[]then some (.sl full els,σ)
            else if full=true∧(∀cs∈els,cs.length=1)∧Dj (els.length+new.length) 24
            then some (.bs false σ.length (els.length+new.length) 0 (els.length+new.length),σ++[.buf 1 (els++new) false])else none
          | .bs full id tot off len=>match σ[id]? with
            | some (.buf k els ro)=>
              if els.length=tot∧k=1∧Dj (len+new.length) 24 then
                if off=0∧len=tot then some (.bs false id (tot+new.length) 0 (tot+new.length),σ.set id (.buf k (els++new) ro))
                else if new=[]then some (.bs full id tot off len,σ)
                else if full then some (.bs false σ.length (len+new.length) 0 (len+new.length),σ++[.buf k ((els.drop off).take len++new) false])
                else none
              else none
            |some (.tb T l)=>NH σ id tot off len 24 1 75 T l new
            |_=>none
          |_=>none)
        else none
      |none=>none:=FX (Ad9 F) (Abm F) (by decide) (Ad9 F) (.inl ⟨_,rfl⟩) s x []
theorem nb85{F}:((B.env F).bty=some 85)=False:=AlO (fun h:(none:Option TypeId)=some 85=>by cases h)
theorem Ab5{F}:Aa4 (B.env F) 119=true:=rfl
def Ew(x:AkK):AV:=.agg (A1 x)
def CJ:AkK:=({ Ref:=({ Zb:=0,No:=0 }:AkB),By:=({ Zb:=0,No:=0 }:AkB),Zw1:=0,Zx1:=({ Za:=0,Ref:=({ Zb:=0,No:=0 }:AkB),Zn1:=0,Zb1:=0,Zc:=0,Zo1:=0,Zw:=0,To:=0,Code:=0,Zp1:=0,Zq1:=0,Zr1:=0,Zs1:=0,Zt1:=([]:List UInt8),Zu1:=[] }:AkD) }:AkK)
theorem Adw(a0:Int)(a1:Int)(a2:Int)(a3:Int)(a4:Int)(a5:Int)(a6:Int)(a7:Int)(a8:Int)(a9:Int)(a10:Int)(a11:Int)(a12:Int)(a13:Int)(a14:Int)(a15:Int)(a16:Int)(a17:Int)(a18:Int)(a19:List UInt8)(a20:List AkC){l:List ((Int×Int)×AkK)}{k:Int×Int}:Lj (M2 Ew l) k (.agg [i64 a0,i64 a1,i64 a2,i64 a3,i64 a4,i64 a5,i64 a6,i64 a7,i64 a8,i64 a9,i64 a10,i64 a11,i64 a12,i64 a13,i64 a14,i64 a15,i64 a16,i64 a17,i64 a18,.str a19,.sl false (L Aj a20)])=M2 Ew (Ae1 l k (({ Ref:=({ Zb:=a0,No:=a1 }:AkB),By:=({ Zb:=a2,No:=a3 }:AkB),Zw1:=a4,Zx1:=({ Za:=a5,Ref:=({ Zb:=a6,No:=a7 }:AkB),Zn1:=a8,Zb1:=a9,Zc:=a10,Zo1:=a11,Zw:=a12,To:=a13,Code:=a14,Zp1:=a15,Zq1:=a16,Zr1:=a17,Zs1:=a18,Zt1:=a19,Zu1:=a20 }:AkD) }:AkK))):=Abc (c:=Ew) (x:=({ Ref:=({ Zb:=a0,No:=a1 }:AkB),By:=({ Zb:=a2,No:=a3 }:AkB),Zw1:=a4,Zx1:=({ Za:=a5,Ref:=({ Zb:=a6,No:=a7 }:AkB),Zn1:=a8,Zb1:=a9,Zc:=a10,Zo1:=a11,Zw:=a12,To:=a13,Code:=a14,Zp1:=a15,Zq1:=a16,Zr1:=a17,Zs1:=a18,Zt1:=a19,Zu1:=a20 }:AkD) }:AkK))
theorem Aaj{F}{l:List ((Int×Int)×AkK)}(a b:Int):MQ (B.env F) 119 (M2 Ew l) (.agg [i64 a,i64 b]) true=if Qa a b then some (.tup [.agg [i64 (((((F6 l (a,b)).getD CJ)).Ref).Zb),i64 (((((F6 l (a,b)).getD CJ)).Ref).No),i64 (((((F6 l (a,b)).getD CJ)).By).Zb),i64 (((((F6 l (a,b)).getD CJ)).By).No),i64 ((((F6 l (a,b)).getD CJ)).Zw1),i64 (((((F6 l (a,b)).getD CJ)).Zx1).Za),i64 ((((((F6 l (a,b)).getD CJ)).Zx1).Ref).Zb),i64 ((((((F6 l (a,b)).getD CJ)).Zx1).Ref).No),i64 (((((F6 l (a,b)).getD CJ)).Zx1).Zn1),i64 (((((F6 l (a,b)).getD CJ)).Zx1).Zb1),i64 (((((F6 l (a,b)).getD CJ)).Zx1).Zc),i64 (((((F6 l (a,b)).getD CJ)).Zx1).Zo1),i64 (((((F6 l (a,b)).getD CJ)).Zx1).Zw),i64 (((((F6 l (a,b)).getD CJ)).Zx1).To),i64 (((((F6 l (a,b)).getD CJ)).Zx1).Code),i64 (((((F6 l (a,b)).getD CJ)).Zx1).Zp1),i64 (((((F6 l (a,b)).getD CJ)).Zx1).Zq1),i64 (((((F6 l (a,b)).getD CJ)).Zx1).Zr1),i64 (((((F6 l (a,b)).getD CJ)).Zx1).Zs1),.str (((((F6 l (a,b)).getD CJ)).Zx1).Zt1),.sl false (L Aj (((((F6 l (a,b)).getD CJ)).Zx1).Zu1))],.bool ((F6 l (a,b)).isSome)])else none:=Yl (c:=Ew) (z:=CJ) rfl (AhP F) (by decide) rfl
theorem Ajd{F}:((B.env F).bty=some 119)=False:=AlO (fun h:(none:Option TypeId)=some 119=>by cases h)
theorem nb89{F}:((B.env F).bty=some 89)=False:=AlO (fun h:(none:Option TypeId)=some 89=>by cases h)
theorem ZL{F}{σ:Al}(s x:AV):AW (B.env F) σ .append [85,85] [s,x]=match FG σ x with
      | some new=>if FS x 21=true then none else if ∀cs∈new,cs.length=21 then(match s with
          | .sl full els=>
            if els=[]∧full=true then
              if Dj new.length 192 then some (.bs false σ.length new.length 0 new.length,σ++[.buf 21 new false])else none
            else if new=[]then some (.sl full els,σ)
            else if full=true∧(∀cs∈els,cs.length=21)∧Dj (els.length+new.length) 192
            then some (.bs false σ.length (els.length+new.length) 0 (els.length+new.length),σ++[.buf 21 (els++new) false])else none
          | .bs full id tot off len=>match σ[id]? with
            | some (.buf k els ro)=>
              if els.length=tot∧k=21∧Dj (len+new.length) 192 then
                if off=0∧len=tot then some (.bs false id (tot+new.length) 0 (tot+new.length),σ.set id (.buf k (els++new) ro))
                else if new=[]then some (.bs full id tot off len,σ)
                else if full then some (.bs false σ.length (len+new.length) 0 (len+new.length),σ++[.buf k ((els.drop off).take len++new) false])
                else none
              else none
            |some (.tb T l)=>NH σ id tot off len 192 21 89 T l new
            |_=>none
          |_=>none)
        else none
      |none=>none:=FX (AhK F) (AhP F) (by decide) (AhK F) (.inl ⟨_,rfl⟩) s x []
theorem Y4{F}{op:BinOp}(a:Arr UInt8 32):AJ (B.env F) op 52 (.agg (C1 u8 a.l)) (.agg [u8 (0:UInt8),u8 (0:UInt8),u8 (0:UInt8),u8 (0:UInt8),u8 (0:UInt8),u8 (0:UInt8),u8 (0:UInt8),u8 (0:UInt8),u8 (0:UInt8),u8 (0:UInt8),u8 (0:UInt8),u8 (0:UInt8),u8 (0:UInt8),u8 (0:UInt8),u8 (0:UInt8),u8 (0:UInt8),u8 (0:UInt8),u8 (0:UInt8),u8 (0:UInt8),u8 (0:UInt8),u8 (0:UInt8),u8 (0:UInt8),u8 (0:UInt8),u8 (0:UInt8),u8 (0:UInt8),u8 (0:UInt8),u8 (0:UInt8),u8 (0:UInt8),u8 (0:UInt8),u8 (0:UInt8),u8 (0:UInt8),u8 (0:UInt8)])=match op with
 |.eql=>some (.bool (a==(⟨[(0:UInt8),0,0,0,0,0,0,0,0,0,0,0,0,0,0,0,0,0,0,0,0,0,0,0,0,0,0,0,0,0,0,0],rfl⟩:Arr UInt8 32)))
 |.neq=>some (.bool (!(a==(⟨[(0:UInt8),0,0,0,0,0,0,0,0,0,0,0,0,0,0,0,0,0,0,0,0,0,0,0,0,0,0,0,0,0,0,0],rfl⟩:Arr UInt8 32))))
 |_=>none:=Agp a (⟨[(0:UInt8),0,0,0,0,0,0,0,0,0,0,0,0,0,0,0,0,0,0,0,0,0,0,0,0,0,0,0,0,0,0,0],rfl⟩:Arr UInt8 32)
attribute [go_sem] lm0 own3 own4 own5 own6 own7 own8 own9 AjK Ag6 AiU AiK AhE AjR Ah9 Ai6 Ake Ahg AjF Ait Aia Ai0 Ag7 AjB AhI Ahj Akc Ahi AhR Akd AjI Ajv Akk Ahc Ah6 AiA Ai2 Ahs Ajc AhN Aik Ajy AjX Aiu Aio Ah3 Ah0 AhU Aki Aja Aiw AiE Ajx Ajs AjS Ahx Aii Ah4 AjL Aj6 AhT Ajn Aho Ag5 Aka AiR Aiy Aj2 AhB Aiv AiX Ais Ahz Ajz Aic Aip AiN Aie Aiz Ahf Aib AiI AhG AhW Aha Ah5 AjO AiQ Ai9 AjG AhA Ai7 AhS AjM Ah1 AiW Ajl Af5 AfP Ags AeV AfJ Ag Am KW Ab Ae Ai Ah Oh Af Ad JA JC Ac Av UE Aj A2 OE Ak Aw An NJ SX RU S2 Jg QC A1 tb3 tb4 tb5 tb9 tb22 tb23 tb25 tb26 tb27 tb28 tb29 tb31 tb32 tb33 AgX tb36 Ad9 AgU tb40 AgM AiC tb44 tb46 AjZ tb54 AjD tb57 AbM tb68 tb69 AhX tb72 AhO Abm AhK AhP AiG Yy AcR Aiq Aem Afv Afi Afb Afu Afy Aep Aav Aez Aev AbP Afn AfA Ahl AfU Acf AfL Afa Ab3 Akj Agf NT Mn Mm MY Nb MJ LW Nw AfR AeN Agy Agt Agj Agz Agb AbC AdF AdY AbO AcK Adu Aaq Vk MA Mv GK GG Ha AjH Aer Agv Ae2 AdH AdB Adp Ad5 AcS AdS AcW Adv Ad1 Ado AdC nb36 Aay nb46 Ae4 Aid Aga Ahv nb57 Af1 Aj0 Af0 Aek Ahr Afd Aj1 AhZ Agl AjP AbZ AdG Ahp nb68 AfY AfM AeM AiP Aeg AjE AgD nb74 Aet Akb Afh Wf Agq AhD Ajt AfE AdP Y9 AeS AjQ Ahm Ac6 Acl Wk nb52 Ac5 AgI Ad6 nb54 Y0 AiJ Agp Aaf AeF nb43 ZK Aan Afe Aar nb40 Ag3 AfQ nb56 XF nb96 ZE nb85 Ab5 Ew Adw Aaj Ajd nb89 ZL Y4
section
variable {V:Type}
def Aj8(step:V→AkB→AkF→Option V)(row:List AkF)(i:Int)(kv:Int×V):Option ((Int×V)⊕V) :=
 if(decide (kv.1<(row.length:Int)))then
  if InR kv.1 row.length then(step kv.2 { Zb:=i,No:=w64 (kv.1+1) } (nth row kv.1.toNat)).bind fun v'=>some (.inl (w64 (kv.1+1),v'))else none
 else some (.inr kv.2)
def Ag8(step:V→AkB→AkF→Option V)(logs:List (List AkF))(iv:Int×V):Option ((Int×V)⊕V) :=
 if(decide (iv.1<(logs.length:Int)))then
  if InR iv.1 logs.length then(A3 (Aj8 step (nth logs iv.1.toNat) iv.1) (0,iv.2)).bind fun v'=>some (.inl (w64 (iv.1+1),v'))else none
 else some (.inr iv.2)
def Afm(step:V→AkB→AkF→Option V)(logs:List (List AkF))(v:V):Option V:=(A3 (Ag8 step logs) (0,v)).bind some
end
theorem ZY(N:Nat)(ts:List Nat)(l:Fr):leL (Aq N l) (Aq N (keep ts l)):=by
  have key:∀(ns:List Nat),leL (ns.map (Rv.look l)) (ns.map (Rv.look (keep ts l))):=by
    intro ns
    induction ns with
    |nil=>exact trivial
    | cons t ns ih=>
      refine⟨?_,ih⟩;rcases PT ts l t with h|h
      · exact .inl h
      · rw[h];exact .inr (AV.wk_refl _)
  exact key _
theorem YS(n N:Nat):∀(l:Fr),(∀p∈l,p.2.under n=true)→P4 n (Aq N l):=by
  intro l h x hx;obtain⟨t,_,rfl⟩:=AlV.1 hx
  induction l with
  |nil=>show(AV.junk).under n=true;simp[AV.under]
  | cons p l ih=>
    show(if t=p.1 then p.2 else Rv.look l t).under n=true;by_cases e:t=p.1
    · rw[if_pos e];exact h p Ak5
    · rw[if_neg e];exact ih (fun q hq=>h q (Alx _ hq)) (by simp only[Aq,AlV,AlE];exact⟨t,by simpa using ‹t∈List.range N›,rfl⟩)
set_option maxHeartbeats 2000000 in
theorem XI{V:Type}{o:Out}{n:Nat}{gop:Operand}{assign body:Code}{N:Nat}{fr l:Fr}{K:CW}{S:V→Al}{step:V→AkB→AkF→Option V}{logs:List (List AkF)}{forks:List AkG}{f1 f2 ro:Bool}{v0 x:V}{p1 p2 idb:Nat}(M:Nat) (hx:Afm step logs v0=some x) (hmk:o.mks=true) (hg:ev (Aq N fr) gop=.fn 74 [.ref idb 0]) (hS:∀v,(S v).length=M) (hb:(S v0)[idb]?=some (.box [.sl f1 (L (cSl Ak) logs),.sl f2 (L Aw forks)] ro)) (hl:∀p∈l,p.1<N∧Rv.look fr p.1=p.2) (hp1:p1<N) (hp2:p2<N) (hpn:p1≠p2) (hpl:∀p∈l,p.1≠p1∧p.1≠p2) (hca:IB assign=true) (hcb:IB body=true) (hround:∀(lp:Nat) (ac bd:Code) (v:V) (i k:Int) (r:AkF) (v':V),step v ⟨i,k⟩ r=some v' →Run (B.env { F:=o.F,rd:=some lp }) (M+1) assign ⟨Aq N ((p2,.agg (Ak r))::(p1,.agg [i64 i,i64 k])::l),S v++[.lp false N l #[p1,p2] ac bd,.box (Ak r) false]⟩ (wkP (B.env { F:=o.F,rd:=some lp }) (M+1) (Ajf (B.env { F:=o.F,rd:=some lp }) M N l #[p1,p2] ac bd body (wkP (B.env { F:=o.F,rd:=some lp }) (M+1) (Akl M (S v'++[.lp true N l #[p1,p2] ac bd])))))) (hk:K .normal ⟨Aq N fr,S x++[.gone]⟩):Run (B.env o) n (.rangeFunc gop #[p1,p2] assign body) ⟨Aq N fr,S v0⟩ K:=by
 refine WI ok hmk hg (by intro ys h;cases h) Tryd.func74 rfl (by decide +kernel) rfl l hl ?_;rw[hS v0];have hE:=ok.env { F:=o.F };refine G1 ?_;have hidb:idb<(S v0).length:=(AkL.1 hb).1
 have hb0:(S v0++[ABlk.lp false N l #[p1,p2] assign body])[idb]?=some (.box [.sl f1 (L (cSl Ak) logs),.sl f2 (L Aw forks)] ro):=by
  rw[AkS hidb];exact hb
 show Run (B.env { F:=o.F }) (M+1) _ ⟨JX 32 [.yld M,.ref idb 0],_⟩ _;rw[GX 32 [.yld M,.ref idb 0] (AlC rfl) (N9 0 _) (fun t _=>GH _ 0 t (Alg _))];show Run (B.env { F:=o.F }) (M+1) _ ⟨Aq 32 [(0,.yld M),(1,.ref idb 0)],_⟩ _;revert hx;unfold Afm;refine T0 [0,8,9,10] ?_ (by simp only[go_sem,hb0];exact Ba);refine Sb ?_;refine Lo (fun iv=>⟨Aq 32 [(0,.yld M),(8,.sl f1 (L (cSl Ak) logs)),(9,i64 ((logs.length:Int))),(10,i64 iv.1)],S iv.2++[.lp false N l #[p1,p2] assign body]⟩) (Weak.refl _ _) ?_;rintro⟨i,v⟩ x1 o1 hj1 hx1;show Ag8 step logs (i,v)=some o1→_;unfold Ag8;dsimp only;refine T0 [0,8,9,10,11] ?_;refine Sq ?_;refine Cd ?_ ?_
 ·refine Sk ?_;refine Tn ?_;refine Sq ?_;refine Sb ?_;refine Ck fun hc1=>?_
  refine Te [0,3,4,8,9,10] Aa (Ev (by simp only[go_sem,qR hc1];exact Ba)) ?_;refine T0 [0,3,8,9,10,15,16,17] ?_;refine Sb ?_;refine Lo (fun kv=>⟨Aq 32 [(0,.yld M),(3,i64 i),(8,.sl f1 (L (cSl Ak) logs)),(9,i64 ((logs.length:Int))),(10,i64 i),(15,.sl false (L Ak (nth logs i.toNat))),(16,i64 (((nth logs i.toNat).length:Int))),(17,i64 kv.1)],S kv.2++[.lp false N l #[p1,p2] assign body]⟩) (Weak.refl _ _) ?_;rintro⟨k,v⟩ x2 o2 hj2 hx2;show Aj8 step (nth logs i.toNat) i (k,v)=some o2→_;unfold Aj8;dsimp only;refine T0 [0,3,8,9,10,15,16,17,18] ?_;refine Sq ?_;refine Cd ?_ ?_
  ·refine Sk ?_;refine Tn ?_;refine Sq ?_;refine Sb ?_;refine Ck fun hc2=>?_
   obtain⟨r,hr⟩:∃r,nth (nth logs i.toNat) k.toNat=r:=⟨_,rfl⟩;have hlen:(S v++[ABlk.lp false N l #[p1,p2] assign body]).length=M+1:=by simp[hS v]
   rw[hr];generalize hσ0:S v++[ABlk.lp false N l #[p1,p2] assign body]=σ0 at hlen;have hlast:∀b:ABlk,(σ0++[b])[M+1]?=some b:=fun b=>by rw[AkQ (by omega),hlen];simp
   have hset:∀b c:ABlk,(σ0++[b]).set (M+1) c=σ0++[c]:=fun b c=>by rw[Al2 _ _ (by omega),hlen];simp
   refine Te [0,3,5,6,8,9,10,15,16,17] Aa (Ev (by simp only[go_sem,qR hc2,hr,hlen,hlast,hset];exact Ba)) ?_;refine Bd fun v' hv=>?_
   refine Sq ?_;intro hP
   refine YP 6 (idl:=M) (σ1:=σ0++[.box (Ak r) false]) (fr1:=(27,.agg (Ak r))::(26,.agg [i64 i,i64 (w64 (k+1))])::(25,i64 (w64 (k+1)))::(24,i64 k)::(23,i64 i)::(22,.yld M)::[(0,.yld M),(3,i64 i),(5,i64 k),(6,.ref (M+1) 0),(8,.sl f1 (L (cSl Ak) logs)),(9,i64 ((logs.length:Int))),(10,i64 i),(15,.sl false (L Ak (nth logs i.toNat))),(16,i64 (((nth logs i.toNat).length:Int))),(17,i64 k)]) (fr3:=(29,.bool (!true))::(28,.bool true)::[(0,.yld M),(3,i64 i),(8,.sl f1 (L (cSl Ak) logs)),(9,i64 ((logs.length:Int))),(10,i64 i),(15,.sl false (L Ak (nth logs i.toNat))),(16,i64 (((nth logs i.toNat).length:Int))),(17,i64 k)]) (M:=N) (l:=l) (ps:=#[p1,p2]) (assign:=assign) (body:=body) (fr2:=[(0,.yld M),(3,i64 i),(8,.sl f1 (L (cSl Ak) logs)),(9,i64 ((logs.length:Int))),(10,i64 i),(15,.sl false (L Ak (nth logs i.toNat))),(16,i64 (((nth logs i.toNat).length:Int))),(17,i64 k)])
    (args:=[.agg [i64 i,i64 (w64 (k+1))],.agg (Ak r)]) hE rfl ?h1 rfl rfl rfl rfl ?hf ?hσ rfl (Nat.lt_succ_self M) hca hcb ?hle ?hun ?hp1 ?hp2 ?hp3 ?hargs (fun σ3=>?h3) (fun lp=>?h)
   case h1=>
    refine(EC _ _).symm.trans ?_;simp only[go_sem,hlast,hlen]
   case hf=>rfl
   case hσ=>
    rw[←hσ0,AlS,AkQ (by rw[hS v];exact AkY _),hS v,AmP];rfl
   case hle=>exact ZY 32 [0,3,8,9,10,15,16,17] _
   case hun=>
    refine YS _ _ _ (fun p hp=>?_);simp only[Ali,List.not_mem_nil,or_false]at hp;rcases hp with rfl|rfl|rfl|rfl|rfl|rfl|rfl|rfl<;>simp[AV.under,i64]
   case hp1=>intro p hp;simp at hp;rcases hp with rfl|rfl<;>assumption
   case hp2=>intro p hp hh;simp at hh;rcases hh with hh|hh;exact(hpl p hp).1 hh;exact(hpl p hp).2 hh
   case hp3=>simpa using hpn
   case hargs=>rfl
   case h3=>
    refine(EC _ _).symm.trans ?_;simp only[go_sem]
   case h=>
    have h2:=G1 (hround lp assign body v i (w64 (k+1)) r v' hv);have hst:σ0++[ABlk.box (Ak r) false]=S v++[.lp false N l #[p1,p2] assign body,.box (Ak r) false]:=by rw[←hσ0,AlS];rfl
    rw[hst];refine Ee h2 ?_;rintro ex st1 ⟨rfl,q1,q2⟩;refine⟨rfl,q1,Ee (G1 q2) ?_⟩;rintro ex st2 ⟨rfl,q3⟩;rw[q3];refine⟨rfl,by rw[AkQ (by rw[hS v'];exact AkY _),hS v',AmP];rfl,?_⟩;rw[Al2 _ _ (by rw[hS v'];exact AkY _),hS v',AmP,Am6];revert hP;refine Tn ?_;refine Cf ?_;refine Sk ?_;refine Bn ?_;refine Tn ?_;refine F0 [0,3,8,9,10,15,16,17] ?_;exact Ln (Weak.refl _ _)
  ·refine Sx ?_;refine Tx ?_;refine Ly hx2 hj2 ?_;refine Bx ?_;refine Bn ?_;refine Tn ?_;refine F0 [0,8,9,10] ?_;exact Ln (Weak.refl _ _)
 ·refine Sx ?_;refine Tx ?_;refine Ly hx1 hj1 ?_;refine Bx ?_;refine Wp (Weak.refl _ _) ?_;intro h;obtain rfl:=Alk h;refine⟨.inl rfl,by rw[AkQ (by rw[hS];exact AkY _),hS,AmP];rfl,?_⟩;rw[Al2 _ _ (by rw[hS];exact AkY _),hS,AmP,Am6];exact hk
theorem Ra{V:Type}{F:Addr→Prop}{base:Nat}{n:Nat}{gop:Operand}{assign body:Code}{N:Nat}{fr:Fr}{K:CW}(S:V→Al)(l:Fr){step:V→AkB→AkF→Option V}{logs:List (List AkF)}{forks:List AkG}{f1 f2 ro:Bool}{v0 x:V}{p1 p2 idb:Nat}(M:Nat)(σ0 σx:Al) (hround:∀(lp:Nat) (ac bd:Code) (v:V) (i k:Int) (r:AkF) (v':V),step v ⟨i,k⟩ r=some v' →Run (B.env { F:=F,rd:=some lp }) (M+1) assign ⟨Aq N ((p2,.agg (Ak r))::(p1,.agg [i64 i,i64 k])::l),S v++[.lp false N l #[p1,p2] ac bd,.box (Ak r) false]⟩ (wkP (B.env { F:=F,rd:=some lp }) (M+1) (Ajf (B.env { F:=F,rd:=some lp }) M N l #[p1,p2] ac bd body (wkP (B.env { F:=F,rd:=some lp }) (M+1) (Akl M (S v'++[.lp true N l #[p1,p2] ac bd])))))) (hk:K .normal ⟨Aq N fr,σx⟩) (hx:Afm step logs v0=some x) (hl:Ahe N fr l) (h0:S v0=σ0:=by rfl) (hσx:S x++[.gone]=σx:=by rfl) (hg:ev (Aq N fr) gop=.fn 74 [.ref idb 0]:=by rfl) (hS:∀v,(S v).length=M:=by exact fun _=>rfl) (hb:(S v0)[idb]?=some (.box [.sl f1 (L (cSl Ak) logs),.sl f2 (L Aw forks)] ro):=by rfl) (hp:(decide (p1<N)&&decide (p2<N)&&p1 != p2&&(l.map (·.1)).all (fun t=>t != p1&&t != p2))=true:=by rfl) (hca:IB assign=true:=by rfl) (hcb:IB body=true:=by rfl) :Run (B.env { F:=F,mks:=true,base:=base }) n (.rangeFunc gop #[p1,p2] assign body) ⟨Aq N fr,σ0⟩ K:=by
 subst h0 hσx;simp only[Ak3,Alb,AnF,ne_eq,Ak1,AlV]at hp;obtain⟨⟨⟨h1,h2⟩,h3⟩,h4⟩:=hp;exact XI (o:={ F:=F,mks:=true,base:=base }) M hx rfl hg hS hb (UA hl) h1 h2 h3 (fun p hp=>h4 _ ⟨p,hp,rfl⟩) hca hcb hround hk
def HE(a:UInt64)(b:UInt64)(c:UInt64)(d:UInt64):Option ((UInt64×UInt64×UInt64)⊕(UInt64)) :=if (decide (c>(0:UInt64)))then (if((c%(2:UInt64))==(1:UInt64))then if ¬a=0 then some ((d+b)%a) else none else some d:Option (UInt64)).bind fun e=>if ¬a=0 then some (.inl (((b+b)%a),(c/(2:UInt64)),e)) else none else some (.inr d)
def J8(a:UInt64)(b:UInt64)(c:UInt64):Option (UInt64) :=((A3 (fun(v:UInt64×UInt64×UInt64)=>HE c v.1 v.2.1 v.2.2) (a,b,(0:UInt64))).bind fun d=>some d:Option (UInt64)).bind fun e=>some e
def JP(a:UInt64)(b:UInt64)(c:UInt64):Option ((UInt64×UInt64×UInt64)⊕(UInt64)) :=if(decide (b>(0:UInt64)))then (if((b%(2:UInt64))==(1:UInt64))then (J8 c a (2305843009213690799:UInt64)).bind fun d=>some d else some c:Option (UInt64)).bind fun e=>(J8 a a (2305843009213690799:UInt64)).bind fun f=>some (.inl (f,(b/(2:UInt64)),e)) else some (.inr c)
def Sd(a:UInt64)(b:UInt64):Option (UInt64) :=(lt1 (a%(2305843009213690799:UInt64)) fun(c:UInt64)=>(A3 (fun(v:UInt64×UInt64×UInt64)=>JP v.1 v.2.1 v.2.2) (c,b,(1:UInt64))).bind fun d=>some d:Option (UInt64)).bind fun e=>some e
def Ku(a:UInt64):Option (UInt64×Int) :=(if(decide (a<(1:UInt64)))then some true else some (decide (a≥(1152921504606845399:UInt64))):Option (Bool)).bind fun b=>if b then some ((0:UInt64),30) else (Sd (4:UInt64) a).bind fun c=>some (c,0)
def G9(a:Int)(b:List Akz):Option ((Int×List Akz)⊕(List Akz)) :=if(decide (a<2))then (Ku (UInt64.ofInt (w64 (7+a)))).bind fun c=>if Dj (b.length+1) 144 then lt1 (b++([({ Key:=c.1,Zf1:=({ Zd1:=(({ Zw:=0,To:=0 }:Akx),({ Zw:=0,To:=0 }:Akx),({ Zw:=0,To:=0 }:Akx),({ Zw:=0,To:=0 }:Akx),({ Zw:=0,To:=0 }:Akx),({ Zw:=0,To:=0 }:Akx),({ Zw:=0,To:=0 }:Akx)),Ze1:=[] }:Aky) }:Akz)]:List Akz)) fun(d:List Akz)=>some (.inl ((w64 (a+1)),d)) else none else some (.inr b)
def r14_Example  : Option (AkA) :=lt1 ([({ Za:=1,Zb:=0,Zc:=(-1) }:Akn),({ Za:=3,Zb:=0,Zc:=1 }:Akn),({ Za:=4,Zb:=1,Zc:=(-1) }:Akn)]:List Akn) fun(a:List Akn)=>lt1 ([({ A:=0,B:=1,Zb:=0,Zd:=10,Km:=5 }:Ako),({ A:=1,B:=2,Zb:=1,Zd:=20,Km:=9 }:Ako)]:List Ako) fun(b:List Ako)=>lt1 ([({ Zg:=1000,Zh:=0,Zi:=0,Zj:=0,Zk:=0,Zl:=(7:UInt64),Zm:=1000,Zn:=0 }:Akq)]:List Akq) fun(c:List Akq)=>lt1 ([({ Zo:=0,Zp:=0,Zq:=0,Zr:=0,Zs:=5000 }:Akr)]:List Akr) fun(d:List Akr)=>lt1 ([({ Zb1:=0,Low:=(-3),Zc1:=3 }:Akv)]:List Akv) fun(e:List Akv)=>lt1 ([({ Zb1:=2 }:Akw)]:List Akw) fun(f:List Akw)=>((A3 (fun(v:Int×List Akz)=>G9 v.1 v.2) (0,[])).bind fun g=>some g:Option (List Akz)).bind fun i=>some ({ Zg1:=({ Ze:=a,Zf:=b }:Akp),Zh1:=({ Zx:=c,Zy:=d,Zz:=[],Za1:=[] }:Aku),Zi1:=e,Zj1:=f,Zk1:=i }:AkA)
def Cv(a:Int):Option (AkD) :=some ({ Za:=8,Ref:=({ Zb:=0,No:=0 }:AkB),Zn1:=0,Zb1:=0,Zc:=0,Zo1:=0,Zw:=3,To:=0,Code:=a,Zp1:=0,Zq1:=0,Zr1:=0,Zs1:=0,Zt1:=([]:List UInt8),Zu1:=[] }:AkD)
def ED(a:Akn):Option (Bool) :=(if(decide (a.Za<1))then some true else if(decide (a.Za>5))then some true else if(decide (a.Zb<0))then some true else some (decide (a.Zb≥16)):Option (Bool)).bind fun b=>if b then some false else if(a.Za != 3)then some (a.Zc==(-1)) else (if(decide (a.Zc≥0))then if(decide (a.Zc<16))then some (a.Zc != a.Zb) else some false else some false:Option (Bool)).bind fun c=>some c
def CB(b:Akp)(a:Int):Option ((Int)⊕((Unit)⊕((Unit)⊕(Int)))) :=if (decide (a<(b.Ze.length:Int)))then if InR a b.Ze.length then lt1 ((nth b.Ze a.toNat).Za) fun(c:Int)=>lt1 ((nth b.Ze a.toNat).Zb) fun(d:Int)=>lt1 ((nth b.Ze a.toNat).Zc) fun(e:Int)=>(ED ({ Za:=c,Zb:=d,Zc:=e }:Akn)).bind fun f=>if(!f)then ((some 1).bind fun g=>some (.inr g)).bind fun i=>some (.inr (.inr i)) else some (.inl (w64 (a+1))) else none else some (.inr (.inl ()))
def CA(b:Akp)(i:Int)(a:Int):Option ((Int)⊕((Unit)⊕((Unit)⊕(Int)))) :=if (decide (a<(b.Zf.length:Int)))then if InR a b.Zf.length then lt1 ((nth b.Zf a.toNat).A) fun(c:Int)=>lt1 ((nth b.Zf a.toNat).B) fun(d:Int)=>lt1 ((nth b.Zf a.toNat).Zb) fun(e:Int)=>lt1 ((nth b.Zf a.toNat).Zd) fun(f:Int)=>lt1 ((nth b.Zf a.toNat).Km) fun(g:Int)=>(if(decide ((NX (NX (NX c d) e) g)<0))then some true else if(decide ((L8 c d)≥i))then some true else if(c==d)then some true else if(decide (e≥16))then some true else if(decide (f<1))then some true else if(decide (f>100000))then some true else some (decide (g>10000)):Option (Bool)).bind fun j=>if j then ((some 1).bind fun k=>some (.inr k)).bind fun l=>some (.inr (.inr l)) else some (.inl (w64 (a+1))) else none else some (.inr (.inl ()))
def EA(a:Akp):Option (Int) :=lt1 (a.Ze.length:Int) fun(b:Int)=>(if(decide (b>512))then some true else some (decide ((a.Zf.length:Int)>2048)):Option (Bool)).bind fun c=>if c then some 2 else ((A3 (fun(v:Int)=>CB a v) 0).bind fun x=>match x with
  |.inl ()=>some (.inl ())
  |.inr z=>some z:Option ((Unit)⊕(Int))).bind fun x=>match x with
  | .inl ()=>((A3 (fun(v:Int)=>CA a b v) 0).bind fun x=>match x with
   |.inl ()=>some (.inl ())
   |.inr z=>some z:Option ((Unit)⊕(Int))).bind fun x=>match x with
   |.inl ()=>some 0
   |.inr z=>some z
  |.inr z=>some z
def AB(a:Bool)(b:Int):Option (Int) :=if(!a)then some 1 else some b
def Ay(a:Int)(b:Int)(c:Int):Option (Bool) :=(if(decide (a≥b))then some (decide (a≤c)) else some false:Option (Bool)).bind fun d=>some d
def Dm(d:Int)(b:List Int)(a:Int)(c:Int):Option ((Int×Int)⊕(Int)) :=if(decide (a<d))then if InR a b.length then (Ay (nth b a.toNat) 0 1000000).bind fun e=>(AB e c).bind fun f=>some (.inl ((w64 (a+1)),f)) else none else some (.inr c)
def Dp(b:Aku)(a:Int)(d:Int):Option ((Int×Int)⊕(Int)) :=if (decide (a<(b.Zx.length:Int)))then (if InR a b.Zx.length then lt1 ((nth b.Zx a.toNat).Zg) fun(e:Int)=>lt1 ((nth b.Zx a.toNat).Zh) fun(f:Int)=>lt1 ((nth b.Zx a.toNat).Zi) fun(g:Int)=>lt1 ((nth b.Zx a.toNat).Zj) fun(j:Int)=>lt1 ((nth b.Zx a.toNat).Zk) fun(i:Int)=>lt1 ((nth b.Zx a.toNat).Zl) fun(z:UInt64)=>lt1 ((nth b.Zx a.toNat).Zm) fun(k:Int)=>lt1 ((nth b.Zx a.toNat).Zn) fun(l:Int)=>(lt1 (([e,f,g,i]:List Int).length:Int) fun(m:Int)=>lt1 ([e,f,g,i]:List Int) fun(n:List Int)=>(A3 (fun(v:Int×Int)=>Dm m n v.1 v.2) (0,d)).bind fun o=>some o:Option (Int)).bind fun c=>((Ay j 0 7).bind fun p=>if p then (Ay k 1 1073741824).bind fun q=>if q then (Ay l 0 100).bind fun s=>(AB s c).bind fun t=>some t else (AB false c).bind fun u=>some u else (AB false c).bind fun w=>some w:Option (Int)).bind fun x=>some x else none:Option (Int)).bind fun y=>some (.inl ((w64 (a+1)),y)) else some (.inr d)
def Dd(a:Aku)(b:Int)(c:Int):Option ((Int×Int)⊕(Int)) :=if (decide (b<(a.Zy.length:Int)))then if InR b a.Zy.length then lt1 ((nth a.Zy b.toNat).Zo) fun(e:Int)=>lt1 ((nth a.Zy b.toNat).Zp) fun(f:Int)=>lt1 ((nth a.Zy b.toNat).Zq) fun(g:Int)=>lt1 ((nth a.Zy b.toNat).Zr) fun(i:Int)=>lt1 ((nth a.Zy b.toNat).Zs) fun(j:Int)=>((Ay e 0 (w64 ((a.Zx.length:Int)-1))).bind fun k=>if k then (Ay f 0 63).bind fun l=>if l then (Ay g 0 511).bind fun m=>(AB m c).bind fun n=>some n else (AB false c).bind fun o=>some o else (AB false c).bind fun p=>some p:Option (Int)).bind fun d=>((Ay i 0 1073741824).bind fun q=>if q then (Ay j 0 1099511627776).bind fun s=>(AB s d).bind fun t=>some t else (AB false d).bind fun u=>some u:Option (Int)).bind fun v=>some (.inl ((w64 (b+1)),v)) else none else some (.inr c)
def Dk(a:Aku)(b:Int)(c:Int):Option ((Int×Int)⊕(Int)) :=if (decide (b<(a.Zz.length:Int)))then if InR b a.Zz.length then lt1 ((nth a.Zz b.toNat).Zt) fun(d:Int)=>lt1 ((nth a.Zz b.toNat).Zu) fun(e:Int)=>lt1 ((nth a.Zz b.toNat).Zv) fun(f:Int)=>((Ay d 0 (w64 ((a.Zx.length:Int)-1))).bind fun g=>if g then (Ay e 0 (w64 ((a.Zx.length:Int)-1))).bind fun i=>if i then if(d != e)then (Ay f 0 1000000000).bind fun j=>(AB j c).bind fun k=>some k else (AB false c).bind fun l=>some l else (AB false c).bind fun m=>some m else (AB false c).bind fun n=>some n:Option (Int)).bind fun o=>some (.inl ((w64 (b+1)),o)) else none else some (.inr c)
def Do(d:Aku)(a:Int)(f:Int)(e:Arr Bool 4096):Option ((Int×Int×Arr Bool 4096)⊕(Int)) :=if (decide (a<(d.Za1.length:Int)))then (if InR a d.Za1.length then lt1 ((nth d.Za1 a.toNat).Zw) fun(b:Int)=>lt1 ((nth d.Za1 a.toNat).To) fun(c:Int)=>lt1 ((nth d.Za1 a.toNat).Zd) fun(j:Int)=>((Ay b 0 63).bind fun k=>if k then (Ay c 0 63).bind fun l=>if l then if(b != c)then (Ay j 0 100000).bind fun m=>some m else some false else some false else some false:Option (Bool)).bind fun g=>(AB g f).bind fun i=>if g = true then if InR b 64 then if InR c 64 then (AB (!(e.get (b.toNat*64+c.toNat))) i).bind fun n=>if InR b 64 then if InR c 64 then lt1 (e.set (b.toNat*64+c.toNat) true) fun(o:Arr Bool 4096)=>some (n,o) else none else none else none else none else some (i,e) else none:Option (Int×Arr Bool 4096)).bind fun(p,q)=>some (.inl ((w64 (a+1)),p,q)) else some (.inr f)
def Gf(a:Aku):Option (Int) :=(if(decide ((a.Zx.length:Int)>32))then some true else if(decide ((a.Zy.length:Int)>4096))then some true else if(decide ((a.Zz.length:Int)>1024))then some true else some (decide ((a.Za1.length:Int)>4096)):Option (Bool)).bind fun b=>if b then some 2 else ((A3 (fun(v:Int×Int)=>Dp a v.1 v.2) (0,0)).bind fun c=>some c:Option (Int)).bind fun d=>((A3 (fun(v:Int×Int)=>Dd a v.1 v.2) (0,d)).bind fun e=>some e:Option (Int)).bind fun f=>((A3 (fun(v:Int×Int)=>Dk a v.1 v.2) (0,f)).bind fun g=>some g:Option (Int)).bind fun i=>((A3 (fun(v:Int×Int×Arr Bool 4096)=>Do a v.1 v.2.1 v.2.2) (0,i,(Arr.rep 4096 false))).bind fun j=>some j:Option (Int)).bind fun k=>some k
def Cz(b:Aky)(d:Int)(a:Int):Option ((Int×Int)⊕((Unit)⊕((Unit)⊕(Int)))) :=if (decide (a<(b.Ze1.length:Int)))then if InR a b.Ze1.length then lt1 (nth b.Ze1 a.toNat) fun(c:Int)=>(if(decide (c≤d))then some true else some (decide (c>745654)):Option (Bool)).bind fun e=>if e then ((some 1).bind fun f=>some (.inr f)).bind fun g=>some (.inr (.inr g)) else some (.inl (c,(w64 (a+1)))) else none else some (.inr (.inl ()))
def Ea(a:Aky):Option (Int) :=lt1 a.Zd1.2.2.2.2.2.1.Zw fun(b:Int)=>lt1 a.Zd1.2.2.2.2.2.2.Zw fun(c:Int)=>((if(decide (a.Zd1.1.Zw<0))then some true else if(decide (a.Zd1.1.To<a.Zd1.1.Zw))then some true else some (decide (a.Zd1.1.To>1440)):Option (Bool)).bind fun d=>if d then (some 1).bind fun e=>some (.inr e) else (if(decide (a.Zd1.2.1.Zw<0))then some true else if(decide (a.Zd1.2.1.To<a.Zd1.2.1.Zw))then some true else some (decide (a.Zd1.2.1.To>1440)):Option (Bool)).bind fun f=>if f then (some 1).bind fun g=>some (.inr g) else (if(decide (a.Zd1.2.2.1.Zw<0))then some true else if(decide (a.Zd1.2.2.1.To<a.Zd1.2.2.1.Zw))then some true else some (decide (a.Zd1.2.2.1.To>1440)):Option (Bool)).bind fun i=>if i then (some 1).bind fun j=>some (.inr j) else (if(decide (a.Zd1.2.2.2.1.Zw<0))then some true else if(decide (a.Zd1.2.2.2.1.To<a.Zd1.2.2.2.1.Zw))then some true else some (decide (a.Zd1.2.2.2.1.To>1440)):Option (Bool)).bind fun k=>if k then (some 1).bind fun l=>some (.inr l) else (if(decide (a.Zd1.2.2.2.2.1.Zw<0))then some true else if(decide (a.Zd1.2.2.2.2.1.To<a.Zd1.2.2.2.2.1.Zw))then some true else some (decide (a.Zd1.2.2.2.2.1.To>1440)):Option (Bool)).bind fun m=>if m then (some 1).bind fun n=>some (.inr n) else (if(decide (b<0))then some true else if(decide (a.Zd1.2.2.2.2.2.1.To<b))then some true else some (decide (a.Zd1.2.2.2.2.2.1.To>1440)):Option (Bool)).bind fun o=>if o then (some 1).bind fun p=>some (.inr p) else (if(decide (c<0))then some true else if(decide (a.Zd1.2.2.2.2.2.2.To<c))then some true else some (decide (a.Zd1.2.2.2.2.2.2.To>1440)):Option (Bool)).bind fun q=>if q then (some 1).bind fun s=>some (.inr s) else some (.inl ()):Option ((Unit)⊕(Int))).bind fun x=>match x with
 | .inl ()=>((A3 (fun(v:Int×Int)=>Cz a v.1 v.2) ((-1),0)).bind fun x=>match x with
  |.inl ()=>some (.inl ())
  |.inr z=>some z:Option ((Unit)⊕(Int))).bind fun x=>match x with
  |.inl ()=>some 0
  |.inr z=>some z
 |.inr z=>some z
def GQ(a:UInt64)(b:UInt64):Option (UInt64×UInt64) :=lt1 (a &&& (4294967295:UInt64)) fun(x0_2596:UInt64)=>lt1 (Dz a (32:UInt64).toNat) fun(x1_2598:UInt64)=>lt1 (b &&& (4294967295:UInt64)) fun(y0_2600:UInt64)=>lt1 (Dz b (32:UInt64).toNat) fun(y1_2602:UInt64)=>lt1 ((x1_2598*y0_2600)+(Dz (x0_2596*y0_2600) (32:UInt64).toNat)) fun(c:UInt64)=>lt1 (c &&& (4294967295:UInt64)) fun(w1_2606:UInt64)=>lt1 (Dz c (32:UInt64).toNat) fun(w2_2608:UInt64)=>lt1 (w1_2606+(x0_2596*y1_2602)) fun(w1_2610:UInt64)=>lt1 (((x1_2598*y1_2602)+w2_2608)+(Dz w1_2610 (32:UInt64).toNat)) fun(d:UInt64)=>some (d,(a*b))
def EM(a:UInt64):Option (Int) :=(if(decide (a≥(4294967296:UInt64)))then lt1 (Dz a (32:UInt64).toNat) fun(g:UInt64)=>some (g,32) else some (a,0):Option (UInt64×Int)).bind fun(b,d)=>(if(decide (b≥(65536:UInt64)))then lt1 (Dz b (16:UInt64).toNat) fun(i:UInt64)=>some (i,(w64 (d+16))) else some (b,d):Option (UInt64×Int)).bind fun(c,e)=>(if(decide (c≥(256:UInt64)))then lt1 (Dz c (8:UInt64).toNat) fun(j:UInt64)=>some (j,(w64 (e+8))) else some (c,e):Option (UInt64×Int)).bind fun(f,k)=>if InR (f.toUInt8.toNat:Int) (([0,1,2,2,3,3,3,3,4,4,4,4,4,4,4,4,5,5,5,5,5,5,5,5,5,5,5,5,5,5,5,5,6,6,6,6,6,6,6,6,6,6,6,6,6,6,6,6,6,6,6,6,6,6,6,6,6,6,6,6,6,6,6,6,7,7,7,7,7,7,7,7,7,7,7,7,7,7,7,7,7,7,7,7,7,7,7,7,7,7,7,7,7,7,7,7,7,7,7,7,7,7,7,7,7,7,7,7,7,7,7,7,7,7,7,7,7,7,7,7,7,7,7,7,7,7,7,7,8,8,8,8,8,8,8,8,8,8,8,8,8,8,8,8,8,8,8,8,8,8,8,8,8,8,8,8,8,8,8,8,8,8,8,8,8,8,8,8,8,8,8,8,8,8,8,8,8,8,8,8,8,8,8,8,8,8,8,8,8,8,8,8,8,8,8,8,8,8,8,8,8,8,8,8,8,8,8,8,8,8,8,8,8,8,8,8,8,8,8,8,8,8,8,8,8,8,8,8,8,8,8,8,8,8,8,8,8,8,8,8,8,8,8,8,8,8,8,8,8,8,8,8,8,8,8,8]:List UInt8).length)then lt1 (w64 (k+((nth ([0,1,2,2,3,3,3,3,4,4,4,4,4,4,4,4,5,5,5,5,5,5,5,5,5,5,5,5,5,5,5,5,6,6,6,6,6,6,6,6,6,6,6,6,6,6,6,6,6,6,6,6,6,6,6,6,6,6,6,6,6,6,6,6,7,7,7,7,7,7,7,7,7,7,7,7,7,7,7,7,7,7,7,7,7,7,7,7,7,7,7,7,7,7,7,7,7,7,7,7,7,7,7,7,7,7,7,7,7,7,7,7,7,7,7,7,7,7,7,7,7,7,7,7,7,7,7,7,8,8,8,8,8,8,8,8,8,8,8,8,8,8,8,8,8,8,8,8,8,8,8,8,8,8,8,8,8,8,8,8,8,8,8,8,8,8,8,8,8,8,8,8,8,8,8,8,8,8,8,8,8,8,8,8,8,8,8,8,8,8,8,8,8,8,8,8,8,8,8,8,8,8,8,8,8,8,8,8,8,8,8,8,8,8,8,8,8,8,8,8,8,8,8,8,8,8,8,8,8,8,8,8,8,8,8,8,8,8,8,8,8,8,8,8,8,8,8,8,8,8,8,8,8,8,8,8]:List UInt8) f.toUInt8.toNat).toNat:Int))) fun(l:Int)=>some l else none
def C7(a:UInt64):Option (Int) :=(EM a).bind fun b=>some (w64 (64-b))
def DS(yn1_2658:UInt64)(yn0_2660:UInt64)(un1_2666:UInt64)(q1_2701:UInt64)(a:UInt64):Option ((UInt64×UInt64)⊕(UInt64)) :=(if(decide (q1_2701≥(4294967296:UInt64)))then some true else some (decide ((q1_2701*yn0_2660)>(((4294967296:UInt64)*a)+un1_2666))):Option (Bool)).bind fun b=>if b then if(decide ((a+yn1_2658)≥(4294967296:UInt64)))then some (.inr (q1_2701-(1:UInt64))) else some (.inl ((q1_2701-(1:UInt64)),(a+yn1_2658))) else some (.inr q1_2701)
def DN(yn1_2658:UInt64)(yn0_2660:UInt64)(un0_2668:UInt64)(a:UInt64)(q0_2749:UInt64):Option ((UInt64×UInt64)⊕(UInt64)) :=(if(decide (q0_2749≥(4294967296:UInt64)))then some true else some (decide ((q0_2749*yn0_2660)>(((4294967296:UInt64)*a)+un0_2668))):Option (Bool)).bind fun b=>if b then if(decide ((a+yn1_2658)≥(4294967296:UInt64)))then some (.inr (q0_2749-(1:UInt64))) else some (.inl ((a+yn1_2658),(q0_2749-(1:UInt64)))) else some (.inr q0_2749)
def GR(e:UInt64)(c:UInt64)(a:UInt64):Option (UInt64×UInt64) :=if(a==(0:UInt64))then none else if(decide (a≤e))then none else if (e==(0:UInt64))then if ¬a=0 then if ¬a=0 then some ((c/a),(c%a)) else none else none else (C7 a).bind fun b=>lt1 (Lk a (UInt64.ofInt b).toNat) fun(d:UInt64)=>lt1 (Dz d (32:UInt64).toNat) fun(yn1_2658:UInt64)=>lt1 (d &&& (4294967295:UInt64)) fun(yn0_2660:UInt64)=>lt1 ((Lk e (UInt64.ofInt b).toNat) ||| (Dz c ((64:UInt64)-(UInt64.ofInt b)).toNat)) fun(un32_2662:UInt64)=>lt1 (Lk c (UInt64.ofInt b).toNat) fun(un10_2664:UInt64)=>lt1 (Dz un10_2664 (32:UInt64).toNat) fun(un1_2666:UInt64)=>lt1 (un10_2664 &&& (4294967295:UInt64)) fun(un0_2668:UInt64)=>if ¬yn1_2658=0 then lt1 (un32_2662-((un32_2662/yn1_2658)*yn1_2658)) fun(f:UInt64)=>((A3 (fun(v:UInt64×UInt64)=>DS yn1_2658 yn0_2660 un1_2666 v.1 v.2) ((un32_2662/yn1_2658),f)).bind fun q1_2706=>some q1_2706:Option (UInt64)).bind fun q1_2692=>lt1 (((un32_2662*(4294967296:UInt64))+un1_2666)-(q1_2692*d)) fun(un21_2715:UInt64)=>if ¬yn1_2658=0 then lt1 (un21_2715-((un21_2715/yn1_2658)*yn1_2658)) fun(g:UInt64)=>((A3 (fun(v:UInt64×UInt64)=>DN yn1_2658 yn0_2660 un0_2668 v.1 v.2) (g,(un21_2715/yn1_2658))).bind fun q0_2753=>some q0_2753:Option (UInt64)).bind fun q0_2739=>lt1 ((q1_2692*(4294967296:UInt64))+q0_2739) fun(i:UInt64)=>lt1 (Dz (((un21_2715*(4294967296:UInt64))+un0_2668)-(q0_2739*d)) (UInt64.ofInt b).toNat) fun(j:UInt64)=>some (i,j) else none else none
def BN(c:UInt64)(d:UInt64)(a:UInt64):Option (UInt64×UInt64) :=if ¬a=0 then if ¬a=0 then (GQ (c%a) (d%a)).bind fun b=>(GR b.1 b.2 a).bind fun e=>some (e.2,a) else none else none
def Eg(a:UInt64):Option (UInt64) :=some a
def Gc(g:UInt64)(d:UInt64)(i:Int)(c:UInt64)(a:Int)(j:UInt64):Option ((UInt64×Int×UInt64)⊕(UInt64)) :=if (decide (a<i))then ((BN c c j).bind fun b=>(EM d).bind fun e=>if EB (w64 ((w64 (e-1))-a))then lt1 (((Dz d ((w64 ((w64 (e-1))-a)).toNat)) &&& (1:UInt64))==(1:UInt64)) fun(k:Bool)=>if k then (BN b.1 g b.2).bind fun f=>some (f.1,f.2) else some (b.1,b.2) else none:Option (UInt64×UInt64)).bind fun(l,m)=>some (.inl (l,(w64 (a+1)),m)) else some (.inr c)
def F7(b:UInt64)(a:UInt64):Option (UInt64) :=(Eg (2305843009213690799:UInt64)).bind fun c=>((EM a).bind fun d=>(A3 (fun(v:UInt64×Int×UInt64)=>Gc b a d v.1 v.2.1 v.2.2) ((1:UInt64),0,c)).bind fun e=>some e:Option (UInt64)).bind fun f=>some f
def FE(a:UInt64):Option (Bool) :=(if(decide (a≥(2:UInt64)))then if(decide (a<(2305843009213690799:UInt64)))then (F7 a (1152921504606845399:UInt64)).bind fun b=>some (b==(1:UInt64)) else some false else some false:Option (Bool)).bind fun c=>some c
def Cb(a:AkA)(c:Bool)(b:Int):Option ((Bool×Int)⊕(Bool)) :=if (decide (b<(a.Zi1.length:Int)))then if InR b a.Zi1.length then lt1 ((nth a.Zi1 b.toNat).Zb1) fun(f:Int)=>lt1 ((nth a.Zi1 b.toNat).Low) fun(d:Int)=>lt1 ((nth a.Zi1 b.toNat).Zc1) fun(e:Int)=>(if c then some true else (Ay f 0 (w64 ((a.Zg1.Ze.length:Int)-1))).bind fun g=>if(!g)then some true else if(decide (d<(-1000)))then some true else if(decide (d>e))then some true else some (decide (e>1000)):Option (Bool)).bind fun i=>some (.inl (i,(w64 (b+1)))) else none else some (.inr c)
def Ca(a:AkA)(d:Bool)(b:Int):Option ((Bool×Int)⊕(Bool)) :=if (decide (b<(a.Zj1.length:Int)))then if InR b a.Zj1.length then lt1 ((nth a.Zj1 b.toNat).Zb1) fun(c:Int)=>(if d then some true else (Ay c 0 (w64 ((a.Zg1.Ze.length:Int)-1))).bind fun e=>if(!e)then some true else if InR c a.Zg1.Ze.length then some ((nth a.Zg1.Ze c.toNat).Za != 4) else none:Option (Bool)).bind fun f=>some (.inl (f,(w64 (b+1)))) else none else some (.inr d)
def Cg(a:AkA)(c:Bool)(b:Int):Option ((Bool×Int)⊕(Bool)) :=if (decide (b<(a.Zh1.Zy.length:Int)))then if InR b a.Zh1.Zy.length then lt1 ((nth a.Zh1.Zy b.toNat).Zo) fun(f:Int)=>lt1 ((nth a.Zh1.Zy b.toNat).Zp) fun(g:Int)=>lt1 ((nth a.Zh1.Zy b.toNat).Zq) fun(d:Int)=>lt1 ((nth a.Zh1.Zy b.toNat).Zr) fun(i:Int)=>lt1 ((nth a.Zh1.Zy b.toNat).Zs) fun(j:Int)=>(if c then some true else some (decide (d≥(a.Zg1.Ze.length:Int))):Option (Bool)).bind fun e=>some (.inl (e,(w64 (b+1)))) else none else some (.inr c)
def Ci(b:AkA)(c:Int)(d:Bool)(a:Int):Option ((Bool×Int)⊕(Bool)) :=if (decide (a<(b.Zg1.Ze.length:Int)))then if InR a b.Zg1.Ze.length then lt1 ((nth b.Zg1.Ze a.toNat).Za) fun(i:Int)=>lt1 ((nth b.Zg1.Ze a.toNat).Zb) fun(e:Int)=>lt1 ((nth b.Zg1.Ze a.toNat).Zc) fun(f:Int)=>(if d then some true else if(decide (e≥c))then some true else some (decide (f≥c)):Option (Bool)).bind fun g=>some (.inl (g,(w64 (a+1)))) else none else some (.inr d)
def Ce(b:AkA)(d:Int)(c:Bool)(a:Int):Option ((Bool×Int)⊕(Bool)) :=if (decide (a<(b.Zg1.Zf.length:Int)))then if InR a b.Zg1.Zf.length then lt1 ((nth b.Zg1.Zf a.toNat).A) fun(g:Int)=>lt1 ((nth b.Zg1.Zf a.toNat).B) fun(i:Int)=>lt1 ((nth b.Zg1.Zf a.toNat).Zb) fun(e:Int)=>lt1 ((nth b.Zg1.Zf a.toNat).Zd) fun(j:Int)=>lt1 ((nth b.Zg1.Zf a.toNat).Km) fun(k:Int)=>(if c then some true else some (decide (e≥d)):Option (Bool)).bind fun f=>some (.inl (f,(w64 (a+1)))) else none else some (.inr c)
def Ch(b:AkA)(c:Bool)(a:Int):Option ((Bool×Int)⊕(Bool)) :=if (decide (a<(b.Zk1.length:Int)))then if InR a b.Zk1.length then lt1 ((nth b.Zk1 a.toNat).Key) fun(d:UInt64)=>lt1 (((((nth b.Zk1 a.toNat).Zf1).Zd1).1).Zw) fun(e:Int)=>lt1 (((((nth b.Zk1 a.toNat).Zf1).Zd1).1).To) fun(f:Int)=>lt1 (((((nth b.Zk1 a.toNat).Zf1).Zd1).2.1).Zw) fun(g:Int)=>lt1 (((((nth b.Zk1 a.toNat).Zf1).Zd1).2.1).To) fun(i:Int)=>lt1 (((((nth b.Zk1 a.toNat).Zf1).Zd1).2.2.1).Zw) fun(j:Int)=>lt1 (((((nth b.Zk1 a.toNat).Zf1).Zd1).2.2.1).To) fun(k:Int)=>lt1 (((((nth b.Zk1 a.toNat).Zf1).Zd1).2.2.2.1).Zw) fun(l:Int)=>lt1 (((((nth b.Zk1 a.toNat).Zf1).Zd1).2.2.2.1).To) fun(m:Int)=>lt1 (((((nth b.Zk1 a.toNat).Zf1).Zd1).2.2.2.2.1).Zw) fun(n:Int)=>lt1 (((((nth b.Zk1 a.toNat).Zf1).Zd1).2.2.2.2.1).To) fun(o:Int)=>lt1 (((((nth b.Zk1 a.toNat).Zf1).Zd1).2.2.2.2.2.1).Zw) fun(p:Int)=>lt1 (((((nth b.Zk1 a.toNat).Zf1).Zd1).2.2.2.2.2.1).To) fun(q:Int)=>lt1 (((((nth b.Zk1 a.toNat).Zf1).Zd1).2.2.2.2.2.2).Zw) fun(s:Int)=>lt1 (((((nth b.Zk1 a.toNat).Zf1).Zd1).2.2.2.2.2.2).To) fun(t:Int)=>lt1 (((nth b.Zk1 a.toNat).Zf1).Ze1) fun(u:List Int)=>(if c then some true else (Ea ({ Zd1:=(({ Zw:=e,To:=f }:Akx),({ Zw:=g,To:=i }:Akx),({ Zw:=j,To:=k }:Akx),({ Zw:=l,To:=m }:Akx),({ Zw:=n,To:=o }:Akx),({ Zw:=p,To:=q }:Akx),({ Zw:=s,To:=t }:Akx)),Ze1:=u }:Aky)).bind fun v=>if(v != 0)then some true else (FE d).bind fun w=>some (!w):Option (Bool)).bind fun x=>some (.inl (x,(w64 (a+1)))) else none else some (.inr c)
def B8(a:AkA):Option (Int) :=(EA a.Zg1).bind fun c=>if(c != 0)then some c else (Gf a.Zh1).bind fun d=>if(d != 0)then some d else (if(decide ((a.Zi1.length:Int)>256))then some true else if(decide ((a.Zj1.length:Int)>256))then some true else some (decide ((a.Zk1.length:Int)>16)):Option (Bool)).bind fun e=>if e then some 2 else lt1 (a.Zk1.length:Int) fun(b:Int)=>((A3 (fun(v:Bool×Int)=>Cb a v.1 v.2) ((b==0),0)).bind fun f=>some f:Option (Bool)).bind fun g=>((A3 (fun(v:Bool×Int)=>Ca a v.1 v.2) (g,0)).bind fun i=>some i:Option (Bool)).bind fun j=>((A3 (fun(v:Bool×Int)=>Cg a v.1 v.2) (j,0)).bind fun k=>some k:Option (Bool)).bind fun l=>((A3 (fun(v:Bool×Int)=>Ci a b v.1 v.2) (l,0)).bind fun m=>some m:Option (Bool)).bind fun n=>((A3 (fun(v:Bool×Int)=>Ce a b v.1 v.2) (n,0)).bind fun o=>some o:Option (Bool)).bind fun p=>((A3 (fun(v:Bool×Int)=>Ch a v.1 v.2) (p,0)).bind fun q=>some q:Option (Bool)).bind fun s=>if s then some 1 else some 0
def EP(a:UInt64):Option (UInt64×Int) :=(if(decide (a<(1:UInt64)))then some true else some (decide (a≥(1152921504606845399:UInt64))):Option (Bool)).bind fun b=>if b then some ((0:UInt64),30) else (F7 (4:UInt64) a).bind fun c=>some (c,0)
def FI(a:AkH)(b:Int):Option (List AkF) :=if(decide (b≥(a.Zy1.length:Int)))then some ([]) else if InR b a.Zy1.length then some (nth a.Zy1 b.toNat) else none
def Fq(a:Int):Option (AkI) :=some (AkI.mk 1 a ([]) ([]))
def Ir(a:List UInt8):Option (AkI) :=some (AkI.mk 2 0 a ([]))
def AL(a:Int):Option (AkI) :=some (AkI.mk 1 a ([]) ([]))
def edi_list_cnil  : Option (AkI) :=some (AkI.mk 3 0 ([]) ([]))
def Gq(a:List AkI):Option (AkI) :=some (AkI.mk 3 0 ([]) a)
def DU(a:List AkI):Option (AkI) :=some (AkI.mk 3 0 ([]) a)
def L9(a:List UInt8):Option (AkI) :=some (AkI.mk 2 0 a ([]))
def D4(b:AkD)(a:Int)(c:List AkI):Option ((Int×List AkI)⊕(List AkI)) :=if (decide (a<(b.Zu1.length:Int)))then if InR a b.Zu1.length then lt1 ((nth b.Zu1 a.toNat).Za) fun(e:Int)=>lt1 ((nth b.Zu1 a.toNat).Zl1) fun(f:Int)=>lt1 ((nth b.Zu1 a.toNat).Zm1) fun(g:Bool)=>(if g then some 1 else some 0:Option (Int)).bind fun i=>(AL e).bind fun j=>(AL f).bind fun k=>(AL i).bind fun l=>(DU ([j,k,l]:List AkI)).bind fun d=>if Dj (c.length+1) 64 then lt1 (c++([(AkI.mk d.Za d.N ([]) d.L)]:List AkI)) fun(m:List AkI)=>some (.inl ((w64 (a+1)),m)) else none else none else some (.inr c)
def FK(a : AkD):Option (AkI) :=(AL a.Za).bind fun s=>(AL a.Ref.Zb).bind fun t=>(AL a.Ref.No).bind fun u=>(DU ([t,u]:List AkI)).bind fun b=>lt1 ([s,(AkI.mk b.Za b.N ([]) b.L)]:List AkI) fun(d:List AkI)=>((AL a.Zn1).bind fun w=>if Dj (d.length+1) 64 then lt1 (d++([w]:List AkI)) fun(e:List AkI)=>(AL a.Zb1).bind fun x=>if Dj (e.length+1) 64 then lt1 (e++([x]:List AkI)) fun(f:List AkI)=>(AL a.Zc).bind fun y=>if Dj (f.length+1) 64 then lt1 (f++([y]:List AkI)) fun(g:List AkI)=>(AL a.Zo1).bind fun z=>if Dj (g.length+1) 64 then lt1 (g++([z]:List AkI)) fun(i:List AkI)=>(AL a.Zw).bind fun aa=>if Dj (i.length+1) 64 then lt1 (i++([aa]:List AkI)) fun(j:List AkI)=>(AL a.To).bind fun ab=>if Dj (j.length+1) 64 then lt1 (j++([ab]:List AkI)) fun(k:List AkI)=>(AL a.Code).bind fun ac=>if Dj (k.length+1) 64 then lt1 (k++([ac]:List AkI)) fun(l:List AkI)=>(AL a.Zp1).bind fun ad=>if Dj (l.length+1) 64 then lt1 (l++([ad]:List AkI)) fun(m:List AkI)=>(AL a.Zq1).bind fun ae=>if Dj (m.length+1) 64 then lt1 (m++([ae]:List AkI)) fun(n:List AkI)=>(AL a.Zr1).bind fun af=>if Dj (n.length+1) 64 then lt1 (n++([af]:List AkI)) fun(o:List AkI)=>(AL a.Zs1).bind fun ag=>if Dj (o.length+1) 64 then lt1 (o++([ag]:List AkI)) fun(ah:List AkI)=>some ah else none else none else none else none else none else none else none else none else none else none else none:Option (List AkI)).bind fun p=>edi_list_cnil.bind fun q=>((A3 (fun(v:Int×List AkI)=>D4 a v.1 v.2) (0,[])).bind fun ai=>some ai:Option (List AkI)).bind fun aj=>(L9 a.Zt1).bind fun ak=>if Dj (p.length+2) 64 then (Gq (p++([ak,(AkI.mk q.Za q.N ([]) aj)]:List AkI))).bind fun c=>lt1 c.L fun(al:List AkI)=>some (AkI.mk c.Za c.N ([]) al) else none
def DM(a:AkF):Option (List AkI) :=(Fq a.Zb).bind fun b=>(Fq a.No).bind fun c=>(Ir a.Zv1.l).bind fun d=>(Fq a.Zw1).bind fun e=>(FK a.Zx1).bind fun f=>lt1 ([b,c,d,e,f]:List AkI) fun(g:List AkI)=>some g
def DE(c:UInt64)(d:List UInt8)(a:Int)(b:List UInt8):Option ((Int×List UInt8)⊕(List UInt8)) :=if (decide (a<(d.length:Int)))then if EB (w64 (56-(w64 (8*a))))then if InR a b.length then lt1 (b.set a.toNat ((Dz c ((w64 (56-(w64 (8*a)))).toNat)).toUInt8)) fun(e:List UInt8)=>some (.inl ((w64 (a+1)),e)) else none else none else some (.inr b)
def GO(b:UInt64):Option (AkI) :=if Mk 8 8 1 then lt1 (List.replicate 8 (0:UInt8)) fun(a:List UInt8)=>((A3 (fun(v:Int×List UInt8)=>DE b a v.1 v.2) (0,a)).bind fun c=>some c:Option (List UInt8)).bind fun d=>(Ir d).bind fun e=>some e else none
def HU(a:List AkI):Option (AkI) :=some (AkI.mk 3 0 ([]) a)
def BO(b:AkI)(rec_:AkI→Option (Int×Bool))(c:Int)(a:Int):Option ((Int×Int)⊕((Int)⊕((Int)⊕((Unit)⊕(Int×Bool))))) :=if (decide (a<(b.L.length:Int)))then if InR a b.L.length then lt1 ((nth b.L a.toNat).Za) fun(e:Int)=>lt1 ((nth b.L a.toNat).N) fun(f:Int)=>lt1 ((nth b.L a.toNat).B) fun(g:List UInt8)=>lt1 ((nth b.L a.toNat).L) fun(i:List AkI)=>(rec_ (AkI.mk e f g i)).bind fun d=>if(!d.2)then (((some (0,false)).bind fun j=>some (.inr j)).bind fun k=>some (.inr k)).bind fun l=>some (.inr (.inr l)) else some (.inl ((L8 c d.1),(w64 (a+1)))) else none else some (.inr (.inl c))
def EJ(rec_:AkI→Option (Int×Bool))(a:AkI):Option (Int×Bool) :=(if(a.Za==1)then (if((a.B.length:Int)==0)then some ((a.L.length:Int)==0) else some false:Option (Bool)).bind fun b=>(some (0,b)).bind fun c=>some (.inr c) else if(a.Za==2)then (if(a.N==0)then some ((a.L.length:Int)==0) else some false:Option (Bool)).bind fun d=>(some (0,d)).bind fun e=>some (.inr e) else if (a.Za==3)then (if(a.N != 0)then some true else some ((a.B.length:Int) != 0):Option (Bool)).bind fun f=>if f then (some (0,false)).bind fun g=>some (.inr g) else ((A3 (fun(v:Int×Int)=>BO a rec_ v.1 v.2) (0,0)).bind fun x=>match x with
     |.inl i=>some (.inl i)
     |.inr z=>some z:Option ((Int)⊕((Unit)⊕(Int×Bool)))).bind fun x=>match x with
     |.inl j=>(some ((w64 (j+1)),true)).bind fun k=>some (.inr k)
     |.inr z=>some z else some (.inl ()):Option ((Unit)⊕(Int×Bool))).bind fun x=>match x with
 |.inl ()=>some (0,false)
 |.inr z=>some z
def DQ(n:Nat):AkI→Option (Int×Bool):=match n with
 |0=>fun _=>none
 |n+1=>EJ (DQ n)
def ID(a:AkI):Option (Int×Bool):=DQ 18446744073709551616 a
def Bb(a:UInt64)(b:Int):Option ((UInt64×Int)⊕(Int)) :=if(decide (a>(0:UInt64)))then lt1 (Dz a (8:UInt64).toNat) fun(c:UInt64)=>some (.inl (c,(w64 (b+1)))) else some (.inr b)
def BI(a:UInt64):Option (Int) :=((A3 (fun(v:UInt64×Int)=>Bb v.1 v.2) (a,0)).bind fun b=>some b:Option (Int)).bind fun c=>some c
def Bf(d:Int)(b:Int)(a:Int)(c:List UInt8):Option ((Int×List UInt8)⊕(List UInt8)) :=if (decide (a<b))then if EB (w64 (8*(w64 ((w64 (b-1))-a))))then if Dj (c.length+1) 1 then lt1 (c++([(Dz (UInt64.ofInt d) ((w64 (8*(w64 ((w64 (b-1))-a)))).toNat)).toUInt8]:List UInt8)) fun(e:List UInt8)=>some (.inl ((w64 (a+1)),e)) else none else none else some (.inr c)
def DI(b:List UInt8)(a:Int):Option (List UInt8) :=(BI (UInt64.ofInt a)).bind fun c=>lt1 (UInt8.ofInt (w64 (32+c))) fun(e:UInt8)=>(if(decide (a<0))then (BI (~~~(UInt64.ofInt a))).bind fun d=>lt1 (UInt8.ofInt (w64 (31-d))) fun(f:UInt8)=>some (d,f) else some (c,e):Option (Int×UInt8)).bind fun(g,i)=>if Dj (b.length+1) 1 then lt1 (b++([i]:List UInt8)) fun(j:List UInt8)=>((A3 (fun(v:Int×List UInt8)=>Bf a g v.1 v.2) (0,j)).bind fun k=>some k:Option (List UInt8)).bind fun l=>some l else none
def AP(b:AkI)(a:Int)(c:List UInt8):Option ((Int×List UInt8)⊕(List UInt8)) :=if (decide (a<(b.B.length:Int)))then (if InR a b.B.length then if Dj (c.length+1) 1 then lt1 (c++([nth b.B a.toNat]:List UInt8)) fun(d:List UInt8)=>if(nth b.B a.toNat==(0:UInt8))then if Dj (d.length+1) 1 then lt1 (d++([(255:UInt8)]:List UInt8)) fun(e:List UInt8)=>some e else none else some d else none else none:Option (List UInt8)).bind fun f=>some (.inl ((w64 (a+1)),f)) else some (.inr c)
def AO(b:AkI)(rec_:(List UInt8)→AkI→Option (List UInt8))(a:Int)(c:List UInt8):Option ((Int×List UInt8)⊕(List UInt8)) :=if(decide (a<(b.L.length:Int)))then if InR a b.L.length then lt1 ((nth b.L a.toNat).Za) fun(d:Int)=>lt1 ((nth b.L a.toNat).N) fun(e:Int)=>lt1 ((nth b.L a.toNat).B) fun(f:List UInt8)=>lt1 ((nth b.L a.toNat).L) fun(g:List AkI)=>(rec_ c (AkI.mk d e f g)).bind fun i=>some (.inl ((w64 (a+1)),i)) else none else some (.inr c)
def C3(rec_:(List UInt8)→AkI→Option (List UInt8))(a:List UInt8)(b:AkI):Option (List UInt8) :=(if(b.Za==1)then (DI a b.N).bind fun e=>(some e).bind fun f=>some (.inr f) else if (b.Za==2)then if Dj (a.length+1) 1 then lt1 (a++([(48:UInt8)]:List UInt8)) fun(g:List UInt8)=>((A3 (fun(v:Int×List UInt8)=>AP b v.1 v.2) (0,g)).bind fun i=>some i:Option (List UInt8)).bind fun c=>if Dj (c.length+2) 1 then lt1 (c++([(0:UInt8),(0:UInt8)]:List UInt8)) fun(j:List UInt8)=>(some j).bind fun k=>some (.inr k) else none else none else some (.inl ()):Option ((Unit)⊕(List UInt8))).bind fun x=>match x with
 | .inl ()=>if Dj (a.length+1) 1 then lt1 (a++([(64:UInt8)]:List UInt8)) fun(l:List UInt8)=>((A3 (fun(v:Int×List UInt8)=>AO b rec_ v.1 v.2) (0,l)).bind fun m=>some m:Option (List UInt8)).bind fun d=>if Dj (d.length+1) 1 then lt1 (d++([(0:UInt8)]:List UInt8)) fun(n:List UInt8)=>some n else none else none
 |.inr z=>some z
def BL(n:Nat):(List UInt8)→AkI→Option (List UInt8):=match n with
 |0=>fun _ _=>none
 |n+1=>C3 (BL n)
def Fa(a:List UInt8)(b:AkI):Option (List UInt8):=BL 18446744073709551616 a b
def Et(a:AkI):Option (List UInt8×Int) :=(ID a).bind fun b=>if(!b.2)then some ([],10) else if(decide (b.1>16))then some ([],2) else (Fa ([]) a).bind fun c=>if(decide ((c.length:Int)>65536))then some ([],2) else some (c,0)
def FR(a:AkF):Option (List UInt8×Int) :=(DM a).bind fun b=>(GO a.Sig.C).bind fun d=>(GO a.Sig.S).bind fun e=>(HU ([d,e]:List AkI)).bind fun f=>if Dj (b.length+1) 64 then (HU (b++([f]:List AkI))).bind fun g=>(Et g).bind fun c=>some (c.1,c.2) else none
def A7(a:UInt32)(c:Int):Option (UInt32) :=lt1 ((UInt64.ofInt c) &&& (31:UInt64)) fun(b:UInt64)=>lt1 ((UU a b.toNat) ||| (Rh a ((32:UInt64)-b).toNat)) fun(d:UInt32)=>some d
def D5(b:List UInt8)(a:Int)(c:Arr UInt32 64):Option ((Int×Arr UInt32 64)⊕(Arr UInt32 64)) :=if (decide (a<16))then if InR (w64 (4*a)) b.length then if InR (w64 ((w64 (4*a))+1)) b.length then if InR (w64 ((w64 (4*a))+2)) b.length then if InR (w64 ((w64 (4*a))+3)) b.length then if InR a 64 then lt1 (c.set a.toNat ((((UU ((nth b ((w64 (4*a)).toNat)).toUInt32) (24:UInt64).toNat) ||| (UU ((nth b ((w64 ((w64 (4*a))+1)).toNat)).toUInt32) (16:UInt64).toNat)) ||| (UU ((nth b ((w64 ((w64 (4*a))+2)).toNat)).toUInt32) (8:UInt64).toNat)) ||| (nth b ((w64 ((w64 (4*a))+3)).toNat)).toUInt32)) fun(d:Arr UInt32 64)=>some (.inl ((w64 (a+1)),d)) else none else none else none else none else none else some (.inr c)
def D7(a:Int)(b:Arr UInt32 64):Option ((Int×Arr UInt32 64)⊕(Arr UInt32 64)) :=if (decide (a<64))then if InR (w64 (a-15)) 64 then if InR (w64 (a-2)) 64 then lt1 (b.get ((w64 (a-15)).toNat)) fun(c:UInt32)=>lt1 (b.get ((w64 (a-2)).toNat)) fun(d:UInt32)=>(A7 c (-7)).bind fun e=>(A7 c (-18)).bind fun f=>lt1 ((e ^^^ f) ^^^ (Rh c (3:UInt64).toNat)) fun(s0_5401:UInt32)=>(A7 d (-17)).bind fun g=>(A7 d (-19)).bind fun i=>lt1 ((g ^^^ i) ^^^ (Rh d (10:UInt64).toNat)) fun(s1_5407:UInt32)=>if InR (w64 (a-16)) 64 then if InR (w64 (a-7)) 64 then if InR a 64 then lt1 (b.set a.toNat ((((b.get ((w64 (a-16)).toNat))+s0_5401)+(b.get ((w64 (a-7)).toNat)))+s1_5407)) fun(j:Arr UInt32 64)=>some (.inl ((w64 (a+1)),j)) else none else none else none else none else none else some (.inr b)
def DK(d:Arr UInt32 64)(b:Int)(a:Arr UInt32 8):Option ((Int×Arr UInt32 8)⊕(Arr UInt32 8)) :=if (decide (b<64))then (A7 (a.get 4) (-6)).bind fun e=>(A7 (a.get 4) (-11)).bind fun f=>(A7 (a.get 4) (-25)).bind fun g=>if InR b 64 then if InR b 64 then lt1 (((((a.get 7)+((e ^^^ f) ^^^ g))+(((a.get 4) &&& (a.get 5)) ^^^ ((~~~(a.get 4)) &&& (a.get 6))))+(glob2.get b.toNat))+(d.get b.toNat)) fun(c:UInt32)=>(A7 (a.get 0) (-2)).bind fun i=>(A7 (a.get 0) (-13)).bind fun j=>(A7 (a.get 0) (-22)).bind fun k=>lt1 (((i ^^^ j) ^^^ k)+((((a.get 0) &&& (a.get 1)) ^^^ ((a.get 0) &&& (a.get 2))) ^^^ ((a.get 1) &&& (a.get 2)))) fun(l:UInt32)=>lt1 (⟨[(c+l),(a.get 0),(a.get 1),(a.get 2),((a.get 3)+c),(a.get 4),(a.get 5),(a.get 6)],rfl⟩:Arr UInt32 8) fun(m:Arr UInt32 8)=>some (.inl ((w64 (b+1)),m)) else none else none else some (.inr a)
def DD(c:Arr UInt32 8)(a:Int)(b:Arr UInt32 8):Option ((Int×Arr UInt32 8)⊕(Arr UInt32 8)) :=if (decide (a<8))then if InR a 8 then if InR a 8 then if InR a 8 then lt1 (b.set a.toNat ((b.get a.toNat)+(c.get a.toNat))) fun(d:Arr UInt32 8)=>some (.inl ((w64 (a+1)),d)) else none else none else none else some (.inr b)
def Fl(a:Arr UInt32 8)(b:List UInt8):Option (Arr UInt32 8) :=((A3 (fun(v:Int×Arr UInt32 64)=>D5 b v.1 v.2) (0,(Arr.rep 64 (0:UInt32)))).bind fun c=>some c:Option (Arr UInt32 64)).bind fun d=>((A3 (fun(v:Int×Arr UInt32 64)=>D7 v.1 v.2) (16,d)).bind fun e=>some e:Option (Arr UInt32 64)).bind fun f=>((A3 (fun(v:Int×Arr UInt32 8)=>DK f v.1 v.2) (0,a)).bind fun g=>some g:Option (Arr UInt32 8)).bind fun i=>((A3 (fun(v:Int×Arr UInt32 8)=>DD i v.1 v.2) (0,a)).bind fun j=>some j:Option (Arr UInt32 8)).bind fun k=>some k
def DP(b:List (List UInt8))(a:Int)(c:List UInt8):Option ((Int×List UInt8)⊕(List UInt8)) :=if (decide (a<(b.length:Int)))then if InR a b.length then lt1 (nth b a.toNat) fun(d:List UInt8)=>if Dj (c.length+d.length) 1 then lt1 (c++d) fun(e:List UInt8)=>some (.inl ((w64 (a+1)),e)) else none else none else some (.inr c)
def EG(a:List UInt8):Option ((List UInt8)⊕(List UInt8)) :=if((((a.length:Int):Int).tmod 64) != 56)then if Dj (a.length+1) 1 then lt1 (a++([(0:UInt8)]:List UInt8)) fun(b:List UInt8)=>some (.inl b) else none else some (.inr a)
def DV(c:UInt64)(a:Int)(b:List UInt8):Option ((Int×List UInt8)⊕(List UInt8)) :=if (decide (a≥0))then if EB a then if Dj (b.length+1) 1 then lt1 (b++([(Dz c a.toNat).toUInt8]:List UInt8)) fun(d:List UInt8)=>some (.inl ((w64 (a-8)),d)) else none else none else some (.inr b)
def E3(d:List UInt8)(b:Nat)(a:Nat)(c:Arr UInt32 8):Option ((Nat×Nat×Arr UInt32 8)⊕(Arr UInt32 8)) :=if (decide ((a:Int)>0))then if InB 64 a then (Fl c ((d.drop b).take 64)).bind fun e=>if InB 64 a then some (.inl ((b+64),(a-64),e)) else none else none else some (.inr c)
def EI(c:Arr UInt32 8)(a:Int)(b:Arr UInt8 32):Option ((Int×Arr UInt8 32)⊕(Arr UInt8 32)) :=if (decide (a<32))then if InR (w64 ((a:Int).tdiv 4)) 8 then if EB (w64 (24-(w64 (8*((a:Int).tmod 4)))))then if InR a 32 then lt1 (b.set a.toNat ((Rh (c.get ((w64 ((a:Int).tdiv 4)).toNat)) ((w64 (24-(w64 (8*((a:Int).tmod 4))))).toNat)).toUInt8)) fun(d:Arr UInt8 32)=>some (.inl ((w64 (a+1)),d)) else none else none else none else some (.inr b)
def GJ(c:List (List UInt8)):Option (Arr UInt8 32) :=((A3 (fun(v:Int×List UInt8)=>DP c v.1 v.2) (0,[])).bind fun d=>some d:Option (List UInt8)).bind fun a=>lt1 ((UInt64.ofInt (a.length:Int))*(8:UInt64)) fun(e:UInt64)=>if Dj (a.length+1) 1 then lt1 (a++([(128:UInt8)]:List UInt8)) fun(f:List UInt8)=>((A3 (fun(v:List UInt8)=>EG v) f).bind fun g=>some g:Option (List UInt8)).bind fun i=>((A3 (fun(v:Int×List UInt8)=>DV e v.1 v.2) (56,i)).bind fun j=>some j:Option (List UInt8)).bind fun b=>lt1 (⟨[(1779033703:UInt32),3144134277,1013904242,2773480762,1359893119,2600822924,528734635,1541459225],rfl⟩:Arr UInt32 8) fun(k:Arr UInt32 8)=>((A3 (fun(v:Nat×Nat×Arr UInt32 8)=>E3 b v.1 v.2.1 v.2.2) (0,b.length,k)).bind fun l=>some l:Option (Arr UInt32 8)).bind fun m=>((A3 (fun(v:Int×Arr UInt8 32)=>EI m v.1 v.2) (0,(Arr.rep 32 (0:UInt8)))).bind fun n=>some n:Option (Arr UInt8 32)).bind fun o=>some o else none
def CF(a:List UInt8)(c:List UInt8):Option (Arr UInt8 32) :=if InB (NX (a.length:Int) 255) a.length then lt1 (a.take ((NX (a.length:Int) 255).toNat)) fun(b:List UInt8)=>(GJ ([([(UInt8.ofInt (b.length:Int))]:List UInt8),b,c]:List (List UInt8))).bind fun d=>some d else none
def D0(b:AkF):Option (Arr UInt8 32×Int) :=(FR b).bind fun a=>if(a.2 != 0)then some ((Arr.rep 32 (0:UInt8)),a.2) else (CF ([114,101,99,111,114,100]:List UInt8) a.1).bind fun c=>some (c,0)
def Gd(b:AkF):Option (List UInt8×Int) :=(DM b).bind fun c=>(HU c).bind fun d=>(Et d).bind fun a=>some (a.1,a.2)
def Dg(c:UInt64)(a:Int)(b:List UInt8):Option ((Int×List UInt8)⊕(List UInt8)) :=if (decide (a<8))then if EB (w64 (56-(w64 (8*a))))then if Dj (b.length+1) 1 then lt1 (b++([(Dz c ((w64 (56-(w64 (8*a)))).toNat)).toUInt8]:List UInt8)) fun(d:List UInt8)=>some (.inl ((w64 (a+1)),d)) else none else none else some (.inr b)
def Ds(b:List UInt64)(a:Int)(c:List UInt8):Option ((Int×List UInt8)⊕(List UInt8)) :=if(decide (a<(b.length:Int)))then (if InR a b.length then lt1 (nth b a.toNat) fun(d:UInt64)=>(A3 (fun(v:Int×List UInt8)=>Dg d v.1 v.2) (0,c)).bind fun e=>some e else none:Option (List UInt8)).bind fun f=>some (.inl ((w64 (a+1)),f)) else some (.inr c)
def EX(a:List UInt8)(b:List UInt64):Option (List UInt8) :=if Mk 0 (w64 ((w64 (8*(b.length:Int)))+(a.length:Int))) 1 then lt1 (List.replicate 0 (0:UInt8)) fun(d:List UInt8)=>((A3 (fun(v:Int×List UInt8)=>Ds b v.1 v.2) (0,d)).bind fun e=>some e:Option (List UInt8)).bind fun c=>if Dj (c.length+a.length) 1 then lt1 (c++a) fun(f:List UInt8)=>some f else none else none
def CD(b:Arr UInt8 32)(c:UInt64)(a:Int):Option ((UInt64×Int)⊕(UInt64)) :=if(decide (a<((b.l.take 8).length:Int)))then if InR a ((b.l.take 8).length)then lt1 (nth (b.l.take 8) a.toNat) fun(d:UInt8)=>lt1 ((Lk c (8:UInt64).toNat) ||| d.toUInt64) fun(e:UInt64)=>some (.inl (e,(w64 (a+1)))) else none else some (.inr c)
def DO(a:Arr UInt8 32):Option (UInt64) :=((A3 (fun(v:UInt64×Int)=>CD a v.1 v.2) ((0:UInt64),0)).bind fun b=>some b:Option (UInt64)).bind fun c=>some c
def Dn(a:UInt64)(b:UInt64)(c:List UInt8):Option (UInt64) :=(EX c ([a,b]:List UInt64)).bind fun d=>(CF ([99,104,97,108,108,101,110,103,101]:List UInt8) d).bind fun e=>(DO e).bind fun f=>some (f%(1152921504606845399:UInt64))
def FV(a:UInt64)(b:List UInt8):Option (AkE×Int) :=(EP a).bind fun c=>if(c.2 != 0)then some (({ C:=(0:UInt64),S:=(0:UInt64) }:AkE),c.2) else if(decide ((b.length:Int)>65536))then some (({ C:=(0:UInt64),S:=(0:UInt64) }:AkE),2) else (EX b ([a]:List UInt64)).bind fun f=>(CF ([110,111,110,99,101]:List UInt8) f).bind fun g=>(DO g).bind fun i=>lt1 ((i%(1152921504606845398:UInt64))+(1:UInt64)) fun(d:UInt64)=>(F7 (4:UInt64) d).bind fun j=>(Dn j c.1 b).bind fun e=>(Eg (1152921504606845399:UInt64)).bind fun k=>(BN e a k).bind fun l=>lt1 ((d+l.1)%(1152921504606845399:UInt64)) fun(m:UInt64)=>some (({ C:=e,S:=m }:AkE),0)
def F9(a:AkD):Option (Bool) :=if((a.Ref.Zb==0)&&(a.Ref.No==0))then some (a.Za != 14) else (if(decide (a.Ref.Zb≥0))then if(decide (a.Ref.Zb<16))then if(decide (a.Ref.No≥1))then some (decide (a.Ref.No≤4096)) else some false else some false else some false:Option (Bool)).bind fun b=>some b
def BW(a:AkJ)(b:Int)(c:Int):Option (AkJ) :=(if a.ok=true then if(decide (b≤a.it.Zn1))then some (decide (a.it.Zn1≤c)) else some false else some false:Option (Bool)).bind fun d=>some ({ p:=a.p,it:=({ Za:=a.it.Za,Ref:=a.it.Ref,Zn1:=0,Zb1:=a.it.Zb1,Zc:=a.it.Zc,Zo1:=a.it.Zo1,Zw:=a.it.Zw,To:=a.it.To,Code:=a.it.Code,Zp1:=a.it.Zp1,Zq1:=a.it.Zq1,Zr1:=a.it.Zr1,Zs1:=a.it.Zs1,Zt1:=a.it.Zt1,Zu1:=a.it.Zu1 }:AkD),ok:=d }:AkJ)
def Bi(a:AkJ)(b:Int)(c:Int):Option (AkJ) :=(if a.ok=true then if(decide (b≤a.it.Zc))then some (decide (a.it.Zc≤c)) else some false else some false:Option (Bool)).bind fun d=>some ({ p:=a.p,it:=({ Za:=a.it.Za,Ref:=a.it.Ref,Zn1:=a.it.Zn1,Zb1:=a.it.Zb1,Zc:=0,Zo1:=a.it.Zo1,Zw:=a.it.Zw,To:=a.it.To,Code:=a.it.Code,Zp1:=a.it.Zp1,Zq1:=a.it.Zq1,Zr1:=a.it.Zr1,Zs1:=a.it.Zs1,Zt1:=a.it.Zt1,Zu1:=a.it.Zu1 }:AkD),ok:=d }:AkJ)
def Bj(a:AkJ)(b:Int)(c:Int):Option (AkJ) :=(if a.ok=true then if(decide (b≤a.it.Zo1))then some (decide (a.it.Zo1≤c)) else some false else some false:Option (Bool)).bind fun d=>some ({ p:=a.p,it:=({ Za:=a.it.Za,Ref:=a.it.Ref,Zn1:=a.it.Zn1,Zb1:=a.it.Zb1,Zc:=a.it.Zc,Zo1:=0,Zw:=a.it.Zw,To:=a.it.To,Code:=a.it.Code,Zp1:=a.it.Zp1,Zq1:=a.it.Zq1,Zr1:=a.it.Zr1,Zs1:=a.it.Zs1,Zt1:=a.it.Zt1,Zu1:=a.it.Zu1 }:AkD),ok:=d }:AkJ)
def BS(a:AkJ)(b:Int)(c:Int):Option (AkJ) :=(if a.ok=true then if(decide (b≤a.it.Zw))then some (decide (a.it.Zw≤c)) else some false else some false:Option (Bool)).bind fun d=>some ({ p:=a.p,it:=({ Za:=a.it.Za,Ref:=a.it.Ref,Zn1:=a.it.Zn1,Zb1:=a.it.Zb1,Zc:=a.it.Zc,Zo1:=a.it.Zo1,Zw:=0,To:=a.it.To,Code:=a.it.Code,Zp1:=a.it.Zp1,Zq1:=a.it.Zq1,Zr1:=a.it.Zr1,Zs1:=a.it.Zs1,Zt1:=a.it.Zt1,Zu1:=a.it.Zu1 }:AkD),ok:=d }:AkJ)
def BQ(a:AkJ)(b:Int)(c:Int):Option (AkJ) :=(if a.ok=true then if(decide (b≤a.it.To))then some (decide (a.it.To≤c)) else some false else some false:Option (Bool)).bind fun d=>some ({ p:=a.p,it:=({ Za:=a.it.Za,Ref:=a.it.Ref,Zn1:=a.it.Zn1,Zb1:=a.it.Zb1,Zc:=a.it.Zc,Zo1:=a.it.Zo1,Zw:=a.it.Zw,To:=0,Code:=a.it.Code,Zp1:=a.it.Zp1,Zq1:=a.it.Zq1,Zr1:=a.it.Zr1,Zs1:=a.it.Zs1,Zt1:=a.it.Zt1,Zu1:=a.it.Zu1 }:AkD),ok:=d }:AkJ)
def AU(a:AkJ)(b:Int)(c:Int):Option (AkJ) :=(if a.ok=true then if(decide (b≤a.it.Code))then some (decide (a.it.Code≤c)) else some false else some false:Option (Bool)).bind fun d=>some ({ p:=a.p,it:=({ Za:=a.it.Za,Ref:=a.it.Ref,Zn1:=a.it.Zn1,Zb1:=a.it.Zb1,Zc:=a.it.Zc,Zo1:=a.it.Zo1,Zw:=a.it.Zw,To:=a.it.To,Code:=0,Zp1:=a.it.Zp1,Zq1:=a.it.Zq1,Zr1:=a.it.Zr1,Zs1:=a.it.Zs1,Zt1:=a.it.Zt1,Zu1:=a.it.Zu1 }:AkD),ok:=d }:AkJ)
def BZ(a:AkJ)(b:Int)(c:Int):Option (AkJ) :=(if a.ok=true then if(decide (b≤a.it.Zp1))then some (decide (a.it.Zp1≤c)) else some false else some false:Option (Bool)).bind fun d=>some ({ p:=a.p,it:=({ Za:=a.it.Za,Ref:=a.it.Ref,Zn1:=a.it.Zn1,Zb1:=a.it.Zb1,Zc:=a.it.Zc,Zo1:=a.it.Zo1,Zw:=a.it.Zw,To:=a.it.To,Code:=a.it.Code,Zp1:=0,Zq1:=a.it.Zq1,Zr1:=a.it.Zr1,Zs1:=a.it.Zs1,Zt1:=a.it.Zt1,Zu1:=a.it.Zu1 }:AkD),ok:=d }:AkJ)
def BX(a:AkJ)(b:Int)(c:Int):Option (AkJ) :=(if a.ok=true then if(decide (b≤a.it.Zq1))then some (decide (a.it.Zq1≤c)) else some false else some false:Option (Bool)).bind fun d=>some ({ p:=a.p,it:=({ Za:=a.it.Za,Ref:=a.it.Ref,Zn1:=a.it.Zn1,Zb1:=a.it.Zb1,Zc:=a.it.Zc,Zo1:=a.it.Zo1,Zw:=a.it.Zw,To:=a.it.To,Code:=a.it.Code,Zp1:=a.it.Zp1,Zq1:=0,Zr1:=a.it.Zr1,Zs1:=a.it.Zs1,Zt1:=a.it.Zt1,Zu1:=a.it.Zu1 }:AkD),ok:=d }:AkJ)
def B4(a:AkJ)(b:Int)(c:Int):Option (AkJ) :=(if a.ok=true then if(decide (b≤a.it.Zr1))then some (decide (a.it.Zr1≤c)) else some false else some false:Option (Bool)).bind fun d=>some ({ p:=a.p,it:=({ Za:=a.it.Za,Ref:=a.it.Ref,Zn1:=a.it.Zn1,Zb1:=a.it.Zb1,Zc:=a.it.Zc,Zo1:=a.it.Zo1,Zw:=a.it.Zw,To:=a.it.To,Code:=a.it.Code,Zp1:=a.it.Zp1,Zq1:=a.it.Zq1,Zr1:=0,Zs1:=a.it.Zs1,Zt1:=a.it.Zt1,Zu1:=a.it.Zu1 }:AkD),ok:=d }:AkJ)
def B0(a:AkJ)(b:Int)(c:Int):Option (AkJ) :=(if a.ok=true then if(decide (b≤a.it.Zs1))then some (decide (a.it.Zs1≤c)) else some false else some false:Option (Bool)).bind fun d=>some ({ p:=a.p,it:=({ Za:=a.it.Za,Ref:=a.it.Ref,Zn1:=a.it.Zn1,Zb1:=a.it.Zb1,Zc:=a.it.Zc,Zo1:=a.it.Zo1,Zw:=a.it.Zw,To:=a.it.To,Code:=a.it.Code,Zp1:=a.it.Zp1,Zq1:=a.it.Zq1,Zr1:=a.it.Zr1,Zs1:=0,Zt1:=a.it.Zt1,Zu1:=a.it.Zu1 }:AkD),ok:=d }:AkJ)
def BJ(a:AkJ):Option (AkJ) :=(BW a 0 (w64 ((a.p.Zh1.Zy.length:Int)-1))).bind fun b=>some b
def AY(a:AkJ):Option (AkJ) :=(BS a 0 1073741824).bind fun b=>some b
def AZ(a:AkJ)(c:Int):Option (Akn×AkJ) :=((if(decide (a.it.Zb1≥0))then some (decide (a.it.Zb1<(a.p.Zg1.Ze.length:Int))) else some false:Option (Bool)).bind fun d=>if d then if InR a.it.Zb1 a.p.Zg1.Ze.length then lt1 ((nth a.p.Zg1.Ze a.it.Zb1.toNat).Za) fun(e:Int)=>lt1 ((nth a.p.Zg1.Ze a.it.Zb1.toNat).Zb) fun(f:Int)=>lt1 ((nth a.p.Zg1.Ze a.it.Zb1.toNat).Zc) fun(g:Int)=>some (e,f,g) else none else some (0,0,0):Option (Int×Int×Int)).bind fun(b,i,j)=>(if a.ok=true then if(b != 0)then if(c==0)then some true else some (b==c) else some false else some false:Option (Bool)).bind fun k=>some (({ Za:=b,Zb:=i,Zc:=j }:Akn),({ p:=a.p,it:=({ Za:=a.it.Za,Ref:=a.it.Ref,Zn1:=a.it.Zn1,Zb1:=0,Zc:=a.it.Zc,Zo1:=a.it.Zo1,Zw:=a.it.Zw,To:=a.it.To,Code:=a.it.Code,Zp1:=a.it.Zp1,Zq1:=a.it.Zq1,Zr1:=a.it.Zr1,Zs1:=a.it.Zs1,Zt1:=a.it.Zt1,Zu1:=a.it.Zu1 }:AkD),ok:=k }:AkJ))
def Cj(a:AkJ):Option (AkJ) :=(BQ a (L8 a.it.Zw 0) 1073741824).bind fun b=>(AY b).bind fun c=>some c
def Bw(a:AkJ):Option (AkJ) :=(Bi a 0 (w64 ((a.p.Zj1.length:Int)-1))).bind fun b=>some b
def C0(a:AkJ):Option (AkJ) :=(BX a 0 63).bind fun b=>some b
def Cp(c:AkJ):Option (AkJ) :=if(decide (c.it.Za<1))then some ({ p:=c.p,it:=c.it,ok:=false }:AkJ) else (BJ c).bind fun b=>if(b.it.Za==1)then (Bi b 0 (w64 ((b.p.Zi1.length:Int)-1))).bind fun f=>(AY f).bind fun g=>some g else if(b.it.Za==2)then (AZ b 0).bind fun i=>(Cj i.2).bind fun j=>some j else (if(b.it.Za==3)then some (b.it.Za==3) else some (b.it.Za==4):Option (Bool)).bind fun k=>if k then (AZ b 3).bind fun a=>(if a.2.ok=true then if(a.2.it.Zc==a.1.Zb)then some true else some (a.2.it.Zc==a.1.Zc) else some false:Option (Bool)).bind fun l=>(AY ({ p:=a.2.p,it:=({ Za:=a.2.it.Za,Ref:=a.2.it.Ref,Zn1:=a.2.it.Zn1,Zb1:=a.2.it.Zb1,Zc:=0,Zo1:=a.2.it.Zo1,Zw:=a.2.it.Zw,To:=a.2.it.To,Code:=a.2.it.Code,Zp1:=a.2.it.Zp1,Zq1:=a.2.it.Zq1,Zr1:=a.2.it.Zr1,Zs1:=a.2.it.Zs1,Zt1:=a.2.it.Zt1,Zu1:=a.2.it.Zu1 }:AkD),ok:=l }:AkJ)).bind fun m=>(AU m 0 8).bind fun n=>some n else if(b.it.Za==5)then (Bj b 1 1000000000).bind fun o=>(Bw o).bind fun q=>(AZ q 0).bind fun e=>(BZ e.2 0 (w64 ((e.2.p.Zg1.Ze.length:Int)-1))).bind fun s=>(C0 s).bind fun t=>(B4 t 0 1000000).bind fun u=>(AY u).bind fun v=>some v else (if(b.it.Za==6)then some (b.it.Za==6) else some (b.it.Za==7):Option (Bool)).bind fun w=>if w then (AZ b 0).bind fun x=>(Bw x.2).bind fun y=>(AY y).bind fun d=>if(d.it.Za==6)then (AU d 0 1).bind fun z=>some z else some d else some b
def Eu(b:List AkC)(e:Bool)(a:Int):Option ((Int)⊕((Unit)⊕((Unit)⊕(Bool)))) :=if (decide (a<(b.length:Int)))then if InR a b.length then lt1 ((nth b a.toNat).Za) fun(c:Int)=>lt1 ((nth b a.toNat).Zl1) fun(d:Int)=>lt1 ((nth b a.toNat).Zm1) fun(f:Bool)=>(if(decide (c<1))then some true else if(decide (c>3))then some true else if(decide (d<0))then some true else if(decide (d>1073741824))then some true else if f then some (!e) else some false:Option (Bool)).bind fun g=>if g then ((some false).bind fun i=>some (.inr i)).bind fun j=>some (.inr (.inr j)) else some (.inl (w64 (a+1))) else none else some (.inr (.inl ()))
def GT(a:List AkC)(b:Bool):Option (Bool) :=((A3 (fun(v:Int)=>Eu a b v) 0).bind fun x=>match x with
 |.inl ()=>some (.inl ())
 |.inr z=>some z:Option ((Unit)⊕(Bool))).bind fun x=>match x with
 |.inl ()=>some (decide ((a.length:Int)≤16))
 |.inr z=>some z
def CP(b:AkJ):Option (AkJ) :=if(b.it.Za==8)then (BJ b).bind fun f=>(AY f).bind fun g=>(AU g 1 9).bind fun i=>some i else if(b.it.Za==9)then (BJ b).bind fun j=>(AZ j 5).bind fun k=>(Cj k.2).bind fun l=>(AU l 1 2).bind fun m=>(B0 m 0 1000000000).bind fun d=>(if d.ok=true then (GT d.it.Zu1 true).bind fun n=>some n else some false:Option (Bool)).bind fun o=>some ({ p:=d.p,it:=({ Za:=d.it.Za,Ref:=d.it.Ref,Zn1:=d.it.Zn1,Zb1:=d.it.Zb1,Zc:=d.it.Zc,Zo1:=d.it.Zo1,Zw:=d.it.Zw,To:=d.it.To,Code:=d.it.Code,Zp1:=d.it.Zp1,Zq1:=d.it.Zq1,Zr1:=d.it.Zr1,Zs1:=d.it.Zs1,Zt1:=d.it.Zt1,Zu1:=[] }:AkD),ok:=o }:AkJ) else if (b.it.Za==10)then (Bi b 0 63).bind fun c=>(if c.ok=true then if(decide ((c.it.Zu1.length:Int)>0))then (GT c.it.Zu1 false).bind fun q=>some q else some false else some false:Option (Bool)).bind fun s=>some ({ p:=c.p,it:=({ Za:=c.it.Za,Ref:=c.it.Ref,Zn1:=c.it.Zn1,Zb1:=c.it.Zb1,Zc:=c.it.Zc,Zo1:=c.it.Zo1,Zw:=c.it.Zw,To:=c.it.To,Code:=c.it.Code,Zp1:=c.it.Zp1,Zq1:=c.it.Zq1,Zr1:=c.it.Zr1,Zs1:=c.it.Zs1,Zt1:=c.it.Zt1,Zu1:=[] }:AkD),ok:=s }:AkJ) else (if(b.it.Za==11)then some (b.it.Za==11) else if(b.it.Za==12)then some (b.it.Za==12) else some (b.it.Za==13):Option (Bool)).bind fun t=>if t then (Bj b 1 6).bind fun u=>(AY u).bind fun a=>if (a.it.Za != 13)then (if a.ok=true then if(decide ((a.it.Zt1.length:Int)≥1))then some (decide ((a.it.Zt1.length:Int)≤2000)) else some false else some false:Option (Bool)).bind fun v=>some ({ p:=a.p,it:=({ Za:=a.it.Za,Ref:=a.it.Ref,Zn1:=a.it.Zn1,Zb1:=a.it.Zb1,Zc:=a.it.Zc,Zo1:=a.it.Zo1,Zw:=a.it.Zw,To:=a.it.To,Code:=a.it.Code,Zp1:=a.it.Zp1,Zq1:=a.it.Zq1,Zr1:=a.it.Zr1,Zs1:=a.it.Zs1,Zt1:=([]:List UInt8),Zu1:=a.it.Zu1 }:AkD),ok:=v }:AkJ) else some a else if(b.it.Za==14)then some b else if(b.it.Za==15)then (Bw b).bind fun w=>(AZ w 0).bind fun x=>(C0 x.2).bind fun e=>(Bj e 0 (w64 ((e.p.Zh1.Zx.length:Int)-1))).bind fun y=>(B4 y 1 1000).bind fun z=>(Cj z).bind fun aa=>(B0 aa 0 1000000000).bind fun ab=>some ab else some ({ p:=b.p,it:=b.it,ok:=false }:AkJ)
def GV(d:AkA)(c:AkD):Option (Bool) :=(if(decide (c.Za≤7))then (Cp ({ p:=d,it:=c,ok:=true }:AkJ)).bind fun a=>some (a.p.Zg1.Ze,a.p.Zg1.Zf,a.p.Zh1.Zx,a.p.Zh1.Zy,a.p.Zh1.Zz,a.p.Zh1.Za1,a.p.Zi1,a.p.Zj1,a.p.Zk1,a.it.Za,a.it.Ref.Zb,a.it.Ref.No,a.it.Zn1,a.it.Zb1,a.it.Zc,a.it.Zo1,a.it.Zw,a.it.To,a.it.Code,a.it.Zp1,a.it.Zq1,a.it.Zr1,a.it.Zs1,a.it.Zt1,a.it.Zu1,a.ok) else (CP ({ p:=d,it:=c,ok:=true }:AkJ)).bind fun b=>some (b.p.Zg1.Ze,b.p.Zg1.Zf,b.p.Zh1.Zx,b.p.Zh1.Zy,b.p.Zh1.Zz,b.p.Zh1.Za1,b.p.Zi1,b.p.Zj1,b.p.Zk1,b.it.Za,b.it.Ref.Zb,b.it.Ref.No,b.it.Zn1,b.it.Zb1,b.it.Zc,b.it.Zo1,b.it.Zw,b.it.To,b.it.Code,b.it.Zp1,b.it.Zq1,b.it.Zr1,b.it.Zs1,b.it.Zt1,b.it.Zu1,b.ok):Option (List Akn×List Ako×List Akq×List Akr×List Aks×List Akt×List Akv×List Akw×List Akz×Int×Int×Int×Int×Int×Int×Int×Int×Int×Int×Int×Int×Int×Int×List UInt8×List AkC×Bool)).bind fun(ai,aj,ak,al,am,an,ao,ap,aq,ar,au,av,e,f,g,i,j,k,l,m,n,o,q,s,t,u)=>((if u then some (e==0) else some false:Option (Bool)).bind fun v=>(if v then some (f==0) else some false:Option (Bool)).bind fun w=>(if w then some (g==0) else some false:Option (Bool)).bind fun x=>(if x then some (i==0) else some false:Option (Bool)).bind fun y=>(if y then some (j==0) else some false:Option (Bool)).bind fun z=>(if z then some (k==0) else some false:Option (Bool)).bind fun aa=>(if aa then some (l==0) else some false:Option (Bool)).bind fun ab=>(if ab then some (m==0) else some false:Option (Bool)).bind fun ac=>(if ac then some (n==0) else some false:Option (Bool)).bind fun ad=>(if ad then some (o==0) else some false:Option (Bool)).bind fun ae=>(if ae then some (q==0) else some false:Option (Bool)).bind fun af=>some af:Option (Bool)).bind fun ag=>(if ag then if(s==([]:List UInt8))then some ((t.length:Int)==0) else some false else some false:Option (Bool)).bind fun ah=>some ah
def FO(a:AkA)(b:AkD):Option (Int) :=(B8 a).bind fun c=>if(c != 0)then some c else ((F9 b).bind fun d=>if(!d)then some true else (GV a b).bind fun e=>some (!e):Option (Bool)).bind fun f=>if f then some 110 else some 0
def El(b:UInt64)(c:List UInt8)(a:AkE):Option (Bool) :=(if(decide ((c.length:Int)>65536))then some true else if(decide (a.C≥(1152921504606845399:UInt64)))then some true else if(decide (a.S≥(1152921504606845399:UInt64)))then some true else (FE b).bind fun d=>some (!d):Option (Bool)).bind fun e=>if e then some false else (Eg (2305843009213690799:UInt64)).bind fun f=>(F7 (4:UInt64) a.S).bind fun g=>(F7 b ((1152921504606845399:UInt64)-a.C)).bind fun i=>(BN g i f).bind fun j=>(Dn j.1 b c).bind fun k=>some (k==a.C)
def Ef(b:AkA)(a:AkF):Option (Int) :=(B8 b).bind fun d=>if(d != 0)then some d else (if(decide (a.Zb<0))then some true else if(decide (a.Zb≥(b.Zk1.length:Int)))then some true else if(decide (a.No<1))then some true else if(decide (a.No>4096))then some true else if(decide (a.Zw1<0))then some true else if(decide (a.Zw1>1073741824))then some true else some (decide ((AcD a.Sig.C a.Sig.S)≥(1152921504606845399:UInt64))):Option (Bool)).bind fun f=>if f then some 1 else (FO b a.Zx1).bind fun e=>if(e != 0)then some e else (Gd a).bind fun c=>if(c.2 != 0)then some c.2 else if InR a.Zb b.Zk1.length then (El ((nth b.Zk1 a.Zb.toNat).Key) c.1 a.Sig).bind fun g=>if(!g)then some 31 else some 0 else none
def Fo(a:Int):Option (Bool) :=some (a != a)
def Df(a:Int)(b:Int):Option (Int) :=(Fo a).bind fun d=>(Fo b).bind fun c=>if d then if c then some 0 else some (-1) else if c then some 1 else if(decide (a<b))then some (-1) else if(decide (a>b))then some 1 else some 0
def FN(a:List UInt8)(b:List UInt8):Option (Int):=Ny a b
def EF(a:List UInt8)(b:List UInt8):Option (Int) :=(FN a b).bind fun c=>some c
def Bg(s1_7111:List AkI)(s2_7112:List AkI)(c:AkI→AkI→Option (Int))(a:Int):Option ((Int)⊕((Unit)⊕((Unit)⊕(Int)))) :=if (decide (a<(s1_7111.length:Int)))then if InR a s1_7111.length then lt1 ((nth s1_7111 a.toNat).Za) fun(d:Int)=>lt1 ((nth s1_7111 a.toNat).N) fun(e:Int)=>lt1 ((nth s1_7111 a.toNat).B) fun(f:List UInt8)=>lt1 ((nth s1_7111 a.toNat).L) fun(g:List AkI)=>if(decide (a≥(s2_7112.length:Int)))then ((some 1).bind fun i=>some (.inr i)).bind fun j=>some (.inr (.inr j)) else if InR a s2_7112.length then lt1 ((nth s2_7112 a.toNat).Za) fun(k:Int)=>lt1 ((nth s2_7112 a.toNat).N) fun(l:Int)=>lt1 ((nth s2_7112 a.toNat).B) fun(m:List UInt8)=>lt1 ((nth s2_7112 a.toNat).L) fun(n:List AkI)=>(c (AkI.mk d e f g) (AkI.mk k l m n)).bind fun b=>if(b != 0)then ((some b).bind fun o=>some (.inr o)).bind fun p=>some (.inr (.inr p)) else some (.inl (w64 (a+1))) else none else none else some (.inr (.inl ()))
def BR(b:AkI→AkI→Option (Int))(s1_7111:List AkI)(s2_7112:List AkI)(a:AkI→AkI→Option (Int)):Option (Int) :=((A3 (fun(v:Int)=>Bg s1_7111 s2_7112 a v) 0).bind fun x=>match x with
 |.inl ()=>some (.inl ())
 |.inr z=>some z:Option ((Unit)⊕(Int))).bind fun x=>match x with
 | .inl ()=>if(decide ((s1_7111.length:Int)<(s2_7112.length:Int)))then some (-1) else some 0
 |.inr z=>some z
def DG(rec_:AkI→AkI→Option (Int))(a:AkI)(b:AkI):Option (Int) :=(Df a.Za b.Za).bind fun c=>if(c != 0)then some c else if(a.Za==1)then (Df a.N b.N).bind fun d=>some d else if(a.Za==2)then (EF a.B b.B).bind fun e=>some e else if(a.Za==3)then (BR rec_ a.L b.L rec_).bind fun f=>some f else some 0
def DJ(n:Nat):AkI→AkI→Option (Int):=match n with
 |0=>fun _ _=>none
 |n+1=>DG (DJ n)
def FA(a:AkI)(b:AkI):Option (Int):=DJ 18446744073709551616 a b
def GL(a:AkF)(b:AkF):Option (Bool) :=(if (a.Zb==b.Zb)then if (a.No==b.No)then if(a.Zv1==b.Zv1)then if(a.Zw1==b.Zw1)then some ((a.Sig.C==b.Sig.C)&&(a.Sig.S==b.Sig.S)) else some false else some false else some false else some false:Option (Bool)).bind fun c=>(if c then (FK a.Zx1).bind fun d=>(FK b.Zx1).bind fun e=>(FA d e).bind fun f=>some (f==0) else some false:Option (Bool)).bind fun g=>some g
def Fm(b:List AkF)(a:AkF):Option (Int) :=if(decide (a.No>(w64 ((b.length:Int)+1))))then some 140 else (if (decide (a.No>1))then if InR (w64 (a.No-2)) b.length then (D0 (nth b ((w64 (a.No-2)).toNat))).bind fun c=>(if(c.2 != 0)then some true else if InR (w64 (a.No-2)) b.length then some (decide (a.Zw1<(nth b ((w64 (a.No-2)).toNat)).Zw1)) else none:Option (Bool)).bind fun d=>if d then (some 140).bind fun e=>some (.inr e) else some (.inl c.1) else none else some (.inl (Arr.rep 32 (0:UInt8))):Option ((Arr UInt8 32)⊕(Int))).bind fun x=>match x with
  | .inl f=>if(!(f==a.Zv1))then some 140 else (if (!((a.Zx1.Ref.Zb==0)&&(a.Zx1.Ref.No==0)))then if(a.Zx1.Ref.Zb != a.Zb)then some true else if(decide (a.Zx1.Ref.No<1))then some true else if(decide (a.Zx1.Ref.No≥a.No))then some true else if InR (w64 (a.Zx1.Ref.No-1)) b.length then some (!(((((nth b ((w64 (a.Zx1.Ref.No-1)).toNat)).Zx1).Ref).Zb==0)&&((((nth b ((w64 (a.Zx1.Ref.No-1)).toNat)).Zx1).Ref).No==0))) else none else some false:Option (Bool)).bind fun g=>if g then some 110 else some 0
  |.inr z=>some z
def DL(a:List AkF):Option (List AkF) :=if Dj (0+a.length) 224 then lt1 (([]:List AkF)++a) fun(b:List AkF)=>some b else none
def E9(b:AkG)(a:AkF):Option (Bool×AkF) :=(if(b.A.Zb==a.Zb)then some (b.A.No==a.No) else some false:Option (Bool)).bind fun c=>some (c,a)
def AH(c:List AkG)(b:Int)(d:Int)(e:Int)(f:Arr UInt8 32)(g:Int)(i:Int)(j:Int)(k:Int)(l:Int)(m:Int)(n:Int)(o:Int)(p:Int)(q:Int)(s:Int)(t:Int)(u:Int)(v:Int)(w:Int)(x:List UInt8)(y:List AkC)(z:UInt64)(aa:UInt64):Option ((Int×Int×Int×Arr UInt8 32×Int×Int×Int×Int×Int×Int×Int×Int×Int×Int×Int×Int×Int×Int×Int×List UInt8×List AkC×UInt64×UInt64)⊕((Int×Int×Arr UInt8 32×Int×Int×Int×Int×Int×Int×Int×Int×Int×Int×Int×Int×Int×Int×Int×List UInt8×List AkC×UInt64×UInt64)⊕((Int×Int×Arr UInt8 32×Int×Int×Int×Int×Int×Int×Int×Int×Int×Int×Int×Int×Int×Int×Int×List UInt8×List AkC×UInt64×UInt64)⊕(Int×AkF)))) :=if (decide (b<(c.length:Int)))then if InR b c.length then (E9 ({ A:=(nth c b.toNat).A,B:=(nth c b.toNat).B }:AkG) ({ Zb:=d,No:=e,Zv1:=f,Zw1:=g,Zx1:=({ Za:=i,Ref:=({ Zb:=j,No:=k }:AkB),Zn1:=l,Zb1:=m,Zc:=n,Zo1:=o,Zw:=p,To:=q,Code:=s,Zp1:=t,Zq1:=u,Zr1:=v,Zs1:=w,Zt1:=x,Zu1:=y }:AkD),Sig:=({ C:=z,S:=aa }:AkE) }:AkF)).bind fun a=>if a.1=true then ((some (b,a.2)).bind fun ab=>some (.inr ab)).bind fun ac=>some (.inr (.inr ac)) else some (.inl ((w64 (b+1)),a.2.Zb,a.2.No,a.2.Zv1,a.2.Zw1,a.2.Zx1.Za,a.2.Zx1.Ref.Zb,a.2.Zx1.Ref.No,a.2.Zx1.Zn1,a.2.Zx1.Zb1,a.2.Zx1.Zc,a.2.Zx1.Zo1,a.2.Zx1.Zw,a.2.Zx1.To,a.2.Zx1.Code,a.2.Zx1.Zp1,a.2.Zx1.Zq1,a.2.Zx1.Zr1,a.2.Zx1.Zs1,a.2.Zx1.Zt1,a.2.Zx1.Zu1,a.2.Sig.C,a.2.Sig.S)) else none else some (.inr (.inl (d,e,f,g,i,j,k,l,m,n,o,p,q,s,t,u,v,w,x,y,z,aa)))
def BG(b:List AkG)(a:AkF):Option (Int×AkF) :=((A3 (fun(v:Int×Int×Int×Arr UInt8 32×Int×Int×Int×Int×Int×Int×Int×Int×Int×Int×Int×Int×Int×Int×Int×List UInt8×List AkC×UInt64×UInt64)=>AH b v.1 v.2.1 v.2.2.1 v.2.2.2.1 v.2.2.2.2.1 v.2.2.2.2.2.1 v.2.2.2.2.2.2.1 v.2.2.2.2.2.2.2.1 v.2.2.2.2.2.2.2.2.1 v.2.2.2.2.2.2.2.2.2.1 v.2.2.2.2.2.2.2.2.2.2.1 v.2.2.2.2.2.2.2.2.2.2.2.1 v.2.2.2.2.2.2.2.2.2.2.2.2.1 v.2.2.2.2.2.2.2.2.2.2.2.2.2.1 v.2.2.2.2.2.2.2.2.2.2.2.2.2.2.1 v.2.2.2.2.2.2.2.2.2.2.2.2.2.2.2.1 v.2.2.2.2.2.2.2.2.2.2.2.2.2.2.2.2.1 v.2.2.2.2.2.2.2.2.2.2.2.2.2.2.2.2.2.1 v.2.2.2.2.2.2.2.2.2.2.2.2.2.2.2.2.2.2.1 v.2.2.2.2.2.2.2.2.2.2.2.2.2.2.2.2.2.2.2.1 v.2.2.2.2.2.2.2.2.2.2.2.2.2.2.2.2.2.2.2.2.1 v.2.2.2.2.2.2.2.2.2.2.2.2.2.2.2.2.2.2.2.2.2.1 v.2.2.2.2.2.2.2.2.2.2.2.2.2.2.2.2.2.2.2.2.2.2) (0,a.Zb,a.No,a.Zv1,a.Zw1,a.Zx1.Za,a.Zx1.Ref.Zb,a.Zx1.Ref.No,a.Zx1.Zn1,a.Zx1.Zb1,a.Zx1.Zc,a.Zx1.Zo1,a.Zx1.Zw,a.Zx1.To,a.Zx1.Code,a.Zx1.Zp1,a.Zx1.Zq1,a.Zx1.Zr1,a.Zx1.Zs1,a.Zx1.Zt1,a.Zx1.Zu1,a.Sig.C,a.Sig.S)).bind fun x=>match x with
 |.inl (c,d,e,f,g,i,j,k,l,m,n,o,p,q,s,t,u,w,y,aa,ab,ac)=>some (.inl (c,d,e,f,g,i,j,k,l,m,n,o,p,q,s,t,u,w,y,aa,ab,ac))
 |.inr z=>some z:Option ((Int×Int×Arr UInt8 32×Int×Int×Int×Int×Int×Int×Int×Int×Int×Int×Int×Int×Int×Int×Int×List UInt8×List AkC×UInt64×UInt64)⊕(Int×AkF))).bind fun x=>match x with
 |.inl (ad,ae,af,ag,ah,ai,aj,ak,al,am,an,ao,ap,aq,ar,au,av,aw,ax,ay,az,aA)=>some ((-1),({ Zb:=ad,No:=ae,Zv1:=af,Zw1:=ag,Zx1:=({ Za:=ah,Ref:=({ Zb:=ai,No:=aj }:AkB),Zn1:=ak,Zb1:=al,Zc:=am,Zo1:=an,Zw:=ao,To:=ap,Code:=aq,Zp1:=ar,Zq1:=au,Zr1:=av,Zs1:=aw,Zt1:=ax,Zu1:=ay }:AkD),Sig:=({ C:=az,S:=aA }:AkE) }:AkF))
 |.inr z=>some z
def AX(b:List AkG)(c:AkF):Option (Bool×AkF) :=(BG b c).bind fun a=>some ((decide (a.1≥0)),a.2)
def DF(a:List AkG):Option (List AkG) :=if Dj (0+a.length) 448 then lt1 (([]:List AkG)++a) fun(b:List AkG)=>some b else none
def AA(d:AkA)(a:AkH)(b:AkF):Option (AkH×Int) :=(Ef d b).bind fun f=>if(f != 0)then some (({ Zy1:=[],Zz1:=[] }:AkH),f) else (FI a b.Zb).bind fun c=>(if(decide (b.No≤(c.length:Int)))then if InR (w64 (b.No-1)) c.length then (GL (nth c ((w64 (b.No-1)).toNat)) b).bind fun m=>some m else none else some false:Option (Bool)).bind fun n=>if n then some (a,0) else (Fm c b).bind fun g=>if(g != 0)then some (({ Zy1:=[],Zz1:=[] }:AkH),g) else if (b.No==(w64 ((c.length:Int)+1)))then if Mk (L8 (a.Zy1.length:Int) (d.Zk1.length:Int)) (L8 (a.Zy1.length:Int) (d.Zk1.length:Int)) 24 then lt1 (List.replicate ((L8 (a.Zy1.length:Int) (d.Zk1.length:Int)).toNat) ([])) fun(i:List (List AkF))=>lt1 (ovl i (a.Zy1.take (min a.Zy1.length i.length)) 0) fun(j:List (List AkF))=>(DL c).bind fun k=>if Dj (k.length+1) 224 then if InR b.Zb j.length then lt1 (j.set b.Zb.toNat (k++([b]:List AkF))) fun(o:List (List AkF))=>some (({ Zy1:=o,Zz1:=a.Zz1 }:AkH),0) else none else none else none else ((AX a.Zz1 b).bind fun e=>if (!e.1)then (DF a.Zz1).bind fun l=>if InR (w64 (e.2.No-1)) c.length then if Dj (l.length+1) 448 then lt1 (l++([({ A:=nth c ((w64 (e.2.No-1)).toNat),B:=e.2 }:AkG)]:List AkG)) fun(p:List AkG)=>some p else none else none else some a.Zz1:Option (List AkG)).bind fun q=>some (({ Zy1:=a.Zy1,Zz1:=q }:AkH),0)
def Bc(c : AkA)(m:AkH)(a:Int)(n:UInt64)(e:Int)(f:AkD):Option (AkF×Int) :=(B8 c).bind fun o=>if(o != 0)then some (({ Zb:=0,No:=0,Zv1:=(Arr.rep 32 (0:UInt8)),Zw1:=0,Zx1:=({ Za:=0,Ref:=({ Zb:=0,No:=0 }:AkB),Zn1:=0,Zb1:=0,Zc:=0,Zo1:=0,Zw:=0,To:=0,Code:=0,Zp1:=0,Zq1:=0,Zr1:=0,Zs1:=0,Zt1:=([]:List UInt8),Zu1:=[] }:AkD),Sig:=({ C:=(0:UInt64),S:=(0:UInt64) }:AkE) }:AkF),o) else (if(decide (a<0))then some true else some (decide (a≥(c.Zk1.length:Int))):Option (Bool)).bind fun q=>if q then some (({ Zb:=0,No:=0,Zv1:=(Arr.rep 32 (0:UInt8)),Zw1:=0,Zx1:=({ Za:=0,Ref:=({ Zb:=0,No:=0 }:AkB),Zn1:=0,Zb1:=0,Zc:=0,Zo1:=0,Zw:=0,To:=0,Code:=0,Zp1:=0,Zq1:=0,Zr1:=0,Zs1:=0,Zt1:=([]:List UInt8),Zu1:=[] }:AkD),Sig:=({ C:=(0:UInt64),S:=(0:UInt64) }:AkE) }:AkF),1) else (EP n).bind fun g=>if(g.2 != 0)then some (({ Zb:=0,No:=0,Zv1:=(Arr.rep 32 (0:UInt8)),Zw1:=0,Zx1:=({ Za:=0,Ref:=({ Zb:=0,No:=0 }:AkB),Zn1:=0,Zb1:=0,Zc:=0,Zo1:=0,Zw:=0,To:=0,Code:=0,Zp1:=0,Zq1:=0,Zr1:=0,Zs1:=0,Zt1:=([]:List UInt8),Zu1:=[] }:AkD),Sig:=({ C:=(0:UInt64),S:=(0:UInt64) }:AkE) }:AkF),g.2) else if InR a c.Zk1.length then if(g.1 != (nth c.Zk1 a.toNat).Key)then some (({ Zb:=0,No:=0,Zv1:=(Arr.rep 32 (0:UInt8)),Zw1:=0,Zx1:=({ Za:=0,Ref:=({ Zb:=0,No:=0 }:AkB),Zn1:=0,Zb1:=0,Zc:=0,Zo1:=0,Zw:=0,To:=0,Code:=0,Zp1:=0,Zq1:=0,Zr1:=0,Zs1:=0,Zt1:=([]:List UInt8),Zu1:=[] }:AkD),Sig:=({ C:=(0:UInt64),S:=(0:UInt64) }:AkE) }:AkF),30) else (FI m a).bind fun b=>lt1 (w64 ((b.length:Int)+1)) fun(i:Int)=>(if(decide ((b.length:Int)>0))then if InR (w64 ((b.length:Int)-1)) b.length then (D0 (nth b ((w64 ((b.length:Int)-1)).toNat))).bind fun j=>if(j.2 != 0)then (some (({ Zb:=0,No:=0,Zv1:=(Arr.rep 32 (0:UInt8)),Zw1:=0,Zx1:=({ Za:=0,Ref:=({ Zb:=0,No:=0 }:AkB),Zn1:=0,Zb1:=0,Zc:=0,Zo1:=0,Zw:=0,To:=0,Code:=0,Zp1:=0,Zq1:=0,Zr1:=0,Zs1:=0,Zt1:=([]:List UInt8),Zu1:=[] }:AkD),Sig:=({ C:=(0:UInt64),S:=(0:UInt64) }:AkE) }:AkF),j.2)).bind fun s=>some (.inr s) else some (.inl j.1) else none else some (.inl (Arr.rep 32 (0:UInt8))):Option ((Arr UInt8 32)⊕(AkF×Int))).bind fun x=>match x with
      | .inl k=>(Gd ({ Zb:=a,No:=i,Zv1:=k,Zw1:=e,Zx1:=f,Sig:=({ C:=(0:UInt64),S:=(0:UInt64) }:AkE) }:AkF)).bind fun l=>if(l.2 != 0)then some (({ Zb:=0,No:=0,Zv1:=(Arr.rep 32 (0:UInt8)),Zw1:=0,Zx1:=({ Za:=0,Ref:=({ Zb:=0,No:=0 }:AkB),Zn1:=0,Zb1:=0,Zc:=0,Zo1:=0,Zw:=0,To:=0,Code:=0,Zp1:=0,Zq1:=0,Zr1:=0,Zs1:=0,Zt1:=([]:List UInt8),Zu1:=[] }:AkD),Sig:=({ C:=(0:UInt64),S:=(0:UInt64) }:AkE) }:AkF),l.2) else (FV n l.1).bind fun d=>if(d.2 != 0)then some (({ Zb:=0,No:=0,Zv1:=(Arr.rep 32 (0:UInt8)),Zw1:=0,Zx1:=({ Za:=0,Ref:=({ Zb:=0,No:=0 }:AkB),Zn1:=0,Zb1:=0,Zc:=0,Zo1:=0,Zw:=0,To:=0,Code:=0,Zp1:=0,Zq1:=0,Zr1:=0,Zs1:=0,Zt1:=([]:List UInt8),Zu1:=[] }:AkD),Sig:=({ C:=(0:UInt64),S:=(0:UInt64) }:AkE) }:AkF),d.2) else (AA c m ({ Zb:=a,No:=i,Zv1:=k,Zw1:=e,Zx1:=f,Sig:=d.1 }:AkF)).bind fun p=>if(p.2 != 0)then some (({ Zb:=0,No:=0,Zv1:=(Arr.rep 32 (0:UInt8)),Zw1:=0,Zx1:=({ Za:=0,Ref:=({ Zb:=0,No:=0 }:AkB),Zn1:=0,Zb1:=0,Zc:=0,Zo1:=0,Zw:=0,To:=0,Code:=0,Zp1:=0,Zq1:=0,Zr1:=0,Zs1:=0,Zt1:=([]:List UInt8),Zu1:=[] }:AkD),Sig:=({ C:=(0:UInt64),S:=(0:UInt64) }:AkE) }:AkF),p.2) else some (({ Zb:=a,No:=i,Zv1:=k,Zw1:=e,Zx1:=f,Sig:=d.1 }:AkF),0)
      |.inr z=>some z else none
def HZ(a : AkD)(b:UInt8):Option (Int) :=if(b==(119:UInt8))then some a.Zn1 else if(b==(112:UInt8))then some a.Zb1 else if(b==(111:UInt8))then some a.Zc else if(b==(110:UInt8))then some a.Zo1 else if(b==(102:UInt8))then some a.Zw else if(b==(116:UInt8))then some a.To else if(b==(99:UInt8))then some a.Code else if(b==(100:UInt8))then some a.Zp1 else if(b==(107:UInt8))then some a.Zq1 else if(b==(103:UInt8))then some a.Zr1 else some a.Zs1
def C9(b:List AkC)(c:List AkC)(a:Int):Option ((Int)⊕((Unit)⊕((Unit)⊕(Bool)))) :=if (decide (a<(b.length:Int)))then if InR a b.length then if InR a c.length then lt1 (!(((nth b a.toNat).Za==(nth c a.toNat).Za)&&(((nth b a.toNat).Zl1==(nth c a.toNat).Zl1)&&((nth b a.toNat).Zm1==(nth c a.toNat).Zm1)))) fun(d:Bool)=>if d then ((some false).bind fun e=>some (.inr e)).bind fun f=>some (.inr (.inr f)) else some (.inl (w64 (a+1))) else none else none else some (.inr (.inl ()))
def E1(a:List AkC)(b:List AkC):Option (Bool) :=if((a.length:Int) != (b.length:Int))then some false else ((A3 (fun(v:Int)=>C9 a b v) 0).bind fun x=>match x with
  |.inl ()=>some (.inl ())
  |.inr z=>some z:Option ((Unit)⊕(Bool))).bind fun x=>match x with
  |.inl ()=>some true
  |.inr z=>some z
def Fb(b:AkD)(c:AkD)(a:Int):Option ((Int)⊕((Unit)⊕((Unit)⊕(Bool)))) :=if (decide (a<11))then if InR a (([119,112,111,110,102,116,99,100,107,103,97]:List UInt8).length)then (HZ b (nth ([119,112,111,110,102,116,99,100,107,103,97]:List UInt8) a.toNat)).bind fun d=>if InR a (([119,112,111,110,102,116,99,100,107,103,97]:List UInt8).length)then (HZ c (nth ([119,112,111,110,102,116,99,100,107,103,97]:List UInt8) a.toNat)).bind fun e=>if(d != e)then ((some false).bind fun f=>some (.inr f)).bind fun g=>some (.inr (.inr g)) else some (.inl (w64 (a+1))) else none else none else some (.inr (.inl ()))
def JI(a:AkD)(b:AkD):Option (Bool) :=((A3 (fun(v:Int)=>Fb a b v) 0).bind fun x=>match x with
 |.inl ()=>some (.inl ())
 |.inr z=>some z:Option ((Unit)⊕(Bool))).bind fun x=>match x with
 | .inl ()=>(if(a.Za==b.Za)then if((a.Ref.Zb==b.Ref.Zb)&&(a.Ref.No==b.Ref.No))then if(a.Zt1==b.Zt1)then (E1 a.Zu1 b.Zu1).bind fun c=>some c else some false else some false else some false:Option (Bool)).bind fun d=>some d
 |.inr z=>some z
def Cu(a:AkF)(b:AkF):Option (Bool) :=(if (a.Zb==b.Zb)then if (a.No==b.No)then if (a.Zv1==b.Zv1)then if(a.Zw1==b.Zw1)then if((a.Sig.C==b.Sig.C)&&(a.Sig.S==b.Sig.S))then (JI a.Zx1 b.Zx1).bind fun c=>some c else some false else some false else some false else some false else some false:Option (Bool)).bind fun d=>some d
def Dl(b:List AkF)(c:List AkF)(a:Int):Option ((Int)⊕((Unit)⊕((Unit)⊕(Bool)))) :=if (decide (a<(b.length:Int)))then if InR a b.length then if InR a c.length then (Cu (nth b a.toNat) (nth c a.toNat)).bind fun d=>if(!d)then ((some false).bind fun e=>some (.inr e)).bind fun f=>some (.inr (.inr f)) else some (.inl (w64 (a+1))) else none else none else some (.inr (.inl ()))
def EW(a:List AkF)(b:List AkF):Option (Bool) :=if((a.length:Int) != (b.length:Int))then some false else ((A3 (fun(v:Int)=>Dl a b v) 0).bind fun x=>match x with
  |.inl ()=>some (.inl ())
  |.inr z=>some z:Option ((Unit)⊕(Bool))).bind fun x=>match x with
  |.inl ()=>some true
  |.inr z=>some z
def IX(b:AkH)(c:AkH)(a:Int):Option ((Int)⊕((Unit)⊕((Unit)⊕(Bool)))) :=if (decide (a<(b.Zy1.length:Int)))then if InR a b.Zy1.length then if InR a c.Zy1.length then (EW (nth b.Zy1 a.toNat) (nth c.Zy1 a.toNat)).bind fun d=>if(!d)then ((some false).bind fun e=>some (.inr e)).bind fun f=>some (.inr (.inr f)) else some (.inl (w64 (a+1))) else none else none else some (.inr (.inl ()))
def IK(b:AkH)(c:AkH)(a:Int):Option ((Int)⊕((Unit)⊕((Unit)⊕(Bool)))) :=if (decide (a<(b.Zz1.length:Int)))then (if InR a b.Zz1.length then if InR a c.Zz1.length then (Cu ((nth b.Zz1 a.toNat).A) ((nth c.Zz1 a.toNat).A)).bind fun d=>if(!d)then some true else if InR a b.Zz1.length then if InR a c.Zz1.length then (Cu ((nth b.Zz1 a.toNat).B) ((nth c.Zz1 a.toNat).B)).bind fun e=>some (!e) else none else none else none else none:Option (Bool)).bind fun f=>if f then ((some false).bind fun g=>some (.inr g)).bind fun i=>some (.inr (.inr i)) else some (.inl (w64 (a+1))) else some (.inr (.inl ()))
def Jc(a:AkH)(b:AkH):Option (Bool) :=(if((a.Zy1.length:Int) != (b.Zy1.length:Int))then some true else some ((a.Zz1.length:Int) != (b.Zz1.length:Int)):Option (Bool)).bind fun c=>if c then some false else ((A3 (fun(v:Int)=>IX a b v) 0).bind fun x=>match x with
  |.inl ()=>some (.inl ())
  |.inr z=>some z:Option ((Unit)⊕(Bool))).bind fun x=>match x with
  | .inl ()=>((A3 (fun(v:Int)=>IK a b v) 0).bind fun x=>match x with
   |.inl ()=>some (.inl ())
   |.inr z=>some z:Option ((Unit)⊕(Bool))).bind fun x=>match x with
   |.inl ()=>some true
   |.inr z=>some z
  |.inr z=>some z
def Dh(b:AkH)(e:Int)(c:Int)(a:Int):Option ((Int×Int)⊕(Int)) :=if (decide (a<(b.Zz1.length:Int)))then (if InR a b.Zz1.length then lt1 (((nth b.Zz1 a.toNat).A).Zb) fun(f:Int)=>lt1 (((nth b.Zz1 a.toNat).A).No) fun(d:Int)=>lt1 (((nth b.Zz1 a.toNat).A).Zv1) fun(j:Arr UInt8 32)=>lt1 (((nth b.Zz1 a.toNat).A).Zw1) fun(k:Int)=>lt1 ((((nth b.Zz1 a.toNat).A).Zx1).Za) fun(l:Int)=>lt1 (((((nth b.Zz1 a.toNat).A).Zx1).Ref).Zb) fun(m:Int)=>lt1 (((((nth b.Zz1 a.toNat).A).Zx1).Ref).No) fun(n:Int)=>lt1 ((((nth b.Zz1 a.toNat).A).Zx1).Zn1) fun(o:Int)=>lt1 ((((nth b.Zz1 a.toNat).A).Zx1).Zb1) fun(p:Int)=>lt1 ((((nth b.Zz1 a.toNat).A).Zx1).Zc) fun(q:Int)=>lt1 ((((nth b.Zz1 a.toNat).A).Zx1).Zo1) fun(s:Int)=>lt1 ((((nth b.Zz1 a.toNat).A).Zx1).Zw) fun(t:Int)=>lt1 ((((nth b.Zz1 a.toNat).A).Zx1).To) fun(u:Int)=>lt1 ((((nth b.Zz1 a.toNat).A).Zx1).Code) fun(v:Int)=>lt1 ((((nth b.Zz1 a.toNat).A).Zx1).Zp1) fun(w:Int)=>lt1 ((((nth b.Zz1 a.toNat).A).Zx1).Zq1) fun(x:Int)=>lt1 ((((nth b.Zz1 a.toNat).A).Zx1).Zr1) fun(y:Int)=>lt1 ((((nth b.Zz1 a.toNat).A).Zx1).Zs1) fun(z:Int)=>lt1 ((((nth b.Zz1 a.toNat).A).Zx1).Zt1) fun(aa:List UInt8)=>lt1 ((((nth b.Zz1 a.toNat).A).Zx1).Zu1) fun(ab:List AkC)=>lt1 ((((nth b.Zz1 a.toNat).A).Sig).C) fun(ac:UInt64)=>lt1 ((((nth b.Zz1 a.toNat).A).Sig).S) fun(ad:UInt64)=>lt1 (((nth b.Zz1 a.toNat).B).Zb) fun(ae:Int)=>lt1 (((nth b.Zz1 a.toNat).B).No) fun(af:Int)=>lt1 (((nth b.Zz1 a.toNat).B).Zv1) fun(ag:Arr UInt8 32)=>lt1 (((nth b.Zz1 a.toNat).B).Zw1) fun(ah:Int)=>lt1 ((((nth b.Zz1 a.toNat).B).Zx1).Za) fun(ai:Int)=>lt1 (((((nth b.Zz1 a.toNat).B).Zx1).Ref).Zb) fun(aj:Int)=>lt1 (((((nth b.Zz1 a.toNat).B).Zx1).Ref).No) fun(ak:Int)=>lt1 ((((nth b.Zz1 a.toNat).B).Zx1).Zn1) fun(al:Int)=>lt1 ((((nth b.Zz1 a.toNat).B).Zx1).Zb1) fun(am:Int)=>lt1 ((((nth b.Zz1 a.toNat).B).Zx1).Zc) fun(an:Int)=>lt1 ((((nth b.Zz1 a.toNat).B).Zx1).Zo1) fun(ao:Int)=>lt1 ((((nth b.Zz1 a.toNat).B).Zx1).Zw) fun(ap:Int)=>lt1 ((((nth b.Zz1 a.toNat).B).Zx1).To) fun(aq:Int)=>lt1 ((((nth b.Zz1 a.toNat).B).Zx1).Code) fun(ar:Int)=>lt1 ((((nth b.Zz1 a.toNat).B).Zx1).Zp1) fun(au:Int)=>lt1 ((((nth b.Zz1 a.toNat).B).Zx1).Zq1) fun(av:Int)=>lt1 ((((nth b.Zz1 a.toNat).B).Zx1).Zr1) fun(aw:Int)=>lt1 ((((nth b.Zz1 a.toNat).B).Zx1).Zs1) fun(ax:Int)=>lt1 ((((nth b.Zz1 a.toNat).B).Zx1).Zt1) fun(ay:List UInt8)=>lt1 ((((nth b.Zz1 a.toNat).B).Zx1).Zu1) fun(az:List AkC)=>lt1 ((((nth b.Zz1 a.toNat).B).Sig).C) fun(aA:UInt64)=>lt1 ((((nth b.Zz1 a.toNat).B).Sig).S) fun(aB:UInt64)=>(if(f==e)then if(decide (d≥1))then if(c==0)then some true else some (decide (d<c)) else some false else some false:Option (Bool)).bind fun g=>if g then some d else some c else none:Option (Int)).bind fun i=>some (.inl (i,(w64 (a+1)))) else some (.inr c)
def BM(a:AkH)(b:Int):Option (Int) :=((A3 (fun(v:Int×Int)=>Dh a b v.1 v.2) (0,0)).bind fun c=>some c:Option (Int)).bind fun d=>some d
def C5(c:AkH)(a:Int)(d:List (List AkF)):Option ((Int×List (List AkF))⊕(List (List AkF))) :=if (decide (a<(c.Zy1.length:Int)))then if InR a c.Zy1.length then lt1 (nth c.Zy1 a.toNat) fun(b:List AkF)=>((BM c a).bind fun e=>if(decide (e>0))then if InB (NX (w64 (e-1)) (b.length:Int)) b.length then lt1 (b.take ((NX (w64 (e-1)) (b.length:Int)).toNat)) fun(f:List AkF)=>some f else none else some b:Option (List AkF)).bind fun g=>if Dj (d.length+1) 24 then lt1 (d++([g]:List (List AkF))) fun(i:List (List AkF))=>some (.inl ((w64 (a+1)),i)) else none else none else some (.inr d)
def BF(a:AkH):Option (AkH) :=((A3 (fun(v:Int×List (List AkF))=>C5 a v.1 v.2) (0,[])).bind fun b=>some b:Option (List (List AkF))).bind fun c=>some ({ Zy1:=c,Zz1:=[] }:AkH)
def Lw(a:AkH):Option (AkH) :=some a
def Gi(b:List ((Int×Int)×AkK))(c:Int)(d:Int)(a:AkF):Option (List ((Int×Int)×AkK)) :=(if(!((a.Zx1.Ref.Zb==0)&&(a.Zx1.Ref.No==0)))then some (a.Zx1.Ref.Zb==c) else some false:Option (Bool)).bind fun e=>if e then if Qa a.Zx1.Ref.Zb a.Zx1.Ref.No then lt1 (Ae1 b (a.Zx1.Ref.Zb,a.Zx1.Ref.No) ({ Ref:=a.Zx1.Ref,By:=({ Zb:=c,No:=d }:AkB),Zw1:=a.Zw1,Zx1:=a.Zx1 }:AkK)) fun(f:List ((Int×Int)×AkK))=>some f else none else some b
def FY(c:List ((Int×Int)×AkK))(e:List AkK)(a:Int)(b:Int)(d:AkF):Option (List AkK) :=lt1 (!((d.Zx1.Ref.Zb==0)&&(d.Zx1.Ref.No==0))) fun(g:Bool)=>if g then some e else if Qa a b then lt1 ((F6 c (a,b)).isSome) fun(i:Bool)=>lt1 ((((F6 c (a,b)).getD CJ).Ref).Zb) fun(j:Int)=>lt1 ((((F6 c (a,b)).getD CJ).Ref).No) fun(k:Int)=>lt1 ((((F6 c (a,b)).getD CJ).By).Zb) fun(l:Int)=>lt1 ((((F6 c (a,b)).getD CJ).By).No) fun(m:Int)=>lt1 (((F6 c (a,b)).getD CJ).Zw1) fun(n:Int)=>lt1 ((((F6 c (a,b)).getD CJ).Zx1).Za) fun(f:Int)=>lt1 (((((F6 c (a,b)).getD CJ).Zx1).Ref).Zb) fun(o:Int)=>lt1 (((((F6 c (a,b)).getD CJ).Zx1).Ref).No) fun(p:Int)=>lt1 ((((F6 c (a,b)).getD CJ).Zx1).Zn1) fun(q:Int)=>lt1 ((((F6 c (a,b)).getD CJ).Zx1).Zb1) fun(s:Int)=>lt1 ((((F6 c (a,b)).getD CJ).Zx1).Zc) fun(t:Int)=>lt1 ((((F6 c (a,b)).getD CJ).Zx1).Zo1) fun(u:Int)=>lt1 ((((F6 c (a,b)).getD CJ).Zx1).Zw) fun(v:Int)=>lt1 ((((F6 c (a,b)).getD CJ).Zx1).To) fun(w:Int)=>lt1 ((((F6 c (a,b)).getD CJ).Zx1).Code) fun(y:Int)=>lt1 ((((F6 c (a,b)).getD CJ).Zx1).Zp1) fun(aa:Int)=>lt1 ((((F6 c (a,b)).getD CJ).Zx1).Zq1) fun(ab:Int)=>lt1 ((((F6 c (a,b)).getD CJ).Zx1).Zr1) fun(ac:Int)=>lt1 ((((F6 c (a,b)).getD CJ).Zx1).Zs1) fun(ad:Int)=>lt1 ((((F6 c (a,b)).getD CJ).Zx1).Zt1) fun(ae:List UInt8)=>lt1 ((((F6 c (a,b)).getD CJ).Zx1).Zu1) fun(af:List AkC)=>(if(!i)then some (.inl (a,b,a,b,d.Zw1,d.Zx1.Za,d.Zx1.Ref.Zb,d.Zx1.Ref.No,d.Zx1.Zn1,d.Zx1.Zb1,d.Zx1.Zc,d.Zx1.Zo1,d.Zx1.Zw,d.Zx1.To,d.Zx1.Code,d.Zx1.Zp1,d.Zx1.Zq1,d.Zx1.Zr1,d.Zx1.Zs1,d.Zx1.Zt1,d.Zx1.Zu1)) else if(f==14)then (some e).bind fun ag=>some (.inr ag) else some (.inl (j,k,l,m,n,f,o,p,q,s,t,u,v,w,y,aa,ab,ac,ad,ae,af)):Option ((Int×Int×Int×Int×Int×Int×Int×Int×Int×Int×Int×Int×Int×Int×Int×Int×Int×Int×Int×List UInt8×List AkC)⊕(List AkK))).bind fun x=>match x with
   | .inl (ah,ai,aj,ak,al,am,aD,aE,an,ao,ap,aq,ar,au,av,aw,ax,ay,az,aA,aB)=>if Dj (e.length+1) 192 then lt1 (e++([({ Ref:=({ Zb:=ah,No:=ai }:AkB),By:=({ Zb:=aj,No:=ak }:AkB),Zw1:=al,Zx1:=({ Za:=am,Ref:=({ Zb:=0,No:=0 }:AkB),Zn1:=an,Zb1:=ao,Zc:=ap,Zo1:=aq,Zw:=ar,To:=au,Code:=av,Zp1:=aw,Zq1:=ax,Zr1:=ay,Zs1:=az,Zt1:=aA,Zu1:=aB }:AkD) }:AkK)]:List AkK)) fun(aC:List AkK)=>some aC else none
   |.inr z=>some z else none
def B2(b:AkH):Option (List AkK) :=(BF b).bind fun a=>(Lw a).bind fun c=>(Afm (fun(v:List ((Int×Int)×AkK)) (q:AkB) (r:AkF)=>Gi v q.Zb q.No r) c.Zy1 ([])).bind fun d=>(Lw a).bind fun e=>(Afm (fun(v:List AkK) (q:AkB) (r:AkF)=>FY d v q.Zb q.No r) e.Zy1 ([])).bind fun f=>some f
def law14_sane  : Option (Bool) :=r14_Example.bind fun b=>(Cv 1).bind fun j=>(Bc b ({ Zy1:=[],Zz1:=[] }:AkH) 0 (7:UInt64) 5 j).bind fun c=>(AA b ({ Zy1:=[],Zz1:=[] }:AkH) c.1).bind fun a=>(AA b a.1 c.1).bind fun e=>(Cv 1).bind fun k=>(Bc b a.1 0 (7:UInt64) 4 k).bind fun l=>(Cv 2).bind fun m=>(Bc b ({ Zy1:=[],Zz1:=[] }:AkH) 0 (7:UInt64) 5 m).bind fun f=>(AA b a.1 f.1).bind fun d=>(Cv 1).bind fun n=>(Bc b ({ Zy1:=[],Zz1:=[] }:AkH) 0 (8:UInt64) 5 n).bind fun o=>(Bc b a.1 0 (7:UInt64) 6 ({ Za:=14,Ref:=({ Zb:=0,No:=1 }:AkB),Zn1:=0,Zb1:=0,Zc:=0,Zo1:=0,Zw:=0,To:=0,Code:=0,Zp1:=0,Zq1:=0,Zr1:=0,Zs1:=0,Zt1:=([]:List UInt8),Zu1:=[] }:AkD)).bind fun g=>(AA b a.1 g.1).bind fun i=>(Bc b ({ Zy1:=[],Zz1:=[] }:AkH) 0 (7:UInt64) 5 ({ Za:=14,Ref:=({ Zb:=0,No:=1 }:AkB),Zn1:=0,Zb1:=0,Zc:=0,Zo1:=0,Zw:=0,To:=0,Code:=0,Zp1:=0,Zq1:=0,Zr1:=0,Zs1:=0,Zt1:=([]:List UInt8),Zu1:=[] }:AkD)).bind fun p=>(if (c.2 == 0)then if (c.1.No==1)then if (c.1.Zv1==(⟨[(0:UInt8),0,0,0,0,0,0,0,0,0,0,0,0,0,0,0,0,0,0,0,0,0,0,0,0,0,0,0,0,0,0,0],rfl⟩:Arr UInt8 32))then if (a.2==0)then if ((a.1.Zy1.length:Int)==2)then if InR 0 a.1.Zy1.length then if (((nth a.1.Zy1 0).length:Int)==1)then if(e.2==0)then (Jc e.1 a.1).bind fun q=>if q then some (l.2==140) else some false else some false else some false else none else some false else some false else some false else some false else some false:Option (Bool)).bind fun s=>(if (f.2==0)then if (d.2==0)then if ((d.1.Zz1.length:Int)==1)then (BM d.1 0).bind fun t=>if (t==1)then (BM a.1 0).bind fun u=>if(u==0)then (B2 d.1).bind fun v=>if((v.length:Int)==0)then (B2 a.1).bind fun w=>some ((w.length:Int)==1) else some false else some false else some false else some false else some false else some false:Option (Bool)).bind fun x=>(if s = true then if x = true then if (o.2==30)then if (g.2==0)then if(i.2==0)then (B2 i.1).bind fun y=>if((y.length:Int)==0)then some (p.2==110) else some false else some false else some false else some false else some false else some false:Option (Bool)).bind fun z=>some z
def Fs(b:AkA)(a:Int):Option ((Int)⊕((Unit)⊕((Unit)⊕(Bool)))) :=(if(decide (a<(b.Zk1.length:Int)))then some (decide (a<5)) else some false:Option (Bool)).bind fun c=>if c then if InR a b.Zk1.length then lt1 (decide (((((nth b.Zk1 a.toNat).Zf1).Ze1).length:Int)>5)) fun(d:Bool)=>if d then ((some false).bind fun e=>some (.inr e)).bind fun f=>some (.inr (.inr f)) else some (.inl (w64 (a+1))) else none else some (.inr (.inl ()))
def GI(a:AkA):Option (Bool) :=((A3 (fun(v:Int)=>Fs a v) 0).bind fun x=>match x with
 |.inl ()=>some (.inl ())
 |.inr z=>some z:Option ((Unit)⊕(Bool))).bind fun x=>match x with
 | .inl ()=>(if(decide ((a.Zg1.Ze.length:Int)≤20))then some (decide ((a.Zg1.Zf.length:Int)≤20)) else some false:Option (Bool)).bind fun b=>(if(decide ((a.Zh1.Zy.length:Int)≤20))then if(decide ((a.Zh1.Zx.length:Int)≤20))then if(decide ((a.Zh1.Zz.length:Int)≤20))then some (decide ((a.Zh1.Za1.length:Int)≤20)) else some false else some false else some false:Option (Bool)).bind fun c=>(if b then if c then if(decide ((a.Zi1.length:Int)≤20))then if(decide ((a.Zj1.length:Int)≤20))then some (decide ((a.Zk1.length:Int)≤4)) else some false else some false else some false else some false:Option (Bool)).bind fun d=>some d
 |.inr z=>some z
def C6(a:AkD):Option (Bool) :=(if(decide ((a.Zt1.length:Int)≤1000))then some (decide ((a.Zu1.length:Int)≤20)) else some false:Option (Bool)).bind fun b=>some b
def CK(a:AkH)(b:Int)(c:Int):Option ((Int)⊕((Unit)⊕((Unit)⊕((Int)⊕((Unit)⊕((Unit)⊕(Bool))))))) :=if InR b a.Zy1.length then lt1 (decide (c<((nth a.Zy1 b.toNat).length:Int))) fun(d:Bool)=>if d then if InR b a.Zy1.length then if InR c ((nth a.Zy1 b.toNat).length)then (C6 ((nth (nth a.Zy1 b.toNat) c.toNat).Zx1)).bind fun e=>if(!e)then ((((some false).bind fun f=>some (.inr f)).bind fun g=>some (.inr (.inr g))).bind fun i=>some (.inr i)).bind fun j=>some (.inr (.inr j)) else some (.inl (w64 (c+1))) else none else none else some (.inr (.inl ())) else none
def Di(b:AkH)(a:Int):Option ((Int)⊕((Unit)⊕((Unit)⊕(Bool)))) :=if (decide (a<(b.Zy1.length:Int)))then (if InR a b.Zy1.length then lt1 (decide (((nth b.Zy1 a.toNat).length:Int)>12)) fun(c:Bool)=>if c then (((some false).bind fun d=>some (.inr d)).bind fun e=>some (.inr (.inr e))).bind fun f=>some (.inr f) else (A3 (fun(v:Int)=>CK b a v) 0).bind fun x=>match x with
    |.inl ()=>some (.inl ())
    |.inr z=>some z else none:Option ((Unit)⊕((Int)⊕((Unit)⊕((Unit)⊕(Bool)))))).bind fun x=>match x with
  |.inl ()=>some (.inl (w64 (a+1)))
  |.inr z=>some z else some (.inr (.inl ()))
def Dr(b:AkH)(a:Int):Option ((Int)⊕((Unit)⊕((Unit)⊕(Bool)))) :=if (decide (a<(b.Zz1.length:Int)))then (if InR a b.Zz1.length then (C6 (((nth b.Zz1 a.toNat).A).Zx1)).bind fun c=>if(!c)then some true else if InR a b.Zz1.length then (C6 (((nth b.Zz1 a.toNat).B).Zx1)).bind fun d=>some (!d) else none else none:Option (Bool)).bind fun e=>if e then ((some false).bind fun f=>some (.inr f)).bind fun g=>some (.inr (.inr g)) else some (.inl (w64 (a+1))) else some (.inr (.inl ()))
def EY(a:AkH):Option (Bool) :=(if(decide ((a.Zy1.length:Int)>4))then some true else some (decide ((a.Zz1.length:Int)>6)):Option (Bool)).bind fun b=>if b then some false else ((A3 (fun(v:Int)=>Di a v) 0).bind fun x=>match x with
  |.inl ()=>some (.inl ())
  |.inr z=>some z:Option ((Unit)⊕(Bool))).bind fun x=>match x with
  | .inl ()=>((A3 (fun(v:Int)=>Dr a v) 0).bind fun x=>match x with
   |.inl ()=>some (.inl ())
   |.inr z=>some z:Option ((Unit)⊕(Bool))).bind fun x=>match x with
   |.inl ()=>some true
   |.inr z=>some z
  |.inr z=>some z
def Kz(b:AkH)(a:Int):Option (List AkF) :=(if(decide (a<0))then some true else some (decide (a≥(b.Zy1.length:Int))):Option (Bool)).bind fun c=>if c then some ([]) else if InR a b.Zy1.length then some (nth b.Zy1 a.toNat) else none
def CV(b:AkH)(e:Int)(c:Int)(a:Int):Option ((Int×Int)⊕(Int)) :=if (decide (a<(b.Zz1.length:Int)))then (if InR a b.Zz1.length then lt1 (((nth b.Zz1 a.toNat).A).Zb) fun(f:Int)=>lt1 (((nth b.Zz1 a.toNat).A).No) fun(d:Int)=>lt1 (((nth b.Zz1 a.toNat).A).Zv1) fun(j:Arr UInt8 32)=>lt1 (((nth b.Zz1 a.toNat).A).Zw1) fun(k:Int)=>lt1 ((((nth b.Zz1 a.toNat).A).Zx1).Za) fun(l:Int)=>lt1 (((((nth b.Zz1 a.toNat).A).Zx1).Ref).Zb) fun(m:Int)=>lt1 (((((nth b.Zz1 a.toNat).A).Zx1).Ref).No) fun(n:Int)=>lt1 ((((nth b.Zz1 a.toNat).A).Zx1).Zn1) fun(o:Int)=>lt1 ((((nth b.Zz1 a.toNat).A).Zx1).Zb1) fun(p:Int)=>lt1 ((((nth b.Zz1 a.toNat).A).Zx1).Zc) fun(q:Int)=>lt1 ((((nth b.Zz1 a.toNat).A).Zx1).Zo1) fun(s:Int)=>lt1 ((((nth b.Zz1 a.toNat).A).Zx1).Zw) fun(t:Int)=>lt1 ((((nth b.Zz1 a.toNat).A).Zx1).To) fun(u:Int)=>lt1 ((((nth b.Zz1 a.toNat).A).Zx1).Code) fun(v:Int)=>lt1 ((((nth b.Zz1 a.toNat).A).Zx1).Zp1) fun(w:Int)=>lt1 ((((nth b.Zz1 a.toNat).A).Zx1).Zq1) fun(x:Int)=>lt1 ((((nth b.Zz1 a.toNat).A).Zx1).Zr1) fun(y:Int)=>lt1 ((((nth b.Zz1 a.toNat).A).Zx1).Zs1) fun(z:Int)=>lt1 ((((nth b.Zz1 a.toNat).A).Zx1).Zt1) fun(aa:List UInt8)=>lt1 ((((nth b.Zz1 a.toNat).A).Zx1).Zu1) fun(ab:List AkC)=>lt1 ((((nth b.Zz1 a.toNat).A).Sig).C) fun(ac:UInt64)=>lt1 ((((nth b.Zz1 a.toNat).A).Sig).S) fun(ad:UInt64)=>(if(f==e)then if(decide (d≥1))then if(c==0)then some true else some (decide (d<c)) else some false else some false:Option (Bool)).bind fun g=>if g then some d else some c else none:Option (Int)).bind fun i=>some (.inl (i,(w64 (a+1)))) else some (.inr c)
def GZ(a:AkH)(b:Int):Option (Int) :=((A3 (fun(v:Int×Int)=>CV a b v.1 v.2) (0,0)).bind fun c=>some c:Option (Int)).bind fun d=>some d
def CQ(b:AkH)(c:AkH)(a:Int):Option ((Int)⊕((Unit)⊕((Unit)⊕(Bool)))) :=(if(decide (a<(b.Zy1.length:Int)))then some true else some (decide (a<(c.Zy1.length:Int))):Option (Bool)).bind fun d=>if d then (Kz b a).bind fun e=>(Kz c a).bind fun f=>(EW e f).bind fun g=>if(!g)then ((some false).bind fun i=>some (.inr i)).bind fun j=>some (.inr (.inr j)) else some (.inl (w64 (a+1))) else some (.inr (.inl ()))
def Eo(a:AkH)(b:AkH):Option (Bool) :=((A3 (fun(v:Int)=>CQ a b v) 0).bind fun x=>match x with
 |.inl ()=>some (.inl ())
 |.inr z=>some z:Option ((Unit)⊕(Bool))).bind fun x=>match x with
 |.inl ()=>some true
 |.inr z=>some z
def DC(b:AkA)(a:AkH)(d:Int)(i:UInt64)(j:Int)(k:AkD)(l:AkD):Option (Bool) :=law14_sane.bind fun o=>if(!o)then some false else ((GI b).bind fun p=>if(!p)then some true else (EY a).bind fun q=>if(!q)then some true else (C6 k).bind fun s=>if(!s)then some true else (C6 l).bind fun t=>some (!t):Option (Bool)).bind fun u=>if u then some true else (Bc b a d i j k).bind fun c=>(Bc b a d i j l).bind fun f=>(if(c.2 != 0)then some true else if(f.2 != 0)then some true else (Cu c.1 f.1).bind fun v=>if v then some true else (GZ a d).bind fun w=>some (w != 0):Option (Bool)).bind fun x=>if x then some true else (AA b a c.1).bind fun m=>(AA b m.1 f.1).bind fun e=>(AA b a f.1).bind fun n=>(AA b n.1 c.1).bind fun g=>(if(m.2 != 0)then some true else if(e.2 != 0)then some true else if(n.2 != 0)then some true else if(g.2 != 0)then some true else if((e.1.Zz1.length:Int) != (w64 ((a.Zz1.length:Int)+1)))then some true else some ((g.1.Zz1.length:Int) != (w64 ((a.Zz1.length:Int)+1))):Option (Bool)).bind fun y=>if y then some false else ((BM e.1 d).bind fun z=>if (z==c.1.No)then (BM g.1 d).bind fun aa=>if(aa==c.1.No)then (BF e.1).bind fun ab=>(BF g.1).bind fun ac=>(Eo ab ac).bind fun ad=>if ad then (BF e.1).bind fun ae=>(BF a).bind fun af=>(Eo ae af).bind fun ag=>some ag else some false else some false else some false:Option (Bool)).bind fun ah=>some ah
set_option maxRecDepth 4000
variable{α X:Type}
theorem Bv{β:Type}(x:α)(f:α→Option β):lt1 x f=f x:=Anh (eq_self (f x))
theorem Cq{k:Nat}(h:k<9223372036854775807):w64 ((k:Int)+1)=((k+1:Nat):Int):=by rw[B6 (by omega)];rfl
theorem ZV(b c:Bool):(if b then some true else some c)=some (b||c):=by cases b<;>rfl
theorem Agh(b c:Bool):(if b then some c else some false)=some (b&&c):=by cases b<;>rfl
theorem HH{β:Type}(x:α)(f:α→Option β):(some x).bind f=f x:=Anh (eq_self (f x))
theorem PB[Inhabited α](l:List α)(f:Int→Option (Int⊕X))(p:α→Bool)(good bad:X)(hl:l.length<1152921504606846976) (hs:∀k:Nat,k<l.length→f (k:Int)=some (if p (nth l k)=true then .inl ((k+1:Nat):Int)else .inr bad)) (he:f (l.length:Int)=some (.inr good)) :A3 (fun v=>f v) 0=some (if l.all p=true then good else bad):=by
 obtain⟨x,hx,hq⟩:∃x,A3 (fun v=>f v) 0=some x∧x=(if l.all p=true then good else bad):=by
  refine CC (fun v=>∃k:Nat,v=(k:Int)∧k≤l.length∧(l.take k).all p=true) (fun v=>(l.length-v).toNat) _ ?_ ⟨0,rfl,Alg _,rfl⟩ (by simp;omega);rintro v ⟨k,rfl,hk,ht⟩;by_cases h1:k<l.length
  ·have hn:nth l k=l[k]:=by simp[nth,h1]
   rw[hs k h1];by_cases hp:p (nth l k)=true
   ·left;refine⟨_,by rw[if_pos hp],⟨k+1,rfl,by omega,?_⟩,by omega⟩;rw[Amt h1,List.all_append,ht,←hn];simp[hp]
   ·right;refine⟨_,by rw[if_neg hp],?_⟩;rw[if_neg];intro ha;rw[Ak1]at ha;exact hp (by rw[hn];exact ha _ (AlJ h1))
  ·right;have:k=l.length:=by omega
   subst this;rw[AlZ]at ht;exact⟨_,he,by rw[if_pos ht]⟩
 rw[hx,hq]
theorem Q1{V S:Type}[Inhabited α](l:List α)(f:V→Option (V⊕X))(st:Int→S→V)(g:S→α→S)(out:S→X)(s0:S)(hl:l.length<1152921504606846976) (hs:∀(k:Nat) (s:S),k<l.length→f (st (k:Int) s)=some (.inl (st ((k+1:Nat):Int) (g s (nth l k))))) (he:∀s,f (st (l.length:Int) s)=some (.inr (out s))) :A3 f (st 0 s0)=some (out (l.foldl g s0)):=by
 obtain⟨x,hx,hq⟩:∃x,A3 f (st 0 s0)=some x∧x=out (l.foldl g s0):=by
  refine E5 l.length (fun k v=>v=st (k:Int) ((l.take k).foldl g s0)) _ (by omega) ?_ ?_ rfl
  ·rintro k v hk rfl;refine⟨_,hs k _ hk,?_⟩;rw[Amt hk,List.foldl_append];simp[nth,hk]
  ·rintro v rfl;exact⟨_,he _,by rw[AlZ]⟩
 rw[hx,hq]
theorem Uj{V S:Type}(n:Nat)(f:V→Option (V⊕X))(st:Int→S→V)(F:Nat→S)(out:S→X)(hn:n<1152921504606846976) (hs:∀k:Nat,k<n→f (st (k:Int) (F k))=some (.inl (st ((k+1:Nat):Int) (F (k+1))))) (he:f (st (n:Int) (F n))=some (.inr (out (F n)))) :A3 f (st 0 (F 0))=some (out (F n)):=by
 obtain⟨x,hx,hq⟩:∃x,A3 f (st 0 (F 0))=some x∧x=out (F n):=by
  refine E5 n (fun k v=>v=st (k:Int) (F k)) _ (by omega) ?_ ?_ rfl
  ·rintro k v hk rfl;exact⟨_,hs k hk,rfl⟩
  ·rintro v rfl;exact⟨_,he,rfl⟩
 rw[hx,hq]
theorem RW[Inhabited α][DecidableEq α](a b:List α)(f:Int→Option (Int⊕(Unit⊕(Unit⊕Bool))))(hl:a.length=b.length)(hb:a.length<1152921504606846976) (hs:∀k:Nat,k<a.length→f (k:Int)=some (if nth a k=nth b k then .inl ((k+1:Nat):Int)else .inr (.inr (.inr false)))) (he:f (a.length:Int)=some (.inr (.inl ()))) :A3 (fun v=>f v) 0=some (if a=b then .inl ()else .inr (.inr false)):=by
 obtain⟨x,hx,hq⟩:∃x,A3 (fun v=>f v) 0=some x∧x=(if a=b then .inl ()else .inr (.inr false)):=by
  refine CC (fun v=>∃k:Nat,v=(k:Int)∧k≤a.length∧a.take k=b.take k) (fun v=>(a.length-v).toNat) _ ?_ ⟨0,rfl,Alg _,rfl⟩ (by simp;omega);rintro v ⟨k,rfl,hk,ht⟩;by_cases h1:k<a.length
  ·have h2:k<b.length:=by omega
   rw[hs k h1];have ea:a.take (k+1)=a.take k++[nth a k]:=by rw[AmU,AkP h1];simp[nth,AkP h1]
   have eb:b.take (k+1)=b.take k++[nth b k]:=by rw[AmU,AkP h2];simp[nth,AkP h2]
   by_cases hk':nth a k=nth b k
   ·left;exact⟨_,by rw[if_pos hk'],⟨k+1,rfl,by omega,by rw[ea,eb,ht,hk']⟩,by omega⟩
   ·right;refine⟨_,by rw[if_neg hk'],?_⟩;rw[if_neg (fun h=>hk' (by rw[h]))]
  ·right;have:k=a.length:=by omega
   subst this;refine⟨_,he,?_⟩;rw[AlZ,AlN (by omega)]at ht;rw[if_pos ht]
 rw[hx,hq]
theorem Acs(x y:AkC):(!((x.Za==y.Za)&&((x.Zl1==y.Zl1)&&(x.Zm1==y.Zm1))))=decide (x≠y):=by
 by_cases h:x=y
 ·subst h;simp
 ·rw[AkZ h];rcases x with⟨a,b,c⟩
  rcases y with⟨d,e,f⟩
  simp only[AkC.mk.injEq,not_and]at h;simp only[AmT,Amp,AmA,ne_eq];by_cases h1:a=d
  ·by_cases h2:b=e
   ·exact .inr (.inr (by simpa using h h1 h2))
   ·exact .inr (.inl h2)
  ·exact .inl h1
theorem VT{a b:List AkC}(ha:a.length≤1000000):E1 a b=some (decide (a=b)):=by
 unfold E1;by_cases hl:a.length=b.length
 ·rw[if_neg (by simp[hl]),RW a b (fun v=>C9 a b v) hl (by omega) ?_ ?_]
  ·by_cases h:a=b<;>simp[h]
  ·intro k hk;unfold C9;rw[if_pos (AkZ (by omega)),if_pos (BH hk),if_pos (BH (by omega))];simp only[Bv,Ak2,Acs];by_cases he:nth a k=nth b k
   ·rw[if_neg (by simp[he]),if_pos he,Cq (by omega)]
   ·rw[if_pos (by simp[he]),if_neg he];rfl
  ·unfold C9;rw[if_neg (by simp)]
 ·rw[if_pos (by simp;omega),Alm (fun h=>hl (by rw[h]))]
def Mi(it:AkD):List Int:=[it.Zn1,it.Zb1,it.Zc,it.Zo1,it.Zw,it.To,it.Code,it.Zp1,it.Zq1,it.Zr1,it.Zs1]
theorem TN(it:AkD):∀{k:Nat},k<11→HZ it (nth [119,112,111,110,102,116,99,100,107,103,97] k)=some (nth (Mi it) k)
 |0,_=>rfl
 |1,_=>rfl
 |2,_=>rfl
 |3,_=>rfl
 |4,_=>rfl
 |5,_=>rfl
 |6,_=>rfl
 |7,_=>rfl
 |8,_=>rfl
 |9,_=>rfl
 |10,_=>rfl
 |k+11,h=>by omega
theorem YY{a b:AkD}(h:Mi a=Mi b)(hk:a.Za=b.Za)(hr1:a.Ref.Zb=b.Ref.Zb)(hr2:a.Ref.No=b.Ref.No)(ht:a.Zt1=b.Zt1)(hp:a.Zu1=b.Zu1):a=b:=by
 rcases a with⟨k,⟨r,n⟩,a1,a2,a3,a4,a5,a6,a7,a8,a9,a10,a11,t,p⟩
 rcases b with⟨k',⟨r',n'⟩,b1,b2,b3,b4,b5,b6,b7,b8,b9,b10,b11,t',p'⟩
 simp only[Mi,List.cons.injEq,Anz]at h;obtain⟨rfl,rfl,rfl,rfl,rfl,rfl,rfl,rfl,rfl,rfl,rfl⟩:=h;simp only at hk hr1 hr2 ht hp;subst hk hr1 hr2 ht hp;rfl
theorem Yo{a b:AkD}(ha:a.Zu1.length≤1000000):JI a b=some (decide (a=b)):=by
 unfold JI;have l11:∀it:AkD,(Mi it).length=11:=fun _=>rfl
 rw[RW (Mi a) (Mi b) (fun v=>Fb a b v) rfl (by rw[l11];omega) ?_ ?_]
 ·by_cases hn:Mi a=Mi b
  ·simp only[if_pos hn,AkO];by_cases h1:a.Za=b.Za
   ·by_cases h2:a.Ref.Zb=b.Ref.Zb
    ·by_cases h3:a.Ref.No=b.Ref.No
     ·by_cases h4:a.Zt1=b.Zt1
      ·rw[if_pos (by simpa using h1),if_pos (by simp[h2,h3]),if_pos (by simpa using h4),VT ha];by_cases h5:a.Zu1=b.Zu1
       ·rw[AkZ h5,AkZ (YY hn h1 h2 h3 h4 h5)];rfl
       ·rw[Alm h5,Alm (fun h=>h5 (by rw[h]))];rfl
      ·rw[if_pos (by simpa using h1),if_pos (by simp[h2,h3]),if_neg (by simpa using h4),Alm (fun h=>h4 (by rw[h]))];rfl
     ·rw[if_pos (by simpa using h1),if_neg (by simp[h3]),Alm (fun h=>h3 (by rw[h]))];rfl
    ·rw[if_pos (by simpa using h1),if_neg (by simp[h2]),Alm (fun h=>h2 (by rw[h]))];rfl
   ·rw[if_neg (by simpa using h1),Alm (fun h=>h1 (by rw[h]))];rfl
  ·rw[Alm (fun h=>hn (by rw[h])),if_neg hn];rfl
 ·intro k hk;rw[l11]at hk;unfold Fb;have hin:InR (k:Int) ([119,112,111,110,102,116,99,100,107,103,97]:List UInt8).length:=⟨by omega,by simpa using hk⟩;rw[if_pos (AkZ (by omega)),if_pos hin];simp only[Ak2];rw[TN a hk,AkO,if_pos hin,TN b hk,AkO];by_cases he:nth (Mi a) k=nth (Mi b) k
  ·rw[if_neg (by simp[he]),if_pos he,Cq (by omega)]
  ·rw[if_pos (by simpa using he),if_neg he];rfl
 ·unfold Fb;rw[l11,if_neg (by simp)]
theorem XA{a b:AkF}(h1:a.Zb=b.Zb)(h2:a.No=b.No)(h3:a.Zv1=b.Zv1)(h4:a.Zw1=b.Zw1)(h5:a.Sig.C=b.Sig.C)(h6:a.Sig.S=b.Sig.S)(h7:a.Zx1=b.Zx1):a=b:=by
 rcases a with⟨a1,a2,a3,a4,a5,c,s⟩
 rcases b with⟨b1,b2,b3,b4,b5,c',s'⟩
 simp only at h1 h2 h3 h4 h5 h6 h7;subst h1 h2 h3 h4 h5 h6 h7;rfl
theorem Ut{a b:AkF}(ha:a.Zx1.Zu1.length≤1000000):Cu a b=some (decide (a=b)):=by
 unfold Cu;by_cases h1:a.Zb=b.Zb
 case neg=>rw[if_neg (by simpa using h1),Alm (fun h=>h1 (by rw[h]))];rfl
 by_cases h2:a.No=b.No
 case neg=>rw[if_pos (by simpa using h1),if_neg (by simpa using h2),Alm (fun h=>h2 (by rw[h]))];rfl
 by_cases h3:a.Zv1=b.Zv1
 case neg=>rw[if_pos (by simpa using h1),if_pos (by simpa using h2),if_neg (by simpa using h3),Alm (fun h=>h3 (by rw[h]))];rfl
 by_cases h4:a.Zw1=b.Zw1
 case neg=>rw[if_pos (by simpa using h1),if_pos (by simpa using h2),if_pos (by simpa using h3),if_neg (by simpa using h4),Alm (fun h=>h4 (by rw[h]))];rfl
 by_cases h5:a.Sig.C=b.Sig.C
 case neg=>rw[if_pos (by simpa using h1),if_pos (by simpa using h2),if_pos (by simpa using h3),if_pos (by simpa using h4),if_neg (by simp[h5]),Alm (fun h=>h5 (by rw[h]))];rfl
 by_cases h6:a.Sig.S=b.Sig.S
 case neg=>rw[if_pos (by simpa using h1),if_pos (by simpa using h2),if_pos (by simpa using h3),if_pos (by simpa using h4),if_neg (by simp[h6]),Alm (fun h=>h6 (by rw[h]))];rfl
 rw[if_pos (by simpa using h1),if_pos (by simpa using h2),if_pos (by simpa using h3),if_pos (by simpa using h4),if_pos (by simp[h5,h6]),Yo ha];by_cases h7:a.Zx1=b.Zx1
 ·rw[AkZ h7,AkZ (XA h1 h2 h3 h4 h5 h6 h7)];rfl
 ·rw[Alm h7,Alm (fun h=>h7 (by rw[h]))];rfl
theorem E6[Inhabited α]{l:List α}{k:Nat}(h:k<l.length):nth l k∈l:=by
 simp[nth,AkP h]
def LJ(l:List AkF):Prop:=∀r∈l,r.Zx1.Zu1.length≤1000000
theorem YX{a b:List AkF}(ha:a.length≤1000000)(hp:LJ a):EW a b=some (decide (a=b)):=by
 unfold EW;by_cases hl:a.length=b.length
 ·rw[if_neg (by simp[hl]),RW a b (fun v=>Dl a b v) hl (by omega) ?_ ?_]
  ·by_cases h:a=b<;>simp[h]
  ·intro k hk;unfold Dl;rw[if_pos (AkZ (by omega)),if_pos (BH hk),if_pos (BH (by omega))];simp only[Ak2];rw[Ut (hp _ (E6 hk)),AkO];by_cases he:nth a k=nth b k
   ·rw[if_neg (by simp[he]),if_pos he,Cq (by omega)]
   ·rw[if_pos (by simp[he]),if_neg he];rfl
  ·unfold Dl;rw[if_neg (by simp)]
 ·rw[if_pos (by simp;omega),Alm (fun h=>hl (by rw[h]))]
def FZ(it:AkD):Bool:=decide (it.Zt1.length≤1000)&&decide (it.Zu1.length≤20)
theorem LH(it:AkD):C6 it=some (FZ it):=by
 unfold C6 FZ;have e1:decide ((it.Zt1.length:Int)≤1000)=decide (it.Zt1.length≤1000):=by simp;omega
 have e2:decide ((it.Zu1.length:Int)≤20)=decide (it.Zu1.length≤20):=by simp;omega
 rw[e1,e2];by_cases h:it.Zt1.length≤1000<;>simp[h]
structure Small(it:AkD):Prop where
  text:it.Zt1.length≤1000
  parts:it.Zu1.length≤20
theorem J4{it:AkD}(h:FZ it=true):Small it:=by
 simp only[FZ,Ak3,Alb]at h;exact⟨h.1,h.2⟩
def Abh(l:List AkF):Bool:=decide (l.length≤12)&&l.all fun r=>FZ r.Zx1
def R8(f:AkG):Bool:=FZ f.A.Zx1&&FZ f.B.Zx1
def JJ(b:AkH):Bool:=decide (b.Zy1.length≤4)&&decide (b.Zz1.length≤6)&&b.Zy1.all Abh&&b.Zz1.all R8
theorem Y1(b:AkH){i:Nat}(hi:i<b.Zy1.length)(hr:(nth b.Zy1 i).length≤12) :A3 (fun(v:Int)=>CK b (i:Int) v) 0=some (if(nth b.Zy1 i).all (fun r=>FZ r.Zx1)=true then .inl ()else .inr (.inr (.inr (.inr (.inr false))))):=by
 refine PB (nth b.Zy1 i) (fun v=>CK b (i:Int) v) (fun r=>FZ r.Zx1) _ _ (by omega) (fun k hk=>?_) ?_
 ·unfold CK;simp only[if_pos (BH hi),Bv,Ak2,if_pos (BH hk),LH,AkO];rw[if_pos (AkZ (by omega))];by_cases h:FZ (nth (nth b.Zy1 i) k).Zx1=true
  ·rw[if_neg (by simp[h]),if_pos h,Cq (by omega)]
  ·rw[if_pos (by simpa using h),if_neg h]
 ·unfold CK;simp only[if_pos (BH hi),Bv,Ak2];rw[if_neg (by simp)]
theorem Aas(b:AkH):EY b=some (JJ b):=by
 unfold EY;by_cases h1:b.Zy1.length≤4
 case neg=>rw[if_pos (by simp;omega)];simp[JJ,h1]
 by_cases h2:b.Zz1.length≤6
 case neg=>rw[if_neg (by simp;omega)];simp only[HH];rw[if_pos (by simp;omega)];simp[JJ,h2]
 rw[if_neg (by simp;omega)];simp only[HH];rw[if_neg (by simp;omega)];rw[PB b.Zy1 (fun v=>Di b v) Abh (.inl ()) (.inr (.inr false)) (by omega) ?_ ?_]
 ·by_cases h3:b.Zy1.all Abh=true
  ·rw[if_pos h3];simp only[HH];rw[PB b.Zz1 (fun v=>Dr b v) R8 (.inl ()) (.inr (.inr false)) (by omega) ?_ ?_]
   ·by_cases h4:b.Zz1.all R8=true
    ·rw[if_pos h4];simp[JJ,h1,h2,h3,h4]
    ·rw[if_neg h4];simp only[HH];rw[Anb]at h4;simp[JJ,h4]
   ·intro k hk;unfold Dr;rw[if_pos (AkZ (by omega))];simp only[if_pos (BH hk),Ak2,LH,HH];by_cases h5:FZ (nth b.Zz1 k).A.Zx1=true
    ·by_cases h6:FZ (nth b.Zz1 k).B.Zx1=true
     ·simp[h5,h6,R8,Cq (k:=k) (by omega)]
     ·simp[h5,h6,R8]
    ·simp[h5,R8]
   ·unfold Dr;rw[if_neg (by simp)]
  ·rw[if_neg h3];simp only[HH];rw[Anb]at h3;simp[JJ,h3]
 ·intro k hk;unfold Di;rw[if_pos (AkZ (by omega))];simp only[if_pos (BH hk),Ak2,Bv];by_cases h5:(nth b.Zy1 k).length≤12
  ·rw[if_neg (by simp;omega),Y1 b hk h5];by_cases h6:(nth b.Zy1 k).all (fun r=>FZ r.Zx1)=true
   ·rw[if_pos h6,if_pos (by simp only[Abh,h5,decide_true,Ang,h6])];simp only[HH];rw[Cq (by omega)]
   ·rw[if_neg h6,if_neg (by simp only[Abh,h5,decide_true,Ang];exact h6)];rfl
  ·rw[if_pos (by simp;omega),if_neg (by simp[Abh,h5])];rfl
 ·unfold Di;rw[if_neg (by simp)]
structure Short(b:AkH):Prop where
  logs:b.Zy1.length≤4
  forks:b.Zz1.length≤6
  row:∀l∈b.Zy1,l.length≤12
  item:∀l∈b.Zy1,∀r∈l,Small r.Zx1
  fork:∀f∈b.Zz1,Small f.A.Zx1∧Small f.B.Zx1
theorem YD{b:AkH}(h:JJ b=true):Short b:=by
 simp only[JJ,Ak3,Alb,Ak1]at h;obtain⟨⟨⟨h1,h2⟩,h3⟩,h4⟩:=h;refine⟨h1,h2,fun l hl=>?_,fun l hl r hr=>?_,fun f hf=>?_⟩
 ·have:=h3 l hl;simp only[Abh,Ak3,Alb]at this;exact this.1
 ·have:=h3 l hl;simp only[Abh,Ak3,Alb,Ak1]at this;exact J4 (this.2 r hr)
 ·have:=h4 f hf;simp only[R8,Ak3]at this;exact⟨J4 this.1,J4 this.2⟩
def CG(rw:Int)(no:Int)(f:AkG):Int:=if((f.A.Zb==rw)&&(decide (f.A.No≥1)&&((no==0)||decide (f.A.No<no))))then f.A.No else no
def Cn(b:AkH)(rw:Int):Int:=b.Zz1.foldl (CG rw) 0
theorem MU{b:AkH}(rw:Int)(h:b.Zz1.length≤1000000):BM b rw=some (Cn b rw):=by
 unfold BM;rw[Q1 b.Zz1 (fun(v:Int×Int)=>Dh b rw v.1 v.2) (fun k s=>(s,k)) (CG rw) id 0 (by omega) (fun k s hk=>?_) (fun s=>?_)]
 ·rfl
 ·unfold Dh;rw[if_pos (AkZ (by simp;omega)),if_pos (BH hk)];simp only[Bv,Ak2];unfold CG;by_cases h1:(nth b.Zz1 k).A.Zb=rw
  ·by_cases h2:(nth b.Zz1 k).A.No≥1
   ·by_cases h3:s=0
    ·simp[h1,h2,h3,Cq (k:=k) (by omega)]
    ·by_cases h4:(nth b.Zz1 k).A.No<s<;>simp[h1,h2,h3,h4,Cq (k:=k) (by omega)]
   ·simp[h1,h2,Cq (k:=k) (by omega)]
  ·simp[h1,Cq (k:=k) (by omega)]
 ·unfold Dh;rw[if_neg (by simp)];rfl
theorem Ow{rw:Int}:∀(l:List AkG) (no:Int),(∀f∈l,f.A.No≤9223372036854775807)→(0≤no∧no≤9223372036854775807)→0≤l.foldl (CG rw) no∧l.foldl (CG rw) no≤9223372036854775807
  |[],no,_,h=>h
  | f :: l,no,hl,h=>by
    refine Ow l _ (fun g hg=>hl g (Alx _ hg)) ?_;unfold CG;split
    · rename_i h1
      simp only[Ak3,Alb]at h1;exact⟨by omega,hl f Ak5⟩
    · exact h
def I64(x:Int):Prop:=-9223372036854775808≤x∧x≤9223372036854775807
theorem P2{b:AkH}{rw:Int}(h:∀f∈b.Zz1,I64 f.A.No):0≤Cn b rw∧Cn b rw≤9223372036854775807 :=
 Ow _ _ (fun f hf=>(h f hf).2) ⟨by omega,by omega⟩
def C8(b:AkH)(i:Nat):List AkF:=if Cn b (i:Int)>0 then(nth b.Zy1 i).take (Cn b (i:Int)-1).toNat else nth b.Zy1 i
def CS(b:AkH):AkH:={ Zy1:=(List.range b.Zy1.length).map (C8 b),Zz1:=[] }
theorem Ke{b:AkH}(h:b.Zz1.length≤1000000)(hl:b.Zy1.length≤1000000)(hr:∀l∈b.Zy1,l.length≤1000000)(hf:∀f∈b.Zz1,I64 f.A.No):BF b=some (CS b):=by
 have h1:A3 (fun(v:Int×List (List AkF))=>C5 b v.1 v.2) (0,[])=some ((List.range b.Zy1.length).map (C8 b)):=by
  refine Uj b.Zy1.length (fun(v:Int×List (List AkF))=>C5 b v.1 v.2) (fun k s=>(k,s)) (fun k=>(List.range k).map (C8 b)) id (by omega) (fun k hk=>?_) ?_
  ·unfold C5;have hrk:=hr _ (E6 hk);obtain⟨f1,f2⟩:=P2 (rw:=(k:Int)) hf;rw[if_pos (AkZ (by simp;omega)),if_pos (BH hk)];simp only[Bv,Ak2,MU (k:Int) h,AkO];have hlen:((List.range k).map (C8 b)).length=k:=by simp
   have hfit:Dj (((List.range k).map (C8 b)).length+1) 24:=by rw[hlen];unfold Dj maxLen Gj;omega
   by_cases h1:Cn b (k:Int)>0
   ·have e1:w64 (Cn b (k:Int)-1)=Cn b (k:Int)-1:=B6 (by omega);have e2:(NX (w64 (Cn b (k:Int)-1)) ((nth b.Zy1 k).length:Int))=min (Cn b (k:Int)-1) ((nth b.Zy1 k).length:Int):=by rw[e1];unfold NX;omega
    have hin:InB (NX (w64 (Cn b (k:Int)-1)) ((nth b.Zy1 k).length:Int)) (nth b.Zy1 k).length:=by rw[e2];unfold InB;omega
    rw[if_pos (AkZ h1),if_pos hin];simp only[AkO];rw[if_pos hfit,Cq (by omega),AmR,AmO]
    have e3:(nth b.Zy1 k).take (NX (w64 (Cn b (k:Int)-1)) ((nth b.Zy1 k).length:Int)).toNat=C8 b k:=by
     unfold C8;rw[if_pos h1,e2];by_cases h2:Cn b (k:Int)-1≤((nth b.Zy1 k).length:Int)
     ·rw[Int.min_eq_left h2]
     ·rw[Int.min_eq_right (by omega),Ak2,AlN (AkY _),AlN (by omega)]
    rw[e3];rfl
   ·rw[if_neg (by simpa using h1)];simp only[AkO];rw[if_pos hfit,Cq (by omega),AmR,AmO];have e3:nth b.Zy1 k=C8 b k:=by unfold C8;rw[if_neg h1]
    rw[Al7,Anr,←e3]
  ·unfold C5;rw[if_neg (by simp)];rfl
 unfold BF;rw[h1];rfl
theorem Fy(b:AkH):(CS b).Zy1.length=b.Zy1.length:=by simp[CS]
theorem Hz{b:AkH}{i:Nat}(hi:i<b.Zy1.length):nth (CS b).Zy1 i=C8 b i:=by
 simp[CS,nth,hi]
theorem PK{b:AkH}{i:Nat}:∀r∈C8 b i,r∈nth b.Zy1 i:=by
 intro r hr;unfold C8 at hr;split at hr
 ·exact AmV hr
 ·exact hr
theorem Qy{b:AkH}{i:Nat}:(C8 b i).length≤(nth b.Zy1 i).length:=by
 unfold C8;split
 ·rw[AmB];omega
 ·exact AkY _
end Go.Proofs.YtioapcamanmoiaaDoor
