/-
  Part 43.
-/
import Derived.Test.YtioapcamanmoiaaDoorProg
import Derived.Test.YtioapcamanmoiaaDoorYF39
import Derived.Test.YtioapcamanmoiaaDoorYF40
import Derived.KernelRfl
namespace Go.Proofs.YtioapcamanmoiaaDoor
open Go.Rv
set_option linter.unusedVariables false
set_option linter.unusedSimpArgs false
set_option maxRecDepth 20000
def glob2:Arr UInt32 64:=⟨[1116352408,1899447441,3049323471,3921009573,961987163,1508970993,2453635748,2870763221,3624381080,310598401,607225278,1426881987,1925078388,2162078206,2614888103,3248222580,3835390401,4022224774,264347078,604807628,770255983,1249150122,1555081692,1996064986,2554220882,2821834349,2952996808,3210313671,3336571891,3584528711,113926993,338241895,666307205,773529912,1294757372,1396182291,1695183700,1986661051,2177026350,2456956037,2730485921,2820302411,3259730800,3345764771,3516065817,3600352804,4094571909,275423344,430227734,506948616,659060556,883997877,958139571,1322822218,1537002063,1747873779,1955562222,2024104815,2227730452,2361852424,2428436474,2756734187,3204031479,3329325298],rfl⟩
theorem AiW:MpLaw Tryd.prog 119 43 89:=YK (m:=6) (by kernel_rfl) (by decide) (by kernel_rfl) (by kernel_rfl) (by kernel_rfl) (fun a b h=>AdB (m:=216) ⟨"Railway", 3,0,false,"","", 0⟩ ⟨"No", 3,1,false,"","", 8⟩ (by kernel_rfl) (by kernel_rfl) (by kernel_rfl) (by kernel_rfl) (by kernel_rfl) (by kernel_rfl) (by kernel_rfl) rfl rfl (by decide) (by decide) (by kernel_rfl) h)
attribute [go_sem_proc] reduceIte Nat.reduceLT Nat.reduceEqDiff Nat.reduceAdd Nat.reduceBEq Nat.reduceMul Nat.reduceSub Nat.reduceGT Nat.reducePow Nat.reduceLeDiff Int.reduceToNat Int.reduceLT Int.reduceAdd Int.reduceSub Nat.reduceGT Nat.reduceLeDiff Int.reduceBEq Int.reduceGT Int.reduceLE Int.reduceGE
attribute [go_sem] Ai8 decide_true decide_false Bool.false_eq_true beq_self_eq_true
noncomputable def B:Base:=WH Tryd.prog (fun i=>if i=2 then some (C1 u32 glob2.l)else none) (fun f _=>[39,40,41,42,45,47,50,65,67,70,78,85,86,88,92,93,97,98,99,100,101,102,103].contains f) (fun _=>none) (fun _=>none) none true (fun _ _=>rfl) (some (119,43,89)) (Acz AiW)
theorem tbk{t F x}(h:Bl Tryd.prog t=x):(B.env F).tab t=x:=(Az Tryd.prog t).trans h
theorem ok:B.Ok:=VI _ _ _ _ _ _ _ _ _ _
theorem lm0(F:Out):(B.env F).lm=true:=rfl
variable(F:Out)(xs:List Operand)
theorem own3:(B.env F).own 3 xs=false:=rfl
theorem own4:(B.env F).own 4 xs=false:=rfl
theorem own5:(B.env F).own 5 xs=false:=rfl
theorem own6:(B.env F).own 6 xs=false:=rfl
theorem own7:(B.env F).own 7 xs=false:=rfl
theorem own8:(B.env F).own 8 xs=false:=rfl
theorem own9:(B.env F).own 9 xs=false:=rfl
theorem Aip:(B.env F).own 10 xs=false:=rfl
theorem AhA:(B.env F).own 11 xs=false:=rfl
theorem Aha:(B.env F).own 12 xs=false:=rfl
theorem Aj3:(B.env F).own 13 xs=false:=rfl
theorem AiQ:(B.env F).own 14 xs=false:=rfl
theorem Ah2:(B.env F).own 15 xs=false:=rfl
theorem Ag1:(B.env F).own 16 xs=false:=rfl
theorem Ait:(B.env F).own 17 xs=false:=rfl
theorem Ajq:(B.env F).own 18 xs=false:=rfl
theorem Akf:(B.env F).own 19 xs=false:=rfl
theorem AiX:(B.env F).own 20 xs=false:=rfl
theorem Ah5:(B.env F).own 21 xs=false:=rfl
theorem AhP:(B.env F).own 22 xs=false:=rfl
theorem AiR:(B.env F).own 23 xs=false:=rfl
theorem Ag7:(B.env F).own 24 xs=false:=rfl
theorem Air:(B.env F).own 25 xs=false:=rfl
theorem AiT:(B.env F).own 26 xs=false:=rfl
theorem Ajz:(B.env F).own 27 xs=false:=rfl
theorem Aic:(B.env F).own 28 xs=false:=rfl
theorem AhM:(B.env F).own 29 xs=false:=rfl
theorem AiA:(B.env F).own 30 xs=false:=rfl
theorem Aij:(B.env F).own 31 xs=false:=rfl
theorem AhV:(B.env F).own 32 xs=false:=rfl
theorem Ajl:(B.env F).own 33 xs=false:=rfl
theorem Aj0:(B.env F).own 34 xs=false:=rfl
theorem AjQ:(B.env F).own 35 xs=false:=rfl
theorem AjY:(B.env F).own 36 xs=false:=rfl
theorem Aho:(B.env F).own 37 xs=false:=rfl
theorem AhE:(B.env F).own 38 xs=false:=rfl
theorem AiZ:(B.env F).own 39 xs=true:=rfl
theorem Ag2:(B.env F).own 40 xs=true:=rfl
theorem AiK:(B.env F).own 41 xs=true:=rfl
theorem AhG:(B.env F).own 42 xs=true:=rfl
theorem AjW:(B.env F).own 43 xs=false:=rfl
theorem Aje:(B.env F).own 44 xs=false:=rfl
theorem Aja:(B.env F).own 45 xs=true:=rfl
theorem AjV:(B.env F).own 46 xs=false:=rfl
theorem Ahx:(B.env F).own 47 xs=true:=rfl
theorem Ahz:(B.env F).own 48 xs=false:=rfl
theorem Ai7:(B.env F).own 49 xs=false:=rfl
theorem Aj1:(B.env F).own 50 xs=true:=rfl
theorem Ajf:(B.env F).own 51 xs=false:=rfl
theorem AjK:(B.env F).own 52 xs=false:=rfl
theorem Aiz:(B.env F).own 53 xs=false:=rfl
theorem Ajg:(B.env F).own 54 xs=false:=rfl
theorem Ahw:(B.env F).own 55 xs=false:=rfl
theorem AjC:(B.env F).own 56 xs=false:=rfl
theorem AjS:(B.env F).own 57 xs=false:=rfl
theorem AhH:(B.env F).own 58 xs=false:=rfl
theorem AhX:(B.env F).own 59 xs=false:=rfl
theorem AhR:(B.env F).own 60 xs=false:=rfl
theorem Ai9:(B.env F).own 61 xs=false:=rfl
theorem Aiy:(B.env F).own 62 xs=false:=rfl
theorem Akl:(B.env F).own 63 xs=false:=rfl
theorem Ag9:(B.env F).own 64 xs=false:=rfl
theorem Akh:(B.env F).own 65 xs=true:=rfl
theorem Ajp:(B.env F).own 66 xs=false:=rfl
theorem AiM:(B.env F).own 67 xs=true:=rfl
theorem Ahj:(B.env F).own 68 xs=false:=rfl
theorem Akb:(B.env F).own 69 xs=false:=rfl
theorem AhT:(B.env F).own 70 xs=true:=rfl
theorem AiI:(B.env F).own 71 xs=false:=rfl
theorem Ahl:(B.env F).own 72 xs=false:=rfl
theorem AjP:(B.env F).own 73 xs=false:=rfl
theorem AiS:(B.env F).own 75 xs=false:=rfl
theorem AiE:(B.env F).own 76 xs=false:=rfl
theorem Ajj:(B.env F).own 77 xs=false:=rfl
theorem AjJ:(B.env F).own 78 xs=true:=rfl
theorem AjH:(B.env F).own 79 xs=false:=rfl
theorem Ahm:(B.env F).own 80 xs=false:=rfl
theorem Aib:(B.env F).own 81 xs=false:=rfl
theorem Ail:(B.env F).own 82 xs=false:=rfl
theorem Aih:(B.env F).own 83 xs=false:=rfl
theorem AjF:(B.env F).own 84 xs=false:=rfl
theorem Aj9:(B.env F).own 85 xs=true:=rfl
theorem Aka:(B.env F).own 86 xs=true:=rfl
theorem Aj7:(B.env F).own 87 xs=false:=rfl
theorem AhF:(B.env F).own 88 xs=true:=rfl
theorem Akc:(B.env F).own 89 xs=false:=rfl
theorem AiL:(B.env F).own 90 xs=false:=rfl
theorem Ag3:(B.env F).own 91 xs=false:=rfl
theorem AjT:(B.env F).own 92 xs=true:=rfl
theorem Ahi:(B.env F).own 93 xs=true:=rfl
theorem Akd:(B.env F).own 94 xs=false:=rfl
theorem AhN:(B.env F).own 95 xs=false:=rfl
theorem AjM:(B.env F).own 96 xs=false:=rfl
theorem Ahu:(B.env F).own 97 xs=true:=rfl
theorem Aim:(B.env F).own 98 xs=true:=rfl
theorem AhO:(B.env F).own 99 xs=true:=rfl
theorem Age:(B.env F).own 100 xs=true:=rfl
theorem Aej:(B.env F).own 101 xs=true:=rfl
theorem AeE:(B.env F).own 102 xs=true:=rfl
theorem AeA:(B.env F).own 103 xs=true:=rfl
theorem Agg:(B.env F).own 104 xs=false:=rfl
theorem Mi:Tryd.prog.follows .mixedOrders=true:=by kernel_rfl
structure Akp where
  Za:Int
  Zb:Int
  Zc:Int
  deriving DecidableEq,Inhabited
def Ag(x:Akp):List AV:=[i64 x.Za,i64 x.Zb,i64 x.Zc]
structure Akq where
  A:Int
  B:Int
  Zb:Int
  Zd:Int
  Km:Int
  deriving DecidableEq,Inhabited
def Am(x:Akq):List AV:=[i64 x.A,i64 x.B,i64 x.Zb,i64 x.Zd,i64 x.Km]
structure Akr where
  Ze:List Akp
  Zf:List Akq
  deriving DecidableEq,Inhabited
def KW(x:Akr):List AV:=[.sl false (L Ag x.Ze),.sl false (L Am x.Zf)]
structure Aks where
  Zg:Int
  Zh:Int
  Zi:Int
  Zj:Int
  Zk:Int
  Zl:UInt64
  Zm:Int
  Zn:Int
  deriving DecidableEq,Inhabited
def Ab(x:Aks):List AV:=[i64 x.Zg,i64 x.Zh,i64 x.Zi,i64 x.Zj,i64 x.Zk,u64 x.Zl,i64 x.Zm,i64 x.Zn]
structure Akt where
  Zo:Int
  Zp:Int
  Zq:Int
  Zr:Int
  Zs:Int
  deriving DecidableEq,Inhabited
def Ae(x:Akt):List AV:=[i64 x.Zo,i64 x.Zp,i64 x.Zq,i64 x.Zr,i64 x.Zs]
structure Aku where
  Zt:Int
  Zu:Int
  Zv:Int
  deriving DecidableEq,Inhabited
def Ai(x:Aku):List AV:=[i64 x.Zt,i64 x.Zu,i64 x.Zv]
structure Akv where
  Zw:Int
  To:Int
  Zd:Int
  deriving DecidableEq,Inhabited
def Ah(x:Akv):List AV:=[i64 x.Zw,i64 x.To,i64 x.Zd]
structure Akw where
  Zx:List Aks
  Zy:List Akt
  Zz:List Aku
  Za1:List Akv
  deriving DecidableEq,Inhabited
def O3(x:Akw):List AV:=[.sl false (L Ab x.Zx),.sl false (L Ae x.Zy),.sl false (L Ai x.Zz),.sl false (L Ah x.Za1)]
structure Akx where
  Zb1:Int
  Low:Int
  Zc1:Int
  deriving DecidableEq,Inhabited
def Af(x:Akx):List AV:=[i64 x.Zb1,i64 x.Low,i64 x.Zc1]
structure Aky where
  Zb1:Int
  deriving DecidableEq,Inhabited
def Ad(x:Aky):List AV:=[i64 x.Zb1]
structure Akz where
  Zw:Int
  To:Int
  deriving DecidableEq,Inhabited
def JN(x:Akz):List AV:=[i64 x.Zw,i64 x.To]
structure AkA where
  Zd1:(Akz×Akz×Akz×Akz×Akz×Akz×Akz)
  Ze1:List Int
  deriving DecidableEq,Inhabited
def Jq(x:AkA):List AV:=[i64 x.Zd1.1.Zw,i64 x.Zd1.1.To,i64 x.Zd1.2.1.Zw,i64 x.Zd1.2.1.To,i64 x.Zd1.2.2.1.Zw,i64 x.Zd1.2.2.1.To,i64 x.Zd1.2.2.2.1.Zw,i64 x.Zd1.2.2.2.1.To,i64 x.Zd1.2.2.2.2.1.Zw,i64 x.Zd1.2.2.2.2.1.To,i64 x.Zd1.2.2.2.2.2.1.Zw,i64 x.Zd1.2.2.2.2.2.1.To,i64 x.Zd1.2.2.2.2.2.2.Zw,i64 x.Zd1.2.2.2.2.2.2.To,.sl false (L Iy x.Ze1)]
structure AkB where
  Key:UInt64
  Zf1:AkA
  deriving DecidableEq,Inhabited
def Ac(x:AkB):List AV:=[u64 x.Key,i64 x.Zf1.Zd1.1.Zw,i64 x.Zf1.Zd1.1.To,i64 x.Zf1.Zd1.2.1.Zw,i64 x.Zf1.Zd1.2.1.To,i64 x.Zf1.Zd1.2.2.1.Zw,i64 x.Zf1.Zd1.2.2.1.To,i64 x.Zf1.Zd1.2.2.2.1.Zw,i64 x.Zf1.Zd1.2.2.2.1.To,i64 x.Zf1.Zd1.2.2.2.2.1.Zw,i64 x.Zf1.Zd1.2.2.2.2.1.To,i64 x.Zf1.Zd1.2.2.2.2.2.1.Zw,i64 x.Zf1.Zd1.2.2.2.2.2.1.To,i64 x.Zf1.Zd1.2.2.2.2.2.2.Zw,i64 x.Zf1.Zd1.2.2.2.2.2.2.To,.sl false (L Iy x.Zf1.Ze1)]
structure AkC where
  Zg1:Akr
  Zh1:Akw
  Zi1:List Akx
  Zj1:List Aky
  Zk1:List AkB
  deriving DecidableEq,Inhabited
def Av(x:AkC):List AV:=[.sl false (L Ag x.Zg1.Ze),.sl false (L Am x.Zg1.Zf),.sl false (L Ab x.Zh1.Zx),.sl false (L Ae x.Zh1.Zy),.sl false (L Ai x.Zh1.Zz),.sl false (L Ah x.Zh1.Za1),.sl false (L Af x.Zi1),.sl false (L Ad x.Zj1),.sl false (L Ac x.Zk1)]
structure AkD where
  Zb:Int
  No:Int
  deriving DecidableEq,Inhabited
def TS(x:AkD):List AV:=[i64 x.Zb,i64 x.No]
structure AkE where
  Za:Int
  Zl1:Int
  Zm1:Bool
  deriving DecidableEq,Inhabited
def Aj(x:AkE):List AV:=[i64 x.Za,i64 x.Zl1,.bool x.Zm1]
structure AkF where
  Za:Int
  Ref:AkD
  Zn1:Int
  Zb1:Int
  Zc:Int
  Zo1:Int
  Zw:Int
  To:Int
  Code:Int
  Zp1:Int
  Zq1:Int
  Zr1:Int
  Zs1:Int
  Zt1:List UInt8
  Zu1:List AkE
  deriving DecidableEq,Inhabited
def A3(x:AkF):List AV:=[i64 x.Za,i64 x.Ref.Zb,i64 x.Ref.No,i64 x.Zn1,i64 x.Zb1,i64 x.Zc,i64 x.Zo1,i64 x.Zw,i64 x.To,i64 x.Code,i64 x.Zp1,i64 x.Zq1,i64 x.Zr1,i64 x.Zs1,.str x.Zt1,.sl false (L Aj x.Zu1)]
structure AkG where
  C:UInt64
  S:UInt64
  deriving DecidableEq,Inhabited
def Pq(x:AkG):List AV:=[u64 x.C,u64 x.S]
structure AkH where
  Zb:Int
  No:Int
  Zv1:Arr UInt8 32
  Zw1:Int
  Zx1:AkF
  Sig:AkG
  deriving DecidableEq,Inhabited
def Ak(x:AkH):List AV:=(i64 x.Zb::i64 x.No::(C1 u8 x.Zv1.l++[i64 x.Zw1,i64 x.Zx1.Za,i64 x.Zx1.Ref.Zb,i64 x.Zx1.Ref.No,i64 x.Zx1.Zn1,i64 x.Zx1.Zb1,i64 x.Zx1.Zc,i64 x.Zx1.Zo1,i64 x.Zx1.Zw,i64 x.Zx1.To,i64 x.Zx1.Code,i64 x.Zx1.Zp1,i64 x.Zx1.Zq1,i64 x.Zx1.Zr1,i64 x.Zx1.Zs1,.str x.Zx1.Zt1,.sl false (L Aj x.Zx1.Zu1),u64 x.Sig.C,u64 x.Sig.S]))
structure AkI where
  A:AkH
  B:AkH
  deriving DecidableEq,Inhabited
def Aw(x:AkI):List AV:=(i64 x.A.Zb::i64 x.A.No::(C1 u8 x.A.Zv1.l++i64 x.A.Zw1::i64 x.A.Zx1.Za::i64 x.A.Zx1.Ref.Zb::i64 x.A.Zx1.Ref.No::i64 x.A.Zx1.Zn1::i64 x.A.Zx1.Zb1::i64 x.A.Zx1.Zc::i64 x.A.Zx1.Zo1::i64 x.A.Zx1.Zw::i64 x.A.Zx1.To::i64 x.A.Zx1.Code::i64 x.A.Zx1.Zp1::i64 x.A.Zx1.Zq1::i64 x.A.Zx1.Zr1::i64 x.A.Zx1.Zs1::.str x.A.Zx1.Zt1::.sl false (L Aj x.A.Zx1.Zu1)::u64 x.A.Sig.C::u64 x.A.Sig.S::i64 x.B.Zb::i64 x.B.No::(C1 u8 x.B.Zv1.l++[i64 x.B.Zw1,i64 x.B.Zx1.Za,i64 x.B.Zx1.Ref.Zb,i64 x.B.Zx1.Ref.No,i64 x.B.Zx1.Zn1,i64 x.B.Zx1.Zb1,i64 x.B.Zx1.Zc,i64 x.B.Zx1.Zo1,i64 x.B.Zx1.Zw,i64 x.B.Zx1.To,i64 x.B.Zx1.Code,i64 x.B.Zx1.Zp1,i64 x.B.Zx1.Zq1,i64 x.B.Zx1.Zr1,i64 x.B.Zx1.Zs1,.str x.B.Zx1.Zt1,.sl false (L Aj x.B.Zx1.Zu1),u64 x.B.Sig.C,u64 x.B.Sig.S])))
structure AkJ where
  Zy1:List (List AkH)
  Zz1:List AkI
  deriving DecidableEq,Inhabited
def An(x:AkJ):List AV:=[.sl false (L (cSl Ak) x.Zy1),.sl false (L Aw x.Zz1)]
inductive AkK where
  |mk (Za:Int) (N:Int) (B:List UInt8) (L:List AkK)
instance:Inhabited AkK:=⟨.mk default default default default⟩
def AkK.Za(x:AkK):Int:=match x with
 |.mk a _ _ _=>a
theorem NS{x0:Int}{x1:Int}{x2:List UInt8}{x3:List AkK}:(AkK.mk x0 x1 x2 x3).Za=x0:=rfl
def AkK.N(x:AkK):Int:=match x with
 |.mk _ a _ _=>a
theorem Rf{x0:Int}{x1:Int}{x2:List UInt8}{x3:List AkK}:(AkK.mk x0 x1 x2 x3).N=x1:=rfl
def AkK.B(x:AkK):List UInt8:=match x with
 |.mk _ _ a _=>a
theorem SY{x0:Int}{x1:Int}{x2:List UInt8}{x3:List AkK}:(AkK.mk x0 x1 x2 x3).B=x2:=rfl
def AkK.L(x:AkK):List AkK:=match x with
 |.mk _ _ _ a=>a
theorem Sn{x0:Int}{x1:Int}{x2:List UInt8}{x3:List AkK}:(AkK.mk x0 x1 x2 x3).L=x3:=rfl
noncomputable def cApi_Value(v:AkK):List AV:=AkK.rec (motive_1:=fun _=>List AV) (motive_2:=fun _=>List (List AV)) (fun Kind_ N_ B_ L_ ih3=>[i64 Kind_,i64 N_,.sl false (L cU8 B_),.sl false ih3]) [] (fun _ _ x l=>x::l) v
theorem QA(l:List AkK):AkK.rec_1 (motive_1:=fun _=>List AV) (motive_2:=fun _=>List (List AV)) (fun Kind_ N_ B_ L_ ih3=>[i64 Kind_,i64 N_,.sl false (L cU8 B_),.sl false ih3]) [] (fun _ _ x l=>x::l) l=L cApi_Value l:=by
 induction l with
 |nil=>rfl
 |cons x l ih=>exact Ame (cApi_Value x::·) ih
theorem Jc(x:AkK):cApi_Value x=[i64 x.Za,i64 x.N,.sl false (L cU8 x.B),.sl false (L cApi_Value x.L)]:=by
  cases x with
  | mk a0 a1 a2 a3=>
    show[i64 a0,i64 a1,.sl false (L cU8 a2),.sl false (AkK.rec_1 (motive_1:=fun _=>List AV) (motive_2:=fun _=>List (List AV)) (fun Kind_ N_ B_ L_ ih3=>[i64 Kind_,i64 N_,.sl false (L cU8 B_),.sl false ih3]) [] (fun _ _ x l=>x::l) a3)]=_;rw[QA];rfl
structure AkL where
  p:AkC
  it:AkF
  ok:Bool
  deriving DecidableEq,Inhabited
def Qs(x:AkL):List AV:=[.sl false (L Ag x.p.Zg1.Ze),.sl false (L Am x.p.Zg1.Zf),.sl false (L Ab x.p.Zh1.Zx),.sl false (L Ae x.p.Zh1.Zy),.sl false (L Ai x.p.Zh1.Zz),.sl false (L Ah x.p.Zh1.Za1),.sl false (L Af x.p.Zi1),.sl false (L Ad x.p.Zj1),.sl false (L Ac x.p.Zk1),i64 x.it.Za,i64 x.it.Ref.Zb,i64 x.it.Ref.No,i64 x.it.Zn1,i64 x.it.Zb1,i64 x.it.Zc,i64 x.it.Zo1,i64 x.it.Zw,i64 x.it.To,i64 x.it.Code,i64 x.it.Zp1,i64 x.it.Zq1,i64 x.it.Zr1,i64 x.it.Zs1,.str x.it.Zt1,.sl false (L Aj x.it.Zu1),.bool x.ok]
structure AkM where
  Ref:AkD
  By:AkD
  Zw1:Int
  Zx1:AkF
  deriving DecidableEq,Inhabited
def A1(x:AkM):List AV:=[i64 x.Ref.Zb,i64 x.Ref.No,i64 x.By.Zb,i64 x.By.No,i64 x.Zw1,i64 x.Zx1.Za,i64 x.Zx1.Ref.Zb,i64 x.Zx1.Ref.No,i64 x.Zx1.Zn1,i64 x.Zx1.Zb1,i64 x.Zx1.Zc,i64 x.Zx1.Zo1,i64 x.Zx1.Zw,i64 x.Zx1.To,i64 x.Zx1.Code,i64 x.Zx1.Zp1,i64 x.Zx1.Zq1,i64 x.Zx1.Zr1,i64 x.Zx1.Zs1,.str x.Zx1.Zt1,.sl false (L Aj x.Zx1.Zu1)]
theorem tt3:Bl Tryd.prog 3=some ⟨.int .i64,1,8,[i64 0]⟩:=by kernel_rfl
theorem tb3(F:Out):(B.env F).tab 3=some ⟨.int .i64,1,8,[i64 0]⟩:=(Az Tryd.prog 3).trans tt3
theorem tt4:Bl Tryd.prog 4=some ⟨.bool,1,1,[.bool false]⟩:=by kernel_rfl
theorem tb4(F:Out):(B.env F).tab 4=some ⟨.bool,1,1,[.bool false]⟩:=(Az Tryd.prog 4).trans tt4
theorem tt5:Bl Tryd.prog 5=some ⟨.int .u8,1,1,[u8 ((0:UInt8))]⟩:=by kernel_rfl
theorem tb5(F:Out):(B.env F).tab 5=some ⟨.int .u8,1,1,[u8 ((0:UInt8))]⟩:=(Az Tryd.prog 5).trans tt5
theorem tt9:Bl Tryd.prog 9=some ⟨.string,1,16,[.str (([]:List UInt8))]⟩:=by kernel_rfl
theorem tb9(F:Out):(B.env F).tab 9=some ⟨.string,1,16,[.str (([]:List UInt8))]⟩:=(Az Tryd.prog 9).trans tt9
theorem tt22:Bl Tryd.prog 22=some ⟨.slice 127,1,24,[.sl true (L Ag ([]))]⟩:=by kernel_rfl
theorem tb22(F:Out):(B.env F).tab 22=some ⟨.slice 127,1,24,[.sl true (L Ag ([]))]⟩:=(Az Tryd.prog 22).trans tt22
theorem tt23:Bl Tryd.prog 23=some ⟨.slice 129,1,24,[.sl true (L Am ([]))]⟩:=by kernel_rfl
theorem tb23(F:Out):(B.env F).tab 23=some ⟨.slice 129,1,24,[.sl true (L Am ([]))]⟩:=(Az Tryd.prog 23).trans tt23
theorem tt25:Bl Tryd.prog 25=some ⟨.struct #[⟨"Places", 22,0,false,"","", 0⟩,⟨"Edges", 23,1,false,"","", 24⟩],2,48,[.sl true (L Ag ([])),.sl true (L Am ([]))]⟩:=by kernel_rfl
theorem tb25(F:Out):(B.env F).tab 25=some ⟨.struct #[⟨"Places", 22,0,false,"","", 0⟩,⟨"Edges", 23,1,false,"","", 24⟩],2,48,[.sl true (L Ag ([])),.sl true (L Am ([]))]⟩:=(Az Tryd.prog 25).trans tt25
theorem tt26:Bl Tryd.prog 26=some ⟨.slice 131,1,24,[.sl true (L Ab ([]))]⟩:=by kernel_rfl
theorem tb26(F:Out):(B.env F).tab 26=some ⟨.slice 131,1,24,[.sl true (L Ab ([]))]⟩:=(Az Tryd.prog 26).trans tt26
theorem tt27:Bl Tryd.prog 27=some ⟨.slice 133,1,24,[.sl true (L Ae ([]))]⟩:=by kernel_rfl
theorem tb27(F:Out):(B.env F).tab 27=some ⟨.slice 133,1,24,[.sl true (L Ae ([]))]⟩:=(Az Tryd.prog 27).trans tt27
theorem tt28:Bl Tryd.prog 28=some ⟨.slice 167,1,24,[.sl true (L Ai ([]))]⟩:=by kernel_rfl
theorem tb28(F:Out):(B.env F).tab 28=some ⟨.slice 167,1,24,[.sl true (L Ai ([]))]⟩:=(Az Tryd.prog 28).trans tt28
theorem tt29:Bl Tryd.prog 29=some ⟨.slice 171,1,24,[.sl true (L Ah ([]))]⟩:=by kernel_rfl
theorem tb29(F:Out):(B.env F).tab 29=some ⟨.slice 171,1,24,[.sl true (L Ah ([]))]⟩:=(Az Tryd.prog 29).trans tt29
theorem tt31:Bl Tryd.prog 31=some ⟨.struct #[⟨"Types", 26,0,false,"","", 0⟩,⟨"Wagons", 27,1,false,"","", 24⟩,⟨"Swaps", 28,2,false,"","", 48⟩,⟨"Washes", 29,3,false,"","", 72⟩],4,96,[.sl true (L Ab ([])),.sl true (L Ae ([])),.sl true (L Ai ([])),.sl true (L Ah ([]))]⟩:=by kernel_rfl
theorem tb31(F:Out):(B.env F).tab 31=some ⟨.struct #[⟨"Types", 26,0,false,"","", 0⟩,⟨"Wagons", 27,1,false,"","", 24⟩,⟨"Swaps", 28,2,false,"","", 48⟩,⟨"Washes", 29,3,false,"","", 72⟩],4,96,[.sl true (L Ab ([])),.sl true (L Ae ([])),.sl true (L Ai ([])),.sl true (L Ah ([]))]⟩:=(Az Tryd.prog 31).trans tt31
theorem tt32:Bl Tryd.prog 32=some ⟨.slice 135,1,24,[.sl true (L Af ([]))]⟩:=by kernel_rfl
theorem tb32(F:Out):(B.env F).tab 32=some ⟨.slice 135,1,24,[.sl true (L Af ([]))]⟩:=(Az Tryd.prog 32).trans tt32
theorem tt33:Bl Tryd.prog 33=some ⟨.slice 137,1,24,[.sl true (L Ad ([]))]⟩:=by kernel_rfl
theorem tb33(F:Out):(B.env F).tab 33=some ⟨.slice 137,1,24,[.sl true (L Ad ([]))]⟩:=(Az Tryd.prog 33).trans tt33
theorem tt34:Bl Tryd.prog 34=some ⟨.slice 74,1,24,[.sl true (L Ac ([]))]⟩:=by kernel_rfl
theorem AgU(F:Out):(B.env F).tab 34=some ⟨.slice 74,1,24,[.sl true (L Ac ([]))]⟩:=(Az Tryd.prog 34).trans tt34
theorem tt36:Bl Tryd.prog 36=some ⟨.struct #[⟨"Network", 25,0,false,"","", 0⟩,⟨"Fleet", 31,2,false,"","", 48⟩,⟨"Readers", 32,6,false,"","", 144⟩,⟨"Shippers", 33,7,false,"","", 168⟩,⟨"Railways", 34,8,false,"","", 192⟩],9,216,[.sl true (L Ag ([])),.sl true (L Am ([])),.sl true (L Ab ([])),.sl true (L Ae ([])),.sl true (L Ai ([])),.sl true (L Ah ([])),.sl true (L Af ([])),.sl true (L Ad ([])),.sl true (L Ac ([]))]⟩:=by kernel_rfl
theorem tb36(F:Out):(B.env F).tab 36=some ⟨.struct #[⟨"Network", 25,0,false,"","", 0⟩,⟨"Fleet", 31,2,false,"","", 48⟩,⟨"Readers", 32,6,false,"","", 144⟩,⟨"Shippers", 33,7,false,"","", 168⟩,⟨"Railways", 34,8,false,"","", 192⟩],9,216,[.sl true (L Ag ([])),.sl true (L Am ([])),.sl true (L Ab ([])),.sl true (L Ae ([])),.sl true (L Ai ([])),.sl true (L Ah ([])),.sl true (L Af ([])),.sl true (L Ad ([])),.sl true (L Ac ([]))]⟩:=(Az Tryd.prog 36).trans tt36
theorem tt37:Bl Tryd.prog 37=some ⟨.slice 75,1,24,[.sl true (L (cSl Ak) ([]))]⟩:=by kernel_rfl
theorem Aeh(F:Out):(B.env F).tab 37=some ⟨.slice 75,1,24,[.sl true (L (cSl Ak) ([]))]⟩:=(Az Tryd.prog 37).trans tt37
theorem tt38:Bl Tryd.prog 38=some ⟨.slice 96,1,24,[.sl true (L Aw ([]))]⟩:=by kernel_rfl
theorem AgW(F:Out):(B.env F).tab 38=some ⟨.slice 96,1,24,[.sl true (L Aw ([]))]⟩:=(Az Tryd.prog 38).trans tt38
theorem tt40:Bl Tryd.prog 40=some ⟨.struct #[⟨"Logs", 37,0,false,"","", 0⟩,⟨"Forks", 38,1,false,"","", 24⟩],2,48,[.sl true (L (cSl Ak) ([])),.sl true (L Aw ([]))]⟩:=by kernel_rfl
theorem tb40(F:Out):(B.env F).tab 40=some ⟨.struct #[⟨"Logs", 37,0,false,"","", 0⟩,⟨"Forks", 38,1,false,"","", 24⟩],2,48,[.sl true (L (cSl Ak) ([])),.sl true (L Aw ([]))]⟩:=(Az Tryd.prog 40).trans tt40
theorem tt41:Bl Tryd.prog 41=some ⟨.int .u64,1,8,[u64 ((0:UInt64))]⟩:=by kernel_rfl
theorem AgR(F:Out):(B.env F).tab 41=some ⟨.int .u64,1,8,[u64 ((0:UInt64))]⟩:=(Az Tryd.prog 41).trans tt41
theorem tt43:Bl Tryd.prog 43=some ⟨.struct #[⟨"Railway", 3,0,false,"","", 0⟩,⟨"No", 3,1,false,"","", 8⟩],2,16,[i64 0,i64 0]⟩:=by kernel_rfl
theorem AjU(F:Out):(B.env F).tab 43=some ⟨.struct #[⟨"Railway", 3,0,false,"","", 0⟩,⟨"No", 3,1,false,"","", 8⟩],2,16,[i64 0,i64 0]⟩:=(Az Tryd.prog 43).trans tt43
theorem tt44:Bl Tryd.prog 44=some ⟨.slice 175,1,24,[.sl true (L Aj ([]))]⟩:=by kernel_rfl
theorem tb44(F:Out):(B.env F).tab 44=some ⟨.slice 175,1,24,[.sl true (L Aj ([]))]⟩:=(Az Tryd.prog 44).trans tt44
theorem tt46:Bl Tryd.prog 46=some ⟨.struct #[⟨"Kind", 3,0,false,"","", 0⟩,⟨"Ref", 43,1,false,"","", 8⟩,⟨"Wagon", 3,3,false,"","", 24⟩,⟨"Place", 3,4,false,"","", 32⟩,⟨"Other", 3,5,false,"","", 40⟩,⟨"Number", 3,6,false,"","", 48⟩,⟨"From", 3,7,false,"","", 56⟩,⟨"To", 3,8,false,"","", 64⟩,⟨"Code", 3,9,false,"","", 72⟩,⟨"Dest", 3,10,false,"","", 80⟩,⟨"Class", 3,11,false,"","", 88⟩,⟨"Weight", 3,12,false,"","", 96⟩,⟨"Amount", 3,13,false,"","", 104⟩,⟨"Text", 9,14,false,"","", 112⟩,⟨"Parts", 44,15,false,"","", 128⟩],16,152,[i64 0,i64 0,i64 0,i64 0,i64 0,i64 0,i64 0,i64 0,i64 0,i64 0,i64 0,i64 0,i64 0,i64 0,.str (([]:List UInt8)),.sl true (L Aj ([]))]⟩:=by kernel_rfl
theorem tb46(F:Out):(B.env F).tab 46=some ⟨.struct #[⟨"Kind", 3,0,false,"","", 0⟩,⟨"Ref", 43,1,false,"","", 8⟩,⟨"Wagon", 3,3,false,"","", 24⟩,⟨"Place", 3,4,false,"","", 32⟩,⟨"Other", 3,5,false,"","", 40⟩,⟨"Number", 3,6,false,"","", 48⟩,⟨"From", 3,7,false,"","", 56⟩,⟨"To", 3,8,false,"","", 64⟩,⟨"Code", 3,9,false,"","", 72⟩,⟨"Dest", 3,10,false,"","", 80⟩,⟨"Class", 3,11,false,"","", 88⟩,⟨"Weight", 3,12,false,"","", 96⟩,⟨"Amount", 3,13,false,"","", 104⟩,⟨"Text", 9,14,false,"","", 112⟩,⟨"Parts", 44,15,false,"","", 128⟩],16,152,[i64 0,i64 0,i64 0,i64 0,i64 0,i64 0,i64 0,i64 0,i64 0,i64 0,i64 0,i64 0,i64 0,i64 0,.str (([]:List UInt8)),.sl true (L Aj ([]))]⟩:=(Az Tryd.prog 46).trans tt46
theorem tt52:Bl Tryd.prog 52=some ⟨.array 32 5,32,32,(C1 u8 ((Arr.rep 32 (0:UInt8))).l)⟩:=by kernel_rfl
theorem Ai0(F:Out):(B.env F).tab 52=some ⟨.array 32 5,32,32,(C1 u8 ((Arr.rep 32 (0:UInt8))).l)⟩:=(Az Tryd.prog 52).trans tt52
theorem tt54:Bl Tryd.prog 54=some ⟨.struct #[⟨"C", 41,0,false,"","", 0⟩,⟨"S", 41,1,false,"","", 8⟩],2,16,[u64 ((0:UInt64)),u64 ((0:UInt64))]⟩:=by kernel_rfl
theorem tb54(F:Out):(B.env F).tab 54=some ⟨.struct #[⟨"C", 41,0,false,"","", 0⟩,⟨"S", 41,1,false,"","", 8⟩],2,16,[u64 ((0:UInt64)),u64 ((0:UInt64))]⟩:=(Az Tryd.prog 54).trans tt54
theorem tt56:Bl Tryd.prog 56=some ⟨.struct #[⟨"Railway", 3,0,false,"","", 0⟩,⟨"No", 3,1,false,"","", 8⟩,⟨"Prev", 52,2,false,"","", 16⟩,⟨"Time", 3,34,false,"","", 48⟩,⟨"Item", 46,35,false,"","", 56⟩,⟨"Sig", 54,51,false,"","", 208⟩],53,224,(i64 0::i64 0::(C1 u8 ((Arr.rep 32 (0:UInt8))).l++[i64 0,i64 0,i64 0,i64 0,i64 0,i64 0,i64 0,i64 0,i64 0,i64 0,i64 0,i64 0,i64 0,i64 0,i64 0,.str (([]:List UInt8)),.sl true (L Aj ([])),u64 ((0:UInt64)),u64 ((0:UInt64))]))⟩:=by kernel_rfl
theorem Ain(F:Out):(B.env F).tab 56=some ⟨.struct #[⟨"Railway", 3,0,false,"","", 0⟩,⟨"No", 3,1,false,"","", 8⟩,⟨"Prev", 52,2,false,"","", 16⟩,⟨"Time", 3,34,false,"","", 48⟩,⟨"Item", 46,35,false,"","", 56⟩,⟨"Sig", 54,51,false,"","", 208⟩],53,224,(i64 0::i64 0::(C1 u8 ((Arr.rep 32 (0:UInt8))).l++[i64 0,i64 0,i64 0,i64 0,i64 0,i64 0,i64 0,i64 0,i64 0,i64 0,i64 0,i64 0,i64 0,i64 0,i64 0,.str (([]:List UInt8)),.sl true (L Aj ([])),u64 ((0:UInt64)),u64 ((0:UInt64))]))⟩:=(Az Tryd.prog 56).trans tt56
theorem tt57:Bl Tryd.prog 57=some ⟨.int .i64,1,8,[i64 0]⟩:=by kernel_rfl
theorem tb57(F:Out):(B.env F).tab 57=some ⟨.int .i64,1,8,[i64 0]⟩:=(Az Tryd.prog 57).trans tt57
theorem tt63:Bl Tryd.prog 63=some ⟨.slice 5,1,24,[.sl true (L cU8 ([]))]⟩:=by kernel_rfl
theorem AcQ(F:Out):(B.env F).tab 63=some ⟨.slice 5,1,24,[.sl true (L cU8 ([]))]⟩:=(Az Tryd.prog 63).trans tt63
theorem tt68:Bl Tryd.prog 68=some ⟨.struct #[⟨"From", 3,0,false,"","", 0⟩,⟨"To", 3,1,false,"","", 8⟩],2,16,[i64 0,i64 0]⟩:=by kernel_rfl
theorem tb68(F:Out):(B.env F).tab 68=some ⟨.struct #[⟨"From", 3,0,false,"","", 0⟩,⟨"To", 3,1,false,"","", 8⟩],2,16,[i64 0,i64 0]⟩:=(Az Tryd.prog 68).trans tt68
theorem tt69:Bl Tryd.prog 69=some ⟨.array 7 68,14,112,[i64 0,i64 0,i64 0,i64 0,i64 0,i64 0,i64 0,i64 0,i64 0,i64 0,i64 0,i64 0,i64 0,i64 0]⟩:=by kernel_rfl
theorem tb69(F:Out):(B.env F).tab 69=some ⟨.array 7 68,14,112,[i64 0,i64 0,i64 0,i64 0,i64 0,i64 0,i64 0,i64 0,i64 0,i64 0,i64 0,i64 0,i64 0,i64 0]⟩:=(Az Tryd.prog 69).trans tt69
theorem tt70:Bl Tryd.prog 70=some ⟨.slice 3,1,24,[.sl true (L Iy ([]))]⟩:=by kernel_rfl
theorem Ahy(F:Out):(B.env F).tab 70=some ⟨.slice 3,1,24,[.sl true (L Iy ([]))]⟩:=(Az Tryd.prog 70).trans tt70
theorem tt72:Bl Tryd.prog 72=some ⟨.struct #[⟨"Open", 69,0,false,"","", 0⟩,⟨"Holidays", 70,14,false,"","", 112⟩],15,136,[i64 0,i64 0,i64 0,i64 0,i64 0,i64 0,i64 0,i64 0,i64 0,i64 0,i64 0,i64 0,i64 0,i64 0,.sl true (L Iy ([]))]⟩:=by kernel_rfl
theorem tb72(F:Out):(B.env F).tab 72=some ⟨.struct #[⟨"Open", 69,0,false,"","", 0⟩,⟨"Holidays", 70,14,false,"","", 112⟩],15,136,[i64 0,i64 0,i64 0,i64 0,i64 0,i64 0,i64 0,i64 0,i64 0,i64 0,i64 0,i64 0,i64 0,i64 0,.sl true (L Iy ([]))]⟩:=(Az Tryd.prog 72).trans tt72
theorem tt74:Bl Tryd.prog 74=some ⟨.struct #[⟨"Key", 41,0,false,"","", 0⟩,⟨"Calendar", 72,1,false,"","", 8⟩],16,144,[u64 ((0:UInt64)),i64 0,i64 0,i64 0,i64 0,i64 0,i64 0,i64 0,i64 0,i64 0,i64 0,i64 0,i64 0,i64 0,i64 0,.sl true (L Iy ([]))]⟩:=by kernel_rfl
theorem AiB(F:Out):(B.env F).tab 74=some ⟨.struct #[⟨"Key", 41,0,false,"","", 0⟩,⟨"Calendar", 72,1,false,"","", 8⟩],16,144,[u64 ((0:UInt64)),i64 0,i64 0,i64 0,i64 0,i64 0,i64 0,i64 0,i64 0,i64 0,i64 0,i64 0,i64 0,i64 0,i64 0,.sl true (L Iy ([]))]⟩:=(Az Tryd.prog 74).trans tt74
theorem tt75:Bl Tryd.prog 75=some ⟨.slice 56,1,24,[.sl true (L Ak ([]))]⟩:=by kernel_rfl
theorem Abk(F:Out):(B.env F).tab 75=some ⟨.slice 56,1,24,[.sl true (L Ak ([]))]⟩:=(Az Tryd.prog 75).trans tt75
theorem tt85:Bl Tryd.prog 85=some ⟨.slice 89,1,24,[.sl true (L A1 ([]))]⟩:=by kernel_rfl
theorem AiD(F:Out):(B.env F).tab 85=some ⟨.slice 89,1,24,[.sl true (L A1 ([]))]⟩:=(Az Tryd.prog 85).trans tt85
theorem tt89:Bl Tryd.prog 89=some ⟨.struct #[⟨"Ref", 43,0,false,"","", 0⟩,⟨"By", 43,2,false,"","", 16⟩,⟨"Time", 3,4,false,"","", 32⟩,⟨"Item", 46,5,false,"","", 40⟩],21,192,[i64 0,i64 0,i64 0,i64 0,i64 0,i64 0,i64 0,i64 0,i64 0,i64 0,i64 0,i64 0,i64 0,i64 0,i64 0,i64 0,i64 0,i64 0,i64 0,.str (([]:List UInt8)),.sl true (L Aj ([]))]⟩:=by kernel_rfl
theorem Ajt(F:Out):(B.env F).tab 89=some ⟨.struct #[⟨"Ref", 43,0,false,"","", 0⟩,⟨"By", 43,2,false,"","", 16⟩,⟨"Time", 3,4,false,"","", 32⟩,⟨"Item", 46,5,false,"","", 40⟩],21,192,[i64 0,i64 0,i64 0,i64 0,i64 0,i64 0,i64 0,i64 0,i64 0,i64 0,i64 0,i64 0,i64 0,i64 0,i64 0,i64 0,i64 0,i64 0,i64 0,.str (([]:List UInt8)),.sl true (L Aj ([]))]⟩:=(Az Tryd.prog 89).trans tt89
theorem tt96:Bl Tryd.prog 96=some ⟨.struct #[⟨"A", 56,0,false,"","", 0⟩,⟨"B", 56,53,false,"","", 224⟩],106,448,(i64 0::i64 0::(C1 u8 ((Arr.rep 32 (0:UInt8))).l++i64 0::i64 0::i64 0::i64 0::i64 0::i64 0::i64 0::i64 0::i64 0::i64 0::i64 0::i64 0::i64 0::i64 0::i64 0::.str (([]:List UInt8))::.sl true (L Aj ([]))::u64 ((0:UInt64))::u64 ((0:UInt64))::i64 0::i64 0::(C1 u8 ((Arr.rep 32 (0:UInt8))).l++[i64 0,i64 0,i64 0,i64 0,i64 0,i64 0,i64 0,i64 0,i64 0,i64 0,i64 0,i64 0,i64 0,i64 0,i64 0,.str (([]:List UInt8)),.sl true (L Aj ([])),u64 ((0:UInt64)),u64 ((0:UInt64))])))⟩:=by kernel_rfl
theorem AjG(F:Out):(B.env F).tab 96=some ⟨.struct #[⟨"A", 56,0,false,"","", 0⟩,⟨"B", 56,53,false,"","", 224⟩],106,448,(i64 0::i64 0::(C1 u8 ((Arr.rep 32 (0:UInt8))).l++i64 0::i64 0::i64 0::i64 0::i64 0::i64 0::i64 0::i64 0::i64 0::i64 0::i64 0::i64 0::i64 0::i64 0::i64 0::.str (([]:List UInt8))::.sl true (L Aj ([]))::u64 ((0:UInt64))::u64 ((0:UInt64))::i64 0::i64 0::(C1 u8 ((Arr.rep 32 (0:UInt8))).l++[i64 0,i64 0,i64 0,i64 0,i64 0,i64 0,i64 0,i64 0,i64 0,i64 0,i64 0,i64 0,i64 0,i64 0,i64 0,.str (([]:List UInt8)),.sl true (L Aj ([])),u64 ((0:UInt64)),u64 ((0:UInt64))])))⟩:=(Az Tryd.prog 96).trans tt96
theorem Ai4:Bl Tryd.prog 110=some ⟨.slice 112,1,24,[.sl true (L cApi_Value ([]))]⟩:=by kernel_rfl
theorem ZF(F:Out):(B.env F).tab 110=some ⟨.slice 112,1,24,[.sl true (L cApi_Value ([]))]⟩:=(Az Tryd.prog 110).trans Ai4
theorem Akk:Bl Tryd.prog 112=some ⟨.struct #[⟨"Kind", 3,0,false,"","", 0⟩,⟨"N", 3,1,false,"","", 8⟩,⟨"B", 63,2,false,"","", 16⟩,⟨"L", 110,3,false,"","", 40⟩],4,64,[i64 0,i64 0,.sl true (L cU8 ([])),.sl true (L cApi_Value ([]))]⟩:=by kernel_rfl
theorem AcD(F:Out):(B.env F).tab 112=some ⟨.struct #[⟨"Kind", 3,0,false,"","", 0⟩,⟨"N", 3,1,false,"","", 8⟩,⟨"B", 63,2,false,"","", 16⟩,⟨"L", 110,3,false,"","", 40⟩],4,64,[i64 0,i64 0,.sl true (L cU8 ([])),.sl true (L cApi_Value ([]))]⟩:=(Az Tryd.prog 112).trans Akk
theorem Ah4:Bl Tryd.prog 119=some ⟨.map 43 89,1,8,[.val (.map none)]⟩:=by kernel_rfl
theorem AhI(F:Out):(B.env F).tab 119=some ⟨.map 43 89,1,8,[.val (.map none)]⟩:=(Az Tryd.prog 119).trans Ah4
theorem Aif:Bl Tryd.prog 127=some ⟨.struct #[⟨"Kind", 3,0,false,"","", 0⟩,⟨"Railway", 3,1,false,"","", 8⟩,⟨"Other", 3,2,false,"","", 16⟩],3,24,[i64 0,i64 0,i64 0]⟩:=by kernel_rfl
theorem Afu(F:Out):(B.env F).tab 127=some ⟨.struct #[⟨"Kind", 3,0,false,"","", 0⟩,⟨"Railway", 3,1,false,"","", 8⟩,⟨"Other", 3,2,false,"","", 16⟩],3,24,[i64 0,i64 0,i64 0]⟩:=(Az Tryd.prog 127).trans Aif
theorem Aht:Bl Tryd.prog 129=some ⟨.struct #[⟨"A", 3,0,false,"","", 0⟩,⟨"B", 3,1,false,"","", 8⟩,⟨"Railway", 3,2,false,"","", 16⟩,⟨"Minutes", 3,3,false,"","", 24⟩,⟨"Km", 3,4,false,"","", 32⟩],5,40,[i64 0,i64 0,i64 0,i64 0,i64 0]⟩:=by kernel_rfl
theorem Ae1(F:Out):(B.env F).tab 129=some ⟨.struct #[⟨"A", 3,0,false,"","", 0⟩,⟨"B", 3,1,false,"","", 8⟩,⟨"Railway", 3,2,false,"","", 16⟩,⟨"Minutes", 3,3,false,"","", 24⟩,⟨"Km", 3,4,false,"","", 32⟩],5,40,[i64 0,i64 0,i64 0,i64 0,i64 0]⟩:=(Az Tryd.prog 129).trans Aht
theorem Aj6:Bl Tryd.prog 131=some ⟨.struct #[⟨"Load", 3,0,false,"","", 0⟩,⟨"Tare", 3,1,false,"","", 8⟩,⟨"Length", 3,2,false,"","", 16⟩,⟨"Gauge", 3,3,false,"","", 24⟩,⟨"Brake", 3,4,false,"","", 32⟩,⟨"Classes", 41,5,false,"","", 40⟩,⟨"Life", 3,6,false,"","", 48⟩,⟨"Floor", 3,7,false,"","", 56⟩],8,64,[i64 0,i64 0,i64 0,i64 0,i64 0,u64 ((0:UInt64)),i64 0,i64 0]⟩:=by kernel_rfl
theorem AeK(F:Out):(B.env F).tab 131=some ⟨.struct #[⟨"Load", 3,0,false,"","", 0⟩,⟨"Tare", 3,1,false,"","", 8⟩,⟨"Length", 3,2,false,"","", 16⟩,⟨"Gauge", 3,3,false,"","", 24⟩,⟨"Brake", 3,4,false,"","", 32⟩,⟨"Classes", 41,5,false,"","", 40⟩,⟨"Life", 3,6,false,"","", 48⟩,⟨"Floor", 3,7,false,"","", 56⟩],8,64,[i64 0,i64 0,i64 0,i64 0,i64 0,u64 ((0:UInt64)),i64 0,i64 0]⟩:=(Az Tryd.prog 131).trans Aj6
theorem AhL:Bl Tryd.prog 133=some ⟨.struct #[⟨"Type", 3,0,false,"","", 0⟩,⟨"Owner", 3,1,false,"","", 8⟩,⟨"Home", 3,2,false,"","", 16⟩,⟨"Built", 3,3,false,"","", 24⟩,⟨"Worth", 3,4,false,"","", 32⟩],5,40,[i64 0,i64 0,i64 0,i64 0,i64 0]⟩:=by kernel_rfl
theorem Afd(F:Out):(B.env F).tab 133=some ⟨.struct #[⟨"Type", 3,0,false,"","", 0⟩,⟨"Owner", 3,1,false,"","", 8⟩,⟨"Home", 3,2,false,"","", 16⟩,⟨"Built", 3,3,false,"","", 24⟩,⟨"Worth", 3,4,false,"","", 32⟩],5,40,[i64 0,i64 0,i64 0,i64 0,i64 0]⟩:=(Az Tryd.prog 133).trans AhL
theorem AhW:Bl Tryd.prog 135=some ⟨.struct #[⟨"Place", 3,0,false,"","", 0⟩,⟨"Low", 3,1,false,"","", 8⟩,⟨"High", 3,2,false,"","", 16⟩],3,24,[i64 0,i64 0,i64 0]⟩:=by kernel_rfl
theorem Ae7(F:Out):(B.env F).tab 135=some ⟨.struct #[⟨"Place", 3,0,false,"","", 0⟩,⟨"Low", 3,1,false,"","", 8⟩,⟨"High", 3,2,false,"","", 16⟩],3,24,[i64 0,i64 0,i64 0]⟩:=(Az Tryd.prog 135).trans AhW
theorem Ahr:Bl Tryd.prog 137=some ⟨.struct #[⟨"Place", 3,0,false,"","", 0⟩],1,8,[i64 0]⟩:=by kernel_rfl
theorem Ae2(F:Out):(B.env F).tab 137=some ⟨.struct #[⟨"Place", 3,0,false,"","", 0⟩],1,8,[i64 0]⟩:=(Az Tryd.prog 137).trans Ahr
theorem Aia:Bl Tryd.prog 160=some ⟨.slice 63,1,24,[.sl true (L (cSl cU8) ([]))]⟩:=by kernel_rfl
theorem Afj(F:Out):(B.env F).tab 160=some ⟨.slice 63,1,24,[.sl true (L (cSl cU8) ([]))]⟩:=(Az Tryd.prog 160).trans Aia
theorem AhJ:Bl Tryd.prog 161=some ⟨.int .u32,1,4,[u32 ((0:UInt32))]⟩:=by kernel_rfl
theorem Aan(F:Out):(B.env F).tab 161=some ⟨.int .u32,1,4,[u32 ((0:UInt32))]⟩:=(Az Tryd.prog 161).trans AhJ
theorem Ahp:Bl Tryd.prog 162=some ⟨.array 8 161,8,32,(C1 u32 ((Arr.rep 8 (0:UInt32))).l)⟩:=by kernel_rfl
theorem AgE(F:Out):(B.env F).tab 162=some ⟨.array 8 161,8,32,(C1 u32 ((Arr.rep 8 (0:UInt32))).l)⟩:=(Az Tryd.prog 162).trans Ahp
theorem Ai1:Bl Tryd.prog 167=some ⟨.struct #[⟨"Wanted", 3,0,false,"","", 0⟩,⟨"Given", 3,1,false,"","", 8⟩,⟨"Cost", 3,2,false,"","", 16⟩],3,24,[i64 0,i64 0,i64 0]⟩:=by kernel_rfl
theorem AeZ(F:Out):(B.env F).tab 167=some ⟨.struct #[⟨"Wanted", 3,0,false,"","", 0⟩,⟨"Given", 3,1,false,"","", 8⟩,⟨"Cost", 3,2,false,"","", 16⟩],3,24,[i64 0,i64 0,i64 0]⟩:=(Az Tryd.prog 167).trans Ai1
theorem Ajr:Bl Tryd.prog 168=some ⟨.array 64 4,64,64,(C1 AV.bool ((Arr.rep 64 false)).l)⟩:=Oe (by kernel_rfl) (by kernel_rfl)
theorem Adu(F:Out):(B.env F).tab 168=some ⟨.array 64 4,64,64,(C1 AV.bool ((Arr.rep 64 false)).l)⟩:=(Az Tryd.prog 168).trans Ajr
theorem Ajm:Bl Tryd.prog 169=some ⟨.array 64 168,4096,4096,(C1 AV.bool ((Arr.rep 4096 false)).l)⟩:=Oe (by kernel_rfl) (by kernel_rfl)
theorem Aes(F:Out):(B.env F).tab 169=some ⟨.array 64 168,4096,4096,(C1 AV.bool ((Arr.rep 4096 false)).l)⟩:=(Az Tryd.prog 169).trans Ajm
theorem Akm:Bl Tryd.prog 171=some ⟨.struct #[⟨"From", 3,0,false,"","", 0⟩,⟨"To", 3,1,false,"","", 8⟩,⟨"Minutes", 3,2,false,"","", 16⟩],3,24,[i64 0,i64 0,i64 0]⟩:=by kernel_rfl
theorem AfW(F:Out):(B.env F).tab 171=some ⟨.struct #[⟨"From", 3,0,false,"","", 0⟩,⟨"To", 3,1,false,"","", 8⟩,⟨"Minutes", 3,2,false,"","", 16⟩],3,24,[i64 0,i64 0,i64 0]⟩:=(Az Tryd.prog 171).trans Akm
theorem Ah7:Bl Tryd.prog 172=some ⟨.int .u64,1,8,[u64 ((0:UInt64))]⟩:=by kernel_rfl
theorem Ag6(F:Out):(B.env F).tab 172=some ⟨.int .u64,1,8,[u64 ((0:UInt64))]⟩:=(Az Tryd.prog 172).trans Ah7
theorem Aj8:Bl Tryd.prog 173=some ⟨.slice 41,1,24,[.sl true (L Pg ([]))]⟩:=by kernel_rfl
theorem AfU(F:Out):(B.env F).tab 173=some ⟨.slice 41,1,24,[.sl true (L Pg ([]))]⟩:=(Az Tryd.prog 173).trans Aj8
theorem AjE:Bl Tryd.prog 175=some ⟨.struct #[⟨"Kind", 3,0,false,"","", 0⟩,⟨"Serial", 3,1,false,"","", 8⟩,⟨"Fitted", 4,2,false,"","", 16⟩],3,24,[i64 0,i64 0,.bool false]⟩:=by kernel_rfl
theorem Abz(F:Out):(B.env F).tab 175=some ⟨.struct #[⟨"Kind", 3,0,false,"","", 0⟩,⟨"Serial", 3,1,false,"","", 8⟩,⟨"Fitted", 4,2,false,"","", 16⟩],3,24,[i64 0,i64 0,.bool false]⟩:=(Az Tryd.prog 175).trans AjE
theorem Ajo:Bl Tryd.prog 180=some ⟨.pointer 3,1,8,[.val (.pointer none)]⟩:=by kernel_rfl
theorem AeY(F:Out):(B.env F).tab 180=some ⟨.pointer 3,1,8,[.val (.pointer none)]⟩:=(Az Tryd.prog 180).trans Ajo
theorem AiN:Bl Tryd.prog 181=some ⟨.array 11 180,11,88,[.val (.pointer none),.val (.pointer none),.val (.pointer none),.val (.pointer none),.val (.pointer none),.val (.pointer none),.val (.pointer none),.val (.pointer none),.val (.pointer none),.val (.pointer none),.val (.pointer none)]⟩:=by kernel_rfl
theorem AfQ(F:Out):(B.env F).tab 181=some ⟨.array 11 180,11,88,[.val (.pointer none),.val (.pointer none),.val (.pointer none),.val (.pointer none),.val (.pointer none),.val (.pointer none),.val (.pointer none),.val (.pointer none),.val (.pointer none),.val (.pointer none),.val (.pointer none)]⟩:=(Az Tryd.prog 181).trans AiN
theorem Ahv:Bl Tryd.prog 188=some ⟨.array 64 161,64,256,(C1 u32 ((Arr.rep 64 (0:UInt32))).l)⟩:=by kernel_rfl
theorem Abw(F:Out):(B.env F).tab 188=some ⟨.array 64 161,64,256,(C1 u32 ((Arr.rep 64 (0:UInt32))).l)⟩:=(Az Tryd.prog 188).trans Ahv
theorem Ah0:Bl Tryd.prog 192=some ⟨.struct #[⟨"p", 36,0,false,"","wagonpool/edi", 0⟩,⟨"it", 46,9,false,"","wagonpool/edi", 216⟩,⟨"ok", 4,25,false,"","wagonpool/edi", 368⟩],26,376,[.sl true (L Ag ([])),.sl true (L Am ([])),.sl true (L Ab ([])),.sl true (L Ae ([])),.sl true (L Ai ([])),.sl true (L Ah ([])),.sl true (L Af ([])),.sl true (L Ad ([])),.sl true (L Ac ([])),i64 0,i64 0,i64 0,i64 0,i64 0,i64 0,i64 0,i64 0,i64 0,i64 0,i64 0,i64 0,i64 0,i64 0,.str (([]:List UInt8)),.sl true (L Aj ([])),.bool false]⟩:=by kernel_rfl
theorem AhS(F:Out):(B.env F).tab 192=some ⟨.struct #[⟨"p", 36,0,false,"","wagonpool/edi", 0⟩,⟨"it", 46,9,false,"","wagonpool/edi", 216⟩,⟨"ok", 4,25,false,"","wagonpool/edi", 368⟩],26,376,[.sl true (L Ag ([])),.sl true (L Am ([])),.sl true (L Ab ([])),.sl true (L Ae ([])),.sl true (L Ai ([])),.sl true (L Ah ([])),.sl true (L Af ([])),.sl true (L Ad ([])),.sl true (L Ac ([])),i64 0,i64 0,i64 0,i64 0,i64 0,i64 0,i64 0,i64 0,i64 0,i64 0,i64 0,i64 0,i64 0,i64 0,.str (([]:List UInt8)),.sl true (L Aj ([])),.bool false]⟩:=(Az Tryd.prog 192).trans Ah0
theorem AfO:AV.int .u32 0=u32 0:=rfl
theorem NC:AV.int .u32 528734635=u32 528734635:=rfl
theorem Mx:AV.int .u32 1013904242=u32 1013904242:=rfl
theorem Mz:AV.int .u32 1359893119=u32 1359893119:=rfl
theorem MF:AV.int .u32 1541459225=u32 1541459225:=rfl
theorem Ng:AV.int .u32 1779033703=u32 1779033703:=rfl
theorem Ns:AV.int .u32 2600822924=u32 2600822924:=rfl
theorem N4:AV.int .u32 2773480762=u32 2773480762:=rfl
theorem Mb:AV.int .u32 3144134277=u32 3144134277:=rfl
theorem AfT:AV.int .u64 0=u64 0:=rfl
theorem Agb:AV.int .u64 1=u64 1:=rfl
theorem AeW:AV.int .u64 2=u64 2:=rfl
theorem Af3:AV.int .u64 3=u64 3:=rfl
theorem AfD:AV.int .u64 4=u64 4:=rfl
theorem Agv:AV.int .u64 7=u64 7:=rfl
theorem Agt:AV.int .u64 8=u64 8:=rfl
theorem Ads:AV.int .u64 10=u64 10:=rfl
theorem AcA:AV.int .u64 16=u64 16:=rfl
theorem Ad4:AV.int .u64 24=u64 24:=rfl
theorem Ady:AV.int .u64 31=u64 31:=rfl
theorem Aci:AV.int .u64 32=u64 32:=rfl
theorem AbR:AV.int .u64 64=u64 64:=rfl
theorem ZS:AV.int .u64 256=u64 256:=rfl
theorem VN:AV.int .u64 65536=u64 65536:=rfl
theorem Nk:AV.int .u64 4294967295=u64 4294967295:=rfl
theorem MM:AV.int .u64 4294967296=u64 4294967296:=rfl
theorem GW:AV.int .u64 1152921504606845398=u64 1152921504606845398:=rfl
theorem GK:AV.int .u64 1152921504606845399=u64 1152921504606845399:=rfl
theorem GN:AV.int .u64 2305843009213690799=u64 2305843009213690799:=rfl
theorem AhZ:AV.int .u8 0=u8 0:=rfl
theorem Agp:AV.int .u8 48=u8 48:=rfl
theorem Aeo:AV.int .u8 64=u8 64:=rfl
theorem Agu:AV.int .u8 99=u8 99:=rfl
theorem Ac1:AV.int .u8 100=u8 100:=rfl
theorem Ac0:AV.int .u8 102=u8 102:=rfl
theorem Ab4:AV.int .u8 103=u8 103:=rfl
theorem AbV:AV.int .u8 107=u8 107:=rfl
theorem Ac2:AV.int .u8 110=u8 110:=rfl
theorem AcH:AV.int .u8 111=u8 111:=rfl
theorem Acn:AV.int .u8 112=u8 112:=rfl
theorem Adl:AV.int .u8 116=u8 116:=rfl
theorem AbY:AV.int .u8 119=u8 119:=rfl
theorem AcT:AV.int .u8 128=u8 128:=rfl
theorem Abq:AV.int .u8 255=u8 255:=rfl
theorem nb36{F}:((B.env F).bty=some 36)=False:=AlO (fun h:(none:Option TypeId)=some 36=>by cases h)
theorem AaV{F}{σ:Al}(s x:AV):AW (B.env F) σ .append [34,34] [s,x]=match FJ σ x with
      | some new=>if Gb x 16=true then none else if ∀cs∈new,cs.length=16 then(match s with
          | .sl full els=>
            if els=[]∧full=true then
              if Dj new.length 144 then some (.bs false σ.length new.length 0 new.length,σ++[.buf 16 new false])else none
            else if new=[]then some (.sl full els,σ)
            else if full=true∧(∀cs∈els,cs.length=16)∧Dj (els.length+new.length) 144
            then some (.bs false σ.length (els.length+new.length) 0 (els.length+new.length),σ++[.buf 16 (els++new) false])else none
          | .bs full id tot off len=>match σ[id]? with
            | some (.buf k els ro)=>
              if els.length=tot∧k=16∧Dj (len+new.length) 144 then
                if off=0∧len=tot then some (.bs false id (tot+new.length) 0 (tot+new.length),σ.set id (.buf k (els++new) ro))
                else if new=[]then some (.bs full id tot off len,σ)
                else if full then some (.bs false σ.length (len+new.length) 0 (len+new.length),σ++[.buf k ((els.drop off).take len++new) false])
                else none
              else none
            |some (.tb T l)=>NF σ id tot off len 144 16 74 T l new
            |_=>none
          |_=>none)
        else none
      |none=>none:=Gi (AgU F) (AiB F) (by decide) (AgU F) (.inl ⟨_,rfl⟩) s x []
theorem nb46{F}:((B.env F).bty=some 46)=False:=AlO (fun h:(none:Option TypeId)=some 46=>by cases h)
theorem Afa{F}{σ:Al}(f:Bool)(l:List Akp)(x:AV):Au (B.env F) σ 22 (.sl f (L Ag l)) x=match idx x l.length with
 |some i=>some (.rp (Ag (nth l i)))
 |none=>none:=EL Ag (tb22 F) (Afu F) (fun _=>rfl) f l x
theorem AjZ{F}:((B.env F).bty=some 127)=False:=AlO (fun h:(none:Option TypeId)=some 127=>by cases h)
theorem Afy{F}{σ:Al}(f:Bool)(l:List Akq)(x:AV):Au (B.env F) σ 23 (.sl f (L Am l)) x=match idx x l.length with
 |some i=>some (.rp (Am (nth l i)))
 |none=>none:=EL Am (tb23 F) (Ae1 F) (fun _=>rfl) f l x
theorem Ah3{F}:((B.env F).bty=some 129)=False:=AlO (fun h:(none:Option TypeId)=some 129=>by cases h)
theorem nb57{F}:((B.env F).bty=some 57)=False:=AlO (fun h:(none:Option TypeId)=some 57=>by cases h)
theorem Afe{F}{σ:Al}(f:Bool)(l:List Aks)(x:AV):Au (B.env F) σ 26 (.sl f (L Ab l)) x=match idx x l.length with
 |some i=>some (.rp (Ab (nth l i)))
 |none=>none:=EL Ab (tb26 F) (AeK F) (fun _=>rfl) f l x
theorem AhC{F}:((B.env F).bty=some 131)=False:=AlO (fun h:(none:Option TypeId)=some 131=>by cases h)
theorem AeF{F}{σ:Al}(f:Bool)(id tot off len:Nat)(x:AV):Au (B.env F) σ 70 (.bs f id tot off len) x=match σ[id]?,idx x len with
 |some (.buf k els _),some i=>if els.length=tot∧k=1 then some (.eref id tot (off+i) 0)else none
 |_,_=>none:=X2 (Ahy F) (tb3 F) (by decide) f id tot off len x
theorem Agk{F}{σ:Al}(f:Bool)(l:List Akt)(x:AV):Au (B.env F) σ 27 (.sl f (L Ae l)) x=match idx x l.length with
 |some i=>some (.rp (Ae (nth l i)))
 |none=>none:=EL Ae (tb27 F) (Afd F) (fun _=>rfl) f l x
theorem Ajk{F}:((B.env F).bty=some 133)=False:=AlO (fun h:(none:Option TypeId)=some 133=>by cases h)
theorem Afh{F}{σ:Al}(f:Bool)(l:List Aku)(x:AV):Au (B.env F) σ 28 (.sl f (L Ai l)) x=match idx x l.length with
 |some i=>some (.rp (Ai (nth l i)))
 |none=>none:=EL Ai (tb28 F) (AeZ F) (fun _=>rfl) f l x
theorem Aik{F}:((B.env F).bty=some 167)=False:=AlO (fun h:(none:Option TypeId)=some 167=>by cases h)
theorem AjA{F}:((B.env F).bty=some 169)=False:=AlO (fun h:(none:Option TypeId)=some 169=>by cases h)
theorem Agx{F}{σ:Al}(f:Bool)(l:List Akv)(x:AV):Au (B.env F) σ 29 (.sl f (L Ah l)) x=match idx x l.length with
 |some i=>some (.rp (Ah (nth l i)))
 |none=>none:=EL Ah (tb29 F) (AfW F) (fun _=>rfl) f l x
theorem Ai6{F}:((B.env F).bty=some 171)=False:=AlO (fun h:(none:Option TypeId)=some 171=>by cases h)
theorem AbG{F}(id off:Nat)(x:AV){σ:Al}:Au (B.env F) σ 169 (.ref id off) x=match idx x 64 with
 |some i=>some (.ref id (off+i*64))
 |none=>none:=MY (Aes F) (Adu F) id off x
theorem AbZ{F}(id off:Nat)(x:AV){σ:Al}:Au (B.env F) σ 168 (.ref id off) x=match idx x 64 with
 |some i=>some (.ref id (off+i*1))
 |none=>none:=MY (Adu F) (tb4 F) id off x
theorem AiP{F}(cs:List AV)(x:AV):Ib (B.env F) 69 (.agg cs) x=match idx x 7 with
 |some i=>partA (⟨.struct #[⟨"From", 3,0,false,"","", 0⟩,⟨"To", 3,1,false,"","", 8⟩],2,16,[i64 0,i64 0]⟩:TD) cs (i*2)
 |none=>none:=Oq (tb69 F) (tb68 F) cs x
theorem nb68{F}:((B.env F).bty=some 68)=False:=AlO (fun h:(none:Option TypeId)=some 68=>by cases h)
theorem AeR{F}{σ:Al}(f:Bool)(l:List Int)(x:AV):Au (B.env F) σ 70 (.sl f (L Iy l)) x=match idx x l.length with
 |some i=>some (.rp (Iy (nth l i)))
 |none=>none:=EL Iy (Ahy F) (tb3 F) (fun _=>rfl) f l x
theorem AgD{F}(l:List UInt8)(x:AV):Ib (B.env F) 9 (.str l) x=match idx x l.length with
 |some i=>some (u8 (nth l i))
 |none=>none:=VV (tb9 F) l x
theorem Aev{F}{σ:Al}(f:Bool)(l:List Akx)(x:AV):Au (B.env F) σ 32 (.sl f (L Af l)) x=match idx x l.length with
 |some i=>some (.rp (Af (nth l i)))
 |none=>none:=EL Af (tb32 F) (Ae7 F) (fun _=>rfl) f l x
theorem AhD{F}:((B.env F).bty=some 135)=False:=AlO (fun h:(none:Option TypeId)=some 135=>by cases h)
theorem AgK{F}{σ:Al}(f:Bool)(l:List Aky)(x:AV):Au (B.env F) σ 33 (.sl f (L Ad l)) x=match idx x l.length with
 |some i=>some (.rp (Ad (nth l i)))
 |none=>none:=EL Ad (tb33 F) (Ae2 F) (fun _=>rfl) f l x
theorem Ajw{F}:((B.env F).bty=some 137)=False:=AlO (fun h:(none:Option TypeId)=some 137=>by cases h)
theorem Agm{F}{σ:Al}(f:Bool)(l:List AkB)(x:AV):Au (B.env F) σ 34 (.sl f (L Ac l)) x=match idx x l.length with
 |some i=>some (.rp (Ac (nth l i)))
 |none=>none:=EL Ac (AgU F) (AiB F) (fun _=>rfl) f l x
theorem nb74{F}:((B.env F).bty=some 74)=False:=AlO (fun h:(none:Option TypeId)=some 74=>by cases h)
theorem AeV{F}{σ:Al}(f:Bool)(l:List (List AkH))(x:AV):Au (B.env F) σ 37 (.sl f (L (cSl Ak) l)) x=match idx x l.length with
 |some i=>some (.rp ((cSl Ak) (nth l i)))
 |none=>none:=EL (cSl Ak) (Aeh F) (Abk F) (fun _=>rfl) f l x
theorem AjO{F}:((B.env F).bty=some 112)=False:=AlO (fun h:(none:Option TypeId)=some 112=>by cases h)
theorem Agq{F}(cs:List AV)(x:AV):Ib (B.env F) 181 (.agg cs) x=match idx x 11 with
 |some i=>partA (⟨.pointer 3,1,8,[.val (.pointer none)]⟩:TD) cs (i*1)
 |none=>none:=Oq (AfQ F) (AeY F) cs x
theorem UW{F}{σ:Al}(s x:AV):AW (B.env F) σ .append [110,110] [s,x]=match FJ σ x with
      | some new=>if Gb x 4=true then none else if ∀cs∈new,cs.length=4 then(match s with
          | .sl full els=>
            if els=[]∧full=true then
              if Dj new.length 64 then some (.bs false σ.length new.length 0 new.length,σ++[.buf 4 new false])else none
            else if new=[]then some (.sl full els,σ)
            else if full=true∧(∀cs∈els,cs.length=4)∧Dj (els.length+new.length) 64
            then some (.bs false σ.length (els.length+new.length) 0 (els.length+new.length),σ++[.buf 4 (els++new) false])else none
          | .bs full id tot off len=>match σ[id]? with
            | some (.buf k els ro)=>
              if els.length=tot∧k=4∧Dj (len+new.length) 64 then
                if off=0∧len=tot then some (.bs false id (tot+new.length) 0 (tot+new.length),σ.set id (.buf k (els++new) ro))
                else if new=[]then some (.bs full id tot off len,σ)
                else if full then some (.bs false σ.length (len+new.length) 0 (len+new.length),σ++[.buf k ((els.drop off).take len++new) false])
                else none
              else none
            |some (.tb T l)=>NF σ id tot off len 64 4 112 T l new
            |_=>none
          |_=>none)
        else none
      |none=>none:=Gi (ZF F) (AcD F) (by decide) (ZF F) (.inl ⟨_,rfl⟩) s x []
theorem Aet{F}{σ:Al}(f:Bool)(l:List AkE)(x:AV):Au (B.env F) σ 44 (.sl f (L Aj l)) x=match idx x l.length with
 |some i=>some (.rp (Aj (nth l i)))
 |none=>none:=EL Aj (tb44 F) (Abz F) (fun _=>rfl) f l x
theorem Ah1{F}:((B.env F).bty=some 175)=False:=AlO (fun h:(none:Option TypeId)=some 175=>by cases h)
theorem Ahb{F}{σ:Al}(l c:Int):Es (B.env F) σ 63 (i64 l) (i64 c)=if Mk l c 1 then some (.bs (l==c) σ.length l.toNat 0 l.toNat,σ++[.buf 1 (List.replicate l.toNat [u8 ((0:UInt8))]) false])else none:=Xy (AcQ F) (tb5 F) (by decide) l c
theorem AgA{F}{σ:Al}(f:Bool)(id tot off len:Nat)(x:AV):Au (B.env F) σ 63 (.bs f id tot off len) x=match σ[id]?,idx x len with
 |some (.buf k els _),some i=>if els.length=tot∧k=1 then some (.eref id tot (off+i) 0)else none
 |_,_=>none:=X2 (AcQ F) (tb5 F) (by decide) f id tot off len x
theorem AdQ{F}{σ:Al}(f:Bool)(l:List AkK)(x:AV):Au (B.env F) σ 110 (.sl f (L cApi_Value l)) x=match idx x l.length with
 |some i=>some (.rp (cApi_Value (nth l i)))
 |none=>none:=EL cApi_Value (ZF F) (AcD F) (fun y=>by rw[Jc];rfl) f l x
theorem AaP{F}{σ:Al}(s x:AV):AW (B.env F) σ .append [63,63] [s,x]=match FJ σ x with
      | some new=>if Gb x 1=true then none else if ∀cs∈new,cs.length=1 then(match s with
          | .sl full els=>
            if els=[]∧full=true then
              if Dj new.length 1 then some (.bs false σ.length new.length 0 new.length,σ++[.buf 1 new false])else none
            else if new=[]then some (.sl full els,σ)
            else if full=true∧(∀cs∈els,cs.length=1)∧Dj (els.length+new.length) 1
            then some (.bs false σ.length (els.length+new.length) 0 (els.length+new.length),σ++[.buf 1 (els++new) false])else none
          | .bs full id tot off len=>match σ[id]? with
            | some (.buf k els ro)=>
              if els.length=tot∧k=1∧Dj (len+new.length) 1 then
                if off=0∧len=tot then some (.bs false id (tot+new.length) 0 (tot+new.length),σ.set id (.buf k (els++new) ro))
                else if new=[]then some (.bs full id tot off len,σ)
                else if full then some (.bs false σ.length (len+new.length) 0 (len+new.length),σ++[.buf k ((els.drop off).take len++new) false])
                else none
              else none
            |some (.tb T l)=>NF σ id tot off len 1 1 5 T l new
            |_=>none
          |_=>none)
        else none
      |none=>none:=Gi (AcQ F) (tb5 F) (by decide) (AcQ F) (.inl ⟨_,rfl⟩) s x []
theorem Agj{F}{σ:Al}(f:Bool)(l:List UInt8)(x:AV):Au (B.env F) σ 63 (.sl f (L cU8 l)) x=match idx x l.length with
 |some i=>some (.rp (cU8 (nth l i)))
 |none=>none:=EL cU8 (AcQ F) (tb5 F) (fun _=>rfl) f l x
theorem Aj5{F}:((B.env F).bty=some 162)=False:=AlO (fun h:(none:Option TypeId)=some 162=>by cases h)
theorem Ai2{F}:((B.env F).bty=some 188)=False:=AlO (fun h:(none:Option TypeId)=some 188=>by cases h)
theorem AbT{F}{σ:Al}(id off:Nat)(x:AV):Au (B.env F) σ 188 (.ref id off) x=match idx x 64 with
 |some i=>some (.ref id (off+i*1))
 |none=>none:=MY (Abw F) (Aan F) id off x
theorem AdP{F}{σ:Al}(id off:Nat)(x:AV):Au (B.env F) σ 162 (.ref id off) x=match idx x 8 with
 |some i=>some (.ref id (off+i*1))
 |none=>none:=MY (AgE F) (Aan F) id off x
theorem Ww{F}{σ:Al}(x:AV):Au (B.env F) σ 188 (.glob 2) x=match idx x 64 with
 |some i=>some (.rp ((C1 u32 glob2.l).drop i))
 |none=>none:=YR (Abw F) (Aan F) rfl x
theorem nb52{F}:((B.env F).bty=some 52)=False:=AlO (fun h:(none:Option TypeId)=some 52=>by cases h)
theorem Ac4{F}{σ:Al}(f:Bool)(l:List (List UInt8))(x:AV):Au (B.env F) σ 160 (.sl f (L (cSl cU8) l)) x=match idx x l.length with
 |some i=>some (.rp ((cSl cU8) (nth l i)))
 |none=>none:=EL (cSl cU8) (Afj F) (AcQ F) (fun _=>rfl) f l x
theorem Afl{F}{σ:Al}(id off:Nat)(x:AV):Au (B.env F) σ 52 (.ref id off) x=match idx x 32 with
 |some i=>some (.ref id (off+i*1))
 |none=>none:=MY (Ai0 F) (tb5 F) id off x
theorem Adp{F}{σ:Al}(f:Bool)(l:List UInt64)(x:AV):Au (B.env F) σ 173 (.sl f (L Pg l)) x=match idx x l.length with
 |some i=>some (.rp (Pg (nth l i)))
 |none=>none:=EL Pg (AfU F) (AgR F) (fun _=>rfl) f l x
theorem nb54{F}:((B.env F).bty=some 54)=False:=AlO (fun h:(none:Option TypeId)=some 54=>by cases h)
theorem AaI{F}(a0:Int)(a1:Int)(b0:Int)(b1:Int):AJ (B.env F) .eql 43 (.agg [i64 a0,i64 a1]) (.agg [i64 b0,i64 b1])=some (.bool (((a0==b0)&&(a1==b1)))) :=
 I0 (AjU F) (by kernel_rfl) (by kernel_rfl) (Ii (by decide) (tb3 F) rfl rfl (Ka a0 b0) (LK (by decide) (tb3 F) rfl rfl (Ka a1 b1)))
theorem Ag8{F}:((B.env F).bty=some 192)=False:=AlO (fun h:(none:Option TypeId)=some 192=>by cases h)
theorem AeI{F}{op:BinOp}(a b:Arr UInt8 32):AJ (B.env F) op 52 (.agg (C1 u8 a.l)) (.agg (C1 u8 b.l))=match op with
 |.eql=>some (.bool (a==b))
 |.neq=>some (.bool (!(a==b)))
 |_=>none:=Vs (Ai0 F) (tb5 F) a b
theorem AaU{F}(a0:UInt64)(a1:UInt64)(b0:UInt64)(b1:UInt64):AJ (B.env F) .eql 54 (.agg [u64 a0,u64 a1]) (.agg [u64 b0,u64 b1])=some (.bool (((a0==b0)&&(a1==b1)))) :=
 I0 (tb54 F) (by kernel_rfl) (by kernel_rfl) (Ii (by decide) (AgR F) rfl rfl (WV a0 b0) (LK (by decide) (AgR F) rfl rfl (WV a1 b1)))
theorem AfP{F}{σ:Al}(f:Bool)(l:List AkH)(x:AV):Au (B.env F) σ 75 (.sl f (L Ak l)) x=match idx x l.length with
 |some i=>some (.rp (Ak (nth l i)))
 |none=>none:=EL Ak (Abk F) (Ain F) (fun y=>by simp only[Ak,Alb,Ala,DJ,Aln]) f l x
theorem nb43{F}:((B.env F).bty=some 43)=False:=AlO (fun h:(none:Option TypeId)=some 43=>by cases h)
theorem AaM{F}(a0:Int)(a1:Int)(b0:Int)(b1:Int):AJ (B.env F) .neq 43 (.agg [i64 a0,i64 a1]) (.agg [i64 b0,i64 b1])=some (.bool (!((a0==b0)&&(a1==b1)))) :=
 I7 (AjU F) (by kernel_rfl) (by kernel_rfl) (Ii (by decide) (tb3 F) rfl rfl (Ka a0 b0) (LK (by decide) (tb3 F) rfl rfl (Ka a1 b1)))
theorem AaJ{F}{σ:Al}(s x:AV):AW (B.env F) σ .append [75,75] [s,x]=match FJ σ x with
      | some new=>if Gb x 53=true then none else if ∀cs∈new,cs.length=53 then(match s with
          | .sl full els=>
            if els=[]∧full=true then
              if Dj new.length 224 then some (.bs false σ.length new.length 0 new.length,σ++[.buf 53 new false])else none
            else if new=[]then some (.sl full els,σ)
            else if full=true∧(∀cs∈els,cs.length=53)∧Dj (els.length+new.length) 224
            then some (.bs false σ.length (els.length+new.length) 0 (els.length+new.length),σ++[.buf 53 (els++new) false])else none
          | .bs full id tot off len=>match σ[id]? with
            | some (.buf k els ro)=>
              if els.length=tot∧k=53∧Dj (len+new.length) 224 then
                if off=0∧len=tot then some (.bs false id (tot+new.length) 0 (tot+new.length),σ.set id (.buf k (els++new) ro))
                else if new=[]then some (.bs full id tot off len,σ)
                else if full then some (.bs false σ.length (len+new.length) 0 (len+new.length),σ++[.buf k ((els.drop off).take len++new) false])
                else none
              else none
            |some (.tb T l)=>NF σ id tot off len 224 53 56 T l new
            |_=>none
          |_=>none)
        else none
      |none=>none:=Gi (Abk F) (Ain F) (by decide) (Abk F) (.inl ⟨_,rfl⟩) s x []
theorem AeO{F}{σ:Al}(f:Bool)(l:List AkI)(x:AV):Au (B.env F) σ 38 (.sl f (L Aw l)) x=match idx x l.length with
 |some i=>some (.rp (Aw (nth l i)))
 |none=>none:=EL Aw (AgW F) (AjG F) (fun y=>by simp only[Aw,Alb,Ala,DJ,Aln]) f l x
theorem AaK{F}{σ:Al}(s x:AV):AW (B.env F) σ .append [38,38] [s,x]=match FJ σ x with
      | some new=>if Gb x 106=true then none else if ∀cs∈new,cs.length=106 then(match s with
          | .sl full els=>
            if els=[]∧full=true then
              if Dj new.length 448 then some (.bs false σ.length new.length 0 new.length,σ++[.buf 106 new false])else none
            else if new=[]then some (.sl full els,σ)
            else if full=true∧(∀cs∈els,cs.length=106)∧Dj (els.length+new.length) 448
            then some (.bs false σ.length (els.length+new.length) 0 (els.length+new.length),σ++[.buf 106 (els++new) false])else none
          | .bs full id tot off len=>match σ[id]? with
            | some (.buf k els ro)=>
              if els.length=tot∧k=106∧Dj (len+new.length) 448 then
                if off=0∧len=tot then some (.bs false id (tot+new.length) 0 (tot+new.length),σ.set id (.buf k (els++new) ro))
                else if new=[]then some (.bs full id tot off len,σ)
                else if full then some (.bs false σ.length (len+new.length) 0 (len+new.length),σ++[.buf k ((els.drop off).take len++new) false])
                else none
              else none
            |some (.tb T l)=>NF σ id tot off len 448 106 96 T l new
            |_=>none
          |_=>none)
        else none
      |none=>none:=Gi (AgW F) (AjG F) (by decide) (AgW F) (.inl ⟨_,rfl⟩) s x []
theorem nb40{F}:((B.env F).bty=some 40)=False:=AlO (fun h:(none:Option TypeId)=some 40=>by cases h)
theorem Ag0{F}{σ:Al}(l c:Int):Es (B.env F) σ 37 (i64 l) (i64 c)=if Mk l c 24 then some (.bs (l==c) σ.length l.toNat 0 l.toNat,σ++[.buf 1 (List.replicate l.toNat [.sl false (L Ak ([]))]) false])else none:=Xy (Aeh F) (Abk F) (by decide) l c
theorem Aey{F}{σ:Al}(f:Bool)(id tot off len:Nat)(x:AV):Au (B.env F) σ 37 (.bs f id tot off len) x=match σ[id]?,idx x len with
 |some (.buf k els _),some i=>if els.length=tot∧k=1 then some (.eref id tot (off+i) 0)else none
 |_,_=>none:=X2 (Aeh F) (Abk F) (by decide) f id tot off len x
theorem nb56{F}:((B.env F).bty=some 56)=False:=AlO (fun h:(none:Option TypeId)=some 56=>by cases h)
theorem XC{F}(a0:Int)(a1:Int)(a2:Bool)(b0:Int)(b1:Int)(b2:Bool):AJ (B.env F) .neq 175 (.agg [i64 a0,i64 a1,.bool a2]) (.agg [i64 b0,i64 b1,.bool b2])=some (.bool (!((a0==b0)&&((a1==b1)&&(a2==b2))))) :=
 I7 (Abz F) (by kernel_rfl) (by kernel_rfl) (Ii (by decide) (tb3 F) rfl rfl (Ka a0 b0) (Ii (by decide) (tb3 F) rfl rfl (Ka a1 b1) (LK (by decide) (tb4 F) rfl rfl (Y8 a2 b2))))
theorem nb96{F}:((B.env F).bty=some 96)=False:=AlO (fun h:(none:Option TypeId)=some 96=>by cases h)
theorem ZB{F}{σ:Al}(s x:AV):AW (B.env F) σ .append [37,37] [s,x]=match FJ σ x with
      | some new=>if Gb x 1=true then none else if ∀cs∈new,cs.length=1 then(match s with
          | .sl full els=>
            if els=[]∧full=true then
              if Dj new.length 24 then some (.bs false σ.length new.length 0 new.length,σ++[.buf 1 new false])else none
            else if new=[]then some (.sl full els,σ)
            else if full=true∧(∀cs∈els,cs.length=1)∧Dj (els.length+new.length) 24
            then some (.bs false σ.length (els.length+new.length) 0 (els.length+new.length),σ++[.buf 1 (els++new) false])else none
          | .bs full id tot off len=>match σ[id]? with
            | some (.buf k els ro)=>
              if els.length=tot∧k=1∧Dj (len+new.length) 24 then
                if off=0∧len=tot then some (.bs false id (tot+new.length) 0 (tot+new.length),σ.set id (.buf k (els++new) ro))
                else if new=[]then some (.bs full id tot off len,σ)
                else if full then some (.bs false σ.length (len+new.length) 0 (len+new.length),σ++[.buf k ((els.drop off).take len++new) false])
                else none
              else none
            |some (.tb T l)=>NF σ id tot off len 24 1 75 T l new
            |_=>none
          |_=>none)
        else none
      |none=>none:=Gi (Aeh F) (Abk F) (by decide) (Aeh F) (.inl ⟨_,rfl⟩) s x []
theorem nb85{F}:((B.env F).bty=some 85)=False:=AlO (fun h:(none:Option TypeId)=some 85=>by cases h)
theorem Ab6{F}:Abd (B.env F) 119=true:=rfl
def Ew(x:AkM):AV:=.agg (A1 x)
def CI:AkM:=({ Ref:=({ Zb:=0,No:=0 }:AkD),By:=({ Zb:=0,No:=0 }:AkD),Zw1:=0,Zx1:=({ Za:=0,Ref:=({ Zb:=0,No:=0 }:AkD),Zn1:=0,Zb1:=0,Zc:=0,Zo1:=0,Zw:=0,To:=0,Code:=0,Zp1:=0,Zq1:=0,Zr1:=0,Zs1:=0,Zt1:=([]:List UInt8),Zu1:=[] }:AkF) }:AkM)
theorem Ad5(a0:Int)(a1:Int)(a2:Int)(a3:Int)(a4:Int)(a5:Int)(a6:Int)(a7:Int)(a8:Int)(a9:Int)(a10:Int)(a11:Int)(a12:Int)(a13:Int)(a14:Int)(a15:Int)(a16:Int)(a17:Int)(a18:Int)(a19:List UInt8)(a20:List AkE){l:List ((Int×Int)×AkM)}{k:Int×Int}:Lb (M2 Ew l) k (.agg [i64 a0,i64 a1,i64 a2,i64 a3,i64 a4,i64 a5,i64 a6,i64 a7,i64 a8,i64 a9,i64 a10,i64 a11,i64 a12,i64 a13,i64 a14,i64 a15,i64 a16,i64 a17,i64 a18,.str a19,.sl false (L Aj a20)])=M2 Ew (AfK l k (({ Ref:=({ Zb:=a0,No:=a1 }:AkD),By:=({ Zb:=a2,No:=a3 }:AkD),Zw1:=a4,Zx1:=({ Za:=a5,Ref:=({ Zb:=a6,No:=a7 }:AkD),Zn1:=a8,Zb1:=a9,Zc:=a10,Zo1:=a11,Zw:=a12,To:=a13,Code:=a14,Zp1:=a15,Zq1:=a16,Zr1:=a17,Zs1:=a18,Zt1:=a19,Zu1:=a20 }:AkF) }:AkM))):=Aa4 (c:=Ew) (x:=({ Ref:=({ Zb:=a0,No:=a1 }:AkD),By:=({ Zb:=a2,No:=a3 }:AkD),Zw1:=a4,Zx1:=({ Za:=a5,Ref:=({ Zb:=a6,No:=a7 }:AkD),Zn1:=a8,Zb1:=a9,Zc:=a10,Zo1:=a11,Zw:=a12,To:=a13,Code:=a14,Zp1:=a15,Zq1:=a16,Zr1:=a17,Zs1:=a18,Zt1:=a19,Zu1:=a20 }:AkF) }:AkM))
theorem YQ{F}{l:List ((Int×Int)×AkM)}(a b:Int):Mu (B.env F) 119 (M2 Ew l) (.agg [i64 a,i64 b]) true=if Qe a b then some (.tup [.agg [i64 (((((F6 l (a,b)).getD CI)).Ref).Zb),i64 (((((F6 l (a,b)).getD CI)).Ref).No),i64 (((((F6 l (a,b)).getD CI)).By).Zb),i64 (((((F6 l (a,b)).getD CI)).By).No),i64 ((((F6 l (a,b)).getD CI)).Zw1),i64 (((((F6 l (a,b)).getD CI)).Zx1).Za),i64 ((((((F6 l (a,b)).getD CI)).Zx1).Ref).Zb),i64 ((((((F6 l (a,b)).getD CI)).Zx1).Ref).No),i64 (((((F6 l (a,b)).getD CI)).Zx1).Zn1),i64 (((((F6 l (a,b)).getD CI)).Zx1).Zb1),i64 (((((F6 l (a,b)).getD CI)).Zx1).Zc),i64 (((((F6 l (a,b)).getD CI)).Zx1).Zo1),i64 (((((F6 l (a,b)).getD CI)).Zx1).Zw),i64 (((((F6 l (a,b)).getD CI)).Zx1).To),i64 (((((F6 l (a,b)).getD CI)).Zx1).Code),i64 (((((F6 l (a,b)).getD CI)).Zx1).Zp1),i64 (((((F6 l (a,b)).getD CI)).Zx1).Zq1),i64 (((((F6 l (a,b)).getD CI)).Zx1).Zr1),i64 (((((F6 l (a,b)).getD CI)).Zx1).Zs1),.str (((((F6 l (a,b)).getD CI)).Zx1).Zt1),.sl false (L Aj (((((F6 l (a,b)).getD CI)).Zx1).Zu1))],.bool ((F6 l (a,b)).isSome)])else none:=WA (c:=Ew) (z:=CI) rfl (Ajt F) (by decide) rfl
theorem AiC{F}:((B.env F).bty=some 119)=False:=AlO (fun h:(none:Option TypeId)=some 119=>by cases h)
theorem nb89{F}:((B.env F).bty=some 89)=False:=AlO (fun h:(none:Option TypeId)=some 89=>by cases h)
theorem Aak{F}{σ:Al}(s x:AV):AW (B.env F) σ .append [85,85] [s,x]=match FJ σ x with
      | some new=>if Gb x 21=true then none else if ∀cs∈new,cs.length=21 then(match s with
          | .sl full els=>
            if els=[]∧full=true then
              if Dj new.length 192 then some (.bs false σ.length new.length 0 new.length,σ++[.buf 21 new false])else none
            else if new=[]then some (.sl full els,σ)
            else if full=true∧(∀cs∈els,cs.length=21)∧Dj (els.length+new.length) 192
            then some (.bs false σ.length (els.length+new.length) 0 (els.length+new.length),σ++[.buf 21 (els++new) false])else none
          | .bs full id tot off len=>match σ[id]? with
            | some (.buf k els ro)=>
              if els.length=tot∧k=21∧Dj (len+new.length) 192 then
                if off=0∧len=tot then some (.bs false id (tot+new.length) 0 (tot+new.length),σ.set id (.buf k (els++new) ro))
                else if new=[]then some (.bs full id tot off len,σ)
                else if full then some (.bs false σ.length (len+new.length) 0 (len+new.length),σ++[.buf k ((els.drop off).take len++new) false])
                else none
              else none
            |some (.tb T l)=>NF σ id tot off len 192 21 89 T l new
            |_=>none
          |_=>none)
        else none
      |none=>none:=Gi (AiD F) (Ajt F) (by decide) (AiD F) (.inl ⟨_,rfl⟩) s x []
theorem YD{F}{op:BinOp}(a:Arr UInt8 32):AJ (B.env F) op 52 (.agg (C1 u8 a.l)) (.agg [u8 (0:UInt8),u8 (0:UInt8),u8 (0:UInt8),u8 (0:UInt8),u8 (0:UInt8),u8 (0:UInt8),u8 (0:UInt8),u8 (0:UInt8),u8 (0:UInt8),u8 (0:UInt8),u8 (0:UInt8),u8 (0:UInt8),u8 (0:UInt8),u8 (0:UInt8),u8 (0:UInt8),u8 (0:UInt8),u8 (0:UInt8),u8 (0:UInt8),u8 (0:UInt8),u8 (0:UInt8),u8 (0:UInt8),u8 (0:UInt8),u8 (0:UInt8),u8 (0:UInt8),u8 (0:UInt8),u8 (0:UInt8),u8 (0:UInt8),u8 (0:UInt8),u8 (0:UInt8),u8 (0:UInt8),u8 (0:UInt8),u8 (0:UInt8)])=match op with
 |.eql=>some (.bool (a==(⟨[(0:UInt8),0,0,0,0,0,0,0,0,0,0,0,0,0,0,0,0,0,0,0,0,0,0,0,0,0,0,0,0,0,0,0],rfl⟩:Arr UInt8 32)))
 |.neq=>some (.bool (!(a==(⟨[(0:UInt8),0,0,0,0,0,0,0,0,0,0,0,0,0,0,0,0,0,0,0,0,0,0,0,0,0,0,0,0,0,0,0],rfl⟩:Arr UInt8 32))))
 |_=>none:=AeI a (⟨[(0:UInt8),0,0,0,0,0,0,0,0,0,0,0,0,0,0,0,0,0,0,0,0,0,0,0,0,0,0,0,0,0,0,0],rfl⟩:Arr UInt8 32)
attribute [go_sem] lm0 own3 own4 own5 own6 own7 own8 own9 Aip AhA Aha Aj3 AiQ Ah2 Ag1 Ait Ajq Akf AiX Ah5 AhP AiR Ag7 Air AiT Ajz Aic AhM AiA Aij AhV Ajl Aj0 AjQ AjY Aho AhE AiZ Ag2 AiK AhG AjW Aje Aja AjV Ahx Ahz Ai7 Aj1 Ajf AjK Aiz Ajg Ahw AjC AjS AhH AhX AhR Ai9 Aiy Akl Ag9 Akh Ajp AiM Ahj Akb AhT AiI Ahl AjP AiS AiE Ajj AjJ AjH Ahm Aib Ail Aih AjF Aj9 Aka Aj7 AhF Akc AiL Ag3 AjT Ahi Akd AhN AjM Ahu Aim AhO Age Aej AeE AeA Agg Ag Am KW Ab Ae Ai Ah O3 Af Ad JN Jq Ac Av TS Aj A3 Pq Ak Aw An NS Rf SY Sn Jc Qs A1 tb3 tb4 tb5 tb9 tb22 tb23 tb25 tb26 tb27 tb28 tb29 tb31 tb32 tb33 AgU tb36 Aeh AgW tb40 AgR AjU tb44 tb46 Ai0 tb54 Ain tb57 AcQ tb68 tb69 Ahy tb72 AiB Abk AiD Ajt AjG ZF AcD AhI Afu Ae1 AeK Afd Ae7 Ae2 Afj Aan AgE AeZ Adu Aes AfW Ag6 AfU Abz AeY AfQ Abw AhS AfO NC Mx Mz MF Ng Ns N4 Mb AfT Agb AeW Af3 AfD Agv Agt Ads AcA Ad4 Ady Aci AbR ZS VN Nk MM GW GK GN AhZ Agp Aeo Agu Ac1 Ac0 Ab4 AbV Ac2 AcH Acn Adl AbY AcT Abq nb36 AaV nb46 Afa AjZ Afy Ah3 nb57 Afe AhC AeF Agk Ajk Afh Aik AjA Agx Ai6 AbG AbZ AiP nb68 AeR AgD Aev AhD AgK Ajw Agm nb74 AeV AjO Agq UW Aet Ah1 Ahb AgA AdQ AaP Agj Aj5 Ai2 AbT AdP Ww nb52 Ac4 Afl Adp nb54 AaI Ag8 AeI AaU AfP nb43 AaM AaJ AeO AaK nb40 Ag0 Aey nb56 XC nb96 ZB nb85 Ab6 Ew Ad5 YQ AiC nb89 Aak YD
section
variable {V:Type}
def Ah9(step:V→AkD→AkH→Option V)(row:List AkH)(i:Int)(kv:Int×V):Option ((Int×V)⊕V) :=
 if(decide (kv.1<(row.length:Int)))then
  if InR kv.1 row.length then(step kv.2 { Zb:=i,No:=w64 (kv.1+1) } (nth row kv.1.toNat)).bind fun v'=>some (.inl (w64 (kv.1+1),v'))else none
 else some (.inr kv.2)
def Aju(step:V→AkD→AkH→Option V)(logs:List (List AkH))(iv:Int×V):Option ((Int×V)⊕V) :=
 if(decide (iv.1<(logs.length:Int)))then
  if InR iv.1 logs.length then(A2 (Ah9 step (nth logs iv.1.toNat) iv.1) (0,iv.2)).bind fun v'=>some (.inl (w64 (iv.1+1),v'))else none
 else some (.inr iv.2)
def Agd(step:V→AkD→AkH→Option V)(logs:List (List AkH))(v:V):Option V:=(A2 (Aju step logs) (0,v)).bind some
end
theorem YE(N:Nat)(ts:List Nat)(l:Fr):leL (Aq N l) (Aq N (keep ts l)):=by
  have key:∀(ns:List Nat),leL (ns.map (Rv.look l)) (ns.map (Rv.look (keep ts l))):=by
    intro ns
    induction ns with
    |nil=>exact trivial
    | cons t ns ih=>
      refine⟨?_,ih⟩;rcases Qi ts l t with h|h
      · exact .inl h
      · rw[h];exact .inr (AV.wk_refl _)
  exact key _
theorem Y4(n N:Nat):∀(l:Fr),(∀p∈l,p.2.under n=true)→Pa n (Aq N l):=by
  intro l h x hx;obtain⟨t,_,rfl⟩:=AlW.1 hx
  induction l with
  |nil=>show(AV.junk).under n=true;simp[AV.under]
  | cons p l ih=>
    show(if t=p.1 then p.2 else Rv.look l t).under n=true;by_cases e:t=p.1
    · rw[AkS e];exact h p Ak7
    · rw[AkT e];exact ih (fun q hq=>h q (Alx _ hq)) (by simp only[Aq,AlW,AlF];exact⟨t,by simpa using ‹t∈List.range N›,rfl⟩)
set_option maxHeartbeats 2000000 in
theorem Yo{V:Type}{o:Out}{n:Nat}{gop:Operand}{assign body:Code}{N:Nat}{fr l:Fr}{K:CW}{S:V→Al}{step:V→AkD→AkH→Option V}{logs:List (List AkH)}{forks:List AkI}{f1 f2 ro:Bool}{v0 x:V}{p1 p2 idb:Nat}(M:Nat) (hx:Agd step logs v0=some x) (hmk:o.mks=true) (hg:ev (Aq N fr) gop=.fn 74 [.ref idb 0]) (hS:∀v,(S v).length=M) (hb:(S v0)[idb]?=some (.box [.sl f1 (L (cSl Ak) logs),.sl f2 (L Aw forks)] ro)) (hl:∀p∈l,p.1<N∧Rv.look fr p.1=p.2) (hp1:p1<N) (hp2:p2<N) (hpn:p1≠p2) (hpl:∀p∈l,p.1≠p1∧p.1≠p2) (hca:IV assign=true) (hcb:IV body=true) (hround:∀(lp:Nat) (ac bd:Code) (v:V) (i k:Int) (r:AkH) (v':V),step v ⟨i,k⟩ r=some v' →Run (B.env { F:=o.F,rd:=some lp }) (M+1) assign ⟨Aq N ((p2,.agg (Ak r))::(p1,.agg [i64 i,i64 k])::l),S v++[.lp false N l #[p1,p2] ac bd,.box (Ak r) false]⟩ (wkP (B.env { F:=o.F,rd:=some lp }) (M+1) (AhY (B.env { F:=o.F,rd:=some lp }) M N l #[p1,p2] ac bd body (wkP (B.env { F:=o.F,rd:=some lp }) (M+1) (Ah8 M (S v'++[.lp true N l #[p1,p2] ac bd])))))) (hk:K .normal ⟨Aq N fr,S x++[.gone]⟩):Run (B.env o) n (.rangeFunc gop #[p1,p2] assign body) ⟨Aq N fr,S v0⟩ K:=by
 refine XE ok hmk hg (by intro ys h;cases h) Tryd.func74 rfl (by decide +kernel) rfl l hl ?_;rw[hS v0];have hE:=ok.env { F:=o.F };refine G8 ?_;have hidb:idb<(S v0).length:=(AkN.1 hb).1
 have hb0:(S v0++[ABlk.lp false N l #[p1,p2] assign body])[idb]?=some (.box [.sl f1 (L (cSl Ak) logs),.sl f2 (L Aw forks)] ro):=by
  rw[AkW hidb];exact hb
 show Run (B.env { F:=o.F }) (M+1) _ ⟨JV 32 [.yld M,.ref idb 0],_⟩ _;rw[GR 32 [.yld M,.ref idb 0] (AlD rfl) (N9 0 _) (fun t _=>GM _ 0 t (Ali _))];show Run (B.env { F:=o.F }) (M+1) _ ⟨Aq 32 [(0,.yld M),(1,.ref idb 0)],_⟩ _;revert hx;unfold Agd;refine T0 [0,8,9,10] ?_ (by simp only[go_sem,hb0];exact AZ);refine Sb ?_;refine Lo (fun iv=>⟨Aq 32 [(0,.yld M),(8,.sl f1 (L (cSl Ak) logs)),(9,i64 ((logs.length:Int))),(10,i64 iv.1)],S iv.2++[.lp false N l #[p1,p2] assign body]⟩) (Weak.refl _ _) ?_;rintro⟨i,v⟩ x1 o1 hj1 hx1;show Aju step logs (i,v)=some o1→_;unfold Aju;dsimp only;refine T0 [0,8,9,10,11] ?_;refine Sq ?_;refine Cd ?_ ?_
 ·refine Sk ?_;refine Tn ?_;refine Sq ?_;refine Sb ?_;refine Ck fun hc1=>?_
  refine Te [0,3,4,8,9,10] Aa (Ev (by simp only[go_sem,qR hc1];exact AZ)) ?_;refine T0 [0,3,8,9,10,15,16,17] ?_;refine Sb ?_;refine Lo (fun kv=>⟨Aq 32 [(0,.yld M),(3,i64 i),(8,.sl f1 (L (cSl Ak) logs)),(9,i64 ((logs.length:Int))),(10,i64 i),(15,.sl false (L Ak (nth logs i.toNat))),(16,i64 (((nth logs i.toNat).length:Int))),(17,i64 kv.1)],S kv.2++[.lp false N l #[p1,p2] assign body]⟩) (Weak.refl _ _) ?_;rintro⟨k,v⟩ x2 o2 hj2 hx2;show Ah9 step (nth logs i.toNat) i (k,v)=some o2→_;unfold Ah9;dsimp only;refine T0 [0,3,8,9,10,15,16,17,18] ?_;refine Sq ?_;refine Cd ?_ ?_
  ·refine Sk ?_;refine Tn ?_;refine Sq ?_;refine Sb ?_;refine Ck fun hc2=>?_
   obtain⟨r,hr⟩:∃r,nth (nth logs i.toNat) k.toNat=r:=⟨_,rfl⟩;have hlen:(S v++[ABlk.lp false N l #[p1,p2] assign body]).length=M+1:=by simp[hS v]
   rw[hr];generalize hσ0:S v++[ABlk.lp false N l #[p1,p2] assign body]=σ0 at hlen;have hlast:∀b:ABlk,(σ0++[b])[M+1]?=some b:=fun b=>by rw[AkU (by omega),hlen];simp
   have hset:∀b c:ABlk,(σ0++[b]).set (M+1) c=σ0++[c]:=fun b c=>by rw[Al1 _ _ (by omega),hlen];simp
   refine Te [0,3,5,6,8,9,10,15,16,17] Aa (Ev (by simp only[go_sem,qR hc2,hr,hlen,hlast,hset];exact AZ)) ?_;refine Bd fun v' hv=>?_
   refine Sq ?_;intro hP
   refine Z0 6 (idl:=M) (σ1:=σ0++[.box (Ak r) false]) (fr1:=(27,.agg (Ak r))::(26,.agg [i64 i,i64 (w64 (k+1))])::(25,i64 (w64 (k+1)))::(24,i64 k)::(23,i64 i)::(22,.yld M)::[(0,.yld M),(3,i64 i),(5,i64 k),(6,.ref (M+1) 0),(8,.sl f1 (L (cSl Ak) logs)),(9,i64 ((logs.length:Int))),(10,i64 i),(15,.sl false (L Ak (nth logs i.toNat))),(16,i64 (((nth logs i.toNat).length:Int))),(17,i64 k)]) (fr3:=(29,.bool (!true))::(28,.bool true)::[(0,.yld M),(3,i64 i),(8,.sl f1 (L (cSl Ak) logs)),(9,i64 ((logs.length:Int))),(10,i64 i),(15,.sl false (L Ak (nth logs i.toNat))),(16,i64 (((nth logs i.toNat).length:Int))),(17,i64 k)]) (M:=N) (l:=l) (ps:=#[p1,p2]) (assign:=assign) (body:=body) (fr2:=[(0,.yld M),(3,i64 i),(8,.sl f1 (L (cSl Ak) logs)),(9,i64 ((logs.length:Int))),(10,i64 i),(15,.sl false (L Ak (nth logs i.toNat))),(16,i64 (((nth logs i.toNat).length:Int))),(17,i64 k)])
    (args:=[.agg [i64 i,i64 (w64 (k+1))],.agg (Ak r)]) hE rfl ?h1 rfl rfl rfl rfl ?hf ?hσ rfl (Nat.lt_succ_self M) hca hcb ?hle ?hun ?hp1 ?hp2 ?hp3 ?hargs (fun σ3=>?h3) (fun lp=>?h)
   case h1=>
    refine(EH _ _).symm.trans ?_;simp only[go_sem,hlast,hlen]
   case hf=>rfl
   case hσ=>
    rw[←hσ0,AlT,AkU (by rw[hS v];exact Ak2 _),hS v,AmN];rfl
   case hle=>exact YE 32 [0,3,8,9,10,15,16,17] _
   case hun=>
    refine Y4 _ _ _ (fun p hp=>?_);simp only[Alk,List.not_mem_nil,or_false]at hp;rcases hp with rfl|rfl|rfl|rfl|rfl|rfl|rfl|rfl<;>simp[AV.under,i64]
   case hp1=>intro p hp;simp at hp;rcases hp with rfl|rfl<;>assumption
   case hp2=>intro p hp hh;simp at hh;rcases hh with hh|hh;exact(hpl p hp).1 hh;exact(hpl p hp).2 hh
   case hp3=>simpa using hpn
   case hargs=>rfl
   case h3=>
    refine(EH _ _).symm.trans ?_;simp only[go_sem]
   case h=>
    have h2:=G8 (hround lp assign body v i (w64 (k+1)) r v' hv);have hst:σ0++[ABlk.box (Ak r) false]=S v++[.lp false N l #[p1,p2] assign body,.box (Ak r) false]:=by rw[←hσ0,AlT];rfl
    rw[hst];refine Ee h2 ?_;rintro ex st1 ⟨rfl,q1,q2⟩;refine⟨rfl,q1,Ee (G8 q2) ?_⟩;rintro ex st2 ⟨rfl,q3⟩;rw[q3];refine⟨rfl,by rw[AkU (by rw[hS v'];exact Ak2 _),hS v',AmN];rfl,?_⟩;rw[Al1 _ _ (by rw[hS v'];exact Ak2 _),hS v',AmN,Am3];revert hP;refine Tn ?_;refine Cf ?_;refine Sk ?_;refine Bn ?_;refine Tn ?_;refine F0 [0,3,8,9,10,15,16,17] ?_;exact Ln (Weak.refl _ _)
  ·refine Sx ?_;refine Tx ?_;refine Ly hx2 hj2 ?_;refine Bx ?_;refine Bn ?_;refine Tn ?_;refine F0 [0,8,9,10] ?_;exact Ln (Weak.refl _ _)
 ·refine Sx ?_;refine Tx ?_;refine Ly hx1 hj1 ?_;refine Bx ?_;refine Wp (Weak.refl _ _) ?_;intro h;obtain rfl:=Alm h;refine⟨.inl rfl,by rw[AkU (by rw[hS];exact Ak2 _),hS,AmN];rfl,?_⟩;rw[Al1 _ _ (by rw[hS];exact Ak2 _),hS,AmN,Am3];exact hk
theorem Ra{V:Type}{F:Addr→Prop}{base:Nat}{n:Nat}{gop:Operand}{assign body:Code}{N:Nat}{fr:Fr}{K:CW}(S:V→Al)(l:Fr){step:V→AkD→AkH→Option V}{logs:List (List AkH)}{forks:List AkI}{f1 f2 ro:Bool}{v0 x:V}{p1 p2 idb:Nat}(M:Nat)(σ0 σx:Al) (hround:∀(lp:Nat) (ac bd:Code) (v:V) (i k:Int) (r:AkH) (v':V),step v ⟨i,k⟩ r=some v' →Run (B.env { F:=F,rd:=some lp }) (M+1) assign ⟨Aq N ((p2,.agg (Ak r))::(p1,.agg [i64 i,i64 k])::l),S v++[.lp false N l #[p1,p2] ac bd,.box (Ak r) false]⟩ (wkP (B.env { F:=F,rd:=some lp }) (M+1) (AhY (B.env { F:=F,rd:=some lp }) M N l #[p1,p2] ac bd body (wkP (B.env { F:=F,rd:=some lp }) (M+1) (Ah8 M (S v'++[.lp true N l #[p1,p2] ac bd])))))) (hk:K .normal ⟨Aq N fr,σx⟩) (hx:Agd step logs v0=some x) (hl:Ais N fr l) (h0:S v0=σ0:=by rfl) (hσx:S x++[.gone]=σx:=by rfl) (hg:ev (Aq N fr) gop=.fn 74 [.ref idb 0]:=by rfl) (hS:∀v,(S v).length=M:=by exact fun _=>rfl) (hb:(S v0)[idb]?=some (.box [.sl f1 (L (cSl Ak) logs),.sl f2 (L Aw forks)] ro):=by rfl) (hp:(decide (p1<N)&&decide (p2<N)&&p1 != p2&&(l.map (·.1)).all (fun t=>t != p1&&t != p2))=true:=by rfl) (hca:IV assign=true:=by rfl) (hcb:IV body=true:=by rfl) :Run (B.env { F:=F,mks:=true,base:=base }) n (.rangeFunc gop #[p1,p2] assign body) ⟨Aq N fr,σ0⟩ K:=by
 subst h0 hσx;simp only[Ak6,Ald,AnB,ne_eq,Ak4,AlW]at hp;obtain⟨⟨⟨h1,h2⟩,h3⟩,h4⟩:=hp;exact Yo (o:={ F:=F,mks:=true,base:=base }) M hx rfl hg hS hb (UE hl) h1 h2 h3 (fun p hp=>h4 _ ⟨p,hp,rfl⟩) hca hcb hround hk
def Ic(a:UInt64)(b:UInt64)(c:UInt64)(d:UInt64):Option ((UInt64×UInt64×UInt64)⊕(UInt64)) :=if (decide (c>(0:UInt64)))then (if((c%(2:UInt64))==(1:UInt64))then if ¬a=0 then some ((d+b)%a) else none else some d:Option (UInt64)).bind fun e=>if ¬a=0 then some (.inl (((b+b)%a),(c/(2:UInt64)),e)) else none else some (.inr d)
def Jd(a:UInt64)(b:UInt64)(c:UInt64):Option (UInt64) :=((A2 (fun(v:UInt64×UInt64×UInt64)=>Ic c v.1 v.2.1 v.2.2) (a,b,(0:UInt64))).bind fun d=>some d:Option (UInt64)).bind fun e=>some e
def KB(a:UInt64)(b:UInt64)(c:UInt64):Option ((UInt64×UInt64×UInt64)⊕(UInt64)) :=if(decide (b>(0:UInt64)))then (if((b%(2:UInt64))==(1:UInt64))then (Jd c a (2305843009213690799:UInt64)).bind fun d=>some d else some c:Option (UInt64)).bind fun e=>(Jd a a (2305843009213690799:UInt64)).bind fun f=>some (.inl (f,(b/(2:UInt64)),e)) else some (.inr c)
def R5(a:UInt64)(b:UInt64):Option (UInt64) :=(lt1 (a%(2305843009213690799:UInt64)) fun(c:UInt64)=>(A2 (fun(v:UInt64×UInt64×UInt64)=>KB v.1 v.2.1 v.2.2) (c,b,(1:UInt64))).bind fun d=>some d:Option (UInt64)).bind fun e=>some e
def JQ(a:UInt64):Option (UInt64×Int) :=(if(decide (a<(1:UInt64)))then some true else some (decide (a≥(1152921504606845399:UInt64))):Option (Bool)).bind fun b=>if b then some ((0:UInt64),30) else (R5 (4:UInt64) a).bind fun c=>some (c,0)
def G3(a:Int)(b:List AkB):Option ((Int×List AkB)⊕(List AkB)) :=if(decide (a<2))then (JQ (UInt64.ofInt (w64 (7+a)))).bind fun c=>if Dj (b.length+1) 144 then lt1 (b++([({ Key:=c.1,Zf1:=({ Zd1:=(({ Zw:=0,To:=0 }:Akz),({ Zw:=0,To:=0 }:Akz),({ Zw:=0,To:=0 }:Akz),({ Zw:=0,To:=0 }:Akz),({ Zw:=0,To:=0 }:Akz),({ Zw:=0,To:=0 }:Akz),({ Zw:=0,To:=0 }:Akz)),Ze1:=[] }:AkA) }:AkB)]:List AkB)) fun(d:List AkB)=>some (.inl ((w64 (a+1)),d)) else none else some (.inr b)
def r14_Example  : Option (AkC) :=lt1 ([({ Za:=1,Zb:=0,Zc:=(-1) }:Akp),({ Za:=3,Zb:=0,Zc:=1 }:Akp),({ Za:=4,Zb:=1,Zc:=(-1) }:Akp)]:List Akp) fun(a:List Akp)=>lt1 ([({ A:=0,B:=1,Zb:=0,Zd:=10,Km:=5 }:Akq),({ A:=1,B:=2,Zb:=1,Zd:=20,Km:=9 }:Akq)]:List Akq) fun(b:List Akq)=>lt1 ([({ Zg:=1000,Zh:=0,Zi:=0,Zj:=0,Zk:=0,Zl:=(7:UInt64),Zm:=1000,Zn:=0 }:Aks)]:List Aks) fun(c:List Aks)=>lt1 ([({ Zo:=0,Zp:=0,Zq:=0,Zr:=0,Zs:=5000 }:Akt)]:List Akt) fun(d:List Akt)=>lt1 ([({ Zb1:=0,Low:=(-3),Zc1:=3 }:Akx)]:List Akx) fun(e:List Akx)=>lt1 ([({ Zb1:=2 }:Aky)]:List Aky) fun(f:List Aky)=>((A2 (fun(v:Int×List AkB)=>G3 v.1 v.2) (0,[])).bind fun g=>some g:Option (List AkB)).bind fun i=>some ({ Zg1:=({ Ze:=a,Zf:=b }:Akr),Zh1:=({ Zx:=c,Zy:=d,Zz:=[],Za1:=[] }:Akw),Zi1:=e,Zj1:=f,Zk1:=i }:AkC)
def Cu(a:Int):Option (AkF) :=some ({ Za:=8,Ref:=({ Zb:=0,No:=0 }:AkD),Zn1:=0,Zb1:=0,Zc:=0,Zo1:=0,Zw:=3,To:=0,Code:=a,Zp1:=0,Zq1:=0,Zr1:=0,Zs1:=0,Zt1:=([]:List UInt8),Zu1:=[] }:AkF)
def Ey(a:Akp):Option (Bool) :=(if(decide (a.Za<1))then some true else if(decide (a.Za>5))then some true else if(decide (a.Zb<0))then some true else some (decide (a.Zb≥16)):Option (Bool)).bind fun b=>if b then some false else if(a.Za != 3)then some (a.Zc==(-1)) else (if(decide (a.Zc≥0))then if(decide (a.Zc<16))then some (a.Zc != a.Zb) else some false else some false:Option (Bool)).bind fun c=>some c
def C9(b:Akr)(a:Int):Option ((Int)⊕((Unit)⊕((Unit)⊕(Int)))) :=if (decide (a<(b.Ze.length:Int)))then if InR a b.Ze.length then lt1 ((nth b.Ze a.toNat).Za) fun(c:Int)=>lt1 ((nth b.Ze a.toNat).Zb) fun(d:Int)=>lt1 ((nth b.Ze a.toNat).Zc) fun(e:Int)=>(Ey ({ Za:=c,Zb:=d,Zc:=e }:Akp)).bind fun f=>if(!f)then ((some 1).bind fun g=>some (.inr g)).bind fun i=>some (.inr (.inr i)) else some (.inl (w64 (a+1))) else none else some (.inr (.inl ()))
def CD(b:Akr)(i:Int)(a:Int):Option ((Int)⊕((Unit)⊕((Unit)⊕(Int)))) :=if (decide (a<(b.Zf.length:Int)))then if InR a b.Zf.length then lt1 ((nth b.Zf a.toNat).A) fun(c:Int)=>lt1 ((nth b.Zf a.toNat).B) fun(d:Int)=>lt1 ((nth b.Zf a.toNat).Zb) fun(e:Int)=>lt1 ((nth b.Zf a.toNat).Zd) fun(f:Int)=>lt1 ((nth b.Zf a.toNat).Km) fun(g:Int)=>(if(decide ((NM (NM (NM c d) e) g)<0))then some true else if(decide ((Lv c d)≥i))then some true else if(c==d)then some true else if(decide (e≥16))then some true else if(decide (f<1))then some true else if(decide (f>100000))then some true else some (decide (g>10000)):Option (Bool)).bind fun j=>if j then ((some 1).bind fun k=>some (.inr k)).bind fun l=>some (.inr (.inr l)) else some (.inl (w64 (a+1))) else none else some (.inr (.inl ()))
def E4(a:Akr):Option (Int) :=lt1 (a.Ze.length:Int) fun(b:Int)=>(if(decide (b>512))then some true else some (decide ((a.Zf.length:Int)>2048)):Option (Bool)).bind fun c=>if c then some 2 else ((A2 (fun(v:Int)=>C9 a v) 0).bind fun x=>match x with
  |.inl ()=>some (.inl ())
  |.inr z=>some z:Option ((Unit)⊕(Int))).bind fun x=>match x with
  | .inl ()=>((A2 (fun(v:Int)=>CD a b v) 0).bind fun x=>match x with
   |.inl ()=>some (.inl ())
   |.inr z=>some z:Option ((Unit)⊕(Int))).bind fun x=>match x with
   |.inl ()=>some 0
   |.inr z=>some z
  |.inr z=>some z
def AB(a:Bool)(b:Int):Option (Int) :=if(!a)then some 1 else some b
def Ay(a:Int)(b:Int)(c:Int):Option (Bool) :=(if(decide (a≥b))then some (decide (a≤c)) else some false:Option (Bool)).bind fun d=>some d
def Ds(d:Int)(b:List Int)(a:Int)(c:Int):Option ((Int×Int)⊕(Int)) :=if(decide (a<d))then if InR a b.length then (Ay (nth b a.toNat) 0 1000000).bind fun e=>(AB e c).bind fun f=>some (.inl ((w64 (a+1)),f)) else none else some (.inr c)
def Di(b:Akw)(a:Int)(d:Int):Option ((Int×Int)⊕(Int)) :=if (decide (a<(b.Zx.length:Int)))then (if InR a b.Zx.length then lt1 ((nth b.Zx a.toNat).Zg) fun(e:Int)=>lt1 ((nth b.Zx a.toNat).Zh) fun(f:Int)=>lt1 ((nth b.Zx a.toNat).Zi) fun(g:Int)=>lt1 ((nth b.Zx a.toNat).Zj) fun(j:Int)=>lt1 ((nth b.Zx a.toNat).Zk) fun(i:Int)=>lt1 ((nth b.Zx a.toNat).Zl) fun(z:UInt64)=>lt1 ((nth b.Zx a.toNat).Zm) fun(k:Int)=>lt1 ((nth b.Zx a.toNat).Zn) fun(l:Int)=>(lt1 (([e,f,g,i]:List Int).length:Int) fun(m:Int)=>lt1 ([e,f,g,i]:List Int) fun(n:List Int)=>(A2 (fun(v:Int×Int)=>Ds m n v.1 v.2) (0,d)).bind fun o=>some o:Option (Int)).bind fun c=>((Ay j 0 7).bind fun p=>if p then (Ay k 1 1073741824).bind fun q=>if q then (Ay l 0 100).bind fun s=>(AB s c).bind fun t=>some t else (AB false c).bind fun u=>some u else (AB false c).bind fun w=>some w:Option (Int)).bind fun x=>some x else none:Option (Int)).bind fun y=>some (.inl ((w64 (a+1)),y)) else some (.inr d)
def Dm(a:Akw)(b:Int)(c:Int):Option ((Int×Int)⊕(Int)) :=if (decide (b<(a.Zy.length:Int)))then if InR b a.Zy.length then lt1 ((nth a.Zy b.toNat).Zo) fun(e:Int)=>lt1 ((nth a.Zy b.toNat).Zp) fun(f:Int)=>lt1 ((nth a.Zy b.toNat).Zq) fun(g:Int)=>lt1 ((nth a.Zy b.toNat).Zr) fun(i:Int)=>lt1 ((nth a.Zy b.toNat).Zs) fun(j:Int)=>((Ay e 0 (w64 ((a.Zx.length:Int)-1))).bind fun k=>if k then (Ay f 0 63).bind fun l=>if l then (Ay g 0 511).bind fun m=>(AB m c).bind fun n=>some n else (AB false c).bind fun o=>some o else (AB false c).bind fun p=>some p:Option (Int)).bind fun d=>((Ay i 0 1073741824).bind fun q=>if q then (Ay j 0 1099511627776).bind fun s=>(AB s d).bind fun t=>some t else (AB false d).bind fun u=>some u:Option (Int)).bind fun v=>some (.inl ((w64 (b+1)),v)) else none else some (.inr c)
def Dp(a:Akw)(b:Int)(c:Int):Option ((Int×Int)⊕(Int)) :=if (decide (b<(a.Zz.length:Int)))then if InR b a.Zz.length then lt1 ((nth a.Zz b.toNat).Zt) fun(d:Int)=>lt1 ((nth a.Zz b.toNat).Zu) fun(e:Int)=>lt1 ((nth a.Zz b.toNat).Zv) fun(f:Int)=>((Ay d 0 (w64 ((a.Zx.length:Int)-1))).bind fun g=>if g then (Ay e 0 (w64 ((a.Zx.length:Int)-1))).bind fun i=>if i then if(d != e)then (Ay f 0 1000000000).bind fun j=>(AB j c).bind fun k=>some k else (AB false c).bind fun l=>some l else (AB false c).bind fun m=>some m else (AB false c).bind fun n=>some n:Option (Int)).bind fun o=>some (.inl ((w64 (b+1)),o)) else none else some (.inr c)
def Dt(d:Akw)(a:Int)(f:Int)(e:Arr Bool 4096):Option ((Int×Int×Arr Bool 4096)⊕(Int)) :=if (decide (a<(d.Za1.length:Int)))then (if InR a d.Za1.length then lt1 ((nth d.Za1 a.toNat).Zw) fun(b:Int)=>lt1 ((nth d.Za1 a.toNat).To) fun(c:Int)=>lt1 ((nth d.Za1 a.toNat).Zd) fun(j:Int)=>((Ay b 0 63).bind fun k=>if k then (Ay c 0 63).bind fun l=>if l then if(b != c)then (Ay j 0 100000).bind fun m=>some m else some false else some false else some false:Option (Bool)).bind fun g=>(AB g f).bind fun i=>if g = true then if InR b 64 then if InR c 64 then (AB (!(e.get (b.toNat*64+c.toNat))) i).bind fun n=>if InR b 64 then if InR c 64 then lt1 (e.set (b.toNat*64+c.toNat) true) fun(o:Arr Bool 4096)=>some (n,o) else none else none else none else none else some (i,e) else none:Option (Int×Arr Bool 4096)).bind fun(p,q)=>some (.inl ((w64 (a+1)),p,q)) else some (.inr f)
def FT(a:Akw):Option (Int) :=(if(decide ((a.Zx.length:Int)>32))then some true else if(decide ((a.Zy.length:Int)>4096))then some true else if(decide ((a.Zz.length:Int)>1024))then some true else some (decide ((a.Za1.length:Int)>4096)):Option (Bool)).bind fun b=>if b then some 2 else ((A2 (fun(v:Int×Int)=>Di a v.1 v.2) (0,0)).bind fun c=>some c:Option (Int)).bind fun d=>((A2 (fun(v:Int×Int)=>Dm a v.1 v.2) (0,d)).bind fun e=>some e:Option (Int)).bind fun f=>((A2 (fun(v:Int×Int)=>Dp a v.1 v.2) (0,f)).bind fun g=>some g:Option (Int)).bind fun i=>((A2 (fun(v:Int×Int×Arr Bool 4096)=>Dt a v.1 v.2.1 v.2.2) (0,i,(Arr.rep 4096 false))).bind fun j=>some j:Option (Int)).bind fun k=>some k
def Cz(b:AkA)(d:Int)(a:Int):Option ((Int×Int)⊕((Unit)⊕((Unit)⊕(Int)))) :=if (decide (a<(b.Ze1.length:Int)))then if InR a b.Ze1.length then lt1 (nth b.Ze1 a.toNat) fun(c:Int)=>(if(decide (c≤d))then some true else some (decide (c>745654)):Option (Bool)).bind fun e=>if e then ((some 1).bind fun f=>some (.inr f)).bind fun g=>some (.inr (.inr g)) else some (.inl (c,(w64 (a+1)))) else none else some (.inr (.inl ()))
def Ec(a:AkA):Option (Int) :=lt1 a.Zd1.2.2.2.2.2.1.Zw fun(b:Int)=>lt1 a.Zd1.2.2.2.2.2.2.Zw fun(c:Int)=>((if(decide (a.Zd1.1.Zw<0))then some true else if(decide (a.Zd1.1.To<a.Zd1.1.Zw))then some true else some (decide (a.Zd1.1.To>1440)):Option (Bool)).bind fun d=>if d then (some 1).bind fun e=>some (.inr e) else (if(decide (a.Zd1.2.1.Zw<0))then some true else if(decide (a.Zd1.2.1.To<a.Zd1.2.1.Zw))then some true else some (decide (a.Zd1.2.1.To>1440)):Option (Bool)).bind fun f=>if f then (some 1).bind fun g=>some (.inr g) else (if(decide (a.Zd1.2.2.1.Zw<0))then some true else if(decide (a.Zd1.2.2.1.To<a.Zd1.2.2.1.Zw))then some true else some (decide (a.Zd1.2.2.1.To>1440)):Option (Bool)).bind fun i=>if i then (some 1).bind fun j=>some (.inr j) else (if(decide (a.Zd1.2.2.2.1.Zw<0))then some true else if(decide (a.Zd1.2.2.2.1.To<a.Zd1.2.2.2.1.Zw))then some true else some (decide (a.Zd1.2.2.2.1.To>1440)):Option (Bool)).bind fun k=>if k then (some 1).bind fun l=>some (.inr l) else (if(decide (a.Zd1.2.2.2.2.1.Zw<0))then some true else if(decide (a.Zd1.2.2.2.2.1.To<a.Zd1.2.2.2.2.1.Zw))then some true else some (decide (a.Zd1.2.2.2.2.1.To>1440)):Option (Bool)).bind fun m=>if m then (some 1).bind fun n=>some (.inr n) else (if(decide (b<0))then some true else if(decide (a.Zd1.2.2.2.2.2.1.To<b))then some true else some (decide (a.Zd1.2.2.2.2.2.1.To>1440)):Option (Bool)).bind fun o=>if o then (some 1).bind fun p=>some (.inr p) else (if(decide (c<0))then some true else if(decide (a.Zd1.2.2.2.2.2.2.To<c))then some true else some (decide (a.Zd1.2.2.2.2.2.2.To>1440)):Option (Bool)).bind fun q=>if q then (some 1).bind fun s=>some (.inr s) else some (.inl ()):Option ((Unit)⊕(Int))).bind fun x=>match x with
 | .inl ()=>((A2 (fun(v:Int×Int)=>Cz a v.1 v.2) ((-1),0)).bind fun x=>match x with
  |.inl ()=>some (.inl ())
  |.inr z=>some z:Option ((Unit)⊕(Int))).bind fun x=>match x with
  |.inl ()=>some 0
  |.inr z=>some z
 |.inr z=>some z
def Hb(a:UInt64)(b:UInt64):Option (UInt64×UInt64) :=lt1 (a &&& (4294967295:UInt64)) fun(x0_2596:UInt64)=>lt1 (Dz a (32:UInt64).toNat) fun(x1_2598:UInt64)=>lt1 (b &&& (4294967295:UInt64)) fun(y0_2600:UInt64)=>lt1 (Dz b (32:UInt64).toNat) fun(y1_2602:UInt64)=>lt1 ((x1_2598*y0_2600)+(Dz (x0_2596*y0_2600) (32:UInt64).toNat)) fun(c:UInt64)=>lt1 (c &&& (4294967295:UInt64)) fun(w1_2606:UInt64)=>lt1 (Dz c (32:UInt64).toNat) fun(w2_2608:UInt64)=>lt1 (w1_2606+(x0_2596*y1_2602)) fun(w1_2610:UInt64)=>lt1 (((x1_2598*y1_2602)+w2_2608)+(Dz w1_2610 (32:UInt64).toNat)) fun(d:UInt64)=>some (d,(a*b))
def EU(a:UInt64):Option (Int) :=(if(decide (a≥(4294967296:UInt64)))then lt1 (Dz a (32:UInt64).toNat) fun(g:UInt64)=>some (g,32) else some (a,0):Option (UInt64×Int)).bind fun(b,d)=>(if(decide (b≥(65536:UInt64)))then lt1 (Dz b (16:UInt64).toNat) fun(i:UInt64)=>some (i,(w64 (d+16))) else some (b,d):Option (UInt64×Int)).bind fun(c,e)=>(if(decide (c≥(256:UInt64)))then lt1 (Dz c (8:UInt64).toNat) fun(j:UInt64)=>some (j,(w64 (e+8))) else some (c,e):Option (UInt64×Int)).bind fun(f,k)=>if InR (f.toUInt8.toNat:Int) (([0,1,2,2,3,3,3,3,4,4,4,4,4,4,4,4,5,5,5,5,5,5,5,5,5,5,5,5,5,5,5,5,6,6,6,6,6,6,6,6,6,6,6,6,6,6,6,6,6,6,6,6,6,6,6,6,6,6,6,6,6,6,6,6,7,7,7,7,7,7,7,7,7,7,7,7,7,7,7,7,7,7,7,7,7,7,7,7,7,7,7,7,7,7,7,7,7,7,7,7,7,7,7,7,7,7,7,7,7,7,7,7,7,7,7,7,7,7,7,7,7,7,7,7,7,7,7,7,8,8,8,8,8,8,8,8,8,8,8,8,8,8,8,8,8,8,8,8,8,8,8,8,8,8,8,8,8,8,8,8,8,8,8,8,8,8,8,8,8,8,8,8,8,8,8,8,8,8,8,8,8,8,8,8,8,8,8,8,8,8,8,8,8,8,8,8,8,8,8,8,8,8,8,8,8,8,8,8,8,8,8,8,8,8,8,8,8,8,8,8,8,8,8,8,8,8,8,8,8,8,8,8,8,8,8,8,8,8,8,8,8,8,8,8,8,8,8,8,8,8,8,8,8,8,8,8]:List UInt8).length)then lt1 (w64 (k+((nth ([0,1,2,2,3,3,3,3,4,4,4,4,4,4,4,4,5,5,5,5,5,5,5,5,5,5,5,5,5,5,5,5,6,6,6,6,6,6,6,6,6,6,6,6,6,6,6,6,6,6,6,6,6,6,6,6,6,6,6,6,6,6,6,6,7,7,7,7,7,7,7,7,7,7,7,7,7,7,7,7,7,7,7,7,7,7,7,7,7,7,7,7,7,7,7,7,7,7,7,7,7,7,7,7,7,7,7,7,7,7,7,7,7,7,7,7,7,7,7,7,7,7,7,7,7,7,7,7,8,8,8,8,8,8,8,8,8,8,8,8,8,8,8,8,8,8,8,8,8,8,8,8,8,8,8,8,8,8,8,8,8,8,8,8,8,8,8,8,8,8,8,8,8,8,8,8,8,8,8,8,8,8,8,8,8,8,8,8,8,8,8,8,8,8,8,8,8,8,8,8,8,8,8,8,8,8,8,8,8,8,8,8,8,8,8,8,8,8,8,8,8,8,8,8,8,8,8,8,8,8,8,8,8,8,8,8,8,8,8,8,8,8,8,8,8,8,8,8,8,8,8,8,8,8,8,8]:List UInt8) f.toUInt8.toNat).toNat:Int))) fun(l:Int)=>some l else none
def C6(a:UInt64):Option (Int) :=(EU a).bind fun b=>some (w64 (64-b))
def DN(yn1_2658:UInt64)(yn0_2660:UInt64)(un1_2666:UInt64)(q1_2701:UInt64)(a:UInt64):Option ((UInt64×UInt64)⊕(UInt64)) :=(if(decide (q1_2701≥(4294967296:UInt64)))then some true else some (decide ((q1_2701*yn0_2660)>(((4294967296:UInt64)*a)+un1_2666))):Option (Bool)).bind fun b=>if b then if(decide ((a+yn1_2658)≥(4294967296:UInt64)))then some (.inr (q1_2701-(1:UInt64))) else some (.inl ((q1_2701-(1:UInt64)),(a+yn1_2658))) else some (.inr q1_2701)
def DV(yn1_2658:UInt64)(yn0_2660:UInt64)(un0_2668:UInt64)(a:UInt64)(q0_2749:UInt64):Option ((UInt64×UInt64)⊕(UInt64)) :=(if(decide (q0_2749≥(4294967296:UInt64)))then some true else some (decide ((q0_2749*yn0_2660)>(((4294967296:UInt64)*a)+un0_2668))):Option (Bool)).bind fun b=>if b then if(decide ((a+yn1_2658)≥(4294967296:UInt64)))then some (.inr (q0_2749-(1:UInt64))) else some (.inl ((a+yn1_2658),(q0_2749-(1:UInt64)))) else some (.inr q0_2749)
def GZ(e:UInt64)(c:UInt64)(a:UInt64):Option (UInt64×UInt64) :=if(a==(0:UInt64))then none else if(decide (a≤e))then none else if (e==(0:UInt64))then if ¬a=0 then if ¬a=0 then some ((c/a),(c%a)) else none else none else (C6 a).bind fun b=>lt1 (Lm a (UInt64.ofInt b).toNat) fun(d:UInt64)=>lt1 (Dz d (32:UInt64).toNat) fun(yn1_2658:UInt64)=>lt1 (d &&& (4294967295:UInt64)) fun(yn0_2660:UInt64)=>lt1 ((Lm e (UInt64.ofInt b).toNat) ||| (Dz c ((64:UInt64)-(UInt64.ofInt b)).toNat)) fun(un32_2662:UInt64)=>lt1 (Lm c (UInt64.ofInt b).toNat) fun(un10_2664:UInt64)=>lt1 (Dz un10_2664 (32:UInt64).toNat) fun(un1_2666:UInt64)=>lt1 (un10_2664 &&& (4294967295:UInt64)) fun(un0_2668:UInt64)=>if ¬yn1_2658=0 then lt1 (un32_2662-((un32_2662/yn1_2658)*yn1_2658)) fun(f:UInt64)=>((A2 (fun(v:UInt64×UInt64)=>DN yn1_2658 yn0_2660 un1_2666 v.1 v.2) ((un32_2662/yn1_2658),f)).bind fun q1_2706=>some q1_2706:Option (UInt64)).bind fun q1_2692=>lt1 (((un32_2662*(4294967296:UInt64))+un1_2666)-(q1_2692*d)) fun(un21_2715:UInt64)=>if ¬yn1_2658=0 then lt1 (un21_2715-((un21_2715/yn1_2658)*yn1_2658)) fun(g:UInt64)=>((A2 (fun(v:UInt64×UInt64)=>DV yn1_2658 yn0_2660 un0_2668 v.1 v.2) (g,(un21_2715/yn1_2658))).bind fun q0_2753=>some q0_2753:Option (UInt64)).bind fun q0_2739=>lt1 ((q1_2692*(4294967296:UInt64))+q0_2739) fun(i:UInt64)=>lt1 (Dz (((un21_2715*(4294967296:UInt64))+un0_2668)-(q0_2739*d)) (UInt64.ofInt b).toNat) fun(j:UInt64)=>some (i,j) else none else none
def BP(c:UInt64)(d:UInt64)(a:UInt64):Option (UInt64×UInt64) :=if ¬a=0 then if ¬a=0 then (Hb (c%a) (d%a)).bind fun b=>(GZ b.1 b.2 a).bind fun e=>some (e.2,a) else none else none
def El(a:UInt64):Option (UInt64) :=some a
def FS(g:UInt64)(d:UInt64)(i:Int)(c:UInt64)(a:Int)(j:UInt64):Option ((UInt64×Int×UInt64)⊕(UInt64)) :=if (decide (a<i))then ((BP c c j).bind fun b=>(EU d).bind fun e=>if EC (w64 ((w64 (e-1))-a))then lt1 (((Dz d ((w64 ((w64 (e-1))-a)).toNat)) &&& (1:UInt64))==(1:UInt64)) fun(k:Bool)=>if k then (BP b.1 g b.2).bind fun f=>some (f.1,f.2) else some (b.1,b.2) else none:Option (UInt64×UInt64)).bind fun(l,m)=>some (.inl (l,(w64 (a+1)),m)) else some (.inr c)
def F7(b:UInt64)(a:UInt64):Option (UInt64) :=(El (2305843009213690799:UInt64)).bind fun c=>((EU a).bind fun d=>(A2 (fun(v:UInt64×Int×UInt64)=>FS b a d v.1 v.2.1 v.2.2) ((1:UInt64),0,c)).bind fun e=>some e:Option (UInt64)).bind fun f=>some f
def FE(a:UInt64):Option (Bool) :=(if(decide (a≥(2:UInt64)))then if(decide (a<(2305843009213690799:UInt64)))then (F7 a (1152921504606845399:UInt64)).bind fun b=>some (b==(1:UInt64)) else some false else some false:Option (Bool)).bind fun c=>some c
def Ca(a:AkC)(c:Bool)(b:Int):Option ((Bool×Int)⊕(Bool)) :=if (decide (b<(a.Zi1.length:Int)))then if InR b a.Zi1.length then lt1 ((nth a.Zi1 b.toNat).Zb1) fun(f:Int)=>lt1 ((nth a.Zi1 b.toNat).Low) fun(d:Int)=>lt1 ((nth a.Zi1 b.toNat).Zc1) fun(e:Int)=>(if c then some true else (Ay f 0 (w64 ((a.Zg1.Ze.length:Int)-1))).bind fun g=>if(!g)then some true else if(decide (d<(-1000)))then some true else if(decide (d>e))then some true else some (decide (e>1000)):Option (Bool)).bind fun i=>some (.inl (i,(w64 (b+1)))) else none else some (.inr c)
def Ch(a:AkC)(d:Bool)(b:Int):Option ((Bool×Int)⊕(Bool)) :=if (decide (b<(a.Zj1.length:Int)))then if InR b a.Zj1.length then lt1 ((nth a.Zj1 b.toNat).Zb1) fun(c:Int)=>(if d then some true else (Ay c 0 (w64 ((a.Zg1.Ze.length:Int)-1))).bind fun e=>if(!e)then some true else if InR c a.Zg1.Ze.length then some ((nth a.Zg1.Ze c.toNat).Za != 4) else none:Option (Bool)).bind fun f=>some (.inl (f,(w64 (b+1)))) else none else some (.inr d)
def Cb(a:AkC)(c:Bool)(b:Int):Option ((Bool×Int)⊕(Bool)) :=if (decide (b<(a.Zh1.Zy.length:Int)))then if InR b a.Zh1.Zy.length then lt1 ((nth a.Zh1.Zy b.toNat).Zo) fun(f:Int)=>lt1 ((nth a.Zh1.Zy b.toNat).Zp) fun(g:Int)=>lt1 ((nth a.Zh1.Zy b.toNat).Zq) fun(d:Int)=>lt1 ((nth a.Zh1.Zy b.toNat).Zr) fun(i:Int)=>lt1 ((nth a.Zh1.Zy b.toNat).Zs) fun(j:Int)=>(if c then some true else some (decide (d≥(a.Zg1.Ze.length:Int))):Option (Bool)).bind fun e=>some (.inl (e,(w64 (b+1)))) else none else some (.inr c)
def Cg(b:AkC)(c:Int)(d:Bool)(a:Int):Option ((Bool×Int)⊕(Bool)) :=if (decide (a<(b.Zg1.Ze.length:Int)))then if InR a b.Zg1.Ze.length then lt1 ((nth b.Zg1.Ze a.toNat).Za) fun(i:Int)=>lt1 ((nth b.Zg1.Ze a.toNat).Zb) fun(e:Int)=>lt1 ((nth b.Zg1.Ze a.toNat).Zc) fun(f:Int)=>(if d then some true else if(decide (e≥c))then some true else some (decide (f≥c)):Option (Bool)).bind fun g=>some (.inl (g,(w64 (a+1)))) else none else some (.inr d)
def Ci(b:AkC)(d:Int)(c:Bool)(a:Int):Option ((Bool×Int)⊕(Bool)) :=if (decide (a<(b.Zg1.Zf.length:Int)))then if InR a b.Zg1.Zf.length then lt1 ((nth b.Zg1.Zf a.toNat).A) fun(g:Int)=>lt1 ((nth b.Zg1.Zf a.toNat).B) fun(i:Int)=>lt1 ((nth b.Zg1.Zf a.toNat).Zb) fun(e:Int)=>lt1 ((nth b.Zg1.Zf a.toNat).Zd) fun(j:Int)=>lt1 ((nth b.Zg1.Zf a.toNat).Km) fun(k:Int)=>(if c then some true else some (decide (e≥d)):Option (Bool)).bind fun f=>some (.inl (f,(w64 (a+1)))) else none else some (.inr c)
def Cc(b:AkC)(c:Bool)(a:Int):Option ((Bool×Int)⊕(Bool)) :=if (decide (a<(b.Zk1.length:Int)))then if InR a b.Zk1.length then lt1 ((nth b.Zk1 a.toNat).Key) fun(d:UInt64)=>lt1 (((((nth b.Zk1 a.toNat).Zf1).Zd1).1).Zw) fun(e:Int)=>lt1 (((((nth b.Zk1 a.toNat).Zf1).Zd1).1).To) fun(f:Int)=>lt1 (((((nth b.Zk1 a.toNat).Zf1).Zd1).2.1).Zw) fun(g:Int)=>lt1 (((((nth b.Zk1 a.toNat).Zf1).Zd1).2.1).To) fun(i:Int)=>lt1 (((((nth b.Zk1 a.toNat).Zf1).Zd1).2.2.1).Zw) fun(j:Int)=>lt1 (((((nth b.Zk1 a.toNat).Zf1).Zd1).2.2.1).To) fun(k:Int)=>lt1 (((((nth b.Zk1 a.toNat).Zf1).Zd1).2.2.2.1).Zw) fun(l:Int)=>lt1 (((((nth b.Zk1 a.toNat).Zf1).Zd1).2.2.2.1).To) fun(m:Int)=>lt1 (((((nth b.Zk1 a.toNat).Zf1).Zd1).2.2.2.2.1).Zw) fun(n:Int)=>lt1 (((((nth b.Zk1 a.toNat).Zf1).Zd1).2.2.2.2.1).To) fun(o:Int)=>lt1 (((((nth b.Zk1 a.toNat).Zf1).Zd1).2.2.2.2.2.1).Zw) fun(p:Int)=>lt1 (((((nth b.Zk1 a.toNat).Zf1).Zd1).2.2.2.2.2.1).To) fun(q:Int)=>lt1 (((((nth b.Zk1 a.toNat).Zf1).Zd1).2.2.2.2.2.2).Zw) fun(s:Int)=>lt1 (((((nth b.Zk1 a.toNat).Zf1).Zd1).2.2.2.2.2.2).To) fun(t:Int)=>lt1 (((nth b.Zk1 a.toNat).Zf1).Ze1) fun(u:List Int)=>(if c then some true else (Ec ({ Zd1:=(({ Zw:=e,To:=f }:Akz),({ Zw:=g,To:=i }:Akz),({ Zw:=j,To:=k }:Akz),({ Zw:=l,To:=m }:Akz),({ Zw:=n,To:=o }:Akz),({ Zw:=p,To:=q }:Akz),({ Zw:=s,To:=t }:Akz)),Ze1:=u }:AkA)).bind fun v=>if(v != 0)then some true else (FE d).bind fun w=>some (!w):Option (Bool)).bind fun x=>some (.inl (x,(w64 (a+1)))) else none else some (.inr c)
def BB(a:AkC):Option (Int) :=(E4 a.Zg1).bind fun c=>if(c != 0)then some c else (FT a.Zh1).bind fun d=>if(d != 0)then some d else (if(decide ((a.Zi1.length:Int)>256))then some true else if(decide ((a.Zj1.length:Int)>256))then some true else some (decide ((a.Zk1.length:Int)>16)):Option (Bool)).bind fun e=>if e then some 2 else lt1 (a.Zk1.length:Int) fun(b:Int)=>((A2 (fun(v:Bool×Int)=>Ca a v.1 v.2) ((b==0),0)).bind fun f=>some f:Option (Bool)).bind fun g=>((A2 (fun(v:Bool×Int)=>Ch a v.1 v.2) (g,0)).bind fun i=>some i:Option (Bool)).bind fun j=>((A2 (fun(v:Bool×Int)=>Cb a v.1 v.2) (j,0)).bind fun k=>some k:Option (Bool)).bind fun l=>((A2 (fun(v:Bool×Int)=>Cg a b v.1 v.2) (l,0)).bind fun m=>some m:Option (Bool)).bind fun n=>((A2 (fun(v:Bool×Int)=>Ci a b v.1 v.2) (n,0)).bind fun o=>some o:Option (Bool)).bind fun p=>((A2 (fun(v:Bool×Int)=>Cc a v.1 v.2) (p,0)).bind fun q=>some q:Option (Bool)).bind fun s=>if s then some 1 else some 0
def EY(a:UInt64):Option (UInt64×Int) :=(if(decide (a<(1:UInt64)))then some true else some (decide (a≥(1152921504606845399:UInt64))):Option (Bool)).bind fun b=>if b then some ((0:UInt64),30) else (F7 (4:UInt64) a).bind fun c=>some (c,0)
def FI(a:AkJ)(b:Int):Option (List AkH) :=if(decide (b≥(a.Zy1.length:Int)))then some ([]) else if InR b a.Zy1.length then some (nth a.Zy1 b.toNat) else none
def Fv(a:Int):Option (AkK) :=some (AkK.mk 1 a ([]) ([]))
def Ik(a:List UInt8):Option (AkK) :=some (AkK.mk 2 0 a ([]))
def AL(a:Int):Option (AkK) :=some (AkK.mk 1 a ([]) ([]))
def edi_list_cnil  : Option (AkK) :=some (AkK.mk 3 0 ([]) ([]))
def Gq(a:List AkK):Option (AkK) :=some (AkK.mk 3 0 ([]) a)
def DO(a:List AkK):Option (AkK) :=some (AkK.mk 3 0 ([]) a)
def L6(a:List UInt8):Option (AkK) :=some (AkK.mk 2 0 a ([]))
def DB(b:AkF)(a:Int)(c:List AkK):Option ((Int×List AkK)⊕(List AkK)) :=if (decide (a<(b.Zu1.length:Int)))then if InR a b.Zu1.length then lt1 ((nth b.Zu1 a.toNat).Za) fun(e:Int)=>lt1 ((nth b.Zu1 a.toNat).Zl1) fun(f:Int)=>lt1 ((nth b.Zu1 a.toNat).Zm1) fun(g:Bool)=>(if g then some 1 else some 0:Option (Int)).bind fun i=>(AL e).bind fun j=>(AL f).bind fun k=>(AL i).bind fun l=>(DO ([j,k,l]:List AkK)).bind fun d=>if Dj (c.length+1) 64 then lt1 (c++([(AkK.mk d.Za d.N ([]) d.L)]:List AkK)) fun(m:List AkK)=>some (.inl ((w64 (a+1)),m)) else none else none else some (.inr c)
def FL(a : AkF):Option (AkK) :=(AL a.Za).bind fun s=>(AL a.Ref.Zb).bind fun t=>(AL a.Ref.No).bind fun u=>(DO ([t,u]:List AkK)).bind fun b=>lt1 ([s,(AkK.mk b.Za b.N ([]) b.L)]:List AkK) fun(d:List AkK)=>((AL a.Zn1).bind fun w=>if Dj (d.length+1) 64 then lt1 (d++([w]:List AkK)) fun(e:List AkK)=>(AL a.Zb1).bind fun x=>if Dj (e.length+1) 64 then lt1 (e++([x]:List AkK)) fun(f:List AkK)=>(AL a.Zc).bind fun y=>if Dj (f.length+1) 64 then lt1 (f++([y]:List AkK)) fun(g:List AkK)=>(AL a.Zo1).bind fun z=>if Dj (g.length+1) 64 then lt1 (g++([z]:List AkK)) fun(i:List AkK)=>(AL a.Zw).bind fun aa=>if Dj (i.length+1) 64 then lt1 (i++([aa]:List AkK)) fun(j:List AkK)=>(AL a.To).bind fun ab=>if Dj (j.length+1) 64 then lt1 (j++([ab]:List AkK)) fun(k:List AkK)=>(AL a.Code).bind fun ac=>if Dj (k.length+1) 64 then lt1 (k++([ac]:List AkK)) fun(l:List AkK)=>(AL a.Zp1).bind fun ad=>if Dj (l.length+1) 64 then lt1 (l++([ad]:List AkK)) fun(m:List AkK)=>(AL a.Zq1).bind fun ae=>if Dj (m.length+1) 64 then lt1 (m++([ae]:List AkK)) fun(n:List AkK)=>(AL a.Zr1).bind fun af=>if Dj (n.length+1) 64 then lt1 (n++([af]:List AkK)) fun(o:List AkK)=>(AL a.Zs1).bind fun ag=>if Dj (o.length+1) 64 then lt1 (o++([ag]:List AkK)) fun(ah:List AkK)=>some ah else none else none else none else none else none else none else none else none else none else none else none:Option (List AkK)).bind fun p=>edi_list_cnil.bind fun q=>((A2 (fun(v:Int×List AkK)=>DB a v.1 v.2) (0,[])).bind fun ai=>some ai:Option (List AkK)).bind fun aj=>(L6 a.Zt1).bind fun ak=>if Dj (p.length+2) 64 then (Gq (p++([ak,(AkK.mk q.Za q.N ([]) aj)]:List AkK))).bind fun c=>lt1 c.L fun(al:List AkK)=>some (AkK.mk c.Za c.N ([]) al) else none
def DP(a:AkH):Option (List AkK) :=(Fv a.Zb).bind fun b=>(Fv a.No).bind fun c=>(Ik a.Zv1.l).bind fun d=>(Fv a.Zw1).bind fun e=>(FL a.Zx1).bind fun f=>lt1 ([b,c,d,e,f]:List AkK) fun(g:List AkK)=>some g
def DD(c:UInt64)(d:List UInt8)(a:Int)(b:List UInt8):Option ((Int×List UInt8)⊕(List UInt8)) :=if (decide (a<(d.length:Int)))then if EC (w64 (56-(w64 (8*a))))then if InR a b.length then lt1 (b.set a.toNat ((Dz c ((w64 (56-(w64 (8*a)))).toNat)).toUInt8)) fun(e:List UInt8)=>some (.inl ((w64 (a+1)),e)) else none else none else some (.inr b)
def GH(b:UInt64):Option (AkK) :=if Mk 8 8 1 then lt1 (List.replicate 8 (0:UInt8)) fun(a:List UInt8)=>((A2 (fun(v:Int×List UInt8)=>DD b a v.1 v.2) (0,a)).bind fun c=>some c:Option (List UInt8)).bind fun d=>(Ik d).bind fun e=>some e else none
def HI(a:List AkK):Option (AkK) :=some (AkK.mk 3 0 ([]) a)
def BO(b:AkK)(rec_:AkK→Option (Int×Bool))(c:Int)(a:Int):Option ((Int×Int)⊕((Int)⊕((Int)⊕((Unit)⊕(Int×Bool))))) :=if (decide (a<(b.L.length:Int)))then if InR a b.L.length then lt1 ((nth b.L a.toNat).Za) fun(e:Int)=>lt1 ((nth b.L a.toNat).N) fun(f:Int)=>lt1 ((nth b.L a.toNat).B) fun(g:List UInt8)=>lt1 ((nth b.L a.toNat).L) fun(i:List AkK)=>(rec_ (AkK.mk e f g i)).bind fun d=>if(!d.2)then (((some (0,false)).bind fun j=>some (.inr j)).bind fun k=>some (.inr k)).bind fun l=>some (.inr (.inr l)) else some (.inl ((Lv c d.1),(w64 (a+1)))) else none else some (.inr (.inl c))
def EE(rec_:AkK→Option (Int×Bool))(a:AkK):Option (Int×Bool) :=(if(a.Za==1)then (if((a.B.length:Int)==0)then some ((a.L.length:Int)==0) else some false:Option (Bool)).bind fun b=>(some (0,b)).bind fun c=>some (.inr c) else if(a.Za==2)then (if(a.N==0)then some ((a.L.length:Int)==0) else some false:Option (Bool)).bind fun d=>(some (0,d)).bind fun e=>some (.inr e) else if (a.Za==3)then (if(a.N != 0)then some true else some ((a.B.length:Int) != 0):Option (Bool)).bind fun f=>if f then (some (0,false)).bind fun g=>some (.inr g) else ((A2 (fun(v:Int×Int)=>BO a rec_ v.1 v.2) (0,0)).bind fun x=>match x with
     |.inl i=>some (.inl i)
     |.inr z=>some z:Option ((Int)⊕((Unit)⊕(Int×Bool)))).bind fun x=>match x with
     |.inl j=>(some ((w64 (j+1)),true)).bind fun k=>some (.inr k)
     |.inr z=>some z else some (.inl ()):Option ((Unit)⊕(Int×Bool))).bind fun x=>match x with
 |.inl ()=>some (0,false)
 |.inr z=>some z
def DU(n:Nat):AkK→Option (Int×Bool):=match n with
 |0=>fun _=>none
 |n+1=>EE (DU n)
def IX(a:AkK):Option (Int×Bool):=DU 18446744073709551616 a
def Bb(a:UInt64)(b:Int):Option ((UInt64×Int)⊕(Int)) :=if(decide (a>(0:UInt64)))then lt1 (Dz a (8:UInt64).toNat) fun(c:UInt64)=>some (.inl (c,(w64 (b+1)))) else some (.inr b)
def BK(a:UInt64):Option (Int) :=((A2 (fun(v:UInt64×Int)=>Bb v.1 v.2) (a,0)).bind fun b=>some b:Option (Int)).bind fun c=>some c
def Bf(d:Int)(b:Int)(a:Int)(c:List UInt8):Option ((Int×List UInt8)⊕(List UInt8)) :=if (decide (a<b))then if EC (w64 (8*(w64 ((w64 (b-1))-a))))then if Dj (c.length+1) 1 then lt1 (c++([(Dz (UInt64.ofInt d) ((w64 (8*(w64 ((w64 (b-1))-a)))).toNat)).toUInt8]:List UInt8)) fun(e:List UInt8)=>some (.inl ((w64 (a+1)),e)) else none else none else some (.inr c)
def Dy(b:List UInt8)(a:Int):Option (List UInt8) :=(BK (UInt64.ofInt a)).bind fun c=>lt1 (UInt8.ofInt (w64 (32+c))) fun(e:UInt8)=>(if(decide (a<0))then (BK (~~~(UInt64.ofInt a))).bind fun d=>lt1 (UInt8.ofInt (w64 (31-d))) fun(f:UInt8)=>some (d,f) else some (c,e):Option (Int×UInt8)).bind fun(g,i)=>if Dj (b.length+1) 1 then lt1 (b++([i]:List UInt8)) fun(j:List UInt8)=>((A2 (fun(v:Int×List UInt8)=>Bf a g v.1 v.2) (0,j)).bind fun k=>some k:Option (List UInt8)).bind fun l=>some l else none
def AP(b:AkK)(a:Int)(c:List UInt8):Option ((Int×List UInt8)⊕(List UInt8)) :=if (decide (a<(b.B.length:Int)))then (if InR a b.B.length then if Dj (c.length+1) 1 then lt1 (c++([nth b.B a.toNat]:List UInt8)) fun(d:List UInt8)=>if(nth b.B a.toNat==(0:UInt8))then if Dj (d.length+1) 1 then lt1 (d++([(255:UInt8)]:List UInt8)) fun(e:List UInt8)=>some e else none else some d else none else none:Option (List UInt8)).bind fun f=>some (.inl ((w64 (a+1)),f)) else some (.inr c)
def AO(b:AkK)(rec_:(List UInt8)→AkK→Option (List UInt8))(a:Int)(c:List UInt8):Option ((Int×List UInt8)⊕(List UInt8)) :=if(decide (a<(b.L.length:Int)))then if InR a b.L.length then lt1 ((nth b.L a.toNat).Za) fun(d:Int)=>lt1 ((nth b.L a.toNat).N) fun(e:Int)=>lt1 ((nth b.L a.toNat).B) fun(f:List UInt8)=>lt1 ((nth b.L a.toNat).L) fun(g:List AkK)=>(rec_ c (AkK.mk d e f g)).bind fun i=>some (.inl ((w64 (a+1)),i)) else none else some (.inr c)
def C7(rec_:(List UInt8)→AkK→Option (List UInt8))(a:List UInt8)(b:AkK):Option (List UInt8) :=(if(b.Za==1)then (Dy a b.N).bind fun e=>(some e).bind fun f=>some (.inr f) else if (b.Za==2)then if Dj (a.length+1) 1 then lt1 (a++([(48:UInt8)]:List UInt8)) fun(g:List UInt8)=>((A2 (fun(v:Int×List UInt8)=>AP b v.1 v.2) (0,g)).bind fun i=>some i:Option (List UInt8)).bind fun c=>if Dj (c.length+2) 1 then lt1 (c++([(0:UInt8),(0:UInt8)]:List UInt8)) fun(j:List UInt8)=>(some j).bind fun k=>some (.inr k) else none else none else some (.inl ()):Option ((Unit)⊕(List UInt8))).bind fun x=>match x with
 | .inl ()=>if Dj (a.length+1) 1 then lt1 (a++([(64:UInt8)]:List UInt8)) fun(l:List UInt8)=>((A2 (fun(v:Int×List UInt8)=>AO b rec_ v.1 v.2) (0,l)).bind fun m=>some m:Option (List UInt8)).bind fun d=>if Dj (d.length+1) 1 then lt1 (d++([(0:UInt8)]:List UInt8)) fun(n:List UInt8)=>some n else none else none
 |.inr z=>some z
def BJ(n:Nat):(List UInt8)→AkK→Option (List UInt8):=match n with
 |0=>fun _ _=>none
 |n+1=>C7 (BJ n)
def ES(a:List UInt8)(b:AkK):Option (List UInt8):=BJ 18446744073709551616 a b
def Ep(a:AkK):Option (List UInt8×Int) :=(IX a).bind fun b=>if(!b.2)then some ([],10) else if(decide (b.1>16))then some ([],2) else (ES ([]) a).bind fun c=>if(decide ((c.length:Int)>65536))then some ([],2) else some (c,0)
def FV(a:AkH):Option (List UInt8×Int) :=(DP a).bind fun b=>(GH a.Sig.C).bind fun d=>(GH a.Sig.S).bind fun e=>(HI ([d,e]:List AkK)).bind fun f=>if Dj (b.length+1) 64 then (HI (b++([f]:List AkK))).bind fun g=>(Ep g).bind fun c=>some (c.1,c.2) else none
def A7(a:UInt32)(c:Int):Option (UInt32) :=lt1 ((UInt64.ofInt c) &&& (31:UInt64)) fun(b:UInt64)=>lt1 ((V7 a b.toNat) ||| (RA a ((32:UInt64)-b).toNat)) fun(d:UInt32)=>some d
def DH(b:List UInt8)(a:Int)(c:Arr UInt32 64):Option ((Int×Arr UInt32 64)⊕(Arr UInt32 64)) :=if (decide (a<16))then if InR (w64 (4*a)) b.length then if InR (w64 ((w64 (4*a))+1)) b.length then if InR (w64 ((w64 (4*a))+2)) b.length then if InR (w64 ((w64 (4*a))+3)) b.length then if InR a 64 then lt1 (c.set a.toNat ((((V7 ((nth b ((w64 (4*a)).toNat)).toUInt32) (24:UInt64).toNat) ||| (V7 ((nth b ((w64 ((w64 (4*a))+1)).toNat)).toUInt32) (16:UInt64).toNat)) ||| (V7 ((nth b ((w64 ((w64 (4*a))+2)).toNat)).toUInt32) (8:UInt64).toNat)) ||| (nth b ((w64 ((w64 (4*a))+3)).toNat)).toUInt32)) fun(d:Arr UInt32 64)=>some (.inl ((w64 (a+1)),d)) else none else none else none else none else none else some (.inr c)
def D9(a:Int)(b:Arr UInt32 64):Option ((Int×Arr UInt32 64)⊕(Arr UInt32 64)) :=if (decide (a<64))then if InR (w64 (a-15)) 64 then if InR (w64 (a-2)) 64 then lt1 (b.get ((w64 (a-15)).toNat)) fun(c:UInt32)=>lt1 (b.get ((w64 (a-2)).toNat)) fun(d:UInt32)=>(A7 c (-7)).bind fun e=>(A7 c (-18)).bind fun f=>lt1 ((e ^^^ f) ^^^ (RA c (3:UInt64).toNat)) fun(s0_5401:UInt32)=>(A7 d (-17)).bind fun g=>(A7 d (-19)).bind fun i=>lt1 ((g ^^^ i) ^^^ (RA d (10:UInt64).toNat)) fun(s1_5407:UInt32)=>if InR (w64 (a-16)) 64 then if InR (w64 (a-7)) 64 then if InR a 64 then lt1 (b.set a.toNat ((((b.get ((w64 (a-16)).toNat))+s0_5401)+(b.get ((w64 (a-7)).toNat)))+s1_5407)) fun(j:Arr UInt32 64)=>some (.inl ((w64 (a+1)),j)) else none else none else none else none else none else some (.inr b)
def DG(d:Arr UInt32 64)(b:Int)(a:Arr UInt32 8):Option ((Int×Arr UInt32 8)⊕(Arr UInt32 8)) :=if (decide (b<64))then (A7 (a.get 4) (-6)).bind fun e=>(A7 (a.get 4) (-11)).bind fun f=>(A7 (a.get 4) (-25)).bind fun g=>if InR b 64 then if InR b 64 then lt1 (((((a.get 7)+((e ^^^ f) ^^^ g))+(((a.get 4) &&& (a.get 5)) ^^^ ((~~~(a.get 4)) &&& (a.get 6))))+(glob2.get b.toNat))+(d.get b.toNat)) fun(c:UInt32)=>(A7 (a.get 0) (-2)).bind fun i=>(A7 (a.get 0) (-13)).bind fun j=>(A7 (a.get 0) (-22)).bind fun k=>lt1 (((i ^^^ j) ^^^ k)+((((a.get 0) &&& (a.get 1)) ^^^ ((a.get 0) &&& (a.get 2))) ^^^ ((a.get 1) &&& (a.get 2)))) fun(l:UInt32)=>lt1 (⟨[(c+l),(a.get 0),(a.get 1),(a.get 2),((a.get 3)+c),(a.get 4),(a.get 5),(a.get 6)],rfl⟩:Arr UInt32 8) fun(m:Arr UInt32 8)=>some (.inl ((w64 (b+1)),m)) else none else none else some (.inr a)
def D8(c:Arr UInt32 8)(a:Int)(b:Arr UInt32 8):Option ((Int×Arr UInt32 8)⊕(Arr UInt32 8)) :=if (decide (a<8))then if InR a 8 then if InR a 8 then if InR a 8 then lt1 (b.set a.toNat ((b.get a.toNat)+(c.get a.toNat))) fun(d:Arr UInt32 8)=>some (.inl ((w64 (a+1)),d)) else none else none else none else some (.inr b)
def Fu(a:Arr UInt32 8)(b:List UInt8):Option (Arr UInt32 8) :=((A2 (fun(v:Int×Arr UInt32 64)=>DH b v.1 v.2) (0,(Arr.rep 64 (0:UInt32)))).bind fun c=>some c:Option (Arr UInt32 64)).bind fun d=>((A2 (fun(v:Int×Arr UInt32 64)=>D9 v.1 v.2) (16,d)).bind fun e=>some e:Option (Arr UInt32 64)).bind fun f=>((A2 (fun(v:Int×Arr UInt32 8)=>DG f v.1 v.2) (0,a)).bind fun g=>some g:Option (Arr UInt32 8)).bind fun i=>((A2 (fun(v:Int×Arr UInt32 8)=>D8 i v.1 v.2) (0,a)).bind fun j=>some j:Option (Arr UInt32 8)).bind fun k=>some k
def DR(b:List (List UInt8))(a:Int)(c:List UInt8):Option ((Int×List UInt8)⊕(List UInt8)) :=if (decide (a<(b.length:Int)))then if InR a b.length then lt1 (nth b a.toNat) fun(d:List UInt8)=>if Dj (c.length+d.length) 1 then lt1 (c++d) fun(e:List UInt8)=>some (.inl ((w64 (a+1)),e)) else none else none else some (.inr c)
def E9(a:List UInt8):Option ((List UInt8)⊕(List UInt8)) :=if((((a.length:Int):Int).tmod 64) != 56)then if Dj (a.length+1) 1 then lt1 (a++([(0:UInt8)]:List UInt8)) fun(b:List UInt8)=>some (.inl b) else none else some (.inr a)
def DS(c:UInt64)(a:Int)(b:List UInt8):Option ((Int×List UInt8)⊕(List UInt8)) :=if (decide (a≥0))then if EC a then if Dj (b.length+1) 1 then lt1 (b++([(Dz c a.toNat).toUInt8]:List UInt8)) fun(d:List UInt8)=>some (.inl ((w64 (a-8)),d)) else none else none else some (.inr b)
def EB(d:List UInt8)(b:Nat)(a:Nat)(c:Arr UInt32 8):Option ((Nat×Nat×Arr UInt32 8)⊕(Arr UInt32 8)) :=if (decide ((a:Int)>0))then if InB 64 a then (Fu c ((d.drop b).take 64)).bind fun e=>if InB 64 a then some (.inl ((b+64),(a-64),e)) else none else none else some (.inr c)
def E3(c:Arr UInt32 8)(a:Int)(b:Arr UInt8 32):Option ((Int×Arr UInt8 32)⊕(Arr UInt8 32)) :=if (decide (a<32))then if InR (w64 ((a:Int).tdiv 4)) 8 then if EC (w64 (24-(w64 (8*((a:Int).tmod 4)))))then if InR a 32 then lt1 (b.set a.toNat ((RA (c.get ((w64 ((a:Int).tdiv 4)).toNat)) ((w64 (24-(w64 (8*((a:Int).tmod 4))))).toNat)).toUInt8)) fun(d:Arr UInt8 32)=>some (.inl ((w64 (a+1)),d)) else none else none else none else some (.inr b)
def GF(c:List (List UInt8)):Option (Arr UInt8 32) :=((A2 (fun(v:Int×List UInt8)=>DR c v.1 v.2) (0,[])).bind fun d=>some d:Option (List UInt8)).bind fun a=>lt1 ((UInt64.ofInt (a.length:Int))*(8:UInt64)) fun(e:UInt64)=>if Dj (a.length+1) 1 then lt1 (a++([(128:UInt8)]:List UInt8)) fun(f:List UInt8)=>((A2 (fun(v:List UInt8)=>E9 v) f).bind fun g=>some g:Option (List UInt8)).bind fun i=>((A2 (fun(v:Int×List UInt8)=>DS e v.1 v.2) (56,i)).bind fun j=>some j:Option (List UInt8)).bind fun b=>lt1 (⟨[(1779033703:UInt32),3144134277,1013904242,2773480762,1359893119,2600822924,528734635,1541459225],rfl⟩:Arr UInt32 8) fun(k:Arr UInt32 8)=>((A2 (fun(v:Nat×Nat×Arr UInt32 8)=>EB b v.1 v.2.1 v.2.2) (0,b.length,k)).bind fun l=>some l:Option (Arr UInt32 8)).bind fun m=>((A2 (fun(v:Int×Arr UInt8 32)=>E3 m v.1 v.2) (0,(Arr.rep 32 (0:UInt8)))).bind fun n=>some n:Option (Arr UInt8 32)).bind fun o=>some o else none
def CH(a:List UInt8)(c:List UInt8):Option (Arr UInt8 32) :=if InB (NM (a.length:Int) 255) a.length then lt1 (a.take ((NM (a.length:Int) 255).toNat)) fun(b:List UInt8)=>(GF ([([(UInt8.ofInt (b.length:Int))]:List UInt8),b,c]:List (List UInt8))).bind fun d=>some d else none
def D0(b:AkH):Option (Arr UInt8 32×Int) :=(FV b).bind fun a=>if(a.2 != 0)then some ((Arr.rep 32 (0:UInt8)),a.2) else (CH ([114,101,99,111,114,100]:List UInt8) a.1).bind fun c=>some (c,0)
def FP(b:AkH):Option (List UInt8×Int) :=(DP b).bind fun c=>(HI c).bind fun d=>(Ep d).bind fun a=>some (a.1,a.2)
def Df(c:UInt64)(a:Int)(b:List UInt8):Option ((Int×List UInt8)⊕(List UInt8)) :=if (decide (a<8))then if EC (w64 (56-(w64 (8*a))))then if Dj (b.length+1) 1 then lt1 (b++([(Dz c ((w64 (56-(w64 (8*a)))).toNat)).toUInt8]:List UInt8)) fun(d:List UInt8)=>some (.inl ((w64 (a+1)),d)) else none else none else some (.inr b)
def Dr(b:List UInt64)(a:Int)(c:List UInt8):Option ((Int×List UInt8)⊕(List UInt8)) :=if(decide (a<(b.length:Int)))then (if InR a b.length then lt1 (nth b a.toNat) fun(d:UInt64)=>(A2 (fun(v:Int×List UInt8)=>Df d v.1 v.2) (0,c)).bind fun e=>some e else none:Option (List UInt8)).bind fun f=>some (.inl ((w64 (a+1)),f)) else some (.inr c)
def Fb(a:List UInt8)(b:List UInt64):Option (List UInt8) :=if Mk 0 (w64 ((w64 (8*(b.length:Int)))+(a.length:Int))) 1 then lt1 (List.replicate 0 (0:UInt8)) fun(d:List UInt8)=>((A2 (fun(v:Int×List UInt8)=>Dr b v.1 v.2) (0,d)).bind fun e=>some e:Option (List UInt8)).bind fun c=>if Dj (c.length+a.length) 1 then lt1 (c++a) fun(f:List UInt8)=>some f else none else none
def CB(b:Arr UInt8 32)(c:UInt64)(a:Int):Option ((UInt64×Int)⊕(UInt64)) :=if(decide (a<((b.l.take 8).length:Int)))then if InR a ((b.l.take 8).length)then lt1 (nth (b.l.take 8) a.toNat) fun(d:UInt8)=>lt1 ((Lm c (8:UInt64).toNat) ||| d.toUInt64) fun(e:UInt64)=>some (.inl (e,(w64 (a+1)))) else none else some (.inr c)
def DT(a:Arr UInt8 32):Option (UInt64) :=((A2 (fun(v:UInt64×Int)=>CB a v.1 v.2) ((0:UInt64),0)).bind fun b=>some b:Option (UInt64)).bind fun c=>some c
def Do(a:UInt64)(b:UInt64)(c:List UInt8):Option (UInt64) :=(Fb c ([a,b]:List UInt64)).bind fun d=>(CH ([99,104,97,108,108,101,110,103,101]:List UInt8) d).bind fun e=>(DT e).bind fun f=>some (f%(1152921504606845399:UInt64))
def Ga(a:UInt64)(b:List UInt8):Option (AkG×Int) :=(EY a).bind fun c=>if(c.2 != 0)then some (({ C:=(0:UInt64),S:=(0:UInt64) }:AkG),c.2) else if(decide ((b.length:Int)>65536))then some (({ C:=(0:UInt64),S:=(0:UInt64) }:AkG),2) else (Fb b ([a]:List UInt64)).bind fun f=>(CH ([110,111,110,99,101]:List UInt8) f).bind fun g=>(DT g).bind fun i=>lt1 ((i%(1152921504606845398:UInt64))+(1:UInt64)) fun(d:UInt64)=>(F7 (4:UInt64) d).bind fun j=>(Do j c.1 b).bind fun e=>(El (1152921504606845399:UInt64)).bind fun k=>(BP e a k).bind fun l=>lt1 ((d+l.1)%(1152921504606845399:UInt64)) fun(m:UInt64)=>some (({ C:=e,S:=m }:AkG),0)
def FC(a:AkF):Option (Bool) :=if((a.Ref.Zb==0)&&(a.Ref.No==0))then some (a.Za != 14) else (if(decide (a.Ref.Zb≥0))then if(decide (a.Ref.Zb<16))then if(decide (a.Ref.No≥1))then some (decide (a.Ref.No≤4096)) else some false else some false else some false:Option (Bool)).bind fun b=>some b
def BT(a:AkL)(b:Int)(c:Int):Option (AkL) :=(if a.ok=true then if(decide (b≤a.it.Zn1))then some (decide (a.it.Zn1≤c)) else some false else some false:Option (Bool)).bind fun d=>some ({ p:=a.p,it:=({ Za:=a.it.Za,Ref:=a.it.Ref,Zn1:=0,Zb1:=a.it.Zb1,Zc:=a.it.Zc,Zo1:=a.it.Zo1,Zw:=a.it.Zw,To:=a.it.To,Code:=a.it.Code,Zp1:=a.it.Zp1,Zq1:=a.it.Zq1,Zr1:=a.it.Zr1,Zs1:=a.it.Zs1,Zt1:=a.it.Zt1,Zu1:=a.it.Zu1 }:AkF),ok:=d }:AkL)
def Bi(a:AkL)(b:Int)(c:Int):Option (AkL) :=(if a.ok=true then if(decide (b≤a.it.Zc))then some (decide (a.it.Zc≤c)) else some false else some false:Option (Bool)).bind fun d=>some ({ p:=a.p,it:=({ Za:=a.it.Za,Ref:=a.it.Ref,Zn1:=a.it.Zn1,Zb1:=a.it.Zb1,Zc:=0,Zo1:=a.it.Zo1,Zw:=a.it.Zw,To:=a.it.To,Code:=a.it.Code,Zp1:=a.it.Zp1,Zq1:=a.it.Zq1,Zr1:=a.it.Zr1,Zs1:=a.it.Zs1,Zt1:=a.it.Zt1,Zu1:=a.it.Zu1 }:AkF),ok:=d }:AkL)
def Bj(a:AkL)(b:Int)(c:Int):Option (AkL) :=(if a.ok=true then if(decide (b≤a.it.Zo1))then some (decide (a.it.Zo1≤c)) else some false else some false:Option (Bool)).bind fun d=>some ({ p:=a.p,it:=({ Za:=a.it.Za,Ref:=a.it.Ref,Zn1:=a.it.Zn1,Zb1:=a.it.Zb1,Zc:=a.it.Zc,Zo1:=0,Zw:=a.it.Zw,To:=a.it.To,Code:=a.it.Code,Zp1:=a.it.Zp1,Zq1:=a.it.Zq1,Zr1:=a.it.Zr1,Zs1:=a.it.Zs1,Zt1:=a.it.Zt1,Zu1:=a.it.Zu1 }:AkF),ok:=d }:AkL)
def BX(a:AkL)(b:Int)(c:Int):Option (AkL) :=(if a.ok=true then if(decide (b≤a.it.Zw))then some (decide (a.it.Zw≤c)) else some false else some false:Option (Bool)).bind fun d=>some ({ p:=a.p,it:=({ Za:=a.it.Za,Ref:=a.it.Ref,Zn1:=a.it.Zn1,Zb1:=a.it.Zb1,Zc:=a.it.Zc,Zo1:=a.it.Zo1,Zw:=0,To:=a.it.To,Code:=a.it.Code,Zp1:=a.it.Zp1,Zq1:=a.it.Zq1,Zr1:=a.it.Zr1,Zs1:=a.it.Zs1,Zt1:=a.it.Zt1,Zu1:=a.it.Zu1 }:AkF),ok:=d }:AkL)
def BZ(a:AkL)(b:Int)(c:Int):Option (AkL) :=(if a.ok=true then if(decide (b≤a.it.To))then some (decide (a.it.To≤c)) else some false else some false:Option (Bool)).bind fun d=>some ({ p:=a.p,it:=({ Za:=a.it.Za,Ref:=a.it.Ref,Zn1:=a.it.Zn1,Zb1:=a.it.Zb1,Zc:=a.it.Zc,Zo1:=a.it.Zo1,Zw:=a.it.Zw,To:=0,Code:=a.it.Code,Zp1:=a.it.Zp1,Zq1:=a.it.Zq1,Zr1:=a.it.Zr1,Zs1:=a.it.Zs1,Zt1:=a.it.Zt1,Zu1:=a.it.Zu1 }:AkF),ok:=d }:AkL)
def AU(a:AkL)(b:Int)(c:Int):Option (AkL) :=(if a.ok=true then if(decide (b≤a.it.Code))then some (decide (a.it.Code≤c)) else some false else some false:Option (Bool)).bind fun d=>some ({ p:=a.p,it:=({ Za:=a.it.Za,Ref:=a.it.Ref,Zn1:=a.it.Zn1,Zb1:=a.it.Zb1,Zc:=a.it.Zc,Zo1:=a.it.Zo1,Zw:=a.it.Zw,To:=a.it.To,Code:=0,Zp1:=a.it.Zp1,Zq1:=a.it.Zq1,Zr1:=a.it.Zr1,Zs1:=a.it.Zs1,Zt1:=a.it.Zt1,Zu1:=a.it.Zu1 }:AkF),ok:=d }:AkL)
def BR(a:AkL)(b:Int)(c:Int):Option (AkL) :=(if a.ok=true then if(decide (b≤a.it.Zp1))then some (decide (a.it.Zp1≤c)) else some false else some false:Option (Bool)).bind fun d=>some ({ p:=a.p,it:=({ Za:=a.it.Za,Ref:=a.it.Ref,Zn1:=a.it.Zn1,Zb1:=a.it.Zb1,Zc:=a.it.Zc,Zo1:=a.it.Zo1,Zw:=a.it.Zw,To:=a.it.To,Code:=a.it.Code,Zp1:=0,Zq1:=a.it.Zq1,Zr1:=a.it.Zr1,Zs1:=a.it.Zs1,Zt1:=a.it.Zt1,Zu1:=a.it.Zu1 }:AkF),ok:=d }:AkL)
def BS(a:AkL)(b:Int)(c:Int):Option (AkL) :=(if a.ok=true then if(decide (b≤a.it.Zq1))then some (decide (a.it.Zq1≤c)) else some false else some false:Option (Bool)).bind fun d=>some ({ p:=a.p,it:=({ Za:=a.it.Za,Ref:=a.it.Ref,Zn1:=a.it.Zn1,Zb1:=a.it.Zb1,Zc:=a.it.Zc,Zo1:=a.it.Zo1,Zw:=a.it.Zw,To:=a.it.To,Code:=a.it.Code,Zp1:=a.it.Zp1,Zq1:=0,Zr1:=a.it.Zr1,Zs1:=a.it.Zs1,Zt1:=a.it.Zt1,Zu1:=a.it.Zu1 }:AkF),ok:=d }:AkL)
def B3(a:AkL)(b:Int)(c:Int):Option (AkL) :=(if a.ok=true then if(decide (b≤a.it.Zr1))then some (decide (a.it.Zr1≤c)) else some false else some false:Option (Bool)).bind fun d=>some ({ p:=a.p,it:=({ Za:=a.it.Za,Ref:=a.it.Ref,Zn1:=a.it.Zn1,Zb1:=a.it.Zb1,Zc:=a.it.Zc,Zo1:=a.it.Zo1,Zw:=a.it.Zw,To:=a.it.To,Code:=a.it.Code,Zp1:=a.it.Zp1,Zq1:=a.it.Zq1,Zr1:=0,Zs1:=a.it.Zs1,Zt1:=a.it.Zt1,Zu1:=a.it.Zu1 }:AkF),ok:=d }:AkL)
def B0(a:AkL)(b:Int)(c:Int):Option (AkL) :=(if a.ok=true then if(decide (b≤a.it.Zs1))then some (decide (a.it.Zs1≤c)) else some false else some false:Option (Bool)).bind fun d=>some ({ p:=a.p,it:=({ Za:=a.it.Za,Ref:=a.it.Ref,Zn1:=a.it.Zn1,Zb1:=a.it.Zb1,Zc:=a.it.Zc,Zo1:=a.it.Zo1,Zw:=a.it.Zw,To:=a.it.To,Code:=a.it.Code,Zp1:=a.it.Zp1,Zq1:=a.it.Zq1,Zr1:=a.it.Zr1,Zs1:=0,Zt1:=a.it.Zt1,Zu1:=a.it.Zu1 }:AkF),ok:=d }:AkL)
def BL(a:AkL):Option (AkL) :=(BT a 0 (w64 ((a.p.Zh1.Zy.length:Int)-1))).bind fun b=>some b
def AX(a:AkL):Option (AkL) :=(BX a 0 1073741824).bind fun b=>some b
def Ba(a:AkL)(c:Int):Option (Akp×AkL) :=((if(decide (a.it.Zb1≥0))then some (decide (a.it.Zb1<(a.p.Zg1.Ze.length:Int))) else some false:Option (Bool)).bind fun d=>if d then if InR a.it.Zb1 a.p.Zg1.Ze.length then lt1 ((nth a.p.Zg1.Ze a.it.Zb1.toNat).Za) fun(e:Int)=>lt1 ((nth a.p.Zg1.Ze a.it.Zb1.toNat).Zb) fun(f:Int)=>lt1 ((nth a.p.Zg1.Ze a.it.Zb1.toNat).Zc) fun(g:Int)=>some (e,f,g) else none else some (0,0,0):Option (Int×Int×Int)).bind fun(b,i,j)=>(if a.ok=true then if(b != 0)then if(c==0)then some true else some (b==c) else some false else some false:Option (Bool)).bind fun k=>some (({ Za:=b,Zb:=i,Zc:=j }:Akp),({ p:=a.p,it:=({ Za:=a.it.Za,Ref:=a.it.Ref,Zn1:=a.it.Zn1,Zb1:=0,Zc:=a.it.Zc,Zo1:=a.it.Zo1,Zw:=a.it.Zw,To:=a.it.To,Code:=a.it.Code,Zp1:=a.it.Zp1,Zq1:=a.it.Zq1,Zr1:=a.it.Zr1,Zs1:=a.it.Zs1,Zt1:=a.it.Zt1,Zu1:=a.it.Zu1 }:AkF),ok:=k }:AkL))
def Cl(a:AkL):Option (AkL) :=(BZ a (Lv a.it.Zw 0) 1073741824).bind fun b=>(AX b).bind fun c=>some c
def Bw(a:AkL):Option (AkL) :=(Bi a 0 (w64 ((a.p.Zj1.length:Int)-1))).bind fun b=>some b
def C0(a:AkL):Option (AkL) :=(BS a 0 63).bind fun b=>some b
def Cp(c:AkL):Option (AkL) :=if(decide (c.it.Za<1))then some ({ p:=c.p,it:=c.it,ok:=false }:AkL) else (BL c).bind fun b=>if(b.it.Za==1)then (Bi b 0 (w64 ((b.p.Zi1.length:Int)-1))).bind fun f=>(AX f).bind fun g=>some g else if(b.it.Za==2)then (Ba b 0).bind fun i=>(Cl i.2).bind fun j=>some j else (if(b.it.Za==3)then some (b.it.Za==3) else some (b.it.Za==4):Option (Bool)).bind fun k=>if k then (Ba b 3).bind fun a=>(if a.2.ok=true then if(a.2.it.Zc==a.1.Zb)then some true else some (a.2.it.Zc==a.1.Zc) else some false:Option (Bool)).bind fun l=>(AX ({ p:=a.2.p,it:=({ Za:=a.2.it.Za,Ref:=a.2.it.Ref,Zn1:=a.2.it.Zn1,Zb1:=a.2.it.Zb1,Zc:=0,Zo1:=a.2.it.Zo1,Zw:=a.2.it.Zw,To:=a.2.it.To,Code:=a.2.it.Code,Zp1:=a.2.it.Zp1,Zq1:=a.2.it.Zq1,Zr1:=a.2.it.Zr1,Zs1:=a.2.it.Zs1,Zt1:=a.2.it.Zt1,Zu1:=a.2.it.Zu1 }:AkF),ok:=l }:AkL)).bind fun m=>(AU m 0 8).bind fun n=>some n else if(b.it.Za==5)then (Bj b 1 1000000000).bind fun o=>(Bw o).bind fun q=>(Ba q 0).bind fun e=>(BR e.2 0 (w64 ((e.2.p.Zg1.Ze.length:Int)-1))).bind fun s=>(C0 s).bind fun t=>(B3 t 0 1000000).bind fun u=>(AX u).bind fun v=>some v else (if(b.it.Za==6)then some (b.it.Za==6) else some (b.it.Za==7):Option (Bool)).bind fun w=>if w then (Ba b 0).bind fun x=>(Bw x.2).bind fun y=>(AX y).bind fun d=>if(d.it.Za==6)then (AU d 0 1).bind fun z=>some z else some d else some b
def Eo(b:List AkE)(e:Bool)(a:Int):Option ((Int)⊕((Unit)⊕((Unit)⊕(Bool)))) :=if (decide (a<(b.length:Int)))then if InR a b.length then lt1 ((nth b a.toNat).Za) fun(c:Int)=>lt1 ((nth b a.toNat).Zl1) fun(d:Int)=>lt1 ((nth b a.toNat).Zm1) fun(f:Bool)=>(if(decide (c<1))then some true else if(decide (c>3))then some true else if(decide (d<0))then some true else if(decide (d>1073741824))then some true else if f then some (!e) else some false:Option (Bool)).bind fun g=>if g then ((some false).bind fun i=>some (.inr i)).bind fun j=>some (.inr (.inr j)) else some (.inl (w64 (a+1))) else none else some (.inr (.inl ()))
def Hd(a:List AkE)(b:Bool):Option (Bool) :=((A2 (fun(v:Int)=>Eo a b v) 0).bind fun x=>match x with
 |.inl ()=>some (.inl ())
 |.inr z=>some z:Option ((Unit)⊕(Bool))).bind fun x=>match x with
 |.inl ()=>some (decide ((a.length:Int)≤16))
 |.inr z=>some z
def CQ(b:AkL):Option (AkL) :=if(b.it.Za==8)then (BL b).bind fun f=>(AX f).bind fun g=>(AU g 1 9).bind fun i=>some i else if(b.it.Za==9)then (BL b).bind fun j=>(Ba j 5).bind fun k=>(Cl k.2).bind fun l=>(AU l 1 2).bind fun m=>(B0 m 0 1000000000).bind fun d=>(if d.ok=true then (Hd d.it.Zu1 true).bind fun n=>some n else some false:Option (Bool)).bind fun o=>some ({ p:=d.p,it:=({ Za:=d.it.Za,Ref:=d.it.Ref,Zn1:=d.it.Zn1,Zb1:=d.it.Zb1,Zc:=d.it.Zc,Zo1:=d.it.Zo1,Zw:=d.it.Zw,To:=d.it.To,Code:=d.it.Code,Zp1:=d.it.Zp1,Zq1:=d.it.Zq1,Zr1:=d.it.Zr1,Zs1:=d.it.Zs1,Zt1:=d.it.Zt1,Zu1:=[] }:AkF),ok:=o }:AkL) else if (b.it.Za==10)then (Bi b 0 63).bind fun c=>(if c.ok=true then if(decide ((c.it.Zu1.length:Int)>0))then (Hd c.it.Zu1 false).bind fun q=>some q else some false else some false:Option (Bool)).bind fun s=>some ({ p:=c.p,it:=({ Za:=c.it.Za,Ref:=c.it.Ref,Zn1:=c.it.Zn1,Zb1:=c.it.Zb1,Zc:=c.it.Zc,Zo1:=c.it.Zo1,Zw:=c.it.Zw,To:=c.it.To,Code:=c.it.Code,Zp1:=c.it.Zp1,Zq1:=c.it.Zq1,Zr1:=c.it.Zr1,Zs1:=c.it.Zs1,Zt1:=c.it.Zt1,Zu1:=[] }:AkF),ok:=s }:AkL) else (if(b.it.Za==11)then some (b.it.Za==11) else if(b.it.Za==12)then some (b.it.Za==12) else some (b.it.Za==13):Option (Bool)).bind fun t=>if t then (Bj b 1 6).bind fun u=>(AX u).bind fun a=>if (a.it.Za != 13)then (if a.ok=true then if(decide ((a.it.Zt1.length:Int)≥1))then some (decide ((a.it.Zt1.length:Int)≤2000)) else some false else some false:Option (Bool)).bind fun v=>some ({ p:=a.p,it:=({ Za:=a.it.Za,Ref:=a.it.Ref,Zn1:=a.it.Zn1,Zb1:=a.it.Zb1,Zc:=a.it.Zc,Zo1:=a.it.Zo1,Zw:=a.it.Zw,To:=a.it.To,Code:=a.it.Code,Zp1:=a.it.Zp1,Zq1:=a.it.Zq1,Zr1:=a.it.Zr1,Zs1:=a.it.Zs1,Zt1:=([]:List UInt8),Zu1:=a.it.Zu1 }:AkF),ok:=v }:AkL) else some a else if(b.it.Za==14)then some b else if(b.it.Za==15)then (Bw b).bind fun w=>(Ba w 0).bind fun x=>(C0 x.2).bind fun e=>(Bj e 0 (w64 ((e.p.Zh1.Zx.length:Int)-1))).bind fun y=>(B3 y 1 1000).bind fun z=>(Cl z).bind fun aa=>(B0 aa 0 1000000000).bind fun ab=>some ab else some ({ p:=b.p,it:=b.it,ok:=false }:AkL)
def GU(d:AkC)(c:AkF):Option (Bool) :=(if(decide (c.Za≤7))then (Cp ({ p:=d,it:=c,ok:=true }:AkL)).bind fun a=>some (a.p.Zg1.Ze,a.p.Zg1.Zf,a.p.Zh1.Zx,a.p.Zh1.Zy,a.p.Zh1.Zz,a.p.Zh1.Za1,a.p.Zi1,a.p.Zj1,a.p.Zk1,a.it.Za,a.it.Ref.Zb,a.it.Ref.No,a.it.Zn1,a.it.Zb1,a.it.Zc,a.it.Zo1,a.it.Zw,a.it.To,a.it.Code,a.it.Zp1,a.it.Zq1,a.it.Zr1,a.it.Zs1,a.it.Zt1,a.it.Zu1,a.ok) else (CQ ({ p:=d,it:=c,ok:=true }:AkL)).bind fun b=>some (b.p.Zg1.Ze,b.p.Zg1.Zf,b.p.Zh1.Zx,b.p.Zh1.Zy,b.p.Zh1.Zz,b.p.Zh1.Za1,b.p.Zi1,b.p.Zj1,b.p.Zk1,b.it.Za,b.it.Ref.Zb,b.it.Ref.No,b.it.Zn1,b.it.Zb1,b.it.Zc,b.it.Zo1,b.it.Zw,b.it.To,b.it.Code,b.it.Zp1,b.it.Zq1,b.it.Zr1,b.it.Zs1,b.it.Zt1,b.it.Zu1,b.ok):Option (List Akp×List Akq×List Aks×List Akt×List Aku×List Akv×List Akx×List Aky×List AkB×Int×Int×Int×Int×Int×Int×Int×Int×Int×Int×Int×Int×Int×Int×List UInt8×List AkE×Bool)).bind fun(ai,aj,ak,al,am,an,ao,ap,aq,ar,au,av,e,f,g,i,j,k,l,m,n,o,q,s,t,u)=>((if u then some (e==0) else some false:Option (Bool)).bind fun v=>(if v then some (f==0) else some false:Option (Bool)).bind fun w=>(if w then some (g==0) else some false:Option (Bool)).bind fun x=>(if x then some (i==0) else some false:Option (Bool)).bind fun y=>(if y then some (j==0) else some false:Option (Bool)).bind fun z=>(if z then some (k==0) else some false:Option (Bool)).bind fun aa=>(if aa then some (l==0) else some false:Option (Bool)).bind fun ab=>(if ab then some (m==0) else some false:Option (Bool)).bind fun ac=>(if ac then some (n==0) else some false:Option (Bool)).bind fun ad=>(if ad then some (o==0) else some false:Option (Bool)).bind fun ae=>(if ae then some (q==0) else some false:Option (Bool)).bind fun af=>some af:Option (Bool)).bind fun ag=>(if ag then if(s==([]:List UInt8))then some ((t.length:Int)==0) else some false else some false:Option (Bool)).bind fun ah=>some ah
def FK(a:AkC)(b:AkF):Option (Int) :=(BB a).bind fun c=>if(c != 0)then some c else ((FC b).bind fun d=>if(!d)then some true else (GU a b).bind fun e=>some (!e):Option (Bool)).bind fun f=>if f then some 110 else some 0
def Ek(b:UInt64)(c:List UInt8)(a:AkG):Option (Bool) :=(if(decide ((c.length:Int)>65536))then some true else if(decide (a.C≥(1152921504606845399:UInt64)))then some true else if(decide (a.S≥(1152921504606845399:UInt64)))then some true else (FE b).bind fun d=>some (!d):Option (Bool)).bind fun e=>if e then some false else (El (2305843009213690799:UInt64)).bind fun f=>(F7 (4:UInt64) a.S).bind fun g=>(F7 b ((1152921504606845399:UInt64)-a.C)).bind fun i=>(BP g i f).bind fun j=>(Do j.1 b c).bind fun k=>some (k==a.C)
def Eh(b:AkC)(a:AkH):Option (Int) :=(BB b).bind fun d=>if(d != 0)then some d else (if(decide (a.Zb<0))then some true else if(decide (a.Zb≥(b.Zk1.length:Int)))then some true else if(decide (a.No<1))then some true else if(decide (a.No>4096))then some true else if(decide (a.Zw1<0))then some true else if(decide (a.Zw1>1073741824))then some true else some (decide ((AbN a.Sig.C a.Sig.S)≥(1152921504606845399:UInt64))):Option (Bool)).bind fun f=>if f then some 1 else (FK b a.Zx1).bind fun e=>if(e != 0)then some e else (FP a).bind fun c=>if(c.2 != 0)then some c.2 else if InR a.Zb b.Zk1.length then (Ek ((nth b.Zk1 a.Zb.toNat).Key) c.1 a.Sig).bind fun g=>if(!g)then some 31 else some 0 else none
def Fh(a:Int):Option (Bool) :=some (a != a)
def Dd(a:Int)(b:Int):Option (Int) :=(Fh a).bind fun d=>(Fh b).bind fun c=>if d then if c then some 0 else some (-1) else if c then some 1 else if(decide (a<b))then some (-1) else if(decide (a>b))then some 1 else some 0
def Gc(a:List UInt8)(b:List UInt8):Option (Int):=LR a b
def E0(a:List UInt8)(b:List UInt8):Option (Int) :=(Gc a b).bind fun c=>some c
def Bh(s1_7111:List AkK)(s2_7112:List AkK)(c:AkK→AkK→Option (Int))(a:Int):Option ((Int)⊕((Unit)⊕((Unit)⊕(Int)))) :=if (decide (a<(s1_7111.length:Int)))then if InR a s1_7111.length then lt1 ((nth s1_7111 a.toNat).Za) fun(d:Int)=>lt1 ((nth s1_7111 a.toNat).N) fun(e:Int)=>lt1 ((nth s1_7111 a.toNat).B) fun(f:List UInt8)=>lt1 ((nth s1_7111 a.toNat).L) fun(g:List AkK)=>if(decide (a≥(s2_7112.length:Int)))then ((some 1).bind fun i=>some (.inr i)).bind fun j=>some (.inr (.inr j)) else if InR a s2_7112.length then lt1 ((nth s2_7112 a.toNat).Za) fun(k:Int)=>lt1 ((nth s2_7112 a.toNat).N) fun(l:Int)=>lt1 ((nth s2_7112 a.toNat).B) fun(m:List UInt8)=>lt1 ((nth s2_7112 a.toNat).L) fun(n:List AkK)=>(c (AkK.mk d e f g) (AkK.mk k l m n)).bind fun b=>if(b != 0)then ((some b).bind fun o=>some (.inr o)).bind fun p=>some (.inr (.inr p)) else some (.inl (w64 (a+1))) else none else none else some (.inr (.inl ()))
def BU(b:AkK→AkK→Option (Int))(s1_7111:List AkK)(s2_7112:List AkK)(a:AkK→AkK→Option (Int)):Option (Int) :=((A2 (fun(v:Int)=>Bh s1_7111 s2_7112 a v) 0).bind fun x=>match x with
 |.inl ()=>some (.inl ())
 |.inr z=>some z:Option ((Unit)⊕(Int))).bind fun x=>match x with
 | .inl ()=>if(decide ((s1_7111.length:Int)<(s2_7112.length:Int)))then some (-1) else some 0
 |.inr z=>some z
def DC(rec_:AkK→AkK→Option (Int))(a:AkK)(b:AkK):Option (Int) :=(Dd a.Za b.Za).bind fun c=>if(c != 0)then some c else if(a.Za==1)then (Dd a.N b.N).bind fun d=>some d else if(a.Za==2)then (E0 a.B b.B).bind fun e=>some e else if(a.Za==3)then (BU rec_ a.L b.L rec_).bind fun f=>some f else some 0
def D4(n:Nat):AkK→AkK→Option (Int):=match n with
 |0=>fun _ _=>none
 |n+1=>DC (D4 n)
def F8(a:AkK)(b:AkK):Option (Int):=D4 18446744073709551616 a b
def GS(a:AkH)(b:AkH):Option (Bool) :=(if (a.Zb==b.Zb)then if (a.No==b.No)then if(a.Zv1==b.Zv1)then if(a.Zw1==b.Zw1)then some ((a.Sig.C==b.Sig.C)&&(a.Sig.S==b.Sig.S)) else some false else some false else some false else some false:Option (Bool)).bind fun c=>(if c then (FL a.Zx1).bind fun d=>(FL b.Zx1).bind fun e=>(F8 d e).bind fun f=>some (f==0) else some false:Option (Bool)).bind fun g=>some g
def Fk(b:List AkH)(a:AkH):Option (Int) :=if(decide (a.No>(w64 ((b.length:Int)+1))))then some 140 else (if (decide (a.No>1))then if InR (w64 (a.No-2)) b.length then (D0 (nth b ((w64 (a.No-2)).toNat))).bind fun c=>(if(c.2 != 0)then some true else if InR (w64 (a.No-2)) b.length then some (decide (a.Zw1<(nth b ((w64 (a.No-2)).toNat)).Zw1)) else none:Option (Bool)).bind fun d=>if d then (some 140).bind fun e=>some (.inr e) else some (.inl c.1) else none else some (.inl (Arr.rep 32 (0:UInt8))):Option ((Arr UInt8 32)⊕(Int))).bind fun x=>match x with
  | .inl f=>if(!(f==a.Zv1))then some 140 else (if (!((a.Zx1.Ref.Zb==0)&&(a.Zx1.Ref.No==0)))then if(a.Zx1.Ref.Zb != a.Zb)then some true else if(decide (a.Zx1.Ref.No<1))then some true else if(decide (a.Zx1.Ref.No≥a.No))then some true else if InR (w64 (a.Zx1.Ref.No-1)) b.length then some (!(((((nth b ((w64 (a.Zx1.Ref.No-1)).toNat)).Zx1).Ref).Zb==0)&&((((nth b ((w64 (a.Zx1.Ref.No-1)).toNat)).Zx1).Ref).No==0))) else none else some false:Option (Bool)).bind fun g=>if g then some 110 else some 0
  |.inr z=>some z
def D5(a:List AkH):Option (List AkH) :=if Dj (0+a.length) 224 then lt1 (([]:List AkH)++a) fun(b:List AkH)=>some b else none
def E5(b:AkI)(a:AkH):Option (Bool×AkH) :=(if(b.A.Zb==a.Zb)then some (b.A.No==a.No) else some false:Option (Bool)).bind fun c=>some (c,a)
def AH(c:List AkI)(b:Int)(d:Int)(e:Int)(f:Arr UInt8 32)(g:Int)(i:Int)(j:Int)(k:Int)(l:Int)(m:Int)(n:Int)(o:Int)(p:Int)(q:Int)(s:Int)(t:Int)(u:Int)(v:Int)(w:Int)(x:List UInt8)(y:List AkE)(z:UInt64)(aa:UInt64):Option ((Int×Int×Int×Arr UInt8 32×Int×Int×Int×Int×Int×Int×Int×Int×Int×Int×Int×Int×Int×Int×Int×List UInt8×List AkE×UInt64×UInt64)⊕((Int×Int×Arr UInt8 32×Int×Int×Int×Int×Int×Int×Int×Int×Int×Int×Int×Int×Int×Int×Int×List UInt8×List AkE×UInt64×UInt64)⊕((Int×Int×Arr UInt8 32×Int×Int×Int×Int×Int×Int×Int×Int×Int×Int×Int×Int×Int×Int×Int×List UInt8×List AkE×UInt64×UInt64)⊕(Int×AkH)))) :=if (decide (b<(c.length:Int)))then if InR b c.length then (E5 ({ A:=(nth c b.toNat).A,B:=(nth c b.toNat).B }:AkI) ({ Zb:=d,No:=e,Zv1:=f,Zw1:=g,Zx1:=({ Za:=i,Ref:=({ Zb:=j,No:=k }:AkD),Zn1:=l,Zb1:=m,Zc:=n,Zo1:=o,Zw:=p,To:=q,Code:=s,Zp1:=t,Zq1:=u,Zr1:=v,Zs1:=w,Zt1:=x,Zu1:=y }:AkF),Sig:=({ C:=z,S:=aa }:AkG) }:AkH)).bind fun a=>if a.1=true then ((some (b,a.2)).bind fun ab=>some (.inr ab)).bind fun ac=>some (.inr (.inr ac)) else some (.inl ((w64 (b+1)),a.2.Zb,a.2.No,a.2.Zv1,a.2.Zw1,a.2.Zx1.Za,a.2.Zx1.Ref.Zb,a.2.Zx1.Ref.No,a.2.Zx1.Zn1,a.2.Zx1.Zb1,a.2.Zx1.Zc,a.2.Zx1.Zo1,a.2.Zx1.Zw,a.2.Zx1.To,a.2.Zx1.Code,a.2.Zx1.Zp1,a.2.Zx1.Zq1,a.2.Zx1.Zr1,a.2.Zx1.Zs1,a.2.Zx1.Zt1,a.2.Zx1.Zu1,a.2.Sig.C,a.2.Sig.S)) else none else some (.inr (.inl (d,e,f,g,i,j,k,l,m,n,o,p,q,s,t,u,v,w,x,y,z,aa)))
def BG(b:List AkI)(a:AkH):Option (Int×AkH) :=((A2 (fun(v:Int×Int×Int×Arr UInt8 32×Int×Int×Int×Int×Int×Int×Int×Int×Int×Int×Int×Int×Int×Int×Int×List UInt8×List AkE×UInt64×UInt64)=>AH b v.1 v.2.1 v.2.2.1 v.2.2.2.1 v.2.2.2.2.1 v.2.2.2.2.2.1 v.2.2.2.2.2.2.1 v.2.2.2.2.2.2.2.1 v.2.2.2.2.2.2.2.2.1 v.2.2.2.2.2.2.2.2.2.1 v.2.2.2.2.2.2.2.2.2.2.1 v.2.2.2.2.2.2.2.2.2.2.2.1 v.2.2.2.2.2.2.2.2.2.2.2.2.1 v.2.2.2.2.2.2.2.2.2.2.2.2.2.1 v.2.2.2.2.2.2.2.2.2.2.2.2.2.2.1 v.2.2.2.2.2.2.2.2.2.2.2.2.2.2.2.1 v.2.2.2.2.2.2.2.2.2.2.2.2.2.2.2.2.1 v.2.2.2.2.2.2.2.2.2.2.2.2.2.2.2.2.2.1 v.2.2.2.2.2.2.2.2.2.2.2.2.2.2.2.2.2.2.1 v.2.2.2.2.2.2.2.2.2.2.2.2.2.2.2.2.2.2.2.1 v.2.2.2.2.2.2.2.2.2.2.2.2.2.2.2.2.2.2.2.2.1 v.2.2.2.2.2.2.2.2.2.2.2.2.2.2.2.2.2.2.2.2.2.1 v.2.2.2.2.2.2.2.2.2.2.2.2.2.2.2.2.2.2.2.2.2.2) (0,a.Zb,a.No,a.Zv1,a.Zw1,a.Zx1.Za,a.Zx1.Ref.Zb,a.Zx1.Ref.No,a.Zx1.Zn1,a.Zx1.Zb1,a.Zx1.Zc,a.Zx1.Zo1,a.Zx1.Zw,a.Zx1.To,a.Zx1.Code,a.Zx1.Zp1,a.Zx1.Zq1,a.Zx1.Zr1,a.Zx1.Zs1,a.Zx1.Zt1,a.Zx1.Zu1,a.Sig.C,a.Sig.S)).bind fun x=>match x with
 |.inl (c,d,e,f,g,i,j,k,l,m,n,o,p,q,s,t,u,w,y,aa,ab,ac)=>some (.inl (c,d,e,f,g,i,j,k,l,m,n,o,p,q,s,t,u,w,y,aa,ab,ac))
 |.inr z=>some z:Option ((Int×Int×Arr UInt8 32×Int×Int×Int×Int×Int×Int×Int×Int×Int×Int×Int×Int×Int×Int×Int×List UInt8×List AkE×UInt64×UInt64)⊕(Int×AkH))).bind fun x=>match x with
 |.inl (ad,ae,af,ag,ah,ai,aj,ak,al,am,an,ao,ap,aq,ar,au,av,aw,ax,ay,az,aA)=>some ((-1),({ Zb:=ad,No:=ae,Zv1:=af,Zw1:=ag,Zx1:=({ Za:=ah,Ref:=({ Zb:=ai,No:=aj }:AkD),Zn1:=ak,Zb1:=al,Zc:=am,Zo1:=an,Zw:=ao,To:=ap,Code:=aq,Zp1:=ar,Zq1:=au,Zr1:=av,Zs1:=aw,Zt1:=ax,Zu1:=ay }:AkF),Sig:=({ C:=az,S:=aA }:AkG) }:AkH))
 |.inr z=>some z
def AY(b:List AkI)(c:AkH):Option (Bool×AkH) :=(BG b c).bind fun a=>some ((decide (a.1≥0)),a.2)
def DI(a:List AkI):Option (List AkI) :=if Dj (0+a.length) 448 then lt1 (([]:List AkI)++a) fun(b:List AkI)=>some b else none
def AA(d:AkC)(a:AkJ)(b:AkH):Option (AkJ×Int) :=(Eh d b).bind fun f=>if(f != 0)then some (({ Zy1:=[],Zz1:=[] }:AkJ),f) else (FI a b.Zb).bind fun c=>(if(decide (b.No≤(c.length:Int)))then if InR (w64 (b.No-1)) c.length then (GS (nth c ((w64 (b.No-1)).toNat)) b).bind fun m=>some m else none else some false:Option (Bool)).bind fun n=>if n then some (a,0) else (Fk c b).bind fun g=>if(g != 0)then some (({ Zy1:=[],Zz1:=[] }:AkJ),g) else if (b.No==(w64 ((c.length:Int)+1)))then if Mk (Lv (a.Zy1.length:Int) (d.Zk1.length:Int)) (Lv (a.Zy1.length:Int) (d.Zk1.length:Int)) 24 then lt1 (List.replicate ((Lv (a.Zy1.length:Int) (d.Zk1.length:Int)).toNat) ([])) fun(i:List (List AkH))=>lt1 (ovl i (a.Zy1.take (min a.Zy1.length i.length)) 0) fun(j:List (List AkH))=>(D5 c).bind fun k=>if Dj (k.length+1) 224 then if InR b.Zb j.length then lt1 (j.set b.Zb.toNat (k++([b]:List AkH))) fun(o:List (List AkH))=>some (({ Zy1:=o,Zz1:=a.Zz1 }:AkJ),0) else none else none else none else ((AY a.Zz1 b).bind fun e=>if (!e.1)then (DI a.Zz1).bind fun l=>if InR (w64 (e.2.No-1)) c.length then if Dj (l.length+1) 448 then lt1 (l++([({ A:=nth c ((w64 (e.2.No-1)).toNat),B:=e.2 }:AkI)]:List AkI)) fun(p:List AkI)=>some p else none else none else some a.Zz1:Option (List AkI)).bind fun q=>some (({ Zy1:=a.Zy1,Zz1:=q }:AkJ),0)
def Bc(c : AkC)(m:AkJ)(a:Int)(n:UInt64)(e:Int)(f:AkF):Option (AkH×Int) :=(BB c).bind fun o=>if(o != 0)then some (({ Zb:=0,No:=0,Zv1:=(Arr.rep 32 (0:UInt8)),Zw1:=0,Zx1:=({ Za:=0,Ref:=({ Zb:=0,No:=0 }:AkD),Zn1:=0,Zb1:=0,Zc:=0,Zo1:=0,Zw:=0,To:=0,Code:=0,Zp1:=0,Zq1:=0,Zr1:=0,Zs1:=0,Zt1:=([]:List UInt8),Zu1:=[] }:AkF),Sig:=({ C:=(0:UInt64),S:=(0:UInt64) }:AkG) }:AkH),o) else (if(decide (a<0))then some true else some (decide (a≥(c.Zk1.length:Int))):Option (Bool)).bind fun q=>if q then some (({ Zb:=0,No:=0,Zv1:=(Arr.rep 32 (0:UInt8)),Zw1:=0,Zx1:=({ Za:=0,Ref:=({ Zb:=0,No:=0 }:AkD),Zn1:=0,Zb1:=0,Zc:=0,Zo1:=0,Zw:=0,To:=0,Code:=0,Zp1:=0,Zq1:=0,Zr1:=0,Zs1:=0,Zt1:=([]:List UInt8),Zu1:=[] }:AkF),Sig:=({ C:=(0:UInt64),S:=(0:UInt64) }:AkG) }:AkH),1) else (EY n).bind fun g=>if(g.2 != 0)then some (({ Zb:=0,No:=0,Zv1:=(Arr.rep 32 (0:UInt8)),Zw1:=0,Zx1:=({ Za:=0,Ref:=({ Zb:=0,No:=0 }:AkD),Zn1:=0,Zb1:=0,Zc:=0,Zo1:=0,Zw:=0,To:=0,Code:=0,Zp1:=0,Zq1:=0,Zr1:=0,Zs1:=0,Zt1:=([]:List UInt8),Zu1:=[] }:AkF),Sig:=({ C:=(0:UInt64),S:=(0:UInt64) }:AkG) }:AkH),g.2) else if InR a c.Zk1.length then if(g.1 != (nth c.Zk1 a.toNat).Key)then some (({ Zb:=0,No:=0,Zv1:=(Arr.rep 32 (0:UInt8)),Zw1:=0,Zx1:=({ Za:=0,Ref:=({ Zb:=0,No:=0 }:AkD),Zn1:=0,Zb1:=0,Zc:=0,Zo1:=0,Zw:=0,To:=0,Code:=0,Zp1:=0,Zq1:=0,Zr1:=0,Zs1:=0,Zt1:=([]:List UInt8),Zu1:=[] }:AkF),Sig:=({ C:=(0:UInt64),S:=(0:UInt64) }:AkG) }:AkH),30) else (FI m a).bind fun b=>lt1 (w64 ((b.length:Int)+1)) fun(i:Int)=>(if(decide ((b.length:Int)>0))then if InR (w64 ((b.length:Int)-1)) b.length then (D0 (nth b ((w64 ((b.length:Int)-1)).toNat))).bind fun j=>if(j.2 != 0)then (some (({ Zb:=0,No:=0,Zv1:=(Arr.rep 32 (0:UInt8)),Zw1:=0,Zx1:=({ Za:=0,Ref:=({ Zb:=0,No:=0 }:AkD),Zn1:=0,Zb1:=0,Zc:=0,Zo1:=0,Zw:=0,To:=0,Code:=0,Zp1:=0,Zq1:=0,Zr1:=0,Zs1:=0,Zt1:=([]:List UInt8),Zu1:=[] }:AkF),Sig:=({ C:=(0:UInt64),S:=(0:UInt64) }:AkG) }:AkH),j.2)).bind fun s=>some (.inr s) else some (.inl j.1) else none else some (.inl (Arr.rep 32 (0:UInt8))):Option ((Arr UInt8 32)⊕(AkH×Int))).bind fun x=>match x with
      | .inl k=>(FP ({ Zb:=a,No:=i,Zv1:=k,Zw1:=e,Zx1:=f,Sig:=({ C:=(0:UInt64),S:=(0:UInt64) }:AkG) }:AkH)).bind fun l=>if(l.2 != 0)then some (({ Zb:=0,No:=0,Zv1:=(Arr.rep 32 (0:UInt8)),Zw1:=0,Zx1:=({ Za:=0,Ref:=({ Zb:=0,No:=0 }:AkD),Zn1:=0,Zb1:=0,Zc:=0,Zo1:=0,Zw:=0,To:=0,Code:=0,Zp1:=0,Zq1:=0,Zr1:=0,Zs1:=0,Zt1:=([]:List UInt8),Zu1:=[] }:AkF),Sig:=({ C:=(0:UInt64),S:=(0:UInt64) }:AkG) }:AkH),l.2) else (Ga n l.1).bind fun d=>if(d.2 != 0)then some (({ Zb:=0,No:=0,Zv1:=(Arr.rep 32 (0:UInt8)),Zw1:=0,Zx1:=({ Za:=0,Ref:=({ Zb:=0,No:=0 }:AkD),Zn1:=0,Zb1:=0,Zc:=0,Zo1:=0,Zw:=0,To:=0,Code:=0,Zp1:=0,Zq1:=0,Zr1:=0,Zs1:=0,Zt1:=([]:List UInt8),Zu1:=[] }:AkF),Sig:=({ C:=(0:UInt64),S:=(0:UInt64) }:AkG) }:AkH),d.2) else (AA c m ({ Zb:=a,No:=i,Zv1:=k,Zw1:=e,Zx1:=f,Sig:=d.1 }:AkH)).bind fun p=>if(p.2 != 0)then some (({ Zb:=0,No:=0,Zv1:=(Arr.rep 32 (0:UInt8)),Zw1:=0,Zx1:=({ Za:=0,Ref:=({ Zb:=0,No:=0 }:AkD),Zn1:=0,Zb1:=0,Zc:=0,Zo1:=0,Zw:=0,To:=0,Code:=0,Zp1:=0,Zq1:=0,Zr1:=0,Zs1:=0,Zt1:=([]:List UInt8),Zu1:=[] }:AkF),Sig:=({ C:=(0:UInt64),S:=(0:UInt64) }:AkG) }:AkH),p.2) else some (({ Zb:=a,No:=i,Zv1:=k,Zw1:=e,Zx1:=f,Sig:=d.1 }:AkH),0)
      |.inr z=>some z else none
def HG(a : AkF)(b:UInt8):Option (Int) :=if(b==(119:UInt8))then some a.Zn1 else if(b==(112:UInt8))then some a.Zb1 else if(b==(111:UInt8))then some a.Zc else if(b==(110:UInt8))then some a.Zo1 else if(b==(102:UInt8))then some a.Zw else if(b==(116:UInt8))then some a.To else if(b==(99:UInt8))then some a.Code else if(b==(100:UInt8))then some a.Zp1 else if(b==(107:UInt8))then some a.Zq1 else if(b==(103:UInt8))then some a.Zr1 else some a.Zs1
def CA(b:List AkE)(c:List AkE)(a:Int):Option ((Int)⊕((Unit)⊕((Unit)⊕(Bool)))) :=if (decide (a<(b.length:Int)))then if InR a b.length then if InR a c.length then lt1 (!(((nth b a.toNat).Za==(nth c a.toNat).Za)&&(((nth b a.toNat).Zl1==(nth c a.toNat).Zl1)&&((nth b a.toNat).Zm1==(nth c a.toNat).Zm1)))) fun(d:Bool)=>if d then ((some false).bind fun e=>some (.inr e)).bind fun f=>some (.inr (.inr f)) else some (.inl (w64 (a+1))) else none else none else some (.inr (.inl ()))
def Ex(a:List AkE)(b:List AkE):Option (Bool) :=if((a.length:Int) != (b.length:Int))then some false else ((A2 (fun(v:Int)=>CA a b v) 0).bind fun x=>match x with
  |.inl ()=>some (.inl ())
  |.inr z=>some z:Option ((Unit)⊕(Bool))).bind fun x=>match x with
  |.inl ()=>some true
  |.inr z=>some z
def EP(b:AkF)(c:AkF)(a:Int):Option ((Int)⊕((Unit)⊕((Unit)⊕(Bool)))) :=if (decide (a<11))then if InR a (([119,112,111,110,102,116,99,100,107,103,97]:List UInt8).length)then (HG b (nth ([119,112,111,110,102,116,99,100,107,103,97]:List UInt8) a.toNat)).bind fun d=>if InR a (([119,112,111,110,102,116,99,100,107,103,97]:List UInt8).length)then (HG c (nth ([119,112,111,110,102,116,99,100,107,103,97]:List UInt8) a.toNat)).bind fun e=>if(d != e)then ((some false).bind fun f=>some (.inr f)).bind fun g=>some (.inr (.inr g)) else some (.inl (w64 (a+1))) else none else none else some (.inr (.inl ()))
def J1(a:AkF)(b:AkF):Option (Bool) :=((A2 (fun(v:Int)=>EP a b v) 0).bind fun x=>match x with
 |.inl ()=>some (.inl ())
 |.inr z=>some z:Option ((Unit)⊕(Bool))).bind fun x=>match x with
 | .inl ()=>(if(a.Za==b.Za)then if((a.Ref.Zb==b.Ref.Zb)&&(a.Ref.No==b.Ref.No))then if(a.Zt1==b.Zt1)then (Ex a.Zu1 b.Zu1).bind fun c=>some c else some false else some false else some false:Option (Bool)).bind fun d=>some d
 |.inr z=>some z
def Cv(a:AkH)(b:AkH):Option (Bool) :=(if (a.Zb==b.Zb)then if (a.No==b.No)then if (a.Zv1==b.Zv1)then if(a.Zw1==b.Zw1)then if((a.Sig.C==b.Sig.C)&&(a.Sig.S==b.Sig.S))then (J1 a.Zx1 b.Zx1).bind fun c=>some c else some false else some false else some false else some false else some false:Option (Bool)).bind fun d=>some d
def Dg(b:List AkH)(c:List AkH)(a:Int):Option ((Int)⊕((Unit)⊕((Unit)⊕(Bool)))) :=if (decide (a<(b.length:Int)))then if InR a b.length then if InR a c.length then (Cv (nth b a.toNat) (nth c a.toNat)).bind fun d=>if(!d)then ((some false).bind fun e=>some (.inr e)).bind fun f=>some (.inr (.inr f)) else some (.inl (w64 (a+1))) else none else none else some (.inr (.inl ()))
def EN(a:List AkH)(b:List AkH):Option (Bool) :=if((a.length:Int) != (b.length:Int))then some false else ((A2 (fun(v:Int)=>Dg a b v) 0).bind fun x=>match x with
  |.inl ()=>some (.inl ())
  |.inr z=>some z:Option ((Unit)⊕(Bool))).bind fun x=>match x with
  |.inl ()=>some true
  |.inr z=>some z
def IF(b:AkJ)(c:AkJ)(a:Int):Option ((Int)⊕((Unit)⊕((Unit)⊕(Bool)))) :=if (decide (a<(b.Zy1.length:Int)))then if InR a b.Zy1.length then if InR a c.Zy1.length then (EN (nth b.Zy1 a.toNat) (nth c.Zy1 a.toNat)).bind fun d=>if(!d)then ((some false).bind fun e=>some (.inr e)).bind fun f=>some (.inr (.inr f)) else some (.inl (w64 (a+1))) else none else none else some (.inr (.inl ()))
def IL(b:AkJ)(c:AkJ)(a:Int):Option ((Int)⊕((Unit)⊕((Unit)⊕(Bool)))) :=if (decide (a<(b.Zz1.length:Int)))then (if InR a b.Zz1.length then if InR a c.Zz1.length then (Cv ((nth b.Zz1 a.toNat).A) ((nth c.Zz1 a.toNat).A)).bind fun d=>if(!d)then some true else if InR a b.Zz1.length then if InR a c.Zz1.length then (Cv ((nth b.Zz1 a.toNat).B) ((nth c.Zz1 a.toNat).B)).bind fun e=>some (!e) else none else none else none else none:Option (Bool)).bind fun f=>if f then ((some false).bind fun g=>some (.inr g)).bind fun i=>some (.inr (.inr i)) else some (.inl (w64 (a+1))) else some (.inr (.inl ()))
def JH(a:AkJ)(b:AkJ):Option (Bool) :=(if((a.Zy1.length:Int) != (b.Zy1.length:Int))then some true else some ((a.Zz1.length:Int) != (b.Zz1.length:Int)):Option (Bool)).bind fun c=>if c then some false else ((A2 (fun(v:Int)=>IF a b v) 0).bind fun x=>match x with
  |.inl ()=>some (.inl ())
  |.inr z=>some z:Option ((Unit)⊕(Bool))).bind fun x=>match x with
  | .inl ()=>((A2 (fun(v:Int)=>IL a b v) 0).bind fun x=>match x with
   |.inl ()=>some (.inl ())
   |.inr z=>some z:Option ((Unit)⊕(Bool))).bind fun x=>match x with
   |.inl ()=>some true
   |.inr z=>some z
  |.inr z=>some z
def Dh(b:AkJ)(e:Int)(c:Int)(a:Int):Option ((Int×Int)⊕(Int)) :=if (decide (a<(b.Zz1.length:Int)))then (if InR a b.Zz1.length then lt1 (((nth b.Zz1 a.toNat).A).Zb) fun(f:Int)=>lt1 (((nth b.Zz1 a.toNat).A).No) fun(d:Int)=>lt1 (((nth b.Zz1 a.toNat).A).Zv1) fun(j:Arr UInt8 32)=>lt1 (((nth b.Zz1 a.toNat).A).Zw1) fun(k:Int)=>lt1 ((((nth b.Zz1 a.toNat).A).Zx1).Za) fun(l:Int)=>lt1 (((((nth b.Zz1 a.toNat).A).Zx1).Ref).Zb) fun(m:Int)=>lt1 (((((nth b.Zz1 a.toNat).A).Zx1).Ref).No) fun(n:Int)=>lt1 ((((nth b.Zz1 a.toNat).A).Zx1).Zn1) fun(o:Int)=>lt1 ((((nth b.Zz1 a.toNat).A).Zx1).Zb1) fun(p:Int)=>lt1 ((((nth b.Zz1 a.toNat).A).Zx1).Zc) fun(q:Int)=>lt1 ((((nth b.Zz1 a.toNat).A).Zx1).Zo1) fun(s:Int)=>lt1 ((((nth b.Zz1 a.toNat).A).Zx1).Zw) fun(t:Int)=>lt1 ((((nth b.Zz1 a.toNat).A).Zx1).To) fun(u:Int)=>lt1 ((((nth b.Zz1 a.toNat).A).Zx1).Code) fun(v:Int)=>lt1 ((((nth b.Zz1 a.toNat).A).Zx1).Zp1) fun(w:Int)=>lt1 ((((nth b.Zz1 a.toNat).A).Zx1).Zq1) fun(x:Int)=>lt1 ((((nth b.Zz1 a.toNat).A).Zx1).Zr1) fun(y:Int)=>lt1 ((((nth b.Zz1 a.toNat).A).Zx1).Zs1) fun(z:Int)=>lt1 ((((nth b.Zz1 a.toNat).A).Zx1).Zt1) fun(aa:List UInt8)=>lt1 ((((nth b.Zz1 a.toNat).A).Zx1).Zu1) fun(ab:List AkE)=>lt1 ((((nth b.Zz1 a.toNat).A).Sig).C) fun(ac:UInt64)=>lt1 ((((nth b.Zz1 a.toNat).A).Sig).S) fun(ad:UInt64)=>lt1 (((nth b.Zz1 a.toNat).B).Zb) fun(ae:Int)=>lt1 (((nth b.Zz1 a.toNat).B).No) fun(af:Int)=>lt1 (((nth b.Zz1 a.toNat).B).Zv1) fun(ag:Arr UInt8 32)=>lt1 (((nth b.Zz1 a.toNat).B).Zw1) fun(ah:Int)=>lt1 ((((nth b.Zz1 a.toNat).B).Zx1).Za) fun(ai:Int)=>lt1 (((((nth b.Zz1 a.toNat).B).Zx1).Ref).Zb) fun(aj:Int)=>lt1 (((((nth b.Zz1 a.toNat).B).Zx1).Ref).No) fun(ak:Int)=>lt1 ((((nth b.Zz1 a.toNat).B).Zx1).Zn1) fun(al:Int)=>lt1 ((((nth b.Zz1 a.toNat).B).Zx1).Zb1) fun(am:Int)=>lt1 ((((nth b.Zz1 a.toNat).B).Zx1).Zc) fun(an:Int)=>lt1 ((((nth b.Zz1 a.toNat).B).Zx1).Zo1) fun(ao:Int)=>lt1 ((((nth b.Zz1 a.toNat).B).Zx1).Zw) fun(ap:Int)=>lt1 ((((nth b.Zz1 a.toNat).B).Zx1).To) fun(aq:Int)=>lt1 ((((nth b.Zz1 a.toNat).B).Zx1).Code) fun(ar:Int)=>lt1 ((((nth b.Zz1 a.toNat).B).Zx1).Zp1) fun(au:Int)=>lt1 ((((nth b.Zz1 a.toNat).B).Zx1).Zq1) fun(av:Int)=>lt1 ((((nth b.Zz1 a.toNat).B).Zx1).Zr1) fun(aw:Int)=>lt1 ((((nth b.Zz1 a.toNat).B).Zx1).Zs1) fun(ax:Int)=>lt1 ((((nth b.Zz1 a.toNat).B).Zx1).Zt1) fun(ay:List UInt8)=>lt1 ((((nth b.Zz1 a.toNat).B).Zx1).Zu1) fun(az:List AkE)=>lt1 ((((nth b.Zz1 a.toNat).B).Sig).C) fun(aA:UInt64)=>lt1 ((((nth b.Zz1 a.toNat).B).Sig).S) fun(aB:UInt64)=>(if(f==e)then if(decide (d≥1))then if(c==0)then some true else some (decide (d<c)) else some false else some false:Option (Bool)).bind fun g=>if g then some d else some c else none:Option (Int)).bind fun i=>some (.inl (i,(w64 (a+1)))) else some (.inr c)
def BM(a:AkJ)(b:Int):Option (Int) :=((A2 (fun(v:Int×Int)=>Dh a b v.1 v.2) (0,0)).bind fun c=>some c:Option (Int)).bind fun d=>some d
def C2(c:AkJ)(a:Int)(d:List (List AkH)):Option ((Int×List (List AkH))⊕(List (List AkH))) :=if (decide (a<(c.Zy1.length:Int)))then if InR a c.Zy1.length then lt1 (nth c.Zy1 a.toNat) fun(b:List AkH)=>((BM c a).bind fun e=>if(decide (e>0))then if InB (NM (w64 (e-1)) (b.length:Int)) b.length then lt1 (b.take ((NM (w64 (e-1)) (b.length:Int)).toNat)) fun(f:List AkH)=>some f else none else some b:Option (List AkH)).bind fun g=>if Dj (d.length+1) 24 then lt1 (d++([g]:List (List AkH))) fun(i:List (List AkH))=>some (.inl ((w64 (a+1)),i)) else none else none else some (.inr d)
def BE(a:AkJ):Option (AkJ) :=((A2 (fun(v:Int×List (List AkH))=>C2 a v.1 v.2) (0,[])).bind fun b=>some b:Option (List (List AkH))).bind fun c=>some ({ Zy1:=c,Zz1:=[] }:AkJ)
def Lw(a:AkJ):Option (AkJ) :=some a
def Gf(b:List ((Int×Int)×AkM))(c:Int)(d:Int)(a:AkH):Option (List ((Int×Int)×AkM)) :=(if(!((a.Zx1.Ref.Zb==0)&&(a.Zx1.Ref.No==0)))then some (a.Zx1.Ref.Zb==c) else some false:Option (Bool)).bind fun e=>if e then if Qe a.Zx1.Ref.Zb a.Zx1.Ref.No then lt1 (AfK b (a.Zx1.Ref.Zb,a.Zx1.Ref.No) ({ Ref:=a.Zx1.Ref,By:=({ Zb:=c,No:=d }:AkD),Zw1:=a.Zw1,Zx1:=a.Zx1 }:AkM)) fun(f:List ((Int×Int)×AkM))=>some f else none else some b
def FW(c:List ((Int×Int)×AkM))(e:List AkM)(a:Int)(b:Int)(d:AkH):Option (List AkM) :=lt1 (!((d.Zx1.Ref.Zb==0)&&(d.Zx1.Ref.No==0))) fun(g:Bool)=>if g then some e else if Qe a b then lt1 ((F6 c (a,b)).isSome) fun(i:Bool)=>lt1 ((((F6 c (a,b)).getD CI).Ref).Zb) fun(j:Int)=>lt1 ((((F6 c (a,b)).getD CI).Ref).No) fun(k:Int)=>lt1 ((((F6 c (a,b)).getD CI).By).Zb) fun(l:Int)=>lt1 ((((F6 c (a,b)).getD CI).By).No) fun(m:Int)=>lt1 (((F6 c (a,b)).getD CI).Zw1) fun(n:Int)=>lt1 ((((F6 c (a,b)).getD CI).Zx1).Za) fun(f:Int)=>lt1 (((((F6 c (a,b)).getD CI).Zx1).Ref).Zb) fun(o:Int)=>lt1 (((((F6 c (a,b)).getD CI).Zx1).Ref).No) fun(p:Int)=>lt1 ((((F6 c (a,b)).getD CI).Zx1).Zn1) fun(q:Int)=>lt1 ((((F6 c (a,b)).getD CI).Zx1).Zb1) fun(s:Int)=>lt1 ((((F6 c (a,b)).getD CI).Zx1).Zc) fun(t:Int)=>lt1 ((((F6 c (a,b)).getD CI).Zx1).Zo1) fun(u:Int)=>lt1 ((((F6 c (a,b)).getD CI).Zx1).Zw) fun(v:Int)=>lt1 ((((F6 c (a,b)).getD CI).Zx1).To) fun(w:Int)=>lt1 ((((F6 c (a,b)).getD CI).Zx1).Code) fun(y:Int)=>lt1 ((((F6 c (a,b)).getD CI).Zx1).Zp1) fun(aa:Int)=>lt1 ((((F6 c (a,b)).getD CI).Zx1).Zq1) fun(ab:Int)=>lt1 ((((F6 c (a,b)).getD CI).Zx1).Zr1) fun(ac:Int)=>lt1 ((((F6 c (a,b)).getD CI).Zx1).Zs1) fun(ad:Int)=>lt1 ((((F6 c (a,b)).getD CI).Zx1).Zt1) fun(ae:List UInt8)=>lt1 ((((F6 c (a,b)).getD CI).Zx1).Zu1) fun(af:List AkE)=>(if(!i)then some (.inl (a,b,a,b,d.Zw1,d.Zx1.Za,d.Zx1.Ref.Zb,d.Zx1.Ref.No,d.Zx1.Zn1,d.Zx1.Zb1,d.Zx1.Zc,d.Zx1.Zo1,d.Zx1.Zw,d.Zx1.To,d.Zx1.Code,d.Zx1.Zp1,d.Zx1.Zq1,d.Zx1.Zr1,d.Zx1.Zs1,d.Zx1.Zt1,d.Zx1.Zu1)) else if(f==14)then (some e).bind fun ag=>some (.inr ag) else some (.inl (j,k,l,m,n,f,o,p,q,s,t,u,v,w,y,aa,ab,ac,ad,ae,af)):Option ((Int×Int×Int×Int×Int×Int×Int×Int×Int×Int×Int×Int×Int×Int×Int×Int×Int×Int×Int×List UInt8×List AkE)⊕(List AkM))).bind fun x=>match x with
   | .inl (ah,ai,aj,ak,al,am,aD,aE,an,ao,ap,aq,ar,au,av,aw,ax,ay,az,aA,aB)=>if Dj (e.length+1) 192 then lt1 (e++([({ Ref:=({ Zb:=ah,No:=ai }:AkD),By:=({ Zb:=aj,No:=ak }:AkD),Zw1:=al,Zx1:=({ Za:=am,Ref:=({ Zb:=0,No:=0 }:AkD),Zn1:=an,Zb1:=ao,Zc:=ap,Zo1:=aq,Zw:=ar,To:=au,Code:=av,Zp1:=aw,Zq1:=ax,Zr1:=ay,Zs1:=az,Zt1:=aA,Zu1:=aB }:AkF) }:AkM)]:List AkM)) fun(aC:List AkM)=>some aC else none
   |.inr z=>some z else none
def B2(b:AkJ):Option (List AkM) :=(BE b).bind fun a=>(Lw a).bind fun c=>(Agd (fun(v:List ((Int×Int)×AkM)) (q:AkD) (r:AkH)=>Gf v q.Zb q.No r) c.Zy1 ([])).bind fun d=>(Lw a).bind fun e=>(Agd (fun(v:List AkM) (q:AkD) (r:AkH)=>FW d v q.Zb q.No r) e.Zy1 ([])).bind fun f=>some f
def law14_sane  : Option (Bool) :=r14_Example.bind fun b=>(Cu 1).bind fun j=>(Bc b ({ Zy1:=[],Zz1:=[] }:AkJ) 0 (7:UInt64) 5 j).bind fun c=>(AA b ({ Zy1:=[],Zz1:=[] }:AkJ) c.1).bind fun a=>(AA b a.1 c.1).bind fun e=>(Cu 1).bind fun k=>(Bc b a.1 0 (7:UInt64) 4 k).bind fun l=>(Cu 2).bind fun m=>(Bc b ({ Zy1:=[],Zz1:=[] }:AkJ) 0 (7:UInt64) 5 m).bind fun f=>(AA b a.1 f.1).bind fun d=>(Cu 1).bind fun n=>(Bc b ({ Zy1:=[],Zz1:=[] }:AkJ) 0 (8:UInt64) 5 n).bind fun o=>(Bc b a.1 0 (7:UInt64) 6 ({ Za:=14,Ref:=({ Zb:=0,No:=1 }:AkD),Zn1:=0,Zb1:=0,Zc:=0,Zo1:=0,Zw:=0,To:=0,Code:=0,Zp1:=0,Zq1:=0,Zr1:=0,Zs1:=0,Zt1:=([]:List UInt8),Zu1:=[] }:AkF)).bind fun g=>(AA b a.1 g.1).bind fun i=>(Bc b ({ Zy1:=[],Zz1:=[] }:AkJ) 0 (7:UInt64) 5 ({ Za:=14,Ref:=({ Zb:=0,No:=1 }:AkD),Zn1:=0,Zb1:=0,Zc:=0,Zo1:=0,Zw:=0,To:=0,Code:=0,Zp1:=0,Zq1:=0,Zr1:=0,Zs1:=0,Zt1:=([]:List UInt8),Zu1:=[] }:AkF)).bind fun p=>(if (c.2 == 0)then if (c.1.No==1)then if (c.1.Zv1==(⟨[(0:UInt8),0,0,0,0,0,0,0,0,0,0,0,0,0,0,0,0,0,0,0,0,0,0,0,0,0,0,0,0,0,0,0],rfl⟩:Arr UInt8 32))then if (a.2==0)then if ((a.1.Zy1.length:Int)==2)then if InR 0 a.1.Zy1.length then if (((nth a.1.Zy1 0).length:Int)==1)then if(e.2==0)then (JH e.1 a.1).bind fun q=>if q then some (l.2==140) else some false else some false else some false else none else some false else some false else some false else some false else some false:Option (Bool)).bind fun s=>(if (f.2==0)then if (d.2==0)then if ((d.1.Zz1.length:Int)==1)then (BM d.1 0).bind fun t=>if (t==1)then (BM a.1 0).bind fun u=>if(u==0)then (B2 d.1).bind fun v=>if((v.length:Int)==0)then (B2 a.1).bind fun w=>some ((w.length:Int)==1) else some false else some false else some false else some false else some false else some false:Option (Bool)).bind fun x=>(if s = true then if x = true then if (o.2==30)then if (g.2==0)then if(i.2==0)then (B2 i.1).bind fun y=>if((y.length:Int)==0)then some (p.2==110) else some false else some false else some false else some false else some false else some false:Option (Bool)).bind fun z=>some z
def Fp(b:AkC)(a:Int):Option ((Int)⊕((Unit)⊕((Unit)⊕(Bool)))) :=(if(decide (a<(b.Zk1.length:Int)))then some (decide (a<5)) else some false:Option (Bool)).bind fun c=>if c then if InR a b.Zk1.length then lt1 (decide (((((nth b.Zk1 a.toNat).Zf1).Ze1).length:Int)>5)) fun(d:Bool)=>if d then ((some false).bind fun e=>some (.inr e)).bind fun f=>some (.inr (.inr f)) else some (.inl (w64 (a+1))) else none else some (.inr (.inl ()))
def GX(a:AkC):Option (Bool) :=((A2 (fun(v:Int)=>Fp a v) 0).bind fun x=>match x with
 |.inl ()=>some (.inl ())
 |.inr z=>some z:Option ((Unit)⊕(Bool))).bind fun x=>match x with
 | .inl ()=>(if(decide ((a.Zg1.Ze.length:Int)≤20))then some (decide ((a.Zg1.Zf.length:Int)≤20)) else some false:Option (Bool)).bind fun b=>(if(decide ((a.Zh1.Zy.length:Int)≤20))then if(decide ((a.Zh1.Zx.length:Int)≤20))then if(decide ((a.Zh1.Zz.length:Int)≤20))then some (decide ((a.Zh1.Za1.length:Int)≤20)) else some false else some false else some false:Option (Bool)).bind fun c=>(if b then if c then if(decide ((a.Zi1.length:Int)≤20))then if(decide ((a.Zj1.length:Int)≤20))then some (decide ((a.Zk1.length:Int)≤4)) else some false else some false else some false else some false:Option (Bool)).bind fun d=>some d
 |.inr z=>some z
def C3(a:AkF):Option (Bool) :=(if(decide ((a.Zt1.length:Int)≤1000))then some (decide ((a.Zu1.length:Int)≤20)) else some false:Option (Bool)).bind fun b=>some b
def CK(a:AkJ)(b:Int)(c:Int):Option ((Int)⊕((Unit)⊕((Unit)⊕((Int)⊕((Unit)⊕((Unit)⊕(Bool))))))) :=if InR b a.Zy1.length then lt1 (decide (c<((nth a.Zy1 b.toNat).length:Int))) fun(d:Bool)=>if d then if InR b a.Zy1.length then if InR c ((nth a.Zy1 b.toNat).length)then (C3 ((nth (nth a.Zy1 b.toNat) c.toNat).Zx1)).bind fun e=>if(!e)then ((((some false).bind fun f=>some (.inr f)).bind fun g=>some (.inr (.inr g))).bind fun i=>some (.inr i)).bind fun j=>some (.inr (.inr j)) else some (.inl (w64 (c+1))) else none else none else some (.inr (.inl ())) else none
def Dk(b:AkJ)(a:Int):Option ((Int)⊕((Unit)⊕((Unit)⊕(Bool)))) :=if (decide (a<(b.Zy1.length:Int)))then (if InR a b.Zy1.length then lt1 (decide (((nth b.Zy1 a.toNat).length:Int)>12)) fun(c:Bool)=>if c then (((some false).bind fun d=>some (.inr d)).bind fun e=>some (.inr (.inr e))).bind fun f=>some (.inr f) else (A2 (fun(v:Int)=>CK b a v) 0).bind fun x=>match x with
    |.inl ()=>some (.inl ())
    |.inr z=>some z else none:Option ((Unit)⊕((Int)⊕((Unit)⊕((Unit)⊕(Bool)))))).bind fun x=>match x with
  |.inl ()=>some (.inl (w64 (a+1)))
  |.inr z=>some z else some (.inr (.inl ()))
def Dn(b:AkJ)(a:Int):Option ((Int)⊕((Unit)⊕((Unit)⊕(Bool)))) :=if (decide (a<(b.Zz1.length:Int)))then (if InR a b.Zz1.length then (C3 (((nth b.Zz1 a.toNat).A).Zx1)).bind fun c=>if(!c)then some true else if InR a b.Zz1.length then (C3 (((nth b.Zz1 a.toNat).B).Zx1)).bind fun d=>some (!d) else none else none:Option (Bool)).bind fun e=>if e then ((some false).bind fun f=>some (.inr f)).bind fun g=>some (.inr (.inr g)) else some (.inl (w64 (a+1))) else some (.inr (.inl ()))
def EO(a:AkJ):Option (Bool) :=(if(decide ((a.Zy1.length:Int)>4))then some true else some (decide ((a.Zz1.length:Int)>6)):Option (Bool)).bind fun b=>if b then some false else ((A2 (fun(v:Int)=>Dk a v) 0).bind fun x=>match x with
  |.inl ()=>some (.inl ())
  |.inr z=>some z:Option ((Unit)⊕(Bool))).bind fun x=>match x with
  | .inl ()=>((A2 (fun(v:Int)=>Dn a v) 0).bind fun x=>match x with
   |.inl ()=>some (.inl ())
   |.inr z=>some z:Option ((Unit)⊕(Bool))).bind fun x=>match x with
   |.inl ()=>some true
   |.inr z=>some z
  |.inr z=>some z
def Ky(b:AkJ)(a:Int):Option (List AkH) :=(if(decide (a<0))then some true else some (decide (a≥(b.Zy1.length:Int))):Option (Bool)).bind fun c=>if c then some ([]) else if InR a b.Zy1.length then some (nth b.Zy1 a.toNat) else none
def CT(b:AkJ)(e:Int)(c:Int)(a:Int):Option ((Int×Int)⊕(Int)) :=if (decide (a<(b.Zz1.length:Int)))then (if InR a b.Zz1.length then lt1 (((nth b.Zz1 a.toNat).A).Zb) fun(f:Int)=>lt1 (((nth b.Zz1 a.toNat).A).No) fun(d:Int)=>lt1 (((nth b.Zz1 a.toNat).A).Zv1) fun(j:Arr UInt8 32)=>lt1 (((nth b.Zz1 a.toNat).A).Zw1) fun(k:Int)=>lt1 ((((nth b.Zz1 a.toNat).A).Zx1).Za) fun(l:Int)=>lt1 (((((nth b.Zz1 a.toNat).A).Zx1).Ref).Zb) fun(m:Int)=>lt1 (((((nth b.Zz1 a.toNat).A).Zx1).Ref).No) fun(n:Int)=>lt1 ((((nth b.Zz1 a.toNat).A).Zx1).Zn1) fun(o:Int)=>lt1 ((((nth b.Zz1 a.toNat).A).Zx1).Zb1) fun(p:Int)=>lt1 ((((nth b.Zz1 a.toNat).A).Zx1).Zc) fun(q:Int)=>lt1 ((((nth b.Zz1 a.toNat).A).Zx1).Zo1) fun(s:Int)=>lt1 ((((nth b.Zz1 a.toNat).A).Zx1).Zw) fun(t:Int)=>lt1 ((((nth b.Zz1 a.toNat).A).Zx1).To) fun(u:Int)=>lt1 ((((nth b.Zz1 a.toNat).A).Zx1).Code) fun(v:Int)=>lt1 ((((nth b.Zz1 a.toNat).A).Zx1).Zp1) fun(w:Int)=>lt1 ((((nth b.Zz1 a.toNat).A).Zx1).Zq1) fun(x:Int)=>lt1 ((((nth b.Zz1 a.toNat).A).Zx1).Zr1) fun(y:Int)=>lt1 ((((nth b.Zz1 a.toNat).A).Zx1).Zs1) fun(z:Int)=>lt1 ((((nth b.Zz1 a.toNat).A).Zx1).Zt1) fun(aa:List UInt8)=>lt1 ((((nth b.Zz1 a.toNat).A).Zx1).Zu1) fun(ab:List AkE)=>lt1 ((((nth b.Zz1 a.toNat).A).Sig).C) fun(ac:UInt64)=>lt1 ((((nth b.Zz1 a.toNat).A).Sig).S) fun(ad:UInt64)=>(if(f==e)then if(decide (d≥1))then if(c==0)then some true else some (decide (d<c)) else some false else some false:Option (Bool)).bind fun g=>if g then some d else some c else none:Option (Int)).bind fun i=>some (.inl (i,(w64 (a+1)))) else some (.inr c)
def GP(a:AkJ)(b:Int):Option (Int) :=((A2 (fun(v:Int×Int)=>CT a b v.1 v.2) (0,0)).bind fun c=>some c:Option (Int)).bind fun d=>some d
def CR(b:AkJ)(c:AkJ)(a:Int):Option ((Int)⊕((Unit)⊕((Unit)⊕(Bool)))) :=(if(decide (a<(b.Zy1.length:Int)))then some true else some (decide (a<(c.Zy1.length:Int))):Option (Bool)).bind fun d=>if d then (Ky b a).bind fun e=>(Ky c a).bind fun f=>(EN e f).bind fun g=>if(!g)then ((some false).bind fun i=>some (.inr i)).bind fun j=>some (.inr (.inr j)) else some (.inl (w64 (a+1))) else some (.inr (.inl ()))
def Et(a:AkJ)(b:AkJ):Option (Bool) :=((A2 (fun(v:Int)=>CR a b v) 0).bind fun x=>match x with
 |.inl ()=>some (.inl ())
 |.inr z=>some z:Option ((Unit)⊕(Bool))).bind fun x=>match x with
 |.inl ()=>some true
 |.inr z=>some z
def D6(b:AkC)(a:AkJ)(d:Int)(i:UInt64)(j:Int)(k:AkF)(l:AkF):Option (Bool) :=law14_sane.bind fun o=>if(!o)then some false else ((GX b).bind fun p=>if(!p)then some true else (EO a).bind fun q=>if(!q)then some true else (C3 k).bind fun s=>if(!s)then some true else (C3 l).bind fun t=>some (!t):Option (Bool)).bind fun u=>if u then some true else (Bc b a d i j k).bind fun c=>(Bc b a d i j l).bind fun f=>(if(c.2 != 0)then some true else if(f.2 != 0)then some true else (Cv c.1 f.1).bind fun v=>if v then some true else (GP a d).bind fun w=>some (w != 0):Option (Bool)).bind fun x=>if x then some true else (AA b a c.1).bind fun m=>(AA b m.1 f.1).bind fun e=>(AA b a f.1).bind fun n=>(AA b n.1 c.1).bind fun g=>(if(m.2 != 0)then some true else if(e.2 != 0)then some true else if(n.2 != 0)then some true else if(g.2 != 0)then some true else if((e.1.Zz1.length:Int) != (w64 ((a.Zz1.length:Int)+1)))then some true else some ((g.1.Zz1.length:Int) != (w64 ((a.Zz1.length:Int)+1))):Option (Bool)).bind fun y=>if y then some false else ((BM e.1 d).bind fun z=>if (z==c.1.No)then (BM g.1 d).bind fun aa=>if(aa==c.1.No)then (BE e.1).bind fun ab=>(BE g.1).bind fun ac=>(Et ab ac).bind fun ad=>if ad then (BE e.1).bind fun ae=>(BE a).bind fun af=>(Et ae af).bind fun ag=>some ag else some false else some false else some false:Option (Bool)).bind fun ah=>some ah
set_option maxRecDepth 4000
variable{α X:Type}
theorem Bv{β:Type}(x:α)(f:α→Option β):lt1 x f=f x:=Am8 (eq_self (f x))
theorem Cr{k:Nat}(h:k<9223372036854775807):w64 ((k:Int)+1)=((k+1:Nat):Int):=by rw[B6 (by omega)];rfl
theorem Aar(b c:Bool):(if b then some true else some c)=some (b||c):=by cases b<;>rfl
theorem AfH(b c:Bool):(if b then some c else some false)=some (b&&c):=by cases b<;>rfl
theorem HZ{β:Type}(x:α)(f:α→Option β):(some x).bind f=f x:=Am8 (eq_self (f x))
theorem P8[Inhabited α](l:List α)(f:Int→Option (Int⊕X))(p:α→Bool)(good bad:X)(hl:l.length<1152921504606846976) (hs:∀k:Nat,k<l.length→f (k:Int)=some (if p (nth l k)=true then .inl ((k+1:Nat):Int)else .inr bad)) (he:f (l.length:Int)=some (.inr good)) :A2 (fun v=>f v) 0=some (if l.all p=true then good else bad):=by
 obtain⟨x,hx,hq⟩:∃x,A2 (fun v=>f v) 0=some x∧x=(if l.all p=true then good else bad):=by
  refine CC (fun v=>∃k:Nat,v=(k:Int)∧k≤l.length∧(l.take k).all p=true) (fun v=>(l.length-v).toNat) _ ?_ ⟨0,rfl,Ali _,rfl⟩ (by simp;omega);rintro v ⟨k,rfl,hk,ht⟩;by_cases h1:k<l.length
  ·have hn:nth l k=l[k]:=by simp[nth,h1]
   rw[hs k h1];by_cases hp:p (nth l k)=true
   ·left;refine⟨_,by rw[AkS hp],⟨k+1,rfl,by omega,?_⟩,by omega⟩;rw[Amr h1,List.all_append,ht,←hn];simp[hp]
   ·right;refine⟨_,by rw[AkT hp],?_⟩;rw[AkT];intro ha;rw[Ak4]at ha;exact hp (by rw[hn];exact ha _ (AlI h1))
  ·right;have:k=l.length:=by omega
   subst this;rw[AlY]at ht;exact⟨_,he,by rw[AkS ht]⟩
 rw[hx,hq]
theorem Q0{V S:Type}[Inhabited α](l:List α)(f:V→Option (V⊕X))(st:Int→S→V)(g:S→α→S)(out:S→X)(s0:S)(hl:l.length<1152921504606846976) (hs:∀(k:Nat) (s:S),k<l.length→f (st (k:Int) s)=some (.inl (st ((k+1:Nat):Int) (g s (nth l k))))) (he:∀s,f (st (l.length:Int) s)=some (.inr (out s))) :A2 f (st 0 s0)=some (out (l.foldl g s0)):=by
 obtain⟨x,hx,hq⟩:∃x,A2 f (st 0 s0)=some x∧x=out (l.foldl g s0):=by
  refine E6 l.length (fun k v=>v=st (k:Int) ((l.take k).foldl g s0)) _ (by omega) ?_ ?_ rfl
  ·rintro k v hk rfl;refine⟨_,hs k _ hk,?_⟩;rw[Amr hk,List.foldl_append];simp[nth,hk]
  ·rintro v rfl;exact⟨_,he _,by rw[AlY]⟩
 rw[hx,hq]
theorem TO{V S:Type}(n:Nat)(f:V→Option (V⊕X))(st:Int→S→V)(F:Nat→S)(out:S→X)(hn:n<1152921504606846976) (hs:∀k:Nat,k<n→f (st (k:Int) (F k))=some (.inl (st ((k+1:Nat):Int) (F (k+1))))) (he:f (st (n:Int) (F n))=some (.inr (out (F n)))) :A2 f (st 0 (F 0))=some (out (F n)):=by
 obtain⟨x,hx,hq⟩:∃x,A2 f (st 0 (F 0))=some x∧x=out (F n):=by
  refine E6 n (fun k v=>v=st (k:Int) (F k)) _ (by omega) ?_ ?_ rfl
  ·rintro k v hk rfl;exact⟨_,hs k hk,rfl⟩
  ·rintro v rfl;exact⟨_,he,rfl⟩
 rw[hx,hq]
theorem RU[Inhabited α][DecidableEq α](a b:List α)(f:Int→Option (Int⊕(Unit⊕(Unit⊕Bool))))(hl:a.length=b.length)(hb:a.length<1152921504606846976) (hs:∀k:Nat,k<a.length→f (k:Int)=some (if nth a k=nth b k then .inl ((k+1:Nat):Int)else .inr (.inr (.inr false)))) (he:f (a.length:Int)=some (.inr (.inl ()))) :A2 (fun v=>f v) 0=some (if a=b then .inl ()else .inr (.inr false)):=by
 obtain⟨x,hx,hq⟩:∃x,A2 (fun v=>f v) 0=some x∧x=(if a=b then .inl ()else .inr (.inr false)):=by
  refine CC (fun v=>∃k:Nat,v=(k:Int)∧k≤a.length∧a.take k=b.take k) (fun v=>(a.length-v).toNat) _ ?_ ⟨0,rfl,Ali _,rfl⟩ (by simp;omega);rintro v ⟨k,rfl,hk,ht⟩;by_cases h1:k<a.length
  ·have h2:k<b.length:=by omega
   rw[hs k h1];have ea:a.take (k+1)=a.take k++[nth a k]:=by rw[AmR,AkR h1];simp[nth,AkR h1]
   have eb:b.take (k+1)=b.take k++[nth b k]:=by rw[AmR,AkR h2];simp[nth,AkR h2]
   by_cases hk':nth a k=nth b k
   ·left;exact⟨_,by rw[AkS hk'],⟨k+1,rfl,by omega,by rw[ea,eb,ht,hk']⟩,by omega⟩
   ·right;refine⟨_,by rw[AkT hk'],?_⟩;rw[AkT (fun h=>hk' (by rw[h]))]
  ·right;have:k=a.length:=by omega
   subst this;refine⟨_,he,?_⟩;rw[AlY,AlN (by omega)]at ht;rw[AkS ht]
 rw[hx,hq]
theorem Ad6(x y:AkE):(!((x.Za==y.Za)&&((x.Zl1==y.Zl1)&&(x.Zm1==y.Zm1))))=decide (x≠y):=by
 by_cases h:x=y
 ·subst h;simp
 ·rw[Ak3 h];rcases x with⟨a,b,c⟩
  rcases y with⟨d,e,f⟩
  simp only[AkE.mk.injEq,not_and]at h;simp only[AmQ,Amn,Amz,ne_eq];by_cases h1:a=d
  ·by_cases h2:b=e
   ·exact .inr (.inr (by simpa using h h1 h2))
   ·exact .inr (.inl h2)
  ·exact .inl h1
theorem VC{a b:List AkE}(ha:a.length≤1000000):Ex a b=some (decide (a=b)):=by
 unfold Ex;by_cases hl:a.length=b.length
 ·rw[AkT (by simp[hl]),RU a b (fun v=>CA a b v) hl (by omega) ?_ ?_]
  ·by_cases h:a=b<;>simp[h]
  ·intro k hk;unfold CA;rw[AkS (Ak3 (by omega)),AkS (BH hk),AkS (BH (by omega))];simp only[Bv,Ak5,Ad6];by_cases he:nth a k=nth b k
   ·rw[AkT (by simp[he]),AkS he,Cr (by omega)]
   ·rw[AkS (by simp[he]),AkT he];rfl
  ·unfold CA;rw[AkT (by simp)]
 ·rw[AkS (by simp;omega),Alo (fun h=>hl (by rw[h]))]
def MV(it:AkF):List Int:=[it.Zn1,it.Zb1,it.Zc,it.Zo1,it.Zw,it.To,it.Code,it.Zp1,it.Zq1,it.Zr1,it.Zs1]
theorem U4(it:AkF):∀{k:Nat},k<11→HG it (nth [119,112,111,110,102,116,99,100,107,103,97] k)=some (nth (MV it) k)
 |0,_=>rfl
 |1,_=>rfl
 |2,_=>rfl
 |3,_=>rfl
 |4,_=>rfl
 |5,_=>rfl
 |6,_=>rfl
 |7,_=>rfl
 |8,_=>rfl
 |9,_=>rfl
 |10,_=>rfl
 |k+11,h=>by omega
theorem Aay{a b:AkF}(h:MV a=MV b)(hk:a.Za=b.Za)(hr1:a.Ref.Zb=b.Ref.Zb)(hr2:a.Ref.No=b.Ref.No)(ht:a.Zt1=b.Zt1)(hp:a.Zu1=b.Zu1):a=b:=by
 rcases a with⟨k,⟨r,n⟩,a1,a2,a3,a4,a5,a6,a7,a8,a9,a10,a11,t,p⟩
 rcases b with⟨k',⟨r',n'⟩,b1,b2,b3,b4,b5,b6,b7,b8,b9,b10,b11,t',p'⟩
 simp only[MV,List.cons.injEq,Anq]at h;obtain⟨rfl,rfl,rfl,rfl,rfl,rfl,rfl,rfl,rfl,rfl,rfl⟩:=h;simp only at hk hr1 hr2 ht hp;subst hk hr1 hr2 ht hp;rfl
theorem Ws{a b:AkF}(ha:a.Zu1.length≤1000000):J1 a b=some (decide (a=b)):=by
 unfold J1;have l11:∀it:AkF,(MV it).length=11:=fun _=>rfl
 rw[RU (MV a) (MV b) (fun v=>EP a b v) rfl (by rw[l11];omega) ?_ ?_]
 ·by_cases hn:MV a=MV b
  ·simp only[AkS hn,AkQ];by_cases h1:a.Za=b.Za
   ·by_cases h2:a.Ref.Zb=b.Ref.Zb
    ·by_cases h3:a.Ref.No=b.Ref.No
     ·by_cases h4:a.Zt1=b.Zt1
      ·rw[AkS (by simpa using h1),AkS (by simp[h2,h3]),AkS (by simpa using h4),VC ha];by_cases h5:a.Zu1=b.Zu1
       ·rw[Ak3 h5,Ak3 (Aay hn h1 h2 h3 h4 h5)];rfl
       ·rw[Alo h5,Alo (fun h=>h5 (by rw[h]))];rfl
      ·rw[AkS (by simpa using h1),AkS (by simp[h2,h3]),AkT (by simpa using h4),Alo (fun h=>h4 (by rw[h]))];rfl
     ·rw[AkS (by simpa using h1),AkT (by simp[h3]),Alo (fun h=>h3 (by rw[h]))];rfl
    ·rw[AkS (by simpa using h1),AkT (by simp[h2]),Alo (fun h=>h2 (by rw[h]))];rfl
   ·rw[AkT (by simpa using h1),Alo (fun h=>h1 (by rw[h]))];rfl
  ·rw[Alo (fun h=>hn (by rw[h])),AkT hn];rfl
 ·intro k hk;rw[l11]at hk;unfold EP;have hin:InR (k:Int) ([119,112,111,110,102,116,99,100,107,103,97]:List UInt8).length:=⟨by omega,by simpa using hk⟩;rw[AkS (Ak3 (by omega)),AkS hin];simp only[Ak5];rw[U4 a hk,AkQ,AkS hin,U4 b hk,AkQ];by_cases he:nth (MV a) k=nth (MV b) k
  ·rw[AkT (by simp[he]),AkS he,Cr (by omega)]
  ·rw[AkS (by simpa using he),AkT he];rfl
 ·unfold EP;rw[l11,AkT (by simp)]
theorem X1{a b:AkH}(h1:a.Zb=b.Zb)(h2:a.No=b.No)(h3:a.Zv1=b.Zv1)(h4:a.Zw1=b.Zw1)(h5:a.Sig.C=b.Sig.C)(h6:a.Sig.S=b.Sig.S)(h7:a.Zx1=b.Zx1):a=b:=by
 rcases a with⟨a1,a2,a3,a4,a5,c,s⟩
 rcases b with⟨b1,b2,b3,b4,b5,c',s'⟩
 simp only at h1 h2 h3 h4 h5 h6 h7;subst h1 h2 h3 h4 h5 h6 h7;rfl
theorem UJ{a b:AkH}(ha:a.Zx1.Zu1.length≤1000000):Cv a b=some (decide (a=b)):=by
 unfold Cv;by_cases h1:a.Zb=b.Zb
 case neg=>rw[AkT (by simpa using h1),Alo (fun h=>h1 (by rw[h]))];rfl
 by_cases h2:a.No=b.No
 case neg=>rw[AkS (by simpa using h1),AkT (by simpa using h2),Alo (fun h=>h2 (by rw[h]))];rfl
 by_cases h3:a.Zv1=b.Zv1
 case neg=>rw[AkS (by simpa using h1),AkS (by simpa using h2),AkT (by simpa using h3),Alo (fun h=>h3 (by rw[h]))];rfl
 by_cases h4:a.Zw1=b.Zw1
 case neg=>rw[AkS (by simpa using h1),AkS (by simpa using h2),AkS (by simpa using h3),AkT (by simpa using h4),Alo (fun h=>h4 (by rw[h]))];rfl
 by_cases h5:a.Sig.C=b.Sig.C
 case neg=>rw[AkS (by simpa using h1),AkS (by simpa using h2),AkS (by simpa using h3),AkS (by simpa using h4),AkT (by simp[h5]),Alo (fun h=>h5 (by rw[h]))];rfl
 by_cases h6:a.Sig.S=b.Sig.S
 case neg=>rw[AkS (by simpa using h1),AkS (by simpa using h2),AkS (by simpa using h3),AkS (by simpa using h4),AkT (by simp[h6]),Alo (fun h=>h6 (by rw[h]))];rfl
 rw[AkS (by simpa using h1),AkS (by simpa using h2),AkS (by simpa using h3),AkS (by simpa using h4),AkS (by simp[h5,h6]),Ws ha];by_cases h7:a.Zx1=b.Zx1
 ·rw[Ak3 h7,Ak3 (X1 h1 h2 h3 h4 h5 h6 h7)];rfl
 ·rw[Alo h7,Alo (fun h=>h7 (by rw[h]))];rfl
theorem ED[Inhabited α]{l:List α}{k:Nat}(h:k<l.length):nth l k∈l:=by
 simp[nth,AkR h]
def L9(l:List AkH):Prop:=∀r∈l,r.Zx1.Zu1.length≤1000000
theorem AaE{a b:List AkH}(ha:a.length≤1000000)(hp:L9 a):EN a b=some (decide (a=b)):=by
 unfold EN;by_cases hl:a.length=b.length
 ·rw[AkT (by simp[hl]),RU a b (fun v=>Dg a b v) hl (by omega) ?_ ?_]
  ·by_cases h:a=b<;>simp[h]
  ·intro k hk;unfold Dg;rw[AkS (Ak3 (by omega)),AkS (BH hk),AkS (BH (by omega))];simp only[Ak5];rw[UJ (hp _ (ED hk)),AkQ];by_cases he:nth a k=nth b k
   ·rw[AkT (by simp[he]),AkS he,Cr (by omega)]
   ·rw[AkS (by simp[he]),AkT he];rfl
  ·unfold Dg;rw[AkT (by simp)]
 ·rw[AkS (by simp;omega),Alo (fun h=>hl (by rw[h]))]
def FO(it:AkF):Bool:=decide (it.Zt1.length≤1000)&&decide (it.Zu1.length≤20)
theorem L8(it:AkF):C3 it=some (FO it):=by
 unfold C3 FO;have e1:decide ((it.Zt1.length:Int)≤1000)=decide (it.Zt1.length≤1000):=by simp;omega
 have e2:decide ((it.Zu1.length:Int)≤20)=decide (it.Zu1.length≤20):=by simp;omega
 rw[e1,e2];by_cases h:it.Zt1.length≤1000<;>simp[h]
structure Small(it:AkF):Prop where
  text:it.Zt1.length≤1000
  parts:it.Zu1.length≤20
theorem JG{it:AkF}(h:FO it=true):Small it:=by
 simp only[FO,Ak6,Ald]at h;exact⟨h.1,h.2⟩
def Abc(l:List AkH):Bool:=decide (l.length≤12)&&l.all fun r=>FO r.Zx1
def Rh(f:AkI):Bool:=FO f.A.Zx1&&FO f.B.Zx1
def JC(b:AkJ):Bool:=decide (b.Zy1.length≤4)&&decide (b.Zz1.length≤6)&&b.Zy1.all Abc&&b.Zz1.all Rh
theorem Y0(b:AkJ){i:Nat}(hi:i<b.Zy1.length)(hr:(nth b.Zy1 i).length≤12) :A2 (fun(v:Int)=>CK b (i:Int) v) 0=some (if(nth b.Zy1 i).all (fun r=>FO r.Zx1)=true then .inl ()else .inr (.inr (.inr (.inr (.inr false))))):=by
 refine P8 (nth b.Zy1 i) (fun v=>CK b (i:Int) v) (fun r=>FO r.Zx1) _ _ (by omega) (fun k hk=>?_) ?_
 ·unfold CK;simp only[AkS (BH hi),Bv,Ak5,AkS (BH hk),L8,AkQ];rw[AkS (Ak3 (by omega))];by_cases h:FO (nth (nth b.Zy1 i) k).Zx1=true
  ·rw[AkT (by simp[h]),AkS h,Cr (by omega)]
  ·rw[AkS (by simpa using h),AkT h]
 ·unfold CK;simp only[AkS (BH hi),Bv,Ak5];rw[AkT (by simp)]
theorem ZA(b:AkJ):EO b=some (JC b):=by
 unfold EO;by_cases h1:b.Zy1.length≤4
 case neg=>rw[AkS (by simp;omega)];simp[JC,h1]
 by_cases h2:b.Zz1.length≤6
 case neg=>rw[AkT (by simp;omega)];simp only[HZ];rw[AkS (by simp;omega)];simp[JC,h2]
 rw[AkT (by simp;omega)];simp only[HZ];rw[AkT (by simp;omega)];rw[P8 b.Zy1 (fun v=>Dk b v) Abc (.inl ()) (.inr (.inr false)) (by omega) ?_ ?_]
 ·by_cases h3:b.Zy1.all Abc=true
  ·rw[AkS h3];simp only[HZ];rw[P8 b.Zz1 (fun v=>Dn b v) Rh (.inl ()) (.inr (.inr false)) (by omega) ?_ ?_]
   ·by_cases h4:b.Zz1.all Rh=true
    ·rw[AkS h4];simp[JC,h1,h2,h3,h4]
    ·rw[AkT h4];simp only[HZ];rw[Am4]at h4;simp[JC,h4]
   ·intro k hk;unfold Dn;rw[AkS (Ak3 (by omega))];simp only[AkS (BH hk),Ak5,L8,HZ];by_cases h5:FO (nth b.Zz1 k).A.Zx1=true
    ·by_cases h6:FO (nth b.Zz1 k).B.Zx1=true
     ·simp[h5,h6,Rh,Cr (k:=k) (by omega)]
     ·simp[h5,h6,Rh]
    ·simp[h5,Rh]
   ·unfold Dn;rw[AkT (by simp)]
  ·rw[AkT h3];simp only[HZ];rw[Am4]at h3;simp[JC,h3]
 ·intro k hk;unfold Dk;rw[AkS (Ak3 (by omega))];simp only[AkS (BH hk),Ak5,Bv];by_cases h5:(nth b.Zy1 k).length≤12
  ·rw[AkT (by simp;omega),Y0 b hk h5];by_cases h6:(nth b.Zy1 k).all (fun r=>FO r.Zx1)=true
   ·rw[AkS h6,AkS (by simp only[Abc,h5,decide_true,Am7,h6])];simp only[HZ];rw[Cr (by omega)]
   ·rw[AkT h6,AkT (by simp only[Abc,h5,decide_true,Am7];exact h6)];rfl
  ·rw[AkS (by simp;omega),AkT (by simp[Abc,h5])];rfl
 ·unfold Dk;rw[AkT (by simp)]
structure Short(b:AkJ):Prop where
  logs:b.Zy1.length≤4
  forks:b.Zz1.length≤6
  row:∀l∈b.Zy1,l.length≤12
  item:∀l∈b.Zy1,∀r∈l,Small r.Zx1
  fork:∀f∈b.Zz1,Small f.A.Zx1∧Small f.B.Zx1
theorem AaC{b:AkJ}(h:JC b=true):Short b:=by
 simp only[JC,Ak6,Ald,Ak4]at h;obtain⟨⟨⟨h1,h2⟩,h3⟩,h4⟩:=h;refine⟨h1,h2,fun l hl=>?_,fun l hl r hr=>?_,fun f hf=>?_⟩
 ·have:=h3 l hl;simp only[Abc,Ak6,Ald]at this;exact this.1
 ·have:=h3 l hl;simp only[Abc,Ak6,Ald,Ak4]at this;exact JG (this.2 r hr)
 ·have:=h4 f hf;simp only[Rh,Ak6]at this;exact⟨JG this.1,JG this.2⟩
def CE(rw:Int)(no:Int)(f:AkI):Int:=if((f.A.Zb==rw)&&(decide (f.A.No≥1)&&((no==0)||decide (f.A.No<no))))then f.A.No else no
def Cn(b:AkJ)(rw:Int):Int:=b.Zz1.foldl (CE rw) 0
theorem Mq{b:AkJ}(rw:Int)(h:b.Zz1.length≤1000000):BM b rw=some (Cn b rw):=by
 unfold BM;rw[Q0 b.Zz1 (fun(v:Int×Int)=>Dh b rw v.1 v.2) (fun k s=>(s,k)) (CE rw) id 0 (by omega) (fun k s hk=>?_) (fun s=>?_)]
 ·rfl
 ·unfold Dh;rw[AkS (Ak3 (by simp;omega)),AkS (BH hk)];simp only[Bv,Ak5];unfold CE;by_cases h1:(nth b.Zz1 k).A.Zb=rw
  ·by_cases h2:(nth b.Zz1 k).A.No≥1
   ·by_cases h3:s=0
    ·simp[h1,h2,h3,Cr (k:=k) (by omega)]
    ·by_cases h4:(nth b.Zz1 k).A.No<s<;>simp[h1,h2,h3,h4,Cr (k:=k) (by omega)]
   ·simp[h1,h2,Cr (k:=k) (by omega)]
  ·simp[h1,Cr (k:=k) (by omega)]
 ·unfold Dh;rw[AkT (by simp)];rfl
theorem Ot{rw:Int}:∀(l:List AkI) (no:Int),(∀f∈l,f.A.No≤9223372036854775807)→(0≤no∧no≤9223372036854775807)→0≤l.foldl (CE rw) no∧l.foldl (CE rw) no≤9223372036854775807
  |[],no,_,h=>h
  | f :: l,no,hl,h=>by
    refine Ot l _ (fun g hg=>hl g (Alx _ hg)) ?_;unfold CE;split
    · rename_i h1
      simp only[Ak6,Ald]at h1;exact⟨by omega,hl f Ak7⟩
    · exact h
def I64(x:Int):Prop:=-9223372036854775808≤x∧x≤9223372036854775807
theorem Pt{b:AkJ}{rw:Int}(h:∀f∈b.Zz1,I64 f.A.No):0≤Cn b rw∧Cn b rw≤9223372036854775807 :=
 Ot _ _ (fun f hf=>(h f hf).2) ⟨by omega,by omega⟩
def C8(b:AkJ)(i:Nat):List AkH:=if Cn b (i:Int)>0 then(nth b.Zy1 i).take (Cn b (i:Int)-1).toNat else nth b.Zy1 i
def CS(b:AkJ):AkJ:={ Zy1:=(List.range b.Zy1.length).map (C8 b),Zz1:=[] }
theorem KA{b:AkJ}(h:b.Zz1.length≤1000000)(hl:b.Zy1.length≤1000000)(hr:∀l∈b.Zy1,l.length≤1000000)(hf:∀f∈b.Zz1,I64 f.A.No):BE b=some (CS b):=by
 have h1:A2 (fun(v:Int×List (List AkH))=>C2 b v.1 v.2) (0,[])=some ((List.range b.Zy1.length).map (C8 b)):=by
  refine TO b.Zy1.length (fun(v:Int×List (List AkH))=>C2 b v.1 v.2) (fun k s=>(k,s)) (fun k=>(List.range k).map (C8 b)) id (by omega) (fun k hk=>?_) ?_
  ·unfold C2;have hrk:=hr _ (ED hk);obtain⟨f1,f2⟩:=Pt (rw:=(k:Int)) hf;rw[AkS (Ak3 (by simp;omega)),AkS (BH hk)];simp only[Bv,Ak5,Mq (k:Int) h,AkQ];have hlen:((List.range k).map (C8 b)).length=k:=by simp
   have hfit:Dj (((List.range k).map (C8 b)).length+1) 24:=by rw[hlen];unfold Dj maxLen Gj;omega
   by_cases h1:Cn b (k:Int)>0
   ·have e1:w64 (Cn b (k:Int)-1)=Cn b (k:Int)-1:=B6 (by omega);have e2:(NM (w64 (Cn b (k:Int)-1)) ((nth b.Zy1 k).length:Int))=min (Cn b (k:Int)-1) ((nth b.Zy1 k).length:Int):=by rw[e1];unfold NM;omega
    have hin:InB (NM (w64 (Cn b (k:Int)-1)) ((nth b.Zy1 k).length:Int)) (nth b.Zy1 k).length:=by rw[e2];unfold InB;omega
    rw[AkS (Ak3 h1),AkS hin];simp only[AkQ];rw[AkS hfit,Cr (by omega),AmO,AmM]
    have e3:(nth b.Zy1 k).take (NM (w64 (Cn b (k:Int)-1)) ((nth b.Zy1 k).length:Int)).toNat=C8 b k:=by
     unfold C8;rw[AkS h1,e2];by_cases h2:Cn b (k:Int)-1≤((nth b.Zy1 k).length:Int)
     ·rw[Int.min_eq_left h2]
     ·rw[Int.min_eq_right (by omega),Ak5,AlN (Ak2 _),AlN (by omega)]
    rw[e3];rfl
   ·rw[AkT (by simpa using h1)];simp only[AkQ];rw[AkS hfit,Cr (by omega),AmO,AmM];have e3:nth b.Zy1 k=C8 b k:=by unfold C8;rw[AkT h1]
    rw[Al6,Anh,←e3]
  ·unfold C2;rw[AkT (by simp)];rfl
 unfold BE;rw[h1];rfl
theorem Fj(b:AkJ):(CS b).Zy1.length=b.Zy1.length:=by simp[CS]
theorem Ht{b:AkJ}{i:Nat}(hi:i<b.Zy1.length):nth (CS b).Zy1 i=C8 b i:=by
 simp[CS,nth,hi]
theorem Q1{b:AkJ}{i:Nat}:∀r∈C8 b i,r∈nth b.Zy1 i:=by
 intro r hr;unfold C8 at hr;split at hr
 ·exact AmS hr
 ·exact hr
theorem Q9{b:AkJ}{i:Nat}:(C8 b i).length≤(nth b.Zy1 i).length:=by
 unfold C8;split
 ·rw[AmA];omega
 ·exact Ak2 _
end Go.Proofs.YtioapcamanmoiaaDoor
