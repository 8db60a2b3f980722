/-
  Part 48.
-/
import Derived.Test.YtldngkmkhfddpaaGreatDoorProg
import Derived.Test.YtldngkmkhfddpaaGreatDoorRows
import Derived.Test.YtldngkmkhfddpaaGreatDoorYX47
import Derived.KernelRfl
import Derived.WalkKit
import Derived.ProofKit
import Derived.OpenShut
import Derived.JoinedCond
import Derived.LaidMore
import Derived.Lay
import Derived.SevenTiedAt
import Derived.Stop.Joined
import Derived.Lib.LaidTab
namespace Go.Proofs.YtldngkmkhfddpaaGreatDoor
open Go.Rv
set_option linter.unusedVariables false
set_option linter.unusedSimpArgs false
set_option maxRecDepth 20000
def glob0:Arr UInt8 256:=⟨[0,0,0,0,0,0,0,0,0,1,1,1,1,1,0,0,0,0,0,0,0,0,0,0,0,0,0,0,0,0,0,0,1,0,0,0,0,0,0,0,0,0,0,0,0,0,0,0,0,0,0,0,0,0,0,0,0,0,0,0,0,0,0,0,0,0,0,0,0,0,0,0,0,0,0,0,0,0,0,0,0,0,0,0,0,0,0,0,0,0,0,0,0,0,0,0,0,0,0,0,0,0,0,0,0,0,0,0,0,0,0,0,0,0,0,0,0,0,0,0,0,0,0,0,0,0,0,0,0,0,0,0,0,0,0,0,0,0,0,0,0,0,0,0,0,0,0,0,0,0,0,0,0,0,0,0,0,0,0,0,0,0,0,0,0,0,0,0,0,0,0,0,0,0,0,0,0,0,0,0,0,0,0,0,0,0,0,0,0,0,0,0,0,0,0,0,0,0,0,0,0,0,0,0,0,0,0,0,0,0,0,0,0,0,0,0,0,0,0,0,0,0,0,0,0,0,0,0,0,0,0,0,0,0,0,0,0,0,0,0,0,0,0,0,0,0,0,0,0,0,0,0,0,0,0,0],rfl⟩
def tab1:List (List UInt8×Bool):=[([97,110,100],true),([98,101,103,105,110],true),([99,108,97,115,115],true),([99,108,97,117,115,101],true),([99,108,101,97,110,105,110,103],true),([99,111,100,101],true),([99,111,115,116],true),([100,101,109,117,114,114,97,103,101],true),([100,111,119,110],true),([102,111,114],true),([102,114,101,105,103,104,116],true),([104,97,108,102],true),([104,105,114,101],true),([105,102],true),([105,110],true),([105,115],true),([107,103],true),([107,109],true),([108,111,115,115],true),([109,97,120],true),([109,105,110],true),([109,105,110,117,116,101],true),([109,105,110,117,116,101,115],true),([109,111,110,101,121],true),([109,111,110,116,104],true),([111,119,110,101,114],true),([112,97,114,116],true),([112,97,114,116,115],true),([112,97,121],true),([112,101,114],true),([114,97,105,108,119,97,121],true),([114,101,112,97,105,114],true),([115,104,105,112,112,101,114],true),([116,97,114,105,102,102],true),([116,121,112,101],true),([117,112],true),([119,101,105,103,104,116],true),([119,104,101,110],true),([119,111,114,107,105,110,103],true),([119,111,114,116,104],true)]
def tab3:List (UInt8×List UInt8):=[(40,[40]),(41,[41]),(42,[42]),(43,[43]),(44,[44]),(45,[45]),(46,[46,46]),(59,[59]),(60,[60]),(123,[123]),(125,[125])]
structure AoO where
  r:Nat->Nat
  ev:Option (Nat×Nat×Int×Arr Int 16)
instance:CoeFun AoO fun _=>Nat->Nat:=⟨AoO.r⟩
variable {rs:AoO}
def AmG(b:Nat):AV->Option AV
 |.int .i64 n=>if n=3 then some (.fn 68 [.tup [.glob b]])else if n=4 then some (.fn 69 [.tup [.glob b]])else if n=5 then some (.fn 70 [.tup [.glob b]])else if n=6 then some (.fn 71 [.tup [.glob b]])else if n=7 then some (.fn 72 [.tup [.glob b]])else if n=8 then some (.fn 73 [.tup [.glob b]])else if n=9 then some (.fn 74 [.tup [.glob b]])else if n=10 then some (.fn 75 [.tup [.glob b]])else if n=11 then some (.fn 76 [.tup [.glob b]])else none
 |_=>none
structure AoP where
  Za:Int
  Zb:List UInt8
  N:Int
  At:Int
  deriving DecidableEq,Inhabited
def Am(x:AoP):List AV:=[i64 x.Za,.str x.Zb,i64 x.N,i64 x.At]
structure AoQ where
  low:Arr Int 16
  high:Arr Int 16
  deriving DecidableEq,Inhabited
def Et(x:AoQ):List AV:=((C1 i64 x.low.l++C1 i64 x.high.l))
structure AoR where
  Attr:Int
  Low:Int
  Zc:Int
  deriving DecidableEq,Inhabited
def Af(x:AoR):List AV:=[i64 x.Attr,i64 x.Low,i64 x.Zc]
structure AoS where
  Has:Int
  V:Arr Int 16
  deriving DecidableEq,Inhabited
def Ad3(x:AoS):List AV:=(i64 x.Has::C1 i64 x.V.l)
inductive AoT where
  |mk (Op:Int) (N:Int) (Unit:Arr Int 4) (L:List AoT)
instance:Inhabited AoT:=⟨.mk default default default default⟩
def AoT.Op(x:AoT):Int:=match x with
 |.mk a _ _ _=>a
theorem Vi{x0:Int}{x1:Int}{x2:Arr Int 4}{x3:List AoT}:(AoT.mk x0 x1 x2 x3).Op=x0:=rfl
def AoT.N(x:AoT):Int:=match x with
 |.mk _ a _ _=>a
theorem YA{x0:Int}{x1:Int}{x2:Arr Int 4}{x3:List AoT}:(AoT.mk x0 x1 x2 x3).N=x1:=rfl
def AoT.Unit(x:AoT):Arr Int 4:=match x with
 |.mk _ _ a _=>a
theorem RK{x0:Int}{x1:Int}{x2:Arr Int 4}{x3:List AoT}:(AoT.mk x0 x1 x2 x3).Unit=x2:=rfl
def AoT.L(x:AoT):List AoT:=match x with
 |.mk _ _ _ a=>a
theorem YX{x0:Int}{x1:Int}{x2:Arr Int 4}{x3:List AoT}:(AoT.mk x0 x1 x2 x3).L=x3:=rfl
noncomputable def cApi_Expr(v:AoT):List AV:=AoT.rec (motive_1:=fun _=>List AV) (motive_2:=fun _=>List (List AV)) (fun Op_ N_ Unit_ L_ ih3=>(i64 Op_::i64 N_::(C1 i64 Unit_.l++[.sl false ih3]))) [] (fun _ _ x l=>x::l) v
theorem VR(l:List AoT):AoT.rec_1 (motive_1:=fun _=>List AV) (motive_2:=fun _=>List (List AV)) (fun Op_ N_ Unit_ L_ ih3=>(i64 Op_::i64 N_::(C1 i64 Unit_.l++[.sl false ih3]))) [] (fun _ _ x l=>x::l) l=L cApi_Expr l:=by
 induction l with
 |nil=>rfl
 |cons x l ih=>exact Ap2 (cApi_Expr x::·) ih
theorem Nm(x:AoT):cApi_Expr x=(i64 x.Op::i64 x.N::(C1 i64 x.Unit.l++[.sl false (L cApi_Expr x.L)])):=by
 cases x with
 |mk a0 a1 a2 a3=>
  show(i64 a0::i64 a1::(C1 i64 a2.l++[.sl false (AoT.rec_1 (motive_1:=fun _=>List AV) (motive_2:=fun _=>List (List AV)) (fun Op_ N_ Unit_ L_ ih3=>(i64 Op_::i64 N_::(C1 i64 Unit_.l++[.sl false ih3]))) [] (fun _ _ x l=>x::l) a3)]))=_;rw[VR];rfl
structure AoU where
  Zd:List UInt8
  Ze:List AoR
  Pay:AoT
  deriving Inhabited
noncomputable def Aa(x:AoU):List AV:=(.str x.Zd::.sl false (L Af x.Ze)::i64 x.Pay.Op::i64 x.Pay.N::(C1 i64 x.Pay.Unit.l++[.sl false (L cApi_Expr x.Pay.L)]))
structure AoV where
  Zd:List UInt8
  For:Int
  Zf:List AoU
  deriving Inhabited
noncomputable def Ad(x:AoV):List AV:=[.str x.Zd,i64 x.For,.sl false (L Aa x.Zf)]
structure AoW where
  l:List AoP
  end_:Int
  deriving DecidableEq,Inhabited
def Qn(x:AoW):List AV:=[.sl false (L Am x.l),i64 x.end_]
structure AoX where
  Zg:Int
  No:Int
  deriving DecidableEq,Inhabited
def WQ(x:AoX):List AV:=[i64 x.Zg,i64 x.No]
structure AoY where
  Za:Int
  Zh:Int
  Zi:Bool
  deriving DecidableEq,Inhabited
def Dm(x:AoY):List AV:=[i64 x.Za,i64 x.Zh,.bool x.Zi]
structure AoZ where
  Za:Int
  Ref:AoX
  Zj:Int
  Zk:Int
  Zl:Int
  Zm:Int
  Zn:Int
  To:Int
  Code:Int
  Zo:Int
  Zp:Int
  Zq:Int
  Zr:Int
  Zb:List UInt8
  Zs:List AoY
  deriving DecidableEq,Inhabited
def Uh(x:AoZ):List AV:=[i64 x.Za,i64 x.Ref.Zg,i64 x.Ref.No,i64 x.Zj,i64 x.Zk,i64 x.Zl,i64 x.Zm,i64 x.Zn,i64 x.To,i64 x.Code,i64 x.Zo,i64 x.Zp,i64 x.Zq,i64 x.Zr,.str x.Zb,.sl false (L Dm x.Zs)]
structure Ao0 where
  Ref:AoX
  By:AoX
  Zt:Int
  Zu:AoZ
  deriving DecidableEq,Inhabited
def Ae(x:Ao0):List AV:=[i64 x.Ref.Zg,i64 x.Ref.No,i64 x.By.Zg,i64 x.By.No,i64 x.Zt,i64 x.Zu.Za,i64 x.Zu.Ref.Zg,i64 x.Zu.Ref.No,i64 x.Zu.Zj,i64 x.Zu.Zk,i64 x.Zu.Zl,i64 x.Zu.Zm,i64 x.Zu.Zn,i64 x.Zu.To,i64 x.Zu.Code,i64 x.Zu.Zo,i64 x.Zu.Zp,i64 x.Zu.Zq,i64 x.Zu.Zr,.str x.Zu.Zb,.sl false (L Dm x.Zu.Zs)]
structure Ao1 where
  Op:Int
  N:Int
  M:Int
  deriving DecidableEq,Inhabited
def Ak(x:Ao1):List AV:=[i64 x.Op,i64 x.N,i64 x.M]
structure Ao2 where
  l:List (List UInt8)
  deriving DecidableEq,Inhabited
def PA(x:Ao2):List AV:=[.sl false (L Bc x.l)]
structure Ao3 where
  code:List Ao1
  deriving DecidableEq,Inhabited
def Pq(x:Ao3):List AV:=[.sl false (L Ak x.code)]
def Qq(x:Int):AV:=i64 x
abbrev RP:=Int->Option Int
def KP(x:Bool):AV:=.bool x
abbrev ME:=List UInt8->Option Bool
structure Ao4 where
  k:Nat
  n:Int
  deriving DecidableEq,Inhabited
def Ef(x:Ao4):AV:=if x.k=119 then .agg [.fn 119 []]else if x.k=120 then .agg [.fn 120 []]else if x.k=165 then .agg [.fn 165 [.rp [i64 x.n]]]else .junk
abbrev Jp:=Int->Option Ao4
noncomputable def SJ(x:AoU):AV:=.agg (Aa x)
def R4:AoU:=({ Zd:=([]:List UInt8),Ze:=[],Pay:=(AoT.mk 0 0 ((Arr.rep 4 0)) ([])) }:AoU)
abbrev R5:=List UInt8->Option AoU
noncomputable def zE:List AV:=i64 0::i64 0::(C1 i64 ((Arr.rep 4 0)).l++[.sl true (L cApi_Expr ([]))])
noncomputable def xE(x:AoT):List AV:=i64 x.Op::i64 x.N::(C1 i64 x.Unit.l++[.sl false (L cApi_Expr x.L)])
noncomputable def pS(p:AoW):ABlk:=.box [.sl false (L Am p.l),i64 p.end_] false
noncomputable def pE(p:Int×Int×AoW):Value:=.iface 104 (.agg #[.int .i64 p.1,.int .i64 p.2.1])
attribute [go_sem] zE xE pS pE
noncomputable def mpF:TypeId->Option AV:=fun t=>if t=92 then some (.agg (.str (([]:List UInt8))::.sl false (L Af ([]))::i64 0::i64 0::(C1 i64 ((Arr.rep 4 0)).l++[.sl false (L cApi_Expr ([]))])))else if t=120 then some (.bool false)else if t=146 then some (.junk)else if t=230 then some (i64 0)else none
theorem AnI:NV Tryz.prog 47=some ⟨.struct #[⟨"Name", 9,0,false,"","", 0⟩,⟨"When", 40,1,false,"","", 16⟩,⟨"Pay", 45,2,false,"","", 40⟩],9,112,(.str (([]:List UInt8))::.sl true (L Af ([]))::i64 0::i64 0::(C1 i64 ((Arr.rep 4 0)).l++[.sl true (L cApi_Expr ([]))]))⟩:=by kernel_rfl
theorem Ald:∀t z,mpF t=some z->Ah6 Tryz.prog t z:=by
 intro t z h;unfold mpF at h;split at h
 ·rename_i e;subst e;cases h;exact Adm (by kernel_rfl:Tryz.prog.underlying 92=some (.map 9 47)) AnI (by decide)
 split at h
 ·rename_i e;subst e;cases h;exact SC (v:=.bool false) (by kernel_rfl:Tryz.prog.underlying 120=some (.map 9 4)) (by kernel_rfl)
 split at h
 ·rename_i e;subst e;cases h;exact SC (v:=.agg #[.nilFunc]) (by kernel_rfl:Tryz.prog.underlying 146=some (.map 3 201)) (by kernel_rfl)
 split at h
 ·rename_i e;subst e;cases h;exact SC (v:=.int .i64 0) (by kernel_rfl:Tryz.prog.underlying 230=some (.map 3 3)) (by kernel_rfl)
 cases h
attribute [go_sem_proc] reduceIte Nat.reduceLT Nat.reduceEqDiff Nat.reduceAdd Nat.reduceBEq Nat.reduceMul Nat.reduceSub Nat.reduceGT Nat.reducePow Nat.reduceLeDiff Int.reduceToNat Int.reduceLT Int.reduceAdd Int.reduceSub Nat.reduceGT Nat.reduceLeDiff Int.reduceBEq Int.reduceGT Int.reduceLE Int.reduceGE
attribute [go_sem] Anv decide_true decide_false Bool.false_eq_true beq_self_eq_true
noncomputable def B(rs:AoO):Base:=Acl Tryz.prog (fun i=>if i=1 then some [.val (.map (some (rs 1)))]else if i=3 then some [.val (.map (some (rs 3)))]else if i=0 then some (C1 u8 glob0.l)else match rs.ev with|some (b,m,has,v)=>if i=b+4 then some (i64 has::(C1 i64 v.l++[.val (.map (some m))]))else none|none=>none) (fun f xs=>[25,27,31,32,36,38,39,41,43,47,48,49,50,51,52,53,54,55,63,64,68,69,70,71,72,73,74,75,76,77,79,80,85,86,87,88,89,90,91,92,96,104,105,106,110,112,115,116,117,135,136,137,138,139,140,141,148,149,165,168,169,171].contains f||(f==1000000&&xs.isEmpty)) (fun t=>if t=120 then some ⟨rs 1,9,4,.string,.bool false,TE (fun k=>.str k) (fun x=>.bool x) tab1⟩else if t=214 then some ⟨rs 3,5,9,.int .u8,.str ([]:List UInt8),TE (fun k=>u8 k) (fun x=>.str x) tab3⟩else if t=138 then(match rs.ev with|some (b,m,_,_)=>some ⟨m,3,141,.int .i64,.val .nilFunc,AmG (b+4)⟩|none=>none)else none) (fun i=>if i=7 then some ((Lib.pow10Tab).map fun z=>Value.int .u64 z).toArray else none) (mp:=mpF) (hmp:=Ald)
theorem tbk{t F x}(h:NV Tryz.prog t=x):((B rs).env F).tab t=x:=(Pm Tryz.prog t).trans h
theorem ok:(B rs).Ok:=Q6 _ _ _ _ _ (mp:=mpF) (hmp:=Ald)
theorem own3(F:Out)(xs:List Operand):((B rs).env F).own 3 xs=false:=rfl
theorem own4(F:Out)(xs:List Operand):((B rs).env F).own 4 xs=false:=rfl
theorem own5(F:Out)(xs:List Operand):((B rs).env F).own 5 xs=false:=rfl
theorem own6(F:Out)(xs:List Operand):((B rs).env F).own 6 xs=false:=rfl
theorem own7(F:Out)(xs:List Operand):((B rs).env F).own 7 xs=false:=rfl
theorem own8(F:Out)(xs:List Operand):((B rs).env F).own 8 xs=false:=rfl
theorem own9(F:Out)(xs:List Operand):((B rs).env F).own 9 xs=false:=rfl
theorem AmW(F:Out)(xs:List Operand):((B rs).env F).own 10 xs=false:=rfl
theorem AmT(F:Out)(xs:List Operand):((B rs).env F).own 11 xs=false:=rfl
theorem AmB(F:Out)(xs:List Operand):((B rs).env F).own 12 xs=false:=rfl
theorem Aod(F:Out)(xs:List Operand):((B rs).env F).own 13 xs=false:=rfl
theorem Aoc(F:Out)(xs:List Operand):((B rs).env F).own 14 xs=false:=rfl
theorem An9(F:Out)(xs:List Operand):((B rs).env F).own 15 xs=false:=rfl
theorem Am8(F:Out)(xs:List Operand):((B rs).env F).own 16 xs=false:=rfl
theorem AmE(F:Out)(xs:List Operand):((B rs).env F).own 17 xs=false:=rfl
theorem Aop(F:Out)(xs:List Operand):((B rs).env F).own 18 xs=false:=rfl
theorem AmL(F:Out)(xs:List Operand):((B rs).env F).own 19 xs=false:=rfl
theorem AoD(F:Out)(xs:List Operand):((B rs).env F).own 20 xs=false:=rfl
theorem An4(F:Out)(xs:List Operand):((B rs).env F).own 21 xs=false:=rfl
theorem Aof(F:Out)(xs:List Operand):((B rs).env F).own 22 xs=false:=rfl
theorem AmX(F:Out)(xs:List Operand):((B rs).env F).own 23 xs=false:=rfl
theorem AoK(F:Out)(xs:List Operand):((B rs).env F).own 24 xs=false:=rfl
theorem Aoz(F:Out)(xs:List Operand):((B rs).env F).own 25 xs=true:=rfl
theorem Anx(F:Out)(xs:List Operand):((B rs).env F).own 26 xs=false:=rfl
theorem Amg(F:Out)(xs:List Operand):((B rs).env F).own 27 xs=true:=rfl
theorem Amy(F:Out)(xs:List Operand):((B rs).env F).own 28 xs=false:=rfl
theorem Am9(F:Out)(xs:List Operand):((B rs).env F).own 31 xs=true:=rfl
theorem Am4(F:Out)(xs:List Operand):((B rs).env F).own 32 xs=true:=rfl
theorem Al6(F:Out)(xs:List Operand):((B rs).env F).own 33 xs=false:=rfl
theorem AmF(F:Out)(xs:List Operand):((B rs).env F).own 34 xs=false:=rfl
theorem Anw(F:Out)(xs:List Operand):((B rs).env F).own 35 xs=false:=rfl
theorem AmY(F:Out)(xs:List Operand):((B rs).env F).own 36 xs=true:=rfl
theorem Aov(F:Out)(xs:List Operand):((B rs).env F).own 37 xs=false:=rfl
theorem AmS(F:Out)(xs:List Operand):((B rs).env F).own 38 xs=true:=rfl
theorem Anp(F:Out)(xs:List Operand):((B rs).env F).own 39 xs=true:=rfl
theorem AnL(F:Out)(xs:List Operand):((B rs).env F).own 40 xs=false:=rfl
theorem AnH(F:Out)(xs:List Operand):((B rs).env F).own 41 xs=true:=rfl
theorem AmU(F:Out)(xs:List Operand):((B rs).env F).own 42 xs=false:=rfl
theorem Amo(F:Out)(xs:List Operand):((B rs).env F).own 43 xs=true:=rfl
theorem AoJ(F:Out)(xs:List Operand):((B rs).env F).own 44 xs=false:=rfl
theorem Amz(F:Out)(xs:List Operand):((B rs).env F).own 45 xs=false:=rfl
theorem Amd(F:Out)(xs:List Operand):((B rs).env F).own 47 xs=true:=rfl
theorem Am6(F:Out)(xs:List Operand):((B rs).env F).own 48 xs=true:=rfl
theorem Aoq(F:Out)(xs:List Operand):((B rs).env F).own 49 xs=true:=rfl
theorem Aox(F:Out)(xs:List Operand):((B rs).env F).own 50 xs=true:=rfl
theorem AnK(F:Out)(xs:List Operand):((B rs).env F).own 51 xs=true:=rfl
theorem AmO(F:Out)(xs:List Operand):((B rs).env F).own 52 xs=true:=rfl
theorem Aob(F:Out)(xs:List Operand):((B rs).env F).own 53 xs=true:=rfl
theorem Aog(F:Out)(xs:List Operand):((B rs).env F).own 54 xs=true:=rfl
theorem Aol(F:Out)(xs:List Operand):((B rs).env F).own 55 xs=true:=rfl
theorem Amt(F:Out)(xs:List Operand):((B rs).env F).own 56 xs=false:=rfl
theorem AoA(F:Out)(xs:List Operand):((B rs).env F).own 57 xs=false:=rfl
theorem AnS(F:Out)(xs:List Operand):((B rs).env F).own 58 xs=false:=rfl
theorem Ano(F:Out)(xs:List Operand):((B rs).env F).own 59 xs=false:=rfl
theorem Anf(F:Out)(xs:List Operand):((B rs).env F).own 60 xs=false:=rfl
theorem AmV(F:Out)(xs:List Operand):((B rs).env F).own 63 xs=true:=rfl
theorem Aoj(F:Out)(xs:List Operand):((B rs).env F).own 64 xs=true:=rfl
theorem Aos(F:Out)(xs:List Operand):((B rs).env F).own 68 xs=true:=rfl
theorem AnC(F:Out)(xs:List Operand):((B rs).env F).own 69 xs=true:=rfl
theorem Ana(F:Out)(xs:List Operand):((B rs).env F).own 70 xs=true:=rfl
theorem An5(F:Out)(xs:List Operand):((B rs).env F).own 71 xs=true:=rfl
theorem Anj(F:Out)(xs:List Operand):((B rs).env F).own 72 xs=true:=rfl
theorem Amr(F:Out)(xs:List Operand):((B rs).env F).own 73 xs=true:=rfl
theorem Ame(F:Out)(xs:List Operand):((B rs).env F).own 74 xs=true:=rfl
theorem Amm(F:Out)(xs:List Operand):((B rs).env F).own 75 xs=true:=rfl
theorem An6(F:Out)(xs:List Operand):((B rs).env F).own 76 xs=true:=rfl
theorem AmN(F:Out)(xs:List Operand):((B rs).env F).own 77 xs=true:=rfl
theorem Ami(F:Out)(xs:List Operand):((B rs).env F).own 78 xs=false:=rfl
theorem AnY(F:Out)(xs:List Operand):((B rs).env F).own 79 xs=true:=rfl
theorem Amk(F:Out)(xs:List Operand):((B rs).env F).own 80 xs=true:=rfl
theorem AoB(F:Out)(xs:List Operand):((B rs).env F).own 81 xs=false:=rfl
theorem Amp(F:Out)(xs:List Operand):((B rs).env F).own 82 xs=false:=rfl
theorem Al5(F:Out)(xs:List Operand):((B rs).env F).own 83 xs=false:=rfl
theorem Amc(F:Out)(xs:List Operand):((B rs).env F).own 84 xs=false:=rfl
theorem AnD(F:Out)(xs:List Operand):((B rs).env F).own 85 xs=true:=rfl
theorem Amx(F:Out)(xs:List Operand):((B rs).env F).own 86 xs=true:=rfl
theorem Aoh(F:Out)(xs:List Operand):((B rs).env F).own 87 xs=true:=rfl
theorem AmK(F:Out)(xs:List Operand):((B rs).env F).own 88 xs=true:=rfl
theorem Ann(F:Out)(xs:List Operand):((B rs).env F).own 89 xs=true:=rfl
theorem Amv(F:Out)(xs:List Operand):((B rs).env F).own 90 xs=true:=rfl
theorem AnB(F:Out)(xs:List Operand):((B rs).env F).own 91 xs=true:=rfl
theorem Aou(F:Out)(xs:List Operand):((B rs).env F).own 92 xs=true:=rfl
theorem Amb(F:Out)(xs:List Operand):((B rs).env F).own 93 xs=false:=rfl
theorem Anb(F:Out)(xs:List Operand):((B rs).env F).own 94 xs=false:=rfl
theorem AnE(F:Out)(xs:List Operand):((B rs).env F).own 95 xs=false:=rfl
theorem Anq(F:Out)(xs:List Operand):((B rs).env F).own 96 xs=true:=rfl
theorem Aok(F:Out)(xs:List Operand):((B rs).env F).own 97 xs=false:=rfl
theorem Aoo(F:Out)(xs:List Operand):((B rs).env F).own 98 xs=false:=rfl
theorem AnF(F:Out)(xs:List Operand):((B rs).env F).own 99 xs=false:=rfl
theorem Alf(F:Out)(xs:List Operand):((B rs).env F).own 100 xs=false:=rfl
theorem AjX(F:Out)(xs:List Operand):((B rs).env F).own 101 xs=false:=rfl
theorem AkN(F:Out)(xs:List Operand):((B rs).env F).own 103 xs=false:=rfl
theorem AiX(F:Out)(xs:List Operand):((B rs).env F).own 104 xs=true:=rfl
theorem Aj5(F:Out)(xs:List Operand):((B rs).env F).own 105 xs=true:=rfl
theorem AkI(F:Out)(xs:List Operand):((B rs).env F).own 106 xs=true:=rfl
theorem AkH(F:Out)(xs:List Operand):((B rs).env F).own 107 xs=false:=rfl
theorem Aku(F:Out)(xs:List Operand):((B rs).env F).own 110 xs=true:=rfl
theorem AkC(F:Out)(xs:List Operand):((B rs).env F).own 111 xs=false:=rfl
theorem Aj4(F:Out)(xs:List Operand):((B rs).env F).own 112 xs=true:=rfl
theorem AjU(F:Out)(xs:List Operand):((B rs).env F).own 113 xs=false:=rfl
theorem Akx(F:Out)(xs:List Operand):((B rs).env F).own 114 xs=false:=rfl
theorem Alu(F:Out)(xs:List Operand):((B rs).env F).own 115 xs=true:=rfl
theorem AlO(F:Out)(xs:List Operand):((B rs).env F).own 116 xs=true:=rfl
theorem AjY(F:Out)(xs:List Operand):((B rs).env F).own 117 xs=true:=rfl
theorem AkU(F:Out)(xs:List Operand):((B rs).env F).own 119 xs=false:=rfl
theorem AkJ(F:Out)(xs:List Operand):((B rs).env F).own 120 xs=false:=rfl
theorem Ai2(F:Out)(xs:List Operand):((B rs).env F).own 121 xs=false:=rfl
theorem Ai4(F:Out)(xs:List Operand):((B rs).env F).own 122 xs=false:=rfl
theorem AiQ(F:Out)(xs:List Operand):((B rs).env F).own 123 xs=false:=rfl
theorem AkE(F:Out)(xs:List Operand):((B rs).env F).own 124 xs=false:=rfl
theorem Ajl(F:Out)(xs:List Operand):((B rs).env F).own 125 xs=false:=rfl
theorem AlF(F:Out)(xs:List Operand):((B rs).env F).own 126 xs=false:=rfl
theorem AkP(F:Out)(xs:List Operand):((B rs).env F).own 127 xs=false:=rfl
theorem Ajo(F:Out)(xs:List Operand):((B rs).env F).own 128 xs=false:=rfl
theorem Aiy(F:Out)(xs:List Operand):((B rs).env F).own 129 xs=false:=rfl
theorem Akt(F:Out)(xs:List Operand):((B rs).env F).own 130 xs=false:=rfl
theorem AlB(F:Out)(xs:List Operand):((B rs).env F).own 131 xs=false:=rfl
theorem AkR(F:Out)(xs:List Operand):((B rs).env F).own 132 xs=false:=rfl
theorem Akc(F:Out)(xs:List Operand):((B rs).env F).own 133 xs=false:=rfl
theorem Ajz(F:Out)(xs:List Operand):((B rs).env F).own 134 xs=false:=rfl
theorem AlI(F:Out)(xs:List Operand):((B rs).env F).own 135 xs=true:=rfl
theorem AjA(F:Out)(xs:List Operand):((B rs).env F).own 136 xs=true:=rfl
theorem Ak8(F:Out)(xs:List Operand):((B rs).env F).own 137 xs=true:=rfl
theorem Alo(F:Out)(xs:List Operand):((B rs).env F).own 138 xs=true:=rfl
theorem AjK(F:Out)(xs:List Operand):((B rs).env F).own 139 xs=true:=rfl
theorem AjN(F:Out)(xs:List Operand):((B rs).env F).own 140 xs=true:=rfl
theorem Ais(F:Out)(xs:List Operand):((B rs).env F).own 141 xs=true:=rfl
theorem Akj(F:Out)(xs:List Operand):((B rs).env F).own 142 xs=false:=rfl
theorem Ako(F:Out)(xs:List Operand):((B rs).env F).own 143 xs=false:=rfl
theorem AjS(F:Out)(xs:List Operand):((B rs).env F).own 144 xs=false:=rfl
theorem Aj0(F:Out)(xs:List Operand):((B rs).env F).own 145 xs=false:=rfl
theorem Ajx(F:Out)(xs:List Operand):((B rs).env F).own 146 xs=false:=rfl
theorem Alk(F:Out)(xs:List Operand):((B rs).env F).own 147 xs=false:=rfl
theorem AjP(F:Out)(xs:List Operand):((B rs).env F).own 148 xs=true:=rfl
theorem AkT(F:Out)(xs:List Operand):((B rs).env F).own 149 xs=true:=rfl
theorem Ait(F:Out)(xs:List Operand):((B rs).env F).own 152 xs=false:=rfl
theorem AjW(F:Out)(xs:List Operand):((B rs).env F).own 156 xs=false:=rfl
theorem Ajw(F:Out)(xs:List Operand):((B rs).env F).own 159 xs=false:=rfl
theorem Aig(F:Out)(xs:List Operand):((B rs).env F).own 160 xs=false:=rfl
theorem Aiz(F:Out)(xs:List Operand):((B rs).env F).own 161 xs=false:=rfl
theorem AkY(F:Out)(xs:List Operand):((B rs).env F).own 162 xs=false:=rfl
theorem Ain(F:Out)(xs:List Operand):((B rs).env F).own 163 xs=false:=rfl
theorem Aju(F:Out)(xs:List Operand):((B rs).env F).own 165 xs=true:=rfl
theorem Aji(F:Out)(xs:List Operand):((B rs).env F).own 166 xs=false:=rfl
theorem AlC(F:Out)(xs:List Operand):((B rs).env F).own 167 xs=false:=rfl
theorem Ajt(F:Out)(xs:List Operand):((B rs).env F).own 168 xs=true:=rfl
theorem Ajb(F:Out)(xs:List Operand):((B rs).env F).own 169 xs=true:=rfl
theorem Ajq(F:Out)(xs:List Operand):((B rs).env F).own 171 xs=true:=rfl
theorem Agq(F:Out):((B rs).env F).own 1000000 []=true:=rfl
theorem AhF(F:Out)(x:Operand)(xs:List Operand):((B rs).env F).own 1000000 (x::xs)=false:=rfl
attribute [go_sem] Agq AhF
theorem mixed:Tryz.prog.follows .mixedOrders=true:=by kernel_rfl
theorem tb3(F):((B rs).env F).tab 3=some ⟨.int .i64,1,8,[i64 0]⟩:=tbk (by kernel_rfl)
theorem tb4(F):((B rs).env F).tab 4=some ⟨.bool,1,1,[.bool false]⟩:=tbk (by kernel_rfl)
theorem tb5(F):((B rs).env F).tab 5=some ⟨.int .u8,1,1,[u8 ((0:UInt8))]⟩:=tbk (by kernel_rfl)
theorem tb9(F):((B rs).env F).tab 9=some ⟨.string,1,16,[.str (([]:List UInt8))]⟩:=tbk (by kernel_rfl)
theorem AlG(F):((B rs).env F).tab 22=some ⟨.slice 29,1,24,[.sl true (L Ae ([]))]⟩:=tbk (by kernel_rfl)
theorem tb24(F):((B rs).env F).tab 24=some ⟨.struct #[⟨"Railway", 3,0,false,"","", 0⟩,⟨"No", 3,1,false,"","", 8⟩],2,16,[i64 0,i64 0]⟩:=tbk (by kernel_rfl)
theorem tb25(F):((B rs).env F).tab 25=some ⟨.slice 294,1,24,[.sl true (L Dm ([]))]⟩:=tbk (by kernel_rfl)
theorem tb27(F):((B rs).env F).tab 27=some ⟨.struct #[⟨"Kind", 3,0,false,"","", 0⟩,⟨"Ref", 24,1,false,"","", 8⟩,⟨"Wagon", 3,3,false,"","", 24⟩,⟨"Place", 3,4,false,"","", 32⟩,⟨"Other", 3,5,false,"","", 40⟩,⟨"Number", 3,6,false,"","", 48⟩,⟨"From", 3,7,false,"","", 56⟩,⟨"To", 3,8,false,"","", 64⟩,⟨"Code", 3,9,false,"","", 72⟩,⟨"Dest", 3,10,false,"","", 80⟩,⟨"Class", 3,11,false,"","", 88⟩,⟨"Weight", 3,12,false,"","", 96⟩,⟨"Amount", 3,13,false,"","", 104⟩,⟨"Text", 9,14,false,"","", 112⟩,⟨"Parts", 25,15,false,"","", 128⟩],16,152,[i64 0,i64 0,i64 0,i64 0,i64 0,i64 0,i64 0,i64 0,i64 0,i64 0,i64 0,i64 0,i64 0,i64 0,.str (([]:List UInt8)),.sl true (L Dm ([]))]⟩:=tbk (by kernel_rfl)
theorem AlT(F):((B rs).env F).tab 29=some ⟨.struct #[⟨"Ref", 24,0,false,"","", 0⟩,⟨"By", 24,2,false,"","", 16⟩,⟨"Time", 3,4,false,"","", 32⟩,⟨"Item", 27,5,false,"","", 40⟩],21,192,[i64 0,i64 0,i64 0,i64 0,i64 0,i64 0,i64 0,i64 0,i64 0,i64 0,i64 0,i64 0,i64 0,i64 0,i64 0,i64 0,i64 0,i64 0,i64 0,.str (([]:List UInt8)),.sl true (L Dm ([]))]⟩:=tbk (by kernel_rfl)
theorem AjF(F):((B rs).env F).tab 32=some ⟨.slice 47,1,24,[.sl true (L Aa ([]))]⟩:=tbk (by kernel_rfl)
theorem tb34(F):((B rs).env F).tab 34=some ⟨.struct #[⟨"Name", 9,0,false,"","", 0⟩,⟨"For", 3,1,false,"","", 16⟩,⟨"Clauses", 32,2,false,"","", 24⟩],3,48,[.str (([]:List UInt8)),i64 0,.sl true (L Aa ([]))]⟩:=tbk (by kernel_rfl)
theorem tb35(F):((B rs).env F).tab 35=some ⟨.int .i64,1,8,[i64 0]⟩:=tbk (by kernel_rfl)
theorem Al1(F):((B rs).env F).tab 40=some ⟨.slice 69,1,24,[.sl true (L Af ([]))]⟩:=tbk (by kernel_rfl)
theorem Afy(F):((B rs).env F).tab 42=some ⟨.array 4 3,4,32,(C1 i64 ((Arr.rep 4 0)).l)⟩:=tbk (by kernel_rfl)
theorem AlX(F):((B rs).env F).tab 43=some ⟨.slice 45,1,24,[.sl true (L cApi_Expr ([]))]⟩:=tbk (by kernel_rfl)
theorem Am0(F):((B rs).env F).tab 45=some ⟨.struct #[⟨"Op", 3,0,false,"","", 0⟩,⟨"N", 3,1,false,"","", 8⟩,⟨"Unit", 42,2,false,"","", 16⟩,⟨"L", 43,6,false,"","", 48⟩],7,72,(i64 0::i64 0::(C1 i64 ((Arr.rep 4 0)).l++[.sl true (L cApi_Expr ([]))]))⟩:=tbk (by kernel_rfl)
theorem Al0(F):((B rs).env F).tab 47=some ⟨.struct #[⟨"Name", 9,0,false,"","", 0⟩,⟨"When", 40,1,false,"","", 16⟩,⟨"Pay", 45,2,false,"","", 40⟩],9,112,(.str (([]:List UInt8))::.sl true (L Af ([]))::i64 0::i64 0::(C1 i64 ((Arr.rep 4 0)).l++[.sl true (L cApi_Expr ([]))]))⟩:=tbk (by kernel_rfl)
theorem tb50(F):((B rs).env F).tab 50=some ⟨.array 16 3,16,128,(C1 i64 ((Arr.rep 16 0)).l)⟩:=tbk (by kernel_rfl)
theorem tb52(F):((B rs).env F).tab 52=some ⟨.struct #[⟨"Has", 3,0,false,"","", 0⟩,⟨"V", 50,1,false,"","", 8⟩],17,136,(i64 0::C1 i64 ((Arr.rep 16 0)).l)⟩:=tbk (by kernel_rfl)
theorem Aif(F):((B rs).env F).tab 54=some ⟨.slice 172,1,24,[.sl true (L Ak ([]))]⟩:=tbk (by kernel_rfl)
theorem AlS(F):((B rs).env F).tab 69=some ⟨.struct #[⟨"Attr", 3,0,false,"","", 0⟩,⟨"Low", 3,1,false,"","", 8⟩,⟨"High", 3,2,false,"","", 16⟩],3,24,[i64 0,i64 0,i64 0]⟩:=tbk (by kernel_rfl)
theorem tb75(F):((B rs).env F).tab 75=some ⟨.pointer 78,1,8,[.val (.pointer none)]⟩:=tbk (by kernel_rfl)
theorem Ah5(F):((B rs).env F).tab 76=some ⟨.slice 9,1,24,[.sl true (L Bc ([]))]⟩:=tbk (by kernel_rfl)
theorem tb78(F):((B rs).env F).tab 78=some ⟨.struct #[⟨"l", 76,0,false,"","wagonpool/tparse", 0⟩],1,24,[.sl true (L Bc ([]))]⟩:=tbk (by kernel_rfl)
theorem tb92(F):((B rs).env F).tab 92=some ⟨.map 9 47,1,8,[.val (.map none)]⟩:=tbk (by kernel_rfl)
theorem tb96(F):((B rs).env F).tab 96=some ⟨.func #[] #[35] false,1,8,[.val .nilFunc]⟩:=tbk (by kernel_rfl)
theorem Adc(F):((B rs).env F).tab 100=some ⟨.slice 159,1,24,[.sl true (L Am ([]))]⟩:=tbk (by kernel_rfl)
theorem Agn(F):((B rs).env F).tab 104=some ⟨.struct #[⟨"at", 3,0,false,"","wagonpool/tparse", 0⟩,⟨"e", 35,1,false,"","wagonpool/tparse", 8⟩],2,16,[i64 0,i64 0]⟩:=tbk (by kernel_rfl)
theorem AoG(F):((B rs).env F).tab 106=some ⟨.pointer 108,1,8,[.val (.pointer none)]⟩:=tbk (by kernel_rfl)
theorem Ani(F):((B rs).env F).tab 108=some ⟨.struct #[⟨"l", 100,0,false,"","wagonpool/tparse", 0⟩,⟨"end", 3,1,false,"","wagonpool/tparse", 24⟩],2,32,[.sl true (L Am ([])),i64 0]⟩:=tbk (by kernel_rfl)
theorem AoM(F):((B rs).env F).tab 116=some ⟨.struct #[⟨"code", 54,0,false,"","wagonpool/tcode", 0⟩],1,24,[.sl true (L Ak ([]))]⟩:=tbk (by kernel_rfl)
theorem Ail(F):((B rs).env F).tab 120=some ⟨.map 9 4,1,8,[.val (.map none)]⟩:=tbk (by kernel_rfl)
theorem Ajc(F):((B rs).env F).tab 123=some ⟨.array 256 5,256,256,(C1 u8 ((Arr.rep 256 (0:UInt8))).l)⟩:=tbk (by kernel_rfl)
theorem Yl(F):((B rs).env F).tab 143=some ⟨.slice 3,1,24,[.sl true (L IA ([]))]⟩:=tbk (by kernel_rfl)
theorem Aja(F):((B rs).env F).tab 145=some ⟨.slice 96,1,24,[.sl true []]⟩:=tbk (by kernel_rfl)
theorem AkQ(F):((B rs).env F).tab 146=some ⟨.map 3 201,1,8,[.val (.map none)]⟩:=tbk (by kernel_rfl)
theorem Ajn(F):((B rs).env F).tab 150=some ⟨.array 16 3,16,128,(C1 i64 ((Arr.rep 16 0)).l)⟩:=tbk (by kernel_rfl)
theorem Agy(F):((B rs).env F).tab 152=some ⟨.struct #[⟨"low", 150,0,false,"","wagonpool/tbox", 0⟩,⟨"high", 150,16,false,"","wagonpool/tbox", 128⟩],32,256,((C1 i64 ((Arr.rep 16 0)).l++C1 i64 ((Arr.rep 16 0)).l))⟩:=tbk (by kernel_rfl)
theorem AhV(F):((B rs).env F).tab 159=some ⟨.struct #[⟨"Kind", 3,0,false,"","", 0⟩,⟨"Text", 9,1,false,"","", 8⟩,⟨"N", 3,2,false,"","", 24⟩,⟨"At", 3,3,false,"","", 32⟩],4,40,[i64 0,.str (([]:List UInt8)),i64 0,i64 0]⟩:=tbk (by kernel_rfl)
theorem Amn(F):((B rs).env F).tab 170=some ⟨.pointer 116,1,8,[.val (.pointer none)]⟩:=tbk (by kernel_rfl)
theorem AbN(F):((B rs).env F).tab 172=some ⟨.struct #[⟨"Op", 3,0,false,"","", 0⟩,⟨"N", 3,1,false,"","", 8⟩,⟨"M", 3,2,false,"","", 16⟩],3,24,[i64 0,i64 0,i64 0]⟩:=tbk (by kernel_rfl)
theorem Aea(F):((B rs).env F).tab 198=some ⟨.slice 42,1,24,[.sl true (L (Qo i64 4) ([]))]⟩:=tbk (by kernel_rfl)
theorem AoE(F):((B rs).env F).tab 199=some ⟨.func #[198] #[42,4] false,1,8,[.val .nilFunc]⟩:=tbk (by kernel_rfl)
theorem AnU(F):((B rs).env F).tab 201=some ⟨.struct #[⟨"unit", 199,0,false,"","wagonpool/ttype", 0⟩],1,8,[.val .nilFunc]⟩:=tbk (by kernel_rfl)
theorem AjO(F):((B rs).env F).tab 203=some ⟨.array 16 42,64,512,((C1 i64 ((Arr.rep 4 0)).l++(C1 i64 ((Arr.rep 4 0)).l++(C1 i64 ((Arr.rep 4 0)).l++(C1 i64 ((Arr.rep 4 0)).l++(C1 i64 ((Arr.rep 4 0)).l++(C1 i64 ((Arr.rep 4 0)).l++(C1 i64 ((Arr.rep 4 0)).l++(C1 i64 ((Arr.rep 4 0)).l++(C1 i64 ((Arr.rep 4 0)).l++(C1 i64 ((Arr.rep 4 0)).l++(C1 i64 ((Arr.rep 4 0)).l++(C1 i64 ((Arr.rep 4 0)).l++(C1 i64 ((Arr.rep 4 0)).l++(C1 i64 ((Arr.rep 4 0)).l++(C1 i64 ((Arr.rep 4 0)).l++C1 i64 ((Arr.rep 4 0)).l))))))))))))))))⟩:=tbk (by kernel_rfl)
theorem Aga(F):((B rs).env F).tab 208=some ⟨.slice 152,1,24,[.sl true (L Et ([]))]⟩:=tbk (by kernel_rfl)
theorem Agi(F):((B rs).env F).tab 209=some ⟨.slice 4,1,24,[.sl true (L LF ([]))]⟩:=tbk (by kernel_rfl)
theorem Aow(F):((B rs).env F).tab 214=some ⟨.map 5 9,1,8,[.val (.map none)]⟩:=tbk (by kernel_rfl)
theorem Anr(F):((B rs).env F).tab 220=some ⟨.int .u64,1,8,[u64 ((0:UInt64))]⟩:=tbk (by kernel_rfl)
theorem Am3:NV Tryz.prog 225=some ⟨.array 256 4,256,256,(C1 AV.bool ((Arr.rep 256 false)).l)⟩:=Yw (by kernel_rfl) (by kernel_rfl)
theorem AiZ(F:Out):((B rs).env F).tab 225=some ⟨.array 256 4,256,256,(C1 AV.bool ((Arr.rep 256 false)).l)⟩:=(Pm Tryz.prog 225).trans Am3
theorem AjJ(F):((B rs).env F).tab 230=some ⟨.map 3 3,1,8,[.val (.map none)]⟩:=tbk (by kernel_rfl)
theorem AjL:AV.int .u64 0=u64 0:=rfl
theorem Ahu:AV.int .u64 32=u64 32:=rfl
theorem P6:AV.int .u64 4294967295=u64 4294967295:=rfl
theorem Kg:AV.int .u64 9007199254740992=u64 9007199254740992:=rfl
theorem IC:AV.int .u64 9223372036854775807=u64 9223372036854775807:=rfl
theorem Aon:AV.int .u8 0=u8 0:=rfl
theorem Ant:AV.int .u8 9=u8 9:=rfl
theorem AjQ:AV.int .u8 10=u8 10:=rfl
theorem Ai3:AV.int .u8 13=u8 13:=rfl
theorem Ak7:AV.int .u8 32=u8 32:=rfl
theorem Akq:AV.int .u8 35=u8 35:=rfl
theorem AiV:AV.int .u8 48=u8 48:=rfl
theorem AlL:AV.int .u8 57=u8 57:=rfl
theorem Aj2:AV.int .u8 97=u8 97:=rfl
theorem Agm:AV.int .u8 122=u8 122:=rfl
theorem Agv:AV.int .u8 128=u8 128:=rfl
theorem AjB{F}(l:List UInt8)(x:AV):JC ((B rs).env F) 9 (.str l) x=match idx x l.length with
 |some i=>some (u8 (nth l i))
 |none=>none:=YT (tb9 F) l x
theorem Aoi{F}:(((B rs).env F).bty=some 159)=False:=AqO (fun h:(none:Option TypeId)=some 159=>by cases h)
theorem glb3{F}:((B rs).env F).G 3=some [.val (.map (some (rs 3)))]:=rfl
theorem lkm3{F}(k:UInt8):Ka ((B rs).env F) 214 (.val (.map (some (rs 3)))) (u8 k) false=some (.str (Jb ([]:List UInt8) tab3 k)):=X6 (cK:=fun k=>u8 k) (cV:=fun x=>.str x) (z:=([]:List UInt8)) (l:=tab3) rfl (fun k=>rfl) AkX k
theorem Y1{F}{O:Ac}(s x:AV):AU ((B rs).env F) O .append [100,100] [s,x]=match GT O x with
   | some new=>if GY x 4=true then none else if ∀cs∈new,cs.length=4 then(match s with
     | .sl full els=>
      if els=[]/\full=true then
       if FT new.length 40 then some (.bs false O.length new.length 0 new.length,O++[.buf 4 new false])else none
      else if new=[]then some (.sl full els,O)
      else if full=true/\(∀cs∈els,cs.length=4)/\FT (els.length+new.length) 40
      then some (.bs false O.length (els.length+new.length) 0 (els.length+new.length),O++[.buf 4 (els++new) false])else none
     | .bs full id tot off len=>match O[id]? with
      | some (.buf k els ro)=>
       if els.length=tot/\k=4/\FT (len+new.length) 40 then
        if off=0/\len=tot then some (.bs false id (tot+new.length) 0 (tot+new.length),O.set id (.buf k (els++new) ro))
        else if new=[]then some (.bs full id tot off len,O)
        else if full then some (.bs false O.length (len+new.length) 0 (len+new.length),O++[.buf k ((els.drop off).take len++new) false])
        else none
       else none
      |some (.tb T l)=>NI O id tot off len 40 4 159 T l new
      |_=>none
     |_=>none)
    else none
   |none=>none:=Gf (Adc F) (AhV F) (by decide) (Adc F) (.inl ⟨_,rfl⟩) s x []
theorem glb1{F}:((B rs).env F).G 1=some [.val (.map (some (rs 1)))]:=rfl
theorem lkm1{F}(k:List UInt8):Ka ((B rs).env F) 120 (.val (.map (some (rs 1)))) (.str k) false=some (.bool (Jb false tab1 k)):=X6 (cK:=fun k=>.str k) (cV:=fun x=>.bool x) (z:=false) (l:=tab1) rfl (fun k=>rfl) AgP k
theorem AnR{F}:(((B rs).env F).bty=some 152)=False:=AqO (fun h:(none:Option TypeId)=some 152=>by cases h)
theorem AfM{F}{O:Ac}(id off:Nat)(x:AV):Ao ((B rs).env F) O 150 (.ref id off) x=match idx x 16 with
 |some i=>some (.ref id (off+i*1))
 |none=>none:=Va (Ajn F) (tb3 F) id off x
theorem nb52{F}:(((B rs).env F).bty=some 52)=False:=AqO (fun h:(none:Option TypeId)=some 52=>by cases h)
theorem Ajs{F}{O:Ac}(f:Bool)(l:List AoR)(x:AV):Ao ((B rs).env F) O 40 (.sl f (L Af l)) x=match idx x l.length with
 |some i=>some (.rp (Af (nth l i)))
 |none=>none:=Lc Af (Al1 F) (AlS F) (fun _=>rfl) f l x
theorem nb69{F}:(((B rs).env F).bty=some 69)=False:=AqO (fun h:(none:Option TypeId)=some 69=>by cases h)
theorem AiB{F}{O:Ac}(l c:Int):E0 ((B rs).env F) O 208 (i64 l) (i64 c)=if Mk l c 256 then some (.bs (l==c) O.length l.toNat 0 l.toNat,O++[.buf 32 (List.replicate l.toNat ((C1 i64 ((Arr.rep 16 0)).l++C1 i64 ((Arr.rep 16 0)).l))) false])else none:=RG (Aga F) (Agy F) (by decide) l c
theorem AlQ{F}{O:Ac}(l c:Int):E0 ((B rs).env F) O 209 (i64 l) (i64 c)=if Mk l c 1 then some (.bs (l==c) O.length l.toNat 0 l.toNat,O++[.buf 1 (List.replicate l.toNat [.bool false]) false])else none:=RG (Agi F) (tb4 F) (by decide) l c
theorem Ale{F}{O:Ac}(f:Bool)(l:List AoU)(x:AV):Ao ((B rs).env F) O 32 (.sl f (L Aa l)) x=match idx x l.length with
 |some i=>some (.rp (Aa (nth l i)))
 |none=>none:=Lc Aa (AjF F) (Al0 F) (fun y=>by simp only[Aa,Api,Apc,DK,Apy]) f l x
theorem nb47{F}:(((B rs).env F).bty=some 47)=False:=AqO (fun h:(none:Option TypeId)=some 47=>by cases h)
theorem AhS{F}{O:Ac}(f:Bool)(id tot off len:Nat)(x:AV):Ao ((B rs).env F) O 208 (.bs f id tot off len) x=match O[id]?,idx x len with
 |some (.buf k els _),some i=>if els.length=tot/\k=32 then some (.eref id tot (off+i) 0)else none
 |_,_=>none:=Qb (Aga F) (Agy F) (by decide) f id tot off len x
theorem AhJ{F}{O:Ac}(f:Bool)(id tot off len:Nat)(x:AV):Ao ((B rs).env F) O 209 (.bs f id tot off len) x=match O[id]?,idx x len with
 |some (.buf k els _),some i=>if els.length=tot/\k=1 then some (.eref id tot (off+i) 0)else none
 |_,_=>none:=Qb (Agi F) (tb4 F) (by decide) f id tot off len x
theorem AkM{F}{O:Ac}(f:Bool)(l:List AoT)(x:AV):Ao ((B rs).env F) O 43 (.sl f (L cApi_Expr l)) x=match idx x l.length with
 |some i=>some (.rp (cApi_Expr (nth l i)))
 |none=>none:=Lc cApi_Expr (AlX F) (Am0 F) (fun y=>by rw[Nm];simp only[Api,Apc,DK,Apy]) f l x
theorem nb45{F}:(((B rs).env F).bty=some 45)=False:=AqO (fun h:(none:Option TypeId)=some 45=>by cases h)
theorem Ahv{F}{O:Ac}(f:Bool)(l:List AoP)(x:AV):Ao ((B rs).env F) O 100 (.sl f (L Am l)) x=match idx x l.length with
 |some i=>some (.rp (Am (nth l i)))
 |none=>none:=Lc Am (Adc F) (AhV F) (fun _=>rfl) f l x
theorem AiC{F}{O:Ac}(f:Bool)(id tot off len:Nat)(x:AV):Ao ((B rs).env F) O 32 (.bs f id tot off len) x=match O[id]?,idx x len with
 |some (.buf k els _),some i=>if els.length=tot/\k=9 then some (.eref id tot (off+i) 0)else none
 |_,_=>none:=Qb (AjF F) (Al0 F) (by decide) f id tot off len x
theorem AaO{F}{O:Ac}(f:Bool)(l:List (List UInt8))(x:AV):Ao ((B rs).env F) O 76 (.sl f (L Bc l)) x=match idx x l.length with
 |some i=>some (.rp (Bc (nth l i)))
 |none=>none:=Lc Bc (Ah5 F) (tb9 F) (fun _=>rfl) f l x
theorem Abc{F}{O:Ac}(x:AV):Ao ((B rs).env F) O 123 (.glob 0) x=match idx x 256 with
 |some i=>some (.rp ((C1 u8 glob0.l).drop i))
 |none=>none:=Ady (Ajc F) (tb5 F) rfl x
theorem Ans{F}{O:Ac}(l c:Int):E0 ((B rs).env F) O 76 (i64 l) (i64 c)=if Mk l c 16 then some (.bs (l==c) O.length l.toNat 0 l.toNat,O++[.buf 1 (List.replicate l.toNat [.str (([]:List UInt8))]) false])else none:=RG (Ah5 F) (tb9 F) (by decide) l c
theorem Akk{F}{O:Ac}(f:Bool)(id tot off len:Nat)(x:AV):Ao ((B rs).env F) O 76 (.bs f id tot off len) x=match O[id]?,idx x len with
 |some (.buf k els _),some i=>if els.length=tot/\k=1 then some (.eref id tot (off+i) 0)else none
 |_,_=>none:=Qb (Ah5 F) (tb9 F) (by decide) f id tot off len x
theorem nb42{F}:(((B rs).env F).bty=some 42)=False:=AqO (fun h:(none:Option TypeId)=some 42=>by cases h)
theorem Akv{F}{O:Ac}(id off:Nat)(x:AV):Ao ((B rs).env F) O 42 (.ref id off) x=match idx x 4 with
 |some i=>some (.ref id (off+i*1))
 |none=>none:=Va (Afy F) (tb3 F) id off x
theorem Ahh{F}{O:Ac}(f:Bool)(l:List Int)(x:AV):Ao ((B rs).env F) O 143 (.sl f (L IA l)) x=match idx x l.length with
 |some i=>some (.rp (IA (nth l i)))
 |none=>none:=Lc IA (Yl F) (tb3 F) (fun _=>rfl) f l x
theorem Aey{F}{O:Ac}(s x:AV):AU ((B rs).env F) O .append [43,43] [s,x]=match GT O x with
   | some new=>if GY x 7=true then none else if ∀cs∈new,cs.length=7 then(match s with
     | .sl full els=>
      if els=[]/\full=true then
       if FT new.length 72 then some (.bs false O.length new.length 0 new.length,O++[.buf 7 new false])else none
      else if new=[]then some (.sl full els,O)
      else if full=true/\(∀cs∈els,cs.length=7)/\FT (els.length+new.length) 72
      then some (.bs false O.length (els.length+new.length) 0 (els.length+new.length),O++[.buf 7 (els++new) false])else none
     | .bs full id tot off len=>match O[id]? with
      | some (.buf k els ro)=>
       if els.length=tot/\k=7/\FT (len+new.length) 72 then
        if off=0/\len=tot then some (.bs false id (tot+new.length) 0 (tot+new.length),O.set id (.buf k (els++new) ro))
        else if new=[]then some (.bs full id tot off len,O)
        else if full then some (.bs false O.length (len+new.length) 0 (len+new.length),O++[.buf k ((els.drop off).take len++new) false])
        else none
       else none
      |some (.tb T l)=>NI O id tot off len 72 7 45 T l new
      |_=>none
     |_=>none)
    else none
   |none=>none:=Gf (AlX F) (Am0 F) (by decide) (AlX F) (.inl ⟨_,rfl⟩) s x []
theorem Ac0{F}{O:Ac}(s x:AV):AU ((B rs).env F) O .append [40,40] [s,x]=match GT O x with
   | some new=>if GY x 3=true then none else if ∀cs∈new,cs.length=3 then(match s with
     | .sl full els=>
      if els=[]/\full=true then
       if FT new.length 24 then some (.bs false O.length new.length 0 new.length,O++[.buf 3 new false])else none
      else if new=[]then some (.sl full els,O)
      else if full=true/\(∀cs∈els,cs.length=3)/\FT (els.length+new.length) 24
      then some (.bs false O.length (els.length+new.length) 0 (els.length+new.length),O++[.buf 3 (els++new) false])else none
     | .bs full id tot off len=>match O[id]? with
      | some (.buf k els ro)=>
       if els.length=tot/\k=3/\FT (len+new.length) 24 then
        if off=0/\len=tot then some (.bs false id (tot+new.length) 0 (tot+new.length),O.set id (.buf k (els++new) ro))
        else if new=[]then some (.bs full id tot off len,O)
        else if full then some (.bs false O.length (len+new.length) 0 (len+new.length),O++[.buf k ((els.drop off).take len++new) false])
        else none
       else none
      |some (.tb T l)=>NI O id tot off len 24 3 69 T l new
      |_=>none
     |_=>none)
    else none
   |none=>none:=Gf (Al1 F) (AlS F) (by decide) (Al1 F) (.inl ⟨_,rfl⟩) s x []
theorem nb34{F}:(((B rs).env F).bty=some 34)=False:=AqO (fun h:(none:Option TypeId)=some 34=>by cases h)
theorem nb3{F}:(((B rs).env F).bty=some 3)=False:=AqO (fun h:(none:Option TypeId)=some 3=>by cases h)
theorem nb35{F}:(((B rs).env F).bty=some 35)=False:=AqO (fun h:(none:Option TypeId)=some 35=>by cases h)
theorem Adx{F}{O:Ac}(s x:AV):AU ((B rs).env F) O .append [32,32] [s,x]=match GT O x with
   | some new=>if GY x 9=true then none else if ∀cs∈new,cs.length=9 then(match s with
     | .sl full els=>
      if els=[]/\full=true then
       if FT new.length 112 then some (.bs false O.length new.length 0 new.length,O++[.buf 9 new false])else none
      else if new=[]then some (.sl full els,O)
      else if full=true/\(∀cs∈els,cs.length=9)/\FT (els.length+new.length) 112
      then some (.bs false O.length (els.length+new.length) 0 (els.length+new.length),O++[.buf 9 (els++new) false])else none
     | .bs full id tot off len=>match O[id]? with
      | some (.buf k els ro)=>
       if els.length=tot/\k=9/\FT (len+new.length) 112 then
        if off=0/\len=tot then some (.bs false id (tot+new.length) 0 (tot+new.length),O.set id (.buf k (els++new) ro))
        else if new=[]then some (.bs full id tot off len,O)
        else if full then some (.bs false O.length (len+new.length) 0 (len+new.length),O++[.buf k ((els.drop off).take len++new) false])
        else none
       else none
      |some (.tb T l)=>NI O id tot off len 112 9 47 T l new
      |_=>none
     |_=>none)
    else none
   |none=>none:=Gf (AjF F) (Al0 F) (by decide) (AjF F) (.inl ⟨_,rfl⟩) s x []
theorem Amu{F}:(((B rs).env F).bty=some 172)=False:=AqO (fun h:(none:Option TypeId)=some 172=>by cases h)
theorem ZD{F}(a0:Int)(a1:Int)(a2:Int)(b0:Int)(b1:Int)(b2:Int):B8 ((B rs).env F) .eql 172 (.agg [i64 a0,i64 a1,i64 a2]) (.agg [i64 b0,i64 b1,i64 b2])=some (.bool (((a0==b0)&&((a1==b1)&&(a2==b2))))) :=
 Qh (AbN F) (by kernel_rfl) (by kernel_rfl) (LR (by decide) (tb3 F) rfl rfl (MC a0 b0) (LR (by decide) (tb3 F) rfl rfl (MC a1 b1) (WY (by decide) (tb3 F) rfl rfl (MC a2 b2))))
theorem Ai7{F}{O:Ac}(f:Bool)(l:List Ao1)(x:AV):Ao ((B rs).env F) O 54 (.sl f (L Ak l)) x=match idx x l.length with
 |some i=>some (.rp (Ak (nth l i)))
 |none=>none:=Lc Ak (Aif F) (AbN F) (fun _=>rfl) f l x
theorem Ak4{F}{O:Ac}(l c:Int):E0 ((B rs).env F) O 143 (i64 l) (i64 c)=if Mk l c 8 then some (.bs (l==c) O.length l.toNat 0 l.toNat,O++[.buf 1 (List.replicate l.toNat [i64 0]) false])else none:=RG (Yl F) (tb3 F) (by decide) l c
theorem AmM{F}:(((B rs).env F).bty=some 225)=False:=AqO (fun h:(none:Option TypeId)=some 225=>by cases h)
theorem Ahx{F}(id off:Nat)(x:AV){O:Ac}:Ao ((B rs).env F) O 225 (.ref id off) x=match idx x 256 with
 |some i=>some (.ref id (off+i*1))
 |none=>none:=Va (AiZ F) (tb4 F) id off x
theorem AiD{F}:((B rs).env F).mp 230=some (i64 0):=rfl
theorem S2{F}:H7 ((B rs).env F) 230=some (.int .i64):=Ou (AjJ F) (tb3 F)
theorem AgS{F}:P0 ((B rs).env F) 230=false:=by unfold P0;rw[S2]
theorem Aes:mp0 230=MI Qq no2:=Afe
theorem Ahr(a0:Int){m:RP}{k:Int}:KG (MI Qq m) (.int k) (some (i64 a0))=MI Qq (up2 m k (some a0)):=X4 (c:=Qq) a0
theorem AeC{F}{m:RP}(k:Int):JB ((B rs).env F) 230 false (MI Qq m) (i64 k) false=some (i64 (((m k).getD (0:Int)))):=QC (c:=Qq) (z:=(0:Int)) S2 AiD rfl false
theorem Ajk{F}{O:Ac}{id:Nat}{k:Int}{x:AV}:LQ ((B rs).env F) O 230 (.mref id) (i64 k) x=(match O[id]? with
 |some (.mp st f)=>if x.closed=true/\false=st then some (O.set id (.mp st (KG f (.int k) (some x))))else none
 |_=>none):=WM S2
theorem AnO{F}(cs:List AV)(x:AV):JC ((B rs).env F) 42 (.agg cs) x=match idx x 4 with
 |some i=>partA (⟨.int .i64,1,8,[i64 0]⟩:TD) cs (i*1)
 |none=>none:=QH (Afy F) (tb3 F) cs x
theorem AhZ{F}{op:BinOp}(a b:Arr Int 4):B8 ((B rs).env F) op 42 (.agg (C1 i64 a.l)) (.agg (C1 i64 b.l))=match op with
 |.eql=>some (.bool (a==b))
 |.neq=>some (.bool (!(a==b)))
 |_=>none:=Wo (Afy F) (tb3 F) a b
theorem AeY{F}{op:BinOp}(a:Arr Int 4):B8 ((B rs).env F) op 42 (.agg (C1 i64 a.l)) (.agg [i64 0,i64 0,i64 0,i64 0])=match op with
 |.eql=>some (.bool (a==(⟨[0,0,0,0],rfl⟩:Arr Int 4)))
 |.neq=>some (.bool (!(a==(⟨[0,0,0,0],rfl⟩:Arr Int 4))))
 |_=>none:=AhZ a (⟨[0,0,0,0],rfl⟩:Arr Int 4)
theorem Ala{F}:((B rs).env F).mp 120=some (.bool false):=rfl
theorem S7{F}:H7 ((B rs).env F) 120=some .string:=Ou (Ail F) (tb9 F)
theorem AhE{F}:P0 ((B rs).env F) 120=true:=by unfold P0;rw[S7]
theorem Adp:mp0 120=MS KP no2:=Aff
theorem AgB(a0:Bool){m:ME}{k:List UInt8}:KG (MS KP m) (.str k) (some (.bool a0))=MS KP (up2 m k (some a0)):=AfC (c:=KP) a0
theorem Adb{F}{m:ME}(k:List UInt8):JB ((B rs).env F) 120 true (MS KP m) (.str k) false=some (.bool (((m k).getD false))):=QZ (c:=KP) (z:=false) S7 Ala rfl false
theorem Ajg{F}{O:Ac}{id:Nat}{k:List UInt8}{x:AV}:LQ ((B rs).env F) O 120 (.mref id) (.str k) x=(match O[id]? with
 |some (.mp st f)=>if x.closed=true/\true=st then some (O.set id (.mp st (KG f (.str k) (some x))))else none
 |_=>none):=WL S7
theorem Ac7{F}(a0:Int)(a1:Int)(a2:Int)(b0:Int)(b1:Int)(b2:Int):B8 ((B rs).env F) .neq 69 (.agg [i64 a0,i64 a1,i64 a2]) (.agg [i64 b0,i64 b1,i64 b2])=some (.bool (!((a0==b0)&&((a1==b1)&&(a2==b2))))) :=
 Ql (AlS F) (by kernel_rfl) (by kernel_rfl) (LR (by decide) (tb3 F) rfl rfl (MC a0 b0) (LR (by decide) (tb3 F) rfl rfl (MC a1 b1) (WY (by decide) (tb3 F) rfl rfl (MC a2 b2))))
theorem Agd{F}{O:Ac}(f:Bool)(l:List (Arr Int 4))(x:AV):Ao ((B rs).env F) O 198 (.sl f (L (Qo i64 4) l)) x=match idx x l.length with
 |some i=>some (.rp ((Qo i64 4) (nth l i)))
 |none=>none:=Lc (Qo i64 4) (Aea F) (Afy F) (fun y=>DK (a:=y)) f l x
theorem AkK{F}{O:Ac}(cs:List AV)(x:AV):Ao ((B rs).env F) O 42 (.rp cs) x=match idx x 4 with
 |some i=>some (.rp (cs.drop i))
 |none=>none:=AlD (Afy F) (tb3 F) rfl cs x
theorem AnG{F}:(((B rs).env F).bty=some 201)=False:=AqO (fun h:(none:Option TypeId)=some 201=>by cases h)
theorem Ajj{F}:((B rs).env F).mp 146=some (.junk):=rfl
theorem Ru{F}:H7 ((B rs).env F) 146=some (.int .i64):=Ou (AkQ F) (tb3 F)
theorem AfX{F}:P0 ((B rs).env F) 146=false:=by unfold P0;rw[Ru]
theorem Adu:mp0 146=MI Ef no2:=Afe
theorem UP{m:Jp}{k:Int}:KG (MI Ef m) (.int k) (some (.agg [.fn 119 []]))=MI Ef (up2 m k (some ⟨119,0⟩)):=X4 (c:=Ef) ⟨119,0⟩
theorem Vg{m:Jp}{k:Int}:KG (MI Ef m) (.int k) (some (.agg [.fn 120 []]))=MI Ef (up2 m k (some ⟨120,0⟩)):=X4 (c:=Ef) ⟨120,0⟩
theorem UG{m:Jp}{k:Int}(n:Int):KG (MI Ef m) (.int k) (some (.agg [.fn 165 [.rp [i64 n]]]))=MI Ef (up2 m k (some ⟨165,n⟩)):=X4 (c:=Ef) ⟨165,n⟩
theorem AeO{F}{m:Jp}(k:Int):JB ((B rs).env F) 146 false (MI Ef m) (i64 k) false=some (Ef (((m k).getD (⟨0,0⟩:Ao4)))):=QC (c:=Ef) (z:=(⟨0,0⟩:Ao4)) Ru Ajj rfl false
theorem Aio{F}{O:Ac}{id:Nat}{k:Int}{x:AV}:LQ ((B rs).env F) O 146 (.mref id) (i64 k) x=(match O[id]? with
 |some (.mp st f)=>if x.closed=true/\false=st then some (O.set id (.mp st (KG f (.int k) (some x))))else none
 |_=>none):=WM Ru
theorem AnW{F}:(((B rs).env F).bty=some 203)=False:=AqO (fun h:(none:Option TypeId)=some 203=>by cases h)
theorem AhI{F}(a0 a1 a2 a3 a4 a5 a6 a7 a8 a9 a10 a11 a12 a13 a14 a15:Arr Int 4)(x:AV):JC ((B rs).env F) 203 (.agg ((C1 i64 a0.l++(C1 i64 a1.l++(C1 i64 a2.l++(C1 i64 a3.l++(C1 i64 a4.l++(C1 i64 a5.l++(C1 i64 a6.l++(C1 i64 a7.l++(C1 i64 a8.l++(C1 i64 a9.l++(C1 i64 a10.l++(C1 i64 a11.l++(C1 i64 a12.l++(C1 i64 a13.l++(C1 i64 a14.l++C1 i64 a15.l))))))))))))))))) x=match idx x 16 with
 |some i=>some (.agg (C1 i64 (nth [a0,a1,a2,a3,a4,a5,a6,a7,a8,a9,a10,a11,a12,a13,a14,a15] i).l))
 |none=>none:=by
 have h:=Wg (E:=(B rs).env F) (AjO F) (Afy F) rfl [a0,a1,a2,a3,a4,a5,a6,a7,a8,a9,a10,a11,a12,a13,a14,a15] rfl x;simp only[ApL,Aqr,Arc,List.flatten_nil,Aqf]at h;exact h
theorem Z2{F}{O:Ac}(s x:AV):AU ((B rs).env F) O .append [198,198] [s,x]=match GT O x with
   | some new=>if GY x 4=true then none else if ∀cs∈new,cs.length=4 then(match s with
     | .sl full els=>
      if els=[]/\full=true then
       if FT new.length 32 then some (.bs false O.length new.length 0 new.length,O++[.buf 4 new false])else none
      else if new=[]then some (.sl full els,O)
      else if full=true/\(∀cs∈els,cs.length=4)/\FT (els.length+new.length) 32
      then some (.bs false O.length (els.length+new.length) 0 (els.length+new.length),O++[.buf 4 (els++new) false])else none
     | .bs full id tot off len=>match O[id]? with
      | some (.buf k els ro)=>
       if els.length=tot/\k=4/\FT (len+new.length) 32 then
        if off=0/\len=tot then some (.bs false id (tot+new.length) 0 (tot+new.length),O.set id (.buf k (els++new) ro))
        else if new=[]then some (.bs full id tot off len,O)
        else if full then some (.bs false O.length (len+new.length) 0 (len+new.length),O++[.buf k ((els.drop off).take len++new) false])
        else none
       else none
      |some (.tb T l)=>NI O id tot off len 32 4 42 T l new
      |_=>none
     |_=>none)
    else none
   |none=>none:=Gf (Aea F) (Afy F) (by decide) (Aea F) (.inl ⟨_,rfl⟩) s x []
theorem Ad0{F}{op:BinOp}(a:Arr Int 4):B8 ((B rs).env F) op 42 (.agg (C1 i64 a.l)) (.agg [i64 1,i64 0,i64 0,i64 0])=match op with
 |.eql=>some (.bool (a==(⟨[1,0,0,0],rfl⟩:Arr Int 4)))
 |.neq=>some (.bool (!(a==(⟨[1,0,0,0],rfl⟩:Arr Int 4))))
 |_=>none:=AhZ a (⟨[1,0,0,0],rfl⟩:Arr Int 4)
theorem Aj6{F}{O:Ac}(f:Bool)(id tot off len:Nat)(x:AV):Ao ((B rs).env F) O 22 (.bs f id tot off len) x=match O[id]?,idx x len with
 |some (.buf k els _),some i=>if els.length=tot/\k=21 then some (.eref id tot (off+i) 0)else none
 |_,_=>none:=Qb (AlG F) (AlT F) (by decide) f id tot off len x
theorem Ajh(a0:Int)(a1:Int)(a2:Int)(a3:Int)(a4:Int)(a5:Int)(a6:Int)(a7:Int)(a8:Int)(a9:Int)(a10:Int)(a11:Int)(a12:Int)(a13:Int)(a14:Int)(a15:Int)(a16:Int)(a17:Int)(a18:Int)(a19:List UInt8)(a20:List AoY){l:List Ao0}{j i:Nat}(h:i<l.length):((L Ae l).set j [i64 a0,i64 a1,i64 a2,i64 a3,i64 a4,i64 a5,i64 a6,i64 a7,i64 a8,i64 a9,i64 a10,i64 a11,i64 a12,i64 a13,i64 a14,i64 a15,i64 a16,i64 a17,i64 a18,.str a19,.sl false (L Dm a20)])[i]?=some (Ae (nth (l.set j (({ Ref:=({ Zg:=a0,No:=a1 }:AoX),By:=({ Zg:=a2,No:=a3 }:AoX),Zt:=a4,Zu:=({ Za:=a5,Ref:=({ Zg:=a6,No:=a7 }:AoX),Zj:=a8,Zk:=a9,Zl:=a10,Zm:=a11,Zn:=a12,To:=a13,Code:=a14,Zo:=a15,Zp:=a16,Zq:=a17,Zr:=a18,Zb:=a19,Zs:=a20 }:AoZ) }:Ao0))) i)):=AeW (c:=Ae) (y:=({ Ref:=({ Zg:=a0,No:=a1 }:AoX),By:=({ Zg:=a2,No:=a3 }:AoX),Zt:=a4,Zu:=({ Za:=a5,Ref:=({ Zg:=a6,No:=a7 }:AoX),Zj:=a8,Zk:=a9,Zl:=a10,Zm:=a11,Zn:=a12,To:=a13,Code:=a14,Zo:=a15,Zp:=a16,Zq:=a17,Zr:=a18,Zb:=a19,Zs:=a20 }:AoZ) }:Ao0)) h
theorem AkD{F}{O:Ac}(f:Bool)(l:List Ao0)(x:AV):Ao ((B rs).env F) O 22 (.sl f (L Ae l)) x=match idx x l.length with
 |some i=>some (.rp (Ae (nth l i)))
 |none=>none:=Lc Ae (AlG F) (AlT F) (fun _=>rfl) f l x
theorem nb29{F}:(((B rs).env F).bty=some 29)=False:=AqO (fun h:(none:Option TypeId)=some 29=>by cases h)
theorem AeK{F}{O:Ac}(s x:AV):AU ((B rs).env F) O .append [22,22] [s,x]=match GT O x with
   | some new=>if GY x 21=true then none else if ∀cs∈new,cs.length=21 then(match s with
     | .sl full els=>
      if els=[]/\full=true then
       if FT new.length 192 then some (.bs false O.length new.length 0 new.length,O++[.buf 21 new false])else none
      else if new=[]then some (.sl full els,O)
      else if full=true/\(∀cs∈els,cs.length=21)/\FT (els.length+new.length) 192
      then some (.bs false O.length (els.length+new.length) 0 (els.length+new.length),O++[.buf 21 (els++new) false])else none
     | .bs full id tot off len=>match O[id]? with
      | some (.buf k els ro)=>
       if els.length=tot/\k=21/\FT (len+new.length) 192 then
        if off=0/\len=tot then some (.bs false id (tot+new.length) 0 (tot+new.length),O.set id (.buf k (els++new) ro))
        else if new=[]then some (.bs full id tot off len,O)
        else if full then some (.bs false O.length (len+new.length) 0 (len+new.length),O++[.buf k ((els.drop off).take len++new) false])
        else none
       else none
      |some (.tb T l)=>NI O id tot off len 192 21 29 T l new
      |_=>none
     |_=>none)
    else none
   |none=>none:=Gf (AlG F) (AlT F) (by decide) (AlG F) (.inl ⟨_,rfl⟩) s x []
theorem AeP{F}{O:Ac}(s x:AV):AU ((B rs).env F) O .append [76,76] [s,x]=match GT O x with
   | some new=>if GY x 1=true then none else if ∀cs∈new,cs.length=1 then(match s with
     | .sl full els=>
      if els=[]/\full=true then
       if FT new.length 16 then some (.bs false O.length new.length 0 new.length,O++[.buf 1 new false])else none
      else if new=[]then some (.sl full els,O)
      else if full=true/\(∀cs∈els,cs.length=1)/\FT (els.length+new.length) 16
      then some (.bs false O.length (els.length+new.length) 0 (els.length+new.length),O++[.buf 1 (els++new) false])else none
     | .bs full id tot off len=>match O[id]? with
      | some (.buf k els ro)=>
       if els.length=tot/\k=1/\FT (len+new.length) 16 then
        if off=0/\len=tot then some (.bs false id (tot+new.length) 0 (tot+new.length),O.set id (.buf k (els++new) ro))
        else if new=[]then some (.bs full id tot off len,O)
        else if full then some (.bs false O.length (len+new.length) 0 (len+new.length),O++[.buf k ((els.drop off).take len++new) false])
        else none
       else none
      |some (.tb T l)=>NI O id tot off len 16 1 9 T l new
      |_=>none
     |_=>none)
    else none
   |none=>none:=Gf (Ah5 F) (tb9 F) (by decide) (Ah5 F) (.inl ⟨_,rfl⟩) s x []
theorem AjD(a:Arr Int 4):List.take 4 (List.map (fun c=>[c]) (C1 i64 a.l))=L IA a.l:=XZ a
theorem AbC{F}{O:Ac}(f:Bool)(a0 a1 a2:List UInt8)(x:AV):Ao ((B rs).env F) O 76 (.sl f [[.str a0],[.str a1],[.str a2]]) x=match idx x 3 with
 |some i=>some (.rp [.str (nth [a0,a1,a2] i)])
 |none=>none:=AaO f [a0,a1,a2] x
theorem ZM{F}{O:Ac}(f:Bool)(a0 a1:List UInt8)(x:AV):Ao ((B rs).env F) O 76 (.sl f [[.str a0],[.str a1]]) x=match idx x 2 with
 |some i=>some (.rp [.str (nth [a0,a1] i)])
 |none=>none:=AaO f [a0,a1] x
theorem AkZ{F}{O:Ac}(f:Bool)(id tot off len:Nat)(x:AV):Ao ((B rs).env F) O 54 (.bs f id tot off len) x=match O[id]?,idx x len with
 |some (.buf k els _),some i=>if els.length=tot/\k=3 then some (.eref id tot (off+i) 0)else none
 |_,_=>none:=Qb (Aif F) (AbN F) (by decide) f id tot off len x
theorem AcW{F}{O:Ac}(s x:AV):AU ((B rs).env F) O .append [54,54] [s,x]=match GT O x with
   | some new=>if GY x 3=true then none else if ∀cs∈new,cs.length=3 then(match s with
     | .sl full els=>
      if els=[]/\full=true then
       if FT new.length 24 then some (.bs false O.length new.length 0 new.length,O++[.buf 3 new false])else none
      else if new=[]then some (.sl full els,O)
      else if full=true/\(∀cs∈els,cs.length=3)/\FT (els.length+new.length) 24
      then some (.bs false O.length (els.length+new.length) 0 (els.length+new.length),O++[.buf 3 (els++new) false])else none
     | .bs full id tot off len=>match O[id]? with
      | some (.buf k els ro)=>
       if els.length=tot/\k=3/\FT (len+new.length) 24 then
        if off=0/\len=tot then some (.bs false id (tot+new.length) 0 (tot+new.length),O.set id (.buf k (els++new) ro))
        else if new=[]then some (.bs full id tot off len,O)
        else if full then some (.bs false O.length (len+new.length) 0 (len+new.length),O++[.buf k ((els.drop off).take len++new) false])
        else none
       else none
      |some (.tb T l)=>NI O id tot off len 24 3 172 T l new
      |_=>none
     |_=>none)
    else none
   |none=>none:=Gf (Aif F) (AbN F) (by decide) (Aif F) (.inl ⟨_,rfl⟩) s x []
theorem Agf{F}{O:Ac}(f:Bool)(id tot off len:Nat)(x:AV):Ao ((B rs).env F) O 143 (.bs f id tot off len) x=match O[id]?,idx x len with
 |some (.buf k els _),some i=>if els.length=tot/\k=1 then some (.eref id tot (off+i) 0)else none
 |_,_=>none:=Qb (Yl F) (tb3 F) (by decide) f id tot off len x
theorem YC{F}{O:Ac}(s x:AV):AU ((B rs).env F) O .append [143,143] [s,x]=match GT O x with
   | some new=>if GY x 1=true then none else if ∀cs∈new,cs.length=1 then(match s with
     | .sl full els=>
      if els=[]/\full=true then
       if FT new.length 8 then some (.bs false O.length new.length 0 new.length,O++[.buf 1 new false])else none
      else if new=[]then some (.sl full els,O)
      else if full=true/\(∀cs∈els,cs.length=1)/\FT (els.length+new.length) 8
      then some (.bs false O.length (els.length+new.length) 0 (els.length+new.length),O++[.buf 1 (els++new) false])else none
     | .bs full id tot off len=>match O[id]? with
      | some (.buf k els ro)=>
       if els.length=tot/\k=1/\FT (len+new.length) 8 then
        if off=0/\len=tot then some (.bs false id (tot+new.length) 0 (tot+new.length),O.set id (.buf k (els++new) ro))
        else if new=[]then some (.bs full id tot off len,O)
        else if full then some (.bs false O.length (len+new.length) 0 (len+new.length),O++[.buf k ((els.drop off).take len++new) false])
        else none
       else none
      |some (.tb T l)=>NI O id tot off len 8 1 3 T l new
      |_=>none
     |_=>none)
    else none
   |none=>none:=Gf (Yl F) (tb3 F) (by decide) (Yl F) (.inl ⟨_,rfl⟩) s x []
theorem Aoe{F}:(((B rs).env F).bty=some 116)=False:=AqO (fun h:(none:Option TypeId)=some 116=>by cases h)
theorem ZE{F}{O:Ac}(f:Bool)(a0 a1 a2 a3 x:AV):Ao ((B rs).env F) O 145 (.sl f [[a0],[a1],[a2],[a3]]) x=match idx x 4 with
 |some i=>some (.rp [nth [a0,a1,a2,a3] i])
 |none=>none:=Lc (fun y=>[y]) (Aja F) (tb96 F) (fun _=>rfl) f [a0,a1,a2,a3] x
theorem mz92{F}:((B rs).env F).mp 92=some (.agg (.str (([]:List UInt8))::.sl false (L Af ([]))::i64 0::i64 0::(C1 i64 ((Arr.rep 4 0)).l++[.sl false (L cApi_Expr ([]))]))):=rfl
theorem Uf{F}:H7 ((B rs).env F) 92=some .string:=Ou (tb92 F) (tb9 F)
theorem Aka{F}:P0 ((B rs).env F) 92=true:=by unfold P0;rw[Uf]
theorem AhR:mp0 92=MS SJ no2:=Aff
theorem Ajp(a0:List UInt8)(a1:List AoR)(a2:Int)(a3:Int)(a4:Arr Int 4)(a5:List AoT){m:R5}{k:List UInt8}:KG (MS SJ m) (.str k) (some (.agg (.str a0::.sl false (L Af a1)::i64 a2::i64 a3::(C1 i64 a4.l++[.sl false (L cApi_Expr a5)]))))=MS SJ (up2 m k (some (({ Zd:=a0,Ze:=a1,Pay:=(AoT.mk a2 a3 a4 a5) }:AoU)))):=AfC (c:=SJ) (({ Zd:=a0,Ze:=a1,Pay:=(AoT.mk a2 a3 a4 a5) }:AoU))
theorem Adz{F}{m:R5}(k:List UInt8):JB ((B rs).env F) 92 true (MS SJ m) (.str k) true=some (.tup [.agg (.str ((((m k).getD R4)).Zd)::.sl false (L Af ((((m k).getD R4)).Ze))::i64 (((((m k).getD R4)).Pay).Op)::i64 (((((m k).getD R4)).Pay).N)::(C1 i64 (((((m k).getD R4)).Pay).Unit).l++[.sl false (L cApi_Expr (((((m k).getD R4)).Pay).L))])),.bool ((m k).isSome)]):=QZ (c:=SJ) (z:=R4) Uf mz92 rfl true
theorem AnJ{F}{O:Ac}{id:Nat}{k:List UInt8}{x:AV}:LQ ((B rs).env F) O 92 (.mref id) (.str k) x=(match O[id]? with
 |some (.mp st f)=>if x.closed=true/\true=st then some (O.set id (.mp st (KG f (.str k) (some x))))else none
 |_=>none):=WL Uf
theorem AnQ{F}{O:Ac}{id:Nat}{k:List UInt8}:Ph ((B rs).env F) O 92 (.mref id) (.str k)=(match O[id]? with
 |some (.mp st f)=>if true=st then some (O.set id (.mp st (KG f (.str k) none)))else none
 |_=>none):=Aa4 Uf
theorem K2{v:Ao4}(h:v.k=119):Ef v=.agg [.fn 119 []]:=by unfold Ef;simp[h]
theorem K0{v:Ao4}(h:v.k=120):Ef v=.agg [.fn 120 []]:=by unfold Ef;simp[h]
theorem K5{v:Ao4}(h:v.k=165):Ef v=.agg [.fn 165 [.rp [i64 v.n]]]:=by unfold Ef;simp[h]
attribute [go_sem] Am Et Af Ad3 Vi YA RK YX Nm Aa Ad Qn WQ Dm Uh Ae Ak PA Pq own3 own4 own5 own6 own7 own8 own9 AmW AmT AmB Aod Aoc An9 Am8 AmE Aop AmL AoD An4 Aof AmX AoK Aoz Anx Amg Amy Am9 Am4 Al6 AmF Anw AmY Aov AmS Anp AnL AnH AmU Amo AoJ Amz Amd Am6 Aoq Aox AnK AmO Aob Aog Aol Amt AoA AnS Ano Anf AmV Aoj Aos AnC Ana An5 Anj Amr Ame Amm An6 AmN Ami AnY Amk AoB Amp Al5 Amc AnD Amx Aoh AmK Ann Amv AnB Aou Amb Anb AnE Anq Aok Aoo AnF Alf AjX AkN AiX Aj5 AkI AkH Aku AkC Aj4 AjU Akx Alu AlO AjY AkU AkJ Ai2 Ai4 AiQ AkE Ajl AlF AkP Ajo Aiy Akt AlB AkR Akc Ajz AlI AjA Ak8 Alo AjK AjN Ais Akj Ako AjS Aj0 Ajx Alk AjP AkT Ait AjW Ajw Aig Aiz AkY Ain Aju Aji AlC Ajt Ajb Ajq tb3 tb4 tb5 tb9 AlG tb24 tb25 tb27 AlT AjF tb34 tb35 Al1 Afy AlX Am0 Al0 tb50 tb52 Aif AlS tb75 Ah5 tb78 tb92 tb96 Adc Agn AoG Ani AoM Ail Ajc Yl Aja AkQ Ajn Agy AhV Amn AbN Aea AoE AnU AjO Aga Agi Aow Anr AiZ AjJ AjL Ahu P6 Kg IC Aon Ant AjQ Ai3 Ak7 Akq AiV AlL Aj2 Agm Agv AjB Aoi glb3 lkm3 Y1 glb1 lkm1 AnR AfM nb52 Ajs nb69 AiB AlQ Ale nb47 AhS AhJ AkM nb45 Ahv AiC AaO Abc Ans Akk nb42 Akv Ahh Aey Ac0 nb34 nb3 nb35 Adx Amu ZD Ai7 Ak4 AmM Ahx AiD S2 AgS Aes Ahr AeC Ajk AnO AhZ AeY Ala S7 AhE Adp AgB Adb Ajg Ac7 Agd AkK AnG Ajj Ru AfX Adu UP Vg UG AeO Aio AnW AhI Z2 Ad0 Aj6 Ajh AkD nb29 AeK AeP AjD AbC ZM AkZ AcW Agf YC Aoe ZE mz92 Uf Aka AhR Ajp Adz AnJ AnQ
def GG(a:UInt8):Option (Bool) :=(if(decide ((97:UInt8)<=a))then some (decide (a<=(122:UInt8))) else some false:Option (Bool)).bind fun b=>some b
def GE(a:UInt8):Option (Bool) :=(if(decide ((48:UInt8)<=a))then some (decide (a<=(57:UInt8))) else some false:Option (Bool)).bind fun b=>some b
def Dc(b:List UInt8)(c:UInt8->Option (Bool))(a:Int):Option ((Int)⊕((Unit)⊕((Unit)⊕(Int)))) :=if (decide (a<(b.length:Int)))then if InR a b.length then (c (nth b a.toNat)).bind fun d=>if(!d)then ((some a).bind fun e=>some (.inr e)).bind fun f=>some (.inr (.inr f)) else some (.inl (w64 (a+1))) else none else some (.inr (.inl ()))
def IQ(a:List UInt8)(b:UInt8->Option (Bool)):Option (Int) :=((AY (fun(v:Int)=>Dc a b v) 0).bind fun x=>match x with
 |.inl ()=>some (.inl ())
 |.inr z=>some z:Option ((Unit)⊕(Int))).bind fun x=>match x with
 |.inl ()=>some (a.length:Int)
 |.inr z=>some z
def Ha(a:UInt8):Option (Bool) :=((GG a).bind fun b=>if b then some true else (GE a).bind fun c=>some c:Option (Bool)).bind fun d=>some d
def BX(b:List UInt8)(c:Int)(a:Int):Option ((Int×Int)⊕((Int)⊕((Int)⊕(Int×Int)))) :=if (decide (a<(b.length:Int)))then if InR a b.length then lt1 (w64 ((w64 (10*c))+(((nth b a.toNat)-(48:UInt8)).toNat:Int))) fun(d:Int)=>if(decide (d>1099511627776))then ((some (0,2)).bind fun e=>some (.inr e)).bind fun f=>some (.inr (.inr f)) else some (.inl (d,(w64 (a+1)))) else none else some (.inr (.inl c))
def HH(a:List UInt8):Option (Int×Int) :=(if(decide ((a.length:Int)>1))then if InR 0 a.length then some ((nth a 0)==(48:UInt8)) else none else some false:Option (Bool)).bind fun b=>if b then some (0,150) else ((AY (fun(v:Int×Int)=>BX a v.1 v.2) (0,0)).bind fun x=>match x with
  |.inl c=>some (.inl c)
  |.inr z=>some z:Option ((Int)⊕(Int×Int))).bind fun x=>match x with
  |.inl d=>some (d,0)
  |.inr z=>some z
def D7(b:List UInt8)(a:List UInt8):Option (Bool) :=(if(decide ((b.length:Int)≥(a.length:Int)))then if InB (a.length:Int) b.length then some ((b.take ((a.length:Int).toNat))==a) else none else some false:Option (Bool)).bind fun c=>some c
def Df(a:List UInt8)(b:List UInt8):Option (Bool) :=(D7 a b).bind fun c=>some c
def Ej(l:List UInt8)(c:UInt8):Option (Int):=Vp l c
def DD(a:List UInt8)(b:UInt8):Option (Int) :=(Ej a b).bind fun c=>some c
def Dg(a:List UInt8)(b:UInt8):Option (Int) :=(DD a b).bind fun c=>some c
def H0(a:List UInt8):Option (AoP×Int) :=if InR 0 a.length then (GG (nth a 0)).bind fun e=>if e then (IQ a Ha).bind fun b=>if InB b a.length then if(decide (((a.take b.toNat).length:Int)>32))then some (({ Za:=0,Zb:=([]:List UInt8),N:=0,At:=0 }:AoP),2) else some (({ Za:=1,Zb:=(a.take b.toNat),N:=0,At:=0 }:AoP),0) else none else (GE (nth a 0)).bind fun f=>if f then (IQ a GE).bind fun c=>if InB c a.length then (HH (a.take c.toNat)).bind fun d=>some (({ Za:=2,Zb:=(a.take c.toNat),N:=d.1,At:=0 }:AoP),d.2) else none else if InR 0 a.length then (if(!((Jb ([]:List UInt8) tab3 (nth a 0))==([]:List UInt8)))then (Df a (Jb ([]:List UInt8) tab3 (nth a 0))).bind fun g=>some g else some false:Option (Bool)).bind fun i=>if i then lt1 (Jb ([]:List UInt8) tab3 (nth a 0)) fun(j:List UInt8)=>some (({ Za:=3,Zb:=j,N:=0,At:=0 }:AoP),0) else some (({ Za:=0,Zb:=([]:List UInt8),N:=0,At:=0 }:AoP),150) else none else none
def Bg(b:List UInt8)(a:Int)(c:List AoP):Option ((Int×List AoP)⊕((List AoP)⊕((List AoP)⊕(List AoP×Int×Int)))) :=if (decide (a<(b.length:Int)))then if InR a b.length then (if((nth b a.toNat)==(32:UInt8))then some ((nth b a.toNat)==(32:UInt8)) else if((nth b a.toNat)==(9:UInt8))then some ((nth b a.toNat)==(9:UInt8)) else if((nth b a.toNat)==(13:UInt8))then some ((nth b a.toNat)==(13:UInt8)) else some ((nth b a.toNat)==(10:UInt8)):Option (Bool)).bind fun f=>if f then some (.inl ((w64 (a+1)),c)) else if ((nth b a.toNat)==(35:UInt8))then if InB a b.length then (Dg ((b.drop a.toNat).take (b.length-a.toNat)) (10:UInt8)).bind fun e=>if(decide (e<0))then some (.inr (.inl c)) else lt1 (w64 (a+(w64 (e+1)))) fun(g:Int)=>some (.inl (g,c)) else none else if InB a b.length then (H0 ((b.drop a.toNat).take (b.length-a.toNat))).bind fun d=>if(d.2 != 0)then ((some ([],a,d.2)).bind fun i=>some (.inr i)).bind fun j=>some (.inr (.inr j)) else if FT (c.length+1) 40 then lt1 (c++([({ Za:=d.1.Za,Zb:=d.1.Zb,N:=d.1.N,At:=a }:AoP)]:List AoP)) fun(k:List AoP)=>lt1 (w64 (a+(d.1.Zb.length:Int))) fun(l:Int)=>some (.inl (l,k)) else none else none else none else some (.inr (.inl c))
def EJ(a:List UInt8):Option (List AoP×Int×Int) :=if(decide ((a.length:Int)>2000))then some ([],0,2) else ((AY (fun(v:Int×List AoP)=>Bg a v.1 v.2) (0,[])).bind fun x=>match x with
  |.inl b=>some (.inl b)
  |.inr z=>some z:Option ((List AoP)⊕(List AoP×Int×Int))).bind fun x=>match x with
  |.inl c=>some (c,0,0)
  |.inr z=>some z
def Ek(a:List UInt8):Option (Bool) :=some (Jb false tab1 a)
def LD(a:Int)(b:Arr Int 16):Option ((Int×Arr Int 16)⊕(Arr Int 16)) :=if(decide (a<16))then if InR a 16 then lt1 (b.set a.toNat 9007199254740992) fun(c:Arr Int 16)=>some (.inl ((w64 (a+1)),c)) else none else some (.inr b)
def tbox_all  : Option (AoQ) :=((AY (fun(v:Int×Arr Int 16)=>LD v.1 v.2) (0,(Arr.rep 16 0))).bind fun a=>some a:Option (Arr Int 16)).bind fun b=>some ({ low:=(Arr.rep 16 0),high:=b }:AoQ)
def GV(b:AoQ)(a:AoR):Option (AoQ) :=if InR a.Attr 16 then if InR a.Attr 16 then lt1 (b.low.set a.Attr.toNat (Qk (b.low.get a.Attr.toNat) a.Low)) fun(c:Arr Int 16)=>if InR a.Attr 16 then if InR a.Attr 16 then lt1 (b.high.set a.Attr.toNat (Qc (b.high.get a.Attr.toNat) a.Zc)) fun(d:Arr Int 16)=>some ({ low:=c,high:=d }:AoQ) else none else none else none else none
def FE(d : AoQ)(e:Bool)(a:Int)(b:Arr Int 16)(c:Arr Int 16):Option ((Bool×Int×Arr Int 16×Arr Int 16)⊕(Bool×Arr Int 16×Arr Int 16)) :=if (decide (a<16))then if InR a 16 then if InR a 16 then if InR a 16 then lt1 (b.set a.toNat (Qk (b.get a.toNat) (d.low.get a.toNat))) fun(f:Arr Int 16)=>if InR a 16 then if InR a 16 then if InR a 16 then lt1 (c.set a.toNat (Qc (c.get a.toNat) (d.high.get a.toNat))) fun(g:Arr Int 16)=>(if e then if InR a 16 then if InR a 16 then some (decide ((f.get a.toNat)<=(g.get a.toNat))) else none else none else some false:Option (Bool)).bind fun i=>some (.inl (i,(w64 (a+1)),f,g)) else none else none else none else none else none else none else some (.inr (e,b,c))
def ES(a:AoQ)(b:AoQ):Option (AoQ×Bool) :=((AY (fun(v:Bool×Int×Arr Int 16×Arr Int 16)=>FE b v.1 v.2.1 v.2.2.1 v.2.2.2) (true,0,a.low,a.high)).bind fun(c,d,e)=>some (c,d,e):Option (Bool×Arr Int 16×Arr Int 16)).bind fun(f,g,i)=>some (({ low:=g,high:=i }:AoQ),f)
def SA(a:Arr Int 16):Option (AoS) :=some ({ Has:=65535,V:=a }:AoS)
def KB(b:AoU)(a:Int)(d:Arr Int 16)(e:Arr Int 16):Option ((Int×Arr Int 16×Arr Int 16)⊕((Arr Int 16×Arr Int 16)⊕((Arr Int 16×Arr Int 16)⊕(AoQ×Bool)))) :=if (decide (a<(b.Ze.length:Int)))then if InR a b.Ze.length then lt1 ((nth b.Ze a.toNat).Attr) fun(c:Int)=>lt1 ((nth b.Ze a.toNat).Low) fun(g:Int)=>lt1 ((nth b.Ze a.toNat).Zc) fun(i:Int)=>(if(decide (c<0))then some true else some (decide (c≥16)):Option (Bool)).bind fun j=>if j then ((some (({ low:=(Arr.rep 16 0),high:=(Arr.rep 16 0) }:AoQ),false)).bind fun k=>some (.inr k)).bind fun l=>some (.inr (.inr l)) else (GV ({ low:=d,high:=e }:AoQ) ({ Attr:=c,Low:=g,Zc:=i }:AoR)).bind fun f=>some (.inl ((w64 (a+1)),f.low,f.high)) else none else some (.inr (.inl (d,e)))
def HF(e:AoU):Option (AoQ×Bool) :=tbox_all.bind fun a=>((AY (fun(v:Int×Arr Int 16×Arr Int 16)=>KB e v.1 v.2.1 v.2.2) (0,a.low,a.high)).bind fun x=>match x with
 |.inl (f,g)=>some (.inl (f,g))
 |.inr z=>some z:Option ((Arr Int 16×Arr Int 16)⊕(AoQ×Bool))).bind fun x=>match x with
 | .inl (b,c)=>(ES ({ low:=b,high:=c }:AoQ) ({ low:=b,high:=c }:AoQ)).bind fun d=>if d.2=true then some (d.1,true) else some (({ low:=(Arr.rep 16 0),high:=(Arr.rep 16 0) }:AoQ),false)
 |.inr z=>some z
def EH(b:AoV)(a:Int)(c:List AoQ)(d:List Bool):Option ((Int×List AoQ×List Bool)⊕(List AoQ×List Bool)) :=if (decide (a<(b.Zf.length:Int)))then if InR a b.Zf.length then lt1 ((nth b.Zf a.toNat).Zd) fun(f:List UInt8)=>lt1 ((nth b.Zf a.toNat).Ze) fun(g:List AoR)=>lt1 (((nth b.Zf a.toNat).Pay).Op) fun(i:Int)=>lt1 (((nth b.Zf a.toNat).Pay).N) fun(j:Int)=>lt1 (((nth b.Zf a.toNat).Pay).Unit) fun(k:Arr Int 4)=>lt1 (((nth b.Zf a.toNat).Pay).L) fun(l:List AoT)=>(HF ({ Zd:=f,Ze:=g,Pay:=(AoT.mk i j k l) }:AoU)).bind fun e=>if InR a c.length then if InR a d.length then lt1 (c.set a.toNat e.1) fun(m:List AoQ)=>lt1 (d.set a.toNat e.2) fun(n:List Bool)=>some (.inl ((w64 (a+1)),m,n)) else none else none else none else some (.inr (c,d))
def EL(b:List AoQ)(d:List Bool)(c:Int)(a:Int):Option ((Int)⊕((Unit)⊕((Unit)⊕((Int)⊕((Unit)⊕((Unit)⊕(Int×Int×AoS×Bool))))))) :=if (decide (a<(b.length:Int)))then if InR c b.length then if InR a b.length then (ES (nth b c.toNat) (nth b a.toNat)).bind fun e=>(if e.2=true then if InR c d.length then if nth d c.toNat=true then if InR a d.length then some (nth d a.toNat) else none else some false else none else some false:Option (Bool)).bind fun f=>if f then (SA e.1.low).bind fun g=>((((some (c,a,g,true)).bind fun i=>some (.inr i)).bind fun j=>some (.inr (.inr j))).bind fun k=>some (.inr k)).bind fun l=>some (.inr (.inr l)) else some (.inl (w64 (a+1))) else none else none else some (.inr (.inl ()))
def FX(b:List AoQ)(c:List Bool)(a:Int):Option ((Int)⊕((Unit)⊕((Unit)⊕(Int×Int×AoS×Bool)))) :=if(decide (a<(b.length:Int)))then ((AY (fun(v:Int)=>EL b c a v) (w64 (a+1))).bind fun x=>match x with
  |.inl ()=>some (.inl ())
  |.inr z=>some z:Option ((Unit)⊕((Int)⊕((Unit)⊕((Unit)⊕(Int×Int×AoS×Bool)))))).bind fun x=>match x with
  |.inl ()=>some (.inl (w64 (a+1)))
  |.inr z=>some z else some (.inr (.inl ()))
def GS(a:AoV):Option (Int×Int×AoS×Bool) :=if Mk (a.Zf.length:Int) (a.Zf.length:Int) 256 then lt1 (List.replicate ((a.Zf.length:Int).toNat) ({ low:=(Arr.rep 16 0),high:=(Arr.rep 16 0) }:AoQ)) fun(b:List AoQ)=>if Mk (a.Zf.length:Int) (a.Zf.length:Int) 1 then lt1 (List.replicate ((a.Zf.length:Int).toNat) false) fun(c:List Bool)=>((AY (fun(v:Int×List AoQ×List Bool)=>EH a v.1 v.2.1 v.2.2) (0,b,c)).bind fun(d,e)=>some (d,e):Option (List AoQ×List Bool)).bind fun(f,g)=>((AY (fun(v:Int)=>FX f g v) 0).bind fun x=>match x with
   |.inl ()=>some (.inl ())
   |.inr z=>some z:Option ((Unit)⊕(Int×Int×AoS×Bool))).bind fun x=>match x with
   |.inl ()=>some (0,0,({ Has:=0,V:=(Arr.rep 16 0) }:AoS),false)
   |.inr z=>some z else none else none
def Hx(b:AoV)(a:Int):Option ((Int)⊕((Unit)⊕((Unit)⊕(Int)))) :=if (decide (a<(b.Zf.length:Int)))then if InR a b.Zf.length then lt1 ((nth b.Zf a.toNat).Zd) fun(c:List UInt8)=>lt1 ((nth b.Zf a.toNat).Ze) fun(d:List AoR)=>lt1 (((nth b.Zf a.toNat).Pay).Op) fun(e:Int)=>lt1 (((nth b.Zf a.toNat).Pay).N) fun(f:Int)=>lt1 (((nth b.Zf a.toNat).Pay).Unit) fun(g:Arr Int 4)=>lt1 (((nth b.Zf a.toNat).Pay).L) fun(i:List AoT)=>(HF ({ Zd:=c,Ze:=d,Pay:=(AoT.mk e f g i) }:AoU)).bind fun j=>if(!j.2)then ((some 190).bind fun k=>some (.inr k)).bind fun l=>some (.inr (.inr l)) else some (.inl (w64 (a+1))) else none else some (.inr (.inl ()))
def E1(a:AoV):Option (Int) :=((AY (fun(v:Int)=>Hx a v) 0).bind fun x=>match x with
 |.inl ()=>some (.inl ())
 |.inr z=>some z:Option ((Unit)⊕(Int))).bind fun x=>match x with
 | .inl ()=>(GS a).bind fun b=>if b.2.2.2=true then some 190 else some 0
 |.inr z=>some z
def Fi(b:AoT)(rec_:AoT->Option (Int))(c:Int)(a:Int):Option ((Int×Int)⊕(Int)) :=if(decide (a<(b.L.length:Int)))then if InR a b.L.length then lt1 ((nth b.L a.toNat).Op) fun(d:Int)=>lt1 ((nth b.L a.toNat).N) fun(e:Int)=>lt1 ((nth b.L a.toNat).Unit) fun(f:Arr Int 4)=>lt1 ((nth b.L a.toNat).L) fun(g:List AoT)=>(rec_ (AoT.mk d e f g)).bind fun i=>some (.inl ((Qk c i),(w64 (a+1)))) else none else some (.inr c)
def Eu(rec_:AoT->Option (Int))(a:AoT):Option (Int) :=((AY (fun(v:Int×Int)=>Fi a rec_ v.1 v.2) (0,0)).bind fun b=>some b:Option (Int)).bind fun c=>some (w64 (c+1))
def Er(n:Nat):AoT->Option (Int):=match n with
 |0=>fun _=>none
 |n+1=>Eu (Er n)
def DG(a:AoT):Option (Int):=Er 18446744073709551616 a
def Bf(a:AoW):Option (Int×AoW) :=if(decide ((a.l.length:Int)>0))then if InR 0 a.l.length then some ((nth a.l 0).At,a) else none else some (a.end_,a)
def BB(a:AoW)(b:Int):Option (AoP×Bool×AoW) :=(if((a.l.length:Int)==0)then some true else if InR 0 a.l.length then some ((nth a.l 0).Za != b) else none:Option (Bool)).bind fun c=>if c then some (({ Za:=0,Zb:=([]:List UInt8),N:=0,At:=0 }:AoP),false,a) else if InR 0 a.l.length then some (nth a.l 0,true,a) else none
def Aw(a:AoW)(b:List UInt8):Option (Bool×AoW) :=(if((a.l.length:Int)==0)then some true else if InR 0 a.l.length then if((nth a.l 0).Za==2)then some true else if InR 0 a.l.length then some (!(((nth a.l 0).Zb)==b)) else none else none:Option (Bool)).bind fun c=>if c then some (false,a) else if InB 1 a.l.length then lt1 ((a.l.drop 1).take (a.l.length-1)) fun(d:List AoP)=>some (true,({ l:=d,end_:=a.end_ }:AoW)) else none
def Dv(b:AoU)(a:AoU):Option (Bool×AoU) :=some ((b.Zd==a.Zd),({ Zd:=a.Zd,Ze:=[],Pay:=(AoT.mk a.Pay.Op a.Pay.N a.Pay.Unit ([])) }:AoU))
def BQ(c:List AoU)(b:Int)(d:List UInt8)(e:Int)(f:Int)(g:Arr Int 4):Option ((Int×List UInt8×Int×Int×Arr Int 4)⊕((List UInt8×Int×Int×Arr Int 4)⊕((List UInt8×Int×Int×Arr Int 4)⊕(Int×AoU)))) :=if (decide (b<(c.length:Int)))then if InR b c.length then (Dv (nth c b.toNat) ({ Zd:=d,Ze:=[],Pay:=(AoT.mk e f g ([])) }:AoU)).bind fun a=>if a.1=true then ((some (b,({ Zd:=a.2.Zd,Ze:=[],Pay:=(AoT.mk a.2.Pay.Op a.2.Pay.N a.2.Pay.Unit ([])) }:AoU))).bind fun i=>some (.inr i)).bind fun j=>some (.inr (.inr j)) else some (.inl ((w64 (b+1)),a.2.Zd,a.2.Pay.Op,a.2.Pay.N,a.2.Pay.Unit)) else none else some (.inr (.inl (d,e,f,g)))
def Cv(b:List AoU)(a:AoU):Option (Int×AoU) :=((AY (fun(v:Int×List UInt8×Int×Int×Arr Int 4)=>BQ b v.1 v.2.1 v.2.2.1 v.2.2.2.1 v.2.2.2.2) (0,a.Zd,a.Pay.Op,a.Pay.N,a.Pay.Unit)).bind fun x=>match x with
 |.inl (c,d,e,f)=>some (.inl (c,d,e,f))
 |.inr z=>some z:Option ((List UInt8×Int×Int×Arr Int 4)⊕(Int×AoU))).bind fun x=>match x with
 |.inl (g,i,j,k)=>some ((-1),({ Zd:=g,Ze:=[],Pay:=(AoT.mk i j k ([])) }:AoU))
 |.inr z=>some z
def Bs(c:List AoU)(b:AoU):Option (Bool×AoU) :=(Cv c ({ Zd:=b.Zd,Ze:=[],Pay:=(AoT.mk b.Pay.Op b.Pay.N b.Pay.Unit ([])) }:AoU)).bind fun a=>some ((decide (a.1≥0)),({ Zd:=a.2.Zd,Ze:=[],Pay:=(AoT.mk a.2.Pay.Op a.2.Pay.N a.2.Pay.Unit ([])) }:AoU))
noncomputable def J3(r:AoW⊕(Int×Int×AoW)):Outc:=match r with
 |.inl r=>.ret (.tup []) [pS r]
 |.inr r=>.pan (.iface 104 (.agg #[.int .i64 r.1,.int .i64 r.2.1])) [pS r.2.2]
def Bl(b:AoW):Option (AoW⊕(Int×Int×AoW)) :=(Bf b).bind fun a=>some (.inr (a.1,160,a.2))
noncomputable def IW(r:AoW⊕(Int×Int×AoW)):Outc:=match r with
 |.inl r=>.ret (.tup []) [pS r]
 |.inr r=>.pan (.iface 104 (.agg #[.int .i64 r.1,.int .i64 r.2.1])) [pS r.2.2]
def Ax(c:AoW)(d:List UInt8):Option (AoW⊕(Int×Int×AoW)) :=(Aw c d).bind fun a=>if(!a.1)then (Bl a.2).bind fun e=>match e with
  |.inl f=>some (.inl f)
  |.inr b=>some (.inr (b.1,b.2.1,b.2.2)) else some (.inl a.2)
noncomputable def I5(r:(Int×AoW)⊕(Int×Int×AoW)):Outc:=match r with
 |.inl r=>.ret (i64 r.1) [pS r.2]
 |.inr r=>.pan (.iface 104 (.agg #[.int .i64 r.1,.int .i64 r.2.1])) [pS r.2.2]
def Bh(e:AoW):Option ((Int×AoW)⊕(Int×Int×AoW)) :=(BB e 2).bind fun a=>(if(!a.2.1)then (Bl a.2.2).bind fun f=>match f with
  |.inl d=>some (.inl (d.l,d.end_))
  |.inr b=>(some (.inr (b.1,b.2.1,b.2.2))).bind fun g=>some (.inr g) else some (.inl (a.2.2.l,a.2.2.end_)):Option ((List AoP×Int)⊕((Int×AoW)⊕(Int×Int×AoW)))).bind fun x=>match x with
 | .inl (c,i)=>if InB 1 c.length then lt1 ((c.drop 1).take (c.length-1)) fun(j:List AoP)=>some (.inl (a.1.N,({ l:=j,end_:=i }:AoW))) else none
 |.inr z=>some z
noncomputable def JG(r:(List UInt8×AoW)⊕(Int×Int×AoW)):Outc:=match r with
 |.inl r=>.ret (.str r.1) [pS r.2]
 |.inr r=>.pan (.iface 104 (.agg #[.int .i64 r.1,.int .i64 r.2.1])) [pS r.2.2]
def CI(f:AoW):Option ((List UInt8×AoW)⊕(Int×Int×AoW)) :=(BB f 1).bind fun a=>(if(!a.2.1)then (Bl a.2.2).bind fun g=>match g with
  |.inl d=>some (.inl (d.l,d.end_))
  |.inr c=>(some (.inr (c.1,c.2.1,c.2.2))).bind fun i=>some (.inr i) else some (.inl (a.2.2.l,a.2.2.end_)):Option ((List AoP×Int)⊕((List UInt8×AoW)⊕(Int×Int×AoW)))).bind fun x=>match x with
 | .inl (b,e)=>(Ek a.1.Zb).bind fun j=>if j then some (.inr (a.1.At,161,({ l:=b,end_:=e }:AoW))) else if InB 1 b.length then lt1 ((b.drop 1).take (b.length-1)) fun(k:List AoP)=>some (.inl (a.1.Zb,({ l:=k,end_:=e }:AoW))) else none
 |.inr z=>some z
def Ee(b:List (List UInt8))(c:List UInt8)(a:Int):Option ((Int)⊕((Unit)⊕((Unit)⊕(Int)))) :=if (decide (a<(b.length:Int)))then if InR a b.length then if(c==(nth b a.toNat))then ((some a).bind fun d=>some (.inr d)).bind fun e=>some (.inr (.inr e)) else some (.inl (w64 (a+1))) else none else some (.inr (.inl ()))
def D1(a:List (List UInt8))(b:List UInt8):Option (Int) :=((AY (fun(v:Int)=>Ee a b v) 0).bind fun x=>match x with
 |.inl ()=>some (.inl ())
 |.inr z=>some z:Option ((Unit)⊕(Int))).bind fun x=>match x with
 |.inl ()=>some (-1)
 |.inr z=>some z
def GF(b:List UInt8)(c:Int)(f:Int)(d:UInt8)(a:Int):Option ((Int×Int×UInt8×Int)⊕(Int×UInt8)) :=if (decide (a<(b.length:Int)))then if InR a b.length then lt1 (d ||| (nth b a.toNat)) fun(g:UInt8)=>if InR ((nth b a.toNat).toNat:Int) 256 then lt1 ((glob0.get ((nth b a.toNat).toNat)).toNat:Int) fun(e:Int)=>lt1 (w64 (c+(AlJ f (Ahw (-1) e)))) fun(i:Int)=>some (.inl (i,e,g,(w64 (a+1)))) else none else none else some (.inr (c,d))
def G5(b:List UInt8)(a:Int):Option ((Int)⊕(Int)) :=(if(decide (a<(b.length:Int)))then if InR a b.length then if InR ((nth b a.toNat).toNat:Int) 256 then some ((glob0.get ((nth b a.toNat).toNat)) != (0:UInt8)) else none else none else some false:Option (Bool)).bind fun c=>if c then some (.inl (w64 (a+1))) else some (.inr a)
def G2(b:List UInt8)(a:Int):Option ((Int)⊕(Int)) :=(if(decide (a<(b.length:Int)))then if InR a b.length then if InR ((nth b a.toNat).toNat:Int) 256 then some ((glob0.get ((nth b a.toNat).toNat)) != (0:UInt8)) else none else none else some false:Option (Bool)).bind fun c=>if c then some (.inl (w64 (a+1))) else some (.inr a)
def G6(b:List UInt8)(c:Int)(d:Int)(a:Int)(e:List (List UInt8)):Option ((Int×Int×Int×List (List UInt8))⊕(Int×Int×List (List UInt8))) :=if (decide (a<(b.length:Int)))then if InR a b.length then if InR ((nth b a.toNat).toNat:Int) 256 then lt1 ((glob0.get ((nth b a.toNat).toNat))==(0:UInt8)) fun(g:Bool)=>if g then some (.inl (c,d,(w64 (a+1)),e)) else if InB a b.length then if InB d a.toNat then if InR c e.length then lt1 (e.set c.toNat ((b.drop d.toNat).take (a.toNat-d.toNat))) fun(i:List (List UInt8))=>((AY (fun(v:Int)=>G2 b v) (w64 (a+1))).bind fun j=>some j:Option (Int)).bind fun f=>some (.inl ((w64 (c+1)),f,f,i)) else none else none else none else none else none else some (.inr (c,d,e))
def Be(a:List UInt8):Option (List (List UInt8)) :=((AY (fun(v:Int×Int×UInt8×Int)=>GF a v.1 v.2.1 v.2.2.1 v.2.2.2) (0,1,(0:UInt8),0)).bind fun(g,i)=>some (g,i):Option (Int×UInt8)).bind fun(c,j)=>if(decide (j≥(128:UInt8)))then none else if Mk c c 16 then lt1 (List.replicate c.toNat ([]:List UInt8)) fun(k:List (List UInt8))=>((AY (fun(v:Int)=>G5 a v) 0).bind fun l=>some l:Option (Int)).bind fun e=>((AY (fun(v:Int×Int×Int×List (List UInt8))=>G6 a v.1 v.2.1 v.2.2.1 v.2.2.2) (0,e,e,k)).bind fun(m,n,o)=>some (m,n,o):Option (Int×Int×List (List UInt8))).bind fun(f,b,d)=>(if(decide (b<(a.length:Int)))then if InB b a.length then if InR f d.length then lt1 (d.set f.toNat ((a.drop b.toNat).take (a.length-b.toNat))) fun(p:List (List UInt8))=>some p else none else none else some d:Option (List (List UInt8))).bind fun q=>some q else none
def BA(c:AoW)(d:List UInt8):Option (Int×Bool×AoW) :=(BB c 1).bind fun a=>(Be d).bind fun e=>(D1 e a.1.Zb).bind fun b=>(if(!a.2.1)then some true else some (decide (b<0)):Option (Bool)).bind fun f=>if f then some (0,false,a.2.2) else if InB 1 a.2.2.l.length then lt1 ((a.2.2.l.drop 1).take (a.2.2.l.length-1)) fun(g:List AoP)=>some (b,true,({ l:=g,end_:=a.2.2.end_ }:AoW)) else none
noncomputable def JH(r:(Int×AoW)⊕(Int×Int×AoW)):Outc:=match r with
 |.inl r=>.ret (i64 r.1) [pS r.2]
 |.inr r=>.pan (.iface 104 (.agg #[.int .i64 r.1,.int .i64 r.2.1])) [pS r.2.2]
def BD(d:AoW)(e:List UInt8):Option ((Int×AoW)⊕(Int×Int×AoW)) :=(BA d e).bind fun a=>(if(!a.2.1)then (Bl a.2.2).bind fun f=>match f with
  |.inl c=>some (.inl (c.l,c.end_))
  |.inr b=>(some (.inr (b.1,b.2.1,b.2.2))).bind fun g=>some (.inr g) else some (.inl (a.2.2.l,a.2.2.end_)):Option ((List AoP×Int)⊕((Int×AoW)⊕(Int×Int×AoW)))).bind fun x=>match x with
 |.inl (i,j)=>some (.inl (a.1,({ l:=i,end_:=j }:AoW)))
 |.inr z=>some z
noncomputable def JF(r:(Arr Int 4×AoW)⊕(Int×Int×AoW)):Outc:=match r with
 |.inl r=>.ret (.agg (C1 i64 r.1.l)) [pS r.2]
 |.inr r=>.pan (.iface 104 (.agg #[.int .i64 r.1,.int .i64 r.2.1])) [pS r.2.2]
def DA(f:AoW):Option ((Arr Int 4×AoW)⊕(Int×Int×AoW)) :=((BA f ([109,111,110,101,121,32,109,105,110,117,116,101,32,107,109,32,107,103]:List UInt8)).bind fun a=>if a.2.1=true then if InR a.1 4 then if InR a.1 4 then lt1 ((Arr.rep 4 0).set a.1.toNat (w64 (((Arr.rep 4 0).get a.1.toNat)+1))) fun(g:Arr Int 4)=>some (a.2.2.l,a.2.2.end_,g) else none else none else some (a.2.2.l,a.2.2.end_,(Arr.rep 4 0)):Option (List AoP×Int×Arr Int 4)).bind fun(i,j,d)=>((Aw ({ l:=i,end_:=j }:AoW) ([112,101,114]:List UInt8)).bind fun c=>if c.1=true then (BD c.2 ([109,111,110,101,121,32,109,105,110,117,116,101,32,107,109,32,107,103]:List UInt8)).bind fun k=>match k with
  | .inl b=>if InR b.1 4 then if InR b.1 4 then lt1 (d.set b.1.toNat (w64 ((d.get b.1.toNat)-1))) fun(m:Arr Int 4)=>some (.inl (b.2.l,b.2.end_,m)) else none else none
  |.inr e=>(some (.inr (e.1,e.2.1,e.2.2))).bind fun n=>some (.inr n) else some (.inl (c.2.l,c.2.end_,d)):Option ((List AoP×Int×Arr Int 4)⊕((Arr Int 4×AoW)⊕(Int×Int×AoW)))).bind fun x=>match x with
 |.inl (o,p,q)=>some (.inl (q,({ l:=o,end_:=p }:AoW)))
 |.inr z=>some z
noncomputable def JE(r:(AoR×AoW)⊕(Int×Int×AoW)):Outc:=match r with
 |.inl r=>.ret (.agg [i64 r.1.Attr,i64 r.1.Low,i64 r.1.Zc]) [pS r.2]
 |.inr r=>.pan (.iface 104 (.agg #[.int .i64 r.1,.int .i64 r.2.1])) [pS r.2.2]
def DE(n:AoW)(o:Int):Option ((AoR×AoW)⊕(Int×Int×AoW)) :=(Bf n).bind fun k=>(BD k.2 ([116,121,112,101,32,111,119,110,101,114,32,114,97,105,108,119,97,121,32,115,104,105,112,112,101,114,32,99,108,97,115,115,32,119,101,105,103,104,116,32,107,109,32,109,105,110,117,116,101,115,32,119,111,114,107,105,110,103,32,99,111,100,101,32,119,111,114,116,104,32,99,111,115,116,32,109,111,110,116,104,32,98,101,103,105,110,32,112,97,114,116,115,32,112,97,114,116]:List UInt8)).bind fun p=>match p with
 | .inl a=>if(o==8)then some (.inr (k.1,2,a.2)) else (Aw a.2 ([105,115]:List UInt8)).bind fun b=>if b.1=true then (Bh b.2).bind fun q=>match q with
    |.inl c=>some (.inl (({ Attr:=a.1,Low:=c.1,Zc:=c.1 }:AoR),c.2))
    |.inr d=>some (.inr (d.1,d.2.1,d.2.2)) else (Ax b.2 ([105,110]:List UInt8)).bind fun s=>match s with
    | .inl t=>(Bh t).bind fun u=>match u with
     | .inl l=>(Ax l.2 ([46,46]:List UInt8)).bind fun v=>match v with
      | .inl w=>(Bh w).bind fun x=>match x with
       |.inl m=>some (.inl (({ Attr:=a.1,Low:=l.1,Zc:=m.1 }:AoR),m.2))
       |.inr e=>some (.inr (e.1,e.2.1,e.2.2))
      |.inr f=>some (.inr (f.1,f.2.1,f.2.2))
     |.inr g=>some (.inr (g.1,g.2.1,g.2.2))
    |.inr i=>some (.inr (i.1,i.2.1,i.2.2))
 |.inr j=>some (.inr (j.1,j.2.1,j.2.2))
def W4(b:List Int)(a:Int):Option ((Int)⊕((Unit)⊕((Unit)⊕(Bool)))) :=if (decide (a<(b.length:Int)))then if InR a b.length then (if(decide (nth b a.toNat<(-9007199254740992)))then some true else some (decide (nth b a.toNat>9007199254740992)):Option (Bool)).bind fun c=>if c then ((some false).bind fun d=>some (.inr d)).bind fun e=>some (.inr (.inr e)) else some (.inl (w64 (a+1))) else none else some (.inr (.inl ()))
def AlU(a:List Int):Option (Bool) :=((AY (fun(v:Int)=>W4 a v) 0).bind fun x=>match x with
 |.inl ()=>some (.inl ())
 |.inr z=>some z:Option ((Unit)⊕(Bool))).bind fun x=>match x with
 |.inl ()=>some true
 |.inr z=>some z
def Nk(a:UInt64)(b:UInt64):Option (UInt64×UInt64) :=lt1 (a &&& (4294967295:UInt64)) fun(x0_2646:UInt64)=>lt1 (UX a (32:UInt64).toNat) fun(x1_2648:UInt64)=>lt1 (b &&& (4294967295:UInt64)) fun(y0_2650:UInt64)=>lt1 (UX b (32:UInt64).toNat) fun(y1_2652:UInt64)=>lt1 ((x1_2648*y0_2650)+(UX (x0_2646*y0_2650) (32:UInt64).toNat)) fun(c:UInt64)=>lt1 (c &&& (4294967295:UInt64)) fun(w1_2656:UInt64)=>lt1 (UX c (32:UInt64).toNat) fun(w2_2658:UInt64)=>lt1 (w1_2656+(x0_2646*y1_2652)) fun(w1_2660:UInt64)=>lt1 (((x1_2648*y1_2652)+w2_2658)+(UX w1_2660 (32:UInt64).toNat)) fun(d:UInt64)=>some (d,(a*b))
def BH(b:AoW):Option (Int×AoW) :=(Aw b ([42]:List UInt8)).bind fun a=>if a.1=true then some (5,a.2) else some (0,a.2)
def Cp(c:AoW):Option (Int×AoW) :=(Aw c ([43]:List UInt8)).bind fun a=>if a.1=true then some (3,a.2) else (Aw a.2 ([45]:List UInt8)).bind fun b=>if b.1=true then some (4,b.2) else some (0,b.2)
noncomputable def AM(r:(AoT×AoW)⊕(Int×Int×AoW)):Outc:=match r with
 |.inl r=>.ret (.agg (xE r.1)) [pS r.2]
 |.inr r=>.pan (.iface 104 (.agg #[.int .i64 r.1,.int .i64 r.2.1])) [pS r.2.2]
noncomputable def HO(r:(AoT×AoW×List (List UInt8))⊕(Int×Int×AoW×List (List UInt8))):Outc:=match r with
 |.inl r=>.ret (.agg (xE r.1)) [pS r.2.1,.buf 1 (L Bc r.2.2) false]
 |.inr r=>.pan (.iface 104 (.agg #[.int .i64 r.1,.int .i64 r.2.1])) [pS r.2.2.1,.buf 1 (L Bc r.2.2.2) false]
def C6(k:AoW->Option ((AoT×AoW)⊕(Int×Int×AoW)))(a:List (List UInt8))(b:Int)(f:List AoP)(g:Int)(c:List AoT):Option ((Int×List AoP×Int×List AoT)⊕((List AoP×Int×List AoT)⊕((List AoP×Int×List AoT)⊕((AoT×AoW×List (List UInt8))⊕(Int×Int×AoW×List (List UInt8)))))) :=if (decide (b<(a.length:Int)))then if InR b a.length then lt1 (nth a b.toNat) fun(m:List UInt8)=>(k ({ l:=f,end_:=g }:AoW)).bind fun n=>match n with
   | .inl i=>if FT (c.length+1) 72 then lt1 (c++([i.1]:List AoT)) fun(o:List AoT)=>(Ax i.2 m).bind fun p=>match p with
     |.inl j=>some (.inl ((w64 (b+1)),j.l,j.end_,o))
     |.inr d=>((some (.inr (d.1,d.2.1,d.2.2,a))).bind fun q=>some (.inr q)).bind fun s=>some (.inr (.inr s)) else none
   |.inr e=>((some (.inr (e.1,e.2.1,e.2.2,a))).bind fun t=>some (.inr t)).bind fun u=>some (.inr (.inr u)) else none else some (.inr (.inl (f,g,c)))
def BF(d:AoW->Option ((AoT×AoW)⊕(Int×Int×AoW)))(e:AoW)(f:Int)(a:List (List UInt8)):Option ((AoT×AoW×List (List UInt8))⊕(Int×Int×AoW×List (List UInt8))) :=(Ax e ([40]:List UInt8)).bind fun g=>match g with
 | .inl c=>((AY (fun(v:Int×List AoP×Int×List AoT)=>C6 d a v.1 v.2.1 v.2.2.1 v.2.2.2) (0,c.l,c.end_,[])).bind fun x=>match x with
  |.inl (i,j,k)=>some (.inl (i,j,k))
  |.inr z=>some z:Option ((List AoP×Int×List AoT)⊕((AoT×AoW×List (List UInt8))⊕(Int×Int×AoW×List (List UInt8))))).bind fun x=>match x with
  |.inl (m,n,o)=>some (.inl ((AoT.mk f 0 (Arr.rep 4 0) o),({ l:=m,end_:=n }:AoW),a))
  |.inr z=>some z
 |.inr b=>some (.inr (b.1,b.2.1,b.2.2,a))
noncomputable def Jg(r:(AoT×AoW)⊕(Int×Int×AoW)):Outc:=match r with
 |.inl r=>.ret (.agg (xE r.1)) [pS r.2]
 |.inr r=>.pan (.iface 104 (.agg #[.int .i64 r.1,.int .i64 r.2.1])) [pS r.2.2]
def Cq(b:AoW->Option ((AoT×AoW)⊕(Int×Int×AoW)))(u:AoW):Option ((AoT×AoW)⊕(Int×Int×AoW)) :=(BB u 2).bind fun c=>if c.2.1=true then (Bh c.2.2).bind fun v=>match v with
  | .inl n=>(DA n.2).bind fun w=>match w with
   |.inl o=>some (.inl ((AoT.mk 1 n.1 o.1 ([])),o.2))
   |.inr d=>some (.inr (d.1,d.2.1,d.2.2))
  |.inr e=>some (.inr (e.1,e.2.1,e.2.2)) else (Aw c.2.2 ([40]:List UInt8)).bind fun f=>if f.1=true then (b f.2).bind fun x=>match x with
   | .inl p=>(Ax p.2 ([41]:List UInt8)).bind fun y=>match y with
    |.inl z=>some (.inl (p.1,z))
    |.inr g=>some (.inr (g.1,g.2.1,g.2.2))
   |.inr i=>some (.inr (i.1,i.2.1,i.2.2)) else (Aw f.2 ([105,102]:List UInt8)).bind fun j=>if j.1=true then (BF b j.2 11 ([([60]:List UInt8),([44]:List UInt8),([44]:List UInt8),([41]:List UInt8)]:List (List UInt8))).bind fun aa=>match aa with
    |.inl q=>some (.inl (q.1,q.2.1))
    |.inr k=>some (.inr (k.1,k.2.1,k.2.2.1)) else (BA j.2 ([109,105,110,32,109,97,120,32,100,111,119,110,32,117,112,32,104,97,108,102]:List UInt8)).bind fun a=>if a.2.1=true then (BF b a.2.2 (w64 (6+a.1)) ([([44]:List UInt8),([41]:List UInt8)]:List (List UInt8))).bind fun ab=>match ab with
     |.inl s=>some (.inl (s.1,s.2.1))
     |.inr l=>some (.inr (l.1,l.2.1,l.2.2.1)) else (BD a.2.2 ([116,121,112,101,32,111,119,110,101,114,32,114,97,105,108,119,97,121,32,115,104,105,112,112,101,114,32,99,108,97,115,115,32,119,101,105,103,104,116,32,107,109,32,109,105,110,117,116,101,115,32,119,111,114,107,105,110,103,32,99,111,100,101,32,119,111,114,116,104,32,99,111,115,116,32,109,111,110,116,104,32,98,101,103,105,110,32,112,97,114,116,115,32,112,97,114,116]:List UInt8)).bind fun ac=>match ac with
     |.inl t=>some (.inl ((AoT.mk 2 t.1 (Arr.rep 4 0) ([])),t.2))
     |.inr m=>some (.inr (m.1,m.2.1,m.2.2))
noncomputable def Fu(r:(AoT×AoW)⊕(Int×Int×AoW)):Outc:=match r with
 |.inl r=>.ret (.agg (xE r.1)) [pS r.2,.box [.ref 0 0] false]
 |.inr r=>.pan (.iface 104 (.agg #[.int .i64 r.1,.int .i64 r.2.1])) [pS r.2.2,.box [.ref 0 0] false]
def Bj(m:AoW->Option ((AoT×AoW)⊕(Int×Int×AoW)))(c:Int)(d:List AoP)(e:Int)(f:Int)(g:Int)(i:Arr Int 4)(j:List AoT):Option ((Int×List AoP×Int×Int×Int×Arr Int 4×List AoT)⊕((List AoP×Int×Int×Int×Arr Int 4×List AoT)⊕((List AoP×Int×Int×Int×Arr Int 4×List AoT)⊕((AoT×AoW)⊕(Int×Int×AoW))))) :=if(c != 0)then (Cq m ({ l:=d,end_:=e }:AoW)).bind fun n=>match n with
  |.inl k=>lt1 ([(AoT.mk f g i j),k.1]:List AoT) fun(o:List AoT)=>(BH k.2).bind fun a=>some (.inl (a.1,a.2.l,a.2.end_,c,0,(Arr.rep 4 0),o))
  |.inr b=>((some (.inr (b.1,b.2.1,b.2.2))).bind fun p=>some (.inr p)).bind fun q=>some (.inr (.inr q)) else some (.inr (.inl (d,e,f,g,i,j)))
def AW(d:AoW->Option ((AoT×AoW)⊕(Int×Int×AoW)))(e:AoW):Option ((AoT×AoW)⊕(Int×Int×AoW)) :=(Cq d e).bind fun f=>match f with
 | .inl a=>((BH a.2).bind fun b=>(AY (fun(v:Int×List AoP×Int×Int×Int×Arr Int 4×List AoT)=>Bj d v.1 v.2.1 v.2.2.1 v.2.2.2.1 v.2.2.2.2.1 v.2.2.2.2.2.1 v.2.2.2.2.2.2) (b.1,b.2.l,b.2.end_,a.1.Op,a.1.N,a.1.Unit,a.1.L)).bind fun x=>match x with
  |.inl (g,i,j,k,m,n)=>some (.inl (g,i,j,k,m,n))
  |.inr z=>some z:Option ((List AoP×Int×Int×Int×Arr Int 4×List AoT)⊕((AoT×AoW)⊕(Int×Int×AoW)))).bind fun x=>match x with
  |.inl (o,p,q,s,t,u)=>some (.inl ((AoT.mk q s t u),({ l:=o,end_:=p }:AoW)))
  |.inr z=>some z
 |.inr c=>some (.inr (c.1,c.2.1,c.2.2))
noncomputable def IZ(r:(AoT×AoW)⊕(Int×Int×AoW)):Outc:=match r with
 |.inl r=>.ret (.agg (xE r.1)) [pS r.2,.box [.ref 0 0] false]
 |.inr r=>.pan (.iface 104 (.agg #[.int .i64 r.1,.int .i64 r.2.1])) [pS r.2.2,.box [.ref 0 0] false]
def Cl(c:AoW->Option ((AoT×AoW)⊕(Int×Int×AoW)))(d:AoW):Option ((AoT×AoW)⊕(Int×Int×AoW)) :=(AW c d).bind fun e=>match e with
 |.inl b=>some (.inl (b.1,b.2))
 |.inr a=>some (.inr (a.1,a.2.1,a.2.2))
noncomputable def Fz(r:(AoT×AoW)⊕(Int×Int×AoW)):Outc:=match r with
 |.inl r=>.ret (.agg (xE r.1)) [pS r.2,.box [.ref 0 0] false]
 |.inr r=>.pan (.iface 104 (.agg #[.int .i64 r.1,.int .i64 r.2.1])) [pS r.2.2,.box [.ref 0 0] false]
def Bk(m:AoW->Option ((AoT×AoW)⊕(Int×Int×AoW)))(c:Int)(d:List AoP)(e:Int)(f:Int)(g:Int)(i:Arr Int 4)(j:List AoT):Option ((Int×List AoP×Int×Int×Int×Arr Int 4×List AoT)⊕((List AoP×Int×Int×Int×Arr Int 4×List AoT)⊕((List AoP×Int×Int×Int×Arr Int 4×List AoT)⊕((AoT×AoW)⊕(Int×Int×AoW))))) :=if(c != 0)then (Cl m ({ l:=d,end_:=e }:AoW)).bind fun n=>match n with
  |.inl k=>lt1 ([(AoT.mk f g i j),k.1]:List AoT) fun(o:List AoT)=>(Cp k.2).bind fun a=>some (.inl (a.1,a.2.l,a.2.end_,c,0,(Arr.rep 4 0),o))
  |.inr b=>((some (.inr (b.1,b.2.1,b.2.2))).bind fun p=>some (.inr p)).bind fun q=>some (.inr (.inr q)) else some (.inr (.inl (d,e,f,g,i,j)))
def AX(d:AoW->Option ((AoT×AoW)⊕(Int×Int×AoW)))(e:AoW):Option ((AoT×AoW)⊕(Int×Int×AoW)) :=(Cl d e).bind fun f=>match f with
 | .inl a=>((Cp a.2).bind fun b=>(AY (fun(v:Int×List AoP×Int×Int×Int×Arr Int 4×List AoT)=>Bk d v.1 v.2.1 v.2.2.1 v.2.2.2.1 v.2.2.2.2.1 v.2.2.2.2.2.1 v.2.2.2.2.2.2) (b.1,b.2.l,b.2.end_,a.1.Op,a.1.N,a.1.Unit,a.1.L)).bind fun x=>match x with
  |.inl (g,i,j,k,m,n)=>some (.inl (g,i,j,k,m,n))
  |.inr z=>some z:Option ((List AoP×Int×Int×Int×Arr Int 4×List AoT)⊕((AoT×AoW)⊕(Int×Int×AoW)))).bind fun x=>match x with
  |.inl (o,p,q,s,t,u)=>some (.inl ((AoT.mk q s t u),({ l:=o,end_:=p }:AoW)))
  |.inr z=>some z
 |.inr c=>some (.inr (c.1,c.2.1,c.2.2))
def CQ(rec_:AoW->Option ((AoT×AoW)⊕(Int×Int×AoW)))(c:AoW):Option ((AoT×AoW)⊕(Int×Int×AoW)) :=(AX rec_ c).bind fun d=>match d with
 |.inl b=>some (.inl (b.1,b.2))
 |.inr a=>some (.inr (a.1,a.2.1,a.2.2))
def DO(n:Nat):AoW->Option ((AoT×AoW)⊕(Int×Int×AoW)):=match n with
 |0=>fun _=>none
 |n+1=>CQ (DO n)
def Gl(a:AoW):Option ((AoT×AoW)⊕(Int×Int×AoW)):=DO 18446744073709551616 a
noncomputable def Jd(a:List AoU)(r:(AoU×AoW)⊕(Int×Int×AoW)):Outc:=match r with
 |.inl r=>.ret (.agg (.str r.1.Zd::.sl false (L Af r.1.Ze)::i64 r.1.Pay.Op::i64 r.1.Pay.N::(C1 i64 r.1.Pay.Unit.l++[.sl false (L cApi_Expr r.1.Pay.L)]))) [pS r.2,.buf 9 (L Aa a) false]
 |.inr r=>.pan (.iface 104 (.agg #[.int .i64 r.1,.int .i64 r.2.1])) [pS r.2.2,.buf 9 (L Aa a) false]
def CU(g:Bool)(d:List AoP)(e:Int)(a:List AoR):Option ((Bool×List AoP×Int×List AoR)⊕((List AoP×Int×List AoR)⊕((List AoP×Int×List AoR)⊕((AoU×AoW)⊕(Int×Int×AoW))))) :=if g then (DE ({ l:=d,end_:=e }:AoW) (a.length:Int)).bind fun i=>match i with
  | .inl f=>if FT (a.length+1) 24 then lt1 (a++([f.1]:List AoR)) fun(j:List AoR)=>(Aw f.2 ([97,110,100]:List UInt8)).bind fun b=>some (.inl (b.1,b.2.l,b.2.end_,j)) else none
  |.inr c=>((some (.inr (c.1,c.2.1,c.2.2))).bind fun k=>some (.inr k)).bind fun m=>some (.inr (.inr m)) else some (.inr (.inl (d,e,a)))
def CS(m:AoW)(n:List AoU):Option ((AoU×AoW)⊕(Int×Int×AoW)) :=(Bf m).bind fun i=>(CI i.2).bind fun o=>match o with
 | .inl b=>(Bs n ({ Zd:=b.1,Ze:=[],Pay:=(AoT.mk 0 0 (Arr.rep 4 0) ([])) }:AoU)).bind fun j=>if j.1=true then some (.inr (i.1,161,b.2)) else ((Aw b.2 ([119,104,101,110]:List UInt8)).bind fun c=>(AY (fun(v:Bool×List AoP×Int×List AoR)=>CU v.1 v.2.1 v.2.2.1 v.2.2.2) (c.1,c.2.l,c.2.end_,[])).bind fun x=>match x with
   |.inl (p,q,s)=>some (.inl (p,q,s))
   |.inr z=>some z:Option ((List AoP×Int×List AoR)⊕((AoU×AoW)⊕(Int×Int×AoW)))).bind fun x=>match x with
   | .inl (t,u,w)=>(Ax ({ l:=t,end_:=u }:AoW) ([112,97,121]:List UInt8)).bind fun y=>match y with
    | .inl aa=>(Bf aa).bind fun k=>(Gl k.2).bind fun ab=>match ab with
     | .inl a=>(DG a.1).bind fun ac=>if(decide (ac>24))then some (.inr (k.1,2,a.2)) else (Ax a.2 ([59]:List UInt8)).bind fun ad=>match ad with
       |.inl ae=>some (.inl (({ Zd:=j.2.Zd,Ze:=w,Pay:=a.1 }:AoU),ae))
       |.inr d=>some (.inr (d.1,d.2.1,d.2.2))
     |.inr e=>some (.inr (e.1,e.2.1,e.2.2))
    |.inr f=>some (.inr (f.1,f.2.1,f.2.2))
   |.inr z=>some z
 |.inr g=>some (.inr (g.1,g.2.1,g.2.2))
def C8(b:List UInt8):Option (AoV×Int×Int) :=(EJ b).bind fun a=>if(a.2.2 != 0)then some (({ Zd:=([]:List UInt8),For:=0,Zf:=[] }:AoV),a.2.1,a.2.2) else none
def ER(f:Int)(g:List AoP)(i:Int)(a:List AoU):Option ((Int×List AoP×Int×List AoU)⊕((List AoP×Int×List AoU)⊕((List AoP×Int×List AoU)⊕(AoV×Int×Int)))) :=(Aw ({ l:=g,end_:=i }:AoW) ([99,108,97,117,115,101]:List UInt8)).bind fun b=>if b.1=true then if((a.length:Int)==64)then ((some (({ Zd:=([]:List UInt8),For:=0,Zf:=[] }:AoV),f,2)).bind fun j=>some (.inr j)).bind fun k=>some (.inr (.inr k)) else (CS b.2 a).bind fun m=>match m with
   | .inl d=>if FT (a.length+1) 112 then lt1 (a++([d.1]:List AoU)) fun(n:List AoU)=>(Bf d.2).bind fun c=>some (.inl (c.1,c.2.l,c.2.end_,n)) else none
   |.inr e=>((some (({ Zd:=([]:List UInt8),For:=0,Zf:=[] }:AoV),e.1,e.2.1)).bind fun o=>some (.inr o)).bind fun p=>some (.inr (.inr p)) else some (.inr (.inl (b.2.l,b.2.end_,a)))
def F2(b : List UInt8):Option (AoV×Int×Int) :=(EJ b).bind fun c=>if(c.2.2 != 0)then none else (Ax ({ l:=c.1,end_:=(b.length:Int) }:AoW) ([116,97,114,105,102,102]:List UInt8)).bind fun p=>match p with
 | .inl q =>(CI q).bind fun s=>match s with
  | .inl d=>(Ax d.2 ([102,111,114]:List UInt8)).bind fun t=>match t with
   | .inl u=>(BD u ([104,105,114,101,32,100,101,109,117,114,114,97,103,101,32,102,114,101,105,103,104,116,32,114,101,112,97,105,114,32,108,111,115,115,32,99,108,101,97,110,105,110,103]:List UInt8)).bind fun w=>match w with
    | .inl e=>(Ax e.2 ([123]:List UInt8)).bind fun y=>match y with
     | .inl aa=>((Bf aa).bind fun a=>(AY (fun(v:Int×List AoP×Int×List AoU)=>ER v.1 v.2.1 v.2.2.1 v.2.2.2) (a.1,a.2.l,a.2.end_,[])).bind fun x=>match x with
      |.inl (ab,ac,ad)=>some (.inl (ab,ac,ad))
      |.inr z=>some z:Option ((List AoP×Int×List AoU)⊕(AoV×Int×Int))).bind fun x=>match x with
      | .inl (ae,af,ag)=>(Ax ({ l:=ae,end_:=af }:AoW) ([125]:List UInt8)).bind fun ah=>match ah with
       | .inl f=>(if(decide ((f.l.length:Int)>0))then (Bl f).bind fun ai=>match ai with
         |.inl ak=>some (.inl ())
         |.inr g=>(some (({ Zd:=([]:List UInt8),For:=0,Zf:=[] }:AoV),g.1,g.2.1)).bind fun aj=>some (.inr aj) else some (.inl ()):Option ((Unit)⊕(AoV×Int×Int))).bind fun x=>match x with
        |.inl ()=>some (({ Zd:=d.1,For:=(w64 (1+e.1)),Zf:=ag }:AoV),0,0)
        |.inr z=>some z
       |.inr i=>some (({ Zd:=([]:List UInt8),For:=0,Zf:=[] }:AoV),i.1,i.2.1)
      |.inr z=>some z
     |.inr j=>some (({ Zd:=([]:List UInt8),For:=0,Zf:=[] }:AoV),j.1,j.2.1)
    |.inr k=>some (({ Zd:=([]:List UInt8),For:=0,Zf:=[] }:AoV),k.1,k.2.1)
   |.inr m=>some (({ Zd:=([]:List UInt8),For:=0,Zf:=[] }:AoV),m.1,m.2.1)
  |.inr n=>some (({ Zd:=([]:List UInt8),For:=0,Zf:=[] }:AoV),n.1,n.2.1)
 |.inr o=>some (({ Zd:=([]:List UInt8),For:=0,Zf:=[] }:AoV),o.1,o.2.1)
def EM(a:List UInt8):Option (AoV×Int×Int):=match C8 a with
|some r=>some r
|none=>F2 a
def Fy(a:Int)(b:Int):Option (Bool) :=(if(decide (a≥0))then if(decide (a<16))then if(decide (b≥1))then some (decide (b<=6)) else some false else some false else some false:Option (Bool)).bind fun c=>some c
def Hb(a:Int):Option (Bool) :=some (a != a)
def DH(a:Int)(b:Int):Option (Int) :=(Hb a).bind fun d=>(Hb b).bind fun c=>if d then if c then some 0 else some (-1) else if c then some 1 else if(decide (a<b))then some (-1) else if(decide (a>b))then some 1 else some 0
def Ik(b:List Int)(a:Int):Option ((Int)⊕((Unit)⊕((Unit)⊕(Int)))) :=if (decide (a<(b.length:Int)))then if InR a b.length then if(nth b a.toNat != 0)then ((some (nth b a.toNat)).bind fun c=>some (.inr c)).bind fun d=>some (.inr (.inr d)) else some (.inl (w64 (a+1))) else none else some (.inr (.inl ()))
def Kn(a:List Int):Option (Int) :=((AY (fun(v:Int)=>Ik a v) 0).bind fun x=>match x with
 |.inl ()=>some (.inl ())
 |.inr z=>some z:Option ((Unit)⊕(Int))).bind fun x=>match x with
 |.inl ()=>some 0
 |.inr z=>some z
def BS(a:Ao0)(b:Ao0):Option (Int) :=(DH a.Zu.Zn b.Zu.Zn).bind fun c=>(DH a.Zt b.Zt).bind fun d=>(DH a.Ref.No b.Ref.No).bind fun e=>(Kn ([c,d,e]:List Int)).bind fun f=>some f
def E8(a:Int):Option (Int) :=(if(a==3)then some (a==3) else some (a==4):Option (Bool)).bind fun b=>if b then some 1 else if(a==5)then some 2 else some 3
def EA(a:Int):Option (Int×Int) :=(if(a==1)then some (a==1) else if(a==13)then some (a==13) else if(a==14)then some (a==14) else some (a==15):Option (Bool)).bind fun b=>if b then some (1,9007199254740992) else if(a==2)then some (1,15) else if(a==12)then some (2,9007199254740992) else some (0,0)
def Hd(a:Int):Option (Int×Int) :=(if(a==1)then some (a==1) else some (a==2):Option (Bool)).bind fun b=>if b then some (0,1) else if(a==12)then some (1,1) else (if(a==13)then some (a==13) else some (a==15):Option (Bool)).bind fun c=>if c then some (1,0) else (if(a==14)then some (a==14) else some (a==16):Option (Bool)).bind fun d=>if d then some (0,0) else some (2,1)
def Ic(a:Ao1):Option (Bool) :=(if(decide (a.Op<1))then some true else some (decide (a.Op≥17)):Option (Bool)).bind fun c=>if c then some false else (EA a.Op).bind fun b=>(if(decide (b.1>0))then some 0 else some a.N:Option (Int)).bind fun d=>(if(decide (b.1>1))then some 0 else some a.M:Option (Int)).bind fun e=>(if((d==0)&&(e==0))then if(decide ((Qc a.N a.M)≥0))then some (decide ((Qk a.N a.M)<=b.2)) else some false else some false:Option (Bool)).bind fun f=>some f
def CV(b:List Ao1)(c:Ao1->Option (Bool))(a:Int):Option ((Int)⊕((Unit)⊕((Unit)⊕(Int)))) :=if (decide (a<(b.length:Int)))then if InR a b.length then (c (nth b a.toNat)).bind fun d=>if d then ((some a).bind fun e=>some (.inr e)).bind fun f=>some (.inr (.inr f)) else some (.inl (w64 (a+1))) else none else some (.inr (.inl ()))
def DL(a:List Ao1)(b:Ao1->Option (Bool)):Option (Int) :=((AY (fun(v:Int)=>CV a b v) 0).bind fun x=>match x with
 |.inl ()=>some (.inl ())
 |.inr z=>some z:Option ((Unit)⊕(Int))).bind fun x=>match x with
 |.inl ()=>some (-1)
 |.inr z=>some z
def Cx(a:List Ao1)(b:Ao1->Option (Bool)):Option (Bool) :=(DL a b).bind fun c=>some (decide (c≥0))
def Fx(a:Ao1):Option (Bool) :=(Ic a).bind fun b=>some (!b)
def LM(b:UInt64)(c:UInt64):Option (UInt64×UInt64) :=(Nk b c).bind fun a=>some (a.1,a.2)
def Ei(a:Int)(b:List Int):Option ((Int×List Int)⊕(List Int)) :=if (decide (a<(b.length:Int)))then if InB a b.length then if InB a b.length then lt1 (w64 (a+(((min (b.take a.toNat).length (b.length-a.toNat)):Nat):Int))) fun(c:Int)=>lt1 (ovl b ((b.take a.toNat).take (min (b.take a.toNat).length (b.length-a.toNat))) a.toNat) fun(d:List Int)=>some (.inl (c,d)) else none else none else some (.inr b)
def Ep(b:List Int)(d:Int):Option (List Int) :=if(decide (d<0))then none else (LM (UInt64.ofInt (b.length:Int)) (UInt64.ofInt d)).bind fun a=>(if(decide (a.1>(0:UInt64)))then some true else some (decide (a.2>(9223372036854775807:UInt64))):Option (Bool)).bind fun e=>if e then none else if Mk (w64 (a.2.toNat:Int)) (w64 (a.2.toNat:Int)) 8 then lt1 (List.replicate ((w64 (a.2.toNat:Int)).toNat) 0) fun(c:List Int)=>lt1 (((min b.length c.length):Nat):Int) fun(f:Int)=>lt1 (ovl c (b.take (min b.length c.length)) 0) fun(g:List Int)=>((AY (fun(v:Int×List Int)=>Ei v.1 v.2) (f,g)).bind fun i=>some i:Option (List Int)).bind fun j=>some j else none
def E9(a:List AoU):Option (List AoU) :=if FT (0+a.length) 112 then lt1 (([]:List AoU)++a) fun(b:List AoU)=>some b else none
def DT(b:UInt8)(a:List UInt8):Option ((List UInt8)⊕(List UInt8)) :=(if(decide ((a.length:Int)>0))then if InR (w64 ((a.length:Int)-1)) a.length then some ((nth a ((w64 ((a.length:Int)-1)).toNat))==b) else none else some false:Option (Bool)).bind fun c=>if c then if InB (w64 ((a.length:Int)-1)) a.length then lt1 (a.take ((w64 ((a.length:Int)-1)).toNat)) fun(d:List UInt8)=>some (.inl d) else none else some (.inr a)
def EK(a:List UInt8)(b:UInt8):Option (List UInt8) :=((AY (fun(v:List UInt8)=>DT b v) a).bind fun c=>some c:Option (List UInt8)).bind fun d=>some d
def Em(b:UInt8)(a:List UInt8):Option ((List UInt8)⊕(List UInt8)) :=(if(decide ((a.length:Int)>0))then if InR 0 a.length then some ((nth a 0)==b) else none else some false:Option (Bool)).bind fun c=>if c then if InB 1 a.length then lt1 ((a.drop 1).take (a.length-1)) fun(d:List UInt8)=>some (.inl d) else none else some (.inr a)
def Fq(a:List UInt8)(b:UInt8):Option (List UInt8) :=((AY (fun(v:List UInt8)=>Em b v) a).bind fun c=>some c:Option (List UInt8)).bind fun d=>some d
def Eh(b:List UInt8)(a:Int)(c:Arr Bool 256):Option ((Int×Arr Bool 256)⊕((Arr Bool 256)⊕((Arr Bool 256)⊕(Arr Bool 256×Bool)))) :=if (decide (a<(b.length:Int)))then if InR a b.length then lt1 (nth b a.toNat) fun(d:UInt8)=>if(decide (d≥(128:UInt8)))then ((some (c,false)).bind fun e=>some (.inr e)).bind fun f=>some (.inr (.inr f)) else if InR (d.toNat:Int) 256 then lt1 (c.set d.toNat true) fun(g:Arr Bool 256)=>some (.inl ((w64 (a+1)),g)) else none else none else some (.inr (.inl c))
def Ci(a:List UInt8):Option (Arr Bool 256×Bool) :=((AY (fun(v:Int×Arr Bool 256)=>Eh a v.1 v.2) (0,(Arr.rep 256 false))).bind fun x=>match x with
 |.inl b=>some (.inl b)
 |.inr z=>some z:Option ((Arr Bool 256)⊕(Arr Bool 256×Bool))).bind fun x=>match x with
 |.inl c=>some (c,true)
 |.inr z=>some z
def Bu(a:Arr Bool 256)(b:UInt8):Option (Bool×Arr Bool 256) :=if InR (b.toNat:Int) 256 then some ((a.get b.toNat),a) else none
def C5(a:List UInt8)(c:Arr Bool 256):Option ((List UInt8×Arr Bool 256)⊕(List UInt8×Arr Bool 256)) :=if (decide ((a.length:Int)>0))then if InR (w64 ((a.length:Int)-1)) a.length then (Bu c (nth a ((w64 ((a.length:Int)-1)).toNat))).bind fun b=>if(!b.1)then some (.inr (a,b.2)) else if InB (w64 ((a.length:Int)-1)) a.length then lt1 (a.take ((w64 ((a.length:Int)-1)).toNat)) fun(d:List UInt8)=>some (.inl (d,b.2)) else none else none else some (.inr (a,c))
def Cy(a:List UInt8)(b:Arr Bool 256):Option (List UInt8×Arr Bool 256) :=((AY (fun(v:List UInt8×Arr Bool 256)=>C5 v.1 v.2) (a,b)).bind fun(c,d)=>some (c,d):Option (List UInt8×Arr Bool 256)).bind fun(e,f)=>some (e,f)
def CL(a:List UInt8)(c:Arr Bool 256):Option ((List UInt8×Arr Bool 256)⊕(List UInt8×Arr Bool 256)) :=if (decide ((a.length:Int)>0))then if InR 0 a.length then (Bu c (nth a 0)).bind fun b=>if(!b.1)then some (.inr (a,b.2)) else if InB 1 a.length then lt1 ((a.drop 1).take (a.length-1)) fun(d:List UInt8)=>some (.inl (d,b.2)) else none else none else some (.inr (a,c))
def CC(a:List UInt8)(b:Arr Bool 256):Option (List UInt8×Arr Bool 256) :=((AY (fun(v:List UInt8×Arr Bool 256)=>CL v.1 v.2) (a,b)).bind fun(c,d)=>some (c,d):Option (List UInt8×Arr Bool 256)).bind fun(e,f)=>some (e,f)
def HW(b:List UInt8)(a:List UInt8):Option (List UInt8) :=(if(b==([]:List UInt8))then some true else some (a==([]:List UInt8)):Option (Bool)).bind fun e=>if e then some b else (if((a.length:Int)==1)then if InR 0 a.length then some (decide ((nth a 0)<(128:UInt8))) else none else some false:Option (Bool)).bind fun f=>if f then if InR 0 a.length then (EK b (nth a 0)).bind fun g=>if InR 0 a.length then (Fq g (nth a 0)).bind fun i=>some i else none else none else (Ci a).bind fun c=>if c.2=true then (Cy b c.1).bind fun d=>(CC d.1 d.2).bind fun j=>some j.1 else none
def G1(a:List UInt8):Option (Bool) :=(if (decide ((a.length:Int)<=32))then if (!(a==([]:List UInt8)))then if InR 0 a.length then if (decide ((nth a 0)≥(97:UInt8)))then if InR 0 a.length then if(decide ((nth a 0)<=(122:UInt8)))then (HW a ([97,98,99,100,101,102,103,104,105,106,107,108,109,110,111,112,113,114,115,116,117,118,119,120,121,122,48,49,50,51,52,53,54,55,56,57]:List UInt8)).bind fun b=>some (b==([]:List UInt8)) else some false else none else some false else none else some false else some false:Option (Bool)).bind fun c=>some c
def E3(c:Arr Int 4)(a:Int)(b:RP):Option ((Int×RP)⊕(RP)) :=if(decide (a<4))then if InR a 4 then lt1 (up2 b (c.get a.toNat) (some (w64 (((b (c.get a.toNat)).getD 0)+1)))) fun(d:RP)=>some (.inl ((w64 (a+1)),d)) else none else some (.inr b)
def Dl(b:Arr Int 4):Option (Bool) :=((AY (fun(v:Int×RP)=>E3 b v.1 v.2) (0,no2)).bind fun c=>some c:Option (RP)).bind fun a=>(if((w64 ((w64 (((a 0).getD 0)+((a 1).getD 0)))+((a (-1)).getD 0)))==4)=true then if(decide (((a 1).getD 0)<=1))then some (decide (((a (-1)).getD 0)<=1)) else some false else some false:Option (Bool)).bind fun d=>some d
def FZ(a:AoT->Option (Bool))(b:AoT):Option (Bool) :=(a b).bind fun c=>some (!c)
def CT(b:List AoT)(c:AoT->Option (Bool))(a:Int):Option ((Int)⊕((Unit)⊕((Unit)⊕(Int)))) :=if (decide (a<(b.length:Int)))then if InR a b.length then (c (nth b a.toNat)).bind fun d=>if d then ((some a).bind fun e=>some (.inr e)).bind fun f=>some (.inr (.inr f)) else some (.inl (w64 (a+1))) else none else some (.inr (.inl ()))
def DN(a:List AoT)(b:AoT->Option (Bool)):Option (Int) :=((AY (fun(v:Int)=>CT a b v) 0).bind fun x=>match x with
 |.inl ()=>some (.inl ())
 |.inr z=>some z:Option ((Unit)⊕(Int))).bind fun x=>match x with
 |.inl ()=>some (-1)
 |.inr z=>some z
def Ce(a:List AoT)(b:AoT->Option (Bool)):Option (Bool) :=(DN a b).bind fun c=>some (decide (c≥0))
def E6(rec_:AoT->Option (Bool))(a:AoT):Option (Bool) :=((if(a.Op==1)then (some (.inl (1099511627776,0))).bind fun b=>some (.inr b) else if(a.Op==2)then (some (.inl (15,0))).bind fun c=>some (.inr c) else if(a.Op==11)then some (.inl 4) else some (.inl 2):Option ((Int)⊕((Int×Int)⊕(Bool)))).bind fun x=>match x with
 | .inl d=>(if(decide (a.Op<1))then some true else some (decide (a.Op>11)):Option (Bool)).bind fun e=>if e then (some false).bind fun f=>some (.inr f) else some (.inl (0,d))
 |.inr z=>some z:Option ((Int×Int)⊕(Bool))).bind fun x=>match x with
 | .inl (g,i)=>(if(decide (a.N<0))then some true else if(decide (a.N>g))then some true else if((a.L.length:Int) != i)then some true else (Dl a.Unit).bind fun j=>if(!j)then some true else if(a.Op != 1)then some (!(a.Unit==(⟨[0,0,0,0],rfl⟩:Arr Int 4))) else some false:Option (Bool)).bind fun k=>if k then some false else (Ce a.L (FZ rec_)).bind fun l=>some (!l)
 |.inr z=>some z
def EP(n:Nat):AoT->Option (Bool):=match n with
 |0=>fun _=>none
 |n+1=>E6 (EP n)
def LI(a:AoT):Option (Bool):=EP 18446744073709551616 a
def EB(b:List AoR)(a:Int):Option ((Int)⊕((Unit)⊕((Unit)⊕((Bool×Bool×ME)⊕((Bool×Bool×Int×ME)⊕((Bool×Bool)⊕((Bool×Bool)⊕(Int)))))))) :=if (decide (a<(b.length:Int)))then if InR a b.length then lt1 ((nth b a.toNat).Attr) fun(c:Int)=>lt1 ((nth b a.toNat).Low) fun(d:Int)=>lt1 ((nth b a.toNat).Zc) fun(e:Int)=>(if(decide (c<0))then some true else if(decide (c≥16))then some true else if(decide ((Qc d e)<0))then some true else some (decide ((Qk d e)>1099511627776)):Option (Bool)).bind fun f=>if f then (((((some 1).bind fun g=>some (.inr g)).bind fun i=>some (.inr (.inr i))).bind fun j=>some (.inr j)).bind fun k=>some (.inr k)).bind fun l=>some (.inr (.inr l)) else some (.inl (w64 (a+1))) else none else some (.inr (.inl ()))
def Gc(b:AoV)(d:Bool)(e:Bool)(a:Int)(f:ME):Option ((Bool×Bool×Int×ME)⊕((Bool×Bool)⊕((Bool×Bool)⊕(Int)))) :=if (decide (a<(b.Zf.length:Int)))then (if InR a b.Zf.length then lt1 ((nth b.Zf a.toNat).Zd) fun(c:List UInt8)=>lt1 ((nth b.Zf a.toNat).Ze) fun(g:List AoR)=>lt1 (((nth b.Zf a.toNat).Pay).Op) fun(i:Int)=>lt1 (((nth b.Zf a.toNat).Pay).N) fun(j:Int)=>lt1 (((nth b.Zf a.toNat).Pay).Unit) fun(k:Arr Int 4)=>lt1 (((nth b.Zf a.toNat).Pay).L) fun(l:List AoT)=>((G1 c).bind fun m=>if(!m)then some true else (LI (AoT.mk i j k l)).bind fun n=>some (!n):Option (Bool)).bind fun o=>if o then (((some 1).bind fun p=>some (.inr p)).bind fun q=>some (.inr (.inr q))).bind fun s=>some (.inr s) else ((AY (fun(v:Int)=>EB g v) 0).bind fun x=>match x with
    |.inl ()=>some (.inl ())
    |.inr z=>some z:Option ((Unit)⊕((Bool×Bool×ME)⊕((Bool×Bool×Int×ME)⊕((Bool×Bool)⊕((Bool×Bool)⊕(Int))))))).bind fun x=>match x with
    | .inl ()=>(if d then some true else (Ek c).bind fun t=>if t then some true else some ((f c).getD false):Option (Bool)).bind fun u=>(if e then some true else if(decide ((g.length:Int)>8))then some true else (DG (AoT.mk i j k l)).bind fun w=>some (decide (w>24)):Option (Bool)).bind fun y=>lt1 (up2 f c (some true)) fun(aa:ME)=>some (.inl (u,y,aa))
    |.inr z=>some z else none:Option ((Bool×Bool×ME)⊕((Bool×Bool×Int×ME)⊕((Bool×Bool)⊕((Bool×Bool)⊕(Int)))))).bind fun x=>match x with
  |.inl (ab,ac,ad)=>some (.inl (ab,ac,(w64 (a+1)),ad))
  |.inr z=>some z else some (.inr (.inl (d,e)))
def Da(a:AoV):Option (Int) :=((G1 a.Zd).bind fun b=>if(!b)then some true else if(decide (a.For<1))then some true else some (decide (a.For>6)):Option (Bool)).bind fun c=>if c then some 1 else (Ek a.Zd).bind fun d=>lt1 (decide ((a.Zf.length:Int)>64)) fun(e:Bool)=>((AY (fun(v:Bool×Bool×Int×ME)=>Gc a v.1 v.2.1 v.2.2.1 v.2.2.2) (d,e,0,no2)).bind fun x=>match x with
  |.inl (f,g)=>some (.inl (f,g))
  |.inr z=>some z:Option ((Bool×Bool)⊕(Int))).bind fun x=>match x with
  | .inl (i,j)=>if i then some 161 else if j then some 2 else some 0
  |.inr z=>some z
def Eb(b:List Int)(c:Int)(a:Int):Option ((Int)⊕((Unit)⊕((Unit)⊕(Int)))) :=if (decide (a<(b.length:Int)))then if InR a b.length then if(c==nth b a.toNat)then ((some a).bind fun d=>some (.inr d)).bind fun e=>some (.inr (.inr e)) else some (.inl (w64 (a+1))) else none else some (.inr (.inl ()))
def Cs(a:List Int)(b:Int):Option (Int) :=((AY (fun(v:Int)=>Eb a b v) 0).bind fun x=>match x with
 |.inl ()=>some (.inl ())
 |.inr z=>some z:Option ((Unit)⊕(Int))).bind fun x=>match x with
 |.inl ()=>some (-1)
 |.inr z=>some z
def E2(s1_6377:List AoR)(s2_6378:List AoR)(a:Int):Option ((Int)⊕((Unit)⊕((Unit)⊕(Bool)))) :=if (decide (a<(s1_6377.length:Int)))then if InR a s1_6377.length then if InR a s2_6378.length then lt1 (!(((nth s1_6377 a.toNat).Attr==(nth s2_6378 a.toNat).Attr)&&(((nth s1_6377 a.toNat).Low==(nth s2_6378 a.toNat).Low)&&((nth s1_6377 a.toNat).Zc==(nth s2_6378 a.toNat).Zc)))) fun(b:Bool)=>if b then ((some false).bind fun c=>some (.inr c)).bind fun d=>some (.inr (.inr d)) else some (.inl (w64 (a+1))) else none else none else some (.inr (.inl ()))
def E7(s1_6377:List AoR)(s2_6378:List AoR):Option (Bool) :=if((s1_6377.length:Int) != (s2_6378.length:Int))then some false else ((AY (fun(v:Int)=>E2 s1_6377 s2_6378 v) 0).bind fun x=>match x with
  |.inl ()=>some (.inl ())
  |.inr z=>some z:Option ((Unit)⊕(Bool))).bind fun x=>match x with
  |.inl ()=>some true
  |.inr z=>some z
def Ht(a:List (Arr Int 4)):Option (Arr Int 4×Bool) :=if InR 0 a.length then if InR 0 a.length then if InR 1 a.length then some (nth a 0,(nth a 0==nth a 1)) else none else none else none
def Hy(a:List (Arr Int 4)):Option (Arr Int 4×Bool) :=(if InR 2 a.length then if InR 0 a.length then if InR 1 a.length then if (nth a 0==nth a 1)then if InR 2 a.length then if InR 3 a.length then some (nth a 2==nth a 3) else none else none else some false else none else none else none:Option (Bool)).bind fun b=>some (nth a 2,b)
def FF(b : List (Arr Int 4))(e:Int)(a:Int)(d:Arr Int 4):Option ((Int×Arr Int 4)⊕((Arr Int 4)⊕((Arr Int 4)⊕(Arr Int 4×Bool)))) :=if (decide (a<4))then if InR 0 b.length then if InR a 4 then if InR 1 b.length then if InR a 4 then if InR a 4 then lt1 (d.set a.toNat (w64 (((nth b 0).get a.toNat)+(w64 (e*((nth b 1).get a.toNat)))))) fun(c:Arr Int 4)=>(if InR a 4 then if(decide ((c.get a.toNat)<(-3)))then some true else if InR a 4 then some (decide ((c.get a.toNat)>3)) else none else none:Option (Bool)).bind fun f=>if f then lt1 (⟨[0,0,0,0],rfl⟩:Arr Int 4) fun(g:Arr Int 4)=>((some (g,false)).bind fun i=>some (.inr i)).bind fun j=>some (.inr (.inr j)) else some (.inl ((w64 (a+1)),c)) else none else none else none else none else none else some (.inr (.inl d))
def Gk(a:List (Arr Int 4))(b:Int):Option (Arr Int 4×Bool) :=((AY (fun(v:Int×Arr Int 4)=>FF a b v.1 v.2) (0,(Arr.rep 4 0))).bind fun x=>match x with
 |.inl c=>some (.inl c)
 |.inr z=>some z:Option ((Arr Int 4)⊕(Arr Int 4×Bool))).bind fun x=>match x with
 |.inl d=>some (d,true)
 |.inr z=>some z
def G9(a:Int):Option (Int) :=some a
def ttype_rules  : Option (Jp) :=(G9 1).bind fun a=>(G9 (-1)).bind fun b=>(G9 (-1)).bind fun c=>(G9 (-1)).bind fun d=>lt1 (up2 (up2 (up2 (up2 (up2 (up2 (up2 (up2 (up2 no2 3 (some (⟨119,0⟩))) 4 (some (⟨119,0⟩))) 6 (some (⟨119,0⟩))) 7 (some (⟨119,0⟩))) 5 (some (⟨165,a⟩))) 8 (some (⟨165,b⟩))) 9 (some (⟨165,c⟩))) 10 (some (⟨165,d⟩))) 11 (some (⟨120,0⟩))) fun(e:Jp)=>some e
def ttype_attributes  : Option ((Arr Int 4)×(Arr Int 4)×(Arr Int 4)×(Arr Int 4)×(Arr Int 4)×(Arr Int 4)×(Arr Int 4)×(Arr Int 4)×(Arr Int 4)×(Arr Int 4)×(Arr Int 4)×(Arr Int 4)×(Arr Int 4)×(Arr Int 4)×(Arr Int 4)×(Arr Int 4)) :=lt1 (⟨[0,0,0,1],rfl⟩:Arr Int 4) fun(c:Arr Int 4)=>lt1 (⟨[0,0,1,0],rfl⟩:Arr Int 4) fun(d:Arr Int 4)=>lt1 (⟨[0,1,0,0],rfl⟩:Arr Int 4) fun(a:Arr Int 4)=>lt1 (⟨[1,0,0,0],rfl⟩:Arr Int 4) fun(b:Arr Int 4)=>some ((Arr.rep 4 0),(Arr.rep 4 0),(Arr.rep 4 0),(Arr.rep 4 0),(Arr.rep 4 0),c,d,a,a,(Arr.rep 4 0),b,b,(Arr.rep 4 0),(Arr.rep 4 0),(Arr.rep 4 0),(Arr.rep 4 0))
def Hs(e:Jp)(b:AoT)(rec_:Jp->AoT->Option (Arr Int 4×Bool))(a:Int)(c:List (Arr Int 4)):Option ((Int×List (Arr Int 4))⊕((List (Arr Int 4))⊕((List (Arr Int 4))⊕(Arr Int 4×Bool)))) :=if (decide (a<(b.L.length:Int)))then if InR a b.L.length then lt1 ((nth b.L a.toNat).Op) fun(f:Int)=>lt1 ((nth b.L a.toNat).N) fun(g:Int)=>lt1 ((nth b.L a.toNat).Unit) fun(i:Arr Int 4)=>lt1 ((nth b.L a.toNat).L) fun(j:List AoT)=>(rec_ e (AoT.mk f g i j)).bind fun d=>if(!d.2)then lt1 (⟨[0,0,0,0],rfl⟩:Arr Int 4) fun(k:Arr Int 4)=>((some (k,false)).bind fun l=>some (.inr l)).bind fun m=>some (.inr (.inr m)) else if FT (c.length+1) 32 then lt1 (c++([d.1]:List (Arr Int 4))) fun(n:List (Arr Int 4))=>some (.inl ((w64 (a+1)),n)) else none else none else some (.inr (.inl c))
def Hc(rec_:Jp->AoT->Option (Arr Int 4×Bool))(c:Jp)(b:AoT):Option (Arr Int 4×Bool) :=if(b.Op==1)then some (b.Unit,true) else if(b.Op==2)then ttype_attributes.bind fun a=>if InR b.N 16 then lt1 (nth [a.1,a.2.1,a.2.2.1,a.2.2.2.1,a.2.2.2.2.1,a.2.2.2.2.2.1,a.2.2.2.2.2.2.1,a.2.2.2.2.2.2.2.1,a.2.2.2.2.2.2.2.2.1,a.2.2.2.2.2.2.2.2.2.1,a.2.2.2.2.2.2.2.2.2.2.1,a.2.2.2.2.2.2.2.2.2.2.2.1,a.2.2.2.2.2.2.2.2.2.2.2.2.1,a.2.2.2.2.2.2.2.2.2.2.2.2.2.1,a.2.2.2.2.2.2.2.2.2.2.2.2.2.2.1,a.2.2.2.2.2.2.2.2.2.2.2.2.2.2.2] b.N.toNat) fun(i:Arr Int 4)=>some (i,true) else none else ((AY (fun(v:Int×List (Arr Int 4))=>Hs c b rec_ v.1 v.2) (0,[])).bind fun x=>match x with
   |.inl j=>some (.inl j)
   |.inr z=>some z:Option ((List (Arr Int 4))⊕(Arr Int 4×Bool))).bind fun x=>match x with
   | .inl d=>if((c b.Op).getD ⟨0,0⟩).k=119 then (Ht d).bind fun e=>if(!e.2)then lt1 (⟨[0,0,0,0],rfl⟩:Arr Int 4) fun(l:Arr Int 4)=>some (l,false) else some (e.1,true) else if((c b.Op).getD ⟨0,0⟩).k=120 then (Hy d).bind fun f=>if(!f.2)then lt1 (⟨[0,0,0,0],rfl⟩:Arr Int 4) fun(m:Arr Int 4)=>some (m,false) else some (f.1,true) else if((c b.Op).getD ⟨0,0⟩).k=165 then (Gk d (((c b.Op).getD ⟨0,0⟩).n)).bind fun g=>if(!g.2)then lt1 (⟨[0,0,0,0],rfl⟩:Arr Int 4) fun(o:Arr Int 4)=>some (o,false) else some (g.1,true) else none
   |.inr z=>some z
def GU(n:Nat):Jp->AoT->Option (Arr Int 4×Bool):=match n with
 |0=>fun _ _=>none
 |n+1=>Hc (GU n)
def QM(a:Jp)(b:AoT):Option (Arr Int 4×Bool):=GU 18446744073709551616 a b
def GK(b:AoV)(d:Jp)(a:Int):Option ((Int)⊕((Unit)⊕((Unit)⊕(Int×Int)))) :=if (decide (a<(b.Zf.length:Int)))then if InR a b.Zf.length then lt1 ((nth b.Zf a.toNat).Zd) fun(m:List UInt8)=>lt1 ((nth b.Zf a.toNat).Ze) fun(n:List AoR)=>lt1 (((nth b.Zf a.toNat).Pay).Op) fun(e:Int)=>lt1 (((nth b.Zf a.toNat).Pay).N) fun(f:Int)=>lt1 (((nth b.Zf a.toNat).Pay).Unit) fun(g:Arr Int 4)=>lt1 (((nth b.Zf a.toNat).Pay).L) fun(i:List AoT)=>(QM d (AoT.mk e f g i)).bind fun c=>(if(!c.2)then some true else some (!(c.1==(⟨[1,0,0,0],rfl⟩:Arr Int 4))):Option (Bool)).bind fun j=>if j then ((some (a,170)).bind fun k=>some (.inr k)).bind fun l=>some (.inr (.inr l)) else some (.inl (w64 (a+1))) else none else some (.inr (.inl ()))
def H8(a:AoV):Option (Int×Int) :=(Da a).bind fun b=>if(b != 0)then some (0,b) else ttype_rules.bind fun c=>((AY (fun(v:Int)=>GK a c v) 0).bind fun x=>match x with
  |.inl ()=>some (.inl ())
  |.inr z=>some z:Option ((Unit)⊕(Int×Int))).bind fun x=>match x with
  |.inl ()=>some (0,0)
  |.inr z=>some z
def Az(c:Int)(a:Int)(b:List Ao0):Option ((Int×List Ao0)⊕(List Ao0)) :=(if(decide (a>c))then if InR a b.length then if InR (w64 (a-1)) b.length then (BS ({ Ref:=(nth b a.toNat).Ref,By:=(nth b a.toNat).By,Zt:=(nth b a.toNat).Zt,Zu:=(nth b a.toNat).Zu }:Ao0) ({ Ref:=(nth b ((w64 (a-1)).toNat)).Ref,By:=(nth b ((w64 (a-1)).toNat)).By,Zt:=(nth b ((w64 (a-1)).toNat)).Zt,Zu:=(nth b ((w64 (a-1)).toNat)).Zu }:Ao0)).bind fun d=>some (decide (d<0)) else none else none else some false:Option (Bool)).bind fun e=>if e = true then if InR (w64 (a-1)) b.length then if InR a b.length then if InR a b.length then if InR (w64 (a-1)) ((b.set a.toNat ({ Ref:=(nth b ((w64 (a-1)).toNat)).Ref,By:=(nth b ((w64 (a-1)).toNat)).By,Zt:=(nth b ((w64 (a-1)).toNat)).Zt,Zu:=(nth b ((w64 (a-1)).toNat)).Zu }:Ao0)).length)then lt1 ((b.set a.toNat ({ Ref:=(nth b ((w64 (a-1)).toNat)).Ref,By:=(nth b ((w64 (a-1)).toNat)).By,Zt:=(nth b ((w64 (a-1)).toNat)).Zt,Zu:=(nth b ((w64 (a-1)).toNat)).Zu }:Ao0)).set ((w64 (a-1)).toNat) ({ Ref:=(nth b a.toNat).Ref,By:=(nth b a.toNat).By,Zt:=(nth b a.toNat).Zt,Zu:=(nth b a.toNat).Zu }:Ao0)) fun(f:List Ao0)=>some (.inl ((w64 (a-1)),f)) else none else none else none else none else some (.inr b)
def AO(c:Int)(d:Int)(a:Int)(b:List Ao0):Option ((Int×List Ao0)⊕(List Ao0)) :=if(decide (a<d))then ((AY (fun(v:Int×List Ao0)=>Az c v.1 v.2) (a,b)).bind fun e=>some e:Option (List Ao0)).bind fun f=>some (.inl ((w64 (a+1)),f)) else some (.inr b)
def Av(b:List Ao0)(a:Int)(c:Int):Option (List Ao0) :=(AY (fun(v:Int×List Ao0)=>AO a c v.1 v.2) ((w64 (a+1)),b)).bind fun d=>some d
def AE(e:Int)(c:Int)(a:Int)(b:List Ao0):Option ((Int×Int×List Ao0)⊕(Int×List Ao0)) :=if(decide (a<=e))then (Av b c a).bind fun d=>if b.length=d.length then some (.inl (a,(w64 (a+20)),d)) else none else some (.inr (c,b))
def Cg(a:Int)(b:Int):Option ((Unit)⊕(Unit)) :=if(decide ((w64 (2*b))<=a))then none else some (.inr ())
def AD(b:Int)(a:Int):Option ((Int)⊕(Unit)) :=if(decide (a<b))then ((AY (fun(_:Unit)=>Cg b a ) ()).bind fun()=>some ():Option (Unit)).bind fun()=>(if(decide ((w64 (0+a))<b))then none else some ():Option (Unit)).bind fun()=>some (.inl (w64 (a*2))) else some (.inr ())
def BC(d:List Ao0)(a:Int):Option (List Ao0) :=((AY (fun(v:Int×Int×List Ao0)=>AE a v.1 v.2.1 v.2.2) (0,20,d)).bind fun(e,f)=>some (e,f):Option (Int×List Ao0)).bind fun(g,b)=>(Av b g a).bind fun c=>if b.length=c.length then (AY (fun(v:Int)=>AD a v) 20).bind fun()=>some c else none
def Bb(a:List Ao0):Option (List Ao0) :=(BC a (a.length:Int)).bind fun b=>if a.length=b.length then some b else none
def Cn(b:List Ao0)(g:Int)(i:Int)(a:Int)(c:List Ao0):Option ((Int×List Ao0)⊕(List Ao0)) :=if (decide (a<(b.length:Int)))then (if InR a b.length then lt1 (((nth b a.toNat).Ref).Zg) fun(e:Int)=>lt1 (((nth b a.toNat).Ref).No) fun(j:Int)=>lt1 (((nth b a.toNat).By).Zg) fun(k:Int)=>lt1 (((nth b a.toNat).By).No) fun(l:Int)=>lt1 ((nth b a.toNat).Zt) fun(m:Int)=>lt1 (((nth b a.toNat).Zu).Za) fun(d:Int)=>lt1 ((((nth b a.toNat).Zu).Ref).Zg) fun(n:Int)=>lt1 ((((nth b a.toNat).Zu).Ref).No) fun(o:Int)=>lt1 (((nth b a.toNat).Zu).Zj) fun(p:Int)=>lt1 (((nth b a.toNat).Zu).Zk) fun(q:Int)=>lt1 (((nth b a.toNat).Zu).Zl) fun(s:Int)=>lt1 (((nth b a.toNat).Zu).Zm) fun(f:Int)=>lt1 (((nth b a.toNat).Zu).Zn) fun(t:Int)=>lt1 (((nth b a.toNat).Zu).To) fun(u:Int)=>lt1 (((nth b a.toNat).Zu).Code) fun(v:Int)=>lt1 (((nth b a.toNat).Zu).Zo) fun(w:Int)=>lt1 (((nth b a.toNat).Zu).Zp) fun(x:Int)=>lt1 (((nth b a.toNat).Zu).Zq) fun(y:Int)=>lt1 (((nth b a.toNat).Zu).Zr) fun(z:Int)=>lt1 (((nth b a.toNat).Zu).Zb) fun(aa:List UInt8)=>lt1 (((nth b a.toNat).Zu).Zs) fun(ab:List AoY)=>(if(e != g)then some true else some (f != i):Option (Bool)).bind fun ac=>if ac then some c else (if(d==11)then some true else if(d==12)then some true else some (d==13):Option (Bool)).bind fun ad=>if ad then if FT (c.length+1) 192 then lt1 (c++([({ Ref:=({ Zg:=e,No:=j }:AoX),By:=({ Zg:=k,No:=l }:AoX),Zt:=m,Zu:=({ Za:=d,Ref:=({ Zg:=n,No:=o }:AoX),Zj:=p,Zk:=q,Zl:=s,Zm:=f,Zn:=t,To:=u,Code:=v,Zo:=w,Zp:=x,Zq:=y,Zr:=z,Zb:=aa,Zs:=ab }:AoZ) }:Ao0)]:List Ao0)) fun(ae:List Ao0)=>some ae else none else some c else none:Option (List Ao0)).bind fun af=>some (.inl ((w64 (a+1)),af)) else some (.inr c)
def DR(c:List Ao0)(d:Int)(e:Int):Option (List Ao0) :=((AY (fun(v:Int×List Ao0)=>Cn c d e v.1 v.2) (0,[])).bind fun f=>some f:Option (List Ao0)).bind fun a=>(Bb a).bind fun b=>if a.length=b.length then some b else none
def Dq(s1_8461:List AoT)(s2_8462:List AoT)(b:AoT->AoT->Option (Bool))(a:Int):Option ((Int)⊕((Unit)⊕((Unit)⊕(Bool)))) :=if (decide (a<(s1_8461.length:Int)))then if InR a s1_8461.length then lt1 ((nth s1_8461 a.toNat).Op) fun(c:Int)=>lt1 ((nth s1_8461 a.toNat).N) fun(d:Int)=>lt1 ((nth s1_8461 a.toNat).Unit) fun(e:Arr Int 4)=>lt1 ((nth s1_8461 a.toNat).L) fun(f:List AoT)=>if InR a s2_8462.length then lt1 ((nth s2_8462 a.toNat).Op) fun(g:Int)=>lt1 ((nth s2_8462 a.toNat).N) fun(i:Int)=>lt1 ((nth s2_8462 a.toNat).Unit) fun(j:Arr Int 4)=>lt1 ((nth s2_8462 a.toNat).L) fun(k:List AoT)=>(b (AoT.mk c d e f) (AoT.mk g i j k)).bind fun l=>if(!l)then ((some false).bind fun m=>some (.inr m)).bind fun n=>some (.inr (.inr n)) else some (.inl (w64 (a+1))) else none else none else some (.inr (.inl ()))
def Do(s1_8461:List AoT)(s2_8462:List AoT)(a:AoT->AoT->Option (Bool)):Option (Bool) :=if((s1_8461.length:Int) != (s2_8462.length:Int))then some false else ((AY (fun(v:Int)=>Dq s1_8461 s2_8462 a v) 0).bind fun x=>match x with
  |.inl ()=>some (.inl ())
  |.inr z=>some z:Option ((Unit)⊕(Bool))).bind fun x=>match x with
  |.inl ()=>some true
  |.inr z=>some z
def DU(rec_:AoT->AoT->Option (Bool))(a:AoT)(b:AoT):Option (Bool) :=(if(a.Op==b.Op)then if(a.N==b.N)then if(a.Unit==b.Unit)then (Do a.L b.L rec_).bind fun c=>some c else some false else some false else some false:Option (Bool)).bind fun d=>some d
def DV(n:Nat):AoT->AoT->Option (Bool):=match n with
 |0=>fun _ _=>none
 |n+1=>DU (DV n)
def JM(a:AoT)(b:AoT):Option (Bool):=DV 18446744073709551616 a b
def EV(a:AoU)(b:AoU):Option (Bool) :=(if(a.Zd==b.Zd)then (E7 a.Ze b.Ze).bind fun c=>if c then (JM a.Pay b.Pay).bind fun d=>some d else some false else some false:Option (Bool)).bind fun e=>some e
def Dt(s1_8598:List AoU)(s2_8599:List AoU)(b:AoU->AoU->Option (Bool))(a:Int):Option ((Int)⊕((Unit)⊕((Unit)⊕(Bool)))) :=if (decide (a<(s1_8598.length:Int)))then if InR a s1_8598.length then lt1 ((nth s1_8598 a.toNat).Zd) fun(c:List UInt8)=>lt1 ((nth s1_8598 a.toNat).Ze) fun(d:List AoR)=>lt1 (((nth s1_8598 a.toNat).Pay).Op) fun(e:Int)=>lt1 (((nth s1_8598 a.toNat).Pay).N) fun(f:Int)=>lt1 (((nth s1_8598 a.toNat).Pay).Unit) fun(g:Arr Int 4)=>lt1 (((nth s1_8598 a.toNat).Pay).L) fun(i:List AoT)=>if InR a s2_8599.length then lt1 ((nth s2_8599 a.toNat).Zd) fun(j:List UInt8)=>lt1 ((nth s2_8599 a.toNat).Ze) fun(k:List AoR)=>lt1 (((nth s2_8599 a.toNat).Pay).Op) fun(l:Int)=>lt1 (((nth s2_8599 a.toNat).Pay).N) fun(m:Int)=>lt1 (((nth s2_8599 a.toNat).Pay).Unit) fun(n:Arr Int 4)=>lt1 (((nth s2_8599 a.toNat).Pay).L) fun(o:List AoT)=>(b ({ Zd:=c,Ze:=d,Pay:=(AoT.mk e f g i) }:AoU) ({ Zd:=j,Ze:=k,Pay:=(AoT.mk l m n o) }:AoU)).bind fun p=>if(!p)then ((some false).bind fun q=>some (.inr q)).bind fun s=>some (.inr (.inr s)) else some (.inl (w64 (a+1))) else none else none else some (.inr (.inl ()))
def Dj(s1_8598:List AoU)(s2_8599:List AoU)(a:AoU->AoU->Option (Bool)):Option (Bool) :=if((s1_8598.length:Int) != (s2_8599.length:Int))then some false else ((AY (fun(v:Int)=>Dt s1_8598 s2_8599 a v) 0).bind fun x=>match x with
  |.inl ()=>some (.inl ())
  |.inr z=>some z:Option ((Unit)⊕(Bool))).bind fun x=>match x with
  |.inl ()=>some true
  |.inr z=>some z
def Cb(a:AoV)(b:AoV):Option (Bool) :=(if(a.Zd==b.Zd)then if(a.For==b.For)then (Dj a.Zf b.Zf EV).bind fun c=>some c else some false else some false:Option (Bool)).bind fun d=>some d
def FG(b:AoV)(c:AoU)(a:Int):Option ((Int)⊕((Unit)⊕((Unit)⊕(Bool)))) :=if (decide (a<(b.Zf.length:Int)))then if InR a b.Zf.length then lt1 ((nth b.Zf a.toNat).Zd) fun(d:List UInt8)=>lt1 ((nth b.Zf a.toNat).Ze) fun(e:List AoR)=>lt1 (((nth b.Zf a.toNat).Pay).Op) fun(f:Int)=>lt1 (((nth b.Zf a.toNat).Pay).N) fun(g:Int)=>lt1 (((nth b.Zf a.toNat).Pay).Unit) fun(i:Arr Int 4)=>lt1 (((nth b.Zf a.toNat).Pay).L) fun(j:List AoT)=>(Cb ({ Zd:=([]:List UInt8),For:=0,Zf:=([c]:List AoU) }:AoV) ({ Zd:=([]:List UInt8),For:=0,Zf:=([({ Zd:=d,Ze:=e,Pay:=(AoT.mk f g i j) }:AoU)]:List AoU) }:AoV)).bind fun k=>if k then ((some true).bind fun l=>some (.inr l)).bind fun m=>some (.inr (.inr m)) else some (.inl (w64 (a+1))) else none else some (.inr (.inl ()))
def Gb(a:AoV)(b:AoU):Option (Bool) :=((AY (fun(v:Int)=>FG a b v) 0).bind fun x=>match x with
 |.inl ()=>some (.inl ())
 |.inr z=>some z:Option ((Unit)⊕(Bool))).bind fun x=>match x with
 |.inl ()=>some false
 |.inr z=>some z
def Fj(b:List Ao0)(c:Int)(a:Int):Option ((Int×Int)⊕(Int)) :=if(decide (a<(b.length:Int)))then if InR a b.length then lt1 (((nth b a.toNat).Ref).Zg) fun(f:Int)=>lt1 (((nth b a.toNat).Ref).No) fun(g:Int)=>lt1 (((nth b a.toNat).By).Zg) fun(i:Int)=>lt1 (((nth b a.toNat).By).No) fun(j:Int)=>lt1 ((nth b a.toNat).Zt) fun(k:Int)=>lt1 (((nth b a.toNat).Zu).Za) fun(l:Int)=>lt1 ((((nth b a.toNat).Zu).Ref).Zg) fun(m:Int)=>lt1 ((((nth b a.toNat).Zu).Ref).No) fun(n:Int)=>lt1 (((nth b a.toNat).Zu).Zj) fun(o:Int)=>lt1 (((nth b a.toNat).Zu).Zk) fun(p:Int)=>lt1 (((nth b a.toNat).Zu).Zl) fun(q:Int)=>lt1 (((nth b a.toNat).Zu).Zm) fun(s:Int)=>lt1 (((nth b a.toNat).Zu).Zn) fun(t:Int)=>lt1 (((nth b a.toNat).Zu).To) fun(u:Int)=>lt1 (((nth b a.toNat).Zu).Code) fun(v:Int)=>lt1 (((nth b a.toNat).Zu).Zo) fun(w:Int)=>lt1 (((nth b a.toNat).Zu).Zp) fun(x:Int)=>lt1 (((nth b a.toNat).Zu).Zq) fun(y:Int)=>lt1 (((nth b a.toNat).Zu).Zr) fun(z:Int)=>lt1 (((nth b a.toNat).Zu).Zb) fun(d:List UInt8)=>lt1 (((nth b a.toNat).Zu).Zs) fun(aa:List AoY)=>lt1 (w64 (c+(d.length:Int))) fun(e:Int)=>some (.inl (e,(w64 (a+1)))) else none else some (.inr c)
def F7(a:List Ao0):Option (Bool) :=((AY (fun(v:Int×Int)=>Fj a v.1 v.2) (0,0)).bind fun b=>some b:Option (Int)).bind fun c=>(if(decide ((a.length:Int)<=8))then some (decide (c<=2000)) else some false:Option (Bool)).bind fun d=>some d
def strconv_Itoa(n:Int):Option (List UInt8):=Adh n
def Aq(a:Ao2)(b:List (List UInt8)):Option (Ao2) :=if FT (a.l.length+b.length) 16 then lt1 (a.l++b) fun(c:List (List UInt8))=>some ({ l:=c }:Ao2) else none
def Bi(a:Ao2)(b:Int):Option (Ao2) :=(strconv_Itoa b).bind fun c=>(Aq a ([c]:List (List UInt8))).bind fun d=>lt1 d.l fun(e:List (List UInt8))=>some ({ l:=e }:Ao2)
def Di(d:Ao2)(e:Arr Int 4):Option (Ao2) :=(Be ([109,111,110,101,121,32,109,105,110,117,116,101,32,107,109,32,107,103]:List UInt8)).bind fun a=>((Cs e.l 1).bind fun b=>if(decide (b≥0))then if InR b a.length then (Aq d ([nth a b.toNat]:List (List UInt8))).bind fun g=>lt1 g.l fun(i:List (List UInt8))=>some i else none else some d.l:Option (List (List UInt8))).bind fun f=>(Cs e.l (-1)).bind fun c=>if(decide (c≥0))then if InR c a.length then (Aq ({ l:=f }:Ao2) ([([112,101,114]:List UInt8),nth a c.toNat]:List (List UInt8))).bind fun j=>lt1 j.l fun(k:List (List UInt8))=>some ({ l:=k }:Ao2) else none else some ({ l:=f }:Ao2)
def Bz(e:Ao2->AoT->Option (Ao2))(b:List (List UInt8))(c:AoT)(a:Int)(d:List (List UInt8)):Option ((Int×List (List UInt8))⊕(List (List UInt8))) :=if (decide (a<(b.length:Int)))then if InR a b.length then lt1 (nth b a.toNat) fun(f:List UInt8)=>if InR a c.L.length then (e ({ l:=d }:Ao2) (nth c.L a.toNat)).bind fun g=>lt1 g.l fun(i:List (List UInt8))=>(Aq ({ l:=i }:Ao2) ([f]:List (List UInt8))).bind fun j=>lt1 j.l fun(k:List (List UInt8))=>some (.inl ((w64 (a+1)),k)) else none else none else some (.inr d)
def BV(a:Ao2->AoT->Option (Ao2))(b:List UInt8)(c:List (List UInt8))(d:Ao2)(e:AoT):Option (Ao2) :=(Aq d ([b,([40]:List UInt8)]:List (List UInt8))).bind fun f=>lt1 f.l fun(g:List (List UInt8))=>(AY (fun(v:Int×List (List UInt8))=>Bz a c e v.1 v.2) (0,g)).bind fun i=>some ({ l:=i }:Ao2)
def BI(b:Ao2->AoT->Option (Ao2))(c:Ao2)(a:AoT)(d:Int):Option (Ao2) :=(E8 a.Op).bind fun e=>if(decide (e≥d))then (b c a).bind fun f=>lt1 f.l fun(g:List (List UInt8))=>some ({ l:=g }:Ao2) else (Aq c ([([40]:List UInt8)]:List (List UInt8))).bind fun i=>lt1 i.l fun(j:List (List UInt8))=>(b ({ l:=j }:Ao2) a).bind fun k=>lt1 k.l fun(m:List (List UInt8))=>(Aq ({ l:=m }:Ao2) ([([41]:List UInt8)]:List (List UInt8))).bind fun n=>lt1 n.l fun(o:List (List UInt8))=>some ({ l:=o }:Ao2)
def CF(rec_:Ao2->AoT->Option (Ao2))(b:Ao2)(a:AoT):Option (Ao2) :=if(a.Op==1)then (Bi b a.N).bind fun e=>lt1 e.l fun(f:List (List UInt8))=>(Di ({ l:=f }:Ao2) a.Unit).bind fun g=>lt1 g.l fun(i:List (List UInt8))=>some ({ l:=i }:Ao2) else if(a.Op==2)then (Be ([116,121,112,101,32,111,119,110,101,114,32,114,97,105,108,119,97,121,32,115,104,105,112,112,101,114,32,99,108,97,115,115,32,119,101,105,103,104,116,32,107,109,32,109,105,110,117,116,101,115,32,119,111,114,107,105,110,103,32,99,111,100,101,32,119,111,114,116,104,32,99,111,115,116,32,109,111,110,116,104,32,98,101,103,105,110,32,112,97,114,116,115,32,112,97,114,116]:List UInt8)).bind fun c=>if InR a.N c.length then (Aq b ([nth c a.N.toNat]:List (List UInt8))).bind fun j=>lt1 j.l fun(k:List (List UInt8))=>some ({ l:=k }:Ao2) else none else if(a.Op==11)then (BV rec_ ([105,102]:List UInt8) ([([60]:List UInt8),([44]:List UInt8),([44]:List UInt8),([41]:List UInt8)]:List (List UInt8)) b a).bind fun m=>lt1 m.l fun(n:List (List UInt8))=>some ({ l:=n }:Ao2) else (if(a.Op==3)then some (a.Op==3) else if(a.Op==4)then some (a.Op==4) else some (a.Op==5):Option (Bool)).bind fun o=>if o then if InR 0 a.L.length then (E8 a.Op).bind fun p=>(BI rec_ b (nth a.L 0) p).bind fun q=>lt1 q.l fun(s:List (List UInt8))=>if InR (w64 (a.Op-3)) (([([43]:List UInt8),([45]:List UInt8),([42]:List UInt8)]:List (List UInt8)).length)then (Aq ({ l:=s }:Ao2) ([nth ([([43]:List UInt8),([45]:List UInt8),([42]:List UInt8)]:List (List UInt8)) ((w64 (a.Op-3)).toNat)]:List (List UInt8))).bind fun t=>lt1 t.l fun(u:List (List UInt8))=>if InR 1 a.L.length then (E8 a.Op).bind fun v=>(BI rec_ ({ l:=u }:Ao2) (nth a.L 1) (w64 (v+1))).bind fun w=>lt1 w.l fun(x:List (List UInt8))=>some ({ l:=x }:Ao2) else none else none else none else (Be ([109,105,110,32,109,97,120,32,100,111,119,110,32,117,112,32,104,97,108,102]:List UInt8)).bind fun d=>if InR (w64 (a.Op-6)) d.length then (BV rec_ (nth d ((w64 (a.Op-6)).toNat)) ([([44]:List UInt8),([41]:List UInt8)]:List (List UInt8)) b a).bind fun y=>lt1 y.l fun(z:List (List UInt8))=>some ({ l:=z }:Ao2) else none
def DB(n:Nat):Ao2->AoT->Option (Ao2):=match n with
 |0=>fun _ _=>none
 |n+1=>CF (DB n)
def FM(a:Ao2)(b:AoT):Option (Ao2):=DB 18446744073709551616 a b
def B0(b:AoU)(a:Int)(d:List (List UInt8)):Option ((Int×List (List UInt8))⊕(List (List UInt8))) :=if (decide (a<(b.Ze.length:Int)))then (if InR a b.Ze.length then lt1 ((nth b.Ze a.toNat).Attr) fun(e:Int)=>lt1 ((nth b.Ze a.toNat).Low) fun(c:Int)=>lt1 ((nth b.Ze a.toNat).Zc) fun(f:Int)=>if InR (Qc a 1) (([([119,104,101,110]:List UInt8),([97,110,100]:List UInt8)]:List (List UInt8)).length)then (Be ([116,121,112,101,32,111,119,110,101,114,32,114,97,105,108,119,97,121,32,115,104,105,112,112,101,114,32,99,108,97,115,115,32,119,101,105,103,104,116,32,107,109,32,109,105,110,117,116,101,115,32,119,111,114,107,105,110,103,32,99,111,100,101,32,119,111,114,116,104,32,99,111,115,116,32,109,111,110,116,104,32,98,101,103,105,110,32,112,97,114,116,115,32,112,97,114,116]:List UInt8)).bind fun g=>if InR e g.length then (Aq ({ l:=d }:Ao2) ([nth ([([119,104,101,110]:List UInt8),([97,110,100]:List UInt8)]:List (List UInt8)) ((Qc a 1).toNat),nth g e.toNat]:List (List UInt8))).bind fun j=>lt1 j.l fun(i:List (List UInt8))=>if(c==f)then (Aq ({ l:=i }:Ao2) ([([105,115]:List UInt8)]:List (List UInt8))).bind fun k=>lt1 k.l fun(m:List (List UInt8))=>(Bi ({ l:=m }:Ao2) c).bind fun n=>lt1 n.l fun(o:List (List UInt8))=>some o else (Aq ({ l:=i }:Ao2) ([([105,110]:List UInt8)]:List (List UInt8))).bind fun p=>lt1 p.l fun(q:List (List UInt8))=>(Bi ({ l:=q }:Ao2) c).bind fun s=>lt1 s.l fun(t:List (List UInt8))=>(Aq ({ l:=t }:Ao2) ([([46,46]:List UInt8)]:List (List UInt8))).bind fun u=>lt1 u.l fun(v:List (List UInt8))=>(Bi ({ l:=v }:Ao2) f).bind fun w=>lt1 w.l fun(x:List (List UInt8))=>some x else none else none else none:Option (List (List UInt8))).bind fun y=>some (.inl ((w64 (a+1)),y)) else some (.inr d)
def CA(b:Ao2)(a:AoU):Option (Ao2) :=(Aq b ([([99,108,97,117,115,101]:List UInt8),a.Zd]:List (List UInt8))).bind fun c=>lt1 c.l fun(d:List (List UInt8))=>((AY (fun(v:Int×List (List UInt8))=>B0 a v.1 v.2) (0,d)).bind fun e=>some e:Option (List (List UInt8))).bind fun f=>(Aq ({ l:=f }:Ao2) ([([112,97,121]:List UInt8)]:List (List UInt8))).bind fun g=>lt1 g.l fun(i:List (List UInt8))=>(FM ({ l:=i }:Ao2) a.Pay).bind fun j=>lt1 j.l fun(k:List (List UInt8))=>(Aq ({ l:=k }:Ao2) ([([59]:List UInt8)]:List (List UInt8))).bind fun m=>lt1 m.l fun(n:List (List UInt8))=>some ({ l:=n }:Ao2)
def JR(xs:List (List UInt8))(sep:List UInt8):Option (List UInt8):=Ac3 xs sep
def DS(b:AoV)(a:Int)(c:List (List UInt8)):Option ((Int×List (List UInt8))⊕(List (List UInt8))) :=if(decide (a<(b.Zf.length:Int)))then if InR a b.Zf.length then lt1 ((nth b.Zf a.toNat).Zd) fun(d:List UInt8)=>lt1 ((nth b.Zf a.toNat).Ze) fun(e:List AoR)=>lt1 (((nth b.Zf a.toNat).Pay).Op) fun(f:Int)=>lt1 (((nth b.Zf a.toNat).Pay).N) fun(g:Int)=>lt1 (((nth b.Zf a.toNat).Pay).Unit) fun(i:Arr Int 4)=>lt1 (((nth b.Zf a.toNat).Pay).L) fun(j:List AoT)=>(CA ({ l:=c }:Ao2) ({ Zd:=d,Ze:=e,Pay:=(AoT.mk f g i j) }:AoU)).bind fun k=>lt1 k.l fun(m:List (List UInt8))=>some (.inl ((w64 (a+1)),m)) else none else some (.inr c)
def DY(a:AoV):Option (List UInt8×Int) :=(Da a).bind fun b=>if(b != 0)then some (([]:List UInt8),b) else (Be ([104,105,114,101,32,100,101,109,117,114,114,97,103,101,32,102,114,101,105,103,104,116,32,114,101,112,97,105,114,32,108,111,115,115,32,99,108,101,97,110,105,110,103]:List UInt8)).bind fun c=>if InR (w64 (a.For-1)) c.length then (Aq ({ l:=[] }:Ao2) ([([116,97,114,105,102,102]:List UInt8),a.Zd,([102,111,114]:List UInt8),nth c ((w64 (a.For-1)).toNat),([123]:List UInt8)]:List (List UInt8))).bind fun e=>lt1 e.l fun(f:List (List UInt8))=>((AY (fun(v:Int×List (List UInt8))=>DS a v.1 v.2) (0,f)).bind fun g=>some g:Option (List (List UInt8))).bind fun i=>(Aq ({ l:=i }:Ao2) ([([125]:List UInt8)]:List (List UInt8))).bind fun j=>lt1 j.l fun(k:List (List UInt8))=>(JR k ([32]:List UInt8)).bind fun d=>if(decide ((d.length:Int)>2000))then some (([]:List UInt8),2) else some (d,0) else none
def AR(a:Ao3)(b:Int):Option (Ao3) :=if InR b a.code.length then lt1 (a.code.set b.toNat ({ Op:=(nth a.code b.toNat).Op,N:=(a.code.length:Int),M:=(nth a.code b.toNat).M }:Ao1)) fun(c:List Ao1)=>some ({ code:=c }:Ao3) else none
def Ar(a:Ao3)(b:Int)(c:Int)(d:Int):Option (Int×Ao3) :=lt1 (a.code.length:Int) fun(e:Int)=>if FT (a.code.length+1) 24 then lt1 (a.code++([({ Op:=b,N:=c,M:=d }:Ao1)]:List Ao1)) fun(f:List Ao1)=>some (e,({ code:=f }:Ao3)) else none
def B5(rec_:Ao3->AoT->Option (Ao3))(b:Ao3)(a:AoT):Option (Ao3) :=if(a.Op==1)then (Ar b 1 a.N 0).bind fun e=>lt1 e.2.code fun(f:List Ao1)=>some ({ code:=f }:Ao3) else if(a.Op==2)then (Ar b 2 a.N 0).bind fun g=>lt1 g.2.code fun(i:List Ao1)=>some ({ code:=i }:Ao3) else if (a.Op==11)then if InR 0 a.L.length then (rec_ b (nth a.L 0)).bind fun j=>lt1 j.code fun(k:List Ao1)=>if InR 1 a.L.length then (rec_ ({ code:=k }:Ao3) (nth a.L 1)).bind fun l=>lt1 l.code fun(m:List Ao1)=>(Ar ({ code:=m }:Ao3) 11 0 0).bind fun n=>lt1 n.2.code fun(o:List Ao1)=>(Ar ({ code:=o }:Ao3) 13 0 0).bind fun c=>lt1 c.2.code fun(p:List Ao1)=>if InR 2 a.L.length then (rec_ ({ code:=p }:Ao3) (nth a.L 2)).bind fun q=>lt1 q.code fun(s:List Ao1)=>(Ar ({ code:=s }:Ao3) 14 0 0).bind fun d=>lt1 d.2.code fun(t:List Ao1)=>(AR ({ code:=t }:Ao3) c.1).bind fun u=>lt1 u.code fun(v:List Ao1)=>if InR 3 a.L.length then (rec_ ({ code:=v }:Ao3) (nth a.L 3)).bind fun w=>lt1 w.code fun(x:List Ao1)=>(AR ({ code:=x }:Ao3) d.1).bind fun y=>lt1 y.code fun(z:List Ao1)=>some ({ code:=z }:Ao3) else none else none else none else none else if InR 0 a.L.length then (rec_ b (nth a.L 0)).bind fun aa=>lt1 aa.code fun(ab:List Ao1)=>if InR 1 a.L.length then (rec_ ({ code:=ab }:Ao3) (nth a.L 1)).bind fun ac=>lt1 ac.code fun(ad:List Ao1)=>(Ar ({ code:=ad }:Ao3) (w64 ((w64 (3+a.Op))-3)) 0 0).bind fun ae=>lt1 ae.2.code fun(af:List Ao1)=>some ({ code:=af }:Ao3) else none else none
def BZ(n:Nat):Ao3->AoT->Option (Ao3):=match n with
 |0=>fun _ _=>none
 |n+1=>B5 (BZ n)
def F5(a:Ao3)(b:AoT):Option (Ao3):=BZ 18446744073709551616 a b
def EN(e:List Ao1)(f:Int)(d:Int)(b:List Int)(a:Int)(c:List Int):Option ((Int×List Int)⊕((List Int)⊕((Int×List Int)⊕((Int×Int×List Int)⊕((Int)⊕((Int)⊕(Int×Int))))))) :=if (decide (a<(b.length:Int)))then if InR a b.length then (if(decide (nth b a.toNat<=f))then some true else if(decide (nth b a.toNat≥(e.length:Int)))then some true else if InR (nth b a.toNat) c.length then if(decide (nth c ((nth b a.toNat).toNat)≥0))then if InR (nth b a.toNat) c.length then some (nth c ((nth b a.toNat).toNat) != d) else none else some false else none:Option (Bool)).bind fun g=>if g then ((((some (0,200)).bind fun i=>some (.inr i)).bind fun j=>some (.inr (.inr j))).bind fun k=>some (.inr k)).bind fun l=>some (.inr (.inr l)) else if InR (nth b a.toNat) c.length then lt1 (c.set ((nth b a.toNat).toNat) d) fun(m:List Int)=>some (.inl ((w64 (a+1)),m)) else none else none else some (.inr (.inl c))
def FV(d:List Ao1)(e:Int)(a:Int)(b:List Int):Option ((Int×Int×List Int)⊕((Int)⊕((Int)⊕(Int×Int)))) :=if (decide (a<(d.length:Int)))then (if InR a d.length then lt1 ((nth d a.toNat).Op) fun(c:Int)=>lt1 ((nth d a.toNat).N) fun(j:Int)=>lt1 ((nth d a.toNat).M) fun(ab:Int)=>if InR a b.length then if(decide (nth b a.toNat<0))then some (.inl (e,b)) else (Hd c).bind fun f=>lt1 (w64 ((w64 (nth b a.toNat-f.1))+f.2)) fun(i:Int)=>lt1 (Qk (Qk e (nth b a.toNat)) i) fun(k:Int)=>(if(decide (nth b a.toNat<f.1))then some true else if (c==15)then if(nth b a.toNat != 1)then some true else if(c==16)then some (nth b a.toNat != 0) else some false else if(c==16)then some (nth b a.toNat != 0) else some false:Option (Bool)).bind fun l=>if l then (((some (0,200)).bind fun m=>some (.inr m)).bind fun n=>some (.inr (.inr n))).bind fun o=>some (.inr o) else ((if(c==13)then some true else some (c==14):Option (Bool)).bind fun p=>if p then lt1 ([j]:List Int) fun(q:List Int)=>some q else some ([]):Option (List Int)).bind fun g=>((if(c != 14)then if(c != 15)then some (c != 16) else some false else some false:Option (Bool)).bind fun s=>if s then if FT (g.length+1) 8 then lt1 (g++([(w64 (a+1))]:List Int)) fun(t:List Int)=>some t else none else some g:Option (List Int)).bind fun u=>(AY (fun(v:Int×List Int)=>EN d a i u v.1 v.2) (0,b)).bind fun x=>match x with
      |.inl w=>some (.inl (k,w))
      |.inr z=>some z else none else none:Option ((Int×List Int)⊕((Int×Int×List Int)⊕((Int)⊕((Int)⊕(Int×Int)))))).bind fun x=>match x with
  |.inl (y,aa)=>some (.inl (y,(w64 (a+1)),aa))
  |.inr z=>some z else some (.inr (.inl e))
def GZ(a:List Ao1):Option (Int×Int) :=if(decide ((a.length:Int)>4096))then some (0,2) else (if((a.length:Int)==0)then some true else (Cx a Fx).bind fun d=>some d:Option (Bool)).bind fun e=>if e then some (0,200) else (Ep ([(-1)]:List Int) (a.length:Int)).bind fun b=>if InR 0 b.length then lt1 (b.set 0 0) fun(f:List Int)=>((AY (fun(v:Int×Int×List Int)=>FV a v.1 v.2.1 v.2.2) (0,0,f)).bind fun x=>match x with
    |.inl g=>some (.inl g)
    |.inr z=>some z:Option ((Int)⊕(Int×Int))).bind fun x=>match x with
    | .inl c=>if(decide (c>64))then some (0,2) else some (c,0)
    |.inr z=>some z else none
def BJ:List AoR->Ao3->List Int->Option (Ao3×List Int)
 |[],c,ats=>some (c,ats)
 |t::l,c,ats=>(Ar c 2 t.Attr 0).bind fun y1=>(Ar y1.2 12 t.Low t.Zc).bind fun y2=>(Ar y2.2 13 0 0).bind fun y3=>BJ l y3.2 (y3.1::ats)
def Ch:List Int->Ao3->Option Ao3
 |[],c=>some c
 |a::l,c=>(AR c a).bind (Ch l)
def CB(c:Ao3)(x:AoU)(index:Int):Option Ao3 :=if x.Ze.length<4611686018427387904 then (BJ x.Ze c []).bind fun s=>(F5 s.1 x.Pay).bind fun c1=>(Ar c1 15 index 0).bind fun y=>Ch s.2 y.2 else none
def FH(b:AoV)(a:Int)(c:List Ao1):Option ((Int×List Ao1)⊕(List Ao1)) :=if(decide (a<(b.Zf.length:Int)))then if InR a b.Zf.length then lt1 ((nth b.Zf a.toNat).Zd) fun(d:List UInt8)=>lt1 ((nth b.Zf a.toNat).Ze) fun(e:List AoR)=>lt1 (((nth b.Zf a.toNat).Pay).Op) fun(f:Int)=>lt1 (((nth b.Zf a.toNat).Pay).N) fun(g:Int)=>lt1 (((nth b.Zf a.toNat).Pay).Unit) fun(i:Arr Int 4)=>lt1 (((nth b.Zf a.toNat).Pay).L) fun(j:List AoT)=>(CB ({ code:=c }:Ao3) ({ Zd:=d,Ze:=e,Pay:=(AoT.mk f g i j) }:AoU) a).bind fun k=>lt1 k.code fun(l:List Ao1)=>some (.inl ((w64 (a+1)),l)) else none else some (.inr c)
def EW(a:AoV):Option (List Ao1×Int) :=(Da a).bind fun b=>if(b != 0)then some ([],b) else ((AY (fun(v:Int×List Ao1)=>FH a v.1 v.2) (0,[])).bind fun d=>some d:Option (List Ao1)).bind fun e=>(Ar ({ code:=e }:Ao3) 16 0 0).bind fun f=>lt1 f.2.code fun(c:List Ao1)=>(GZ c).bind fun g=>if(g.2 != 0)then some ([],2) else some (c,0)
def FD(a:AoV):Option (Int) :=(DY a).bind fun b=>some b.2
def F8(a:AoV):Option (Int) :=(H8 a).bind fun b=>some b.2
def FC(a:AoV):Option (Int) :=(E1 a).bind fun b=>some b
def FB(a:AoV):Option (Int) :=(EW a).bind fun b=>some b.2
def BO(a:AoV):Option (Int) :=((FD a).bind fun b=>if(b != 0)then (some b).bind fun f=>some (.inr f) else (F8 a).bind fun c=>if(c != 0)then (some c).bind fun g=>some (.inr g) else (FC a).bind fun d=>if(d != 0)then (some d).bind fun i=>some (.inr i) else (FB a).bind fun e=>if(e != 0)then (some e).bind fun j=>some (.inr j) else some (.inl ()):Option ((Unit)⊕(Int))).bind fun x=>match x with
 |.inl ()=>some 0
 |.inr z=>some z
def B7(a:AoV):Option (Int) :=(BO a).bind fun b=>some b
def Fh(b:AoV)(a:Int)(c:R5):Option ((Int×R5)⊕(R5)) :=if(decide (a<(b.Zf.length:Int)))then if InR a b.Zf.length then lt1 ((nth b.Zf a.toNat).Zd) fun(d:List UInt8)=>lt1 ((nth b.Zf a.toNat).Ze) fun(e:List AoR)=>lt1 (((nth b.Zf a.toNat).Pay).Op) fun(f:Int)=>lt1 (((nth b.Zf a.toNat).Pay).N) fun(g:Int)=>lt1 (((nth b.Zf a.toNat).Pay).Unit) fun(i:Arr Int 4)=>lt1 (((nth b.Zf a.toNat).Pay).L) fun(j:List AoT)=>lt1 (up2 c d (some ({ Zd:=d,Ze:=e,Pay:=(AoT.mk f g i j) }:AoU))) fun(k:R5)=>some (.inl ((w64 (a+1)),k)) else none else some (.inr c)
def EU(e:List AoU)(a:Int)(c:R5)(b:List AoU):Option ((Int×R5×List AoU)⊕(R5×List AoU)) :=if (decide (a<(e.length:Int)))then (if InR a b.length then lt1 ((nth b a.toNat).Zd) fun(d:List UInt8)=>lt1 ((nth b a.toNat).Ze) fun(q:List AoR)=>lt1 (((nth b a.toNat).Pay).Op) fun(s:Int)=>lt1 (((nth b a.toNat).Pay).N) fun(t:Int)=>lt1 (((nth b a.toNat).Pay).Unit) fun(u:Arr Int 4)=>lt1 (((nth b a.toNat).Pay).L) fun(v:List AoT)=>lt1 (((c d).getD R4).Zd) fun(f:List UInt8)=>lt1 (((c d).getD R4).Ze) fun(g:List AoR)=>lt1 ((((c d).getD R4).Pay).Op) fun(i:Int)=>lt1 ((((c d).getD R4).Pay).N) fun(j:Int)=>lt1 ((((c d).getD R4).Pay).Unit) fun(k:Arr Int 4)=>lt1 ((((c d).getD R4).Pay).L) fun(l:List AoT)=>if(c d).isSome=true then if InR a b.length then lt1 (b.set a.toNat ({ Zd:=f,Ze:=g,Pay:=(AoT.mk i j k l) }:AoU)) fun(m:List AoU)=>lt1 (up2 c d none) fun(n:R5)=>some (n,m) else none else some (c,b) else none:Option (R5×List AoU)).bind fun(o,p)=>some (.inl ((w64 (a+1)),o,p)) else some (.inr (c,b))
def EY(b:AoV)(d:R5)(a:Int)(e:List AoU):Option ((Int×List AoU)⊕(List AoU)) :=if (decide (a<(b.Zf.length:Int)))then (if InR a b.Zf.length then lt1 ((nth b.Zf a.toNat).Zd) fun(c:List UInt8)=>lt1 ((nth b.Zf a.toNat).Ze) fun(f:List AoR)=>lt1 (((nth b.Zf a.toNat).Pay).Op) fun(g:Int)=>lt1 (((nth b.Zf a.toNat).Pay).N) fun(i:Int)=>lt1 (((nth b.Zf a.toNat).Pay).Unit) fun(j:Arr Int 4)=>lt1 (((nth b.Zf a.toNat).Pay).L) fun(k:List AoT)=>lt1 (((d c).getD R4).Zd) fun(n:List UInt8)=>lt1 (((d c).getD R4).Ze) fun(o:List AoR)=>lt1 ((((d c).getD R4).Pay).Op) fun(p:Int)=>lt1 ((((d c).getD R4).Pay).N) fun(q:Int)=>lt1 ((((d c).getD R4).Pay).Unit) fun(s:Arr Int 4)=>lt1 ((((d c).getD R4).Pay).L) fun(t:List AoT)=>if(d c).isSome=true then if FT (e.length+1) 112 then lt1 (e++([({ Zd:=c,Ze:=f,Pay:=(AoT.mk g i j k) }:AoU)]:List AoU)) fun(l:List AoU)=>some l else none else some e else none:Option (List AoU)).bind fun m=>some (.inl ((w64 (a+1)),m)) else some (.inr e)
def DF(a:AoV)(b:AoV):Option (AoV) :=((AY (fun(v:Int×R5)=>Fh b v.1 v.2) (0,no2)).bind fun d=>some d:Option (R5)).bind fun e=>(E9 a.Zf).bind fun c=>((AY (fun(v:Int×R5×List AoU)=>EU c v.1 v.2.1 v.2.2) (0,e,c)).bind fun(f,g)=>some (f,g):Option (R5×List AoU)).bind fun(i,j)=>((AY (fun(v:Int×List AoU)=>EY b i v.1 v.2) (0,j)).bind fun k=>some k:Option (List AoU)).bind fun l=>some ({ Zd:=a.Zd,For:=a.For,Zf:=l }:AoV)
def D3(e:List UInt8)(b:Int):Option (AoV×Int) :=(if(decide (b<1))then some true else some (decide (b>6)):Option (Bool)).bind fun f=>if f then some (({ Zd:=([]:List UInt8),For:=0,Zf:=[] }:AoV),1) else (EM e).bind fun a=>((if(a.2.2==0)then some (a.1.For != b) else some false:Option (Bool)).bind fun g=>if g then some 220 else some a.2.2:Option (Int)).bind fun c=>(if(c==0)then (B7 a.1).bind fun i=>some i else some c:Option (Int)).bind fun d=>if(d != 0)then some (({ Zd:=([]:List UInt8),For:=0,Zf:=[] }:AoV),d) else some (a.1,0)
def El(k:Int)(l:Int)(b:List Ao0)(c:Bool)(a:Int)(d:List UInt8)(e:Int)(f:List AoU):Option ((Bool×Int×List UInt8×Int×List AoU)⊕(Bool×List UInt8×Int×List AoU)) :=if (decide (a<(b.length:Int)))then (if InR a b.length then lt1 (((nth b a.toNat).Ref).Zg) fun(v:Int)=>lt1 (((nth b a.toNat).Ref).No) fun(w:Int)=>lt1 (((nth b a.toNat).By).Zg) fun(y:Int)=>lt1 (((nth b a.toNat).By).No) fun(aa:Int)=>lt1 ((nth b a.toNat).Zt) fun(ab:Int)=>lt1 (((nth b a.toNat).Zu).Za) fun(j:Int)=>lt1 ((((nth b a.toNat).Zu).Ref).Zg) fun(ac:Int)=>lt1 ((((nth b a.toNat).Zu).Ref).No) fun(ad:Int)=>lt1 (((nth b a.toNat).Zu).Zj) fun(ae:Int)=>lt1 (((nth b a.toNat).Zu).Zk) fun(af:Int)=>lt1 (((nth b a.toNat).Zu).Zl) fun(ag:Int)=>lt1 (((nth b a.toNat).Zu).Zm) fun(ah:Int)=>lt1 (((nth b a.toNat).Zu).Zn) fun(m:Int)=>lt1 (((nth b a.toNat).Zu).To) fun(ai:Int)=>lt1 (((nth b a.toNat).Zu).Code) fun(aj:Int)=>lt1 (((nth b a.toNat).Zu).Zo) fun(ak:Int)=>lt1 (((nth b a.toNat).Zu).Zp) fun(al:Int)=>lt1 (((nth b a.toNat).Zu).Zq) fun(am:Int)=>lt1 (((nth b a.toNat).Zu).Zr) fun(an:Int)=>lt1 (((nth b a.toNat).Zu).Zb) fun(n:List UInt8)=>lt1 (((nth b a.toNat).Zu).Zs) fun(ao:List AoY)=>if(decide (m>l))then (some (.inr (c,d,e,f))).bind fun o=>some (.inr o) else if(j==13)then some (.inl (false,([]:List UInt8),0,[])) else (D3 n k).bind fun g=>if(g.2 != 0)then some (.inl (c,d,e,f)) else if(j==11)then some (.inl (true,g.1.Zd,g.1.For,g.1.Zf)) else if c then (DF ({ Zd:=d,For:=e,Zf:=f }:AoV) g.1).bind fun i=>(B7 i).bind fun p=>if(p==0)then some (.inl (c,i.Zd,i.For,i.Zf)) else some (.inl (c,d,e,f)) else some (.inl (c,d,e,f)) else none:Option ((Bool×List UInt8×Int×List AoU)⊕((Bool×Int×List UInt8×Int×List AoU)⊕(Bool×List UInt8×Int×List AoU)))).bind fun x=>match x with
  |.inl (q,s,t,u)=>some (.inl (q,(w64 (a+1)),s,t,u))
  |.inr z=>some z else some (.inr (c,d,e,f))
def BP(d:List Ao0)(c:Int)(a:Int)(b:Int):Option (AoV×Int) :=((Fy c a).bind fun e=>if(!e)then some true else if(decide (b<0))then some true else some (decide (b>1073741824)):Option (Bool)).bind fun f=>if f then some (({ Zd:=([]:List UInt8),For:=0,Zf:=[] }:AoV),1) else ((DR d c a).bind fun g=>(AY (fun(v:Bool×Int×List UInt8×Int×List AoU)=>El a b g v.1 v.2.1 v.2.2.1 v.2.2.2.1 v.2.2.2.2) (false,0,([]:List UInt8),0,[])).bind fun(i,j,k,l)=>some (i,j,k,l):Option (Bool×List UInt8×Int×List AoU)).bind fun(m,n,o,p)=>if(!m)then some (({ Zd:=([]:List UInt8),For:=0,Zf:=[] }:AoV),220) else some (({ Zd:=n,For:=o,Zf:=p }:AoV),0)
def top_editionsSane  : Option (Bool) :=lt1 ([({ Ref:=({ Zg:=0,No:=1 }:AoX),By:=({ Zg:=0,No:=1 }:AoX),Zt:=0,Zu:=({ Za:=11,Ref:=({ Zg:=0,No:=0 }:AoX),Zj:=0,Zk:=0,Zl:=0,Zm:=1,Zn:=5,To:=0,Code:=0,Zo:=0,Zp:=0,Zq:=0,Zr:=0,Zb:=([116,97,114,105,102,102,32,116,32,102,111,114,32,104,105,114,101,32,123,32,99,108,97,117,115,101,32,97,32,112,97,121,32,50,32,109,111,110,101,121,59,32,125]:List UInt8),Zs:=[] }:AoZ) }:Ao0)]:List Ao0) fun(a:List Ao0)=>(BP a 0 1 5).bind fun b=>(BP a 0 1 4).bind fun c=>(if(b.2==0)then if(b.1.Zd==([116]:List UInt8))then some (c.2==220) else some false else some false:Option (Bool)).bind fun d=>some d
def CR(b:List Ao0)(d:Ao0)(e:Int)(f:Int)(c:Bool)(a:Int):Option ((Bool×Int)⊕(Bool)) :=if (decide (a<(b.length:Int)))then if InR a b.length then lt1 (((nth b a.toNat).Ref).Zg) fun(g:Int)=>lt1 (((nth b a.toNat).Ref).No) fun(l:Int)=>lt1 (((nth b a.toNat).By).Zg) fun(m:Int)=>lt1 (((nth b a.toNat).By).No) fun(n:Int)=>lt1 ((nth b a.toNat).Zt) fun(o:Int)=>lt1 (((nth b a.toNat).Zu).Za) fun(p:Int)=>lt1 ((((nth b a.toNat).Zu).Ref).Zg) fun(q:Int)=>lt1 ((((nth b a.toNat).Zu).Ref).No) fun(s:Int)=>lt1 (((nth b a.toNat).Zu).Zj) fun(t:Int)=>lt1 (((nth b a.toNat).Zu).Zk) fun(u:Int)=>lt1 (((nth b a.toNat).Zu).Zl) fun(v:Int)=>lt1 (((nth b a.toNat).Zu).Zm) fun(i:Int)=>lt1 (((nth b a.toNat).Zu).Zn) fun(j:Int)=>lt1 (((nth b a.toNat).Zu).To) fun(w:Int)=>lt1 (((nth b a.toNat).Zu).Code) fun(x:Int)=>lt1 (((nth b a.toNat).Zu).Zo) fun(y:Int)=>lt1 (((nth b a.toNat).Zu).Zp) fun(z:Int)=>lt1 (((nth b a.toNat).Zu).Zq) fun(aa:Int)=>lt1 (((nth b a.toNat).Zu).Zr) fun(ab:Int)=>lt1 (((nth b a.toNat).Zu).Zb) fun(ac:List UInt8)=>lt1 (((nth b a.toNat).Zu).Zs) fun(ad:List AoY)=>(if c then if(decide (j<d.Zu.Zn))then some true else if(g != e)then some true else some (i != f) else some false:Option (Bool)).bind fun k=>some (.inl (k,(w64 (a+1)))) else none else some (.inr c)
def CP(a:AoV×Int)(f:List UInt8)(b:Int)(c:List UInt8)(d:Int)(e:List AoU):Option ((Int×List UInt8×Int×List AoU)⊕(List UInt8×Int×List AoU)) :=if (decide (b<(a.1.Zf.length:Int)))then (if InR b a.1.Zf.length then lt1 ((nth a.1.Zf b.toNat).Zd) fun(g:List UInt8)=>lt1 ((nth a.1.Zf b.toNat).Ze) fun(l:List AoR)=>lt1 (((nth a.1.Zf b.toNat).Pay).Op) fun(m:Int)=>lt1 (((nth a.1.Zf b.toNat).Pay).N) fun(n:Int)=>lt1 (((nth a.1.Zf b.toNat).Pay).Unit) fun(o:Arr Int 4)=>lt1 (((nth a.1.Zf b.toNat).Pay).L) fun(p:List AoT)=>if(g==f)then some (a.1.Zd,a.1.For,a.1.Zf) else some (c,d,e) else none:Option (List UInt8×Int×List AoU)).bind fun(i,j,k)=>some (.inl ((w64 (b+1)),i,j,k)) else some (.inr (c,d,e))
def Cm(c:AoV×Int)(b:AoV×Int)(e:AoV×Int)(a:Int):Option ((Int)⊕((Unit)⊕((Unit)⊕(Bool)))) :=if (decide (a<(b.1.Zf.length:Int)))then (if InR a b.1.Zf.length then lt1 ((nth b.1.Zf a.toNat).Zd) fun(d:List UInt8)=>lt1 ((nth b.1.Zf a.toNat).Ze) fun(f:List AoR)=>lt1 (((nth b.1.Zf a.toNat).Pay).Op) fun(g:Int)=>lt1 (((nth b.1.Zf a.toNat).Pay).N) fun(i:Int)=>lt1 (((nth b.1.Zf a.toNat).Pay).Unit) fun(j:Arr Int 4)=>lt1 (((nth b.1.Zf a.toNat).Pay).L) fun(k:List AoT)=>((AY (fun(v:Int×List UInt8×Int×List AoU)=>CP e d v.1 v.2.1 v.2.2.1 v.2.2.2) (0,c.1.Zd,c.1.For,c.1.Zf)).bind fun(l,m,n)=>some (l,m,n):Option (List UInt8×Int×List AoU)).bind fun(o,p,q)=>(Gb ({ Zd:=o,For:=p,Zf:=q }:AoV) ({ Zd:=d,Ze:=f,Pay:=(AoT.mk g i j k) }:AoU)).bind fun s=>if(!s)then (((some false).bind fun t=>some (.inr t)).bind fun u=>some (.inr (.inr u))).bind fun w=>some (.inr w) else some (.inl ()) else none:Option ((Unit)⊕((Int)⊕((Unit)⊕((Unit)⊕(Bool)))))).bind fun x=>match x with
  |.inl ()=>some (.inl (w64 (a+1)))
  |.inr z=>some z else some (.inr (.inl ()))
def Fg(e : List Ao0)(b:Ao0)(f:Int)(d:Int)(g:Int):Option (Bool) :=top_editionsSane.bind fun l=>if(!l)then some false else if FT (0 + e.length) 192 then if FT ((([]:List Ao0)++e).length+1) 192 then lt1 ((([]:List Ao0)++e)++([b]:List Ao0)) fun(i:List Ao0)=>(F7 i).bind fun m=>if(!m)then some true else (BP e f d g).bind fun c=>(BP i f d g).bind fun a=>(if(b.Ref.Zg != f)then some true else if(b.Zu.Zm != d)then some true else if(decide (b.Zu.Zn>g))then some true else if(b.Zu.Za != 11)then if(b.Zu.Za != 12)then some (b.Zu.Za != 13) else some false else some false:Option (Bool)).bind fun n=>if n then (if(c.2==a.2)then (Cb c.1 a.1).bind fun o=>some o else some false:Option (Bool)).bind fun p=>some p else ((AY (fun(v:Bool×Int)=>CR e b f d v.1 v.2) (true,0)).bind fun q=>some q:Option (Bool)).bind fun s=>if(!s)then some true else if (b.Zu.Za==13)then (if(a.2==220)then some true else if(a.2==1)then some (c.2==1) else some false:Option (Bool)).bind fun t=>some t else if (b.Zu.Za==11)then (D3 b.Zu.Zb d).bind fun j=>(if(j.2==0)then some (c.2 != 1) else some false:Option (Bool)).bind fun u=>if u then (if(a.2==0)then (Cb a.1 j.1).bind fun w=>some w else some false:Option (Bool)).bind fun y=>some y else (if(c.2==a.2)then (Cb c.1 a.1).bind fun aa=>some aa else some false:Option (Bool)).bind fun ab=>some ab else (D3 b.Zu.Zb d).bind fun k=>(if(c.2 != 0)then some true else if(k.2 != 0)then some true else some (a.2 != 0):Option (Bool)).bind fun ac=>if ac then (if(c.2==a.2)then (Cb c.1 a.1).bind fun ad=>some ad else some false:Option (Bool)).bind fun ae=>some ae else (Cb c.1 a.1).bind fun af=>if af then some true else ((AY (fun(v:Int)=>Cm c a k v) 0).bind fun x=>match x with
           |.inl ()=>some (.inl ())
           |.inr z=>some z:Option ((Unit)⊕(Bool))).bind fun x=>match x with
           |.inl ()=>lt1 (decide ((a.1.Zf.length:Int)≥(c.1.Zf.length:Int))) fun(ag:Bool)=>some ag
           |.inr z=>some z else none else none
open Go.Rv Go.ChangeShapes Go.WideShapes Go.ChangeAt Go.RowKit
theorem WT(H:Type)(l:List (DataW H)):(l.map (Rows.uptoBulk (H:=H))).sum=Rows.uptoBulkAll l:=by
 induction l with
 |nil=>rfl
 |cons x l ih=>simp only[ApL,AqJ,ih,Rows.uptoBulkAll]
theorem Jt:BulkOk (fun H=>Rows.uptoBulk (H:=H)) where
 one:=fun H d=>by
  cases d with
  |lit l=>cases l<;>simp[Rows.uptoBulk]
  |_=>simp[Rows.uptoBulk]
 str:=fun H l=>by simp[Rows.uptoBulk]
 slice:=fun H e s=>by rw[WT];simp only[Rows.uptoBulk];omega
 agg:=fun H p=>by rw[WT];simp only[Rows.uptoBulk];omega
theorem BT:Tryz.prog.cellsOf 3=1:=by kernel_rfl
theorem Yu:Tryz.prog.cellsOf 4=1:=by kernel_rfl
theorem YZ:Tryz.prog.cellsOf 9=1:=by kernel_rfl
theorem Jl:Tryz.prog.cellsOf 24=2:=by kernel_rfl
theorem Nt:Tryz.prog.cellsOf 294=3:=by kernel_rfl
theorem Vv:Tryz.prog.cellsOf 25=1:=by kernel_rfl
theorem Pc:Tryz.prog.cellsOf 27=16:=by kernel_rfl
theorem Pk:Tryz.prog.cellsOf 29=21:=by kernel_rfl
theorem KJ{P:Program}{B:∀H:Type,DataW H->Nat}{t:TypeId}{α:Type}{c:α->List AV}{sz sz':α->Nat}{ok ok':α->Prop}(h:Opens P B t c sz ok)(h1:∀x,sz' x<=sz x)(h2:∀x,ok x->ok' x):Opens P B t c sz' ok':=by
 intro H enc W pr hpr fuel cs d ps hd;obtain⟨x,e1,e2,e3,e4⟩:=h H enc W pr hpr fuel cs d ps hd;exact⟨x,e1,Aqw (h1 x) e2,h2 x e3,e4⟩
theorem FN:Opens Tryz.prog (fun H=>Rows.uptoBulk (H:=H)) 3 IA (fun _=>1) (fun _=>True):=KJ (Ab0 Jt Tryz.underlying3) (fun _=>Apm _) (fun _ _=>trivial)
theorem AiF:Opens Tryz.prog (fun H=>Rows.uptoBulk (H:=H)) 4 LF (fun _=>1) (fun _=>True):=Zv Jt Tryz.underlying4
theorem Aj8:Opens Tryz.prog (fun H=>Rows.uptoBulk (H:=H)) 9 Bc (fun _=>0) (fun _=>True):=KJ (AaA Jt Tryz.underlying9) (fun _=>Apz _) (fun _ _=>trivial)
theorem V2:Opens Tryz.prog (fun H=>Rows.uptoBulk (H:=H)) 24 WQ (fun _=>0) (fun _=>True) :=
 HX Jt Tryz.underlying24 (n:=2) Jl (A7 (k:=1) rfl BT (fun _=>rfl) FN (A7 (k:=1) rfl BT (fun _=>rfl) FN J0)) (fun x=>(⟨x.1,x.2.1⟩:AoX)) (fun _=>rfl) (fun _=>rfl) (fun x=>Apz _) (fun _ _=>trivial)
theorem AeH:Opens Tryz.prog (fun H=>Rows.uptoBulk (H:=H)) 294 Dm (fun _=>0) (fun _=>True) :=
 HX Jt Tryz.underlying294 (n:=3) Nt (A7 (k:=1) rfl BT (fun _=>rfl) FN (A7 (k:=1) rfl BT (fun _=>rfl) FN (A7 (k:=1) rfl Yu (fun _=>rfl) AiF J0))) (fun x=>(⟨x.1,x.2.1,x.2.2.1⟩:AoY)) (fun _=>rfl) (fun _=>rfl) (fun x=>Apz _) (fun _ _=>trivial)
theorem Af3:Opens Tryz.prog (fun H=>Rows.uptoBulk (H:=H)) 25 (cSl Dm) (fun _=>0) (fun _=>True):=KJ (PM Jt Tryz.underlying25 Nt (fun _=>rfl) AeH) (fun _=>Apz _) (fun _ _=>trivial)
theorem AgO:Opens Tryz.prog (fun H=>Rows.uptoBulk (H:=H)) 27 Uh (fun _=>0) (fun _=>True) :=
 HX Jt Tryz.underlying27 (n:=16) Pc (A7 (k:=1) rfl BT (fun _=>rfl) FN (A7 (k:=2) rfl Jl (fun _=>rfl) V2 (A7 (k:=1) rfl BT (fun _=>rfl) FN (A7 (k:=1) rfl BT (fun _=>rfl) FN (A7 (k:=1) rfl BT (fun _=>rfl) FN (A7 (k:=1) rfl BT (fun _=>rfl) FN (A7 (k:=1) rfl BT (fun _=>rfl) FN (A7 (k:=1) rfl BT (fun _=>rfl) FN (A7 (k:=1) rfl BT (fun _=>rfl) FN (A7 (k:=1) rfl BT (fun _=>rfl) FN (A7 (k:=1) rfl BT (fun _=>rfl) FN (A7 (k:=1) rfl BT (fun _=>rfl) FN (A7 (k:=1) rfl BT (fun _=>rfl) FN (A7 (k:=1) rfl YZ (fun _=>rfl) Aj8 (A7 (k:=1) rfl Vv (fun _=>rfl) Af3 J0)))))))))))))))
  (fun x=>(⟨x.1,x.2.1,x.2.2.1,x.2.2.2.1,x.2.2.2.2.1,x.2.2.2.2.2.1,x.2.2.2.2.2.2.1,x.2.2.2.2.2.2.2.1,x.2.2.2.2.2.2.2.2.1,x.2.2.2.2.2.2.2.2.2.1,x.2.2.2.2.2.2.2.2.2.2.1,x.2.2.2.2.2.2.2.2.2.2.2.1,x.2.2.2.2.2.2.2.2.2.2.2.2.1,x.2.2.2.2.2.2.2.2.2.2.2.2.2.1,x.2.2.2.2.2.2.2.2.2.2.2.2.2.2.1⟩:AoZ)) (fun _=>rfl) (fun _=>rfl) (fun x=>Apz _) (fun _ _=>trivial)
theorem Aby:Opens Tryz.prog (fun H=>Rows.uptoBulk (H:=H)) 29 Ae (fun _=>1) (fun _=>True) :=
 HX Jt Tryz.underlying29 (n:=21) Pk (A7 (k:=2) rfl Jl (fun _=>rfl) V2 (A7 (k:=2) rfl Jl (fun _=>rfl) V2 (A7 (k:=1) rfl BT (fun _=>rfl) FN (A7 (k:=16) rfl Pc (fun _=>rfl) AgO J0))))
  (fun x=>(⟨x.1,x.2.1,x.2.2.1,x.2.2.2.1⟩:Ao0)) (fun _=>rfl) (fun _=>rfl) (fun x=>by show 1<=0+(0+(1+_));omega) (fun _ _=>trivial)
theorem AgQ:Opens Tryz.prog (fun H=>Rows.uptoBulk (H:=H)) 22 (cSl Ae) (fun l=>l.length+1) (fun l=>l.length<=maxLen) :=
 KJ (PM Jt Tryz.underlying22 Pk (fun _=>rfl) Aby) (fun l=>by
  show l.length+1<=(l.map fun _=>1).sum+1
  have:∀m:List Ao0,m.length=(m.map fun _=>1).sum:=by
   intro m
   induction m with
   |nil=>rfl
   |cons a m ih=>simp only[Api,ApL,AqJ,<-ih];omega
  have:=this l;omega) (fun _ h=>h.1)
theorem own:ownKnob Tryz.prog.godebug=none:=by kernel_rfl
theorem Ago:laidOutB Tryz.prog=true:=by kernel_rfl
abbrev laidM:List (String×DataW Unit):=[("math/bits.deBruijn32tab", Rows.laid_math_bits_deBruijn32tab),("math/bits.deBruijn64tab", Rows.laid_math_bits_deBruijn64tab),("internal/strconv.uint64pow10", Rows.laid_internal_strconv_uint64pow10),("unicode/utf8.acceptRanges", Rows.laid_unicode_utf8_acceptRanges),("unicode.White_Space", Rows.laid_unicode_White_Space),("strings.asciiSpace", Rows.laid_strings_asciiSpace),("wagonpool/tlex.signs", Rows.laid_wagonpool_tlex_signs),("wagonpool/tlex.reserved", Rows.laid_wagonpool_tlex_reserved),("unicode/utf8.first", Rows.laid_unicode_utf8_first)]
theorem AjC:(Rows.laid_wagonpool_tlex_signs:DataW Unit)=.map (tab3.map fun p=>(Lit.int .u8 (p.1.toNat:Int),.lit (.string p.2))):=by kernel_rfl
theorem AiA:(Rows.laid_wagonpool_tlex_reserved:DataW Unit)=.map (tab1.map fun p=>(Lit.string p.1,.lit (.bool p.2))):=by kernel_rfl
theorem Ajd:(Rows.laid_strings_asciiSpace:DataW Unit)=Lib.tabData .u8 (glob0.l.map fun c=>(c.toNat:Int)):=by kernel_rfl
theorem Alb:(Rows.laid_internal_strconv_uint64pow10:DataW Unit)=Lib.tabData .u64 Lib.pow10Tab:=by kernel_rfl
noncomputable def AeV(os:Os):World:=(World.doorLaid Tryz.prog 400 os).layVars Tryz.prog (laidM.filter fun x=>["unicode/utf8.first"].contains x.1)
theorem Ad1(os:Os)(args:Array Value):laidMetH Tryz.prog laidM ((AeV os).forCall (fun _ _=>0) ⟨#[],args,[]⟩).memory:=by
 rw[MakeChecks.laidMetH_plain _ _ _ (by kernel_rfl)]
 have h:laidMet Tryz.prog laidM (AeV os):=laidMet_layVars (w0:=World.doorLaid Tryz.prog 400 os) (w':=AeV os) ["unicode/utf8.first"] ((List.range 20).filter (· != 5)) rfl (by kernel_rfl) (by kernel_rfl)
  (LaidIn.of_run _ 8 (by kernel_rfl) (by kernel_rfl) (by kernel_rfl) (by kernel_rfl))
 exact h.of_heap (by simp[World.memory,World.forCall,Input.heap])
theorem ans1:∀p∈tab1,TE (fun k=>.str k) (fun x=>.bool x) tab1 (.str p.1)=some (.bool p.2):=by
 have h:(tab1.all fun p=>match TE (fun k=>.str k) (fun x=>.bool x) tab1 (.str p.1)with|some (.bool b)=>b==p.2|_=>false)=true:=by decide +kernel
 intro p hp;have:=App.1 h p hp;split at this
 ·rename_i b hb;rw[hb];rw[Aqg]at this;rw[this]
 cases this
theorem ans0:∀p∈tab3,TE (fun k=>u8 k) (fun x=>.str x) tab3 (u8 p.1)=some (.str p.2):=by
 have h:(tab3.all fun p=>match TE (fun k=>u8 k) (fun x=>.str x) tab3 (u8 p.1)with|some (.str b)=>b==p.2|_=>false)=true:=by decide +kernel
 intro p hp;have:=App.1 h p hp;split at this
 ·rename_i b hb;rw[hb];rw[Aqg]at this;rw[this]
 cases this
theorem LL{P:Program}{w:World}:∀{l:List (String×DataW Unit)} {ps:List MemPlace},DataW.LaidVars P w l ps->∀x∈l,∃g t cs fuel p,P.globalNamed x.1=some g/\(P.globals[g]?).map (·.type)=some t/\w.var? P x.1=some cs /\DataW.trod (fun _=>()) P w 0 (fun _=>true) false fuel t cs.toList=some (x.2,p)
 |[],_,_,x,hx=>by cases hx
 |(n,d)::r,ps,⟨g,t,cs,fuel,p,q,hg,ht,hv,hd,hr,_⟩,x,hx=>by
  rcases Apx.1 hx with rfl|hx
  ·exact⟨g,t,cs,fuel,p,hg,ht,hv,hd⟩
  exact LL hr x hx
theorem AfU{W:World}(hw:∃t o,W.heap[7]?=some (.cells ((Lib.pow10Tab.map fun z=>Value.int .u64 z).toArray) t o)){c0 c1 c2:Array Value}{f0 f1 f2:Nat}{p0 p1 p2:List MemPlace}(hv0:W.var? Tryz.prog "wagonpool/tlex.signs" = some c0) (hv1:W.var? Tryz.prog "wagonpool/tlex.reserved" = some c1) (hv2:W.var? Tryz.prog "strings.asciiSpace" = some c2) (hd0:DataW.trod (fun _=>()) Tryz.prog W 0 (fun _=>true) false f0 214 c0.toList=some (Rows.laid_wagonpool_tlex_signs,p0)) (hd1:DataW.trod (fun _=>()) Tryz.prog W 0 (fun _=>true) false f1 120 c1.toList=some (Rows.laid_wagonpool_tlex_reserved,p1)) (hd2:DataW.trod (fun _=>()) Tryz.prog W 0 (fun _=>true) false f2 123 c2.toList=some (Rows.laid_strings_asciiSpace,p2)) :∃r:Nat->Nat,Mem ((B ⟨r,none⟩).env noF) W [] []:=by
 rw[AjC]at hd0;rw[AiA]at hd1;rw[Ajd]at hd2
 obtain⟨r0,e0,m0⟩:=TH (cK:=fun k=>u8 k) (cV:=fun x=>.str x) (lK:=fun k:UInt8=>Lit.int .u8 (k.toNat:Int)) (lV:=fun x:List UInt8=>Lit.string x) (zv:=.str []) Tryz.underlying214 Tryz.underlying5 (fun w=>by kernel_rfl) rfl hd0 (fun _=>rfl) (fun _=>rfl)
  (fun v a h=>Ajv Tryz.underlying5 h) (fun n v b pl h=>Af5 Tryz.underlying9 h) ans0
 obtain⟨r1,e1,m1⟩:=TH (cK:=fun k=>.str k) (cV:=fun x=>.bool x) (lK:=fun k:List UInt8=>Lit.string k) (lV:=fun x:Bool=>Lit.bool x) (zv:=.bool false) Tryz.underlying120 Tryz.underlying9 (fun w=>by kernel_rfl) rfl hd1 (fun _=>rfl) (fun _=>rfl)
  (fun v a h=>Ahc Tryz.underlying9 h) (fun n v b pl h=>Aej Tryz.underlying4 h) ans1
 have g0:W.cell? ⟨3,0,none⟩=some (.map (some r0)):=by
  have:=World.var?_cell (show Tryz.prog.globalNamed "wagonpool/tlex.signs" = some 3 by kernel_rfl) hv0 0;rw[this,Array.eq_one_of_toList e0];rfl
 have g1:W.cell? ⟨1,0,none⟩=some (.map (some r1)):=by
  have:=World.var?_cell (show Tryz.prog.globalNamed "wagonpool/tlex.reserved" = some 1 by kernel_rfl) hv1 0;rw[this,Array.eq_one_of_toList e1];rfl
 have hc:=Lib.cells_of_tab (n:=256) Tryz.underlying123 Tryz.underlying5 (by kernel_rfl) (by kernel_rfl) hd2
 have g2:∀j,j<256->W.cell? ⟨0,j,none⟩=some (.int .u8 ((glob0.get j).toNat:Int)):=by
  intro j hj;have:=World.var?_cell (show Tryz.prog.globalNamed "strings.asciiSpace" = some 0 by kernel_rfl) hv2 j;rw[this,<-Aqh,hc,Ar7,ApE];have hl:j<glob0.l.length:=by rw[glob0.h];exact hj
  rw[Ao9 hl];simp[Arr.get,nth,hl]
 refine⟨fun i=>if i=3 then r0 else r1,rfl,fun id b ab h=>by simp at h,fun id id' b b' β h=>by simp at h,fun a h=>h.elim,fun i cs hG=>?_,fun t m h=>?_,fun i p h=>?_⟩
 ·have hG':(if i=1 then some [AV.val (.map (some r1))]else if i=3 then some [AV.val (.map (some r0))]else if i=0 then some (C1 u8 glob0.l)else none)=some cs:=hG;by_cases hi:i=3
  ·subst hi;rw[Apd (by decide),Apb rfl]at hG';cases hG';refine⟨cell?_lt g0,(by rintro⟨id,b,hb,_⟩;simp at hb),fun _ hf=>hf,fun j=>.map (some r0),fun j x hj=>?_⟩;cases j with
   |zero=>cases hj;exact⟨g0,.val _ _ rfl,rfl⟩
   |succ j=>simp at hj
  by_cases hi1:i=1
  ·subst hi1;rw[Apb rfl]at hG';cases hG';refine⟨cell?_lt g1,(by rintro⟨id,b,hb,_⟩;simp at hb),fun _ hf=>hf,fun j=>.map (some r1),fun j x hj=>?_⟩;cases j with
   |zero=>cases hj;exact⟨g1,.val _ _ rfl,rfl⟩
   |succ j=>simp at hj
  rw[Apd hi1,Apd hi]at hG';by_cases hi2:i=0
  ·rw[Apb hi2]at hG';cases hG';subst hi2;refine⟨cell?_lt (g2 0 (by decide)),(by rintro⟨id,b,hb,_⟩;simp at hb),fun _ hf=>hf,fun j=>.int .u8 ((glob0.get j).toNat:Int),fun j x hj=>?_⟩
   have hj':j<256:=by
    have:=(Ao6.1 hj).1;rwa[DK]at this
   rw[Xg hj']at hj;cases hj;exact⟨g2 j hj',.int _ _ _,rfl⟩
  rw[Apd hi2]at hG';cases hG'
 ·have h':(if t=120 then some (⟨r1,9,4,.string,.bool false,TE (fun k=>.str k) (fun x=>.bool x) tab1⟩:MapS)else if t=214 then some ⟨r0,5,9,.int .u8,.str ([]:List UInt8),TE (fun k=>u8 k) (fun x=>.str x) tab3⟩else if t=138 then none else none)=some m:=h;by_cases ht:t=120
  ·rw[Apb ht]at h';cases h';subst ht;exact m1
  rw[Apd ht]at h';by_cases ht2:t=214
  ·rw[Apb ht2]at h';cases h';subst ht2;exact m0
  rw[Apd ht2]at h';split at h'<;>cases h'
 have h':(if i=7 then some ((Lib.pow10Tab.map fun z=>Value.int .u64 z).toArray)else none)=some p:=h;by_cases hi:i=7
 ·rw[Apb hi]at h';cases h';subst hi;exact⟨(by rintro⟨id,b,hb,_⟩;simp at hb),hw⟩
 rw[Apd hi]at h';cases h'
theorem Ael{W:World}(h:laidMetH Tryz.prog laidM W):∃r:Nat->Nat,Mem ((B ⟨r,none⟩).env noF) W [] []:=by
 rw[MakeChecks.laidMetH_plain _ _ _ (by kernel_rfl)]at h;obtain⟨ps,hl,_⟩:=h
 have hw:∃t o,W.heap[7]?=some (.cells ((Lib.pow10Tab.map fun z=>Value.int .u64 z).toArray) t o):=by
  obtain⟨g0,t0,cs0,f0,p0,hg0,ht0,hv0,hd0⟩:=LL hl ("internal/strconv.uint64pow10", Rows.laid_internal_strconv_uint64pow10) (by simp[laidM]);obtain rfl:=Ao8 ((show Tryz.prog.globalNamed "internal/strconv.uint64pow10" = some 7 by kernel_rfl).symm.trans hg0);obtain rfl:=Ao8 ((show(Tryz.prog.globals[7]?).map (·.type)=some 275 by kernel_rfl).symm.trans ht0);simp only[Alb]at hd0;have hc:=Lib.cells_of_tab (n:=20) Tryz.underlying275 Tryz.underlying249 (by kernel_rfl) (by kernel_rfl) hd0;unfold World.var? at hv0;rw[show Tryz.prog.globalNamed "internal/strconv.uint64pow10" = some 7 by kernel_rfl,Ap4]at hv0;split at hv0
  ·rename_i c t o hcell;cases hv0;rw[<-hc];exact⟨t,o,hcell⟩
  cases hv0
 obtain⟨g0,t0,cs0,f0,p0,hg0,ht0,hv0,hd0⟩:=LL hl ("wagonpool/tlex.signs", Rows.laid_wagonpool_tlex_signs) (by simp[laidM]);obtain⟨g1,t1,cs1,f1,p1,hg1,ht1,hv1,hd1⟩:=LL hl ("wagonpool/tlex.reserved", Rows.laid_wagonpool_tlex_reserved) (by simp[laidM]);obtain⟨g2,t2,cs2,f2,p2,hg2,ht2,hv2,hd2⟩:=LL hl ("strings.asciiSpace", Rows.laid_strings_asciiSpace) (by simp[laidM]);obtain rfl:=Ao8 ((show Tryz.prog.globalNamed "wagonpool/tlex.signs" = some 3 by kernel_rfl).symm.trans hg0);obtain rfl:=Ao8 ((show Tryz.prog.globalNamed "wagonpool/tlex.reserved" = some 1 by kernel_rfl).symm.trans hg1);obtain rfl:=Ao8 ((show Tryz.prog.globalNamed "strings.asciiSpace" = some 0 by kernel_rfl).symm.trans hg2);obtain rfl:=Ao8 ((show(Tryz.prog.globals[3]?).map (·.type)=some 214 by kernel_rfl).symm.trans ht0);obtain rfl:=Ao8 ((show(Tryz.prog.globals[1]?).map (·.type)=some 120 by kernel_rfl).symm.trans ht1);obtain rfl:=Ao8 ((show(Tryz.prog.globals[0]?).map (·.type)=some 123 by kernel_rfl).symm.trans ht2);exact AfU hw hv0 hv1 hv2 hd0 hd1 hd2
theorem Zx{rs:AoO}{f:FuncId}{avs:List AV}(h:Con (B rs) f avs [] (fun r O'=>r=.bool true/\O'=[])){fn:Func}{c:Code}(hf:Tryz.prog.funcs[f]?=some fn)(hb:fn.body=some c)(hn:(fn.name == "runtime.NumGoroutine")=false) {W:World} (hm:Mem ((B rs).env noF) W [] []) {args:Array Value} (ha:C4 W (A3 ((B rs).env noF) []) [] args.toList avs):Calls Tryz.prog f args W fun e W'=>e=.returned (.bool true)/\Below W.heap.size W W':=by
 refine((h.call (fun _=>False) W [] args hm ha).calls hf hb hn).mono ?_;rintro e w' ⟨v,r,O',g',rfl,⟨rfl,rfl⟩,hm,he,hr⟩;exact⟨by rw[EZ hr],he.below⟩
open Go.Rv Go.ChangeShapes Go.WideShapes Go.ChangeAt Go.RowKit
theorem AdM{P:Program}{H:Type}{enc:TypeId×Value->H}{W:World}{t e:TypeId}{α:Type}{c:α->List AV}{v:Value}{d:DataW H}{p:List MemPlace}{pr:Addr->Prop}{l:List α}(ht:P.underlying t=some (.slice e))(hv:v.cells.toList=[v]) (hd:DataW.Trod enc P W 0 (fun _=>true) true t v d p) (hr:Rep W pr [] v (.sl false (L c l))) (hw:(d.weights P t).all (·<=reachBytes)=true):l.length*P.bytesOf e<=reachBytes:=by
 obtain⟨fuel,hd⟩:=hd;rw[hv]at hd;cases hr with
 | sl _ a len cap full els k cc hlen hcap hfull hnone hk hc hr=>
  have hll:l.length=len:=by rw[<-hlen];simp[L]
  cases a with
  |none=>
   have:l.length=0:=by have:=hnone rfl;omega
   rw[this,Arb];exact Apz _
  | some a=>
   cases fuel with
   |zero=>cases hd
   |succ fuel=>
    unfold DataW.trod at hd;rw[ht]at hd;simp only at hd;split at hd
    case isFalse=>cases hd
    rw[Apa]at hd;obtain⟨elems,hel,hd⟩:=hd;rw[Ao5]at hd;obtain⟨rest,hrest,hd⟩:=hd;simp only[Apf]at hd;obtain⟨rfl,_⟩:=hd;obtain⟨hlen2,_⟩:=PQ hel;rw[Ard]at hlen2;unfold DataW.weights at hw;rw[ht]at hw;simp only[List.all_cons,Apj,Apw,Ap8]at hw;refine Aqw (Apn _ ?_) hw.1;omega
theorem Af7:Tryz.prog.bytesOf 29=192:=by kernel_rfl
variable {rs:AoO}
set_option maxHeartbeats 4000000
theorem HI{b r}(h:GG b=some r):Con (B rs) 128 [u8 b] [] (fun r' O'=>r'=.bool r/\O'=[]):=by
 refine Cw 9 [.tmp 2] Tryz.func128 (fun F hE=>?_) h;unfold GG;refine T0 [0] ?_;refine Tw [2] (fun c=>⟨Ai 9 [(2,.bool c)],[]⟩) ?_ ?_
 ·intro _;refine Sp (fun a=>?_) fun a=>?_
  ·exact Lf Ab (Ew1 a) (ws [])
  exact Lf Ab (Ew1 a) (ws [])
 intro c;exact Sr <|Rr
theorem Iw{b r}(h:GE b=some r):Con (B rs) 131 [u8 b] [] (fun r' O'=>r'=.bool r/\O'=[]):=by
 refine Cw 9 [.tmp 2] Tryz.func131 (fun F hE=>?_) h;unfold GE;refine T0 [0] ?_;refine Tw [2] (fun c=>⟨Ai 9 [(2,.bool c)],[]⟩) ?_ ?_
 ·intro _;refine Sp (fun a=>?_) fun a=>?_
  ·exact Lf Ab (Ew1 a) (ws [])
  exact Lf Ab (Ew1 a) (ws [])
 intro c;exact Sr <|Rr
theorem LZ{a:List UInt8}{c:UInt8->Option (Bool)}{b:Nat}(g:∀{a0:UInt8} {r:Bool},c a0=some r->Con (B rs) b [u8 a0] [] (fun r' O'=>r'=.bool r/\O'=[])){r:Int}(h:IQ a c=some r):Con (B rs) 129 [.str a,.fn b []] [] (fun r' O'=>r'=i64 r/\O'=[]):=by
 refine FA (N:=21) (rs:=[.tmp 4]) ok Tryz.func129 rfl (by decide +kernel) rfl rfl (Apq rfl) (fun F=>?_);have hE:=(ok (rs:=rs)).env F;unfold IQ at h;show Run ((B rs).env F) 0 _ ⟨Ai 21 [(0,.str a),(1,.fn b [])],[]⟩ _;refine BM ?_;revert h;refine T0 [0,1] ?_;refine Jo (fun _=>⟨Ai 21 [(0,.str a)],[]⟩) ?_ ?_
 ·intro m i;refine T0 [0,1,7,8] ?_;refine Sb ?_;refine Lo (fun d=>⟨Ai 21 [(0,.str a),(1,.fn b []),(7,i64 (a.length:Int)),(8,i64 d)],[]⟩) (ws []) ?_;rintro d n j e f;show Dc a c d=some j->_;unfold Dc;refine T0 [0,1,7,8,9] ?_;refine Sq <|Cd ?_ ?_
  ·refine Sk <|Tn <|Sq <|Sb <|T0 [0,1,5,7,8] ?_
   refine Ck fun k =>Bd fun o l =>Te [0,1,5,7,8,16] (o1 15 (g l)) (Ew1 (qR k)) ?_
   refine Cd ?_ ?_
   ·refine T0 [4] ?_;exact Sr <|Br <|Tr <|Lr f e <|Br <|Jr i <|Rr
   refine Sk <|Bn <|Tn <|F0 [0,1,7,8] ?_
   exact Ln (ws [])
  refine Sx <|Tx <|Lx f e <|Bx <|?_
  exact Jn ((ws (l':=[(0,.str a)]) (O':=[]) []).trans (ws []))
 intro _;refine T0 [4] ?_;exact Sr <|Rr
theorem NN{b r}(h:Ha b=some r):Con (B rs) 130 [u8 b] [] (fun r' O'=>r'=.bool r/\O'=[]):=by
 refine Cw 9 [.tmp 2] Tryz.func130 (fun F hE=>?_) h;unfold Ha;refine T0 [0] ?_;refine Tw [2] (fun c=>⟨Ai 9 [(2,.bool c)],[]⟩) ?_ ?_
 ·intro _;refine Bd fun f d=>?_
  refine Sp (fun a=>?_) fun a=>?_
  ·exact Lf (o1 4 (HI d)) (Ew1 a) (ws [])
  refine Bd fun g e=>?_
  exact Lf (o2 4 (HI d) 7 (Iw e)) (Ew1 a) (ws [])
 intro c;exact Sr <|Rr
theorem Pv{a r}(h:HH a=some r):Con (B rs) 132 [.str a] [] (fun r' O'=>r'=.tup [i64 r.1,i64 r.2]/\O'=[]):=by
 refine Cw 31 [.tmp 2,.tmp 3] Tryz.func132 (fun F hE=>?_) h;unfold HH;refine T0 [0] ?_;refine Sq ?_;refine Tw [0,13] (fun c=>⟨Ai 31 [(0,.str a),(13,.bool c)],[]⟩) ?_ ?_
 ·intro _;refine Sp (fun b=>?_) fun b=>?_
  ·refine Ck fun i=>?_
   exact Lf Ab (Ew2 b (qL i)) (ws [])
  exact Lf Ab (Ew1 b) (ws [])
 intro c;refine Cd ?_ ?_
 ·refine T0 [2,3] ?_;exact Sr <|Tr <|Rr
 refine Sk <|Tn <|T0 [0,4] ?_
 refine Jo (fun d=>⟨Ai 31 [(4,i64 d)],[]⟩) ?_ ?_
 ·intro p j;refine T0 [0,4,15,16] ?_;refine Sb ?_;refine Lo (fun(v:Int×Int)=>(⟨Ai 31 [(0,.str a),(4,i64 v.1),(15,i64 (a.length:Int)),(16,i64 v.2)],[]⟩:St)) (ws []) ?_;rintro⟨e,k⟩ q l f g;show BX a e k=some l->_;unfold BX;refine T0 [0,4,15,16,17] ?_;refine Sq <|Cd ?_ ?_
  ·refine Sk <|Tn <|Sq <|Sb <|T0 [0,4,5,15,16] ?_
   refine Ck fun m =>Lt fun n o =>Te (fr':=[(0,_),(4,i64 n),(15,_),(16,_)]) [0,4,15,16] Ab (Ew2 (qR m) o) ?_
   refine T0 [0,4,15,16,28] ?_;refine Cd ?_ ?_
   ·refine T0 [2,3] ?_;exact Sr <|Br <|Tr <|Lr g f <|Br <|Jr j <|Rr
   refine Sk <|Bn <|Tn <|F0 [0,4,15,16] ?_
   exact Ln (ws [])
  refine Sx <|Tx <|Lx g f <|Bx <|?_
  exact Jn ((ws (l':=[(4,i64 e)]) (O':=[]) []).trans (ws []))
 intro d;refine T0 [2,3] ?_;exact Sr <|Rr
theorem I2{b c r}(h:D7 b c=some r):Con (B rs) 167 [.str b,.str c] [] (fun r' O'=>r'=.bool r/\O'=[]):=by
 refine Cw 18 [.tmp 4] Tryz.func167 (fun F hE=>?_) h;unfold D7;refine T0 [0,1] ?_;refine Tw [4] (fun d=>⟨Ai 18 [(4,.bool d)],[]⟩) ?_ ?_
 ·intro _;refine Sp (fun a=>?_) fun a=>?_
  ·refine Ck fun e=>?_
   exact Lf Ab (Ew2 a e) (ws [])
  exact Lf Ab (Ew1 a) (ws [])
 intro d;exact Sr <|Rr
theorem Kd{a b r}(h:Df a b=some r):Con (B rs) 133 [.str a,.str b] [] (fun r' O'=>r'=.bool r/\O'=[]):=by
 refine Cw 8 [.tmp 4] Tryz.func133 (fun F hE=>?_) h;unfold Df;refine T0 [0,1] ?_;refine Bd fun d c =>Te [4] (o1 7 (I2 c)) Ev ?_
 exact Sr <|Rr
theorem H9{l:List UInt8}{c:UInt8}{r:Int}(h:Ej l c=some r):Con (B rs) 166 [.str l,u8 c] [] (fun r' O'=>r'=i64 r/\O'=[]) :=
 OU Tryz.func166 (by decide +kernel) rfl (by kernel_rfl) (by kernel_rfl) h
theorem I1{a b r}(h:DD a b=some r):Con (B rs) 127 [.str a,u8 b] [] (fun r' O'=>r'=i64 r/\O'=[]):=by
 refine Cw 8 [.tmp 4] Tryz.func127 (fun F hE=>?_) h;unfold DD;refine T0 [0,1] ?_;refine Bd fun d c =>Te [4] (o1 7 (H9 c)) Ev ?_
 exact Sr <|Rr
theorem JX{a b r}(h:Dg a b=some r):Con (B rs) 83 [.str a,u8 b] [] (fun r' O'=>r'=i64 r/\O'=[]):=by
 refine Cw 8 [.tmp 4] Tryz.func83 (fun F hE=>?_) h;unfold Dg;refine T0 [0,1] ?_;refine Bd fun d c =>Te [4] (o1 7 (I1 c)) Ev ?_
 exact Sr <|Rr
theorem Qy{a r}(h:H0 a=some r):Con (B rs) 84 [.str a] [] (fun r' O'=>r'=.tup [.agg (Am r.1),i64 r.2]/\O'=[]):=by
 refine Cw 55 [.cell 2 159,.tmp 3] Tryz.func84 (fun F hE=>?_) h;unfold H0;refine T0 [0,2] ?_;refine Sq <|Ck fun d =>Te [0,2,4] Ab (Ew1 (qL d)) ?_
 refine Sb <|Bd fun q e =>Te [0,2,4,12] (o1 14 (HI e)) Ev ?_
 refine Cd ?_ ?_
 ·refine Bd fun s f =>Ck fun g =>Te [2,5] (o1 17 (LZ (fun h=>NN h) f)) (Ew1 g) ?_
  refine Sq <|T0 [2,5,21] ?_
  refine Cd ?_ ?_
  ·refine T0 [2,3] ?_;exact Sr <|Tr <|Br <|Tr <|Rr
  refine Sk <|Tn <|T0 [2,3] ?_
  exact Sr <|Br <|Tr <|Rr
 refine Bd fun t i =>Te [0,2,25] (o1 27 (Iw i)) Ev ?_
 refine Cd ?_ ?_
 ·refine Bd fun u j =>Ck fun k =>Te [2,6] (o1 30 (LZ (fun h=>Iw h) j)) (Ew1 k) ?_
  refine Bd fun v l =>Te [2,6,7,8] (o1 34 (Pv l)) Ev ?_
  refine T0 [2,3] ?_;exact Sr <|Br <|Tr <|Rr
 refine Sk <|Bn <|Tn <|Sq <|Ck fun m =>De [[],[],[1],[0,1,2],[0,1,2,3]] [0,2,9] Ab (Ew1 (qL m)) ?_
 refine Tw [2,9,51] (fun c=>⟨Ai 55 [(2,.ref 0 0),(9,.str (Jb ([]:List UInt8) tab3 (nth a 0))),(51,.bool c)],[.box [i64 0,.str ([]:List UInt8),i64 0,i64 0] false]⟩) ?_ ?_
 ·intro _;refine Sp (fun b=>?_) fun b=>?_
  ·refine Bd fun w n=>?_
   exact Lf (o1 50 (Kd n)) (Ew1 b) (ws [0])
  exact Lf Ab (Ew1 b) (ws [0])
 intro c;refine Cd ?_ ?_
 ·refine Lt fun o p =>Te (O':=[.box [i64 3,.str o,i64 0,i64 0] false]) [2,3] Ab (Ew1 p) ?_
  exact Sr <|Tr <|Rr
 refine Sk <|Tn <|T0 [2,3] ?_
 exact Sr <|Rr
theorem JS{b r}(h:EJ b=some r):Con (B rs) 45 [.str b] [] (fun r' O'=>r'=.tup [.sl false (L Am r.1),i64 r.2.1,i64 r.2.2]/\O'=[]):=by
 refine Cw 62 [.tmp 2,.tmp 3,.tmp 4] Tryz.func45 (fun F hE=>?_) h;unfold EJ;refine T0 [0] ?_;refine Sc <|Sq <|T0 [0,12] ?_
 refine Cd ?_ ?_
 ·refine T0 [2,3,4] ?_;exact Sr <|Tr <|Cr <|Rr
 refine Sk <|Tn <|T0 [0,5] ?_
 refine T0 [0,5,6] ?_;refine Sq <|Sl <|Tn <|?_
 refine Jo (fun c=>⟨Ai 62 [(5,.bs false 0 (c.length) 0 (c.length))],[.buf 4 (L Am c) false]⟩) ?_ ?_
 ·intro y j;refine Sb ?_;refine Lo (fun(v:Int×List AoP)=>(⟨Ai 62 [(0,.str b),(5,.bs false 0 (v.2.length) 0 (v.2.length)),(6,i64 v.1)],[.buf 4 (L Am v.2) false]⟩:St)) ((Md 5 4 rfl).trans (ws [0])) ?_;rintro⟨d,a⟩ z k e f;show Bg b d a=some k->_;unfold Bg;refine Sq <|T0 [0,5,6,16] ?_
  refine Cd ?_ ?_
  ·refine Sk <|Tn <|Sb <|Sq <|Ck fun l =>Te [0,5,6,19] Ab (Ew1 (qR l)) ?_
   refine Sb ?_;refine Ja (fun i=>⟨Ai 62 [(0,.str b),(5,.bs false 0 (a.length) 0 (a.length)),(6,i64 d),(19,u8 (nth b d.toNat)),(20,.bool i)],[.buf 4 (L Am a) false]⟩) ?_ ?_
   ·intro aa;refine T0 [0,5,6,19,20] ?_;refine Cd ?_ ?_
    ·exact Sk <|Jm (ws [0])
    refine T0 [0,5,6,19,20] ?_;refine Cd ?_ ?_
    ·exact Sk <|Jm (ws [0])
    refine T0 [0,5,6,19,20] ?_;refine Cd ?_ ?_
    ·exact Sk <|Jm (ws [0])
    refine F0 [0,5,6,19,20] ?_;exact Jm (ws [0])
   intro i;refine Cd ?_ ?_
   ·refine T0 [0,5,6] ?_;exact Sx <|Bo <|Tx <|Bx <|Ln (ws [0])
   refine T0 [0,5,6,27] ?_;refine Cd ?_ ?_
   ·refine Ck fun m =>Bd fun ab n =>Te [0,5,6,7] (o1 32 (JX n)) (Ew1 m) ?_
    refine Sq <|T0 [0,5,6,7,34] ?_
    refine Cd ?_ ?_
    ·refine Sx <|Tx <|Bo <|Tx <|Bo <|Lx f e <|Bx <|?_
     exact Jn ((ws (l':=[(5,.bs false 0 (a.length) 0 (a.length))]) (O':=[.buf 4 (L Am a) false]) [0]).trans (ws [0]))
    refine Sk <|Tn <|Lt fun o p =>Te (fr':=[(0,_),(5,_),(6,i64 o)]) [0,5,6] Ab (Ew1 p) ?_
    exact Sx <|Bo <|Tx <|Bx <|Ln (ws [0])
   refine Sk <|Bn <|Tn <|Ck fun q =>Bd fun ac s =>Te [0,5,6,8,9] (o1 43 (Qy s)) (Ew1 q) ?_
   refine Sq <|T0 [0,5,6,8,9,47] ?_
   refine Cd ?_ ?_
   ·refine T0 [2,3,4] ?_;exact Sr <|Tr <|Br <|Lr f e <|Br <|Jr j <|Cr <|Rr
   refine Sk <|Tn <|T0 [0,5,6,8] ?_
   refine Ck fun t =>Lt fun g u =>Te (fr':=[(0,_),(5,.bs false 0 (g.length) 0 (g.length)),(6,_),(8,_)]) (O':=[.buf 4 (L Am g) false,_,_]) [0,5,6,8] Ab (Ew2 t u) ?_
   refine Lt fun w x =>Fe (fr':=[(0,_),(5,_),(6,i64 w)]) [0,5,6] Ab (Ew1 x) ?_
   exact Bn <|Ln (ws [0])
  refine Sx <|Tx <|Lx f e <|Bx <|?_
  exact Jn ((ws (l':=[(5,.bs false 0 (a.length) 0 (a.length))]) (O':=[.buf 4 (L Am a) false]) [0]).trans (ws [0]))
 intro c;refine T0 [2,3,4] ?_;exact Sr <|Cr <|Rr
theorem Fb{a r}(h:Ek a=some r):Con (B rs) 58 [.str a] [] (fun r' O'=>r'=.bool r/\O'=[]):=by
 refine Cw 6 [.tmp 2] Tryz.func58 (fun F hE=>?_) h;unfold Ek;refine T0 [0] ?_;refine T0 [2] ?_;exact Sr <|Rr
theorem TX{r}(h:tbox_all  = some r):Con (B rs) 123 [] [] (fun r' O'=>r'=.agg (C1 i64 r.low.l++C1 i64 r.high.l)/\O'=[]):=by
 refine Cw 10 [.cell 0 152] Tryz.func123 (fun F hE=>?_) h;unfold tbox_all;refine T0 [0] ?_;refine Ja (fun a=>⟨Ai 10 [(0,.ref 0 0)],[.box (C1 i64 (Arr.rep 16 0).l++C1 i64 a.l) false]⟩) ?_ ?_
 ·intro m;refine T0 [0,2] ?_;refine Sb ?_;refine Lo (fun(v:Int×Arr Int 16)=>(⟨Ai 10 [(0,.ref 0 0),(2,i64 v.1)],[.box (C1 i64 (Arr.rep 16 0).l++C1 i64 v.2.l) false]⟩:St)) (ws [0]) ?_;rintro⟨b,c⟩ n e f g;show LD b c=some e->_;unfold LD;refine T0 [0,2,3] ?_;refine Sq <|Cd ?_ ?_
  ·refine Sk <|Tn <|Sq <|Sb <|T0 [0,1,2] ?_
   refine Ck fun d=>?_
   have i:16+b.toNat<=31:=by have:=d.2;omega
   refine Lt fun j k =>Fe (O':=[.box (C1 i64 (Arr.rep 16 0).l++C1 i64 j.l) false]) [0,2] Ab (Ew3 (qR d) i k) ?_
   refine Bn <|Tn <|F0 [0,2] ?_
   exact Ln (ws [0])
  refine Sx <|Tx <|Ly g f <|Bx <|?_
  exact Jm ((ws (l':=[(0,.ref 0 0)]) (O':=[.box (C1 i64 (Arr.rep 16 0).l++C1 i64 c.l) false]) [0]).trans (ws [0]))
 intro a;refine T0 [0] ?_;exact Sr <|Rr
theorem NR{b a r}(h:GV b a=some r):Con (B rs) 124 [.agg (C1 i64 b.low.l++C1 i64 b.high.l),.agg [i64 a.Attr,i64 a.Low,i64 a.Zc]] [] (fun r' O'=>r'=.agg (C1 i64 r.low.l++C1 i64 r.high.l)/\O'=[]):=by
 refine Cw 30 [.cell 4 152] Tryz.func124 (fun F hE=>?_) h;unfold GV;refine T0 [2,3,4] ?_;refine Ck fun c=>?_
 have i:a.Attr.toNat<=31:=by have:=c.2;omega
 refine Ck fun d=>?_
 have j:a.Attr.toNat<=31:=by have:=d.2;omega
 refine Lt fun e k =>De (O':=[.box (C1 i64 e.l++C1 i64 b.high.l) false,_,_]) [[],[0],[],[2],[],[2,3,4],[2,3,4,5],[],[7],[2,3,4,5,6,7,8],[],[0,1,2,3,4,5,6,7,8,9,10],[0,1,2,3,4,5,6,7,8,9,10,11]] [2,3,4] Ab (Ew5 (qR c) i (qR d) j k) ?_
 refine Ck fun f=>?_
 have m:16+a.Attr.toNat<=31:=by have:=f.2;omega
 refine Ck fun g=>?_
 have n:16+a.Attr.toNat<=31:=by have:=g.2;omega
 refine Lt fun o p =>De (O':=[.box (C1 i64 e.l++C1 i64 o.l) false,_,_]) [[],[0],[],[2],[],[2,3,4],[2,3,4,5],[],[7],[2,3,4,5,6,7,8],[],[0,1,2,3,4,5,6,7,8,9,10],[0,1,2,3,4,5,6,7,8,9,10,11]] [2,4] Ab (Ew5 (qR f) m (qR g) n p) ?_
 refine T0 [4] ?_;exact Sr <|Rr
variable {rs:AoO}
theorem KR{rec_:AoT->Option (Int)}(hrec:∀{a:AoT} {r:Int},rec_ a=some r->Con (B rs) 60 [.agg (xE a)] [] (fun r' O'=>r'=i64 r/\O'=[])){a:AoT}{r:Int}(h:Eu rec_ a=some r):Con (B rs) 60 [.agg (xE a)] [] (fun r' O'=>r'=i64 r/\O'=[]):=by
 refine FA (N:=20) (rs:=[.tmp 2]) ok Tryz.func60 rfl (by decide +kernel) rfl rfl (Apq rfl) (fun F=>?_);have hE:=(ok (rs:=rs)).env F;unfold Eu at h;show Run ((B rs).env F) 0 _ ⟨Ai 20 [(0,.agg (xE a))],[]⟩ _;refine BM ?_;revert h;refine T0 [1] ?_;refine T0 [1,3] ?_;refine Ja (fun b=>⟨Ai 20 [(3,i64 b)],[]⟩) ?_ ?_
 ·intro u;refine T0 [3,7,8,9] ?_;refine Sb ?_;refine Lo (fun(v:Int×Int)=>(⟨Ai 20 [(3,i64 v.1),(7,.sl false (L cApi_Expr a.L)),(8,i64 (a.L.length:Int)),(9,i64 v.2)],[]⟩:St)) (ws []) ?_;rintro⟨c,d⟩ w e f g;show Fi a rec_ c d=some e->_;unfold Fi;refine T0 [3,7,8,9,10] ?_;refine Sq <|Cd ?_ ?_
  ·refine Sk <|Tn <|Sq <|Sb <|Ck fun i =>Lt fun j k =>Lt fun m n =>Lt fun o p =>Lt fun q s =>Te (O':=[.box (i64 j::i64 m::(C1 i64 o.l++[.sl false (L cApi_Expr q)])) false]) [3,5,7,8,9] Ab (Ew5 (qR i) k n p s) ?_
   refine Bd fun x t =>Fe [3,7,8,9] (o1 15 (hrec t)) Ev ?_
   refine Bn <|Tn <|F0 [3,7,8,9] ?_
   exact Ln (ws [])
  refine Sx <|Tx <|Ly g f <|Bx <|?_
  exact Jm ((ws (l':=[(3,i64 c)]) (O':=[]) []).trans (ws []))
 intro b;refine T0 [2] ?_;exact Sr <|Rr
theorem KT(n:Nat):∀{a:AoT} {r:Int},Er n a=some r->Con (B rs) 60 [.agg (xE a)] [] (fun r' O'=>r'=i64 r/\O'=[]):=by
 induction n with
 |zero=>intro a r h;cases h
 |succ n ih=>intro a r h;exact KR ih h
theorem Ig{a:AoT}{r:Int}(h:DG a=some r):Con (B rs) 60 [.agg (xE a)] [] (fun r' O'=>r'=i64 r/\O'=[]):=KT _ h
theorem BG{a r}(h:Bf a=some r):Con (B rs) 50 [.ref 0 0] [pS a] (fun r' O'=>r'=i64 r.1/\O'=[pS r.2]):=by
 refine Co 1 20 [.tmp 2] Tryz.func50 (fun F hE=>?_) h;unfold Bf;refine T0 [0] ?_;refine Sq <|T0 [0,8] ?_
 refine Cd ?_ ?_
 ·refine Ck fun b =>Te [2] Ab (Ew1 (qL b)) ?_
  exact Sr <|Tr <|Ro [0]
 refine Sk <|Tn <|T0 [2] ?_
 exact Sr <|Ro [0]
theorem Du{a c r}(h:BB a c=some r):Con (B rs) 85 [.ref 0 0,i64 c] [pS a] (fun r' O'=>r'=.tup [.agg (Am r.1),.bool r.2.1]/\O'=[pS r.2.2]):=by
 refine Co 1 30 [.cell 4 159,.tmp 5] Tryz.func85 (fun F hE=>?_) h;unfold BB;refine T0 [0,1,4] ?_;refine Sq ?_;refine Tw [0,4,22] (fun d=>⟨Ai 30 [(0,.ref 0 0),(4,.ref 1 0),(22,.bool d)],[pS a,.box [i64 0,.str ([]:List UInt8),i64 0,i64 0] false]⟩) ?_ ?_
 ·intro _;refine Sp (fun b=>?_) fun b=>?_
  ·exact Lf Ab (Ew1 b) (ws [0,1])
  refine Ck fun e=>?_
  exact Lf Ab (Ew2 b (qL e)) (ws [0,1])
 intro d;refine Cd ?_ ?_
 ·refine T0 [4,5] ?_;exact Sr <|Tr <|Ro [0]
 refine Sk <|Tn <|Ck fun f =>Te [4,5] Ab (Ew1 (qL f)) ?_
 exact Sr <|Ro [0]
theorem A4{a d r}(h:Aw a d=some r):Con (B rs) 51 [.ref 0 0,.str d] [pS a] (fun r' O'=>r'=.bool r.1/\O'=[pS r.2]):=by
 refine Co 1 40 [.tmp 4] Tryz.func51 (fun F hE=>?_) h;unfold Aw;refine T0 [0,1] ?_;refine Sq ?_;refine Tw [0,31] (fun e=>⟨Ai 40 [(0,.ref 0 0),(31,.bool e)],[pS a]⟩) ?_ ?_
 ·intro _;refine Sp (fun b=>?_) fun b=>?_
  ·exact Lf Ab (Ew1 b) (ws [0])
  refine Ck fun f=>?_
  refine Sp (fun c=>?_) fun c=>?_
  ·exact Lf Ab (Ew3 b (qL f) c) (ws [0])
  refine Ck fun g=>?_
  exact Lf Ab (Ew4 b (qL f) c (qL g)) (ws [0])
 intro e;refine Cd ?_ ?_
 ·refine T0 [4] ?_;exact Sr <|Tr <|Ro [0]
 refine Sk <|Tn <|Ck fun i =>Lt fun j k =>Te (O':=[.box [.sl false (L Am j),i64 a.end_] false]) [] Ab (Ew2 i k) ?_
 refine T0 [4] ?_;exact Sr <|Ro [0]
theorem HR{b a r}(h:Dv b a=some r):Con (B rs) 88 [.agg (Aa b),.ref 0 0] [.box (.str a.Zd::.sl true (L Af ([]))::i64 a.Pay.Op::i64 a.Pay.N::(C1 i64 a.Pay.Unit.l++[.sl true (L cApi_Expr ([]))])) false] (fun r' O'=>r'=.bool r.1/\O'=[.box (.str r.2.Zd::.sl true (L Af ([]))::i64 r.2.Pay.Op::i64 r.2.Pay.N::(C1 i64 r.2.Pay.Unit.l++[.sl true (L cApi_Expr ([]))])) false]):=by
 refine Co 1 9 [.tmp 3] Tryz.func88 (fun F hE=>?_) h;unfold Dv;refine T0 [1,2] ?_;refine T0 [3] ?_;exact Sr <|Ro [0]
theorem GX{a c r}(h:Cv a c=some r):Con (B rs) 135 [.bs false 0 (a.length) 0 (a.length),.fn 88 [.ref 1 0]] [.buf 9 (L Aa a) false,.box (.str c.Zd::.sl true (L Af ([]))::i64 c.Pay.Op::i64 c.Pay.N::(C1 i64 c.Pay.Unit.l++[.sl true (L cApi_Expr ([]))])) false] (fun r' O'=>r'=i64 r.1/\O'=[.buf 9 (L Aa a) false,.box (.str r.2.Zd::.sl true (L Af ([]))::i64 r.2.Pay.Op::i64 r.2.Pay.N::(C1 i64 r.2.Pay.Unit.l++[.sl true (L cApi_Expr ([]))])) false]):=by
 refine Co 2 19 [.tmp 4] Tryz.func135 (fun F hE=>?_) h;unfold Cv;refine T0 [0,1] ?_;refine Jo (fun⟨i,j,k,n⟩=>⟨Ai 19 [],[.buf 9 (L Aa a) false,.box (.str i::.sl true (L Af ([]))::i64 j::i64 k::(C1 i64 n.l++[.sl true (L cApi_Expr ([]))])) false]⟩) ?_ ?_
 ·intro v q;refine T0 [0,1,7,8] ?_;refine Sb ?_;refine Lo (fun⟨b,d,e,f,g⟩=>⟨Ai 19 [(0,.bs false 0 (a.length) 0 (a.length)),(1,.fn 88 [.ref 1 0]),(7,i64 (a.length:Int)),(8,i64 b)],[.buf 9 (L Aa a) false,.box (.str d::.sl true (L Af ([]))::i64 e::i64 f::(C1 i64 g.l++[.sl true (L cApi_Expr ([]))])) false]⟩) (ws [0,1]) ?_;rintro⟨b,d,e,f,g⟩ w s o p;show BQ a b d e f g=some s->_;unfold BQ;refine T0 [0,1,7,8,9] ?_;refine Sq <|Cd ?_ ?_
  ·refine Sk <|Tn <|Sq <|Sb <|T0 [0,1,5,7,8] ?_
   refine Ck fun t =>Bd fun x u =>Te [0,1,5,7,8,16] (Ag (l:=[]) (m:=[(16,88,[.agg (.str ((nth a b.toNat).Zd)::.sl false (L Af ((nth a b.toNat).Ze))::i64 (((nth a b.toNat).Pay).Op)::i64 (((nth a b.toNat).Pay).N)::(C1 i64 (((nth a b.toNat).Pay).Unit).l++[.sl false (L cApi_Expr (((nth a b.toNat).Pay).L))])),.ref 1 0],[.buf 9 (L Aa a) false,.box (.str d::.sl true (L Af ([]))::i64 e::i64 f::(C1 i64 g.l++[.sl true (L cApi_Expr ([]))])) false],_,_)]) trivial ⟨(wc (HR u) [1]),trivial⟩) (Ew1 (qR t)) ?_
   refine Cd ?_ ?_
   ·refine T0 [4] ?_;exact Sr <|Br <|Tr <|Lr p o <|Br <|Jr q <|Ro [0,1]
   refine Sk <|Bn <|Tn <|F0 [0,1,7,8] ?_
   exact Ln (ws [0,1])
  refine Sx <|Tx <|Lx p o <|Bx <|?_
  exact Jn ((ws (l':=[]) (O':=[.buf 9 (L Aa a) false,.box (.str d::.sl true (L Af ([]))::i64 e::i64 f::(C1 i64 g.l++[.sl true (L cApi_Expr ([]))])) false]) [0,1]).trans (ws [0,1]))
 rintro⟨i,j,k,n⟩;refine T0 [4] ?_;exact Sr <|Ro [0,1]
theorem FW{b a r}(h:Bs b a=some r):Con (B rs) 87 [.bs false 0 (b.length) 0 (b.length),.fn 88 [.ref 1 0]] [.buf 9 (L Aa b) false,.box (.str a.Zd::.sl true (L Af ([]))::i64 a.Pay.Op::i64 a.Pay.N::(C1 i64 a.Pay.Unit.l++[.sl true (L cApi_Expr ([]))])) false] (fun r' O'=>r'=.bool r.1/\O'=[.buf 9 (L Aa b) false,.box (.str r.2.Zd::.sl true (L Af ([]))::i64 r.2.Pay.Op::i64 r.2.Pay.N::(C1 i64 r.2.Pay.Unit.l++[.sl true (L cApi_Expr ([]))])) false]):=by
 refine Co 2 9 [.tmp 4] Tryz.func87 (fun F hE=>?_) h;unfold Bs;refine T0 [0,1] ?_;refine Bd fun d c =>Te [4] (Ag (l:=[]) (m:=[(7,135,[.bs false 0 (b.length) 0 (b.length),.fn 88 [.ref 1 0]],[.buf 9 (L Aa b) false,.box (.str a.Zd::.sl true (L Af ([]))::i64 a.Pay.Op::i64 a.Pay.N::(C1 i64 a.Pay.Unit.l++[.sl true (L cApi_Expr ([]))])) false],_,_)]) trivial ⟨(wc (GX c) [0,1]),trivial⟩) Ev ?_
 exact Sr <|Ro [0,1]
theorem A9{a:AoW}{r:AoW⊕(Int×Int×AoW)}(h:Bl a=some r):PCon (B rs) 53 [.ref 0 0] [pS a] (J3 r):=by
 refine BE (N:=6) (rs:=[]) 1 rfl ok Tryz.func53 rfl (by decide +kernel) rfl rfl (Apq rfl) (fun F=>?_);have hE:=(ok (rs:=rs)).env F;unfold Bl at h;show Run ((B rs).env F) 1 _ ⟨Ai 6 [(0,.ref 0 0)],[pS a]⟩ _;refine BM ?_;revert h;intro h;replace h:=An h;obtain⟨b,c,h⟩:=h;refine Gj hE [] 4 _ (v:=.iface 104 (.agg #[.int .i64 b.1,.int .i64 160])) (σ2:=[pS b.2]) (vals:=[]) rfl rfl ⟨_,[],(Ag (l:=[]) (m:=[(3,50,[.ref 0 0],[pS a],_,_)]) trivial ⟨(wc (BG c) [0]),trivial⟩),trivial,?_⟩ (fun d e f=>?_)
 ·simp only[go_sem]
 obtain rfl:=Ao8 h;exact wpR [0]
theorem Al{a:AoW}{b:List UInt8}{r:AoW⊕(Int×Int×AoW)}(h:Ax a b=some r):PCon (B rs) 47 [.ref 0 0,.str b] [pS a] (IW r):=by
 refine BE (N:=10) (rs:=[]) 1 rfl ok Tryz.func47 rfl (by decide +kernel) rfl rfl (Apq rfl) (fun F=>?_);have hE:=(ok (rs:=rs)).env F;unfold Ax at h;show Run ((B rs).env F) 1 _ ⟨Ai 10 [(0,.ref 0 0),(1,.str b)],[pS a]⟩ _;refine BM ?_;revert h;refine Bd fun d e =>Te [0,7] (Ag (l:=[]) (m:=[(6,51,[.ref 0 0,.str b],[pS a],_,_)]) trivial ⟨(wc (A4 e) [0]),trivial⟩) Ev ?_
 refine Cd ?_ ?_
 ·intro h;replace h:=An h;obtain⟨f,c,h⟩:=h;rcases f with g|i
  rotate_left
  ·dsimp only at h;refine Fs 1 9 [.ref 0 0] (Pw (A9 c) [0]) (fun _=>?_);obtain rfl:=Ao8 h;exact wpR [0]
  dsimp only at h;refine D2 hE Kr [] (fr':=[]) (O':=[pS g]) ⟨_,(Ag (l:=[]) (m:=[(9,53,[.ref 0 0],[pS d.2],_,_)]) trivial ⟨(wc (PCon.to (A9 c) rfl) [0]),trivial⟩),?_⟩ ?_
  ·simp only[go_sem]
  revert h;intro h;obtain rfl:=Ao8 h;refine FU (Weak.refl _ _) ?_;refine Vf rfl (AaY (.inl rfl) ?_ rfl ?_)
  ·simp only[go_sem]
  show JI [0] _ [0] _;simp only[go_sem]
 refine Sk ?_;intro h;obtain rfl:=Ao8 h;refine FU (Weak.refl _ _) ?_;refine Vf rfl (AaY (.inl rfl) ?_ rfl ?_)
 ·simp only[go_sem]
 show JI [0] _ [0] _;simp only[go_sem]
theorem AH{a:AoW}{r:(Int×AoW)⊕(Int×Int×AoW)}(h:Bh a=some r):PCon (B rs) 136 [.ref 0 0] [pS a] (I5 r):=by
 refine BE (N:=24) (rs:=[.tmp 2]) 1 rfl ok Tryz.func136 rfl (by decide +kernel) rfl rfl (Apq rfl) (fun F=>?_);have hE:=(ok (rs:=rs)).env F;unfold Bh at h;show Run ((B rs).env F) 1 _ ⟨Ai 24 [(0,.ref 0 0)],[pS a]⟩ _;refine BM ?_;revert h;refine T0 [0] ?_;refine Bd fun b d =>Te [0,3,4] (Ag (l:=[]) (m:=[(7,85,[.ref 0 0,i64 2],[pS a],_,_)]) trivial ⟨(wc (Du d) [0]),trivial⟩) Ev ?_
 refine Jo (fun(v:List AoP×Int)=>(⟨Ai 24 [(0,.ref 0 0),(3,.ref 1 0)],[.box [.sl false (L Am v.1),i64 v.2] false,.box (Am b.1) false]⟩:St)) ?_ ?_
 ·intro p e;refine T0 [0,3,11] ?_;refine Cd ?_ ?_
  ·intro h;replace h:=An h;obtain⟨f,c,h⟩:=h;rcases f with g|q
   rotate_left
   ·dsimp only at h;refine Fs 1 13 [.ref 0 0] (Pw (A9 c) [0]) (fun _=>?_);refine Hi ?_;replace h:=An h;obtain⟨s,h,i⟩:=h;obtain rfl:=Ao8 i;obtain rfl:=Ao8 e;obtain rfl:=Ao8 h;exact wpR [0]
   dsimp only at h;refine D2 hE FJ [0,3] (fr':=[(0,.ref 0 0),(3,.ref 1 0)]) (O':=[pS g,.box (Am b.1) false]) ⟨_,(Ag (l:=[]) (m:=[(13,53,[.ref 0 0],[pS b.2.2,.box (Am b.1) false],_,_)]) trivial ⟨(wc (PCon.to (A9 c) rfl) [0]),trivial⟩),?_⟩ ?_
   ·simp only[go_sem]
   revert h;exact Jn (ws [0,1])
  exact Sk <|Jn (ws [0,1])
 rintro⟨t,j⟩;refine Ck fun k =>Lt fun n o =>Te (O':=[.box [.sl false (L Am n),i64 j] false,_]) [3] Ab (Ew2 k o) ?_
 refine T0 [2] ?_;refine Sr ?_;intro h;obtain rfl:=Ao8 h;exact wpF
variable {rs:AoO}
theorem Qx{a b r}(h:Nk a b=some r):Con (B rs) 161 [u64 a,u64 b] [] (fun r' O'=>r'=.tup [u64 r.1,u64 r.2]/\O'=[]):=by
 refine Cw 51 [.tmp 4,.tmp 5] Tryz.func161 (fun F hE=>?_) h;unfold Nk;refine T0 [0,1] ?_;refine Lt fun x0_2646 c =>Te (fr':=[(0,_),(1,_),(6,u64 x0_2646)]) [0,1,6] Ab (Ew1 c) ?_
 refine Lt fun x1_2648 d =>Te (fr':=[(0,_),(1,_),(6,_),(7,u64 x1_2648)]) [0,1,6,7] Ab (Ew1 d) ?_
 refine Lt fun y0_2650 e =>Te (fr':=[(0,_),(1,_),(6,_),(7,_),(8,u64 y0_2650)]) [0,1,6,7,8] Ab (Ew1 e) ?_
 refine Lt fun y1_2652 f =>Te (fr':=[(0,_),(1,_),(6,_),(7,_),(8,_),(9,u64 y1_2652)]) [0,1,6,7,8,9] Ab (Ew1 f) ?_
 refine T0 [0,1,6,7,8,9,10] ?_;refine Lt fun g i =>Te (fr':=[(0,_),(1,_),(6,_),(7,_),(9,_),(11,u64 g)]) [0,1,6,7,9,11] Ab (Ew1 i) ?_
 refine Lt fun w1_2656 j =>Te (fr':=[(0,_),(1,_),(6,_),(7,_),(9,_),(11,_),(12,u64 w1_2656)]) [0,1,6,7,9,11,12] Ab (Ew1 j) ?_
 refine Lt fun w2_2658 k =>Te (fr':=[(0,_),(1,_),(6,_),(7,_),(9,_),(12,_),(13,u64 w2_2658)]) [0,1,6,7,9,12,13] Ab (Ew1 k) ?_
 refine Lt fun w1_2660 l =>Te (fr':=[(0,_),(1,_),(7,_),(9,_),(12,u64 w1_2660),(13,_)]) [0,1,7,9,12,13] Ab (Ew1 l) ?_
 refine Lt fun m n =>Te (fr':=[(0,_),(1,_),(4,u64 m)]) [0,1,4] Ab (Ew1 n) ?_
 refine T0 [4,5] ?_;exact Sr <|Rr
end Go.Proofs.YtldngkmkhfddpaaGreatDoor
