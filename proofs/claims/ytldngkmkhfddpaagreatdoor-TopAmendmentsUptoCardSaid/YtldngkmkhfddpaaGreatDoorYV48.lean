/-
  Part 48.
-/
import Derived.Test.YtldngkmkhfddpaaGreatDoorProg
import Derived.Test.YtldngkmkhfddpaaGreatDoorRows
import Derived.Test.YtldngkmkhfddpaaGreatDoorYV47
import Derived.KernelRfl
import Derived.WalkKit
import Derived.ProofKit
import Derived.OpenShut
import Derived.JoinedCond
import Derived.LaidMore
import Derived.Lay
import Derived.SevenTiedAt
import Derived.Stop.Joined
import Derived.Lib.LaidTab
namespace Go.Proofs.YtldngkmkhfddpaaGreatDoor
open Go.Rv
set_option linter.unusedVariables false
set_option linter.unusedSimpArgs false
set_option maxRecDepth 20000
def glob0:Arr UInt8 256:=⟨[0,0,0,0,0,0,0,0,0,1,1,1,1,1,0,0,0,0,0,0,0,0,0,0,0,0,0,0,0,0,0,0,1,0,0,0,0,0,0,0,0,0,0,0,0,0,0,0,0,0,0,0,0,0,0,0,0,0,0,0,0,0,0,0,0,0,0,0,0,0,0,0,0,0,0,0,0,0,0,0,0,0,0,0,0,0,0,0,0,0,0,0,0,0,0,0,0,0,0,0,0,0,0,0,0,0,0,0,0,0,0,0,0,0,0,0,0,0,0,0,0,0,0,0,0,0,0,0,0,0,0,0,0,0,0,0,0,0,0,0,0,0,0,0,0,0,0,0,0,0,0,0,0,0,0,0,0,0,0,0,0,0,0,0,0,0,0,0,0,0,0,0,0,0,0,0,0,0,0,0,0,0,0,0,0,0,0,0,0,0,0,0,0,0,0,0,0,0,0,0,0,0,0,0,0,0,0,0,0,0,0,0,0,0,0,0,0,0,0,0,0,0,0,0,0,0,0,0,0,0,0,0,0,0,0,0,0,0,0,0,0,0,0,0,0,0,0,0,0,0,0,0,0,0,0,0],rfl⟩
def tab1:List (List UInt8×Bool):=[([97,110,100],true),([98,101,103,105,110],true),([99,108,97,115,115],true),([99,108,97,117,115,101],true),([99,108,101,97,110,105,110,103],true),([99,111,100,101],true),([99,111,115,116],true),([100,101,109,117,114,114,97,103,101],true),([100,111,119,110],true),([102,111,114],true),([102,114,101,105,103,104,116],true),([104,97,108,102],true),([104,105,114,101],true),([105,102],true),([105,110],true),([105,115],true),([107,103],true),([107,109],true),([108,111,115,115],true),([109,97,120],true),([109,105,110],true),([109,105,110,117,116,101],true),([109,105,110,117,116,101,115],true),([109,111,110,101,121],true),([109,111,110,116,104],true),([111,119,110,101,114],true),([112,97,114,116],true),([112,97,114,116,115],true),([112,97,121],true),([112,101,114],true),([114,97,105,108,119,97,121],true),([114,101,112,97,105,114],true),([115,104,105,112,112,101,114],true),([116,97,114,105,102,102],true),([116,121,112,101],true),([117,112],true),([119,101,105,103,104,116],true),([119,104,101,110],true),([119,111,114,107,105,110,103],true),([119,111,114,116,104],true)]
def tab3:List (UInt8×List UInt8):=[(40,[40]),(41,[41]),(42,[42]),(43,[43]),(44,[44]),(45,[45]),(46,[46,46]),(59,[59]),(60,[60]),(123,[123]),(125,[125])]
structure AoH where
  r:Nat->Nat
  ev:Option (Nat×Nat×Int×Arr Int 16)
instance:CoeFun AoH fun _=>Nat->Nat:=⟨AoH.r⟩
variable {rs:AoH}
def AmX(b:Nat):AV->Option AV
 |.int .i64 n=>if n=3 then some (.fn 68 [.tup [.glob b]])else if n=4 then some (.fn 69 [.tup [.glob b]])else if n=5 then some (.fn 70 [.tup [.glob b]])else if n=6 then some (.fn 71 [.tup [.glob b]])else if n=7 then some (.fn 72 [.tup [.glob b]])else if n=8 then some (.fn 73 [.tup [.glob b]])else if n=9 then some (.fn 74 [.tup [.glob b]])else if n=10 then some (.fn 75 [.tup [.glob b]])else if n=11 then some (.fn 76 [.tup [.glob b]])else none
 |_=>none
structure AoI where
  Za:Int
  Zb:List UInt8
  N:Int
  At:Int
  deriving DecidableEq,Inhabited
def Aa(x:AoI):List AV:=[i64 x.Za,.str x.Zb,i64 x.N,i64 x.At]
structure AoJ where
  low:Arr Int 16
  high:Arr Int 16
  deriving DecidableEq,Inhabited
def Es(x:AoJ):List AV:=((C1 i64 x.low.l++C1 i64 x.high.l))
structure AoK where
  Attr:Int
  Low:Int
  Zc:Int
  deriving DecidableEq,Inhabited
def Ae(x:AoK):List AV:=[i64 x.Attr,i64 x.Low,i64 x.Zc]
structure AoL where
  Has:Int
  V:Arr Int 16
  deriving DecidableEq,Inhabited
def AeX(x:AoL):List AV:=(i64 x.Has::C1 i64 x.V.l)
inductive AoM where
  |mk (Op:Int) (N:Int) (Unit:Arr Int 4) (L:List AoM)
instance:Inhabited AoM:=⟨.mk default default default default⟩
def AoM.Op(x:AoM):Int:=match x with
 |.mk a _ _ _=>a
theorem VZ{x0:Int}{x1:Int}{x2:Arr Int 4}{x3:List AoM}:(AoM.mk x0 x1 x2 x3).Op=x0:=rfl
def AoM.N(x:AoM):Int:=match x with
 |.mk _ a _ _=>a
theorem YD{x0:Int}{x1:Int}{x2:Arr Int 4}{x3:List AoM}:(AoM.mk x0 x1 x2 x3).N=x1:=rfl
def AoM.Unit(x:AoM):Arr Int 4:=match x with
 |.mk _ _ a _=>a
theorem RP{x0:Int}{x1:Int}{x2:Arr Int 4}{x3:List AoM}:(AoM.mk x0 x1 x2 x3).Unit=x2:=rfl
def AoM.L(x:AoM):List AoM:=match x with
 |.mk _ _ _ a=>a
theorem XR{x0:Int}{x1:Int}{x2:Arr Int 4}{x3:List AoM}:(AoM.mk x0 x1 x2 x3).L=x3:=rfl
noncomputable def cApi_Expr(v:AoM):List AV:=AoM.rec (motive_1:=fun _=>List AV) (motive_2:=fun _=>List (List AV)) (fun Op_ N_ Unit_ L_ ih3=>(i64 Op_::i64 N_::(C1 i64 Unit_.l++[.sl false ih3]))) [] (fun _ _ x l=>x::l) v
theorem UD(l:List AoM):AoM.rec_1 (motive_1:=fun _=>List AV) (motive_2:=fun _=>List (List AV)) (fun Op_ N_ Unit_ L_ ih3=>(i64 Op_::i64 N_::(C1 i64 Unit_.l++[.sl false ih3]))) [] (fun _ _ x l=>x::l) l=L cApi_Expr l:=by
 induction l with
 |nil=>rfl
 |cons x l ih=>exact ApV (cApi_Expr x::·) ih
theorem ND(x:AoM):cApi_Expr x=(i64 x.Op::i64 x.N::(C1 i64 x.Unit.l++[.sl false (L cApi_Expr x.L)])):=by
 cases x with
 |mk a0 a1 a2 a3=>
  show(i64 a0::i64 a1::(C1 i64 a2.l++[.sl false (AoM.rec_1 (motive_1:=fun _=>List AV) (motive_2:=fun _=>List (List AV)) (fun Op_ N_ Unit_ L_ ih3=>(i64 Op_::i64 N_::(C1 i64 Unit_.l++[.sl false ih3]))) [] (fun _ _ x l=>x::l) a3)]))=_;rw[UD];rfl
structure AoN where
  Zd:List UInt8
  Ze:List AoK
  Pay:AoM
  deriving Inhabited
noncomputable def Ab(x:AoN):List AV:=(.str x.Zd::.sl false (L Ae x.Ze)::i64 x.Pay.Op::i64 x.Pay.N::(C1 i64 x.Pay.Unit.l++[.sl false (L cApi_Expr x.Pay.L)]))
structure AoO where
  Zd:List UInt8
  For:Int
  Zf:List AoN
  deriving Inhabited
noncomputable def Af(x:AoO):List AV:=[.str x.Zd,i64 x.For,.sl false (L Ab x.Zf)]
structure AoP where
  l:List AoI
  end_:Int
  deriving DecidableEq,Inhabited
def Qq(x:AoP):List AV:=[.sl false (L Aa x.l),i64 x.end_]
structure AoQ where
  Zg:Int
  No:Int
  deriving DecidableEq,Inhabited
def WN(x:AoQ):List AV:=[i64 x.Zg,i64 x.No]
structure AoR where
  Za:Int
  Zh:Int
  Zi:Bool
  deriving DecidableEq,Inhabited
def Dr(x:AoR):List AV:=[i64 x.Za,i64 x.Zh,.bool x.Zi]
structure AoS where
  Za:Int
  Ref:AoQ
  Zj:Int
  Zk:Int
  Zl:Int
  Zm:Int
  Zn:Int
  To:Int
  Code:Int
  Zo:Int
  Zp:Int
  Zq:Int
  Zr:Int
  Zb:List UInt8
  Zs:List AoR
  deriving DecidableEq,Inhabited
def Tt(x:AoS):List AV:=[i64 x.Za,i64 x.Ref.Zg,i64 x.Ref.No,i64 x.Zj,i64 x.Zk,i64 x.Zl,i64 x.Zm,i64 x.Zn,i64 x.To,i64 x.Code,i64 x.Zo,i64 x.Zp,i64 x.Zq,i64 x.Zr,.str x.Zb,.sl false (L Dr x.Zs)]
structure AoT where
  Ref:AoQ
  By:AoQ
  Zt:Int
  Zu:AoS
  deriving DecidableEq,Inhabited
def Ah(x:AoT):List AV:=[i64 x.Ref.Zg,i64 x.Ref.No,i64 x.By.Zg,i64 x.By.No,i64 x.Zt,i64 x.Zu.Za,i64 x.Zu.Ref.Zg,i64 x.Zu.Ref.No,i64 x.Zu.Zj,i64 x.Zu.Zk,i64 x.Zu.Zl,i64 x.Zu.Zm,i64 x.Zu.Zn,i64 x.Zu.To,i64 x.Zu.Code,i64 x.Zu.Zo,i64 x.Zu.Zp,i64 x.Zu.Zq,i64 x.Zu.Zr,.str x.Zu.Zb,.sl false (L Dr x.Zu.Zs)]
structure AoU where
  Op:Int
  N:Int
  M:Int
  deriving DecidableEq,Inhabited
def Ak(x:AoU):List AV:=[i64 x.Op,i64 x.N,i64 x.M]
structure AoV where
  l:List (List UInt8)
  deriving DecidableEq,Inhabited
def OK(x:AoV):List AV:=[.sl false (L AU x.l)]
structure AoW where
  code:List AoU
  deriving DecidableEq,Inhabited
def P1(x:AoW):List AV:=[.sl false (L Ak x.code)]
def Qu(x:Int):AV:=i64 x
abbrev Rb:=Int->Option Int
def KW(x:Bool):AV:=.bool x
abbrev Nj:=List UInt8->Option Bool
structure AoX where
  k:Nat
  n:Int
  deriving DecidableEq,Inhabited
def Ek(x:AoX):AV:=if x.k=119 then .agg [.fn 119 []]else if x.k=120 then .agg [.fn 120 []]else if x.k=165 then .agg [.fn 165 [.rp [i64 x.n]]]else .junk
abbrev JD:=Int->Option AoX
noncomputable def SE(x:AoN):AV:=.agg (Ab x)
def R1:AoN:=({ Zd:=([]:List UInt8),Ze:=[],Pay:=(AoM.mk 0 0 ((Arr.rep 4 0)) ([])) }:AoN)
abbrev RA:=List UInt8->Option AoN
noncomputable def mpF:TypeId->Option AV:=fun t=>if t=92 then some (.agg (.str (([]:List UInt8))::.sl false (L Ae ([]))::i64 0::i64 0::(C1 i64 ((Arr.rep 4 0)).l++[.sl false (L cApi_Expr ([]))])))else if t=120 then some (.bool false)else if t=146 then some (.junk)else if t=230 then some (i64 0)else none
theorem Al1:Ob Tryz.prog 47=some ⟨.struct #[⟨"Name", 9,0,false,"","", 0⟩,⟨"When", 40,1,false,"","", 16⟩,⟨"Pay", 45,2,false,"","", 40⟩],9,112,(.str (([]:List UInt8))::.sl true (L Ae ([]))::i64 0::i64 0::(C1 i64 ((Arr.rep 4 0)).l++[.sl true (L cApi_Expr ([]))]))⟩:=by kernel_rfl
theorem Aj6:∀t z,mpF t=some z->AhY Tryz.prog t z:=by
 intro t z h;unfold mpF at h;split at h
 ·rename_i e;subst e;cases h;exact AcY (by kernel_rfl:Tryz.prog.underlying 92=some (.map 9 47)) Al1 (by decide)
 split at h
 ·rename_i e;subst e;cases h;exact R4 (v:=.bool false) (by kernel_rfl:Tryz.prog.underlying 120=some (.map 9 4)) (by kernel_rfl)
 split at h
 ·rename_i e;subst e;cases h;exact R4 (v:=.agg #[.nilFunc]) (by kernel_rfl:Tryz.prog.underlying 146=some (.map 3 201)) (by kernel_rfl)
 split at h
 ·rename_i e;subst e;cases h;exact R4 (v:=.int .i64 0) (by kernel_rfl:Tryz.prog.underlying 230=some (.map 3 3)) (by kernel_rfl)
 cases h
attribute [go_sem_proc] reduceIte Nat.reduceLT Nat.reduceEqDiff Nat.reduceAdd Nat.reduceBEq Nat.reduceMul Nat.reduceSub Nat.reduceGT Nat.reducePow Nat.reduceLeDiff Int.reduceToNat Int.reduceLT Int.reduceAdd Int.reduceSub Nat.reduceGT Nat.reduceLeDiff Int.reduceBEq Int.reduceGT Int.reduceLE Int.reduceGE
attribute [go_sem] Amm decide_true decide_false Bool.false_eq_true beq_self_eq_true
noncomputable def B(rs:AoH):Base:=Acf Tryz.prog (fun i=>if i=1 then some [.val (.map (some (rs 1)))]else if i=3 then some [.val (.map (some (rs 3)))]else if i=0 then some (C1 u8 glob0.l)else match rs.ev with|some (b,m,has,v)=>if i=b+4 then some (i64 has::(C1 i64 v.l++[.val (.map (some m))]))else none|none=>none) (fun f xs=>[25,27,31,32,36,38,39,41,43,47,48,49,50,51,52,53,54,55,63,64,68,69,70,71,72,73,74,75,76,77,79,80,85,86,87,88,89,90,91,92,96,104,105,106,110,112,115,116,117,135,136,137,138,139,140,141,148,149,165,168,169,171].contains f||(f==1000000&&xs.isEmpty)) (fun t=>if t=120 then some ⟨rs 1,9,4,.string,.bool false,TR (fun k=>.str k) (fun x=>.bool x) tab1⟩else if t=214 then some ⟨rs 3,5,9,.int .u8,.str ([]:List UInt8),TR (fun k=>u8 k) (fun x=>.str x) tab3⟩else if t=138 then(match rs.ev with|some (b,m,_,_)=>some ⟨m,3,141,.int .i64,.val .nilFunc,AmX (b+4)⟩|none=>none)else none) (fun i=>if i=7 then some ((Lib.pow10Tab).map fun z=>Value.int .u64 z).toArray else none) (mp:=mpF) (hmp:=Aj6)
theorem tbk{t F x}(h:Ob Tryz.prog t=x):((B rs).env F).tab t=x:=(OR Tryz.prog t).trans h
theorem ok:(B rs).Ok:=QV _ _ _ _ _ (mp:=mpF) (hmp:=Aj6)
theorem own3(F:Out)(xs:List Operand):((B rs).env F).own 3 xs=false:=rfl
theorem own5(F:Out)(xs:List Operand):((B rs).env F).own 5 xs=false:=rfl
theorem own6(F:Out)(xs:List Operand):((B rs).env F).own 6 xs=false:=rfl
theorem own7(F:Out)(xs:List Operand):((B rs).env F).own 7 xs=false:=rfl
theorem own8(F:Out)(xs:List Operand):((B rs).env F).own 8 xs=false:=rfl
theorem own9(F:Out)(xs:List Operand):((B rs).env F).own 9 xs=false:=rfl
theorem Aoy(F:Out)(xs:List Operand):((B rs).env F).own 10 xs=false:=rfl
theorem Ano(F:Out)(xs:List Operand):((B rs).env F).own 11 xs=false:=rfl
theorem Aoc(F:Out)(xs:List Operand):((B rs).env F).own 12 xs=false:=rfl
theorem Aow(F:Out)(xs:List Operand):((B rs).env F).own 14 xs=false:=rfl
theorem An8(F:Out)(xs:List Operand):((B rs).env F).own 15 xs=false:=rfl
theorem Aoi(F:Out)(xs:List Operand):((B rs).env F).own 16 xs=false:=rfl
theorem AnA(F:Out)(xs:List Operand):((B rs).env F).own 17 xs=false:=rfl
theorem AnE(F:Out)(xs:List Operand):((B rs).env F).own 18 xs=false:=rfl
theorem Amh(F:Out)(xs:List Operand):((B rs).env F).own 19 xs=false:=rfl
theorem Al9(F:Out)(xs:List Operand):((B rs).env F).own 20 xs=false:=rfl
theorem Amx(F:Out)(xs:List Operand):((B rs).env F).own 21 xs=false:=rfl
theorem Ama(F:Out)(xs:List Operand):((B rs).env F).own 22 xs=false:=rfl
theorem Amv(F:Out)(xs:List Operand):((B rs).env F).own 23 xs=false:=rfl
theorem AmH(F:Out)(xs:List Operand):((B rs).env F).own 24 xs=false:=rfl
theorem Anr(F:Out)(xs:List Operand):((B rs).env F).own 25 xs=true:=rfl
theorem An9(F:Out)(xs:List Operand):((B rs).env F).own 26 xs=false:=rfl
theorem Anq(F:Out)(xs:List Operand):((B rs).env F).own 27 xs=true:=rfl
theorem Aol(F:Out)(xs:List Operand):((B rs).env F).own 28 xs=false:=rfl
theorem Amg(F:Out)(xs:List Operand):((B rs).env F).own 31 xs=true:=rfl
theorem Ans(F:Out)(xs:List Operand):((B rs).env F).own 32 xs=true:=rfl
theorem Amu(F:Out)(xs:List Operand):((B rs).env F).own 33 xs=false:=rfl
theorem Aox(F:Out)(xs:List Operand):((B rs).env F).own 34 xs=false:=rfl
theorem Ams(F:Out)(xs:List Operand):((B rs).env F).own 35 xs=false:=rfl
theorem Ank(F:Out)(xs:List Operand):((B rs).env F).own 36 xs=true:=rfl
theorem Aoo(F:Out)(xs:List Operand):((B rs).env F).own 37 xs=false:=rfl
theorem Aon(F:Out)(xs:List Operand):((B rs).env F).own 38 xs=true:=rfl
theorem An4(F:Out)(xs:List Operand):((B rs).env F).own 39 xs=true:=rfl
theorem An7(F:Out)(xs:List Operand):((B rs).env F).own 40 xs=false:=rfl
theorem Al2(F:Out)(xs:List Operand):((B rs).env F).own 41 xs=true:=rfl
theorem AmM(F:Out)(xs:List Operand):((B rs).env F).own 42 xs=false:=rfl
theorem Am5(F:Out)(xs:List Operand):((B rs).env F).own 43 xs=true:=rfl
theorem Al7(F:Out)(xs:List Operand):((B rs).env F).own 44 xs=false:=rfl
theorem Am0(F:Out)(xs:List Operand):((B rs).env F).own 45 xs=false:=rfl
theorem Aot(F:Out)(xs:List Operand):((B rs).env F).own 47 xs=true:=rfl
theorem AnV(F:Out)(xs:List Operand):((B rs).env F).own 48 xs=true:=rfl
theorem Al8(F:Out)(xs:List Operand):((B rs).env F).own 49 xs=true:=rfl
theorem AnR(F:Out)(xs:List Operand):((B rs).env F).own 50 xs=true:=rfl
theorem Anv(F:Out)(xs:List Operand):((B rs).env F).own 51 xs=true:=rfl
theorem Al4(F:Out)(xs:List Operand):((B rs).env F).own 52 xs=true:=rfl
theorem Anc(F:Out)(xs:List Operand):((B rs).env F).own 53 xs=true:=rfl
theorem AnL(F:Out)(xs:List Operand):((B rs).env F).own 54 xs=true:=rfl
theorem Amc(F:Out)(xs:List Operand):((B rs).env F).own 55 xs=true:=rfl
theorem AmG(F:Out)(xs:List Operand):((B rs).env F).own 56 xs=false:=rfl
theorem AmY(F:Out)(xs:List Operand):((B rs).env F).own 57 xs=false:=rfl
theorem Amy(F:Out)(xs:List Operand):((B rs).env F).own 58 xs=false:=rfl
theorem Al5(F:Out)(xs:List Operand):((B rs).env F).own 59 xs=false:=rfl
theorem AoC(F:Out)(xs:List Operand):((B rs).env F).own 60 xs=false:=rfl
theorem Anw(F:Out)(xs:List Operand):((B rs).env F).own 63 xs=true:=rfl
theorem AmL(F:Out)(xs:List Operand):((B rs).env F).own 64 xs=true:=rfl
theorem Aom(F:Out)(xs:List Operand):((B rs).env F).own 68 xs=true:=rfl
theorem AnD(F:Out)(xs:List Operand):((B rs).env F).own 69 xs=true:=rfl
theorem Anu(F:Out)(xs:List Operand):((B rs).env F).own 70 xs=true:=rfl
theorem AnB(F:Out)(xs:List Operand):((B rs).env F).own 71 xs=true:=rfl
theorem Aog(F:Out)(xs:List Operand):((B rs).env F).own 72 xs=true:=rfl
theorem Amp(F:Out)(xs:List Operand):((B rs).env F).own 73 xs=true:=rfl
theorem AmD(F:Out)(xs:List Operand):((B rs).env F).own 74 xs=true:=rfl
theorem Aof(F:Out)(xs:List Operand):((B rs).env F).own 75 xs=true:=rfl
theorem AnC(F:Out)(xs:List Operand):((B rs).env F).own 76 xs=true:=rfl
theorem Aod(F:Out)(xs:List Operand):((B rs).env F).own 77 xs=true:=rfl
theorem AoA(F:Out)(xs:List Operand):((B rs).env F).own 78 xs=false:=rfl
theorem Amk(F:Out)(xs:List Operand):((B rs).env F).own 79 xs=true:=rfl
theorem AnP(F:Out)(xs:List Operand):((B rs).env F).own 80 xs=true:=rfl
theorem AmC(F:Out)(xs:List Operand):((B rs).env F).own 81 xs=false:=rfl
theorem AmZ(F:Out)(xs:List Operand):((B rs).env F).own 82 xs=false:=rfl
theorem AmT(F:Out)(xs:List Operand):((B rs).env F).own 83 xs=false:=rfl
theorem Amd(F:Out)(xs:List Operand):((B rs).env F).own 84 xs=false:=rfl
theorem Al3(F:Out)(xs:List Operand):((B rs).env F).own 85 xs=true:=rfl
theorem AlW(F:Out)(xs:List Operand):((B rs).env F).own 86 xs=true:=rfl
theorem Amr(F:Out)(xs:List Operand):((B rs).env F).own 87 xs=true:=rfl
theorem Aoe(F:Out)(xs:List Operand):((B rs).env F).own 88 xs=true:=rfl
theorem Amz(F:Out)(xs:List Operand):((B rs).env F).own 89 xs=true:=rfl
theorem Anx(F:Out)(xs:List Operand):((B rs).env F).own 90 xs=true:=rfl
theorem Am9(F:Out)(xs:List Operand):((B rs).env F).own 91 xs=true:=rfl
theorem AmV(F:Out)(xs:List Operand):((B rs).env F).own 92 xs=true:=rfl
theorem Aos(F:Out)(xs:List Operand):((B rs).env F).own 93 xs=false:=rfl
theorem Anh(F:Out)(xs:List Operand):((B rs).env F).own 94 xs=false:=rfl
theorem Ang(F:Out)(xs:List Operand):((B rs).env F).own 95 xs=false:=rfl
theorem Ana(F:Out)(xs:List Operand):((B rs).env F).own 96 xs=true:=rfl
theorem AnU(F:Out)(xs:List Operand):((B rs).env F).own 97 xs=false:=rfl
theorem AoG(F:Out)(xs:List Operand):((B rs).env F).own 98 xs=false:=rfl
theorem An0(F:Out)(xs:List Operand):((B rs).env F).own 99 xs=false:=rfl
theorem Aik(F:Out)(xs:List Operand):((B rs).env F).own 100 xs=false:=rfl
theorem Akd(F:Out)(xs:List Operand):((B rs).env F).own 101 xs=false:=rfl
theorem Ajj(F:Out)(xs:List Operand):((B rs).env F).own 103 xs=false:=rfl
theorem AlB(F:Out)(xs:List Operand):((B rs).env F).own 104 xs=true:=rfl
theorem Akm(F:Out)(xs:List Operand):((B rs).env F).own 105 xs=true:=rfl
theorem Ajr(F:Out)(xs:List Operand):((B rs).env F).own 106 xs=true:=rfl
theorem AkG(F:Out)(xs:List Operand):((B rs).env F).own 107 xs=false:=rfl
theorem Ais(F:Out)(xs:List Operand):((B rs).env F).own 110 xs=true:=rfl
theorem Ai0(F:Out)(xs:List Operand):((B rs).env F).own 111 xs=false:=rfl
theorem Alz(F:Out)(xs:List Operand):((B rs).env F).own 112 xs=true:=rfl
theorem AlH(F:Out)(xs:List Operand):((B rs).env F).own 113 xs=false:=rfl
theorem AlG(F:Out)(xs:List Operand):((B rs).env F).own 114 xs=false:=rfl
theorem Aj8(F:Out)(xs:List Operand):((B rs).env F).own 115 xs=true:=rfl
theorem Alf(F:Out)(xs:List Operand):((B rs).env F).own 116 xs=true:=rfl
theorem AjY(F:Out)(xs:List Operand):((B rs).env F).own 117 xs=true:=rfl
theorem AkL(F:Out)(xs:List Operand):((B rs).env F).own 119 xs=false:=rfl
theorem AiG(F:Out)(xs:List Operand):((B rs).env F).own 120 xs=false:=rfl
theorem Aip(F:Out)(xs:List Operand):((B rs).env F).own 121 xs=false:=rfl
theorem Ajt(F:Out)(xs:List Operand):((B rs).env F).own 122 xs=false:=rfl
theorem Aii(F:Out)(xs:List Operand):((B rs).env F).own 123 xs=false:=rfl
theorem AlJ(F:Out)(xs:List Operand):((B rs).env F).own 124 xs=false:=rfl
theorem Aiv(F:Out)(xs:List Operand):((B rs).env F).own 125 xs=false:=rfl
theorem AlE(F:Out)(xs:List Operand):((B rs).env F).own 126 xs=false:=rfl
theorem AjO(F:Out)(xs:List Operand):((B rs).env F).own 127 xs=false:=rfl
theorem AjU(F:Out)(xs:List Operand):((B rs).env F).own 128 xs=false:=rfl
theorem AkA(F:Out)(xs:List Operand):((B rs).env F).own 129 xs=false:=rfl
theorem AkZ(F:Out)(xs:List Operand):((B rs).env F).own 130 xs=false:=rfl
theorem Ait(F:Out)(xs:List Operand):((B rs).env F).own 131 xs=false:=rfl
theorem AkY(F:Out)(xs:List Operand):((B rs).env F).own 132 xs=false:=rfl
theorem Aif(F:Out)(xs:List Operand):((B rs).env F).own 133 xs=false:=rfl
theorem AiQ(F:Out)(xs:List Operand):((B rs).env F).own 134 xs=false:=rfl
theorem Aju(F:Out)(xs:List Operand):((B rs).env F).own 135 xs=true:=rfl
theorem AiS(F:Out)(xs:List Operand):((B rs).env F).own 136 xs=true:=rfl
theorem Aln(F:Out)(xs:List Operand):((B rs).env F).own 137 xs=true:=rfl
theorem Ai9(F:Out)(xs:List Operand):((B rs).env F).own 138 xs=true:=rfl
theorem Aig(F:Out)(xs:List Operand):((B rs).env F).own 139 xs=true:=rfl
theorem Ak8(F:Out)(xs:List Operand):((B rs).env F).own 140 xs=true:=rfl
theorem Akg(F:Out)(xs:List Operand):((B rs).env F).own 141 xs=true:=rfl
theorem Als(F:Out)(xs:List Operand):((B rs).env F).own 142 xs=false:=rfl
theorem AlA(F:Out)(xs:List Operand):((B rs).env F).own 143 xs=false:=rfl
theorem Alu(F:Out)(xs:List Operand):((B rs).env F).own 144 xs=false:=rfl
theorem Aj7(F:Out)(xs:List Operand):((B rs).env F).own 145 xs=false:=rfl
theorem Ah7(F:Out)(xs:List Operand):((B rs).env F).own 146 xs=false:=rfl
theorem AjX(F:Out)(xs:List Operand):((B rs).env F).own 147 xs=false:=rfl
theorem AkI(F:Out)(xs:List Operand):((B rs).env F).own 148 xs=true:=rfl
theorem Alr(F:Out)(xs:List Operand):((B rs).env F).own 149 xs=true:=rfl
theorem Ajx(F:Out)(xs:List Operand):((B rs).env F).own 152 xs=false:=rfl
theorem Ak2(F:Out)(xs:List Operand):((B rs).env F).own 156 xs=false:=rfl
theorem AlF(F:Out)(xs:List Operand):((B rs).env F).own 159 xs=false:=rfl
theorem AkX(F:Out)(xs:List Operand):((B rs).env F).own 160 xs=false:=rfl
theorem Aki(F:Out)(xs:List Operand):((B rs).env F).own 161 xs=false:=rfl
theorem Aj0(F:Out)(xs:List Operand):((B rs).env F).own 162 xs=false:=rfl
theorem Aka(F:Out)(xs:List Operand):((B rs).env F).own 163 xs=false:=rfl
theorem Alo(F:Out)(xs:List Operand):((B rs).env F).own 165 xs=true:=rfl
theorem Ajn(F:Out)(xs:List Operand):((B rs).env F).own 166 xs=false:=rfl
theorem AkO(F:Out)(xs:List Operand):((B rs).env F).own 167 xs=false:=rfl
theorem Ai2(F:Out)(xs:List Operand):((B rs).env F).own 168 xs=true:=rfl
theorem Ajl(F:Out)(xs:List Operand):((B rs).env F).own 169 xs=true:=rfl
theorem Akx(F:Out)(xs:List Operand):((B rs).env F).own 171 xs=true:=rfl
theorem Ahz(F:Out):((B rs).env F).own 1000000 []=true:=rfl
theorem Ahl(F:Out)(x:Operand)(xs:List Operand):((B rs).env F).own 1000000 (x::xs)=false:=rfl
attribute [go_sem] Ahz Ahl
theorem H8:Tryz.prog.follows .mixedOrders=true:=by kernel_rfl
theorem tb3(F):((B rs).env F).tab 3=some ⟨.int .i64,1,8,[i64 0]⟩:=tbk (by kernel_rfl)
theorem tb4(F):((B rs).env F).tab 4=some ⟨.bool,1,1,[.bool false]⟩:=tbk (by kernel_rfl)
theorem tb5(F):((B rs).env F).tab 5=some ⟨.int .u8,1,1,[u8 ((0:UInt8))]⟩:=tbk (by kernel_rfl)
theorem tb9(F):((B rs).env F).tab 9=some ⟨.string,1,16,[.str (([]:List UInt8))]⟩:=tbk (by kernel_rfl)
theorem AkQ(F):((B rs).env F).tab 22=some ⟨.slice 29,1,24,[.sl true (L Ah ([]))]⟩:=tbk (by kernel_rfl)
theorem tb24(F):((B rs).env F).tab 24=some ⟨.struct #[⟨"Railway", 3,0,false,"","", 0⟩,⟨"No", 3,1,false,"","", 8⟩],2,16,[i64 0,i64 0]⟩:=tbk (by kernel_rfl)
theorem tb25(F):((B rs).env F).tab 25=some ⟨.slice 294,1,24,[.sl true (L Dr ([]))]⟩:=tbk (by kernel_rfl)
theorem tb27(F):((B rs).env F).tab 27=some ⟨.struct #[⟨"Kind", 3,0,false,"","", 0⟩,⟨"Ref", 24,1,false,"","", 8⟩,⟨"Wagon", 3,3,false,"","", 24⟩,⟨"Place", 3,4,false,"","", 32⟩,⟨"Other", 3,5,false,"","", 40⟩,⟨"Number", 3,6,false,"","", 48⟩,⟨"From", 3,7,false,"","", 56⟩,⟨"To", 3,8,false,"","", 64⟩,⟨"Code", 3,9,false,"","", 72⟩,⟨"Dest", 3,10,false,"","", 80⟩,⟨"Class", 3,11,false,"","", 88⟩,⟨"Weight", 3,12,false,"","", 96⟩,⟨"Amount", 3,13,false,"","", 104⟩,⟨"Text", 9,14,false,"","", 112⟩,⟨"Parts", 25,15,false,"","", 128⟩],16,152,[i64 0,i64 0,i64 0,i64 0,i64 0,i64 0,i64 0,i64 0,i64 0,i64 0,i64 0,i64 0,i64 0,i64 0,.str (([]:List UInt8)),.sl true (L Dr ([]))]⟩:=tbk (by kernel_rfl)
theorem AlT(F):((B rs).env F).tab 29=some ⟨.struct #[⟨"Ref", 24,0,false,"","", 0⟩,⟨"By", 24,2,false,"","", 16⟩,⟨"Time", 3,4,false,"","", 32⟩,⟨"Item", 27,5,false,"","", 40⟩],21,192,[i64 0,i64 0,i64 0,i64 0,i64 0,i64 0,i64 0,i64 0,i64 0,i64 0,i64 0,i64 0,i64 0,i64 0,i64 0,i64 0,i64 0,i64 0,i64 0,.str (([]:List UInt8)),.sl true (L Dr ([]))]⟩:=tbk (by kernel_rfl)
theorem Ah8(F):((B rs).env F).tab 32=some ⟨.slice 47,1,24,[.sl true (L Ab ([]))]⟩:=tbk (by kernel_rfl)
theorem tb34(F):((B rs).env F).tab 34=some ⟨.struct #[⟨"Name", 9,0,false,"","", 0⟩,⟨"For", 3,1,false,"","", 16⟩,⟨"Clauses", 32,2,false,"","", 24⟩],3,48,[.str (([]:List UInt8)),i64 0,.sl true (L Ab ([]))]⟩:=tbk (by kernel_rfl)
theorem tb35(F):((B rs).env F).tab 35=some ⟨.int .i64,1,8,[i64 0]⟩:=tbk (by kernel_rfl)
theorem AlQ(F):((B rs).env F).tab 40=some ⟨.slice 69,1,24,[.sl true (L Ae ([]))]⟩:=tbk (by kernel_rfl)
theorem Afs(F):((B rs).env F).tab 42=some ⟨.array 4 3,4,32,(C1 i64 ((Arr.rep 4 0)).l)⟩:=tbk (by kernel_rfl)
theorem AlS(F):((B rs).env F).tab 43=some ⟨.slice 45,1,24,[.sl true (L cApi_Expr ([]))]⟩:=tbk (by kernel_rfl)
theorem Anb(F):((B rs).env F).tab 45=some ⟨.struct #[⟨"Op", 3,0,false,"","", 0⟩,⟨"N", 3,1,false,"","", 8⟩,⟨"Unit", 42,2,false,"","", 16⟩,⟨"L", 43,6,false,"","", 48⟩],7,72,(i64 0::i64 0::(C1 i64 ((Arr.rep 4 0)).l++[.sl true (L cApi_Expr ([]))]))⟩:=tbk (by kernel_rfl)
theorem AlM(F):((B rs).env F).tab 47=some ⟨.struct #[⟨"Name", 9,0,false,"","", 0⟩,⟨"When", 40,1,false,"","", 16⟩,⟨"Pay", 45,2,false,"","", 40⟩],9,112,(.str (([]:List UInt8))::.sl true (L Ae ([]))::i64 0::i64 0::(C1 i64 ((Arr.rep 4 0)).l++[.sl true (L cApi_Expr ([]))]))⟩:=tbk (by kernel_rfl)
theorem tb50(F):((B rs).env F).tab 50=some ⟨.array 16 3,16,128,(C1 i64 ((Arr.rep 16 0)).l)⟩:=tbk (by kernel_rfl)
theorem tb52(F):((B rs).env F).tab 52=some ⟨.struct #[⟨"Has", 3,0,false,"","", 0⟩,⟨"V", 50,1,false,"","", 8⟩],17,136,(i64 0::C1 i64 ((Arr.rep 16 0)).l)⟩:=tbk (by kernel_rfl)
theorem Alj(F):((B rs).env F).tab 54=some ⟨.slice 172,1,24,[.sl true (L Ak ([]))]⟩:=tbk (by kernel_rfl)
theorem AlL(F):((B rs).env F).tab 69=some ⟨.struct #[⟨"Attr", 3,0,false,"","", 0⟩,⟨"Low", 3,1,false,"","", 8⟩,⟨"High", 3,2,false,"","", 16⟩],3,24,[i64 0,i64 0,i64 0]⟩:=tbk (by kernel_rfl)
theorem tb75(F):((B rs).env F).tab 75=some ⟨.pointer 78,1,8,[.val (.pointer none)]⟩:=tbk (by kernel_rfl)
theorem Ah0(F):((B rs).env F).tab 76=some ⟨.slice 9,1,24,[.sl true (L AU ([]))]⟩:=tbk (by kernel_rfl)
theorem tb78(F):((B rs).env F).tab 78=some ⟨.struct #[⟨"l", 76,0,false,"","wagonpool/tparse", 0⟩],1,24,[.sl true (L AU ([]))]⟩:=tbk (by kernel_rfl)
theorem tb92(F):((B rs).env F).tab 92=some ⟨.map 9 47,1,8,[.val (.map none)]⟩:=tbk (by kernel_rfl)
theorem tb96(F):((B rs).env F).tab 96=some ⟨.func #[] #[35] false,1,8,[.val .nilFunc]⟩:=tbk (by kernel_rfl)
theorem Aep(F):((B rs).env F).tab 100=some ⟨.slice 159,1,24,[.sl true (L Aa ([]))]⟩:=tbk (by kernel_rfl)
theorem Ahg(F):((B rs).env F).tab 104=some ⟨.struct #[⟨"at", 3,0,false,"","wagonpool/tparse", 0⟩,⟨"e", 35,1,false,"","wagonpool/tparse", 8⟩],2,16,[i64 0,i64 0]⟩:=tbk (by kernel_rfl)
theorem Ani(F):((B rs).env F).tab 106=some ⟨.pointer 108,1,8,[.val (.pointer none)]⟩:=tbk (by kernel_rfl)
theorem Amf(F):((B rs).env F).tab 108=some ⟨.struct #[⟨"l", 100,0,false,"","wagonpool/tparse", 0⟩,⟨"end", 3,1,false,"","wagonpool/tparse", 24⟩],2,32,[.sl true (L Aa ([])),i64 0]⟩:=tbk (by kernel_rfl)
theorem AmQ(F):((B rs).env F).tab 116=some ⟨.struct #[⟨"code", 54,0,false,"","wagonpool/tcode", 0⟩],1,24,[.sl true (L Ak ([]))]⟩:=tbk (by kernel_rfl)
theorem AjH(F):((B rs).env F).tab 120=some ⟨.map 9 4,1,8,[.val (.map none)]⟩:=tbk (by kernel_rfl)
theorem Alb(F):((B rs).env F).tab 123=some ⟨.array 256 5,256,256,(C1 u8 ((Arr.rep 256 (0:UInt8))).l)⟩:=tbk (by kernel_rfl)
theorem YW(F):((B rs).env F).tab 143=some ⟨.slice 3,1,24,[.sl true (L IF ([]))]⟩:=tbk (by kernel_rfl)
theorem Aia(F):((B rs).env F).tab 145=some ⟨.slice 96,1,24,[.sl true []]⟩:=tbk (by kernel_rfl)
theorem Alv(F):((B rs).env F).tab 146=some ⟨.map 3 201,1,8,[.val (.map none)]⟩:=tbk (by kernel_rfl)
theorem Ak1(F):((B rs).env F).tab 150=some ⟨.array 16 3,16,128,(C1 i64 ((Arr.rep 16 0)).l)⟩:=tbk (by kernel_rfl)
theorem AfM(F):((B rs).env F).tab 152=some ⟨.struct #[⟨"low", 150,0,false,"","wagonpool/tbox", 0⟩,⟨"high", 150,16,false,"","wagonpool/tbox", 128⟩],32,256,((C1 i64 ((Arr.rep 16 0)).l++C1 i64 ((Arr.rep 16 0)).l))⟩:=tbk (by kernel_rfl)
theorem Agl(F):((B rs).env F).tab 159=some ⟨.struct #[⟨"Kind", 3,0,false,"","", 0⟩,⟨"Text", 9,1,false,"","", 8⟩,⟨"N", 3,2,false,"","", 24⟩,⟨"At", 3,3,false,"","", 32⟩],4,40,[i64 0,.str (([]:List UInt8)),i64 0,i64 0]⟩:=tbk (by kernel_rfl)
theorem Anl(F):((B rs).env F).tab 170=some ⟨.pointer 116,1,8,[.val (.pointer none)]⟩:=tbk (by kernel_rfl)
theorem Abr(F):((B rs).env F).tab 172=some ⟨.struct #[⟨"Op", 3,0,false,"","", 0⟩,⟨"N", 3,1,false,"","", 8⟩,⟨"M", 3,2,false,"","", 16⟩],3,24,[i64 0,i64 0,i64 0]⟩:=tbk (by kernel_rfl)
theorem AeL(F):((B rs).env F).tab 198=some ⟨.slice 42,1,24,[.sl true (L (Ql i64 4) ([]))]⟩:=tbk (by kernel_rfl)
theorem Aou(F):((B rs).env F).tab 199=some ⟨.func #[198] #[42,4] false,1,8,[.val .nilFunc]⟩:=tbk (by kernel_rfl)
theorem AnI(F):((B rs).env F).tab 201=some ⟨.struct #[⟨"unit", 199,0,false,"","wagonpool/ttype", 0⟩],1,8,[.val .nilFunc]⟩:=tbk (by kernel_rfl)
theorem AiM(F):((B rs).env F).tab 203=some ⟨.array 16 42,64,512,((C1 i64 ((Arr.rep 4 0)).l++(C1 i64 ((Arr.rep 4 0)).l++(C1 i64 ((Arr.rep 4 0)).l++(C1 i64 ((Arr.rep 4 0)).l++(C1 i64 ((Arr.rep 4 0)).l++(C1 i64 ((Arr.rep 4 0)).l++(C1 i64 ((Arr.rep 4 0)).l++(C1 i64 ((Arr.rep 4 0)).l++(C1 i64 ((Arr.rep 4 0)).l++(C1 i64 ((Arr.rep 4 0)).l++(C1 i64 ((Arr.rep 4 0)).l++(C1 i64 ((Arr.rep 4 0)).l++(C1 i64 ((Arr.rep 4 0)).l++(C1 i64 ((Arr.rep 4 0)).l++(C1 i64 ((Arr.rep 4 0)).l++C1 i64 ((Arr.rep 4 0)).l))))))))))))))))⟩:=tbk (by kernel_rfl)
theorem AhO(F):((B rs).env F).tab 208=some ⟨.slice 152,1,24,[.sl true (L Es ([]))]⟩:=tbk (by kernel_rfl)
theorem AfY(F):((B rs).env F).tab 209=some ⟨.slice 4,1,24,[.sl true (L Mc ([]))]⟩:=tbk (by kernel_rfl)
theorem Al0(F):((B rs).env F).tab 214=some ⟨.map 5 9,1,8,[.val (.map none)]⟩:=tbk (by kernel_rfl)
theorem Ant(F):((B rs).env F).tab 220=some ⟨.int .u64,1,8,[u64 ((0:UInt64))]⟩:=tbk (by kernel_rfl)
theorem Aoa:Ob Tryz.prog 225=some ⟨.array 256 4,256,256,(C1 AV.bool ((Arr.rep 256 false)).l)⟩:=YL (by kernel_rfl) (by kernel_rfl)
theorem Aib(F:Out):((B rs).env F).tab 225=some ⟨.array 256 4,256,256,(C1 AV.bool ((Arr.rep 256 false)).l)⟩:=(OR Tryz.prog 225).trans Aoa
theorem Akh(F):((B rs).env F).tab 230=some ⟨.map 3 3,1,8,[.val (.map none)]⟩:=tbk (by kernel_rfl)
theorem AiF:AV.int .u64 0=u64 0:=rfl
theorem AfI:AV.int .u64 32=u64 32:=rfl
theorem Pc:AV.int .u64 4294967295=u64 4294967295:=rfl
theorem Kn:AV.int .u64 9007199254740992=u64 9007199254740992:=rfl
theorem Jj:AV.int .u64 9223372036854775807=u64 9223372036854775807:=rfl
theorem Aob:AV.int .u8 0=u8 0:=rfl
theorem Aoh:AV.int .u8 9=u8 9:=rfl
theorem AjB:AV.int .u8 10=u8 10:=rfl
theorem AiD:AV.int .u8 13=u8 13:=rfl
theorem Akb:AV.int .u8 32=u8 32:=rfl
theorem Alc:AV.int .u8 35=u8 35:=rfl
theorem Aiq:AV.int .u8 48=u8 48:=rfl
theorem AjT:AV.int .u8 57=u8 57:=rfl
theorem Ali:AV.int .u8 97=u8 97:=rfl
theorem Ahx:AV.int .u8 122=u8 122:=rfl
theorem Ag7:AV.int .u8 128=u8 128:=rfl
theorem AkF{F}(l:List UInt8)(x:AV):JH ((B rs).env F) 9 (.str l) x=match idx x l.length with
 |some i=>some (u8 (nth l i))
 |none=>none:=X7 (tb9 F) l x
theorem Am2{F}:(((B rs).env F).bty=some 159)=False:=AqH (fun h:(none:Option TypeId)=some 159=>by cases h)
theorem glb3{F}:((B rs).env F).G 3=some [.val (.map (some (rs 3)))]:=rfl
theorem lkm3{F}(k:UInt8):Ko ((B rs).env F) 214 (.val (.map (some (rs 3)))) (u8 k) false=some (.str (Jd ([]:List UInt8) tab3 k)):=Xa (cK:=fun k=>u8 k) (cV:=fun x=>.str x) (z:=([]:List UInt8)) (l:=tab3) rfl (fun k=>rfl) AiH k
theorem XL{F}{O:Ad}(s x:AV):Ba ((B rs).env F) O .append [100,100] [s,x]=match GS O x with
   | some new=>if GU x 4=true then none else if ∀cs∈new,cs.length=4 then(match s with
     | .sl full els=>
      if els=[]/\full=true then
       if FY new.length 40 then some (.bs false O.length new.length 0 new.length,O++[.buf 4 new false])else none
      else if new=[]then some (.sl full els,O)
      else if full=true/\(∀cs∈els,cs.length=4)/\FY (els.length+new.length) 40
      then some (.bs false O.length (els.length+new.length) 0 (els.length+new.length),O++[.buf 4 (els++new) false])else none
     | .bs full id tot off len=>match O[id]? with
      | some (.buf k els ro)=>
       if els.length=tot/\k=4/\FY (len+new.length) 40 then
        if off=0/\len=tot then some (.bs false id (tot+new.length) 0 (tot+new.length),O.set id (.buf k (els++new) ro))
        else if new=[]then some (.bs full id tot off len,O)
        else if full then some (.bs false O.length (len+new.length) 0 (len+new.length),O++[.buf k ((els.drop off).take len++new) false])
        else none
       else none
      |some (.tb T l)=>NH O id tot off len 40 4 159 T l new
      |_=>none
     |_=>none)
    else none
   |none=>none:=Gc (Aep F) (Agl F) (by decide) (Aep F) (.inl ⟨_,rfl⟩) s x []
theorem glb1{F}:((B rs).env F).G 1=some [.val (.map (some (rs 1)))]:=rfl
theorem lkm1{F}(k:List UInt8):Ko ((B rs).env F) 120 (.val (.map (some (rs 1)))) (.str k) false=some (.bool (Jd false tab1 k)):=Xa (cK:=fun k=>.str k) (cV:=fun x=>.bool x) (z:=false) (l:=tab1) rfl (fun k=>rfl) Agn k
theorem Am6{F}:(((B rs).env F).bty=some 152)=False:=AqH (fun h:(none:Option TypeId)=some 152=>by cases h)
theorem AfG{F}{O:Ad}(id off:Nat)(x:AV):Ao ((B rs).env F) O 150 (.ref id off) x=match idx x 16 with
 |some i=>some (.ref id (off+i*1))
 |none=>none:=VG (Ak1 F) (tb3 F) id off x
theorem nb52{F}:(((B rs).env F).bty=some 52)=False:=AqH (fun h:(none:Option TypeId)=some 52=>by cases h)
theorem Aic{F}{O:Ad}(f:Bool)(l:List AoK)(x:AV):Ao ((B rs).env F) O 40 (.sl f (L Ae l)) x=match idx x l.length with
 |some i=>some (.rp (Ae (nth l i)))
 |none=>none:=Le Ae (AlQ F) (AlL F) (fun _=>rfl) f l x
theorem nb69{F}:(((B rs).env F).bty=some 69)=False:=AqH (fun h:(none:Option TypeId)=some 69=>by cases h)
theorem Ah9{F}{O:Ad}(l c:Int):E5 ((B rs).env F) O 208 (i64 l) (i64 c)=if Mk l c 256 then some (.bs (l==c) O.length l.toNat 0 l.toNat,O++[.buf 32 (List.replicate l.toNat ((C1 i64 ((Arr.rep 16 0)).l++C1 i64 ((Arr.rep 16 0)).l))) false])else none:=RR (AhO F) (AfM F) (by decide) l c
theorem AiW{F}{O:Ad}(l c:Int):E5 ((B rs).env F) O 209 (i64 l) (i64 c)=if Mk l c 1 then some (.bs (l==c) O.length l.toNat 0 l.toNat,O++[.buf 1 (List.replicate l.toNat [.bool false]) false])else none:=RR (AfY F) (tb4 F) (by decide) l c
theorem Alt{F}{O:Ad}(f:Bool)(l:List AoN)(x:AV):Ao ((B rs).env F) O 32 (.sl f (L Ab l)) x=match idx x l.length with
 |some i=>some (.rp (Ab (nth l i)))
 |none=>none:=Le Ab (Ah8 F) (AlM F) (fun y=>by simp only[Ab,Apb,Ao5,DP,Apr]) f l x
theorem nb47{F}:(((B rs).env F).bty=some 47)=False:=AqH (fun h:(none:Option TypeId)=some 47=>by cases h)
theorem Ag5{F}{O:Ad}(f:Bool)(id tot off len:Nat)(x:AV):Ao ((B rs).env F) O 208 (.bs f id tot off len) x=match O[id]?,idx x len with
 |some (.buf k els _),some i=>if els.length=tot/\k=32 then some (.eref id tot (off+i) 0)else none
 |_,_=>none:=PG (AhO F) (AfM F) (by decide) f id tot off len x
theorem Ahn{F}{O:Ad}(f:Bool)(id tot off len:Nat)(x:AV):Ao ((B rs).env F) O 209 (.bs f id tot off len) x=match O[id]?,idx x len with
 |some (.buf k els _),some i=>if els.length=tot/\k=1 then some (.eref id tot (off+i) 0)else none
 |_,_=>none:=PG (AfY F) (tb4 F) (by decide) f id tot off len x
theorem AlD{F}{O:Ad}(f:Bool)(l:List AoM)(x:AV):Ao ((B rs).env F) O 43 (.sl f (L cApi_Expr l)) x=match idx x l.length with
 |some i=>some (.rp (cApi_Expr (nth l i)))
 |none=>none:=Le cApi_Expr (AlS F) (Anb F) (fun y=>by rw[ND];simp only[Apb,Ao5,DP,Apr]) f l x
theorem nb45{F}:(((B rs).env F).bty=some 45)=False:=AqH (fun h:(none:Option TypeId)=some 45=>by cases h)
theorem AfU{F}{O:Ad}(f:Bool)(l:List AoI)(x:AV):Ao ((B rs).env F) O 100 (.sl f (L Aa l)) x=match idx x l.length with
 |some i=>some (.rp (Aa (nth l i)))
 |none=>none:=Le Aa (Aep F) (Agl F) (fun _=>rfl) f l x
theorem Ajz{F}{O:Ad}(f:Bool)(id tot off len:Nat)(x:AV):Ao ((B rs).env F) O 32 (.bs f id tot off len) x=match O[id]?,idx x len with
 |some (.buf k els _),some i=>if els.length=tot/\k=9 then some (.eref id tot (off+i) 0)else none
 |_,_=>none:=PG (Ah8 F) (AlM F) (by decide) f id tot off len x
theorem Aci{F}{O:Ad}(f:Bool)(l:List (List UInt8))(x:AV):Ao ((B rs).env F) O 76 (.sl f (L AU l)) x=match idx x l.length with
 |some i=>some (.rp (AU (nth l i)))
 |none=>none:=Le AU (Ah0 F) (tb9 F) (fun _=>rfl) f l x
theorem AbR{F}{O:Ad}(x:AV):Ao ((B rs).env F) O 123 (.glob 0) x=match idx x 256 with
 |some i=>some (.rp ((C1 u8 glob0.l).drop i))
 |none=>none:=AdC (Alb F) (tb5 F) rfl x
theorem Ann{F}{O:Ad}(l c:Int):E5 ((B rs).env F) O 76 (i64 l) (i64 c)=if Mk l c 16 then some (.bs (l==c) O.length l.toNat 0 l.toNat,O++[.buf 1 (List.replicate l.toNat [.str (([]:List UInt8))]) false])else none:=RR (Ah0 F) (tb9 F) (by decide) l c
theorem AkC{F}{O:Ad}(f:Bool)(id tot off len:Nat)(x:AV):Ao ((B rs).env F) O 76 (.bs f id tot off len) x=match O[id]?,idx x len with
 |some (.buf k els _),some i=>if els.length=tot/\k=1 then some (.eref id tot (off+i) 0)else none
 |_,_=>none:=PG (Ah0 F) (tb9 F) (by decide) f id tot off len x
theorem nb42{F}:(((B rs).env F).bty=some 42)=False:=AqH (fun h:(none:Option TypeId)=some 42=>by cases h)
theorem Ak3{F}{O:Ad}(id off:Nat)(x:AV):Ao ((B rs).env F) O 42 (.ref id off) x=match idx x 4 with
 |some i=>some (.ref id (off+i*1))
 |none=>none:=VG (Afs F) (tb3 F) id off x
theorem Af9{F}{O:Ad}(f:Bool)(l:List Int)(x:AV):Ao ((B rs).env F) O 143 (.sl f (L IF l)) x=match idx x l.length with
 |some i=>some (.rp (IF (nth l i)))
 |none=>none:=Le IF (YW F) (tb3 F) (fun _=>rfl) f l x
theorem AeO{F}{O:Ad}(s x:AV):Ba ((B rs).env F) O .append [43,43] [s,x]=match GS O x with
   | some new=>if GU x 7=true then none else if ∀cs∈new,cs.length=7 then(match s with
     | .sl full els=>
      if els=[]/\full=true then
       if FY new.length 72 then some (.bs false O.length new.length 0 new.length,O++[.buf 7 new false])else none
      else if new=[]then some (.sl full els,O)
      else if full=true/\(∀cs∈els,cs.length=7)/\FY (els.length+new.length) 72
      then some (.bs false O.length (els.length+new.length) 0 (els.length+new.length),O++[.buf 7 (els++new) false])else none
     | .bs full id tot off len=>match O[id]? with
      | some (.buf k els ro)=>
       if els.length=tot/\k=7/\FY (len+new.length) 72 then
        if off=0/\len=tot then some (.bs false id (tot+new.length) 0 (tot+new.length),O.set id (.buf k (els++new) ro))
        else if new=[]then some (.bs full id tot off len,O)
        else if full then some (.bs false O.length (len+new.length) 0 (len+new.length),O++[.buf k ((els.drop off).take len++new) false])
        else none
       else none
      |some (.tb T l)=>NH O id tot off len 72 7 45 T l new
      |_=>none
     |_=>none)
    else none
   |none=>none:=Gc (AlS F) (Anb F) (by decide) (AlS F) (.inl ⟨_,rfl⟩) s x []
theorem Aef{F}{O:Ad}(s x:AV):Ba ((B rs).env F) O .append [40,40] [s,x]=match GS O x with
   | some new=>if GU x 3=true then none else if ∀cs∈new,cs.length=3 then(match s with
     | .sl full els=>
      if els=[]/\full=true then
       if FY new.length 24 then some (.bs false O.length new.length 0 new.length,O++[.buf 3 new false])else none
      else if new=[]then some (.sl full els,O)
      else if full=true/\(∀cs∈els,cs.length=3)/\FY (els.length+new.length) 24
      then some (.bs false O.length (els.length+new.length) 0 (els.length+new.length),O++[.buf 3 (els++new) false])else none
     | .bs full id tot off len=>match O[id]? with
      | some (.buf k els ro)=>
       if els.length=tot/\k=3/\FY (len+new.length) 24 then
        if off=0/\len=tot then some (.bs false id (tot+new.length) 0 (tot+new.length),O.set id (.buf k (els++new) ro))
        else if new=[]then some (.bs full id tot off len,O)
        else if full then some (.bs false O.length (len+new.length) 0 (len+new.length),O++[.buf k ((els.drop off).take len++new) false])
        else none
       else none
      |some (.tb T l)=>NH O id tot off len 24 3 69 T l new
      |_=>none
     |_=>none)
    else none
   |none=>none:=Gc (AlQ F) (AlL F) (by decide) (AlQ F) (.inl ⟨_,rfl⟩) s x []
theorem nb34{F}:(((B rs).env F).bty=some 34)=False:=AqH (fun h:(none:Option TypeId)=some 34=>by cases h)
theorem nb3{F}:(((B rs).env F).bty=some 3)=False:=AqH (fun h:(none:Option TypeId)=some 3=>by cases h)
theorem nb35{F}:(((B rs).env F).bty=some 35)=False:=AqH (fun h:(none:Option TypeId)=some 35=>by cases h)
theorem Aei{F}{O:Ad}(s x:AV):Ba ((B rs).env F) O .append [32,32] [s,x]=match GS O x with
   | some new=>if GU x 9=true then none else if ∀cs∈new,cs.length=9 then(match s with
     | .sl full els=>
      if els=[]/\full=true then
       if FY new.length 112 then some (.bs false O.length new.length 0 new.length,O++[.buf 9 new false])else none
      else if new=[]then some (.sl full els,O)
      else if full=true/\(∀cs∈els,cs.length=9)/\FY (els.length+new.length) 112
      then some (.bs false O.length (els.length+new.length) 0 (els.length+new.length),O++[.buf 9 (els++new) false])else none
     | .bs full id tot off len=>match O[id]? with
      | some (.buf k els ro)=>
       if els.length=tot/\k=9/\FY (len+new.length) 112 then
        if off=0/\len=tot then some (.bs false id (tot+new.length) 0 (tot+new.length),O.set id (.buf k (els++new) ro))
        else if new=[]then some (.bs full id tot off len,O)
        else if full then some (.bs false O.length (len+new.length) 0 (len+new.length),O++[.buf k ((els.drop off).take len++new) false])
        else none
       else none
      |some (.tb T l)=>NH O id tot off len 112 9 47 T l new
      |_=>none
     |_=>none)
    else none
   |none=>none:=Gc (Ah8 F) (AlM F) (by decide) (Ah8 F) (.inl ⟨_,rfl⟩) s x []
theorem Am7{F}:(((B rs).env F).bty=some 172)=False:=AqH (fun h:(none:Option TypeId)=some 172=>by cases h)
theorem Aaw{F}(a0:Int)(a1:Int)(a2:Int)(b0:Int)(b1:Int)(b2:Int):BD ((B rs).env F) .eql 172 (.agg [i64 a0,i64 a1,i64 a2]) (.agg [i64 b0,i64 b1,i64 b2])=some (.bool (((a0==b0)&&((a1==b1)&&(a2==b2))))) :=
 Qc (Abr F) (by kernel_rfl) (by kernel_rfl) (M9 (by decide) (tb3 F) rfl rfl (MV a0 b0) (M9 (by decide) (tb3 F) rfl rfl (MV a1 b1) (Xr (by decide) (tb3 F) rfl rfl (MV a2 b2))))
theorem AkD{F}{O:Ad}(f:Bool)(l:List AoU)(x:AV):Ao ((B rs).env F) O 54 (.sl f (L Ak l)) x=match idx x l.length with
 |some i=>some (.rp (Ak (nth l i)))
 |none=>none:=Le Ak (Alj F) (Abr F) (fun _=>rfl) f l x
theorem AiC{F}{O:Ad}(l c:Int):E5 ((B rs).env F) O 143 (i64 l) (i64 c)=if Mk l c 8 then some (.bs (l==c) O.length l.toNat 0 l.toNat,O++[.buf 1 (List.replicate l.toNat [i64 0]) false])else none:=RR (YW F) (tb3 F) (by decide) l c
theorem AnS{F}:(((B rs).env F).bty=some 225)=False:=AqH (fun h:(none:Option TypeId)=some 225=>by cases h)
theorem AgF{F}(id off:Nat)(x:AV){O:Ad}:Ao ((B rs).env F) O 225 (.ref id off) x=match idx x 256 with
 |some i=>some (.ref id (off+i*1))
 |none=>none:=VG (Aib F) (tb4 F) id off x
theorem AkP{F}:((B rs).env F).mp 230=some (i64 0):=rfl
theorem R7{F}:HB ((B rs).env F) 230=some (.int .i64):=Ot (Akh F) (tb3 F)
theorem Ag1{F}:OZ ((B rs).env F) 230=false:=by unfold OZ;rw[R7]
theorem AcM:mp0 230=MI Qu no2:=Afo
theorem Ag9(a0:Int){m:Rb}{k:Int}:K3 (MI Qu m) (.int k) (some (i64 a0))=MI Qu (up2 m k (some a0)):=W5 (c:=Qu) a0
theorem Adz{F}{m:Rb}(k:Int):JF ((B rs).env F) 230 false (MI Qu m) (i64 k) false=some (i64 (((m k).getD (0:Int)))):=Q2 (c:=Qu) (z:=(0:Int)) R7 AkP rfl false
theorem Aih{F}{O:Ad}{id:Nat}{k:Int}{x:AV}:LM ((B rs).env F) O 230 (.mref id) (i64 k) x=(match O[id]? with
 |some (.mp st f)=>if x.closed=true/\false=st then some (O.set id (.mp st (K3 f (.int k) (some x))))else none
 |_=>none):=WZ R7
theorem Amw{F}(cs:List AV)(x:AV):JH ((B rs).env F) 42 (.agg cs) x=match idx x 4 with
 |some i=>partA (⟨.int .i64,1,8,[i64 0]⟩:TD) cs (i*1)
 |none=>none:=Q7 (Afs F) (tb3 F) cs x
theorem Ahy{F}{op:BinOp}(a b:Arr Int 4):BD ((B rs).env F) op 42 (.agg (C1 i64 a.l)) (.agg (C1 i64 b.l))=match op with
 |.eql=>some (.bool (a==b))
 |.neq=>some (.bool (!(a==b)))
 |_=>none:=Wt (Afs F) (tb3 F) a b
theorem AdY{F}{op:BinOp}(a:Arr Int 4):BD ((B rs).env F) op 42 (.agg (C1 i64 a.l)) (.agg [i64 0,i64 0,i64 0,i64 0])=match op with
 |.eql=>some (.bool (a==(⟨[0,0,0,0],rfl⟩:Arr Int 4)))
 |.neq=>some (.bool (!(a==(⟨[0,0,0,0],rfl⟩:Arr Int 4))))
 |_=>none:=Ahy a (⟨[0,0,0,0],rfl⟩:Arr Int 4)
theorem Ajf{F}:((B rs).env F).mp 120=some (.bool false):=rfl
theorem RH{F}:HB ((B rs).env F) 120=some .string:=Ot (AjH F) (tb9 F)
theorem AhM{F}:OZ ((B rs).env F) 120=true:=by unfold OZ;rw[RH]
theorem Aey:mp0 120=MS KW no2:=Afk
theorem AfN(a0:Bool){m:Nj}{k:List UInt8}:K3 (MS KW m) (.str k) (some (.bool a0))=MS KW (up2 m k (some a0)):=Afa (c:=KW) a0
theorem AeA{F}{m:Nj}(k:List UInt8):JF ((B rs).env F) 120 true (MS KW m) (.str k) false=some (.bool (((m k).getD false))):=Q8 (c:=KW) (z:=false) RH Ajf rfl false
theorem Air{F}{O:Ad}{id:Nat}{k:List UInt8}{x:AV}:LM ((B rs).env F) O 120 (.mref id) (.str k) x=(match O[id]? with
 |some (.mp st f)=>if x.closed=true/\true=st then some (O.set id (.mp st (K3 f (.str k) (some x))))else none
 |_=>none):=Xe RH
theorem Adh{F}(a0:Int)(a1:Int)(a2:Int)(b0:Int)(b1:Int)(b2:Int):BD ((B rs).env F) .neq 69 (.agg [i64 a0,i64 a1,i64 a2]) (.agg [i64 b0,i64 b1,i64 b2])=some (.bool (!((a0==b0)&&((a1==b1)&&(a2==b2))))) :=
 Qb (AlL F) (by kernel_rfl) (by kernel_rfl) (M9 (by decide) (tb3 F) rfl rfl (MV a0 b0) (M9 (by decide) (tb3 F) rfl rfl (MV a1 b1) (Xr (by decide) (tb3 F) rfl rfl (MV a2 b2))))
theorem AfZ{F}{O:Ad}(f:Bool)(l:List (Arr Int 4))(x:AV):Ao ((B rs).env F) O 198 (.sl f (L (Ql i64 4) l)) x=match idx x l.length with
 |some i=>some (.rp ((Ql i64 4) (nth l i)))
 |none=>none:=Le (Ql i64 4) (AeL F) (Afs F) (fun y=>DP (a:=y)) f l x
theorem AjC{F}{O:Ad}(cs:List AV)(x:AV):Ao ((B rs).env F) O 42 (.rp cs) x=match idx x 4 with
 |some i=>some (.rp (cs.drop i))
 |none=>none:=Aky (Afs F) (tb3 F) rfl cs x
theorem Al6{F}:(((B rs).env F).bty=some 201)=False:=AqH (fun h:(none:Option TypeId)=some 201=>by cases h)
theorem AiT{F}:((B rs).env F).mp 146=some (.junk):=rfl
theorem Se{F}:HB ((B rs).env F) 146=some (.int .i64):=Ot (Alv F) (tb3 F)
theorem AfQ{F}:OZ ((B rs).env F) 146=false:=by unfold OZ;rw[Se]
theorem Ac6:mp0 146=MI Ek no2:=Afo
theorem UJ{m:JD}{k:Int}:K3 (MI Ek m) (.int k) (some (.agg [.fn 119 []]))=MI Ek (up2 m k (some ⟨119,0⟩)):=W5 (c:=Ek) ⟨119,0⟩
theorem UF{m:JD}{k:Int}:K3 (MI Ek m) (.int k) (some (.agg [.fn 120 []]))=MI Ek (up2 m k (some ⟨120,0⟩)):=W5 (c:=Ek) ⟨120,0⟩
theorem VX{m:JD}{k:Int}(n:Int):K3 (MI Ek m) (.int k) (some (.agg [.fn 165 [.rp [i64 n]]]))=MI Ek (up2 m k (some ⟨165,n⟩)):=W5 (c:=Ek) ⟨165,n⟩
theorem Ac3{F}{m:JD}(k:Int):JF ((B rs).env F) 146 false (MI Ek m) (i64 k) false=some (Ek (((m k).getD (⟨0,0⟩:AoX)))):=Q2 (c:=Ek) (z:=(⟨0,0⟩:AoX)) Se AiT rfl false
theorem Ald{F}{O:Ad}{id:Nat}{k:Int}{x:AV}:LM ((B rs).env F) O 146 (.mref id) (i64 k) x=(match O[id]? with
 |some (.mp st f)=>if x.closed=true/\false=st then some (O.set id (.mp st (K3 f (.int k) (some x))))else none
 |_=>none):=WZ Se
theorem Am1{F}:(((B rs).env F).bty=some 203)=False:=AqH (fun h:(none:Option TypeId)=some 203=>by cases h)
theorem AgK{F}(a0 a1 a2 a3 a4 a5 a6 a7 a8 a9 a10 a11 a12 a13 a14 a15:Arr Int 4)(x:AV):JH ((B rs).env F) 203 (.agg ((C1 i64 a0.l++(C1 i64 a1.l++(C1 i64 a2.l++(C1 i64 a3.l++(C1 i64 a4.l++(C1 i64 a5.l++(C1 i64 a6.l++(C1 i64 a7.l++(C1 i64 a8.l++(C1 i64 a9.l++(C1 i64 a10.l++(C1 i64 a11.l++(C1 i64 a12.l++(C1 i64 a13.l++(C1 i64 a14.l++C1 i64 a15.l))))))))))))))))) x=match idx x 16 with
 |some i=>some (.agg (C1 i64 (nth [a0,a1,a2,a3,a4,a5,a6,a7,a8,a9,a10,a11,a12,a13,a14,a15] i).l))
 |none=>none:=by
 have h:=VT (E:=(B rs).env F) (AiM F) (Afs F) rfl [a0,a1,a2,a3,a4,a5,a6,a7,a8,a9,a10,a11,a12,a13,a14,a15] rfl x;simp only[ApE,Aqk,Aq4,List.flatten_nil,Ap3]at h;exact h
theorem YT{F}{O:Ad}(s x:AV):Ba ((B rs).env F) O .append [198,198] [s,x]=match GS O x with
   | some new=>if GU x 4=true then none else if ∀cs∈new,cs.length=4 then(match s with
     | .sl full els=>
      if els=[]/\full=true then
       if FY new.length 32 then some (.bs false O.length new.length 0 new.length,O++[.buf 4 new false])else none
      else if new=[]then some (.sl full els,O)
      else if full=true/\(∀cs∈els,cs.length=4)/\FY (els.length+new.length) 32
      then some (.bs false O.length (els.length+new.length) 0 (els.length+new.length),O++[.buf 4 (els++new) false])else none
     | .bs full id tot off len=>match O[id]? with
      | some (.buf k els ro)=>
       if els.length=tot/\k=4/\FY (len+new.length) 32 then
        if off=0/\len=tot then some (.bs false id (tot+new.length) 0 (tot+new.length),O.set id (.buf k (els++new) ro))
        else if new=[]then some (.bs full id tot off len,O)
        else if full then some (.bs false O.length (len+new.length) 0 (len+new.length),O++[.buf k ((els.drop off).take len++new) false])
        else none
       else none
      |some (.tb T l)=>NH O id tot off len 32 4 42 T l new
      |_=>none
     |_=>none)
    else none
   |none=>none:=Gc (AeL F) (Afs F) (by decide) (AeL F) (.inl ⟨_,rfl⟩) s x []
theorem Ad8{F}{op:BinOp}(a:Arr Int 4):BD ((B rs).env F) op 42 (.agg (C1 i64 a.l)) (.agg [i64 1,i64 0,i64 0,i64 0])=match op with
 |.eql=>some (.bool (a==(⟨[1,0,0,0],rfl⟩:Arr Int 4)))
 |.neq=>some (.bool (!(a==(⟨[1,0,0,0],rfl⟩:Arr Int 4))))
 |_=>none:=Ahy a (⟨[1,0,0,0],rfl⟩:Arr Int 4)
theorem AjF{F}{O:Ad}(f:Bool)(id tot off len:Nat)(x:AV):Ao ((B rs).env F) O 22 (.bs f id tot off len) x=match O[id]?,idx x len with
 |some (.buf k els _),some i=>if els.length=tot/\k=21 then some (.eref id tot (off+i) 0)else none
 |_,_=>none:=PG (AkQ F) (AlT F) (by decide) f id tot off len x
theorem Alk(a0:Int)(a1:Int)(a2:Int)(a3:Int)(a4:Int)(a5:Int)(a6:Int)(a7:Int)(a8:Int)(a9:Int)(a10:Int)(a11:Int)(a12:Int)(a13:Int)(a14:Int)(a15:Int)(a16:Int)(a17:Int)(a18:Int)(a19:List UInt8)(a20:List AoR){l:List AoT}{j i:Nat}(h:i<l.length):((L Ah l).set j [i64 a0,i64 a1,i64 a2,i64 a3,i64 a4,i64 a5,i64 a6,i64 a7,i64 a8,i64 a9,i64 a10,i64 a11,i64 a12,i64 a13,i64 a14,i64 a15,i64 a16,i64 a17,i64 a18,.str a19,.sl false (L Dr a20)])[i]?=some (Ah (nth (l.set j (({ Ref:=({ Zg:=a0,No:=a1 }:AoQ),By:=({ Zg:=a2,No:=a3 }:AoQ),Zt:=a4,Zu:=({ Za:=a5,Ref:=({ Zg:=a6,No:=a7 }:AoQ),Zj:=a8,Zk:=a9,Zl:=a10,Zm:=a11,Zn:=a12,To:=a13,Code:=a14,Zo:=a15,Zp:=a16,Zq:=a17,Zr:=a18,Zb:=a19,Zs:=a20 }:AoS) }:AoT))) i)):=AdQ (c:=Ah) (y:=({ Ref:=({ Zg:=a0,No:=a1 }:AoQ),By:=({ Zg:=a2,No:=a3 }:AoQ),Zt:=a4,Zu:=({ Za:=a5,Ref:=({ Zg:=a6,No:=a7 }:AoQ),Zj:=a8,Zk:=a9,Zl:=a10,Zm:=a11,Zn:=a12,To:=a13,Code:=a14,Zo:=a15,Zp:=a16,Zq:=a17,Zr:=a18,Zb:=a19,Zs:=a20 }:AoS) }:AoT)) h
theorem Ajo{F}{O:Ad}(f:Bool)(l:List AoT)(x:AV):Ao ((B rs).env F) O 22 (.sl f (L Ah l)) x=match idx x l.length with
 |some i=>some (.rp (Ah (nth l i)))
 |none=>none:=Le Ah (AkQ F) (AlT F) (fun _=>rfl) f l x
theorem nb29{F}:(((B rs).env F).bty=some 29)=False:=AqH (fun h:(none:Option TypeId)=some 29=>by cases h)
theorem Adu{F}{O:Ad}(s x:AV):Ba ((B rs).env F) O .append [22,22] [s,x]=match GS O x with
   | some new=>if GU x 21=true then none else if ∀cs∈new,cs.length=21 then(match s with
     | .sl full els=>
      if els=[]/\full=true then
       if FY new.length 192 then some (.bs false O.length new.length 0 new.length,O++[.buf 21 new false])else none
      else if new=[]then some (.sl full els,O)
      else if full=true/\(∀cs∈els,cs.length=21)/\FY (els.length+new.length) 192
      then some (.bs false O.length (els.length+new.length) 0 (els.length+new.length),O++[.buf 21 (els++new) false])else none
     | .bs full id tot off len=>match O[id]? with
      | some (.buf k els ro)=>
       if els.length=tot/\k=21/\FY (len+new.length) 192 then
        if off=0/\len=tot then some (.bs false id (tot+new.length) 0 (tot+new.length),O.set id (.buf k (els++new) ro))
        else if new=[]then some (.bs full id tot off len,O)
        else if full then some (.bs false O.length (len+new.length) 0 (len+new.length),O++[.buf k ((els.drop off).take len++new) false])
        else none
       else none
      |some (.tb T l)=>NH O id tot off len 192 21 29 T l new
      |_=>none
     |_=>none)
    else none
   |none=>none:=Gc (AkQ F) (AlT F) (by decide) (AkQ F) (.inl ⟨_,rfl⟩) s x []
theorem AdR{F}{O:Ad}(s x:AV):Ba ((B rs).env F) O .append [76,76] [s,x]=match GS O x with
   | some new=>if GU x 1=true then none else if ∀cs∈new,cs.length=1 then(match s with
     | .sl full els=>
      if els=[]/\full=true then
       if FY new.length 16 then some (.bs false O.length new.length 0 new.length,O++[.buf 1 new false])else none
      else if new=[]then some (.sl full els,O)
      else if full=true/\(∀cs∈els,cs.length=1)/\FY (els.length+new.length) 16
      then some (.bs false O.length (els.length+new.length) 0 (els.length+new.length),O++[.buf 1 (els++new) false])else none
     | .bs full id tot off len=>match O[id]? with
      | some (.buf k els ro)=>
       if els.length=tot/\k=1/\FY (len+new.length) 16 then
        if off=0/\len=tot then some (.bs false id (tot+new.length) 0 (tot+new.length),O.set id (.buf k (els++new) ro))
        else if new=[]then some (.bs full id tot off len,O)
        else if full then some (.bs false O.length (len+new.length) 0 (len+new.length),O++[.buf k ((els.drop off).take len++new) false])
        else none
       else none
      |some (.tb T l)=>NH O id tot off len 16 1 9 T l new
      |_=>none
     |_=>none)
    else none
   |none=>none:=Gc (Ah0 F) (tb9 F) (by decide) (Ah0 F) (.inl ⟨_,rfl⟩) s x []
theorem Akv(a:Arr Int 4):List.take 4 (List.map (fun c=>[c]) (C1 i64 a.l))=L IF a.l:=YN a
theorem AbF{F}{O:Ad}(f:Bool)(a0 a1 a2:List UInt8)(x:AV):Ao ((B rs).env F) O 76 (.sl f [[.str a0],[.str a1],[.str a2]]) x=match idx x 3 with
 |some i=>some (.rp [.str (nth [a0,a1,a2] i)])
 |none=>none:=Aci f [a0,a1,a2] x
theorem AbI{F}{O:Ad}(f:Bool)(a0 a1:List UInt8)(x:AV):Ao ((B rs).env F) O 76 (.sl f [[.str a0],[.str a1]]) x=match idx x 2 with
 |some i=>some (.rp [.str (nth [a0,a1] i)])
 |none=>none:=Aci f [a0,a1] x
theorem AkE{F}{O:Ad}(f:Bool)(id tot off len:Nat)(x:AV):Ao ((B rs).env F) O 54 (.bs f id tot off len) x=match O[id]?,idx x len with
 |some (.buf k els _),some i=>if els.length=tot/\k=3 then some (.eref id tot (off+i) 0)else none
 |_,_=>none:=PG (Alj F) (Abr F) (by decide) f id tot off len x
theorem Aeq{F}{O:Ad}(s x:AV):Ba ((B rs).env F) O .append [54,54] [s,x]=match GS O x with
   | some new=>if GU x 3=true then none else if ∀cs∈new,cs.length=3 then(match s with
     | .sl full els=>
      if els=[]/\full=true then
       if FY new.length 24 then some (.bs false O.length new.length 0 new.length,O++[.buf 3 new false])else none
      else if new=[]then some (.sl full els,O)
      else if full=true/\(∀cs∈els,cs.length=3)/\FY (els.length+new.length) 24
      then some (.bs false O.length (els.length+new.length) 0 (els.length+new.length),O++[.buf 3 (els++new) false])else none
     | .bs full id tot off len=>match O[id]? with
      | some (.buf k els ro)=>
       if els.length=tot/\k=3/\FY (len+new.length) 24 then
        if off=0/\len=tot then some (.bs false id (tot+new.length) 0 (tot+new.length),O.set id (.buf k (els++new) ro))
        else if new=[]then some (.bs full id tot off len,O)
        else if full then some (.bs false O.length (len+new.length) 0 (len+new.length),O++[.buf k ((els.drop off).take len++new) false])
        else none
       else none
      |some (.tb T l)=>NH O id tot off len 24 3 172 T l new
      |_=>none
     |_=>none)
    else none
   |none=>none:=Gc (Alj F) (Abr F) (by decide) (Alj F) (.inl ⟨_,rfl⟩) s x []
theorem AhN{F}{O:Ad}(f:Bool)(id tot off len:Nat)(x:AV):Ao ((B rs).env F) O 143 (.bs f id tot off len) x=match O[id]?,idx x len with
 |some (.buf k els _),some i=>if els.length=tot/\k=1 then some (.eref id tot (off+i) 0)else none
 |_,_=>none:=PG (YW F) (tb3 F) (by decide) f id tot off len x
theorem Yt{F}{O:Ad}(s x:AV):Ba ((B rs).env F) O .append [143,143] [s,x]=match GS O x with
   | some new=>if GU x 1=true then none else if ∀cs∈new,cs.length=1 then(match s with
     | .sl full els=>
      if els=[]/\full=true then
       if FY new.length 8 then some (.bs false O.length new.length 0 new.length,O++[.buf 1 new false])else none
      else if new=[]then some (.sl full els,O)
      else if full=true/\(∀cs∈els,cs.length=1)/\FY (els.length+new.length) 8
      then some (.bs false O.length (els.length+new.length) 0 (els.length+new.length),O++[.buf 1 (els++new) false])else none
     | .bs full id tot off len=>match O[id]? with
      | some (.buf k els ro)=>
       if els.length=tot/\k=1/\FY (len+new.length) 8 then
        if off=0/\len=tot then some (.bs false id (tot+new.length) 0 (tot+new.length),O.set id (.buf k (els++new) ro))
        else if new=[]then some (.bs full id tot off len,O)
        else if full then some (.bs false O.length (len+new.length) 0 (len+new.length),O++[.buf k ((els.drop off).take len++new) false])
        else none
       else none
      |some (.tb T l)=>NH O id tot off len 8 1 3 T l new
      |_=>none
     |_=>none)
    else none
   |none=>none:=Gc (YW F) (tb3 F) (by decide) (YW F) (.inl ⟨_,rfl⟩) s x []
theorem AnH{F}:(((B rs).env F).bty=some 116)=False:=AqH (fun h:(none:Option TypeId)=some 116=>by cases h)
theorem AaB{F}{O:Ad}(f:Bool)(a0 a1 a2 a3 x:AV):Ao ((B rs).env F) O 145 (.sl f [[a0],[a1],[a2],[a3]]) x=match idx x 4 with
 |some i=>some (.rp [nth [a0,a1,a2,a3] i])
 |none=>none:=Le (fun y=>[y]) (Aia F) (tb96 F) (fun _=>rfl) f [a0,a1,a2,a3] x
theorem mz92{F}:((B rs).env F).mp 92=some (.agg (.str (([]:List UInt8))::.sl false (L Ae ([]))::i64 0::i64 0::(C1 i64 ((Arr.rep 4 0)).l++[.sl false (L cApi_Expr ([]))]))):=rfl
theorem Ti{F}:HB ((B rs).env F) 92=some .string:=Ot (tb92 F) (tb9 F)
theorem Akf{F}:OZ ((B rs).env F) 92=true:=by unfold OZ;rw[Ti]
theorem AhQ:mp0 92=MS SE no2:=Afk
theorem Ai6(a0:List UInt8)(a1:List AoK)(a2:Int)(a3:Int)(a4:Arr Int 4)(a5:List AoM){m:RA}{k:List UInt8}:K3 (MS SE m) (.str k) (some (.agg (.str a0::.sl false (L Ae a1)::i64 a2::i64 a3::(C1 i64 a4.l++[.sl false (L cApi_Expr a5)]))))=MS SE (up2 m k (some (({ Zd:=a0,Ze:=a1,Pay:=(AoM.mk a2 a3 a4 a5) }:AoN)))):=Afa (c:=SE) (({ Zd:=a0,Ze:=a1,Pay:=(AoM.mk a2 a3 a4 a5) }:AoN))
theorem Aeo{F}{m:RA}(k:List UInt8):JF ((B rs).env F) 92 true (MS SE m) (.str k) true=some (.tup [.agg (.str ((((m k).getD R1)).Zd)::.sl false (L Ae ((((m k).getD R1)).Ze))::i64 (((((m k).getD R1)).Pay).Op)::i64 (((((m k).getD R1)).Pay).N)::(C1 i64 (((((m k).getD R1)).Pay).Unit).l++[.sl false (L cApi_Expr (((((m k).getD R1)).Pay).L))])),.bool ((m k).isSome)]):=Q8 (c:=SE) (z:=R1) Ti mz92 rfl true
theorem AnX{F}{O:Ad}{id:Nat}{k:List UInt8}{x:AV}:LM ((B rs).env F) O 92 (.mref id) (.str k) x=(match O[id]? with
 |some (.mp st f)=>if x.closed=true/\true=st then some (O.set id (.mp st (K3 f (.str k) (some x))))else none
 |_=>none):=Xe Ti
theorem Aml{F}{O:Ad}{id:Nat}{k:List UInt8}:OP ((B rs).env F) O 92 (.mref id) (.str k)=(match O[id]? with
 |some (.mp st f)=>if true=st then some (O.set id (.mp st (K3 f (.str k) none)))else none
 |_=>none):=AbE Ti
theorem K7{v:AoX}(h:v.k=119):Ek v=.agg [.fn 119 []]:=by unfold Ek;simp[h]
theorem KI{v:AoX}(h:v.k=120):Ek v=.agg [.fn 120 []]:=by unfold Ek;simp[h]
theorem KA{v:AoX}(h:v.k=165):Ek v=.agg [.fn 165 [.rp [i64 v.n]]]:=by unfold Ek;simp[h]
attribute [go_sem] Aa Es Ae AeX VZ YD RP XR ND Ab Af Qq WN Dr Tt Ah Ak OK P1 own3 own5 own6 own7 own8 own9 Aoy Ano Aoc Aow An8 Aoi AnA AnE Amh Al9 Amx Ama Amv AmH Anr An9 Anq Aol Amg Ans Amu Aox Ams Ank Aoo Aon An4 An7 Al2 AmM Am5 Al7 Am0 Aot AnV Al8 AnR Anv Al4 Anc AnL Amc AmG AmY Amy Al5 AoC Anw AmL Aom AnD Anu AnB Aog Amp AmD Aof AnC Aod AoA Amk AnP AmC AmZ AmT Amd Al3 AlW Amr Aoe Amz Anx Am9 AmV Aos Anh Ang Ana AnU AoG An0 Aik Akd Ajj AlB Akm Ajr AkG Ais Ai0 Alz AlH AlG Aj8 Alf AjY AkL AiG Aip Ajt Aii AlJ Aiv AlE AjO AjU AkA AkZ Ait AkY Aif AiQ Aju AiS Aln Ai9 Aig Ak8 Akg Als AlA Alu Aj7 Ah7 AjX AkI Alr Ajx Ak2 AlF AkX Aki Aj0 Aka Alo Ajn AkO Ai2 Ajl Akx tb3 tb4 tb5 tb9 AkQ tb24 tb25 tb27 AlT Ah8 tb34 tb35 AlQ Afs AlS Anb AlM tb50 tb52 Alj AlL tb75 Ah0 tb78 tb92 tb96 Aep Ahg Ani Amf AmQ AjH Alb YW Aia Alv Ak1 AfM Agl Anl Abr AeL Aou AnI AiM AhO AfY Al0 Ant Aib Akh AiF AfI Pc Kn Jj Aob Aoh AjB AiD Akb Alc Aiq AjT Ali Ahx Ag7 AkF Am2 glb3 lkm3 XL glb1 lkm1 Am6 AfG nb52 Aic nb69 Ah9 AiW Alt nb47 Ag5 Ahn AlD nb45 AfU Ajz Aci AbR Ann AkC nb42 Ak3 Af9 AeO Aef nb34 nb3 nb35 Aei Am7 Aaw AkD AiC AnS AgF AkP R7 Ag1 AcM Ag9 Adz Aih Amw Ahy AdY Ajf RH AhM Aey AfN AeA Air Adh AfZ AjC Al6 AiT Se AfQ Ac6 UJ UF VX Ac3 Ald Am1 AgK YT Ad8 AjF Alk Ajo nb29 Adu AdR Akv AbF AbI AkE Aeq AhN Yt AnH AaB mz92 Ti Akf AhQ Ai6 Aeo AnX Aml
def G5(a:UInt8):Option (Bool) :=(if(decide ((97:UInt8)<=a))then some (decide (a<=(122:UInt8))) else some false:Option (Bool)).bind fun b=>some b
def GG(a:UInt8):Option (Bool) :=(if(decide ((48:UInt8)<=a))then some (decide (a<=(57:UInt8))) else some false:Option (Bool)).bind fun b=>some b
def Dj(b:List UInt8)(c:UInt8->Option (Bool))(a:Int):Option ((Int)⊕((Unit)⊕((Unit)⊕(Int)))) :=if (decide (a<(b.length:Int)))then if InR a b.length then (c (nth b a.toNat)).bind fun d=>if(!d)then ((some a).bind fun e=>some (.inr e)).bind fun f=>some (.inr (.inr f)) else some (.inl (w64 (a+1))) else none else some (.inr (.inl ()))
def IW(a:List UInt8)(b:UInt8->Option (Bool)):Option (Int) :=((Be (fun(v:Int)=>Dj a b v) 0).bind fun x=>match x with
 |.inl ()=>some (.inl ())
 |.inr z=>some z:Option ((Unit)⊕(Int))).bind fun x=>match x with
 |.inl ()=>some (a.length:Int)
 |.inr z=>some z
def Hb(a:UInt8):Option (Bool) :=((G5 a).bind fun b=>if b then some true else (GG a).bind fun c=>some c:Option (Bool)).bind fun d=>some d
def Cc(b:List UInt8)(c:Int)(a:Int):Option ((Int×Int)⊕((Int)⊕((Int)⊕(Int×Int)))) :=if (decide (a<(b.length:Int)))then if InR a b.length then lt1 (w64 ((w64 (10*c))+(((nth b a.toNat)-(48:UInt8)).toNat:Int))) fun(d:Int)=>if(decide (d>1099511627776))then ((some (0,2)).bind fun e=>some (.inr e)).bind fun f=>some (.inr (.inr f)) else some (.inl (d,(w64 (a+1)))) else none else some (.inr (.inl c))
def HD(a:List UInt8):Option (Int×Int) :=(if(decide ((a.length:Int)>1))then if InR 0 a.length then some ((nth a 0)==(48:UInt8)) else none else some false:Option (Bool)).bind fun b=>if b then some (0,150) else ((Be (fun(v:Int×Int)=>Cc a v.1 v.2) (0,0)).bind fun x=>match x with
  |.inl c=>some (.inl c)
  |.inr z=>some z:Option ((Int)⊕(Int×Int))).bind fun x=>match x with
  |.inl d=>some (d,0)
  |.inr z=>some z
def DE(b:List UInt8)(a:List UInt8):Option (Bool) :=(if(decide ((b.length:Int)≥(a.length:Int)))then if InB (a.length:Int) b.length then some ((b.take ((a.length:Int).toNat))==a) else none else some false:Option (Bool)).bind fun c=>some c
def Dm(a:List UInt8)(b:List UInt8):Option (Bool) :=(DE a b).bind fun c=>some c
def Ej(l:List UInt8)(c:UInt8):Option (Int):=VE l c
def DG(a:List UInt8)(b:UInt8):Option (Int) :=(Ej a b).bind fun c=>some c
def Dl(a:List UInt8)(b:UInt8):Option (Int) :=(DG a b).bind fun c=>some c
def H3(a:List UInt8):Option (AoI×Int) :=if InR 0 a.length then (G5 (nth a 0)).bind fun e=>if e then (IW a Hb).bind fun b=>if InB b a.length then if(decide (((a.take b.toNat).length:Int)>32))then some (({ Za:=0,Zb:=([]:List UInt8),N:=0,At:=0 }:AoI),2) else some (({ Za:=1,Zb:=(a.take b.toNat),N:=0,At:=0 }:AoI),0) else none else (GG (nth a 0)).bind fun f=>if f then (IW a GG).bind fun c=>if InB c a.length then (HD (a.take c.toNat)).bind fun d=>some (({ Za:=2,Zb:=(a.take c.toNat),N:=d.1,At:=0 }:AoI),d.2) else none else if InR 0 a.length then (if(!((Jd ([]:List UInt8) tab3 (nth a 0))==([]:List UInt8)))then (Dm a (Jd ([]:List UInt8) tab3 (nth a 0))).bind fun g=>some g else some false:Option (Bool)).bind fun i=>if i then lt1 (Jd ([]:List UInt8) tab3 (nth a 0)) fun(j:List UInt8)=>some (({ Za:=3,Zb:=j,N:=0,At:=0 }:AoI),0) else some (({ Za:=0,Zb:=([]:List UInt8),N:=0,At:=0 }:AoI),150) else none else none
def Bj(b:List UInt8)(a:Int)(c:List AoI):Option ((Int×List AoI)⊕((List AoI)⊕((List AoI)⊕(List AoI×Int×Int)))) :=if (decide (a<(b.length:Int)))then if InR a b.length then (if((nth b a.toNat)==(32:UInt8))then some ((nth b a.toNat)==(32:UInt8)) else if((nth b a.toNat)==(9:UInt8))then some ((nth b a.toNat)==(9:UInt8)) else if((nth b a.toNat)==(13:UInt8))then some ((nth b a.toNat)==(13:UInt8)) else some ((nth b a.toNat)==(10:UInt8)):Option (Bool)).bind fun f=>if f then some (.inl ((w64 (a+1)),c)) else if ((nth b a.toNat)==(35:UInt8))then if InB a b.length then (Dl ((b.drop a.toNat).take (b.length-a.toNat)) (10:UInt8)).bind fun e=>if(decide (e<0))then some (.inr (.inl c)) else lt1 (w64 (a+(w64 (e+1)))) fun(g:Int)=>some (.inl (g,c)) else none else if InB a b.length then (H3 ((b.drop a.toNat).take (b.length-a.toNat))).bind fun d=>if(d.2 != 0)then ((some ([],a,d.2)).bind fun i=>some (.inr i)).bind fun j=>some (.inr (.inr j)) else if FY (c.length+1) 40 then lt1 (c++([({ Za:=d.1.Za,Zb:=d.1.Zb,N:=d.1.N,At:=a }:AoI)]:List AoI)) fun(k:List AoI)=>lt1 (w64 (a+(d.1.Zb.length:Int))) fun(l:Int)=>some (.inl (l,k)) else none else none else none else some (.inr (.inl c))
def EB(a:List UInt8):Option (List AoI×Int×Int) :=if(decide ((a.length:Int)>2000))then some ([],0,2) else ((Be (fun(v:Int×List AoI)=>Bj a v.1 v.2) (0,[])).bind fun x=>match x with
  |.inl b=>some (.inl b)
  |.inr z=>some z:Option ((List AoI)⊕(List AoI×Int×Int))).bind fun x=>match x with
  |.inl c=>some (c,0,0)
  |.inr z=>some z
def El(a:List UInt8):Option (Bool) :=some (Jd false tab1 a)
def Lm(a:Int)(b:Arr Int 16):Option ((Int×Arr Int 16)⊕(Arr Int 16)) :=if(decide (a<16))then if InR a 16 then lt1 (b.set a.toNat 9007199254740992) fun(c:Arr Int 16)=>some (.inl ((w64 (a+1)),c)) else none else some (.inr b)
def tbox_all  : Option (AoJ) :=((Be (fun(v:Int×Arr Int 16)=>Lm v.1 v.2) (0,(Arr.rep 16 0))).bind fun a=>some a:Option (Arr Int 16)).bind fun b=>some ({ low:=(Arr.rep 16 0),high:=b }:AoJ)
def GQ(b:AoJ)(a:AoK):Option (AoJ) :=if InR a.Attr 16 then if InR a.Attr 16 then lt1 (b.low.set a.Attr.toNat (Qe (b.low.get a.Attr.toNat) a.Low)) fun(c:Arr Int 16)=>if InR a.Attr 16 then if InR a.Attr 16 then lt1 (b.high.set a.Attr.toNat (Qm (b.high.get a.Attr.toNat) a.Zc)) fun(d:Arr Int 16)=>some ({ low:=c,high:=d }:AoJ) else none else none else none else none
def FH(d : AoJ)(e:Bool)(a:Int)(b:Arr Int 16)(c:Arr Int 16):Option ((Bool×Int×Arr Int 16×Arr Int 16)⊕(Bool×Arr Int 16×Arr Int 16)) :=if (decide (a<16))then if InR a 16 then if InR a 16 then if InR a 16 then lt1 (b.set a.toNat (Qe (b.get a.toNat) (d.low.get a.toNat))) fun(f:Arr Int 16)=>if InR a 16 then if InR a 16 then if InR a 16 then lt1 (c.set a.toNat (Qm (c.get a.toNat) (d.high.get a.toNat))) fun(g:Arr Int 16)=>(if e then if InR a 16 then if InR a 16 then some (decide ((f.get a.toNat)<=(g.get a.toNat))) else none else none else some false:Option (Bool)).bind fun i=>some (.inl (i,(w64 (a+1)),f,g)) else none else none else none else none else none else none else some (.inr (e,b,c))
def Fi(a:AoJ)(b:AoJ):Option (AoJ×Bool) :=((Be (fun(v:Bool×Int×Arr Int 16×Arr Int 16)=>FH b v.1 v.2.1 v.2.2.1 v.2.2.2) (true,0,a.low,a.high)).bind fun(c,d,e)=>some (c,d,e):Option (Bool×Arr Int 16×Arr Int 16)).bind fun(f,g,i)=>some (({ low:=g,high:=i }:AoJ),f)
def Rq(a:Arr Int 16):Option (AoL) :=some ({ Has:=65535,V:=a }:AoL)
def K0(b:AoN)(a:Int)(d:Arr Int 16)(e:Arr Int 16):Option ((Int×Arr Int 16×Arr Int 16)⊕((Arr Int 16×Arr Int 16)⊕((Arr Int 16×Arr Int 16)⊕(AoJ×Bool)))) :=if (decide (a<(b.Ze.length:Int)))then if InR a b.Ze.length then lt1 ((nth b.Ze a.toNat).Attr) fun(c:Int)=>lt1 ((nth b.Ze a.toNat).Low) fun(g:Int)=>lt1 ((nth b.Ze a.toNat).Zc) fun(i:Int)=>(if(decide (c<0))then some true else some (decide (c≥16)):Option (Bool)).bind fun j=>if j then ((some (({ low:=(Arr.rep 16 0),high:=(Arr.rep 16 0) }:AoJ),false)).bind fun k=>some (.inr k)).bind fun l=>some (.inr (.inr l)) else (GQ ({ low:=d,high:=e }:AoJ) ({ Attr:=c,Low:=g,Zc:=i }:AoK)).bind fun f=>some (.inl ((w64 (a+1)),f.low,f.high)) else none else some (.inr (.inl (d,e)))
def HP(e:AoN):Option (AoJ×Bool) :=tbox_all.bind fun a=>((Be (fun(v:Int×Arr Int 16×Arr Int 16)=>K0 e v.1 v.2.1 v.2.2) (0,a.low,a.high)).bind fun x=>match x with
 |.inl (f,g)=>some (.inl (f,g))
 |.inr z=>some z:Option ((Arr Int 16×Arr Int 16)⊕(AoJ×Bool))).bind fun x=>match x with
 | .inl (b,c)=>(Fi ({ low:=b,high:=c }:AoJ) ({ low:=b,high:=c }:AoJ)).bind fun d=>if d.2=true then some (d.1,true) else some (({ low:=(Arr.rep 16 0),high:=(Arr.rep 16 0) }:AoJ),false)
 |.inr z=>some z
def ET(b:AoO)(a:Int)(c:List AoJ)(d:List Bool):Option ((Int×List AoJ×List Bool)⊕(List AoJ×List Bool)) :=if (decide (a<(b.Zf.length:Int)))then if InR a b.Zf.length then lt1 ((nth b.Zf a.toNat).Zd) fun(f:List UInt8)=>lt1 ((nth b.Zf a.toNat).Ze) fun(g:List AoK)=>lt1 (((nth b.Zf a.toNat).Pay).Op) fun(i:Int)=>lt1 (((nth b.Zf a.toNat).Pay).N) fun(j:Int)=>lt1 (((nth b.Zf a.toNat).Pay).Unit) fun(k:Arr Int 4)=>lt1 (((nth b.Zf a.toNat).Pay).L) fun(l:List AoM)=>(HP ({ Zd:=f,Ze:=g,Pay:=(AoM.mk i j k l) }:AoN)).bind fun e=>if InR a c.length then if InR a d.length then lt1 (c.set a.toNat e.1) fun(m:List AoJ)=>lt1 (d.set a.toNat e.2) fun(n:List Bool)=>some (.inl ((w64 (a+1)),m,n)) else none else none else none else some (.inr (c,d))
def EA(b:List AoJ)(d:List Bool)(c:Int)(a:Int):Option ((Int)⊕((Unit)⊕((Unit)⊕((Int)⊕((Unit)⊕((Unit)⊕(Int×Int×AoL×Bool))))))) :=if (decide (a<(b.length:Int)))then if InR c b.length then if InR a b.length then (Fi (nth b c.toNat) (nth b a.toNat)).bind fun e=>(if e.2=true then if InR c d.length then if nth d c.toNat=true then if InR a d.length then some (nth d a.toNat) else none else some false else none else some false:Option (Bool)).bind fun f=>if f then (Rq e.1.low).bind fun g=>((((some (c,a,g,true)).bind fun i=>some (.inr i)).bind fun j=>some (.inr (.inr j))).bind fun k=>some (.inr k)).bind fun l=>some (.inr (.inr l)) else some (.inl (w64 (a+1))) else none else none else some (.inr (.inl ()))
def Gg(b:List AoJ)(c:List Bool)(a:Int):Option ((Int)⊕((Unit)⊕((Unit)⊕(Int×Int×AoL×Bool)))) :=if(decide (a<(b.length:Int)))then ((Be (fun(v:Int)=>EA b c a v) (w64 (a+1))).bind fun x=>match x with
  |.inl ()=>some (.inl ())
  |.inr z=>some z:Option ((Unit)⊕((Int)⊕((Unit)⊕((Unit)⊕(Int×Int×AoL×Bool)))))).bind fun x=>match x with
  |.inl ()=>some (.inl (w64 (a+1)))
  |.inr z=>some z else some (.inr (.inl ()))
def GT(a:AoO):Option (Int×Int×AoL×Bool) :=if Mk (a.Zf.length:Int) (a.Zf.length:Int) 256 then lt1 (List.replicate ((a.Zf.length:Int).toNat) ({ low:=(Arr.rep 16 0),high:=(Arr.rep 16 0) }:AoJ)) fun(b:List AoJ)=>if Mk (a.Zf.length:Int) (a.Zf.length:Int) 1 then lt1 (List.replicate ((a.Zf.length:Int).toNat) false) fun(c:List Bool)=>((Be (fun(v:Int×List AoJ×List Bool)=>ET a v.1 v.2.1 v.2.2) (0,b,c)).bind fun(d,e)=>some (d,e):Option (List AoJ×List Bool)).bind fun(f,g)=>((Be (fun(v:Int)=>Gg f g v) 0).bind fun x=>match x with
   |.inl ()=>some (.inl ())
   |.inr z=>some z:Option ((Unit)⊕(Int×Int×AoL×Bool))).bind fun x=>match x with
   |.inl ()=>some (0,0,({ Has:=0,V:=(Arr.rep 16 0) }:AoL),false)
   |.inr z=>some z else none else none
def Hy(b:AoO)(a:Int):Option ((Int)⊕((Unit)⊕((Unit)⊕(Int)))) :=if (decide (a<(b.Zf.length:Int)))then if InR a b.Zf.length then lt1 ((nth b.Zf a.toNat).Zd) fun(c:List UInt8)=>lt1 ((nth b.Zf a.toNat).Ze) fun(d:List AoK)=>lt1 (((nth b.Zf a.toNat).Pay).Op) fun(e:Int)=>lt1 (((nth b.Zf a.toNat).Pay).N) fun(f:Int)=>lt1 (((nth b.Zf a.toNat).Pay).Unit) fun(g:Arr Int 4)=>lt1 (((nth b.Zf a.toNat).Pay).L) fun(i:List AoM)=>(HP ({ Zd:=c,Ze:=d,Pay:=(AoM.mk e f g i) }:AoN)).bind fun j=>if(!j.2)then ((some 190).bind fun k=>some (.inr k)).bind fun l=>some (.inr (.inr l)) else some (.inl (w64 (a+1))) else none else some (.inr (.inl ()))
def E4(a:AoO):Option (Int) :=((Be (fun(v:Int)=>Hy a v) 0).bind fun x=>match x with
 |.inl ()=>some (.inl ())
 |.inr z=>some z:Option ((Unit)⊕(Int))).bind fun x=>match x with
 | .inl ()=>(GT a).bind fun b=>if b.2.2.2=true then some 190 else some 0
 |.inr z=>some z
def EX(b:AoM)(rec_:AoM->Option (Int))(c:Int)(a:Int):Option ((Int×Int)⊕(Int)) :=if(decide (a<(b.L.length:Int)))then if InR a b.L.length then lt1 ((nth b.L a.toNat).Op) fun(d:Int)=>lt1 ((nth b.L a.toNat).N) fun(e:Int)=>lt1 ((nth b.L a.toNat).Unit) fun(f:Arr Int 4)=>lt1 ((nth b.L a.toNat).L) fun(g:List AoM)=>(rec_ (AoM.mk d e f g)).bind fun i=>some (.inl ((Qe c i),(w64 (a+1)))) else none else some (.inr c)
def E1(rec_:AoM->Option (Int))(a:AoM):Option (Int) :=((Be (fun(v:Int×Int)=>EX a rec_ v.1 v.2) (0,0)).bind fun b=>some b:Option (Int)).bind fun c=>some (w64 (c+1))
def Ey(n:Nat):AoM->Option (Int):=match n with
 |0=>fun _=>none
 |n+1=>E1 (Ey n)
def DO(a:AoM):Option (Int):=Ey 18446744073709551616 a
def Bk(a:AoP):Option (Int×AoP) :=if(decide ((a.l.length:Int)>0))then if InR 0 a.l.length then some ((nth a.l 0).At,a) else none else some (a.end_,a)
def BI(a:AoP)(b:Int):Option (AoI×Bool×AoP) :=(if((a.l.length:Int)==0)then some true else if InR 0 a.l.length then some ((nth a.l 0).Za != b) else none:Option (Bool)).bind fun c=>if c then some (({ Za:=0,Zb:=([]:List UInt8),N:=0,At:=0 }:AoI),false,a) else if InR 0 a.l.length then some (nth a.l 0,true,a) else none
def Av(a:AoP)(b:List UInt8):Option (Bool×AoP) :=(if((a.l.length:Int)==0)then some true else if InR 0 a.l.length then if((nth a.l 0).Za==2)then some true else if InR 0 a.l.length then some (!(((nth a.l 0).Zb)==b)) else none else none:Option (Bool)).bind fun c=>if c then some (false,a) else if InB 1 a.l.length then lt1 ((a.l.drop 1).take (a.l.length-1)) fun(d:List AoI)=>some (true,({ l:=d,end_:=a.end_ }:AoP)) else none
def Dy(b:AoN)(a:AoN):Option (Bool×AoN) :=some ((b.Zd==a.Zd),({ Zd:=a.Zd,Ze:=[],Pay:=(AoM.mk a.Pay.Op a.Pay.N a.Pay.Unit ([])) }:AoN))
def BV(c:List AoN)(b:Int)(d:List UInt8)(e:Int)(f:Int)(g:Arr Int 4):Option ((Int×List UInt8×Int×Int×Arr Int 4)⊕((List UInt8×Int×Int×Arr Int 4)⊕((List UInt8×Int×Int×Arr Int 4)⊕(Int×AoN)))) :=if (decide (b<(c.length:Int)))then if InR b c.length then (Dy (nth c b.toNat) ({ Zd:=d,Ze:=[],Pay:=(AoM.mk e f g ([])) }:AoN)).bind fun a=>if a.1=true then ((some (b,({ Zd:=a.2.Zd,Ze:=[],Pay:=(AoM.mk a.2.Pay.Op a.2.Pay.N a.2.Pay.Unit ([])) }:AoN))).bind fun i=>some (.inr i)).bind fun j=>some (.inr (.inr j)) else some (.inl ((w64 (b+1)),a.2.Zd,a.2.Pay.Op,a.2.Pay.N,a.2.Pay.Unit)) else none else some (.inr (.inl (d,e,f,g)))
def C0(b:List AoN)(a:AoN):Option (Int×AoN) :=((Be (fun(v:Int×List UInt8×Int×Int×Arr Int 4)=>BV b v.1 v.2.1 v.2.2.1 v.2.2.2.1 v.2.2.2.2) (0,a.Zd,a.Pay.Op,a.Pay.N,a.Pay.Unit)).bind fun x=>match x with
 |.inl (c,d,e,f)=>some (.inl (c,d,e,f))
 |.inr z=>some z:Option ((List UInt8×Int×Int×Arr Int 4)⊕(Int×AoN))).bind fun x=>match x with
 |.inl (g,i,j,k)=>some ((-1),({ Zd:=g,Ze:=[],Pay:=(AoM.mk i j k ([])) }:AoN))
 |.inr z=>some z
def Bz(c:List AoN)(b:AoN):Option (Bool×AoN) :=(C0 c ({ Zd:=b.Zd,Ze:=[],Pay:=(AoM.mk b.Pay.Op b.Pay.N b.Pay.Unit ([])) }:AoN)).bind fun a=>some ((decide (a.1≥0)),({ Zd:=a.2.Zd,Ze:=[],Pay:=(AoM.mk a.2.Pay.Op a.2.Pay.N a.2.Pay.Unit ([])) }:AoN))
noncomputable def J0(r:AoP⊕(Int×Int×AoP)):Outc:=match r with
 |.inl r=>.ret (.tup []) [.box [.sl false (L Aa r.l),i64 r.end_] false]
 |.inr r=>.pan (.iface 104 (.agg #[.int .i64 r.1,.int .i64 r.2.1])) [.box [.sl false (L Aa r.2.2.l),i64 r.2.2.end_] false]
def Bs(b:AoP):Option (AoP⊕(Int×Int×AoP)) :=(Bk b).bind fun a=>some (.inr (a.1,160,a.2))
noncomputable def II(r:AoP⊕(Int×Int×AoP)):Outc:=match r with
 |.inl r=>.ret (.tup []) [.box [.sl false (L Aa r.l),i64 r.end_] false]
 |.inr r=>.pan (.iface 104 (.agg #[.int .i64 r.1,.int .i64 r.2.1])) [.box [.sl false (L Aa r.2.2.l),i64 r.2.2.end_] false]
def Ax(c:AoP)(d:List UInt8):Option (AoP⊕(Int×Int×AoP)) :=(Av c d).bind fun a=>if(!a.1)then (Bs a.2).bind fun e=>match e with
  |.inl f=>some (.inl f)
  |.inr b=>some (.inr (b.1,b.2.1,b.2.2)) else some (.inl a.2)
noncomputable def I0(r:(Int×AoP)⊕(Int×Int×AoP)):Outc:=match r with
 |.inl r=>.ret (i64 r.1) [.box [.sl false (L Aa r.2.l),i64 r.2.end_] false]
 |.inr r=>.pan (.iface 104 (.agg #[.int .i64 r.1,.int .i64 r.2.1])) [.box [.sl false (L Aa r.2.2.l),i64 r.2.2.end_] false]
def Bl(e:AoP):Option ((Int×AoP)⊕(Int×Int×AoP)) :=(BI e 2).bind fun a=>(if(!a.2.1)then (Bs a.2.2).bind fun f=>match f with
  |.inl d=>some (.inl (d.l,d.end_))
  |.inr b=>(some (.inr (b.1,b.2.1,b.2.2))).bind fun g=>some (.inr g) else some (.inl (a.2.2.l,a.2.2.end_)):Option ((List AoI×Int)⊕((Int×AoP)⊕(Int×Int×AoP)))).bind fun x=>match x with
 | .inl (c,i)=>if InB 1 c.length then lt1 ((c.drop 1).take (c.length-1)) fun(j:List AoI)=>some (.inl (a.1.N,({ l:=j,end_:=i }:AoP))) else none
 |.inr z=>some z
noncomputable def JJ(r:(List UInt8×AoP)⊕(Int×Int×AoP)):Outc:=match r with
 |.inl r=>.ret (.str r.1) [.box [.sl false (L Aa r.2.l),i64 r.2.end_] false]
 |.inr r=>.pan (.iface 104 (.agg #[.int .i64 r.1,.int .i64 r.2.1])) [.box [.sl false (L Aa r.2.2.l),i64 r.2.2.end_] false]
def CN(f:AoP):Option ((List UInt8×AoP)⊕(Int×Int×AoP)) :=(BI f 1).bind fun a=>(if(!a.2.1)then (Bs a.2.2).bind fun g=>match g with
  |.inl d=>some (.inl (d.l,d.end_))
  |.inr c=>(some (.inr (c.1,c.2.1,c.2.2))).bind fun i=>some (.inr i) else some (.inl (a.2.2.l,a.2.2.end_)):Option ((List AoI×Int)⊕((List UInt8×AoP)⊕(Int×Int×AoP)))).bind fun x=>match x with
 | .inl (b,e)=>(El a.1.Zb).bind fun j=>if j then some (.inr (a.1.At,161,({ l:=b,end_:=e }:AoP))) else if InB 1 b.length then lt1 ((b.drop 1).take (b.length-1)) fun(k:List AoI)=>some (.inl (a.1.Zb,({ l:=k,end_:=e }:AoP))) else none
 |.inr z=>some z
def Ep(b:List (List UInt8))(c:List UInt8)(a:Int):Option ((Int)⊕((Unit)⊕((Unit)⊕(Int)))) :=if (decide (a<(b.length:Int)))then if InR a b.length then if(c==(nth b a.toNat))then ((some a).bind fun d=>some (.inr d)).bind fun e=>some (.inr (.inr e)) else some (.inl (w64 (a+1))) else none else some (.inr (.inl ()))
def D6(a:List (List UInt8))(b:List UInt8):Option (Int) :=((Be (fun(v:Int)=>Ep a b v) 0).bind fun x=>match x with
 |.inl ()=>some (.inl ())
 |.inr z=>some z:Option ((Unit)⊕(Int))).bind fun x=>match x with
 |.inl ()=>some (-1)
 |.inr z=>some z
def G7(b:List UInt8)(c:Int)(f:Int)(d:UInt8)(a:Int):Option ((Int×Int×UInt8×Int)⊕(Int×UInt8)) :=if (decide (a<(b.length:Int)))then if InR a b.length then lt1 (d ||| (nth b a.toNat)) fun(g:UInt8)=>if InR ((nth b a.toNat).toNat:Int) 256 then lt1 ((glob0.get ((nth b a.toNat).toNat)).toNat:Int) fun(e:Int)=>lt1 (w64 (c+(AjM f (AhC (-1) e)))) fun(i:Int)=>some (.inl (i,e,g,(w64 (a+1)))) else none else none else some (.inr (c,d))
def GL(b:List UInt8)(a:Int):Option ((Int)⊕(Int)) :=(if(decide (a<(b.length:Int)))then if InR a b.length then if InR ((nth b a.toNat).toNat:Int) 256 then some ((glob0.get ((nth b a.toNat).toNat)) != (0:UInt8)) else none else none else some false:Option (Bool)).bind fun c=>if c then some (.inl (w64 (a+1))) else some (.inr a)
def GD(b:List UInt8)(a:Int):Option ((Int)⊕(Int)) :=(if(decide (a<(b.length:Int)))then if InR a b.length then if InR ((nth b a.toNat).toNat:Int) 256 then some ((glob0.get ((nth b a.toNat).toNat)) != (0:UInt8)) else none else none else some false:Option (Bool)).bind fun c=>if c then some (.inl (w64 (a+1))) else some (.inr a)
def GE(b:List UInt8)(c:Int)(d:Int)(a:Int)(e:List (List UInt8)):Option ((Int×Int×Int×List (List UInt8))⊕(Int×Int×List (List UInt8))) :=if (decide (a<(b.length:Int)))then if InR a b.length then if InR ((nth b a.toNat).toNat:Int) 256 then lt1 ((glob0.get ((nth b a.toNat).toNat))==(0:UInt8)) fun(g:Bool)=>if g then some (.inl (c,d,(w64 (a+1)),e)) else if InB a b.length then if InB d a.toNat then if InR c e.length then lt1 (e.set c.toNat ((b.drop d.toNat).take (a.toNat-d.toNat))) fun(i:List (List UInt8))=>((Be (fun(v:Int)=>GD b v) (w64 (a+1))).bind fun j=>some j:Option (Int)).bind fun f=>some (.inl ((w64 (c+1)),f,f,i)) else none else none else none else none else none else some (.inr (c,d,e))
def Bi(a:List UInt8):Option (List (List UInt8)) :=((Be (fun(v:Int×Int×UInt8×Int)=>G7 a v.1 v.2.1 v.2.2.1 v.2.2.2) (0,1,(0:UInt8),0)).bind fun(g,i)=>some (g,i):Option (Int×UInt8)).bind fun(c,j)=>if(decide (j≥(128:UInt8)))then none else if Mk c c 16 then lt1 (List.replicate c.toNat ([]:List UInt8)) fun(k:List (List UInt8))=>((Be (fun(v:Int)=>GL a v) 0).bind fun l=>some l:Option (Int)).bind fun e=>((Be (fun(v:Int×Int×Int×List (List UInt8))=>GE a v.1 v.2.1 v.2.2.1 v.2.2.2) (0,e,e,k)).bind fun(m,n,o)=>some (m,n,o):Option (Int×Int×List (List UInt8))).bind fun(f,b,d)=>(if(decide (b<(a.length:Int)))then if InB b a.length then if InR f d.length then lt1 (d.set f.toNat ((a.drop b.toNat).take (a.length-b.toNat))) fun(p:List (List UInt8))=>some p else none else none else some d:Option (List (List UInt8))).bind fun q=>some q else none
def BF(c:AoP)(d:List UInt8):Option (Int×Bool×AoP) :=(BI c 1).bind fun a=>(Bi d).bind fun e=>(D6 e a.1.Zb).bind fun b=>(if(!a.2.1)then some true else some (decide (b<0)):Option (Bool)).bind fun f=>if f then some (0,false,a.2.2) else if InB 1 a.2.2.l.length then lt1 ((a.2.2.l.drop 1).take (a.2.2.l.length-1)) fun(g:List AoI)=>some (b,true,({ l:=g,end_:=a.2.2.end_ }:AoP)) else none
noncomputable def JI(r:(Int×AoP)⊕(Int×Int×AoP)):Outc:=match r with
 |.inl r=>.ret (i64 r.1) [.box [.sl false (L Aa r.2.l),i64 r.2.end_] false]
 |.inr r=>.pan (.iface 104 (.agg #[.int .i64 r.1,.int .i64 r.2.1])) [.box [.sl false (L Aa r.2.2.l),i64 r.2.2.end_] false]
def BG(d:AoP)(e:List UInt8):Option ((Int×AoP)⊕(Int×Int×AoP)) :=(BF d e).bind fun a=>(if(!a.2.1)then (Bs a.2.2).bind fun f=>match f with
  |.inl c=>some (.inl (c.l,c.end_))
  |.inr b=>(some (.inr (b.1,b.2.1,b.2.2))).bind fun g=>some (.inr g) else some (.inl (a.2.2.l,a.2.2.end_)):Option ((List AoI×Int)⊕((Int×AoP)⊕(Int×Int×AoP)))).bind fun x=>match x with
 |.inl (i,j)=>some (.inl (a.1,({ l:=i,end_:=j }:AoP)))
 |.inr z=>some z
noncomputable def JK(r:(Arr Int 4×AoP)⊕(Int×Int×AoP)):Outc:=match r with
 |.inl r=>.ret (.agg (C1 i64 r.1.l)) [.box [.sl false (L Aa r.2.l),i64 r.2.end_] false]
 |.inr r=>.pan (.iface 104 (.agg #[.int .i64 r.1,.int .i64 r.2.1])) [.box [.sl false (L Aa r.2.2.l),i64 r.2.2.end_] false]
def DB(f:AoP):Option ((Arr Int 4×AoP)⊕(Int×Int×AoP)) :=((BF f ([109,111,110,101,121,32,109,105,110,117,116,101,32,107,109,32,107,103]:List UInt8)).bind fun a=>if a.2.1=true then if InR a.1 4 then if InR a.1 4 then lt1 ((Arr.rep 4 0).set a.1.toNat (w64 (((Arr.rep 4 0).get a.1.toNat)+1))) fun(g:Arr Int 4)=>some (a.2.2.l,a.2.2.end_,g) else none else none else some (a.2.2.l,a.2.2.end_,(Arr.rep 4 0)):Option (List AoI×Int×Arr Int 4)).bind fun(i,j,d)=>((Av ({ l:=i,end_:=j }:AoP) ([112,101,114]:List UInt8)).bind fun c=>if c.1=true then (BG c.2 ([109,111,110,101,121,32,109,105,110,117,116,101,32,107,109,32,107,103]:List UInt8)).bind fun k=>match k with
  | .inl b=>if InR b.1 4 then if InR b.1 4 then lt1 (d.set b.1.toNat (w64 ((d.get b.1.toNat)-1))) fun(m:Arr Int 4)=>some (.inl (b.2.l,b.2.end_,m)) else none else none
  |.inr e=>(some (.inr (e.1,e.2.1,e.2.2))).bind fun n=>some (.inr n) else some (.inl (c.2.l,c.2.end_,d)):Option ((List AoI×Int×Arr Int 4)⊕((Arr Int 4×AoP)⊕(Int×Int×AoP)))).bind fun x=>match x with
 |.inl (o,p,q)=>some (.inl (q,({ l:=o,end_:=p }:AoP)))
 |.inr z=>some z
noncomputable def JM(r:(AoK×AoP)⊕(Int×Int×AoP)):Outc:=match r with
 |.inl r=>.ret (.agg [i64 r.1.Attr,i64 r.1.Low,i64 r.1.Zc]) [.box [.sl false (L Aa r.2.l),i64 r.2.end_] false]
 |.inr r=>.pan (.iface 104 (.agg #[.int .i64 r.1,.int .i64 r.2.1])) [.box [.sl false (L Aa r.2.2.l),i64 r.2.2.end_] false]
def D7(n:AoP)(o:Int):Option ((AoK×AoP)⊕(Int×Int×AoP)) :=(Bk n).bind fun k=>(BG k.2 ([116,121,112,101,32,111,119,110,101,114,32,114,97,105,108,119,97,121,32,115,104,105,112,112,101,114,32,99,108,97,115,115,32,119,101,105,103,104,116,32,107,109,32,109,105,110,117,116,101,115,32,119,111,114,107,105,110,103,32,99,111,100,101,32,119,111,114,116,104,32,99,111,115,116,32,109,111,110,116,104,32,98,101,103,105,110,32,112,97,114,116,115,32,112,97,114,116]:List UInt8)).bind fun p=>match p with
 | .inl a=>if(o==8)then some (.inr (k.1,2,a.2)) else (Av a.2 ([105,115]:List UInt8)).bind fun b=>if b.1=true then (Bl b.2).bind fun q=>match q with
    |.inl c=>some (.inl (({ Attr:=a.1,Low:=c.1,Zc:=c.1 }:AoK),c.2))
    |.inr d=>some (.inr (d.1,d.2.1,d.2.2)) else (Ax b.2 ([105,110]:List UInt8)).bind fun s=>match s with
    | .inl t=>(Bl t).bind fun u=>match u with
     | .inl l=>(Ax l.2 ([46,46]:List UInt8)).bind fun v=>match v with
      | .inl w=>(Bl w).bind fun x=>match x with
       |.inl m=>some (.inl (({ Attr:=a.1,Low:=l.1,Zc:=m.1 }:AoK),m.2))
       |.inr e=>some (.inr (e.1,e.2.1,e.2.2))
      |.inr f=>some (.inr (f.1,f.2.1,f.2.2))
     |.inr g=>some (.inr (g.1,g.2.1,g.2.2))
    |.inr i=>some (.inr (i.1,i.2.1,i.2.2))
 |.inr j=>some (.inr (j.1,j.2.1,j.2.2))
def W1(b:List Int)(a:Int):Option ((Int)⊕((Unit)⊕((Unit)⊕(Bool)))) :=if (decide (a<(b.length:Int)))then if InR a b.length then (if(decide (nth b a.toNat<(-9007199254740992)))then some true else some (decide (nth b a.toNat>9007199254740992)):Option (Bool)).bind fun c=>if c then ((some false).bind fun d=>some (.inr d)).bind fun e=>some (.inr (.inr e)) else some (.inl (w64 (a+1))) else none else some (.inr (.inl ()))
def AlR(a:List Int):Option (Bool) :=((Be (fun(v:Int)=>W1 a v) 0).bind fun x=>match x with
 |.inl ()=>some (.inl ())
 |.inr z=>some z:Option ((Unit)⊕(Bool))).bind fun x=>match x with
 |.inl ()=>some true
 |.inr z=>some z
def ML(a:UInt64)(b:UInt64):Option (UInt64×UInt64) :=lt1 (a &&& (4294967295:UInt64)) fun(x0_2646:UInt64)=>lt1 (Vl a (32:UInt64).toNat) fun(x1_2648:UInt64)=>lt1 (b &&& (4294967295:UInt64)) fun(y0_2650:UInt64)=>lt1 (Vl b (32:UInt64).toNat) fun(y1_2652:UInt64)=>lt1 ((x1_2648*y0_2650)+(Vl (x0_2646*y0_2650) (32:UInt64).toNat)) fun(c:UInt64)=>lt1 (c &&& (4294967295:UInt64)) fun(w1_2656:UInt64)=>lt1 (Vl c (32:UInt64).toNat) fun(w2_2658:UInt64)=>lt1 (w1_2656+(x0_2646*y1_2652)) fun(w1_2660:UInt64)=>lt1 (((x1_2648*y1_2652)+w2_2658)+(Vl w1_2660 (32:UInt64).toNat)) fun(d:UInt64)=>some (d,(a*b))
def BP(b:AoP):Option (Int×AoP) :=(Av b ([42]:List UInt8)).bind fun a=>if a.1=true then some (5,a.2) else some (0,a.2)
def Cu(c:AoP):Option (Int×AoP) :=(Av c ([43]:List UInt8)).bind fun a=>if a.1=true then some (3,a.2) else (Av a.2 ([45]:List UInt8)).bind fun b=>if b.1=true then some (4,b.2) else some (0,b.2)
noncomputable def AQ(r:(AoM×AoP)⊕(Int×Int×AoP)):Outc:=match r with
 |.inl r=>.ret (.agg (i64 r.1.Op::i64 r.1.N::(C1 i64 r.1.Unit.l++[.sl false (L cApi_Expr r.1.L)]))) [.box [.sl false (L Aa r.2.l),i64 r.2.end_] false]
 |.inr r=>.pan (.iface 104 (.agg #[.int .i64 r.1,.int .i64 r.2.1])) [.box [.sl false (L Aa r.2.2.l),i64 r.2.2.end_] false]
noncomputable def HQ(r:(AoM×AoP×List (List UInt8))⊕(Int×Int×AoP×List (List UInt8))):Outc:=match r with
 |.inl r=>.ret (.agg (i64 r.1.Op::i64 r.1.N::(C1 i64 r.1.Unit.l++[.sl false (L cApi_Expr r.1.L)]))) [.box [.sl false (L Aa r.2.1.l),i64 r.2.1.end_] false,.buf 1 (L AU r.2.2) false]
 |.inr r=>.pan (.iface 104 (.agg #[.int .i64 r.1,.int .i64 r.2.1])) [.box [.sl false (L Aa r.2.2.1.l),i64 r.2.2.1.end_] false,.buf 1 (L AU r.2.2.2) false]
def CA(k:AoP->Option ((AoM×AoP)⊕(Int×Int×AoP)))(a:List (List UInt8))(b:Int)(f:List AoI)(g:Int)(c:List AoM):Option ((Int×List AoI×Int×List AoM)⊕((List AoI×Int×List AoM)⊕((List AoI×Int×List AoM)⊕((AoM×AoP×List (List UInt8))⊕(Int×Int×AoP×List (List UInt8)))))) :=if (decide (b<(a.length:Int)))then if InR b a.length then lt1 (nth a b.toNat) fun(m:List UInt8)=>(k ({ l:=f,end_:=g }:AoP)).bind fun n=>match n with
   | .inl i=>if FY (c.length+1) 72 then lt1 (c++([i.1]:List AoM)) fun(o:List AoM)=>(Ax i.2 m).bind fun p=>match p with
     |.inl j=>some (.inl ((w64 (b+1)),j.l,j.end_,o))
     |.inr d=>((some (.inr (d.1,d.2.1,d.2.2,a))).bind fun q=>some (.inr q)).bind fun s=>some (.inr (.inr s)) else none
   |.inr e=>((some (.inr (e.1,e.2.1,e.2.2,a))).bind fun t=>some (.inr t)).bind fun u=>some (.inr (.inr u)) else none else some (.inr (.inl (f,g,c)))
def BM(d:AoP->Option ((AoM×AoP)⊕(Int×Int×AoP)))(e:AoP)(f:Int)(a:List (List UInt8)):Option ((AoM×AoP×List (List UInt8))⊕(Int×Int×AoP×List (List UInt8))) :=(Ax e ([40]:List UInt8)).bind fun g=>match g with
 | .inl c=>((Be (fun(v:Int×List AoI×Int×List AoM)=>CA d a v.1 v.2.1 v.2.2.1 v.2.2.2) (0,c.l,c.end_,[])).bind fun x=>match x with
  |.inl (i,j,k)=>some (.inl (i,j,k))
  |.inr z=>some z:Option ((List AoI×Int×List AoM)⊕((AoM×AoP×List (List UInt8))⊕(Int×Int×AoP×List (List UInt8))))).bind fun x=>match x with
  |.inl (m,n,o)=>some (.inl ((AoM.mk f 0 (Arr.rep 4 0) o),({ l:=m,end_:=n }:AoP),a))
  |.inr z=>some z
 |.inr b=>some (.inr (b.1,b.2.1,b.2.2,a))
noncomputable def IG(r:(AoM×AoP)⊕(Int×Int×AoP)):Outc:=match r with
 |.inl r=>.ret (.agg (i64 r.1.Op::i64 r.1.N::(C1 i64 r.1.Unit.l++[.sl false (L cApi_Expr r.1.L)]))) [.box [.sl false (L Aa r.2.l),i64 r.2.end_] false]
 |.inr r=>.pan (.iface 104 (.agg #[.int .i64 r.1,.int .i64 r.2.1])) [.box [.sl false (L Aa r.2.2.l),i64 r.2.2.end_] false]
def Cv(b:AoP->Option ((AoM×AoP)⊕(Int×Int×AoP)))(u:AoP):Option ((AoM×AoP)⊕(Int×Int×AoP)) :=(BI u 2).bind fun c=>if c.2.1=true then (Bl c.2.2).bind fun v=>match v with
  | .inl n=>(DB n.2).bind fun w=>match w with
   |.inl o=>some (.inl ((AoM.mk 1 n.1 o.1 ([])),o.2))
   |.inr d=>some (.inr (d.1,d.2.1,d.2.2))
  |.inr e=>some (.inr (e.1,e.2.1,e.2.2)) else (Av c.2.2 ([40]:List UInt8)).bind fun f=>if f.1=true then (b f.2).bind fun x=>match x with
   | .inl p=>(Ax p.2 ([41]:List UInt8)).bind fun y=>match y with
    |.inl z=>some (.inl (p.1,z))
    |.inr g=>some (.inr (g.1,g.2.1,g.2.2))
   |.inr i=>some (.inr (i.1,i.2.1,i.2.2)) else (Av f.2 ([105,102]:List UInt8)).bind fun j=>if j.1=true then (BM b j.2 11 ([([60]:List UInt8),([44]:List UInt8),([44]:List UInt8),([41]:List UInt8)]:List (List UInt8))).bind fun aa=>match aa with
    |.inl q=>some (.inl (q.1,q.2.1))
    |.inr k=>some (.inr (k.1,k.2.1,k.2.2.1)) else (BF j.2 ([109,105,110,32,109,97,120,32,100,111,119,110,32,117,112,32,104,97,108,102]:List UInt8)).bind fun a=>if a.2.1=true then (BM b a.2.2 (w64 (6+a.1)) ([([44]:List UInt8),([41]:List UInt8)]:List (List UInt8))).bind fun ab=>match ab with
     |.inl s=>some (.inl (s.1,s.2.1))
     |.inr l=>some (.inr (l.1,l.2.1,l.2.2.1)) else (BG a.2.2 ([116,121,112,101,32,111,119,110,101,114,32,114,97,105,108,119,97,121,32,115,104,105,112,112,101,114,32,99,108,97,115,115,32,119,101,105,103,104,116,32,107,109,32,109,105,110,117,116,101,115,32,119,111,114,107,105,110,103,32,99,111,100,101,32,119,111,114,116,104,32,99,111,115,116,32,109,111,110,116,104,32,98,101,103,105,110,32,112,97,114,116,115,32,112,97,114,116]:List UInt8)).bind fun ac=>match ac with
     |.inl t=>some (.inl ((AoM.mk 2 t.1 (Arr.rep 4 0) ([])),t.2))
     |.inr m=>some (.inr (m.1,m.2.1,m.2.2))
noncomputable def FA(r:(AoM×AoP)⊕(Int×Int×AoP)):Outc:=match r with
 |.inl r=>.ret (.agg (i64 r.1.Op::i64 r.1.N::(C1 i64 r.1.Unit.l++[.sl false (L cApi_Expr r.1.L)]))) [.box [.sl false (L Aa r.2.l),i64 r.2.end_] false,.box [.ref 0 0] false]
 |.inr r=>.pan (.iface 104 (.agg #[.int .i64 r.1,.int .i64 r.2.1])) [.box [.sl false (L Aa r.2.2.l),i64 r.2.2.end_] false,.box [.ref 0 0] false]
def Bq(m:AoP->Option ((AoM×AoP)⊕(Int×Int×AoP)))(c:Int)(d:List AoI)(e:Int)(f:Int)(g:Int)(i:Arr Int 4)(j:List AoM):Option ((Int×List AoI×Int×Int×Int×Arr Int 4×List AoM)⊕((List AoI×Int×Int×Int×Arr Int 4×List AoM)⊕((List AoI×Int×Int×Int×Arr Int 4×List AoM)⊕((AoM×AoP)⊕(Int×Int×AoP))))) :=if(c != 0)then (Cv m ({ l:=d,end_:=e }:AoP)).bind fun n=>match n with
  |.inl k=>lt1 ([(AoM.mk f g i j),k.1]:List AoM) fun(o:List AoM)=>(BP k.2).bind fun a=>some (.inl (a.1,a.2.l,a.2.end_,c,0,(Arr.rep 4 0),o))
  |.inr b=>((some (.inr (b.1,b.2.1,b.2.2))).bind fun p=>some (.inr p)).bind fun q=>some (.inr (.inr q)) else some (.inr (.inl (d,e,f,g,i,j)))
def Bb(d:AoP->Option ((AoM×AoP)⊕(Int×Int×AoP)))(e:AoP):Option ((AoM×AoP)⊕(Int×Int×AoP)) :=(Cv d e).bind fun f=>match f with
 | .inl a=>((BP a.2).bind fun b=>(Be (fun(v:Int×List AoI×Int×Int×Int×Arr Int 4×List AoM)=>Bq d v.1 v.2.1 v.2.2.1 v.2.2.2.1 v.2.2.2.2.1 v.2.2.2.2.2.1 v.2.2.2.2.2.2) (b.1,b.2.l,b.2.end_,a.1.Op,a.1.N,a.1.Unit,a.1.L)).bind fun x=>match x with
  |.inl (g,i,j,k,m,n)=>some (.inl (g,i,j,k,m,n))
  |.inr z=>some z:Option ((List AoI×Int×Int×Int×Arr Int 4×List AoM)⊕((AoM×AoP)⊕(Int×Int×AoP)))).bind fun x=>match x with
  |.inl (o,p,q,s,t,u)=>some (.inl ((AoM.mk q s t u),({ l:=o,end_:=p }:AoP)))
  |.inr z=>some z
 |.inr c=>some (.inr (c.1,c.2.1,c.2.2))
noncomputable def Jf(r:(AoM×AoP)⊕(Int×Int×AoP)):Outc:=match r with
 |.inl r=>.ret (.agg (i64 r.1.Op::i64 r.1.N::(C1 i64 r.1.Unit.l++[.sl false (L cApi_Expr r.1.L)]))) [.box [.sl false (L Aa r.2.l),i64 r.2.end_] false,.box [.ref 0 0] false]
 |.inr r=>.pan (.iface 104 (.agg #[.int .i64 r.1,.int .i64 r.2.1])) [.box [.sl false (L Aa r.2.2.l),i64 r.2.2.end_] false,.box [.ref 0 0] false]
def Cm(c:AoP->Option ((AoM×AoP)⊕(Int×Int×AoP)))(d:AoP):Option ((AoM×AoP)⊕(Int×Int×AoP)) :=(Bb c d).bind fun e=>match e with
 |.inl b=>some (.inl (b.1,b.2))
 |.inr a=>some (.inr (a.1,a.2.1,a.2.2))
noncomputable def F2(r:(AoM×AoP)⊕(Int×Int×AoP)):Outc:=match r with
 |.inl r=>.ret (.agg (i64 r.1.Op::i64 r.1.N::(C1 i64 r.1.Unit.l++[.sl false (L cApi_Expr r.1.L)]))) [.box [.sl false (L Aa r.2.l),i64 r.2.end_] false,.box [.ref 0 0] false]
 |.inr r=>.pan (.iface 104 (.agg #[.int .i64 r.1,.int .i64 r.2.1])) [.box [.sl false (L Aa r.2.2.l),i64 r.2.2.end_] false,.box [.ref 0 0] false]
def Bp(m:AoP->Option ((AoM×AoP)⊕(Int×Int×AoP)))(c:Int)(d:List AoI)(e:Int)(f:Int)(g:Int)(i:Arr Int 4)(j:List AoM):Option ((Int×List AoI×Int×Int×Int×Arr Int 4×List AoM)⊕((List AoI×Int×Int×Int×Arr Int 4×List AoM)⊕((List AoI×Int×Int×Int×Arr Int 4×List AoM)⊕((AoM×AoP)⊕(Int×Int×AoP))))) :=if(c != 0)then (Cm m ({ l:=d,end_:=e }:AoP)).bind fun n=>match n with
  |.inl k=>lt1 ([(AoM.mk f g i j),k.1]:List AoM) fun(o:List AoM)=>(Cu k.2).bind fun a=>some (.inl (a.1,a.2.l,a.2.end_,c,0,(Arr.rep 4 0),o))
  |.inr b=>((some (.inr (b.1,b.2.1,b.2.2))).bind fun p=>some (.inr p)).bind fun q=>some (.inr (.inr q)) else some (.inr (.inl (d,e,f,g,i,j)))
def Bc(d:AoP->Option ((AoM×AoP)⊕(Int×Int×AoP)))(e:AoP):Option ((AoM×AoP)⊕(Int×Int×AoP)) :=(Cm d e).bind fun f=>match f with
 | .inl a=>((Cu a.2).bind fun b=>(Be (fun(v:Int×List AoI×Int×Int×Int×Arr Int 4×List AoM)=>Bp d v.1 v.2.1 v.2.2.1 v.2.2.2.1 v.2.2.2.2.1 v.2.2.2.2.2.1 v.2.2.2.2.2.2) (b.1,b.2.l,b.2.end_,a.1.Op,a.1.N,a.1.Unit,a.1.L)).bind fun x=>match x with
  |.inl (g,i,j,k,m,n)=>some (.inl (g,i,j,k,m,n))
  |.inr z=>some z:Option ((List AoI×Int×Int×Int×Arr Int 4×List AoM)⊕((AoM×AoP)⊕(Int×Int×AoP)))).bind fun x=>match x with
  |.inl (o,p,q,s,t,u)=>some (.inl ((AoM.mk q s t u),({ l:=o,end_:=p }:AoP)))
  |.inr z=>some z
 |.inr c=>some (.inr (c.1,c.2.1,c.2.2))
def CU(rec_:AoP->Option ((AoM×AoP)⊕(Int×Int×AoP)))(c:AoP):Option ((AoM×AoP)⊕(Int×Int×AoP)) :=(Bc rec_ c).bind fun d=>match d with
 |.inl b=>some (.inl (b.1,b.2))
 |.inr a=>some (.inr (a.1,a.2.1,a.2.2))
def DS(n:Nat):AoP->Option ((AoM×AoP)⊕(Int×Int×AoP)):=match n with
 |0=>fun _=>none
 |n+1=>CU (DS n)
def Gm(a:AoP):Option ((AoM×AoP)⊕(Int×Int×AoP)):=DS 18446744073709551616 a
noncomputable def IV(a:List AoN)(r:(AoN×AoP)⊕(Int×Int×AoP)):Outc:=match r with
 |.inl r=>.ret (.agg (.str r.1.Zd::.sl false (L Ae r.1.Ze)::i64 r.1.Pay.Op::i64 r.1.Pay.N::(C1 i64 r.1.Pay.Unit.l++[.sl false (L cApi_Expr r.1.Pay.L)]))) [.box [.sl false (L Aa r.2.l),i64 r.2.end_] false,.buf 9 (L Ab a) false]
 |.inr r=>.pan (.iface 104 (.agg #[.int .i64 r.1,.int .i64 r.2.1])) [.box [.sl false (L Aa r.2.2.l),i64 r.2.2.end_] false,.buf 9 (L Ab a) false]
def CZ(g:Bool)(d:List AoI)(e:Int)(a:List AoK):Option ((Bool×List AoI×Int×List AoK)⊕((List AoI×Int×List AoK)⊕((List AoI×Int×List AoK)⊕((AoN×AoP)⊕(Int×Int×AoP))))) :=if g then (D7 ({ l:=d,end_:=e }:AoP) (a.length:Int)).bind fun i=>match i with
  | .inl f=>if FY (a.length+1) 24 then lt1 (a++([f.1]:List AoK)) fun(j:List AoK)=>(Av f.2 ([97,110,100]:List UInt8)).bind fun b=>some (.inl (b.1,b.2.l,b.2.end_,j)) else none
  |.inr c=>((some (.inr (c.1,c.2.1,c.2.2))).bind fun k=>some (.inr k)).bind fun m=>some (.inr (.inr m)) else some (.inr (.inl (d,e,a)))
def CT(m:AoP)(n:List AoN):Option ((AoN×AoP)⊕(Int×Int×AoP)) :=(Bk m).bind fun i=>(CN i.2).bind fun o=>match o with
 | .inl b=>(Bz n ({ Zd:=b.1,Ze:=[],Pay:=(AoM.mk 0 0 (Arr.rep 4 0) ([])) }:AoN)).bind fun j=>if j.1=true then some (.inr (i.1,161,b.2)) else ((Av b.2 ([119,104,101,110]:List UInt8)).bind fun c=>(Be (fun(v:Bool×List AoI×Int×List AoK)=>CZ v.1 v.2.1 v.2.2.1 v.2.2.2) (c.1,c.2.l,c.2.end_,[])).bind fun x=>match x with
   |.inl (p,q,s)=>some (.inl (p,q,s))
   |.inr z=>some z:Option ((List AoI×Int×List AoK)⊕((AoN×AoP)⊕(Int×Int×AoP)))).bind fun x=>match x with
   | .inl (t,u,w)=>(Ax ({ l:=t,end_:=u }:AoP) ([112,97,121]:List UInt8)).bind fun y=>match y with
    | .inl aa=>(Bk aa).bind fun k=>(Gm k.2).bind fun ab=>match ab with
     | .inl a=>(DO a.1).bind fun ac=>if(decide (ac>24))then some (.inr (k.1,2,a.2)) else (Ax a.2 ([59]:List UInt8)).bind fun ad=>match ad with
       |.inl ae=>some (.inl (({ Zd:=j.2.Zd,Ze:=w,Pay:=a.1 }:AoN),ae))
       |.inr d=>some (.inr (d.1,d.2.1,d.2.2))
     |.inr e=>some (.inr (e.1,e.2.1,e.2.2))
    |.inr f=>some (.inr (f.1,f.2.1,f.2.2))
   |.inr z=>some z
 |.inr g=>some (.inr (g.1,g.2.1,g.2.2))
def CD(b:List UInt8):Option (AoO×Int×Int) :=(EB b).bind fun a=>if(a.2.2 != 0)then some (({ Zd:=([]:List UInt8),For:=0,Zf:=[] }:AoO),a.2.1,a.2.2) else none
def EP(f:Int)(g:List AoI)(i:Int)(a:List AoN):Option ((Int×List AoI×Int×List AoN)⊕((List AoI×Int×List AoN)⊕((List AoI×Int×List AoN)⊕(AoO×Int×Int)))) :=(Av ({ l:=g,end_:=i }:AoP) ([99,108,97,117,115,101]:List UInt8)).bind fun b=>if b.1=true then if((a.length:Int)==64)then ((some (({ Zd:=([]:List UInt8),For:=0,Zf:=[] }:AoO),f,2)).bind fun j=>some (.inr j)).bind fun k=>some (.inr (.inr k)) else (CT b.2 a).bind fun m=>match m with
   | .inl d=>if FY (a.length+1) 112 then lt1 (a++([d.1]:List AoN)) fun(n:List AoN)=>(Bk d.2).bind fun c=>some (.inl (c.1,c.2.l,c.2.end_,n)) else none
   |.inr e=>((some (({ Zd:=([]:List UInt8),For:=0,Zf:=[] }:AoO),e.1,e.2.1)).bind fun o=>some (.inr o)).bind fun p=>some (.inr (.inr p)) else some (.inr (.inl (b.2.l,b.2.end_,a)))
def F9(b : List UInt8):Option (AoO×Int×Int) :=(EB b).bind fun c=>if(c.2.2 != 0)then none else (Ax ({ l:=c.1,end_:=(b.length:Int) }:AoP) ([116,97,114,105,102,102]:List UInt8)).bind fun p=>match p with
 | .inl q =>(CN q).bind fun s=>match s with
  | .inl d=>(Ax d.2 ([102,111,114]:List UInt8)).bind fun t=>match t with
   | .inl u=>(BG u ([104,105,114,101,32,100,101,109,117,114,114,97,103,101,32,102,114,101,105,103,104,116,32,114,101,112,97,105,114,32,108,111,115,115,32,99,108,101,97,110,105,110,103]:List UInt8)).bind fun w=>match w with
    | .inl e=>(Ax e.2 ([123]:List UInt8)).bind fun y=>match y with
     | .inl aa=>((Bk aa).bind fun a=>(Be (fun(v:Int×List AoI×Int×List AoN)=>EP v.1 v.2.1 v.2.2.1 v.2.2.2) (a.1,a.2.l,a.2.end_,[])).bind fun x=>match x with
      |.inl (ab,ac,ad)=>some (.inl (ab,ac,ad))
      |.inr z=>some z:Option ((List AoI×Int×List AoN)⊕(AoO×Int×Int))).bind fun x=>match x with
      | .inl (ae,af,ag)=>(Ax ({ l:=ae,end_:=af }:AoP) ([125]:List UInt8)).bind fun ah=>match ah with
       | .inl f=>(if(decide ((f.l.length:Int)>0))then (Bs f).bind fun ai=>match ai with
         |.inl ak=>some (.inl ())
         |.inr g=>(some (({ Zd:=([]:List UInt8),For:=0,Zf:=[] }:AoO),g.1,g.2.1)).bind fun aj=>some (.inr aj) else some (.inl ()):Option ((Unit)⊕(AoO×Int×Int))).bind fun x=>match x with
        |.inl ()=>some (({ Zd:=d.1,For:=(w64 (1+e.1)),Zf:=ag }:AoO),0,0)
        |.inr z=>some z
       |.inr i=>some (({ Zd:=([]:List UInt8),For:=0,Zf:=[] }:AoO),i.1,i.2.1)
      |.inr z=>some z
     |.inr j=>some (({ Zd:=([]:List UInt8),For:=0,Zf:=[] }:AoO),j.1,j.2.1)
    |.inr k=>some (({ Zd:=([]:List UInt8),For:=0,Zf:=[] }:AoO),k.1,k.2.1)
   |.inr m=>some (({ Zd:=([]:List UInt8),For:=0,Zf:=[] }:AoO),m.1,m.2.1)
  |.inr n=>some (({ Zd:=([]:List UInt8),For:=0,Zf:=[] }:AoO),n.1,n.2.1)
 |.inr o=>some (({ Zd:=([]:List UInt8),For:=0,Zf:=[] }:AoO),o.1,o.2.1)
def ED(a:List UInt8):Option (AoO×Int×Int):=match CD a with
|some r=>some r
|none=>F9 a
def F7(a:Int)(b:Int):Option (Bool) :=(if(decide (a≥0))then if(decide (a<16))then if(decide (b≥1))then some (decide (b<=6)) else some false else some false else some false:Option (Bool)).bind fun c=>some c
def Hf(a:Int):Option (Bool) :=some (a != a)
def DL(a:Int)(b:Int):Option (Int) :=(Hf a).bind fun d=>(Hf b).bind fun c=>if d then if c then some 0 else some (-1) else if c then some 1 else if(decide (a<b))then some (-1) else if(decide (a>b))then some 1 else some 0
def HX(b:List Int)(a:Int):Option ((Int)⊕((Unit)⊕((Unit)⊕(Int)))) :=if (decide (a<(b.length:Int)))then if InR a b.length then if(nth b a.toNat != 0)then ((some (nth b a.toNat)).bind fun c=>some (.inr c)).bind fun d=>some (.inr (.inr d)) else some (.inl (w64 (a+1))) else none else some (.inr (.inl ()))
def JY(a:List Int):Option (Int) :=((Be (fun(v:Int)=>HX a v) 0).bind fun x=>match x with
 |.inl ()=>some (.inl ())
 |.inr z=>some z:Option ((Unit)⊕(Int))).bind fun x=>match x with
 |.inl ()=>some 0
 |.inr z=>some z
def BX(a:AoT)(b:AoT):Option (Int) :=(DL a.Zu.Zn b.Zu.Zn).bind fun c=>(DL a.Zt b.Zt).bind fun d=>(DL a.Ref.No b.Ref.No).bind fun e=>(JY ([c,d,e]:List Int)).bind fun f=>some f
def EL(a:Int):Option (Int) :=(if(a==3)then some (a==3) else some (a==4):Option (Bool)).bind fun b=>if b then some 1 else if(a==5)then some 2 else some 3
def EM(a:Int):Option (Int×Int) :=(if(a==1)then some (a==1) else if(a==13)then some (a==13) else if(a==14)then some (a==14) else some (a==15):Option (Bool)).bind fun b=>if b then some (1,9007199254740992) else if(a==2)then some (1,15) else if(a==12)then some (2,9007199254740992) else some (0,0)
def Hc(a:Int):Option (Int×Int) :=(if(a==1)then some (a==1) else some (a==2):Option (Bool)).bind fun b=>if b then some (0,1) else if(a==12)then some (1,1) else (if(a==13)then some (a==13) else some (a==15):Option (Bool)).bind fun c=>if c then some (1,0) else (if(a==14)then some (a==14) else some (a==16):Option (Bool)).bind fun d=>if d then some (0,0) else some (2,1)
def Ix(a:AoU):Option (Bool) :=(if(decide (a.Op<1))then some true else some (decide (a.Op≥17)):Option (Bool)).bind fun c=>if c then some false else (EM a.Op).bind fun b=>(if(decide (b.1>0))then some 0 else some a.N:Option (Int)).bind fun d=>(if(decide (b.1>1))then some 0 else some a.M:Option (Int)).bind fun e=>(if((d==0)&&(e==0))then if(decide ((Qm a.N a.M)≥0))then some (decide ((Qe a.N a.M)<=b.2)) else some false else some false:Option (Bool)).bind fun f=>some f
def CY(b:List AoU)(c:AoU->Option (Bool))(a:Int):Option ((Int)⊕((Unit)⊕((Unit)⊕(Int)))) :=if (decide (a<(b.length:Int)))then if InR a b.length then (c (nth b a.toNat)).bind fun d=>if d then ((some a).bind fun e=>some (.inr e)).bind fun f=>some (.inr (.inr f)) else some (.inl (w64 (a+1))) else none else some (.inr (.inl ()))
def DQ(a:List AoU)(b:AoU->Option (Bool)):Option (Int) :=((Be (fun(v:Int)=>CY a b v) 0).bind fun x=>match x with
 |.inl ()=>some (.inl ())
 |.inr z=>some z:Option ((Unit)⊕(Int))).bind fun x=>match x with
 |.inl ()=>some (-1)
 |.inr z=>some z
def C4(a:List AoU)(b:AoU->Option (Bool)):Option (Bool) :=(DQ a b).bind fun c=>some (decide (c≥0))
def F6(a:AoU):Option (Bool) :=(Ix a).bind fun b=>some (!b)
def M1(b:UInt64)(c:UInt64):Option (UInt64×UInt64) :=(ML b c).bind fun a=>some (a.1,a.2)
def Eo(a:Int)(b:List Int):Option ((Int×List Int)⊕(List Int)) :=if (decide (a<(b.length:Int)))then if InB a b.length then if InB a b.length then lt1 (w64 (a+(((min (b.take a.toNat).length (b.length-a.toNat)):Nat):Int))) fun(c:Int)=>lt1 (ovl b ((b.take a.toNat).take (min (b.take a.toNat).length (b.length-a.toNat))) a.toNat) fun(d:List Int)=>some (.inl (c,d)) else none else none else some (.inr b)
def Eu(b:List Int)(d:Int):Option (List Int) :=if(decide (d<0))then none else (M1 (UInt64.ofInt (b.length:Int)) (UInt64.ofInt d)).bind fun a=>(if(decide (a.1>(0:UInt64)))then some true else some (decide (a.2>(9223372036854775807:UInt64))):Option (Bool)).bind fun e=>if e then none else if Mk (w64 (a.2.toNat:Int)) (w64 (a.2.toNat:Int)) 8 then lt1 (List.replicate ((w64 (a.2.toNat:Int)).toNat) 0) fun(c:List Int)=>lt1 (((min b.length c.length):Nat):Int) fun(f:Int)=>lt1 (ovl c (b.take (min b.length c.length)) 0) fun(g:List Int)=>((Be (fun(v:Int×List Int)=>Eo v.1 v.2) (f,g)).bind fun i=>some i:Option (List Int)).bind fun j=>some j else none
def EN(a:List AoN):Option (List AoN) :=if FY (0+a.length) 112 then lt1 (([]:List AoN)++a) fun(b:List AoN)=>some b else none
def DY(b:UInt8)(a:List UInt8):Option ((List UInt8)⊕(List UInt8)) :=(if(decide ((a.length:Int)>0))then if InR (w64 ((a.length:Int)-1)) a.length then some ((nth a ((w64 ((a.length:Int)-1)).toNat))==b) else none else some false:Option (Bool)).bind fun c=>if c then if InB (w64 ((a.length:Int)-1)) a.length then lt1 (a.take ((w64 ((a.length:Int)-1)).toNat)) fun(d:List UInt8)=>some (.inl d) else none else some (.inr a)
def EQ(a:List UInt8)(b:UInt8):Option (List UInt8) :=((Be (fun(v:List UInt8)=>DY b v) a).bind fun c=>some c:Option (List UInt8)).bind fun d=>some d
def Ei(b:UInt8)(a:List UInt8):Option ((List UInt8)⊕(List UInt8)) :=(if(decide ((a.length:Int)>0))then if InR 0 a.length then some ((nth a 0)==b) else none else some false:Option (Bool)).bind fun c=>if c then if InB 1 a.length then lt1 ((a.drop 1).take (a.length-1)) fun(d:List UInt8)=>some (.inl d) else none else some (.inr a)
def Fz(a:List UInt8)(b:UInt8):Option (List UInt8) :=((Be (fun(v:List UInt8)=>Ei b v) a).bind fun c=>some c:Option (List UInt8)).bind fun d=>some d
def Eg(b:List UInt8)(a:Int)(c:Arr Bool 256):Option ((Int×Arr Bool 256)⊕((Arr Bool 256)⊕((Arr Bool 256)⊕(Arr Bool 256×Bool)))) :=if (decide (a<(b.length:Int)))then if InR a b.length then lt1 (nth b a.toNat) fun(d:UInt8)=>if(decide (d≥(128:UInt8)))then ((some (c,false)).bind fun e=>some (.inr e)).bind fun f=>some (.inr (.inr f)) else if InR (d.toNat:Int) 256 then lt1 (c.set d.toNat true) fun(g:Arr Bool 256)=>some (.inl ((w64 (a+1)),g)) else none else none else some (.inr (.inl c))
def Cs(a:List UInt8):Option (Arr Bool 256×Bool) :=((Be (fun(v:Int×Arr Bool 256)=>Eg a v.1 v.2) (0,(Arr.rep 256 false))).bind fun x=>match x with
 |.inl b=>some (.inl b)
 |.inr z=>some z:Option ((Arr Bool 256)⊕(Arr Bool 256×Bool))).bind fun x=>match x with
 |.inl c=>some (c,true)
 |.inr z=>some z
def B0(a:Arr Bool 256)(b:UInt8):Option (Bool×Arr Bool 256) :=if InR (b.toNat:Int) 256 then some ((a.get b.toNat),a) else none
def CC(a:List UInt8)(c:Arr Bool 256):Option ((List UInt8×Arr Bool 256)⊕(List UInt8×Arr Bool 256)) :=if (decide ((a.length:Int)>0))then if InR (w64 ((a.length:Int)-1)) a.length then (B0 c (nth a ((w64 ((a.length:Int)-1)).toNat))).bind fun b=>if(!b.1)then some (.inr (a,b.2)) else if InB (w64 ((a.length:Int)-1)) a.length then lt1 (a.take ((w64 ((a.length:Int)-1)).toNat)) fun(d:List UInt8)=>some (.inl (d,b.2)) else none else none else some (.inr (a,c))
def C5(a:List UInt8)(b:Arr Bool 256):Option (List UInt8×Arr Bool 256) :=((Be (fun(v:List UInt8×Arr Bool 256)=>CC v.1 v.2) (a,b)).bind fun(c,d)=>some (c,d):Option (List UInt8×Arr Bool 256)).bind fun(e,f)=>some (e,f)
def CR(a:List UInt8)(c:Arr Bool 256):Option ((List UInt8×Arr Bool 256)⊕(List UInt8×Arr Bool 256)) :=if (decide ((a.length:Int)>0))then if InR 0 a.length then (B0 c (nth a 0)).bind fun b=>if(!b.1)then some (.inr (a,b.2)) else if InB 1 a.length then lt1 ((a.drop 1).take (a.length-1)) fun(d:List UInt8)=>some (.inl (d,b.2)) else none else none else some (.inr (a,c))
def CJ(a:List UInt8)(b:Arr Bool 256):Option (List UInt8×Arr Bool 256) :=((Be (fun(v:List UInt8×Arr Bool 256)=>CR v.1 v.2) (a,b)).bind fun(c,d)=>some (c,d):Option (List UInt8×Arr Bool 256)).bind fun(e,f)=>some (e,f)
def Ij(b:List UInt8)(a:List UInt8):Option (List UInt8) :=(if(b==([]:List UInt8))then some true else some (a==([]:List UInt8)):Option (Bool)).bind fun e=>if e then some b else (if((a.length:Int)==1)then if InR 0 a.length then some (decide ((nth a 0)<(128:UInt8))) else none else some false:Option (Bool)).bind fun f=>if f then if InR 0 a.length then (EQ b (nth a 0)).bind fun g=>if InR 0 a.length then (Fz g (nth a 0)).bind fun i=>some i else none else none else (Cs a).bind fun c=>if c.2=true then (C5 b c.1).bind fun d=>(CJ d.1 d.2).bind fun j=>some j.1 else none
def GC(a:List UInt8):Option (Bool) :=(if (decide ((a.length:Int)<=32))then if (!(a==([]:List UInt8)))then if InR 0 a.length then if (decide ((nth a 0)≥(97:UInt8)))then if InR 0 a.length then if(decide ((nth a 0)<=(122:UInt8)))then (Ij a ([97,98,99,100,101,102,103,104,105,106,107,108,109,110,111,112,113,114,115,116,117,118,119,120,121,122,48,49,50,51,52,53,54,55,56,57]:List UInt8)).bind fun b=>some (b==([]:List UInt8)) else some false else none else some false else none else some false else some false:Option (Bool)).bind fun c=>some c
def E8(c:Arr Int 4)(a:Int)(b:Rb):Option ((Int×Rb)⊕(Rb)) :=if(decide (a<4))then if InR a 4 then lt1 (up2 b (c.get a.toNat) (some (w64 (((b (c.get a.toNat)).getD 0)+1)))) fun(d:Rb)=>some (.inl ((w64 (a+1)),d)) else none else some (.inr b)
def Du(b:Arr Int 4):Option (Bool) :=((Be (fun(v:Int×Rb)=>E8 b v.1 v.2) (0,no2)).bind fun c=>some c:Option (Rb)).bind fun a=>(if((w64 ((w64 (((a 0).getD 0)+((a 1).getD 0)))+((a (-1)).getD 0)))==4)=true then if(decide (((a 1).getD 0)<=1))then some (decide (((a (-1)).getD 0)<=1)) else some false else some false:Option (Bool)).bind fun d=>some d
def Gk(a:AoM->Option (Bool))(b:AoM):Option (Bool) :=(a b).bind fun c=>some (!c)
def Db(b:List AoM)(c:AoM->Option (Bool))(a:Int):Option ((Int)⊕((Unit)⊕((Unit)⊕(Int)))) :=if (decide (a<(b.length:Int)))then if InR a b.length then (c (nth b a.toNat)).bind fun d=>if d then ((some a).bind fun e=>some (.inr e)).bind fun f=>some (.inr (.inr f)) else some (.inl (w64 (a+1))) else none else some (.inr (.inl ()))
def DT(a:List AoM)(b:AoM->Option (Bool)):Option (Int) :=((Be (fun(v:Int)=>Db a b v) 0).bind fun x=>match x with
 |.inl ()=>some (.inl ())
 |.inr z=>some z:Option ((Unit)⊕(Int))).bind fun x=>match x with
 |.inl ()=>some (-1)
 |.inr z=>some z
def Ce(a:List AoM)(b:AoM->Option (Bool)):Option (Bool) :=(DT a b).bind fun c=>some (decide (c≥0))
def EC(rec_:AoM->Option (Bool))(a:AoM):Option (Bool) :=((if(a.Op==1)then (some (.inl (1099511627776,0))).bind fun b=>some (.inr b) else if(a.Op==2)then (some (.inl (15,0))).bind fun c=>some (.inr c) else if(a.Op==11)then some (.inl 4) else some (.inl 2):Option ((Int)⊕((Int×Int)⊕(Bool)))).bind fun x=>match x with
 | .inl d=>(if(decide (a.Op<1))then some true else some (decide (a.Op>11)):Option (Bool)).bind fun e=>if e then (some false).bind fun f=>some (.inr f) else some (.inl (0,d))
 |.inr z=>some z:Option ((Int×Int)⊕(Bool))).bind fun x=>match x with
 | .inl (g,i)=>(if(decide (a.N<0))then some true else if(decide (a.N>g))then some true else if((a.L.length:Int) != i)then some true else (Du a.Unit).bind fun j=>if(!j)then some true else if(a.Op != 1)then some (!(a.Unit==(⟨[0,0,0,0],rfl⟩:Arr Int 4))) else some false:Option (Bool)).bind fun k=>if k then some false else (Ce a.L (Gk rec_)).bind fun l=>some (!l)
 |.inr z=>some z
def EK(n:Nat):AoM->Option (Bool):=match n with
 |0=>fun _=>none
 |n+1=>EC (EK n)
def LU(a:AoM):Option (Bool):=EK 18446744073709551616 a
def EG(b:List AoK)(a:Int):Option ((Int)⊕((Unit)⊕((Unit)⊕((Bool×Bool×Nj)⊕((Bool×Bool×Int×Nj)⊕((Bool×Bool)⊕((Bool×Bool)⊕(Int)))))))) :=if (decide (a<(b.length:Int)))then if InR a b.length then lt1 ((nth b a.toNat).Attr) fun(c:Int)=>lt1 ((nth b a.toNat).Low) fun(d:Int)=>lt1 ((nth b a.toNat).Zc) fun(e:Int)=>(if(decide (c<0))then some true else if(decide (c≥16))then some true else if(decide ((Qm d e)<0))then some true else some (decide ((Qe d e)>1099511627776)):Option (Bool)).bind fun f=>if f then (((((some 1).bind fun g=>some (.inr g)).bind fun i=>some (.inr (.inr i))).bind fun j=>some (.inr j)).bind fun k=>some (.inr k)).bind fun l=>some (.inr (.inr l)) else some (.inl (w64 (a+1))) else none else some (.inr (.inl ()))
def Gx(b:AoO)(d:Bool)(e:Bool)(a:Int)(f:Nj):Option ((Bool×Bool×Int×Nj)⊕((Bool×Bool)⊕((Bool×Bool)⊕(Int)))) :=if (decide (a<(b.Zf.length:Int)))then (if InR a b.Zf.length then lt1 ((nth b.Zf a.toNat).Zd) fun(c:List UInt8)=>lt1 ((nth b.Zf a.toNat).Ze) fun(g:List AoK)=>lt1 (((nth b.Zf a.toNat).Pay).Op) fun(i:Int)=>lt1 (((nth b.Zf a.toNat).Pay).N) fun(j:Int)=>lt1 (((nth b.Zf a.toNat).Pay).Unit) fun(k:Arr Int 4)=>lt1 (((nth b.Zf a.toNat).Pay).L) fun(l:List AoM)=>((GC c).bind fun m=>if(!m)then some true else (LU (AoM.mk i j k l)).bind fun n=>some (!n):Option (Bool)).bind fun o=>if o then (((some 1).bind fun p=>some (.inr p)).bind fun q=>some (.inr (.inr q))).bind fun s=>some (.inr s) else ((Be (fun(v:Int)=>EG g v) 0).bind fun x=>match x with
    |.inl ()=>some (.inl ())
    |.inr z=>some z:Option ((Unit)⊕((Bool×Bool×Nj)⊕((Bool×Bool×Int×Nj)⊕((Bool×Bool)⊕((Bool×Bool)⊕(Int))))))).bind fun x=>match x with
    | .inl ()=>(if d then some true else (El c).bind fun t=>if t then some true else some ((f c).getD false):Option (Bool)).bind fun u=>(if e then some true else if(decide ((g.length:Int)>8))then some true else (DO (AoM.mk i j k l)).bind fun w=>some (decide (w>24)):Option (Bool)).bind fun y=>lt1 (up2 f c (some true)) fun(aa:Nj)=>some (.inl (u,y,aa))
    |.inr z=>some z else none:Option ((Bool×Bool×Nj)⊕((Bool×Bool×Int×Nj)⊕((Bool×Bool)⊕((Bool×Bool)⊕(Int)))))).bind fun x=>match x with
  |.inl (ab,ac,ad)=>some (.inl (ab,ac,(w64 (a+1)),ad))
  |.inr z=>some z else some (.inr (.inl (d,e)))
def Dg(a:AoO):Option (Int) :=((GC a.Zd).bind fun b=>if(!b)then some true else if(decide (a.For<1))then some true else some (decide (a.For>6)):Option (Bool)).bind fun c=>if c then some 1 else (El a.Zd).bind fun d=>lt1 (decide ((a.Zf.length:Int)>64)) fun(e:Bool)=>((Be (fun(v:Bool×Bool×Int×Nj)=>Gx a v.1 v.2.1 v.2.2.1 v.2.2.2) (d,e,0,no2)).bind fun x=>match x with
  |.inl (f,g)=>some (.inl (f,g))
  |.inr z=>some z:Option ((Bool×Bool)⊕(Int))).bind fun x=>match x with
  | .inl (i,j)=>if i then some 161 else if j then some 2 else some 0
  |.inr z=>some z
def Er(b:List Int)(c:Int)(a:Int):Option ((Int)⊕((Unit)⊕((Unit)⊕(Int)))) :=if (decide (a<(b.length:Int)))then if InR a b.length then if(c==nth b a.toNat)then ((some a).bind fun d=>some (.inr d)).bind fun e=>some (.inr (.inr e)) else some (.inl (w64 (a+1))) else none else some (.inr (.inl ()))
def Cy(a:List Int)(b:Int):Option (Int) :=((Be (fun(v:Int)=>Er a b v) 0).bind fun x=>match x with
 |.inl ()=>some (.inl ())
 |.inr z=>some z:Option ((Unit)⊕(Int))).bind fun x=>match x with
 |.inl ()=>some (-1)
 |.inr z=>some z
def E7(s1_6377:List AoK)(s2_6378:List AoK)(a:Int):Option ((Int)⊕((Unit)⊕((Unit)⊕(Bool)))) :=if (decide (a<(s1_6377.length:Int)))then if InR a s1_6377.length then if InR a s2_6378.length then lt1 (!(((nth s1_6377 a.toNat).Attr==(nth s2_6378 a.toNat).Attr)&&(((nth s1_6377 a.toNat).Low==(nth s2_6378 a.toNat).Low)&&((nth s1_6377 a.toNat).Zc==(nth s2_6378 a.toNat).Zc)))) fun(b:Bool)=>if b then ((some false).bind fun c=>some (.inr c)).bind fun d=>some (.inr (.inr d)) else some (.inl (w64 (a+1))) else none else none else some (.inr (.inl ()))
def EH(s1_6377:List AoK)(s2_6378:List AoK):Option (Bool) :=if((s1_6377.length:Int) != (s2_6378.length:Int))then some false else ((Be (fun(v:Int)=>E7 s1_6377 s2_6378 v) 0).bind fun x=>match x with
  |.inl ()=>some (.inl ())
  |.inr z=>some z:Option ((Unit)⊕(Bool))).bind fun x=>match x with
  |.inl ()=>some true
  |.inr z=>some z
def Hz(a:List (Arr Int 4)):Option (Arr Int 4×Bool) :=if InR 0 a.length then if InR 0 a.length then if InR 1 a.length then some (nth a 0,(nth a 0==nth a 1)) else none else none else none
def Hr(a:List (Arr Int 4)):Option (Arr Int 4×Bool) :=(if InR 2 a.length then if InR 0 a.length then if InR 1 a.length then if (nth a 0==nth a 1)then if InR 2 a.length then if InR 3 a.length then some (nth a 2==nth a 3) else none else none else some false else none else none else none:Option (Bool)).bind fun b=>some (nth a 2,b)
def FI(b : List (Arr Int 4))(e:Int)(a:Int)(d:Arr Int 4):Option ((Int×Arr Int 4)⊕((Arr Int 4)⊕((Arr Int 4)⊕(Arr Int 4×Bool)))) :=if (decide (a<4))then if InR 0 b.length then if InR a 4 then if InR 1 b.length then if InR a 4 then if InR a 4 then lt1 (d.set a.toNat (w64 (((nth b 0).get a.toNat)+(w64 (e*((nth b 1).get a.toNat)))))) fun(c:Arr Int 4)=>(if InR a 4 then if(decide ((c.get a.toNat)<(-3)))then some true else if InR a 4 then some (decide ((c.get a.toNat)>3)) else none else none:Option (Bool)).bind fun f=>if f then lt1 (⟨[0,0,0,0],rfl⟩:Arr Int 4) fun(g:Arr Int 4)=>((some (g,false)).bind fun i=>some (.inr i)).bind fun j=>some (.inr (.inr j)) else some (.inl ((w64 (a+1)),c)) else none else none else none else none else none else some (.inr (.inl d))
def Ga(a:List (Arr Int 4))(b:Int):Option (Arr Int 4×Bool) :=((Be (fun(v:Int×Arr Int 4)=>FI a b v.1 v.2) (0,(Arr.rep 4 0))).bind fun x=>match x with
 |.inl c=>some (.inl c)
 |.inr z=>some z:Option ((Arr Int 4)⊕(Arr Int 4×Bool))).bind fun x=>match x with
 |.inl d=>some (d,true)
 |.inr z=>some z
def GK(a:Int):Option (Int) :=some a
def ttype_rules  : Option (JD) :=(GK 1).bind fun a=>(GK (-1)).bind fun b=>(GK (-1)).bind fun c=>(GK (-1)).bind fun d=>lt1 (up2 (up2 (up2 (up2 (up2 (up2 (up2 (up2 (up2 no2 3 (some (⟨119,0⟩))) 4 (some (⟨119,0⟩))) 6 (some (⟨119,0⟩))) 7 (some (⟨119,0⟩))) 5 (some (⟨165,a⟩))) 8 (some (⟨165,b⟩))) 9 (some (⟨165,c⟩))) 10 (some (⟨165,d⟩))) 11 (some (⟨120,0⟩))) fun(e:JD)=>some e
def ttype_attributes  : Option ((Arr Int 4)×(Arr Int 4)×(Arr Int 4)×(Arr Int 4)×(Arr Int 4)×(Arr Int 4)×(Arr Int 4)×(Arr Int 4)×(Arr Int 4)×(Arr Int 4)×(Arr Int 4)×(Arr Int 4)×(Arr Int 4)×(Arr Int 4)×(Arr Int 4)×(Arr Int 4)) :=lt1 (⟨[0,0,0,1],rfl⟩:Arr Int 4) fun(c:Arr Int 4)=>lt1 (⟨[0,0,1,0],rfl⟩:Arr Int 4) fun(d:Arr Int 4)=>lt1 (⟨[0,1,0,0],rfl⟩:Arr Int 4) fun(a:Arr Int 4)=>lt1 (⟨[1,0,0,0],rfl⟩:Arr Int 4) fun(b:Arr Int 4)=>some ((Arr.rep 4 0),(Arr.rep 4 0),(Arr.rep 4 0),(Arr.rep 4 0),(Arr.rep 4 0),c,d,a,a,(Arr.rep 4 0),b,b,(Arr.rep 4 0),(Arr.rep 4 0),(Arr.rep 4 0),(Arr.rep 4 0))
def Hx(e:JD)(b:AoM)(rec_:JD->AoM->Option (Arr Int 4×Bool))(a:Int)(c:List (Arr Int 4)):Option ((Int×List (Arr Int 4))⊕((List (Arr Int 4))⊕((List (Arr Int 4))⊕(Arr Int 4×Bool)))) :=if (decide (a<(b.L.length:Int)))then if InR a b.L.length then lt1 ((nth b.L a.toNat).Op) fun(f:Int)=>lt1 ((nth b.L a.toNat).N) fun(g:Int)=>lt1 ((nth b.L a.toNat).Unit) fun(i:Arr Int 4)=>lt1 ((nth b.L a.toNat).L) fun(j:List AoM)=>(rec_ e (AoM.mk f g i j)).bind fun d=>if(!d.2)then lt1 (⟨[0,0,0,0],rfl⟩:Arr Int 4) fun(k:Arr Int 4)=>((some (k,false)).bind fun l=>some (.inr l)).bind fun m=>some (.inr (.inr m)) else if FY (c.length+1) 32 then lt1 (c++([d.1]:List (Arr Int 4))) fun(n:List (Arr Int 4))=>some (.inl ((w64 (a+1)),n)) else none else none else some (.inr (.inl c))
def Hd(rec_:JD->AoM->Option (Arr Int 4×Bool))(c:JD)(b:AoM):Option (Arr Int 4×Bool) :=if(b.Op==1)then some (b.Unit,true) else if(b.Op==2)then ttype_attributes.bind fun a=>if InR b.N 16 then lt1 (nth [a.1,a.2.1,a.2.2.1,a.2.2.2.1,a.2.2.2.2.1,a.2.2.2.2.2.1,a.2.2.2.2.2.2.1,a.2.2.2.2.2.2.2.1,a.2.2.2.2.2.2.2.2.1,a.2.2.2.2.2.2.2.2.2.1,a.2.2.2.2.2.2.2.2.2.2.1,a.2.2.2.2.2.2.2.2.2.2.2.1,a.2.2.2.2.2.2.2.2.2.2.2.2.1,a.2.2.2.2.2.2.2.2.2.2.2.2.2.1,a.2.2.2.2.2.2.2.2.2.2.2.2.2.2.1,a.2.2.2.2.2.2.2.2.2.2.2.2.2.2.2] b.N.toNat) fun(i:Arr Int 4)=>some (i,true) else none else ((Be (fun(v:Int×List (Arr Int 4))=>Hx c b rec_ v.1 v.2) (0,[])).bind fun x=>match x with
   |.inl j=>some (.inl j)
   |.inr z=>some z:Option ((List (Arr Int 4))⊕(Arr Int 4×Bool))).bind fun x=>match x with
   | .inl d=>if((c b.Op).getD ⟨0,0⟩).k=119 then (Hz d).bind fun e=>if(!e.2)then lt1 (⟨[0,0,0,0],rfl⟩:Arr Int 4) fun(l:Arr Int 4)=>some (l,false) else some (e.1,true) else if((c b.Op).getD ⟨0,0⟩).k=120 then (Hr d).bind fun f=>if(!f.2)then lt1 (⟨[0,0,0,0],rfl⟩:Arr Int 4) fun(m:Arr Int 4)=>some (m,false) else some (f.1,true) else if((c b.Op).getD ⟨0,0⟩).k=165 then (Ga d (((c b.Op).getD ⟨0,0⟩).n)).bind fun g=>if(!g.2)then lt1 (⟨[0,0,0,0],rfl⟩:Arr Int 4) fun(o:Arr Int 4)=>some (o,false) else some (g.1,true) else none
   |.inr z=>some z
def GW(n:Nat):JD->AoM->Option (Arr Int 4×Bool):=match n with
 |0=>fun _ _=>none
 |n+1=>Hd (GW n)
def QD(a:JD)(b:AoM):Option (Arr Int 4×Bool):=GW 18446744073709551616 a b
def GO(b:AoO)(d:JD)(a:Int):Option ((Int)⊕((Unit)⊕((Unit)⊕(Int×Int)))) :=if (decide (a<(b.Zf.length:Int)))then if InR a b.Zf.length then lt1 ((nth b.Zf a.toNat).Zd) fun(m:List UInt8)=>lt1 ((nth b.Zf a.toNat).Ze) fun(n:List AoK)=>lt1 (((nth b.Zf a.toNat).Pay).Op) fun(e:Int)=>lt1 (((nth b.Zf a.toNat).Pay).N) fun(f:Int)=>lt1 (((nth b.Zf a.toNat).Pay).Unit) fun(g:Arr Int 4)=>lt1 (((nth b.Zf a.toNat).Pay).L) fun(i:List AoM)=>(QD d (AoM.mk e f g i)).bind fun c=>(if(!c.2)then some true else some (!(c.1==(⟨[1,0,0,0],rfl⟩:Arr Int 4))):Option (Bool)).bind fun j=>if j then ((some (a,170)).bind fun k=>some (.inr k)).bind fun l=>some (.inr (.inr l)) else some (.inl (w64 (a+1))) else none else some (.inr (.inl ()))
def HE(a:AoO):Option (Int×Int) :=(Dg a).bind fun b=>if(b != 0)then some (0,b) else ttype_rules.bind fun c=>((Be (fun(v:Int)=>GO a c v) 0).bind fun x=>match x with
  |.inl ()=>some (.inl ())
  |.inr z=>some z:Option ((Unit)⊕(Int×Int))).bind fun x=>match x with
  |.inl ()=>some (0,0)
  |.inr z=>some z
def Az(c:Int)(a:Int)(b:List AoT):Option ((Int×List AoT)⊕(List AoT)) :=(if(decide (a>c))then if InR a b.length then if InR (w64 (a-1)) b.length then (BX ({ Ref:=(nth b a.toNat).Ref,By:=(nth b a.toNat).By,Zt:=(nth b a.toNat).Zt,Zu:=(nth b a.toNat).Zu }:AoT) ({ Ref:=(nth b ((w64 (a-1)).toNat)).Ref,By:=(nth b ((w64 (a-1)).toNat)).By,Zt:=(nth b ((w64 (a-1)).toNat)).Zt,Zu:=(nth b ((w64 (a-1)).toNat)).Zu }:AoT)).bind fun d=>some (decide (d<0)) else none else none else some false:Option (Bool)).bind fun e=>if e = true then if InR (w64 (a-1)) b.length then if InR a b.length then if InR a b.length then if InR (w64 (a-1)) ((b.set a.toNat ({ Ref:=(nth b ((w64 (a-1)).toNat)).Ref,By:=(nth b ((w64 (a-1)).toNat)).By,Zt:=(nth b ((w64 (a-1)).toNat)).Zt,Zu:=(nth b ((w64 (a-1)).toNat)).Zu }:AoT)).length)then lt1 ((b.set a.toNat ({ Ref:=(nth b ((w64 (a-1)).toNat)).Ref,By:=(nth b ((w64 (a-1)).toNat)).By,Zt:=(nth b ((w64 (a-1)).toNat)).Zt,Zu:=(nth b ((w64 (a-1)).toNat)).Zu }:AoT)).set ((w64 (a-1)).toNat) ({ Ref:=(nth b a.toNat).Ref,By:=(nth b a.toNat).By,Zt:=(nth b a.toNat).Zt,Zu:=(nth b a.toNat).Zu }:AoT)) fun(f:List AoT)=>some (.inl ((w64 (a-1)),f)) else none else none else none else none else some (.inr b)
def AW(c:Int)(d:Int)(a:Int)(b:List AoT):Option ((Int×List AoT)⊕(List AoT)) :=if(decide (a<d))then ((Be (fun(v:Int×List AoT)=>Az c v.1 v.2) (a,b)).bind fun e=>some e:Option (List AoT)).bind fun f=>some (.inl ((w64 (a+1)),f)) else some (.inr b)
def Aw(b:List AoT)(a:Int)(c:Int):Option (List AoT) :=(Be (fun(v:Int×List AoT)=>AW a c v.1 v.2) ((w64 (a+1)),b)).bind fun d=>some d
def AF(e:Int)(c:Int)(a:Int)(b:List AoT):Option ((Int×Int×List AoT)⊕(Int×List AoT)) :=if(decide (a<=e))then (Aw b c a).bind fun d=>if b.length=d.length then some (.inl (a,(w64 (a+20)),d)) else none else some (.inr (c,b))
def Cj(a:Int)(b:Int):Option ((Unit)⊕(Unit)) :=if(decide ((w64 (2*b))<=a))then none else some (.inr ())
def AE(b:Int)(a:Int):Option ((Int)⊕(Unit)) :=if(decide (a<b))then ((Be (fun(_:Unit)=>Cj b a ) ()).bind fun()=>some ():Option (Unit)).bind fun()=>(if(decide ((w64 (0+a))<b))then none else some ():Option (Unit)).bind fun()=>some (.inl (w64 (a*2))) else some (.inr ())
def BH(d:List AoT)(a:Int):Option (List AoT) :=((Be (fun(v:Int×Int×List AoT)=>AF a v.1 v.2.1 v.2.2) (0,20,d)).bind fun(e,f)=>some (e,f):Option (Int×List AoT)).bind fun(g,b)=>(Aw b g a).bind fun c=>if b.length=c.length then (Be (fun(v:Int)=>AE a v) 20).bind fun()=>some c else none
def Bg(a:List AoT):Option (List AoT) :=(BH a (a.length:Int)).bind fun b=>if a.length=b.length then some b else none
def Cp(b:List AoT)(g:Int)(i:Int)(a:Int)(c:List AoT):Option ((Int×List AoT)⊕(List AoT)) :=if (decide (a<(b.length:Int)))then (if InR a b.length then lt1 (((nth b a.toNat).Ref).Zg) fun(e:Int)=>lt1 (((nth b a.toNat).Ref).No) fun(j:Int)=>lt1 (((nth b a.toNat).By).Zg) fun(k:Int)=>lt1 (((nth b a.toNat).By).No) fun(l:Int)=>lt1 ((nth b a.toNat).Zt) fun(m:Int)=>lt1 (((nth b a.toNat).Zu).Za) fun(d:Int)=>lt1 ((((nth b a.toNat).Zu).Ref).Zg) fun(n:Int)=>lt1 ((((nth b a.toNat).Zu).Ref).No) fun(o:Int)=>lt1 (((nth b a.toNat).Zu).Zj) fun(p:Int)=>lt1 (((nth b a.toNat).Zu).Zk) fun(q:Int)=>lt1 (((nth b a.toNat).Zu).Zl) fun(s:Int)=>lt1 (((nth b a.toNat).Zu).Zm) fun(f:Int)=>lt1 (((nth b a.toNat).Zu).Zn) fun(t:Int)=>lt1 (((nth b a.toNat).Zu).To) fun(u:Int)=>lt1 (((nth b a.toNat).Zu).Code) fun(v:Int)=>lt1 (((nth b a.toNat).Zu).Zo) fun(w:Int)=>lt1 (((nth b a.toNat).Zu).Zp) fun(x:Int)=>lt1 (((nth b a.toNat).Zu).Zq) fun(y:Int)=>lt1 (((nth b a.toNat).Zu).Zr) fun(z:Int)=>lt1 (((nth b a.toNat).Zu).Zb) fun(aa:List UInt8)=>lt1 (((nth b a.toNat).Zu).Zs) fun(ab:List AoR)=>(if(e != g)then some true else some (f != i):Option (Bool)).bind fun ac=>if ac then some c else (if(d==11)then some true else if(d==12)then some true else some (d==13):Option (Bool)).bind fun ad=>if ad then if FY (c.length+1) 192 then lt1 (c++([({ Ref:=({ Zg:=e,No:=j }:AoQ),By:=({ Zg:=k,No:=l }:AoQ),Zt:=m,Zu:=({ Za:=d,Ref:=({ Zg:=n,No:=o }:AoQ),Zj:=p,Zk:=q,Zl:=s,Zm:=f,Zn:=t,To:=u,Code:=v,Zo:=w,Zp:=x,Zq:=y,Zr:=z,Zb:=aa,Zs:=ab }:AoS) }:AoT)]:List AoT)) fun(ae:List AoT)=>some ae else none else some c else none:Option (List AoT)).bind fun af=>some (.inl ((w64 (a+1)),af)) else some (.inr c)
def DZ(c:List AoT)(d:Int)(e:Int):Option (List AoT) :=((Be (fun(v:Int×List AoT)=>Cp c d e v.1 v.2) (0,[])).bind fun f=>some f:Option (List AoT)).bind fun a=>(Bg a).bind fun b=>if a.length=b.length then some b else none
def Dz(s1_8461:List AoM)(s2_8462:List AoM)(b:AoM->AoM->Option (Bool))(a:Int):Option ((Int)⊕((Unit)⊕((Unit)⊕(Bool)))) :=if (decide (a<(s1_8461.length:Int)))then if InR a s1_8461.length then lt1 ((nth s1_8461 a.toNat).Op) fun(c:Int)=>lt1 ((nth s1_8461 a.toNat).N) fun(d:Int)=>lt1 ((nth s1_8461 a.toNat).Unit) fun(e:Arr Int 4)=>lt1 ((nth s1_8461 a.toNat).L) fun(f:List AoM)=>if InR a s2_8462.length then lt1 ((nth s2_8462 a.toNat).Op) fun(g:Int)=>lt1 ((nth s2_8462 a.toNat).N) fun(i:Int)=>lt1 ((nth s2_8462 a.toNat).Unit) fun(j:Arr Int 4)=>lt1 ((nth s2_8462 a.toNat).L) fun(k:List AoM)=>(b (AoM.mk c d e f) (AoM.mk g i j k)).bind fun l=>if(!l)then ((some false).bind fun m=>some (.inr m)).bind fun n=>some (.inr (.inr n)) else some (.inl (w64 (a+1))) else none else none else some (.inr (.inl ()))
def Dt(s1_8461:List AoM)(s2_8462:List AoM)(a:AoM->AoM->Option (Bool)):Option (Bool) :=if((s1_8461.length:Int) != (s2_8462.length:Int))then some false else ((Be (fun(v:Int)=>Dz s1_8461 s2_8462 a v) 0).bind fun x=>match x with
  |.inl ()=>some (.inl ())
  |.inr z=>some z:Option ((Unit)⊕(Bool))).bind fun x=>match x with
  |.inl ()=>some true
  |.inr z=>some z
def DU(rec_:AoM->AoM->Option (Bool))(a:AoM)(b:AoM):Option (Bool) :=(if(a.Op==b.Op)then if(a.N==b.N)then if(a.Unit==b.Unit)then (Dt a.L b.L rec_).bind fun c=>some c else some false else some false else some false:Option (Bool)).bind fun d=>some d
def DX(n:Nat):AoM->AoM->Option (Bool):=match n with
 |0=>fun _ _=>none
 |n+1=>DU (DX n)
def JO(a:AoM)(b:AoM):Option (Bool):=DX 18446744073709551616 a b
def Fh(a:AoN)(b:AoN):Option (Bool) :=(if(a.Zd==b.Zd)then (EH a.Ze b.Ze).bind fun c=>if c then (JO a.Pay b.Pay).bind fun d=>some d else some false else some false:Option (Bool)).bind fun e=>some e
def Dx(s1_8598:List AoN)(s2_8599:List AoN)(b:AoN->AoN->Option (Bool))(a:Int):Option ((Int)⊕((Unit)⊕((Unit)⊕(Bool)))) :=if (decide (a<(s1_8598.length:Int)))then if InR a s1_8598.length then lt1 ((nth s1_8598 a.toNat).Zd) fun(c:List UInt8)=>lt1 ((nth s1_8598 a.toNat).Ze) fun(d:List AoK)=>lt1 (((nth s1_8598 a.toNat).Pay).Op) fun(e:Int)=>lt1 (((nth s1_8598 a.toNat).Pay).N) fun(f:Int)=>lt1 (((nth s1_8598 a.toNat).Pay).Unit) fun(g:Arr Int 4)=>lt1 (((nth s1_8598 a.toNat).Pay).L) fun(i:List AoM)=>if InR a s2_8599.length then lt1 ((nth s2_8599 a.toNat).Zd) fun(j:List UInt8)=>lt1 ((nth s2_8599 a.toNat).Ze) fun(k:List AoK)=>lt1 (((nth s2_8599 a.toNat).Pay).Op) fun(l:Int)=>lt1 (((nth s2_8599 a.toNat).Pay).N) fun(m:Int)=>lt1 (((nth s2_8599 a.toNat).Pay).Unit) fun(n:Arr Int 4)=>lt1 (((nth s2_8599 a.toNat).Pay).L) fun(o:List AoM)=>(b ({ Zd:=c,Ze:=d,Pay:=(AoM.mk e f g i) }:AoN) ({ Zd:=j,Ze:=k,Pay:=(AoM.mk l m n o) }:AoN)).bind fun p=>if(!p)then ((some false).bind fun q=>some (.inr q)).bind fun s=>some (.inr (.inr s)) else some (.inl (w64 (a+1))) else none else none else some (.inr (.inl ()))
def Dn(s1_8598:List AoN)(s2_8599:List AoN)(a:AoN->AoN->Option (Bool)):Option (Bool) :=if((s1_8598.length:Int) != (s2_8599.length:Int))then some false else ((Be (fun(v:Int)=>Dx s1_8598 s2_8599 a v) 0).bind fun x=>match x with
  |.inl ()=>some (.inl ())
  |.inr z=>some z:Option ((Unit)⊕(Bool))).bind fun x=>match x with
  |.inl ()=>some true
  |.inr z=>some z
def Ch(a:AoO)(b:AoO):Option (Bool) :=(if(a.Zd==b.Zd)then if(a.For==b.For)then (Dn a.Zf b.Zf Fh).bind fun c=>some c else some false else some false:Option (Bool)).bind fun d=>some d
def FK(b:AoO)(c:AoN)(a:Int):Option ((Int)⊕((Unit)⊕((Unit)⊕(Bool)))) :=if (decide (a<(b.Zf.length:Int)))then if InR a b.Zf.length then lt1 ((nth b.Zf a.toNat).Zd) fun(d:List UInt8)=>lt1 ((nth b.Zf a.toNat).Ze) fun(e:List AoK)=>lt1 (((nth b.Zf a.toNat).Pay).Op) fun(f:Int)=>lt1 (((nth b.Zf a.toNat).Pay).N) fun(g:Int)=>lt1 (((nth b.Zf a.toNat).Pay).Unit) fun(i:Arr Int 4)=>lt1 (((nth b.Zf a.toNat).Pay).L) fun(j:List AoM)=>(Ch ({ Zd:=([]:List UInt8),For:=0,Zf:=([c]:List AoN) }:AoO) ({ Zd:=([]:List UInt8),For:=0,Zf:=([({ Zd:=d,Ze:=e,Pay:=(AoM.mk f g i j) }:AoN)]:List AoN) }:AoO)).bind fun k=>if k then ((some true).bind fun l=>some (.inr l)).bind fun m=>some (.inr (.inr m)) else some (.inl (w64 (a+1))) else none else some (.inr (.inl ()))
def Gt(a:AoO)(b:AoN):Option (Bool) :=((Be (fun(v:Int)=>FK a b v) 0).bind fun x=>match x with
 |.inl ()=>some (.inl ())
 |.inr z=>some z:Option ((Unit)⊕(Bool))).bind fun x=>match x with
 |.inl ()=>some false
 |.inr z=>some z
def Fo(b:List AoT)(c:Int)(a:Int):Option ((Int×Int)⊕(Int)) :=if(decide (a<(b.length:Int)))then if InR a b.length then lt1 (((nth b a.toNat).Ref).Zg) fun(f:Int)=>lt1 (((nth b a.toNat).Ref).No) fun(g:Int)=>lt1 (((nth b a.toNat).By).Zg) fun(i:Int)=>lt1 (((nth b a.toNat).By).No) fun(j:Int)=>lt1 ((nth b a.toNat).Zt) fun(k:Int)=>lt1 (((nth b a.toNat).Zu).Za) fun(l:Int)=>lt1 ((((nth b a.toNat).Zu).Ref).Zg) fun(m:Int)=>lt1 ((((nth b a.toNat).Zu).Ref).No) fun(n:Int)=>lt1 (((nth b a.toNat).Zu).Zj) fun(o:Int)=>lt1 (((nth b a.toNat).Zu).Zk) fun(p:Int)=>lt1 (((nth b a.toNat).Zu).Zl) fun(q:Int)=>lt1 (((nth b a.toNat).Zu).Zm) fun(s:Int)=>lt1 (((nth b a.toNat).Zu).Zn) fun(t:Int)=>lt1 (((nth b a.toNat).Zu).To) fun(u:Int)=>lt1 (((nth b a.toNat).Zu).Code) fun(v:Int)=>lt1 (((nth b a.toNat).Zu).Zo) fun(w:Int)=>lt1 (((nth b a.toNat).Zu).Zp) fun(x:Int)=>lt1 (((nth b a.toNat).Zu).Zq) fun(y:Int)=>lt1 (((nth b a.toNat).Zu).Zr) fun(z:Int)=>lt1 (((nth b a.toNat).Zu).Zb) fun(d:List UInt8)=>lt1 (((nth b a.toNat).Zu).Zs) fun(aa:List AoR)=>lt1 (w64 (c+(d.length:Int))) fun(e:Int)=>some (.inl (e,(w64 (a+1)))) else none else some (.inr c)
def FB(a:List AoT):Option (Bool) :=((Be (fun(v:Int×Int)=>Fo a v.1 v.2) (0,0)).bind fun b=>some b:Option (Int)).bind fun c=>(if(decide ((a.length:Int)<=8))then some (decide (c<=2000)) else some false:Option (Bool)).bind fun d=>some d
def strconv_Itoa(n:Int):Option (List UInt8):=AcL n
def Aq(a:AoV)(b:List (List UInt8)):Option (AoV) :=if FY (a.l.length+b.length) 16 then lt1 (a.l++b) fun(c:List (List UInt8))=>some ({ l:=c }:AoV) else none
def Bm(a:AoV)(b:Int):Option (AoV) :=(strconv_Itoa b).bind fun c=>(Aq a ([c]:List (List UInt8))).bind fun d=>lt1 d.l fun(e:List (List UInt8))=>some ({ l:=e }:AoV)
def Ds(d:AoV)(e:Arr Int 4):Option (AoV) :=(Bi ([109,111,110,101,121,32,109,105,110,117,116,101,32,107,109,32,107,103]:List UInt8)).bind fun a=>((Cy e.l 1).bind fun b=>if(decide (b≥0))then if InR b a.length then (Aq d ([nth a b.toNat]:List (List UInt8))).bind fun g=>lt1 g.l fun(i:List (List UInt8))=>some i else none else some d.l:Option (List (List UInt8))).bind fun f=>(Cy e.l (-1)).bind fun c=>if(decide (c≥0))then if InR c a.length then (Aq ({ l:=f }:AoV) ([([112,101,114]:List UInt8),nth a c.toNat]:List (List UInt8))).bind fun j=>lt1 j.l fun(k:List (List UInt8))=>some ({ l:=k }:AoV) else none else some ({ l:=f }:AoV)
def B8(e:AoV->AoM->Option (AoV))(b:List (List UInt8))(c:AoM)(a:Int)(d:List (List UInt8)):Option ((Int×List (List UInt8))⊕(List (List UInt8))) :=if (decide (a<(b.length:Int)))then if InR a b.length then lt1 (nth b a.toNat) fun(f:List UInt8)=>if InR a c.L.length then (e ({ l:=d }:AoV) (nth c.L a.toNat)).bind fun g=>lt1 g.l fun(i:List (List UInt8))=>(Aq ({ l:=i }:AoV) ([f]:List (List UInt8))).bind fun j=>lt1 j.l fun(k:List (List UInt8))=>some (.inl ((w64 (a+1)),k)) else none else none else some (.inr d)
def BZ(a:AoV->AoM->Option (AoV))(b:List UInt8)(c:List (List UInt8))(d:AoV)(e:AoM):Option (AoV) :=(Aq d ([b,([40]:List UInt8)]:List (List UInt8))).bind fun f=>lt1 f.l fun(g:List (List UInt8))=>(Be (fun(v:Int×List (List UInt8))=>B8 a c e v.1 v.2) (0,g)).bind fun i=>some ({ l:=i }:AoV)
def BQ(b:AoV->AoM->Option (AoV))(c:AoV)(a:AoM)(d:Int):Option (AoV) :=(EL a.Op).bind fun e=>if(decide (e≥d))then (b c a).bind fun f=>lt1 f.l fun(g:List (List UInt8))=>some ({ l:=g }:AoV) else (Aq c ([([40]:List UInt8)]:List (List UInt8))).bind fun i=>lt1 i.l fun(j:List (List UInt8))=>(b ({ l:=j }:AoV) a).bind fun k=>lt1 k.l fun(m:List (List UInt8))=>(Aq ({ l:=m }:AoV) ([([41]:List UInt8)]:List (List UInt8))).bind fun n=>lt1 n.l fun(o:List (List UInt8))=>some ({ l:=o }:AoV)
def CH(rec_:AoV->AoM->Option (AoV))(b:AoV)(a:AoM):Option (AoV) :=if(a.Op==1)then (Bm b a.N).bind fun e=>lt1 e.l fun(f:List (List UInt8))=>(Ds ({ l:=f }:AoV) a.Unit).bind fun g=>lt1 g.l fun(i:List (List UInt8))=>some ({ l:=i }:AoV) else if(a.Op==2)then (Bi ([116,121,112,101,32,111,119,110,101,114,32,114,97,105,108,119,97,121,32,115,104,105,112,112,101,114,32,99,108,97,115,115,32,119,101,105,103,104,116,32,107,109,32,109,105,110,117,116,101,115,32,119,111,114,107,105,110,103,32,99,111,100,101,32,119,111,114,116,104,32,99,111,115,116,32,109,111,110,116,104,32,98,101,103,105,110,32,112,97,114,116,115,32,112,97,114,116]:List UInt8)).bind fun c=>if InR a.N c.length then (Aq b ([nth c a.N.toNat]:List (List UInt8))).bind fun j=>lt1 j.l fun(k:List (List UInt8))=>some ({ l:=k }:AoV) else none else if(a.Op==11)then (BZ rec_ ([105,102]:List UInt8) ([([60]:List UInt8),([44]:List UInt8),([44]:List UInt8),([41]:List UInt8)]:List (List UInt8)) b a).bind fun m=>lt1 m.l fun(n:List (List UInt8))=>some ({ l:=n }:AoV) else (if(a.Op==3)then some (a.Op==3) else if(a.Op==4)then some (a.Op==4) else some (a.Op==5):Option (Bool)).bind fun o=>if o then if InR 0 a.L.length then (EL a.Op).bind fun p=>(BQ rec_ b (nth a.L 0) p).bind fun q=>lt1 q.l fun(s:List (List UInt8))=>if InR (w64 (a.Op-3)) (([([43]:List UInt8),([45]:List UInt8),([42]:List UInt8)]:List (List UInt8)).length)then (Aq ({ l:=s }:AoV) ([nth ([([43]:List UInt8),([45]:List UInt8),([42]:List UInt8)]:List (List UInt8)) ((w64 (a.Op-3)).toNat)]:List (List UInt8))).bind fun t=>lt1 t.l fun(u:List (List UInt8))=>if InR 1 a.L.length then (EL a.Op).bind fun v=>(BQ rec_ ({ l:=u }:AoV) (nth a.L 1) (w64 (v+1))).bind fun w=>lt1 w.l fun(x:List (List UInt8))=>some ({ l:=x }:AoV) else none else none else none else (Bi ([109,105,110,32,109,97,120,32,100,111,119,110,32,117,112,32,104,97,108,102]:List UInt8)).bind fun d=>if InR (w64 (a.Op-6)) d.length then (BZ rec_ (nth d ((w64 (a.Op-6)).toNat)) ([([44]:List UInt8),([41]:List UInt8)]:List (List UInt8)) b a).bind fun y=>lt1 y.l fun(z:List (List UInt8))=>some ({ l:=z }:AoV) else none
def D8(n:Nat):AoV->AoM->Option (AoV):=match n with
 |0=>fun _ _=>none
 |n+1=>CH (D8 n)
def FP(a:AoV)(b:AoM):Option (AoV):=D8 18446744073709551616 a b
def B7(b:AoN)(a:Int)(d:List (List UInt8)):Option ((Int×List (List UInt8))⊕(List (List UInt8))) :=if (decide (a<(b.Ze.length:Int)))then (if InR a b.Ze.length then lt1 ((nth b.Ze a.toNat).Attr) fun(e:Int)=>lt1 ((nth b.Ze a.toNat).Low) fun(c:Int)=>lt1 ((nth b.Ze a.toNat).Zc) fun(f:Int)=>if InR (Qm a 1) (([([119,104,101,110]:List UInt8),([97,110,100]:List UInt8)]:List (List UInt8)).length)then (Bi ([116,121,112,101,32,111,119,110,101,114,32,114,97,105,108,119,97,121,32,115,104,105,112,112,101,114,32,99,108,97,115,115,32,119,101,105,103,104,116,32,107,109,32,109,105,110,117,116,101,115,32,119,111,114,107,105,110,103,32,99,111,100,101,32,119,111,114,116,104,32,99,111,115,116,32,109,111,110,116,104,32,98,101,103,105,110,32,112,97,114,116,115,32,112,97,114,116]:List UInt8)).bind fun g=>if InR e g.length then (Aq ({ l:=d }:AoV) ([nth ([([119,104,101,110]:List UInt8),([97,110,100]:List UInt8)]:List (List UInt8)) ((Qm a 1).toNat),nth g e.toNat]:List (List UInt8))).bind fun j=>lt1 j.l fun(i:List (List UInt8))=>if(c==f)then (Aq ({ l:=i }:AoV) ([([105,115]:List UInt8)]:List (List UInt8))).bind fun k=>lt1 k.l fun(m:List (List UInt8))=>(Bm ({ l:=m }:AoV) c).bind fun n=>lt1 n.l fun(o:List (List UInt8))=>some o else (Aq ({ l:=i }:AoV) ([([105,110]:List UInt8)]:List (List UInt8))).bind fun p=>lt1 p.l fun(q:List (List UInt8))=>(Bm ({ l:=q }:AoV) c).bind fun s=>lt1 s.l fun(t:List (List UInt8))=>(Aq ({ l:=t }:AoV) ([([46,46]:List UInt8)]:List (List UInt8))).bind fun u=>lt1 u.l fun(v:List (List UInt8))=>(Bm ({ l:=v }:AoV) f).bind fun w=>lt1 w.l fun(x:List (List UInt8))=>some x else none else none else none:Option (List (List UInt8))).bind fun y=>some (.inl ((w64 (a+1)),y)) else some (.inr d)
def CG(b:AoV)(a:AoN):Option (AoV) :=(Aq b ([([99,108,97,117,115,101]:List UInt8),a.Zd]:List (List UInt8))).bind fun c=>lt1 c.l fun(d:List (List UInt8))=>((Be (fun(v:Int×List (List UInt8))=>B7 a v.1 v.2) (0,d)).bind fun e=>some e:Option (List (List UInt8))).bind fun f=>(Aq ({ l:=f }:AoV) ([([112,97,121]:List UInt8)]:List (List UInt8))).bind fun g=>lt1 g.l fun(i:List (List UInt8))=>(FP ({ l:=i }:AoV) a.Pay).bind fun j=>lt1 j.l fun(k:List (List UInt8))=>(Aq ({ l:=k }:AoV) ([([59]:List UInt8)]:List (List UInt8))).bind fun m=>lt1 m.l fun(n:List (List UInt8))=>some ({ l:=n }:AoV)
def Kh(xs:List (List UInt8))(sep:List UInt8):Option (List UInt8):=Aej xs sep
def Eb(b:AoO)(a:Int)(c:List (List UInt8)):Option ((Int×List (List UInt8))⊕(List (List UInt8))) :=if(decide (a<(b.Zf.length:Int)))then if InR a b.Zf.length then lt1 ((nth b.Zf a.toNat).Zd) fun(d:List UInt8)=>lt1 ((nth b.Zf a.toNat).Ze) fun(e:List AoK)=>lt1 (((nth b.Zf a.toNat).Pay).Op) fun(f:Int)=>lt1 (((nth b.Zf a.toNat).Pay).N) fun(g:Int)=>lt1 (((nth b.Zf a.toNat).Pay).Unit) fun(i:Arr Int 4)=>lt1 (((nth b.Zf a.toNat).Pay).L) fun(j:List AoM)=>(CG ({ l:=c }:AoV) ({ Zd:=d,Ze:=e,Pay:=(AoM.mk f g i j) }:AoN)).bind fun k=>lt1 k.l fun(m:List (List UInt8))=>some (.inl ((w64 (a+1)),m)) else none else some (.inr c)
def Ee(a:AoO):Option (List UInt8×Int) :=(Dg a).bind fun b=>if(b != 0)then some (([]:List UInt8),b) else (Bi ([104,105,114,101,32,100,101,109,117,114,114,97,103,101,32,102,114,101,105,103,104,116,32,114,101,112,97,105,114,32,108,111,115,115,32,99,108,101,97,110,105,110,103]:List UInt8)).bind fun c=>if InR (w64 (a.For-1)) c.length then (Aq ({ l:=[] }:AoV) ([([116,97,114,105,102,102]:List UInt8),a.Zd,([102,111,114]:List UInt8),nth c ((w64 (a.For-1)).toNat),([123]:List UInt8)]:List (List UInt8))).bind fun e=>lt1 e.l fun(f:List (List UInt8))=>((Be (fun(v:Int×List (List UInt8))=>Eb a v.1 v.2) (0,f)).bind fun g=>some g:Option (List (List UInt8))).bind fun i=>(Aq ({ l:=i }:AoV) ([([125]:List UInt8)]:List (List UInt8))).bind fun j=>lt1 j.l fun(k:List (List UInt8))=>(Kh k ([32]:List UInt8)).bind fun d=>if(decide ((d.length:Int)>2000))then some (([]:List UInt8),2) else some (d,0) else none
def AZ(a:AoW)(b:Int):Option (AoW) :=if InR b a.code.length then lt1 (a.code.set b.toNat ({ Op:=(nth a.code b.toNat).Op,N:=(a.code.length:Int),M:=(nth a.code b.toNat).M }:AoU)) fun(c:List AoU)=>some ({ code:=c }:AoW) else none
def Ar(a:AoW)(b:Int)(c:Int)(d:Int):Option (Int×AoW) :=lt1 (a.code.length:Int) fun(e:Int)=>if FY (a.code.length+1) 24 then lt1 (a.code++([({ Op:=b,N:=c,M:=d }:AoU)]:List AoU)) fun(f:List AoU)=>some (e,({ code:=f }:AoW)) else none
def BA(rec_:AoW->AoM->Option (AoW))(b:AoW)(a:AoM):Option (AoW) :=if(a.Op==1)then (Ar b 1 a.N 0).bind fun e=>lt1 e.2.code fun(f:List AoU)=>some ({ code:=f }:AoW) else if(a.Op==2)then (Ar b 2 a.N 0).bind fun g=>lt1 g.2.code fun(i:List AoU)=>some ({ code:=i }:AoW) else if (a.Op==11)then if InR 0 a.L.length then (rec_ b (nth a.L 0)).bind fun j=>lt1 j.code fun(k:List AoU)=>if InR 1 a.L.length then (rec_ ({ code:=k }:AoW) (nth a.L 1)).bind fun l=>lt1 l.code fun(m:List AoU)=>(Ar ({ code:=m }:AoW) 11 0 0).bind fun n=>lt1 n.2.code fun(o:List AoU)=>(Ar ({ code:=o }:AoW) 13 0 0).bind fun c=>lt1 c.2.code fun(p:List AoU)=>if InR 2 a.L.length then (rec_ ({ code:=p }:AoW) (nth a.L 2)).bind fun q=>lt1 q.code fun(s:List AoU)=>(Ar ({ code:=s }:AoW) 14 0 0).bind fun d=>lt1 d.2.code fun(t:List AoU)=>(AZ ({ code:=t }:AoW) c.1).bind fun u=>lt1 u.code fun(v:List AoU)=>if InR 3 a.L.length then (rec_ ({ code:=v }:AoW) (nth a.L 3)).bind fun w=>lt1 w.code fun(x:List AoU)=>(AZ ({ code:=x }:AoW) d.1).bind fun y=>lt1 y.code fun(z:List AoU)=>some ({ code:=z }:AoW) else none else none else none else none else if InR 0 a.L.length then (rec_ b (nth a.L 0)).bind fun aa=>lt1 aa.code fun(ab:List AoU)=>if InR 1 a.L.length then (rec_ ({ code:=ab }:AoW) (nth a.L 1)).bind fun ac=>lt1 ac.code fun(ad:List AoU)=>(Ar ({ code:=ad }:AoW) (w64 ((w64 (3+a.Op))-3)) 0 0).bind fun ae=>lt1 ae.2.code fun(af:List AoU)=>some ({ code:=af }:AoW) else none else none
def Cg(n:Nat):AoW->AoM->Option (AoW):=match n with
 |0=>fun _ _=>none
 |n+1=>BA (Cg n)
def F5(a:AoW)(b:AoM):Option (AoW):=Cg 18446744073709551616 a b
def EI(e:List AoU)(f:Int)(d:Int)(b:List Int)(a:Int)(c:List Int):Option ((Int×List Int)⊕((List Int)⊕((Int×List Int)⊕((Int×Int×List Int)⊕((Int)⊕((Int)⊕(Int×Int))))))) :=if (decide (a<(b.length:Int)))then if InR a b.length then (if(decide (nth b a.toNat<=f))then some true else if(decide (nth b a.toNat≥(e.length:Int)))then some true else if InR (nth b a.toNat) c.length then if(decide (nth c ((nth b a.toNat).toNat)≥0))then if InR (nth b a.toNat) c.length then some (nth c ((nth b a.toNat).toNat) != d) else none else some false else none:Option (Bool)).bind fun g=>if g then ((((some (0,200)).bind fun i=>some (.inr i)).bind fun j=>some (.inr (.inr j))).bind fun k=>some (.inr k)).bind fun l=>some (.inr (.inr l)) else if InR (nth b a.toNat) c.length then lt1 (c.set ((nth b a.toNat).toNat) d) fun(m:List Int)=>some (.inl ((w64 (a+1)),m)) else none else none else some (.inr (.inl c))
def Gv(d:List AoU)(e:Int)(a:Int)(b:List Int):Option ((Int×Int×List Int)⊕((Int)⊕((Int)⊕(Int×Int)))) :=if (decide (a<(d.length:Int)))then (if InR a d.length then lt1 ((nth d a.toNat).Op) fun(c:Int)=>lt1 ((nth d a.toNat).N) fun(j:Int)=>lt1 ((nth d a.toNat).M) fun(ab:Int)=>if InR a b.length then if(decide (nth b a.toNat<0))then some (.inl (e,b)) else (Hc c).bind fun f=>lt1 (w64 ((w64 (nth b a.toNat-f.1))+f.2)) fun(i:Int)=>lt1 (Qe (Qe e (nth b a.toNat)) i) fun(k:Int)=>(if(decide (nth b a.toNat<f.1))then some true else if (c==15)then if(nth b a.toNat != 1)then some true else if(c==16)then some (nth b a.toNat != 0) else some false else if(c==16)then some (nth b a.toNat != 0) else some false:Option (Bool)).bind fun l=>if l then (((some (0,200)).bind fun m=>some (.inr m)).bind fun n=>some (.inr (.inr n))).bind fun o=>some (.inr o) else ((if(c==13)then some true else some (c==14):Option (Bool)).bind fun p=>if p then lt1 ([j]:List Int) fun(q:List Int)=>some q else some ([]):Option (List Int)).bind fun g=>((if(c != 14)then if(c != 15)then some (c != 16) else some false else some false:Option (Bool)).bind fun s=>if s then if FY (g.length+1) 8 then lt1 (g++([(w64 (a+1))]:List Int)) fun(t:List Int)=>some t else none else some g:Option (List Int)).bind fun u=>(Be (fun(v:Int×List Int)=>EI d a i u v.1 v.2) (0,b)).bind fun x=>match x with
      |.inl w=>some (.inl (k,w))
      |.inr z=>some z else none else none:Option ((Int×List Int)⊕((Int×Int×List Int)⊕((Int)⊕((Int)⊕(Int×Int)))))).bind fun x=>match x with
  |.inl (y,aa)=>some (.inl (y,(w64 (a+1)),aa))
  |.inr z=>some z else some (.inr (.inl e))
def GX(a:List AoU):Option (Int×Int) :=if(decide ((a.length:Int)>4096))then some (0,2) else (if((a.length:Int)==0)then some true else (C4 a F6).bind fun d=>some d:Option (Bool)).bind fun e=>if e then some (0,200) else (Eu ([(-1)]:List Int) (a.length:Int)).bind fun b=>if InR 0 b.length then lt1 (b.set 0 0) fun(f:List Int)=>((Be (fun(v:Int×Int×List Int)=>Gv a v.1 v.2.1 v.2.2) (0,0,f)).bind fun x=>match x with
    |.inl g=>some (.inl g)
    |.inr z=>some z:Option ((Int)⊕(Int×Int))).bind fun x=>match x with
    | .inl c=>if(decide (c>64))then some (0,2) else some (c,0)
    |.inr z=>some z else none
def BO:List AoK->AoW->List Int->Option (AoW×List Int)
 |[],c,ats=>some (c,ats)
 |t::l,c,ats=>(Ar c 2 t.Attr 0).bind fun y1=>(Ar y1.2 12 t.Low t.Zc).bind fun y2=>(Ar y2.2 13 0 0).bind fun y3=>BO l y3.2 (y3.1::ats)
def Cn:List Int->AoW->Option AoW
 |[],c=>some c
 |a::l,c=>(AZ c a).bind (Cn l)
def CF(c:AoW)(x:AoN)(index:Int):Option AoW :=if x.Ze.length<4611686018427387904 then (BO x.Ze c []).bind fun s=>(F5 s.1 x.Pay).bind fun c1=>(Ar c1 15 index 0).bind fun y=>Cn s.2 y.2 else none
def FF(b:AoO)(a:Int)(c:List AoU):Option ((Int×List AoU)⊕(List AoU)) :=if(decide (a<(b.Zf.length:Int)))then if InR a b.Zf.length then lt1 ((nth b.Zf a.toNat).Zd) fun(d:List UInt8)=>lt1 ((nth b.Zf a.toNat).Ze) fun(e:List AoK)=>lt1 (((nth b.Zf a.toNat).Pay).Op) fun(f:Int)=>lt1 (((nth b.Zf a.toNat).Pay).N) fun(g:Int)=>lt1 (((nth b.Zf a.toNat).Pay).Unit) fun(i:Arr Int 4)=>lt1 (((nth b.Zf a.toNat).Pay).L) fun(j:List AoM)=>(CF ({ code:=c }:AoW) ({ Zd:=d,Ze:=e,Pay:=(AoM.mk f g i j) }:AoN) a).bind fun k=>lt1 k.code fun(l:List AoU)=>some (.inl ((w64 (a+1)),l)) else none else some (.inr c)
def Fk(a:AoO):Option (List AoU×Int) :=(Dg a).bind fun b=>if(b != 0)then some ([],b) else ((Be (fun(v:Int×List AoU)=>FF a v.1 v.2) (0,[])).bind fun d=>some d:Option (List AoU)).bind fun e=>(Ar ({ code:=e }:AoW) 16 0 0).bind fun f=>lt1 f.2.code fun(c:List AoU)=>(GX c).bind fun g=>if(g.2 != 0)then some ([],2) else some (c,0)
def FG(a:AoO):Option (Int) :=(Ee a).bind fun b=>some b.2
def FE(a:AoO):Option (Int) :=(HE a).bind fun b=>some b.2
def FJ(a:AoO):Option (Int) :=(E4 a).bind fun b=>some b
def FM(a:AoO):Option (Int) :=(Fk a).bind fun b=>some b.2
def BT(a:AoO):Option (Int) :=((FG a).bind fun b=>if(b != 0)then (some b).bind fun f=>some (.inr f) else (FE a).bind fun c=>if(c != 0)then (some c).bind fun g=>some (.inr g) else (FJ a).bind fun d=>if(d != 0)then (some d).bind fun i=>some (.inr i) else (FM a).bind fun e=>if(e != 0)then (some e).bind fun j=>some (.inr j) else some (.inl ()):Option ((Unit)⊕(Int))).bind fun x=>match x with
 |.inl ()=>some 0
 |.inr z=>some z
def BC(a:AoO):Option (Int) :=(BT a).bind fun b=>some b
def Ff(b:AoO)(a:Int)(c:RA):Option ((Int×RA)⊕(RA)) :=if(decide (a<(b.Zf.length:Int)))then if InR a b.Zf.length then lt1 ((nth b.Zf a.toNat).Zd) fun(d:List UInt8)=>lt1 ((nth b.Zf a.toNat).Ze) fun(e:List AoK)=>lt1 (((nth b.Zf a.toNat).Pay).Op) fun(f:Int)=>lt1 (((nth b.Zf a.toNat).Pay).N) fun(g:Int)=>lt1 (((nth b.Zf a.toNat).Pay).Unit) fun(i:Arr Int 4)=>lt1 (((nth b.Zf a.toNat).Pay).L) fun(j:List AoM)=>lt1 (up2 c d (some ({ Zd:=d,Ze:=e,Pay:=(AoM.mk f g i j) }:AoN))) fun(k:RA)=>some (.inl ((w64 (a+1)),k)) else none else some (.inr c)
def Fl(e:List AoN)(a:Int)(c:RA)(b:List AoN):Option ((Int×RA×List AoN)⊕(RA×List AoN)) :=if (decide (a<(e.length:Int)))then (if InR a b.length then lt1 ((nth b a.toNat).Zd) fun(d:List UInt8)=>lt1 ((nth b a.toNat).Ze) fun(q:List AoK)=>lt1 (((nth b a.toNat).Pay).Op) fun(s:Int)=>lt1 (((nth b a.toNat).Pay).N) fun(t:Int)=>lt1 (((nth b a.toNat).Pay).Unit) fun(u:Arr Int 4)=>lt1 (((nth b a.toNat).Pay).L) fun(v:List AoM)=>lt1 (((c d).getD R1).Zd) fun(f:List UInt8)=>lt1 (((c d).getD R1).Ze) fun(g:List AoK)=>lt1 ((((c d).getD R1).Pay).Op) fun(i:Int)=>lt1 ((((c d).getD R1).Pay).N) fun(j:Int)=>lt1 ((((c d).getD R1).Pay).Unit) fun(k:Arr Int 4)=>lt1 ((((c d).getD R1).Pay).L) fun(l:List AoM)=>if(c d).isSome=true then if InR a b.length then lt1 (b.set a.toNat ({ Zd:=f,Ze:=g,Pay:=(AoM.mk i j k l) }:AoN)) fun(m:List AoN)=>lt1 (up2 c d none) fun(n:RA)=>some (n,m) else none else some (c,b) else none:Option (RA×List AoN)).bind fun(o,p)=>some (.inl ((w64 (a+1)),o,p)) else some (.inr (c,b))
def Fj(b:AoO)(d:RA)(a:Int)(e:List AoN):Option ((Int×List AoN)⊕(List AoN)) :=if (decide (a<(b.Zf.length:Int)))then (if InR a b.Zf.length then lt1 ((nth b.Zf a.toNat).Zd) fun(c:List UInt8)=>lt1 ((nth b.Zf a.toNat).Ze) fun(f:List AoK)=>lt1 (((nth b.Zf a.toNat).Pay).Op) fun(g:Int)=>lt1 (((nth b.Zf a.toNat).Pay).N) fun(i:Int)=>lt1 (((nth b.Zf a.toNat).Pay).Unit) fun(j:Arr Int 4)=>lt1 (((nth b.Zf a.toNat).Pay).L) fun(k:List AoM)=>lt1 (((d c).getD R1).Zd) fun(n:List UInt8)=>lt1 (((d c).getD R1).Ze) fun(o:List AoK)=>lt1 ((((d c).getD R1).Pay).Op) fun(p:Int)=>lt1 ((((d c).getD R1).Pay).N) fun(q:Int)=>lt1 ((((d c).getD R1).Pay).Unit) fun(s:Arr Int 4)=>lt1 ((((d c).getD R1).Pay).L) fun(t:List AoM)=>if(d c).isSome=true then if FY (e.length+1) 112 then lt1 (e++([({ Zd:=c,Ze:=f,Pay:=(AoM.mk g i j k) }:AoN)]:List AoN)) fun(l:List AoN)=>some l else none else some e else none:Option (List AoN)).bind fun m=>some (.inl ((w64 (a+1)),m)) else some (.inr e)
def DK(a:AoO)(b:AoO):Option (AoO) :=((Be (fun(v:Int×RA)=>Ff b v.1 v.2) (0,no2)).bind fun d=>some d:Option (RA)).bind fun e=>(EN a.Zf).bind fun c=>((Be (fun(v:Int×RA×List AoN)=>Fl c v.1 v.2.1 v.2.2) (0,e,c)).bind fun(f,g)=>some (f,g):Option (RA×List AoN)).bind fun(i,j)=>((Be (fun(v:Int×List AoN)=>Fj b i v.1 v.2) (0,j)).bind fun k=>some k:Option (List AoN)).bind fun l=>some ({ Zd:=a.Zd,For:=a.For,Zf:=l }:AoO)
def DC(e:List UInt8)(b:Int):Option (AoO×Int) :=(if(decide (b<1))then some true else some (decide (b>6)):Option (Bool)).bind fun f=>if f then some (({ Zd:=([]:List UInt8),For:=0,Zf:=[] }:AoO),1) else (ED e).bind fun a=>((if(a.2.2==0)then some (a.1.For != b) else some false:Option (Bool)).bind fun g=>if g then some 220 else some a.2.2:Option (Int)).bind fun c=>(if(c==0)then (BC a.1).bind fun i=>some i else some c:Option (Int)).bind fun d=>if(d != 0)then some (({ Zd:=([]:List UInt8),For:=0,Zf:=[] }:AoO),d) else some (a.1,0)
def En(k:Int)(l:Int)(b:List AoT)(c:Bool)(a:Int)(d:List UInt8)(e:Int)(f:List AoN):Option ((Bool×Int×List UInt8×Int×List AoN)⊕(Bool×List UInt8×Int×List AoN)) :=if (decide (a<(b.length:Int)))then (if InR a b.length then lt1 (((nth b a.toNat).Ref).Zg) fun(v:Int)=>lt1 (((nth b a.toNat).Ref).No) fun(w:Int)=>lt1 (((nth b a.toNat).By).Zg) fun(y:Int)=>lt1 (((nth b a.toNat).By).No) fun(aa:Int)=>lt1 ((nth b a.toNat).Zt) fun(ab:Int)=>lt1 (((nth b a.toNat).Zu).Za) fun(j:Int)=>lt1 ((((nth b a.toNat).Zu).Ref).Zg) fun(ac:Int)=>lt1 ((((nth b a.toNat).Zu).Ref).No) fun(ad:Int)=>lt1 (((nth b a.toNat).Zu).Zj) fun(ae:Int)=>lt1 (((nth b a.toNat).Zu).Zk) fun(af:Int)=>lt1 (((nth b a.toNat).Zu).Zl) fun(ag:Int)=>lt1 (((nth b a.toNat).Zu).Zm) fun(ah:Int)=>lt1 (((nth b a.toNat).Zu).Zn) fun(m:Int)=>lt1 (((nth b a.toNat).Zu).To) fun(ai:Int)=>lt1 (((nth b a.toNat).Zu).Code) fun(aj:Int)=>lt1 (((nth b a.toNat).Zu).Zo) fun(ak:Int)=>lt1 (((nth b a.toNat).Zu).Zp) fun(al:Int)=>lt1 (((nth b a.toNat).Zu).Zq) fun(am:Int)=>lt1 (((nth b a.toNat).Zu).Zr) fun(an:Int)=>lt1 (((nth b a.toNat).Zu).Zb) fun(n:List UInt8)=>lt1 (((nth b a.toNat).Zu).Zs) fun(ao:List AoR)=>if(decide (m>l))then (some (.inr (c,d,e,f))).bind fun o=>some (.inr o) else if(j==13)then some (.inl (false,([]:List UInt8),0,[])) else (DC n k).bind fun g=>if(g.2 != 0)then some (.inl (c,d,e,f)) else if(j==11)then some (.inl (true,g.1.Zd,g.1.For,g.1.Zf)) else if c then (DK ({ Zd:=d,For:=e,Zf:=f }:AoO) g.1).bind fun i=>(BC i).bind fun p=>if(p==0)then some (.inl (c,i.Zd,i.For,i.Zf)) else some (.inl (c,d,e,f)) else some (.inl (c,d,e,f)) else none:Option ((Bool×List UInt8×Int×List AoN)⊕((Bool×Int×List UInt8×Int×List AoN)⊕(Bool×List UInt8×Int×List AoN)))).bind fun x=>match x with
  |.inl (q,s,t,u)=>some (.inl (q,(w64 (a+1)),s,t,u))
  |.inr z=>some z else some (.inr (c,d,e,f))
def BU(d:List AoT)(c:Int)(a:Int)(b:Int):Option (AoO×Int) :=((F7 c a).bind fun e=>if(!e)then some true else if(decide (b<0))then some true else some (decide (b>1073741824)):Option (Bool)).bind fun f=>if f then some (({ Zd:=([]:List UInt8),For:=0,Zf:=[] }:AoO),1) else ((DZ d c a).bind fun g=>(Be (fun(v:Bool×Int×List UInt8×Int×List AoN)=>En a b g v.1 v.2.1 v.2.2.1 v.2.2.2.1 v.2.2.2.2) (false,0,([]:List UInt8),0,[])).bind fun(i,j,k,l)=>some (i,j,k,l):Option (Bool×List UInt8×Int×List AoN)).bind fun(m,n,o,p)=>if(!m)then some (({ Zd:=([]:List UInt8),For:=0,Zf:=[] }:AoO),220) else some (({ Zd:=n,For:=o,Zf:=p }:AoO),0)
def top_editionsSane  : Option (Bool) :=lt1 ([({ Ref:=({ Zg:=0,No:=1 }:AoQ),By:=({ Zg:=0,No:=1 }:AoQ),Zt:=0,Zu:=({ Za:=11,Ref:=({ Zg:=0,No:=0 }:AoQ),Zj:=0,Zk:=0,Zl:=0,Zm:=1,Zn:=5,To:=0,Code:=0,Zo:=0,Zp:=0,Zq:=0,Zr:=0,Zb:=([116,97,114,105,102,102,32,116,32,102,111,114,32,104,105,114,101,32,123,32,99,108,97,117,115,101,32,97,32,112,97,121,32,50,32,109,111,110,101,121,59,32,125]:List UInt8),Zs:=[] }:AoS) }:AoT)]:List AoT) fun(a:List AoT)=>(BU a 0 1 5).bind fun b=>(BU a 0 1 4).bind fun c=>(if(b.2==0)then if(b.1.Zd==([116]:List UInt8))then some (c.2==220) else some false else some false:Option (Bool)).bind fun d=>some d
def CV(b:List AoT)(d:AoT)(e:Int)(f:Int)(c:Bool)(a:Int):Option ((Bool×Int)⊕(Bool)) :=if (decide (a<(b.length:Int)))then if InR a b.length then lt1 (((nth b a.toNat).Ref).Zg) fun(g:Int)=>lt1 (((nth b a.toNat).Ref).No) fun(l:Int)=>lt1 (((nth b a.toNat).By).Zg) fun(m:Int)=>lt1 (((nth b a.toNat).By).No) fun(n:Int)=>lt1 ((nth b a.toNat).Zt) fun(o:Int)=>lt1 (((nth b a.toNat).Zu).Za) fun(p:Int)=>lt1 ((((nth b a.toNat).Zu).Ref).Zg) fun(q:Int)=>lt1 ((((nth b a.toNat).Zu).Ref).No) fun(s:Int)=>lt1 (((nth b a.toNat).Zu).Zj) fun(t:Int)=>lt1 (((nth b a.toNat).Zu).Zk) fun(u:Int)=>lt1 (((nth b a.toNat).Zu).Zl) fun(v:Int)=>lt1 (((nth b a.toNat).Zu).Zm) fun(i:Int)=>lt1 (((nth b a.toNat).Zu).Zn) fun(j:Int)=>lt1 (((nth b a.toNat).Zu).To) fun(w:Int)=>lt1 (((nth b a.toNat).Zu).Code) fun(x:Int)=>lt1 (((nth b a.toNat).Zu).Zo) fun(y:Int)=>lt1 (((nth b a.toNat).Zu).Zp) fun(z:Int)=>lt1 (((nth b a.toNat).Zu).Zq) fun(aa:Int)=>lt1 (((nth b a.toNat).Zu).Zr) fun(ab:Int)=>lt1 (((nth b a.toNat).Zu).Zb) fun(ac:List UInt8)=>lt1 (((nth b a.toNat).Zu).Zs) fun(ad:List AoR)=>(if c then if(decide (j<d.Zu.Zn))then some true else if(g != e)then some true else some (i != f) else some false:Option (Bool)).bind fun k=>some (.inl (k,(w64 (a+1)))) else none else some (.inr c)
def CW(a:AoO×Int)(f:List UInt8)(b:Int)(c:List UInt8)(d:Int)(e:List AoN):Option ((Int×List UInt8×Int×List AoN)⊕(List UInt8×Int×List AoN)) :=if (decide (b<(a.1.Zf.length:Int)))then (if InR b a.1.Zf.length then lt1 ((nth a.1.Zf b.toNat).Zd) fun(g:List UInt8)=>lt1 ((nth a.1.Zf b.toNat).Ze) fun(l:List AoK)=>lt1 (((nth a.1.Zf b.toNat).Pay).Op) fun(m:Int)=>lt1 (((nth a.1.Zf b.toNat).Pay).N) fun(n:Int)=>lt1 (((nth a.1.Zf b.toNat).Pay).Unit) fun(o:Arr Int 4)=>lt1 (((nth a.1.Zf b.toNat).Pay).L) fun(p:List AoM)=>if(g==f)then some (a.1.Zd,a.1.For,a.1.Zf) else some (c,d,e) else none:Option (List UInt8×Int×List AoN)).bind fun(i,j,k)=>some (.inl ((w64 (b+1)),i,j,k)) else some (.inr (c,d,e))
def Cx(c:AoO×Int)(b:AoO×Int)(e:AoO×Int)(a:Int):Option ((Int)⊕((Unit)⊕((Unit)⊕(Bool)))) :=if (decide (a<(b.1.Zf.length:Int)))then (if InR a b.1.Zf.length then lt1 ((nth b.1.Zf a.toNat).Zd) fun(d:List UInt8)=>lt1 ((nth b.1.Zf a.toNat).Ze) fun(f:List AoK)=>lt1 (((nth b.1.Zf a.toNat).Pay).Op) fun(g:Int)=>lt1 (((nth b.1.Zf a.toNat).Pay).N) fun(i:Int)=>lt1 (((nth b.1.Zf a.toNat).Pay).Unit) fun(j:Arr Int 4)=>lt1 (((nth b.1.Zf a.toNat).Pay).L) fun(k:List AoM)=>((Be (fun(v:Int×List UInt8×Int×List AoN)=>CW e d v.1 v.2.1 v.2.2.1 v.2.2.2) (0,c.1.Zd,c.1.For,c.1.Zf)).bind fun(l,m,n)=>some (l,m,n):Option (List UInt8×Int×List AoN)).bind fun(o,p,q)=>(Gt ({ Zd:=o,For:=p,Zf:=q }:AoO) ({ Zd:=d,Ze:=f,Pay:=(AoM.mk g i j k) }:AoN)).bind fun s=>if(!s)then (((some false).bind fun t=>some (.inr t)).bind fun u=>some (.inr (.inr u))).bind fun w=>some (.inr w) else some (.inl ()) else none:Option ((Unit)⊕((Int)⊕((Unit)⊕((Unit)⊕(Bool)))))).bind fun x=>match x with
  |.inl ()=>some (.inl (w64 (a+1)))
  |.inr z=>some z else some (.inr (.inl ()))
def Fg(e : List AoT)(b:AoT)(f:Int)(d:Int)(g:Int):Option (Bool) :=top_editionsSane.bind fun l=>if(!l)then some false else if FY (0 + e.length) 192 then if FY ((([]:List AoT)++e).length+1) 192 then lt1 ((([]:List AoT)++e)++([b]:List AoT)) fun(i:List AoT)=>(FB i).bind fun m=>if(!m)then some true else (BU e f d g).bind fun c=>(BU i f d g).bind fun a=>(if(b.Ref.Zg != f)then some true else if(b.Zu.Zm != d)then some true else if(decide (b.Zu.Zn>g))then some true else if(b.Zu.Za != 11)then if(b.Zu.Za != 12)then some (b.Zu.Za != 13) else some false else some false:Option (Bool)).bind fun n=>if n then (if(c.2==a.2)then (Ch c.1 a.1).bind fun o=>some o else some false:Option (Bool)).bind fun p=>some p else ((Be (fun(v:Bool×Int)=>CV e b f d v.1 v.2) (true,0)).bind fun q=>some q:Option (Bool)).bind fun s=>if(!s)then some true else if (b.Zu.Za==13)then (if(a.2==220)then some true else if(a.2==1)then some (c.2==1) else some false:Option (Bool)).bind fun t=>some t else if (b.Zu.Za==11)then (DC b.Zu.Zb d).bind fun j=>(if(j.2==0)then some (c.2 != 1) else some false:Option (Bool)).bind fun u=>if u then (if(a.2==0)then (Ch a.1 j.1).bind fun w=>some w else some false:Option (Bool)).bind fun y=>some y else (if(c.2==a.2)then (Ch c.1 a.1).bind fun aa=>some aa else some false:Option (Bool)).bind fun ab=>some ab else (DC b.Zu.Zb d).bind fun k=>(if(c.2 != 0)then some true else if(k.2 != 0)then some true else some (a.2 != 0):Option (Bool)).bind fun ac=>if ac then (if(c.2==a.2)then (Ch c.1 a.1).bind fun ad=>some ad else some false:Option (Bool)).bind fun ae=>some ae else (Ch c.1 a.1).bind fun af=>if af then some true else ((Be (fun(v:Int)=>Cx c a k v) 0).bind fun x=>match x with
           |.inl ()=>some (.inl ())
           |.inr z=>some z:Option ((Unit)⊕(Bool))).bind fun x=>match x with
           |.inl ()=>lt1 (decide ((a.1.Zf.length:Int)≥(c.1.Zf.length:Int))) fun(ag:Bool)=>some ag
           |.inr z=>some z else none else none
open Go.Rv Go.ChangeShapes Go.WideShapes Go.ChangeAt Go.RowKit
theorem WI(H:Type)(l:List (DataW H)):(l.map (Rows.uptoBulk (H:=H))).sum=Rows.uptoBulkAll l:=by
 induction l with
 |nil=>rfl
 |cons x l ih=>simp only[ApE,AqC,ih,Rows.uptoBulkAll]
theorem JC:BulkOk (fun H=>Rows.uptoBulk (H:=H)) where
 one:=fun H d=>by
  cases d with
  |lit l=>cases l<;>simp[Rows.uptoBulk]
  |_=>simp[Rows.uptoBulk]
 str:=fun H l=>by simp[Rows.uptoBulk]
 slice:=fun H e s=>by rw[WI];simp only[Rows.uptoBulk];omega
 agg:=fun H p=>by rw[WI];simp only[Rows.uptoBulk];omega
theorem Ca:Tryz.prog.cellsOf 3=1:=by kernel_rfl
theorem XU:Tryz.prog.cellsOf 4=1:=by kernel_rfl
theorem Y5:Tryz.prog.cellsOf 9=1:=by kernel_rfl
theorem J8:Tryz.prog.cellsOf 24=2:=by kernel_rfl
theorem N4:Tryz.prog.cellsOf 294=3:=by kernel_rfl
theorem Vh:Tryz.prog.cellsOf 25=1:=by kernel_rfl
theorem PW:Tryz.prog.cellsOf 27=16:=by kernel_rfl
theorem P3:Tryz.prog.cellsOf 29=21:=by kernel_rfl
theorem KJ{P:Program}{B:∀H:Type,DataW H->Nat}{t:TypeId}{α:Type}{c:α->List AV}{sz sz':α->Nat}{ok ok':α->Prop}(h:Opens P B t c sz ok)(h1:∀x,sz' x<=sz x)(h2:∀x,ok x->ok' x):Opens P B t c sz' ok':=by
 intro H enc W pr hpr fuel cs d ps hd;obtain⟨x,e1,e2,e3,e4⟩:=h H enc W pr hpr fuel cs d ps hd;exact⟨x,e1,Aqs (h1 x) e2,h2 x e3,e4⟩
theorem FV:Opens Tryz.prog (fun H=>Rows.uptoBulk (H:=H)) 3 IF (fun _=>1) (fun _=>True):=KJ (Aa7 JC Tryz.underlying3) (fun _=>Apf _) (fun _ _=>trivial)
theorem Aly:Opens Tryz.prog (fun H=>Rows.uptoBulk (H:=H)) 4 Mc (fun _=>1) (fun _=>True):=Y6 JC Tryz.underlying4
theorem Ajh:Opens Tryz.prog (fun H=>Rows.uptoBulk (H:=H)) 9 AU (fun _=>0) (fun _=>True):=KJ (AaL JC Tryz.underlying9) (fun _=>Apx _) (fun _ _=>trivial)
theorem Vi:Opens Tryz.prog (fun H=>Rows.uptoBulk (H:=H)) 24 WN (fun _=>0) (fun _=>True) :=
 Ia JC Tryz.underlying24 (n:=2) J8 (A8 (k:=1) rfl Ca (fun _=>rfl) FV (A8 (k:=1) rfl Ca (fun _=>rfl) FV Jp)) (fun x=>(⟨x.1,x.2.1⟩:AoQ)) (fun _=>rfl) (fun _=>rfl) (fun x=>Apx _) (fun _ _=>trivial)
theorem Ad1:Opens Tryz.prog (fun H=>Rows.uptoBulk (H:=H)) 294 Dr (fun _=>0) (fun _=>True) :=
 Ia JC Tryz.underlying294 (n:=3) N4 (A8 (k:=1) rfl Ca (fun _=>rfl) FV (A8 (k:=1) rfl Ca (fun _=>rfl) FV (A8 (k:=1) rfl XU (fun _=>rfl) Aly Jp))) (fun x=>(⟨x.1,x.2.1,x.2.2.1⟩:AoR)) (fun _=>rfl) (fun _=>rfl) (fun x=>Apx _) (fun _ _=>trivial)
theorem Aha:Opens Tryz.prog (fun H=>Rows.uptoBulk (H:=H)) 25 (cSl Dr) (fun _=>0) (fun _=>True):=KJ (Qa JC Tryz.underlying25 N4 (fun _=>rfl) Ad1) (fun _=>Apx _) (fun _ _=>trivial)
theorem Agb:Opens Tryz.prog (fun H=>Rows.uptoBulk (H:=H)) 27 Tt (fun _=>0) (fun _=>True) :=
 Ia JC Tryz.underlying27 (n:=16) PW (A8 (k:=1) rfl Ca (fun _=>rfl) FV (A8 (k:=2) rfl J8 (fun _=>rfl) Vi (A8 (k:=1) rfl Ca (fun _=>rfl) FV (A8 (k:=1) rfl Ca (fun _=>rfl) FV (A8 (k:=1) rfl Ca (fun _=>rfl) FV (A8 (k:=1) rfl Ca (fun _=>rfl) FV (A8 (k:=1) rfl Ca (fun _=>rfl) FV (A8 (k:=1) rfl Ca (fun _=>rfl) FV (A8 (k:=1) rfl Ca (fun _=>rfl) FV (A8 (k:=1) rfl Ca (fun _=>rfl) FV (A8 (k:=1) rfl Ca (fun _=>rfl) FV (A8 (k:=1) rfl Ca (fun _=>rfl) FV (A8 (k:=1) rfl Ca (fun _=>rfl) FV (A8 (k:=1) rfl Y5 (fun _=>rfl) Ajh (A8 (k:=1) rfl Vh (fun _=>rfl) Aha Jp)))))))))))))))
  (fun x=>(⟨x.1,x.2.1,x.2.2.1,x.2.2.2.1,x.2.2.2.2.1,x.2.2.2.2.2.1,x.2.2.2.2.2.2.1,x.2.2.2.2.2.2.2.1,x.2.2.2.2.2.2.2.2.1,x.2.2.2.2.2.2.2.2.2.1,x.2.2.2.2.2.2.2.2.2.2.1,x.2.2.2.2.2.2.2.2.2.2.2.1,x.2.2.2.2.2.2.2.2.2.2.2.2.1,x.2.2.2.2.2.2.2.2.2.2.2.2.2.1,x.2.2.2.2.2.2.2.2.2.2.2.2.2.2.1⟩:AoS)) (fun _=>rfl) (fun _=>rfl) (fun x=>Apx _) (fun _ _=>trivial)
theorem Ab9:Opens Tryz.prog (fun H=>Rows.uptoBulk (H:=H)) 29 Ah (fun _=>1) (fun _=>True) :=
 Ia JC Tryz.underlying29 (n:=21) P3 (A8 (k:=2) rfl J8 (fun _=>rfl) Vi (A8 (k:=2) rfl J8 (fun _=>rfl) Vi (A8 (k:=1) rfl Ca (fun _=>rfl) FV (A8 (k:=16) rfl PW (fun _=>rfl) Agb Jp))))
  (fun x=>(⟨x.1,x.2.1,x.2.2.1,x.2.2.2.1⟩:AoT)) (fun _=>rfl) (fun _=>rfl) (fun x=>by show 1<=0+(0+(1+_));omega) (fun _ _=>trivial)
theorem Ahk:Opens Tryz.prog (fun H=>Rows.uptoBulk (H:=H)) 22 (cSl Ah) (fun l=>l.length+1) (fun l=>l.length<=maxLen) :=
 KJ (Qa JC Tryz.underlying22 P3 (fun _=>rfl) Ab9) (fun l=>by
  show l.length+1<=(l.map fun _=>1).sum+1
  have:∀m:List AoT,m.length=(m.map fun _=>1).sum:=by
   intro m
   induction m with
   |nil=>rfl
   |cons a m ih=>simp only[Apb,ApE,AqC,<-ih];omega
  have:=this l;omega) (fun _ h=>h.1)
theorem own:ownKnob Tryz.prog.godebug=none:=by kernel_rfl
theorem Age:laidOutB Tryz.prog=true:=by kernel_rfl
abbrev laidM:List (String×DataW Unit):=[("math/bits.deBruijn32tab", Rows.laid_math_bits_deBruijn32tab),("math/bits.deBruijn64tab", Rows.laid_math_bits_deBruijn64tab),("internal/strconv.uint64pow10", Rows.laid_internal_strconv_uint64pow10),("unicode/utf8.acceptRanges", Rows.laid_unicode_utf8_acceptRanges),("unicode.White_Space", Rows.laid_unicode_White_Space),("strings.asciiSpace", Rows.laid_strings_asciiSpace),("wagonpool/tlex.signs", Rows.laid_wagonpool_tlex_signs),("wagonpool/tlex.reserved", Rows.laid_wagonpool_tlex_reserved),("unicode/utf8.first", Rows.laid_unicode_utf8_first)]
theorem Ajd:(Rows.laid_wagonpool_tlex_signs:DataW Unit)=.map (tab3.map fun p=>(Lit.int .u8 (p.1.toNat:Int),.lit (.string p.2))):=by kernel_rfl
theorem AkV:(Rows.laid_wagonpool_tlex_reserved:DataW Unit)=.map (tab1.map fun p=>(Lit.string p.1,.lit (.bool p.2))):=by kernel_rfl
theorem Akz:(Rows.laid_strings_asciiSpace:DataW Unit)=Lib.tabData .u8 (glob0.l.map fun c=>(c.toNat:Int)):=by kernel_rfl
theorem Aj1:(Rows.laid_internal_strconv_uint64pow10:DataW Unit)=Lib.tabData .u64 Lib.pow10Tab:=by kernel_rfl
noncomputable def Aa5(os:Os):World:=(World.doorLaid Tryz.prog 400 os).layVars Tryz.prog (laidM.filter fun x=>["unicode/utf8.first"].contains x.1)
theorem AeQ(os:Os)(args:Array Value):laidMetH Tryz.prog laidM ((Aa5 os).forCall (fun _ _=>0) ⟨#[],args,[]⟩).memory:=by
 rw[MakeChecks.laidMetH_plain _ _ _ (by kernel_rfl)]
 have h:laidMet Tryz.prog laidM (Aa5 os):=laidMet_layVars (w0:=World.doorLaid Tryz.prog 400 os) (w':=Aa5 os) ["unicode/utf8.first"] ((List.range 20).filter (· != 5)) rfl (by kernel_rfl) (by kernel_rfl)
  (LaidIn.of_run _ 8 (by kernel_rfl) (by kernel_rfl) (by kernel_rfl) (by kernel_rfl))
 exact h.of_heap (by simp[World.memory,World.forCall,Input.heap])
theorem ans1:∀p∈tab1,TR (fun k=>.str k) (fun x=>.bool x) tab1 (.str p.1)=some (.bool p.2):=by
 have h:(tab1.all fun p=>match TR (fun k=>.str k) (fun x=>.bool x) tab1 (.str p.1)with|some (.bool b)=>b==p.2|_=>false)=true:=by decide +kernel
 intro p hp;have:=Api.1 h p hp;split at this
 ·rename_i b hb;rw[hb];rw[Ap9]at this;rw[this]
 cases this
theorem ans0:∀p∈tab3,TR (fun k=>u8 k) (fun x=>.str x) tab3 (u8 p.1)=some (.str p.2):=by
 have h:(tab3.all fun p=>match TR (fun k=>u8 k) (fun x=>.str x) tab3 (u8 p.1)with|some (.str b)=>b==p.2|_=>false)=true:=by decide +kernel
 intro p hp;have:=Api.1 h p hp;split at this
 ·rename_i b hb;rw[hb];rw[Ap9]at this;rw[this]
 cases this
theorem LI{P:Program}{w:World}:∀{l:List (String×DataW Unit)} {ps:List MemPlace},DataW.LaidVars P w l ps->∀x∈l,∃g t cs fuel p,P.globalNamed x.1=some g/\(P.globals[g]?).map (·.type)=some t/\w.var? P x.1=some cs /\DataW.trod (fun _=>()) P w 0 (fun _=>true) false fuel t cs.toList=some (x.2,p)
 |[],_,_,x,hx=>by cases hx
 |(n,d)::r,ps,⟨g,t,cs,fuel,p,q,hg,ht,hv,hd,hr,_⟩,x,hx=>by
  rcases Apq.1 hx with rfl|hx
  ·exact⟨g,t,cs,fuel,p,hg,ht,hv,hd⟩
  exact LI hr x hx
theorem Ahp{W:World}(hw:∃t o,W.heap[7]?=some (.cells ((Lib.pow10Tab.map fun z=>Value.int .u64 z).toArray) t o)){c0 c1 c2:Array Value}{f0 f1 f2:Nat}{p0 p1 p2:List MemPlace}(hv0:W.var? Tryz.prog "wagonpool/tlex.signs" = some c0) (hv1:W.var? Tryz.prog "wagonpool/tlex.reserved" = some c1) (hv2:W.var? Tryz.prog "strings.asciiSpace" = some c2) (hd0:DataW.trod (fun _=>()) Tryz.prog W 0 (fun _=>true) false f0 214 c0.toList=some (Rows.laid_wagonpool_tlex_signs,p0)) (hd1:DataW.trod (fun _=>()) Tryz.prog W 0 (fun _=>true) false f1 120 c1.toList=some (Rows.laid_wagonpool_tlex_reserved,p1)) (hd2:DataW.trod (fun _=>()) Tryz.prog W 0 (fun _=>true) false f2 123 c2.toList=some (Rows.laid_strings_asciiSpace,p2)) :∃r:Nat->Nat,Mem ((B ⟨r,none⟩).env noF) W [] []:=by
 rw[Ajd]at hd0;rw[AkV]at hd1;rw[Akz]at hd2
 obtain⟨r0,e0,m0⟩:=SO (cK:=fun k=>u8 k) (cV:=fun x=>.str x) (lK:=fun k:UInt8=>Lit.int .u8 (k.toNat:Int)) (lV:=fun x:List UInt8=>Lit.string x) (zv:=.str []) Tryz.underlying214 Tryz.underlying5 (fun w=>by kernel_rfl) rfl hd0 (fun _=>rfl) (fun _=>rfl)
  (fun v a h=>AiN Tryz.underlying5 h) (fun n v b pl h=>Af5 Tryz.underlying9 h) ans0
 obtain⟨r1,e1,m1⟩:=SO (cK:=fun k=>.str k) (cV:=fun x=>.bool x) (lK:=fun k:List UInt8=>Lit.string k) (lV:=fun x:Bool=>Lit.bool x) (zv:=.bool false) Tryz.underlying120 Tryz.underlying9 (fun w=>by kernel_rfl) rfl hd1 (fun _=>rfl) (fun _=>rfl)
  (fun v a h=>Ahb Tryz.underlying9 h) (fun n v b pl h=>Ad6 Tryz.underlying4 h) ans1
 have g0:W.cell? ⟨3,0,none⟩=some (.map (some r0)):=by
  have:=World.var?_cell (show Tryz.prog.globalNamed "wagonpool/tlex.signs" = some 3 by kernel_rfl) hv0 0;rw[this,Array.eq_one_of_toList e0];rfl
 have g1:W.cell? ⟨1,0,none⟩=some (.map (some r1)):=by
  have:=World.var?_cell (show Tryz.prog.globalNamed "wagonpool/tlex.reserved" = some 1 by kernel_rfl) hv1 0;rw[this,Array.eq_one_of_toList e1];rfl
 have hc:=Lib.cells_of_tab (n:=256) Tryz.underlying123 Tryz.underlying5 (by kernel_rfl) (by kernel_rfl) hd2
 have g2:∀j,j<256->W.cell? ⟨0,j,none⟩=some (.int .u8 ((glob0.get j).toNat:Int)):=by
  intro j hj;have:=World.var?_cell (show Tryz.prog.globalNamed "strings.asciiSpace" = some 0 by kernel_rfl) hv2 j;rw[this,<-Aqa,hc,Ar0,Apw];have hl:j<glob0.l.length:=by rw[glob0.h];exact hj
  rw[Ao2 hl];simp[Arr.get,nth,hl]
 refine⟨fun i=>if i=3 then r0 else r1,rfl,fun id b ab h=>by simp at h,fun id id' b b' β h=>by simp at h,fun a h=>h.elim,fun i cs hG=>?_,fun t m h=>?_,fun i p h=>?_⟩
 ·have hG':(if i=1 then some [AV.val (.map (some r1))]else if i=3 then some [AV.val (.map (some r0))]else if i=0 then some (C1 u8 glob0.l)else none)=some cs:=hG;by_cases hi:i=3
  ·subst hi;rw[Ao6 (by decide),Ao4 rfl]at hG';cases hG';refine⟨cell?_lt g0,(by rintro⟨id,b,hb,_⟩;simp at hb),fun _ hf=>hf,fun j=>.map (some r0),fun j x hj=>?_⟩;cases j with
   |zero=>cases hj;exact⟨g0,.val _ _ rfl,rfl⟩
   |succ j=>simp at hj
  by_cases hi1:i=1
  ·subst hi1;rw[Ao4 rfl]at hG';cases hG';refine⟨cell?_lt g1,(by rintro⟨id,b,hb,_⟩;simp at hb),fun _ hf=>hf,fun j=>.map (some r1),fun j x hj=>?_⟩;cases j with
   |zero=>cases hj;exact⟨g1,.val _ _ rfl,rfl⟩
   |succ j=>simp at hj
  rw[Ao6 hi1,Ao6 hi]at hG';by_cases hi2:i=0
  ·rw[Ao4 hi2]at hG';cases hG';subst hi2;refine⟨cell?_lt (g2 0 (by decide)),(by rintro⟨id,b,hb,_⟩;simp at hb),fun _ hf=>hf,fun j=>.int .u8 ((glob0.get j).toNat:Int),fun j x hj=>?_⟩
   have hj':j<256:=by
    have:=(AoZ.1 hj).1;rwa[DP]at this
   rw[Xn hj']at hj;cases hj;exact⟨g2 j hj',.int _ _ _,rfl⟩
  rw[Ao6 hi2]at hG';cases hG'
 ·have h':(if t=120 then some (⟨r1,9,4,.string,.bool false,TR (fun k=>.str k) (fun x=>.bool x) tab1⟩:MapS)else if t=214 then some ⟨r0,5,9,.int .u8,.str ([]:List UInt8),TR (fun k=>u8 k) (fun x=>.str x) tab3⟩else if t=138 then none else none)=some m:=h;by_cases ht:t=120
  ·rw[Ao4 ht]at h';cases h';subst ht;exact m1
  rw[Ao6 ht]at h';by_cases ht2:t=214
  ·rw[Ao4 ht2]at h';cases h';subst ht2;exact m0
  rw[Ao6 ht2]at h';split at h'<;>cases h'
 have h':(if i=7 then some ((Lib.pow10Tab.map fun z=>Value.int .u64 z).toArray)else none)=some p:=h;by_cases hi:i=7
 ·rw[Ao4 hi]at h';cases h';subst hi;exact⟨(by rintro⟨id,b,hb,_⟩;simp at hb),hw⟩
 rw[Ao6 hi]at h';cases h'
theorem Aee{W:World}(h:laidMetH Tryz.prog laidM W):∃r:Nat->Nat,Mem ((B ⟨r,none⟩).env noF) W [] []:=by
 rw[MakeChecks.laidMetH_plain _ _ _ (by kernel_rfl)]at h;obtain⟨ps,hl,_⟩:=h
 have hw:∃t o,W.heap[7]?=some (.cells ((Lib.pow10Tab.map fun z=>Value.int .u64 z).toArray) t o):=by
  obtain⟨g0,t0,cs0,f0,p0,hg0,ht0,hv0,hd0⟩:=LI hl ("internal/strconv.uint64pow10", Rows.laid_internal_strconv_uint64pow10) (by simp[laidM]);obtain rfl:=Ao1 ((show Tryz.prog.globalNamed "internal/strconv.uint64pow10" = some 7 by kernel_rfl).symm.trans hg0);obtain rfl:=Ao1 ((show(Tryz.prog.globals[7]?).map (·.type)=some 275 by kernel_rfl).symm.trans ht0);simp only[Aj1]at hd0;have hc:=Lib.cells_of_tab (n:=20) Tryz.underlying275 Tryz.underlying249 (by kernel_rfl) (by kernel_rfl) hd0;unfold World.var? at hv0;rw[show Tryz.prog.globalNamed "internal/strconv.uint64pow10" = some 7 by kernel_rfl,ApX]at hv0;split at hv0
  ·rename_i c t o hcell;cases hv0;rw[<-hc];exact⟨t,o,hcell⟩
  cases hv0
 obtain⟨g0,t0,cs0,f0,p0,hg0,ht0,hv0,hd0⟩:=LI hl ("wagonpool/tlex.signs", Rows.laid_wagonpool_tlex_signs) (by simp[laidM]);obtain⟨g1,t1,cs1,f1,p1,hg1,ht1,hv1,hd1⟩:=LI hl ("wagonpool/tlex.reserved", Rows.laid_wagonpool_tlex_reserved) (by simp[laidM]);obtain⟨g2,t2,cs2,f2,p2,hg2,ht2,hv2,hd2⟩:=LI hl ("strings.asciiSpace", Rows.laid_strings_asciiSpace) (by simp[laidM]);obtain rfl:=Ao1 ((show Tryz.prog.globalNamed "wagonpool/tlex.signs" = some 3 by kernel_rfl).symm.trans hg0);obtain rfl:=Ao1 ((show Tryz.prog.globalNamed "wagonpool/tlex.reserved" = some 1 by kernel_rfl).symm.trans hg1);obtain rfl:=Ao1 ((show Tryz.prog.globalNamed "strings.asciiSpace" = some 0 by kernel_rfl).symm.trans hg2);obtain rfl:=Ao1 ((show(Tryz.prog.globals[3]?).map (·.type)=some 214 by kernel_rfl).symm.trans ht0);obtain rfl:=Ao1 ((show(Tryz.prog.globals[1]?).map (·.type)=some 120 by kernel_rfl).symm.trans ht1);obtain rfl:=Ao1 ((show(Tryz.prog.globals[0]?).map (·.type)=some 123 by kernel_rfl).symm.trans ht2);exact Ahp hw hv0 hv1 hv2 hd0 hd1 hd2
theorem Y9{rs:AoH}{f:FuncId}{avs:List AV}(h:Con (B rs) f avs [] (fun r O'=>r=.bool true/\O'=[])){fn:Func}{c:Code}(hf:Tryz.prog.funcs[f]?=some fn)(hb:fn.body=some c)(hn:(fn.name == "runtime.NumGoroutine")=false) {W:World} (hm:Mem ((B rs).env noF) W [] []) {args:Array Value} (ha:C8 W (A2 ((B rs).env noF) []) [] args.toList avs):Calls Tryz.prog f args W fun e W'=>e=.returned (.bool true)/\Below W.heap.size W W':=by
 refine((h.call (fun _=>False) W [] args hm ha).calls hf hb hn).mono ?_;rintro e w' ⟨v,r,O',g',rfl,⟨rfl,rfl⟩,hm,he,hr⟩;exact⟨by rw[Fm hr],he.below⟩
variable {rs:AoH}
set_option maxHeartbeats 4000000
theorem HN{b r}(h:G5 b=some r):Con (B rs) 128 [u8 b] [] (fun r' O'=>r'=.bool r/\O'=[]):=by
 refine Cw 9 [.tmp 2] Tryz.func128 (fun F hE=>?_) h;unfold G5;refine T0 [0] ?_;refine Tw [2] (fun c=>⟨Al 9 [(2,.bool c)],[]⟩) ?_ ?_
 ·intro _;refine Sp (fun a=>?_) fun a=>?_
  ·exact Lf Ac (Ew1 a) (ws [])
  exact Lf Ac (Ew1 a) (ws [])
 intro c;exact Sr <|Rr
theorem I7{b r}(h:GG b=some r):Con (B rs) 131 [u8 b] [] (fun r' O'=>r'=.bool r/\O'=[]):=by
 refine Cw 9 [.tmp 2] Tryz.func131 (fun F hE=>?_) h;unfold GG;refine T0 [0] ?_;refine Tw [2] (fun c=>⟨Al 9 [(2,.bool c)],[]⟩) ?_ ?_
 ·intro _;refine Sp (fun a=>?_) fun a=>?_
  ·exact Lf Ac (Ew1 a) (ws [])
  exact Lf Ac (Ew1 a) (ws [])
 intro c;exact Sr <|Rr
theorem Mu{a:List UInt8}{c:UInt8->Option (Bool)}{b:Nat}(g:∀{a0:UInt8} {r:Bool},c a0=some r->Con (B rs) b [u8 a0] [] (fun r' O'=>r'=.bool r/\O'=[])){r:Int}(h:IW a c=some r):Con (B rs) 129 [.str a,.fn b []] [] (fun r' O'=>r'=i64 r/\O'=[]):=by
 refine FD (N:=21) (rs:=[.tmp 4]) ok Tryz.func129 rfl (by decide +kernel) rfl rfl (Apj rfl) (fun F=>?_);have hE:=(ok (rs:=rs)).env F;unfold IW at h;show Run ((B rs).env F) 0 _ ⟨Al 21 [(0,.str a),(1,.fn b [])],[]⟩ _;refine BR ?_;revert h;refine T0 [0,1] ?_;refine Jo (fun _=>⟨Al 21 [(0,.str a)],[]⟩) ?_ ?_
 ·intro m i;refine T0 [0,1,7,8] ?_;refine Sb ?_;refine Lo (fun d=>⟨Al 21 [(0,.str a),(1,.fn b []),(7,i64 (a.length:Int)),(8,i64 d)],[]⟩) (ws []) ?_;rintro d n j e f;show Dj a c d=some j->_;unfold Dj;refine T0 [0,1,7,8,9] ?_;refine Sq <|Cd ?_ ?_
  ·refine Sk <|Tn <|Sq <|Sb <|T0 [0,1,5,7,8] ?_
   refine Ck fun k =>Bd fun o l =>Te [0,1,5,7,8,16] (o1 15 (g l)) (Ew1 (qR k)) ?_
   refine Cd ?_ ?_
   ·refine T0 [4] ?_;exact Sr <|Br <|Tr <|Lr f e <|Br <|Jr i <|Rr
   refine Sk <|Bn <|Tn <|F0 [0,1,7,8] ?_
   exact Ln (ws [])
  refine Sx <|Tx <|Lx f e <|Bx <|?_
  exact Jn ((ws (l':=[(0,.str a)]) (O':=[]) []).trans (ws []))
 intro _;refine T0 [4] ?_;exact Sr <|Rr
theorem NZ{b r}(h:Hb b=some r):Con (B rs) 130 [u8 b] [] (fun r' O'=>r'=.bool r/\O'=[]):=by
 refine Cw 9 [.tmp 2] Tryz.func130 (fun F hE=>?_) h;unfold Hb;refine T0 [0] ?_;refine Tw [2] (fun c=>⟨Al 9 [(2,.bool c)],[]⟩) ?_ ?_
 ·intro _;refine Bd fun f d=>?_
  refine Sp (fun a=>?_) fun a=>?_
  ·exact Lf (o1 4 (HN d)) (Ew1 a) (ws [])
  refine Bd fun g e=>?_
  exact Lf (o2 4 (HN d) 7 (I7 e)) (Ew1 a) (ws [])
 intro c;exact Sr <|Rr
theorem Pt{a r}(h:HD a=some r):Con (B rs) 132 [.str a] [] (fun r' O'=>r'=.tup [i64 r.1,i64 r.2]/\O'=[]):=by
 refine Cw 31 [.tmp 2,.tmp 3] Tryz.func132 (fun F hE=>?_) h;unfold HD;refine T0 [0] ?_;refine Sq ?_;refine Tw [0,13] (fun c=>⟨Al 31 [(0,.str a),(13,.bool c)],[]⟩) ?_ ?_
 ·intro _;refine Sp (fun b=>?_) fun b=>?_
  ·refine Ck fun i=>?_
   exact Lf Ac (Ew2 b (qL i)) (ws [])
  exact Lf Ac (Ew1 b) (ws [])
 intro c;refine Cd ?_ ?_
 ·refine T0 [2,3] ?_;exact Sr <|Tr <|Rr
 refine Sk <|Tn <|T0 [0,4] ?_
 refine Jo (fun d=>⟨Al 31 [(4,i64 d)],[]⟩) ?_ ?_
 ·intro p j;refine T0 [0,4,15,16] ?_;refine Sb ?_;refine Lo (fun(v:Int×Int)=>(⟨Al 31 [(0,.str a),(4,i64 v.1),(15,i64 (a.length:Int)),(16,i64 v.2)],[]⟩:St)) (ws []) ?_;rintro⟨e,k⟩ q l f g;show Cc a e k=some l->_;unfold Cc;refine T0 [0,4,15,16,17] ?_;refine Sq <|Cd ?_ ?_
  ·refine Sk <|Tn <|Sq <|Sb <|T0 [0,4,5,15,16] ?_
   refine Ck fun m =>Lt fun n o =>Te (fr':=[(0,_),(4,i64 n),(15,_),(16,_)]) [0,4,15,16] Ac (Ew2 (qR m) o) ?_
   refine T0 [0,4,15,16,28] ?_;refine Cd ?_ ?_
   ·refine T0 [2,3] ?_;exact Sr <|Br <|Tr <|Lr g f <|Br <|Jr j <|Rr
   refine Sk <|Bn <|Tn <|F0 [0,4,15,16] ?_
   exact Ln (ws [])
  refine Sx <|Tx <|Lx g f <|Bx <|?_
  exact Jn ((ws (l':=[(4,i64 e)]) (O':=[]) []).trans (ws []))
 intro d;refine T0 [2,3] ?_;exact Sr <|Rr
theorem I9{b c r}(h:DE b c=some r):Con (B rs) 167 [.str b,.str c] [] (fun r' O'=>r'=.bool r/\O'=[]):=by
 refine Cw 18 [.tmp 4] Tryz.func167 (fun F hE=>?_) h;unfold DE;refine T0 [0,1] ?_;refine Tw [4] (fun d=>⟨Al 18 [(4,.bool d)],[]⟩) ?_ ?_
 ·intro _;refine Sp (fun a=>?_) fun a=>?_
  ·refine Ck fun e=>?_
   exact Lf Ac (Ew2 a e) (ws [])
  exact Lf Ac (Ew1 a) (ws [])
 intro d;exact Sr <|Rr
theorem Kl{a b r}(h:Dm a b=some r):Con (B rs) 133 [.str a,.str b] [] (fun r' O'=>r'=.bool r/\O'=[]):=by
 refine Cw 8 [.tmp 4] Tryz.func133 (fun F hE=>?_) h;unfold Dm;refine T0 [0,1] ?_;refine Bd fun d c =>Te [4] (o1 7 (I9 c)) Ev ?_
 exact Sr <|Rr
theorem H9{l:List UInt8}{c:UInt8}{r:Int}(h:Ej l c=some r):Con (B rs) 166 [.str l,u8 c] [] (fun r' O'=>r'=i64 r/\O'=[]) :=
 Pn Tryz.func166 (by decide +kernel) rfl (by kernel_rfl) (by kernel_rfl) h
theorem IB{a b r}(h:DG a b=some r):Con (B rs) 127 [.str a,u8 b] [] (fun r' O'=>r'=i64 r/\O'=[]):=by
 refine Cw 8 [.tmp 4] Tryz.func127 (fun F hE=>?_) h;unfold DG;refine T0 [0,1] ?_;refine Bd fun d c =>Te [4] (o1 7 (H9 c)) Ev ?_
 exact Sr <|Rr
theorem JZ{a b r}(h:Dl a b=some r):Con (B rs) 83 [.str a,u8 b] [] (fun r' O'=>r'=i64 r/\O'=[]):=by
 refine Cw 8 [.tmp 4] Tryz.func83 (fun F hE=>?_) h;unfold Dl;refine T0 [0,1] ?_;refine Bd fun d c =>Te [4] (o1 7 (IB c)) Ev ?_
 exact Sr <|Rr
theorem Qs{a r}(h:H3 a=some r):Con (B rs) 84 [.str a] [] (fun r' O'=>r'=.tup [.agg [i64 r.1.Za,.str r.1.Zb,i64 r.1.N,i64 r.1.At],i64 r.2]/\O'=[]):=by
 refine Cw 55 [.cell 2 159,.tmp 3] Tryz.func84 (fun F hE=>?_) h;unfold H3;refine T0 [0,2] ?_;refine Sq <|Ck fun d =>Te [0,2,4] Ac (Ew1 (qL d)) ?_
 refine Sb <|Bd fun q e =>Te [0,2,4,12] (o1 14 (HN e)) Ev ?_
 refine Cd ?_ ?_
 ·refine Bd fun s f =>Ck fun g =>Te [2,5] (o1 17 (Mu (fun h=>NZ h) f)) (Ew1 g) ?_
  refine Sq <|T0 [2,5,21] ?_
  refine Cd ?_ ?_
  ·refine T0 [2,3] ?_;exact Sr <|Tr <|Br <|Tr <|Rr
  refine Sk <|Tn <|T0 [2,3] ?_
  exact Sr <|Br <|Tr <|Rr
 refine Bd fun t i =>Te [0,2,25] (o1 27 (I7 i)) Ev ?_
 refine Cd ?_ ?_
 ·refine Bd fun u j =>Ck fun k =>Te [2,6] (o1 30 (Mu (fun h=>I7 h) j)) (Ew1 k) ?_
  refine Bd fun v l =>Te [2,6,7,8] (o1 34 (Pt l)) Ev ?_
  refine T0 [2,3] ?_;exact Sr <|Br <|Tr <|Rr
 refine Sk <|Bn <|Tn <|Sq <|Ck fun m =>De [[],[],[1],[0,1,2],[0,1,2,3]] [0,2,9] Ac (Ew1 (qL m)) ?_
 refine Tw [2,9,51] (fun c=>⟨Al 55 [(2,.ref 0 0),(9,.str (Jd ([]:List UInt8) tab3 (nth a 0))),(51,.bool c)],[.box [i64 0,.str ([]:List UInt8),i64 0,i64 0] false]⟩) ?_ ?_
 ·intro _;refine Sp (fun b=>?_) fun b=>?_
  ·refine Bd fun w n=>?_
   exact Lf (o1 50 (Kl n)) (Ew1 b) (ws [0])
  exact Lf Ac (Ew1 b) (ws [0])
 intro c;refine Cd ?_ ?_
 ·refine Lt fun o p =>Te (O':=[.box [i64 3,.str o,i64 0,i64 0] false]) [2,3] Ac (Ew1 p) ?_
  exact Sr <|Tr <|Rr
 refine Sk <|Tn <|T0 [2,3] ?_
 exact Sr <|Rr
theorem JV{b r}(h:EB b=some r):Con (B rs) 45 [.str b] [] (fun r' O'=>r'=.tup [.sl false (L Aa r.1),i64 r.2.1,i64 r.2.2]/\O'=[]):=by
 refine Cw 62 [.tmp 2,.tmp 3,.tmp 4] Tryz.func45 (fun F hE=>?_) h;unfold EB;refine T0 [0] ?_;refine Sc <|Sq <|T0 [0,12] ?_
 refine Cd ?_ ?_
 ·refine T0 [2,3,4] ?_;exact Sr <|Tr <|Cr <|Rr
 refine Sk <|Tn <|T0 [0,5] ?_
 refine T0 [0,5,6] ?_;refine Sq <|Sl <|Tn <|?_
 refine Jo (fun c=>⟨Al 62 [(5,.bs false 0 (c.length) 0 (c.length))],[.buf 4 (L Aa c) false]⟩) ?_ ?_
 ·intro y j;refine Sb ?_;refine Lo (fun(v:Int×List AoI)=>(⟨Al 62 [(0,.str b),(5,.bs false 0 (v.2.length) 0 (v.2.length)),(6,i64 v.1)],[.buf 4 (L Aa v.2) false]⟩:St)) ((LV 5 4 rfl).trans (ws [0])) ?_;rintro⟨d,a⟩ z k e f;show Bj b d a=some k->_;unfold Bj;refine Sq <|T0 [0,5,6,16] ?_
  refine Cd ?_ ?_
  ·refine Sk <|Tn <|Sb <|Sq <|Ck fun l =>Te [0,5,6,19] Ac (Ew1 (qR l)) ?_
   refine Sb ?_;refine Ja (fun i=>⟨Al 62 [(0,.str b),(5,.bs false 0 (a.length) 0 (a.length)),(6,i64 d),(19,u8 (nth b d.toNat)),(20,.bool i)],[.buf 4 (L Aa a) false]⟩) ?_ ?_
   ·intro aa;refine T0 [0,5,6,19,20] ?_;refine Cd ?_ ?_
    ·exact Sk <|Jm (ws [0])
    refine T0 [0,5,6,19,20] ?_;refine Cd ?_ ?_
    ·exact Sk <|Jm (ws [0])
    refine T0 [0,5,6,19,20] ?_;refine Cd ?_ ?_
    ·exact Sk <|Jm (ws [0])
    refine F0 [0,5,6,19,20] ?_;exact Jm (ws [0])
   intro i;refine Cd ?_ ?_
   ·refine T0 [0,5,6] ?_;exact Sx <|Bo <|Tx <|Bx <|Ln (ws [0])
   refine T0 [0,5,6,27] ?_;refine Cd ?_ ?_
   ·refine Ck fun m =>Bd fun ab n =>Te [0,5,6,7] (o1 32 (JZ n)) (Ew1 m) ?_
    refine Sq <|T0 [0,5,6,7,34] ?_
    refine Cd ?_ ?_
    ·refine Sx <|Tx <|Bo <|Tx <|Bo <|Lx f e <|Bx <|?_
     exact Jn ((ws (l':=[(5,.bs false 0 (a.length) 0 (a.length))]) (O':=[.buf 4 (L Aa a) false]) [0]).trans (ws [0]))
    refine Sk <|Tn <|Lt fun o p =>Te (fr':=[(0,_),(5,_),(6,i64 o)]) [0,5,6] Ac (Ew1 p) ?_
    exact Sx <|Bo <|Tx <|Bx <|Ln (ws [0])
   refine Sk <|Bn <|Tn <|Ck fun q =>Bd fun ac s =>Te [0,5,6,8,9] (o1 43 (Qs s)) (Ew1 q) ?_
   refine Sq <|T0 [0,5,6,8,9,47] ?_
   refine Cd ?_ ?_
   ·refine T0 [2,3,4] ?_;exact Sr <|Tr <|Br <|Lr f e <|Br <|Jr j <|Cr <|Rr
   refine Sk <|Tn <|T0 [0,5,6,8] ?_
   refine Ck fun t =>Lt fun g u =>Te (fr':=[(0,_),(5,.bs false 0 (g.length) 0 (g.length)),(6,_),(8,_)]) (O':=[.buf 4 (L Aa g) false,_,_]) [0,5,6,8] Ac (Ew2 t u) ?_
   refine Lt fun w x =>Fe (fr':=[(0,_),(5,_),(6,i64 w)]) [0,5,6] Ac (Ew1 x) ?_
   exact Bn <|Ln (ws [0])
  refine Sx <|Tx <|Lx f e <|Bx <|?_
  exact Jn ((ws (l':=[(5,.bs false 0 (a.length) 0 (a.length))]) (O':=[.buf 4 (L Aa a) false]) [0]).trans (ws [0]))
 intro c;refine T0 [2,3,4] ?_;exact Sr <|Cr <|Rr
theorem Fb{a r}(h:El a=some r):Con (B rs) 58 [.str a] [] (fun r' O'=>r'=.bool r/\O'=[]):=by
 refine Cw 6 [.tmp 2] Tryz.func58 (fun F hE=>?_) h;unfold El;refine T0 [0] ?_;refine T0 [2] ?_;exact Sr <|Rr
theorem Tf{r}(h:tbox_all  = some r):Con (B rs) 123 [] [] (fun r' O'=>r'=.agg (C1 i64 r.low.l++C1 i64 r.high.l)/\O'=[]):=by
 refine Cw 10 [.cell 0 152] Tryz.func123 (fun F hE=>?_) h;unfold tbox_all;refine T0 [0] ?_;refine Ja (fun a=>⟨Al 10 [(0,.ref 0 0)],[.box (C1 i64 (Arr.rep 16 0).l++C1 i64 a.l) false]⟩) ?_ ?_
 ·intro m;refine T0 [0,2] ?_;refine Sb ?_;refine Lo (fun(v:Int×Arr Int 16)=>(⟨Al 10 [(0,.ref 0 0),(2,i64 v.1)],[.box (C1 i64 (Arr.rep 16 0).l++C1 i64 v.2.l) false]⟩:St)) (ws [0]) ?_;rintro⟨b,c⟩ n e f g;show Lm b c=some e->_;unfold Lm;refine T0 [0,2,3] ?_;refine Sq <|Cd ?_ ?_
  ·refine Sk <|Tn <|Sq <|Sb <|T0 [0,1,2] ?_
   refine Ck fun d=>?_
   have i:16+b.toNat<=31:=by have:=d.2;omega
   refine Lt fun j k =>Fe (O':=[.box (C1 i64 (Arr.rep 16 0).l++C1 i64 j.l) false]) [0,2] Ac (Ew3 (qR d) i k) ?_
   refine Bn <|Tn <|F0 [0,2] ?_
   exact Ln (ws [0])
  refine Sx <|Tx <|Ly g f <|Bx <|?_
  exact Jm ((ws (l':=[(0,.ref 0 0)]) (O':=[.box (C1 i64 (Arr.rep 16 0).l++C1 i64 c.l) false]) [0]).trans (ws [0]))
 intro a;refine T0 [0] ?_;exact Sr <|Rr
theorem NM{b a r}(h:GQ b a=some r):Con (B rs) 124 [.agg (C1 i64 b.low.l++C1 i64 b.high.l),.agg [i64 a.Attr,i64 a.Low,i64 a.Zc]] [] (fun r' O'=>r'=.agg (C1 i64 r.low.l++C1 i64 r.high.l)/\O'=[]):=by
 refine Cw 30 [.cell 4 152] Tryz.func124 (fun F hE=>?_) h;unfold GQ;refine T0 [2,3,4] ?_;refine Ck fun c=>?_
 have i:a.Attr.toNat<=31:=by have:=c.2;omega
 refine Ck fun d=>?_
 have j:a.Attr.toNat<=31:=by have:=d.2;omega
 refine Lt fun e k =>De (O':=[.box (C1 i64 e.l++C1 i64 b.high.l) false,_,_]) [[],[0],[],[2],[],[2,3,4],[2,3,4,5],[],[7],[2,3,4,5,6,7,8],[],[0,1,2,3,4,5,6,7,8,9,10],[0,1,2,3,4,5,6,7,8,9,10,11]] [2,3,4] Ac (Ew5 (qR c) i (qR d) j k) ?_
 refine Ck fun f=>?_
 have m:16+a.Attr.toNat<=31:=by have:=f.2;omega
 refine Ck fun g=>?_
 have n:16+a.Attr.toNat<=31:=by have:=g.2;omega
 refine Lt fun o p =>De (O':=[.box (C1 i64 e.l++C1 i64 o.l) false,_,_]) [[],[0],[],[2],[],[2,3,4],[2,3,4,5],[],[7],[2,3,4,5,6,7,8],[],[0,1,2,3,4,5,6,7,8,9,10],[0,1,2,3,4,5,6,7,8,9,10,11]] [2,4] Ac (Ew5 (qR f) m (qR g) n p) ?_
 refine T0 [4] ?_;exact Sr <|Rr
variable {rs:AoH}
theorem KT{rec_:AoM->Option (Int)}(hrec:∀{a:AoM} {r:Int},rec_ a=some r->Con (B rs) 60 [.agg (i64 a.Op::i64 a.N::(C1 i64 a.Unit.l++[.sl false (L cApi_Expr a.L)]))] [] (fun r' O'=>r'=i64 r/\O'=[])){a:AoM}{r:Int}(h:E1 rec_ a=some r):Con (B rs) 60 [.agg (i64 a.Op::i64 a.N::(C1 i64 a.Unit.l++[.sl false (L cApi_Expr a.L)]))] [] (fun r' O'=>r'=i64 r/\O'=[]):=by
 refine FD (N:=20) (rs:=[.tmp 2]) ok Tryz.func60 rfl (by decide +kernel) rfl rfl (Apj rfl) (fun F=>?_);have hE:=(ok (rs:=rs)).env F;unfold E1 at h;show Run ((B rs).env F) 0 _ ⟨Al 20 [(0,.agg (i64 a.Op::i64 a.N::(C1 i64 a.Unit.l++[.sl false (L cApi_Expr a.L)])))],[]⟩ _;refine BR ?_;revert h;refine T0 [1] ?_;refine T0 [1,3] ?_;refine Ja (fun b=>⟨Al 20 [(3,i64 b)],[]⟩) ?_ ?_
 ·intro u;refine T0 [3,7,8,9] ?_;refine Sb ?_;refine Lo (fun(v:Int×Int)=>(⟨Al 20 [(3,i64 v.1),(7,.sl false (L cApi_Expr a.L)),(8,i64 (a.L.length:Int)),(9,i64 v.2)],[]⟩:St)) (ws []) ?_;rintro⟨c,d⟩ w e f g;show EX a rec_ c d=some e->_;unfold EX;refine T0 [3,7,8,9,10] ?_;refine Sq <|Cd ?_ ?_
  ·refine Sk <|Tn <|Sq <|Sb <|Ck fun i =>Lt fun j k =>Lt fun m n =>Lt fun o p =>Lt fun q s =>Te (O':=[.box (i64 j::i64 m::(C1 i64 o.l++[.sl false (L cApi_Expr q)])) false]) [3,5,7,8,9] Ac (Ew5 (qR i) k n p s) ?_
   refine Bd fun x t =>Fe [3,7,8,9] (o1 15 (hrec t)) Ev ?_
   refine Bn <|Tn <|F0 [3,7,8,9] ?_
   exact Ln (ws [])
  refine Sx <|Tx <|Ly g f <|Bx <|?_
  exact Jm ((ws (l':=[(3,i64 c)]) (O':=[]) []).trans (ws []))
 intro b;refine T0 [2] ?_;exact Sr <|Rr
theorem KU(n:Nat):∀{a:AoM} {r:Int},Ey n a=some r->Con (B rs) 60 [.agg (i64 a.Op::i64 a.N::(C1 i64 a.Unit.l++[.sl false (L cApi_Expr a.L)]))] [] (fun r' O'=>r'=i64 r/\O'=[]):=by
 induction n with
 |zero=>intro a r h;cases h
 |succ n ih=>intro a r h;exact KT ih h
theorem Ic{a:AoM}{r:Int}(h:DO a=some r):Con (B rs) 60 [.agg (i64 a.Op::i64 a.N::(C1 i64 a.Unit.l++[.sl false (L cApi_Expr a.L)]))] [] (fun r' O'=>r'=i64 r/\O'=[]):=KU _ h
theorem BN{a r}(h:Bk a=some r):Con (B rs) 50 [.ref 0 0] [.box [.sl false (L Aa a.l),i64 a.end_] false] (fun r' O'=>r'=i64 r.1/\O'=[.box [.sl false (L Aa r.2.l),i64 r.2.end_] false]):=by
 refine Co 1 20 [.tmp 2] Tryz.func50 (fun F hE=>?_) h;unfold Bk;refine T0 [0] ?_;refine Sq <|T0 [0,8] ?_
 refine Cd ?_ ?_
 ·refine Ck fun b =>Te [2] Ac (Ew1 (qL b)) ?_
  exact Sr <|Tr <|Ro [0]
 refine Sk <|Tn <|T0 [2] ?_
 exact Sr <|Ro [0]
theorem Dv{a c r}(h:BI a c=some r):Con (B rs) 85 [.ref 0 0,i64 c] [.box [.sl false (L Aa a.l),i64 a.end_] false] (fun r' O'=>r'=.tup [.agg [i64 r.1.Za,.str r.1.Zb,i64 r.1.N,i64 r.1.At],.bool r.2.1]/\O'=[.box [.sl false (L Aa r.2.2.l),i64 r.2.2.end_] false]):=by
 refine Co 1 30 [.cell 4 159,.tmp 5] Tryz.func85 (fun F hE=>?_) h;unfold BI;refine T0 [0,1,4] ?_;refine Sq ?_;refine Tw [0,4,22] (fun d=>⟨Al 30 [(0,.ref 0 0),(4,.ref 1 0),(22,.bool d)],[.box [.sl false (L Aa a.l),i64 a.end_] false,.box [i64 0,.str ([]:List UInt8),i64 0,i64 0] false]⟩) ?_ ?_
 ·intro _;refine Sp (fun b=>?_) fun b=>?_
  ·exact Lf Ac (Ew1 b) (ws [0,1])
  refine Ck fun e=>?_
  exact Lf Ac (Ew2 b (qL e)) (ws [0,1])
 intro d;refine Cd ?_ ?_
 ·refine T0 [4,5] ?_;exact Sr <|Tr <|Ro [0]
 refine Sk <|Tn <|Ck fun f =>Te [4,5] Ac (Ew1 (qL f)) ?_
 exact Sr <|Ro [0]
theorem A4{a d r}(h:Av a d=some r):Con (B rs) 51 [.ref 0 0,.str d] [.box [.sl false (L Aa a.l),i64 a.end_] false] (fun r' O'=>r'=.bool r.1/\O'=[.box [.sl false (L Aa r.2.l),i64 r.2.end_] false]):=by
 refine Co 1 40 [.tmp 4] Tryz.func51 (fun F hE=>?_) h;unfold Av;refine T0 [0,1] ?_;refine Sq ?_;refine Tw [0,31] (fun e=>⟨Al 40 [(0,.ref 0 0),(31,.bool e)],[.box [.sl false (L Aa a.l),i64 a.end_] false]⟩) ?_ ?_
 ·intro _;refine Sp (fun b=>?_) fun b=>?_
  ·exact Lf Ac (Ew1 b) (ws [0])
  refine Ck fun f=>?_
  refine Sp (fun c=>?_) fun c=>?_
  ·exact Lf Ac (Ew3 b (qL f) c) (ws [0])
  refine Ck fun g=>?_
  exact Lf Ac (Ew4 b (qL f) c (qL g)) (ws [0])
 intro e;refine Cd ?_ ?_
 ·refine T0 [4] ?_;exact Sr <|Tr <|Ro [0]
 refine Sk <|Tn <|Ck fun i =>Lt fun j k =>Te (O':=[.box [.sl false (L Aa j),i64 a.end_] false]) [] Ac (Ew2 i k) ?_
 refine T0 [4] ?_;exact Sr <|Ro [0]
theorem HR{b a r}(h:Dy b a=some r):Con (B rs) 88 [.agg (Ab b),.ref 0 0] [.box (.str a.Zd::.sl true (L Ae ([]))::i64 a.Pay.Op::i64 a.Pay.N::(C1 i64 a.Pay.Unit.l++[.sl true (L cApi_Expr ([]))])) false] (fun r' O'=>r'=.bool r.1/\O'=[.box (.str r.2.Zd::.sl true (L Ae ([]))::i64 r.2.Pay.Op::i64 r.2.Pay.N::(C1 i64 r.2.Pay.Unit.l++[.sl true (L cApi_Expr ([]))])) false]):=by
 refine Co 1 9 [.tmp 3] Tryz.func88 (fun F hE=>?_) h;unfold Dy;refine T0 [1,2] ?_;refine T0 [3] ?_;exact Sr <|Ro [0]
theorem GV{a c r}(h:C0 a c=some r):Con (B rs) 135 [.bs false 0 (a.length) 0 (a.length),.fn 88 [.ref 1 0]] [.buf 9 (L Ab a) false,.box (.str c.Zd::.sl true (L Ae ([]))::i64 c.Pay.Op::i64 c.Pay.N::(C1 i64 c.Pay.Unit.l++[.sl true (L cApi_Expr ([]))])) false] (fun r' O'=>r'=i64 r.1/\O'=[.buf 9 (L Ab a) false,.box (.str r.2.Zd::.sl true (L Ae ([]))::i64 r.2.Pay.Op::i64 r.2.Pay.N::(C1 i64 r.2.Pay.Unit.l++[.sl true (L cApi_Expr ([]))])) false]):=by
 refine Co 2 19 [.tmp 4] Tryz.func135 (fun F hE=>?_) h;unfold C0;refine T0 [0,1] ?_;refine Jo (fun⟨i,j,k,n⟩=>⟨Al 19 [],[.buf 9 (L Ab a) false,.box (.str i::.sl true (L Ae ([]))::i64 j::i64 k::(C1 i64 n.l++[.sl true (L cApi_Expr ([]))])) false]⟩) ?_ ?_
 ·intro v q;refine T0 [0,1,7,8] ?_;refine Sb ?_;refine Lo (fun⟨b,d,e,f,g⟩=>⟨Al 19 [(0,.bs false 0 (a.length) 0 (a.length)),(1,.fn 88 [.ref 1 0]),(7,i64 (a.length:Int)),(8,i64 b)],[.buf 9 (L Ab a) false,.box (.str d::.sl true (L Ae ([]))::i64 e::i64 f::(C1 i64 g.l++[.sl true (L cApi_Expr ([]))])) false]⟩) (ws [0,1]) ?_;rintro⟨b,d,e,f,g⟩ w s o p;show BV a b d e f g=some s->_;unfold BV;refine T0 [0,1,7,8,9] ?_;refine Sq <|Cd ?_ ?_
  ·refine Sk <|Tn <|Sq <|Sb <|T0 [0,1,5,7,8] ?_
   refine Ck fun t =>Bd fun x u =>Te [0,1,5,7,8,16] (Ag (l:=[]) (m:=[(16,88,[.agg (.str ((nth a b.toNat).Zd)::.sl false (L Ae ((nth a b.toNat).Ze))::i64 (((nth a b.toNat).Pay).Op)::i64 (((nth a b.toNat).Pay).N)::(C1 i64 (((nth a b.toNat).Pay).Unit).l++[.sl false (L cApi_Expr (((nth a b.toNat).Pay).L))])),.ref 1 0],[.buf 9 (L Ab a) false,.box (.str d::.sl true (L Ae ([]))::i64 e::i64 f::(C1 i64 g.l++[.sl true (L cApi_Expr ([]))])) false],_,_)]) trivial ⟨(wc (HR u) [1]),trivial⟩) (Ew1 (qR t)) ?_
   refine Cd ?_ ?_
   ·refine T0 [4] ?_;exact Sr <|Br <|Tr <|Lr p o <|Br <|Jr q <|Ro [0,1]
   refine Sk <|Bn <|Tn <|F0 [0,1,7,8] ?_
   exact Ln (ws [0,1])
  refine Sx <|Tx <|Lx p o <|Bx <|?_
  exact Jn ((ws (l':=[]) (O':=[.buf 9 (L Ab a) false,.box (.str d::.sl true (L Ae ([]))::i64 e::i64 f::(C1 i64 g.l++[.sl true (L cApi_Expr ([]))])) false]) [0,1]).trans (ws [0,1]))
 rintro⟨i,j,k,n⟩;refine T0 [4] ?_;exact Sr <|Ro [0,1]
theorem Gd{b a r}(h:Bz b a=some r):Con (B rs) 87 [.bs false 0 (b.length) 0 (b.length),.fn 88 [.ref 1 0]] [.buf 9 (L Ab b) false,.box (.str a.Zd::.sl true (L Ae ([]))::i64 a.Pay.Op::i64 a.Pay.N::(C1 i64 a.Pay.Unit.l++[.sl true (L cApi_Expr ([]))])) false] (fun r' O'=>r'=.bool r.1/\O'=[.buf 9 (L Ab b) false,.box (.str r.2.Zd::.sl true (L Ae ([]))::i64 r.2.Pay.Op::i64 r.2.Pay.N::(C1 i64 r.2.Pay.Unit.l++[.sl true (L cApi_Expr ([]))])) false]):=by
 refine Co 2 9 [.tmp 4] Tryz.func87 (fun F hE=>?_) h;unfold Bz;refine T0 [0,1] ?_;refine Bd fun d c =>Te [4] (Ag (l:=[]) (m:=[(7,135,[.bs false 0 (b.length) 0 (b.length),.fn 88 [.ref 1 0]],[.buf 9 (L Ab b) false,.box (.str a.Zd::.sl true (L Ae ([]))::i64 a.Pay.Op::i64 a.Pay.N::(C1 i64 a.Pay.Unit.l++[.sl true (L cApi_Expr ([]))])) false],_,_)]) trivial ⟨(wc (GV c) [0,1]),trivial⟩) Ev ?_
 exact Sr <|Ro [0,1]
theorem AA{a:AoP}{r:AoP⊕(Int×Int×AoP)}(h:Bs a=some r):PCon (B rs) 53 [.ref 0 0] [.box [.sl false (L Aa a.l),i64 a.end_] false] (J0 r):=by
 refine BJ (N:=6) (rs:=[]) 1 rfl ok Tryz.func53 rfl (by decide +kernel) rfl rfl (Apj rfl) (fun F=>?_);have hE:=(ok (rs:=rs)).env F;unfold Bs at h;show Run ((B rs).env F) 1 _ ⟨Al 6 [(0,.ref 0 0)],[.box [.sl false (L Aa a.l),i64 a.end_] false]⟩ _;refine BR ?_;revert h;intro h;replace h:=An h;obtain⟨b,c,h⟩:=h;refine DI hE [] 4 _ (v:=.iface 104 (.agg #[.int .i64 b.1,.int .i64 160])) (σ2:=[.box [.sl false (L Aa b.2.l),i64 b.2.end_] false]) (vals:=[]) rfl rfl ⟨_,[],(Ag (l:=[]) (m:=[(3,50,[.ref 0 0],[.box [.sl false (L Aa a.l),i64 a.end_] false],_,_)]) trivial ⟨(wc (BN c) [0]),trivial⟩),trivial,?_⟩ (fun fr_ hlen_ hfr_=>?_)
 ·simp only[go_sem]
 obtain rfl:=Ao1 h;refine AG (Weak.refl _ _) ?_;refine AR rfl [0] (by decide) rfl ?_;simp only[go_sem]
theorem Am{b:AoP}{c:List UInt8}{r:AoP⊕(Int×Int×AoP)}(h:Ax b c=some r):PCon (B rs) 47 [.ref 0 0,.str c] [.box [.sl false (L Aa b.l),i64 b.end_] false] (II r):=by
 refine BJ (N:=10) (rs:=[]) 1 rfl ok Tryz.func47 rfl (by decide +kernel) rfl rfl (Apj rfl) (fun F=>?_);have hE:=(ok (rs:=rs)).env F;unfold Ax at h;show Run ((B rs).env F) 1 _ ⟨Al 10 [(0,.ref 0 0),(1,.str c)],[.box [.sl false (L Aa b.l),i64 b.end_] false]⟩ _;refine BR ?_;revert h;refine Bd fun d g =>Te [0,7] (Ag (l:=[]) (m:=[(6,51,[.ref 0 0,.str c],[.box [.sl false (L Aa b.l),i64 b.end_] false],_,_)]) trivial ⟨(wc (A4 g) [0]),trivial⟩) Ev ?_
 refine Cd ?_ ?_
 ·intro h;replace h:=An h;obtain⟨i,e,h⟩:=h;rcases i with f|a
  rotate_left
  ·dsimp only at h;refine DI hE [] 1 _ (v:=.iface 104 (.agg #[.int .i64 a.1,.int .i64 a.2.1])) (σ2:=[.box [.sl false (L Aa a.2.2.l),i64 a.2.2.end_] false]) (vals:=[]) rfl rfl ⟨_,[(9,53,[.ref 0 0],[.box [.sl false (L Aa d.2.l),i64 d.2.end_] false],.val (.iface 104 (.agg #[.int .i64 a.1,.int .i64 a.2.1])),[.box [.sl false (L Aa a.2.2.l),i64 a.2.2.end_] false])],Ac,⟨fun v hv=>by cases hv;exact A5 (PCon.pan (AA e) rfl) [0] (by decide) gs gs gs gs,trivial⟩,?_⟩ (fun fr_ hlen_ hfr_=>?_)
   ·simp only[go_sem]
   obtain rfl:=Ao1 h;refine AG (Weak.refl _ _) ?_;refine AR rfl [0] (by decide) rfl ?_;simp only[go_sem]
  dsimp only at h;refine D5 hE Ma [] (fr':=[]) (O':=[.box [.sl false (L Aa f.l),i64 f.end_] false]) ⟨_,(Ag (l:=[]) (m:=[(9,53,[.ref 0 0],[.box [.sl false (L Aa d.2.l),i64 d.2.end_] false],_,_)]) trivial ⟨(wc (PCon.to (AA e) rfl) [0]),trivial⟩),?_⟩ ?_
  ·simp only[go_sem]
  revert h;intro h;obtain rfl:=Ao1 h;refine AG (Weak.refl _ _) ?_;refine EE rfl (Ha (.inl rfl) ?_ rfl ?_)
  ·simp only[go_sem]
  show Im [0] _ [0] _;simp only[go_sem]
 refine Sk ?_;intro h;obtain rfl:=Ao1 h;refine AG (Weak.refl _ _) ?_;refine EE rfl (Ha (.inl rfl) ?_ rfl ?_)
 ·simp only[go_sem]
 show Im [0] _ [0] _;simp only[go_sem]
theorem AL{c:AoP}{r:(Int×AoP)⊕(Int×Int×AoP)}(h:Bl c=some r):PCon (B rs) 136 [.ref 0 0] [.box [.sl false (L Aa c.l),i64 c.end_] false] (I0 r):=by
 refine BJ (N:=24) (rs:=[.tmp 2]) 1 rfl ok Tryz.func136 rfl (by decide +kernel) rfl rfl (Apj rfl) (fun F=>?_);have hE:=(ok (rs:=rs)).env F;unfold Bl at h;show Run ((B rs).env F) 1 _ ⟨Al 24 [(0,.ref 0 0)],[.box [.sl false (L Aa c.l),i64 c.end_] false]⟩ _;refine BR ?_;revert h;refine T0 [0] ?_;refine Bd fun a f =>Te [0,3,4] (Ag (l:=[]) (m:=[(7,85,[.ref 0 0,i64 2],[.box [.sl false (L Aa c.l),i64 c.end_] false],_,_)]) trivial ⟨(wc (Dv f) [0]),trivial⟩) Ev ?_
 refine Jo (fun(v:List AoI×Int)=>(⟨Al 24 [(0,.ref 0 0),(3,.ref 1 0)],[.box [.sl false (L Aa v.1),i64 v.2] false,.box [i64 a.1.Za,.str a.1.Zb,i64 a.1.N,i64 a.1.At] false]⟩:St)) ?_ ?_
 ·intro p g;refine T0 [0,3,11] ?_;refine Cd ?_ ?_
  ·intro h;replace h:=An h;obtain⟨i,d,h⟩:=h;rcases i with e|b
   rotate_left
   ·dsimp only at h;refine DI hE [] 1 _ (v:=.iface 104 (.agg #[.int .i64 b.1,.int .i64 b.2.1])) (σ2:=[.box [.sl false (L Aa b.2.2.l),i64 b.2.2.end_] false,.box [i64 a.1.Za,.str a.1.Zb,i64 a.1.N,i64 a.1.At] false]) (vals:=[]) rfl rfl ⟨_,[(13,53,[.ref 0 0],[.box [.sl false (L Aa a.2.2.l),i64 a.2.2.end_] false,.box [i64 a.1.Za,.str a.1.Zb,i64 a.1.N,i64 a.1.At] false],.val (.iface 104 (.agg #[.int .i64 b.1,.int .i64 b.2.1])),[.box [.sl false (L Aa b.2.2.l),i64 b.2.2.end_] false,.box [i64 a.1.Za,.str a.1.Zb,i64 a.1.N,i64 a.1.At] false])],Ac,⟨fun v hv=>by cases hv;exact A5 (PCon.pan (AA d) rfl) [0] (by decide) gs gs gs gs,trivial⟩,?_⟩ (fun fr_ hlen_ hfr_=>?_)
    ·simp only[go_sem]
    refine Hm ?_;replace h:=An h;obtain⟨q,h,e_z_1857⟩:=h;obtain rfl:=Ao1 e_z_1857;obtain rfl:=Ao1 g;obtain rfl:=Ao1 h;refine AG (Weak.refl _ _) ?_;refine AR rfl [0] (by decide) rfl ?_;simp only[go_sem]
   dsimp only at h;refine D5 hE G8 [0,3] (fr':=[(0,.ref 0 0),(3,.ref 1 0)]) (O':=[.box [.sl false (L Aa e.l),i64 e.end_] false,.box [i64 a.1.Za,.str a.1.Zb,i64 a.1.N,i64 a.1.At] false]) ⟨_,(Ag (l:=[]) (m:=[(13,53,[.ref 0 0],[.box [.sl false (L Aa a.2.2.l),i64 a.2.2.end_] false,.box [i64 a.1.Za,.str a.1.Zb,i64 a.1.N,i64 a.1.At] false],_,_)]) trivial ⟨(wc (PCon.to (AA d) rfl) [0]),trivial⟩),?_⟩ ?_
   ·simp only[go_sem]
   revert h;exact Jn (ws [0,1])
  exact Sk <|Jn (ws [0,1])
 rintro⟨s,j⟩;refine Ck fun k =>Lt fun n o =>Te (O':=[.box [.sl false (L Aa n),i64 j] false,_]) [3] Ac (Ew2 k o) ?_
 refine T0 [2] ?_;refine Sr ?_;intro h;obtain rfl:=Ao1 h;refine AG (Weak.refl _ _) ?_;refine EE rfl (Ha (.inr rfl) ?_ rfl ?_)
 ·simp only[go_sem]
 show Im [0] _ [0] _;simp only[go_sem]
variable {rs:AoH}
theorem Qv{a b r}(h:ML a b=some r):Con (B rs) 161 [u64 a,u64 b] [] (fun r' O'=>r'=.tup [u64 r.1,u64 r.2]/\O'=[]):=by
 refine Cw 51 [.tmp 4,.tmp 5] Tryz.func161 (fun F hE=>?_) h;unfold ML;refine T0 [0,1] ?_;refine Lt fun x0_2646 c =>Te (fr':=[(0,_),(1,_),(6,u64 x0_2646)]) [0,1,6] Ac (Ew1 c) ?_
 refine Lt fun x1_2648 d =>Te (fr':=[(0,_),(1,_),(6,_),(7,u64 x1_2648)]) [0,1,6,7] Ac (Ew1 d) ?_
 refine Lt fun y0_2650 e =>Te (fr':=[(0,_),(1,_),(6,_),(7,_),(8,u64 y0_2650)]) [0,1,6,7,8] Ac (Ew1 e) ?_
 refine Lt fun y1_2652 f =>Te (fr':=[(0,_),(1,_),(6,_),(7,_),(8,_),(9,u64 y1_2652)]) [0,1,6,7,8,9] Ac (Ew1 f) ?_
 refine T0 [0,1,6,7,8,9,10] ?_;refine Lt fun g i =>Te (fr':=[(0,_),(1,_),(6,_),(7,_),(9,_),(11,u64 g)]) [0,1,6,7,9,11] Ac (Ew1 i) ?_
 refine Lt fun w1_2656 j =>Te (fr':=[(0,_),(1,_),(6,_),(7,_),(9,_),(11,_),(12,u64 w1_2656)]) [0,1,6,7,9,11,12] Ac (Ew1 j) ?_
 refine Lt fun w2_2658 k =>Te (fr':=[(0,_),(1,_),(6,_),(7,_),(9,_),(12,_),(13,u64 w2_2658)]) [0,1,6,7,9,12,13] Ac (Ew1 k) ?_
 refine Lt fun w1_2660 l =>Te (fr':=[(0,_),(1,_),(7,_),(9,_),(12,u64 w1_2660),(13,_)]) [0,1,7,9,12,13] Ac (Ew1 l) ?_
 refine Lt fun m n =>Te (fr':=[(0,_),(1,_),(4,u64 m)]) [0,1,4] Ac (Ew1 n) ?_
 refine T0 [4,5] ?_;exact Sr <|Rr
end Go.Proofs.YtldngkmkhfddpaaGreatDoor
