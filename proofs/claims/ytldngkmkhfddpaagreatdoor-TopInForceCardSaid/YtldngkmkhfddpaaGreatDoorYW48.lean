/-
  Part 48.
-/
import Derived.Test.YtldngkmkhfddpaaGreatDoorProg
import Derived.Test.YtldngkmkhfddpaaGreatDoorRows
import Derived.Test.YtldngkmkhfddpaaGreatDoorYW47
import Derived.KernelRfl
import Derived.WalkKit
import Derived.ProofKit
import Derived.OpenShut
import Derived.JoinedCond
import Derived.LaidMore
import Derived.Lay
import Derived.SevenTiedAt
import Derived.Stop.Joined
import Derived.Lib.LaidTab
namespace Go.Proofs.YtldngkmkhfddpaaGreatDoor
open Go.Rv
set_option linter.unusedVariables false
set_option linter.unusedSimpArgs false
set_option maxRecDepth 20000
def glob0:Arr UInt8 256:=⟨[0,0,0,0,0,0,0,0,0,1,1,1,1,1,0,0,0,0,0,0,0,0,0,0,0,0,0,0,0,0,0,0,1,0,0,0,0,0,0,0,0,0,0,0,0,0,0,0,0,0,0,0,0,0,0,0,0,0,0,0,0,0,0,0,0,0,0,0,0,0,0,0,0,0,0,0,0,0,0,0,0,0,0,0,0,0,0,0,0,0,0,0,0,0,0,0,0,0,0,0,0,0,0,0,0,0,0,0,0,0,0,0,0,0,0,0,0,0,0,0,0,0,0,0,0,0,0,0,0,0,0,0,0,0,0,0,0,0,0,0,0,0,0,0,0,0,0,0,0,0,0,0,0,0,0,0,0,0,0,0,0,0,0,0,0,0,0,0,0,0,0,0,0,0,0,0,0,0,0,0,0,0,0,0,0,0,0,0,0,0,0,0,0,0,0,0,0,0,0,0,0,0,0,0,0,0,0,0,0,0,0,0,0,0,0,0,0,0,0,0,0,0,0,0,0,0,0,0,0,0,0,0,0,0,0,0,0,0,0,0,0,0,0,0,0,0,0,0,0,0,0,0,0,0,0,0],rfl⟩
def tab1:List (List UInt8×Bool):=[([97,110,100],true),([98,101,103,105,110],true),([99,108,97,115,115],true),([99,108,97,117,115,101],true),([99,108,101,97,110,105,110,103],true),([99,111,100,101],true),([99,111,115,116],true),([100,101,109,117,114,114,97,103,101],true),([100,111,119,110],true),([102,111,114],true),([102,114,101,105,103,104,116],true),([104,97,108,102],true),([104,105,114,101],true),([105,102],true),([105,110],true),([105,115],true),([107,103],true),([107,109],true),([108,111,115,115],true),([109,97,120],true),([109,105,110],true),([109,105,110,117,116,101],true),([109,105,110,117,116,101,115],true),([109,111,110,101,121],true),([109,111,110,116,104],true),([111,119,110,101,114],true),([112,97,114,116],true),([112,97,114,116,115],true),([112,97,121],true),([112,101,114],true),([114,97,105,108,119,97,121],true),([114,101,112,97,105,114],true),([115,104,105,112,112,101,114],true),([116,97,114,105,102,102],true),([116,121,112,101],true),([117,112],true),([119,101,105,103,104,116],true),([119,104,101,110],true),([119,111,114,107,105,110,103],true),([119,111,114,116,104],true)]
def tab3:List (UInt8×List UInt8):=[(40,[40]),(41,[41]),(42,[42]),(43,[43]),(44,[44]),(45,[45]),(46,[46,46]),(59,[59]),(60,[60]),(123,[123]),(125,[125])]
structure Aqm where
  r:Nat->Nat
  ev:Option (Nat×Nat×Int×Arr Int 16)
instance:CoeFun Aqm fun _=>Nat->Nat:=⟨Aqm.r⟩
variable {rs:Aqm}
def YJ(b:Nat):AV->Option AV
 |.int .i64 n=>if n=3 then some (.fn 68 [.tup [.glob b]])else if n=4 then some (.fn 69 [.tup [.glob b]])else if n=5 then some (.fn 70 [.tup [.glob b]])else if n=6 then some (.fn 71 [.tup [.glob b]])else if n=7 then some (.fn 72 [.tup [.glob b]])else if n=8 then some (.fn 73 [.tup [.glob b]])else if n=9 then some (.fn 74 [.tup [.glob b]])else if n=10 then some (.fn 75 [.tup [.glob b]])else if n=11 then some (.fn 76 [.tup [.glob b]])else none
 |_=>none
structure Aqn where
  Kind:Int
  Text:List UInt8
  N:Int
  At:Int
  deriving DecidableEq,Inhabited
def An(x:Aqn):List AV:=[i64 x.Kind,.str x.Text,i64 x.N,i64 x.At]
structure Aqo where
  low:Arr Int 16
  high:Arr Int 16
  deriving DecidableEq,Inhabited
def EA(x:Aqo):List AV:=((C1 i64 x.low.l++C1 i64 x.high.l))
structure Aqp where
  Attr:Int
  Low:Int
  High:Int
  deriving DecidableEq,Inhabited
def Ag(x:Aqp):List AV:=[i64 x.Attr,i64 x.Low,i64 x.High]
structure Aqq where
  Has:Int
  V:Arr Int 16
  deriving DecidableEq,Inhabited
def XI(x:Aqq):List AV:=(i64 x.Has::C1 i64 x.V.l)
inductive Aqr where
  |mk (Op:Int) (N:Int) (Unit:Arr Int 4) (L:List Aqr)
instance:Inhabited Aqr:=⟨.mk default default default default⟩
def Aqr.Op(x:Aqr):Int:=match x with
 |.mk a _ _ _=>a
theorem V3{x0:Int}{x1:Int}{x2:Arr Int 4}{x3:List Aqr}:(Aqr.mk x0 x1 x2 x3).Op=x0:=rfl
def Aqr.N(x:Aqr):Int:=match x with
 |.mk _ a _ _=>a
theorem ZX{x0:Int}{x1:Int}{x2:Arr Int 4}{x3:List Aqr}:(Aqr.mk x0 x1 x2 x3).N=x1:=rfl
def Aqr.Unit(x:Aqr):Arr Int 4:=match x with
 |.mk _ _ a _=>a
theorem S0{x0:Int}{x1:Int}{x2:Arr Int 4}{x3:List Aqr}:(Aqr.mk x0 x1 x2 x3).Unit=x2:=rfl
def Aqr.L(x:Aqr):List Aqr:=match x with
 |.mk _ _ _ a=>a
theorem Aaq{x0:Int}{x1:Int}{x2:Arr Int 4}{x3:List Aqr}:(Aqr.mk x0 x1 x2 x3).L=x3:=rfl
noncomputable def cApi_Expr(v:Aqr):List AV:=Aqr.rec (motive_1:=fun _=>List AV) (motive_2:=fun _=>List (List AV)) (fun Op_ N_ Unit_ L_ ih3=>(i64 Op_::i64 N_::(C1 i64 Unit_.l++[.sl false ih3]))) [] (fun _ _ x l=>x::l) v
theorem Xt(l:List Aqr):Aqr.rec_1 (motive_1:=fun _=>List AV) (motive_2:=fun _=>List (List AV)) (fun Op_ N_ Unit_ L_ ih3=>(i64 Op_::i64 N_::(C1 i64 Unit_.l++[.sl false ih3]))) [] (fun _ _ x l=>x::l) l=L cApi_Expr l:=by
 induction l with
 |nil=>rfl
 |cons x l ih=>exact Arz (cApi_Expr x::·) ih
theorem Oj(x:Aqr):cApi_Expr x=(i64 x.Op::i64 x.N::(C1 i64 x.Unit.l++[.sl false (L cApi_Expr x.L)])):=by
 cases x with
 |mk a0 a1 a2 a3=>
  show(i64 a0::i64 a1::(C1 i64 a2.l++[.sl false (Aqr.rec_1 (motive_1:=fun _=>List AV) (motive_2:=fun _=>List (List AV)) (fun Op_ N_ Unit_ L_ ih3=>(i64 Op_::i64 N_::(C1 i64 Unit_.l++[.sl false ih3]))) [] (fun _ _ x l=>x::l) a3)]))=_;rw[Xt];rfl
structure Aqs where
  Name:List UInt8
  When:List Aqp
  Pay:Aqr
  deriving Inhabited
noncomputable def Ab(x:Aqs):List AV:=(.str x.Name::.sl false (L Ag x.When)::i64 x.Pay.Op::i64 x.Pay.N::(C1 i64 x.Pay.Unit.l++[.sl false (L cApi_Expr x.Pay.L)]))
structure Aqt where
  Name:List UInt8
  For:Int
  Clauses:List Aqs
  deriving Inhabited
noncomputable def Aj(x:Aqt):List AV:=[.str x.Name,i64 x.For,.sl false (L Ab x.Clauses)]
structure Aqu where
  l:List Aqn
  end_:Int
  deriving DecidableEq,Inhabited
def Q6(x:Aqu):List AV:=[.sl false (L An x.l),i64 x.end_]
structure Aqv where
  Za:Int
  No:Int
  deriving DecidableEq,Inhabited
def XH(x:Aqv):List AV:=[i64 x.Za,i64 x.No]
structure Aqw where
  Kind:Int
  Zb:Int
  Zc:Bool
  deriving DecidableEq,Inhabited
def D9(x:Aqw):List AV:=[i64 x.Kind,i64 x.Zb,.bool x.Zc]
structure Aqx where
  Kind:Int
  Ref:Aqv
  Zd:Int
  Ze:Int
  Zf:Int
  Zg:Int
  Zh:Int
  To:Int
  Code:Int
  Zi:Int
  Zj:Int
  Zk:Int
  Zl:Int
  Text:List UInt8
  Zm:List Aqw
  deriving DecidableEq,Inhabited
def Ua(x:Aqx):List AV:=[i64 x.Kind,i64 x.Ref.Za,i64 x.Ref.No,i64 x.Zd,i64 x.Ze,i64 x.Zf,i64 x.Zg,i64 x.Zh,i64 x.To,i64 x.Code,i64 x.Zi,i64 x.Zj,i64 x.Zk,i64 x.Zl,.str x.Text,.sl false (L D9 x.Zm)]
structure Aqy where
  Ref:Aqv
  By:Aqv
  Zn:Int
  Zo:Aqx
  deriving DecidableEq,Inhabited
def Ak(x:Aqy):List AV:=[i64 x.Ref.Za,i64 x.Ref.No,i64 x.By.Za,i64 x.By.No,i64 x.Zn,i64 x.Zo.Kind,i64 x.Zo.Ref.Za,i64 x.Zo.Ref.No,i64 x.Zo.Zd,i64 x.Zo.Ze,i64 x.Zo.Zf,i64 x.Zo.Zg,i64 x.Zo.Zh,i64 x.Zo.To,i64 x.Zo.Code,i64 x.Zo.Zi,i64 x.Zo.Zj,i64 x.Zo.Zk,i64 x.Zo.Zl,.str x.Zo.Text,.sl false (L D9 x.Zo.Zm)]
structure Aqz where
  Op:Int
  N:Int
  M:Int
  deriving DecidableEq,Inhabited
def Ai(x:Aqz):List AV:=[i64 x.Op,i64 x.N,i64 x.M]
structure AqA where
  l:List (List UInt8)
  deriving DecidableEq,Inhabited
def PZ(x:AqA):List AV:=[.sl false (L Bl x.l)]
structure AqB where
  code:List Aqz
  deriving DecidableEq,Inhabited
def PL(x:AqB):List AV:=[.sl false (L Ai x.code)]
def QB(x:Int):AV:=i64 x
abbrev Si:=Int->Option Int
def L6(x:Bool):AV:=.bool x
abbrev Nl:=List UInt8->Option Bool
structure AqC where
  k:Nat
  n:Int
  deriving DecidableEq,Inhabited
def Ew(x:AqC):AV:=if x.k=119 then .agg [.fn 119 []]else if x.k=120 then .agg [.fn 120 []]else if x.k=165 then .agg [.fn 165 [.rp [i64 x.n]]]else .junk
abbrev JD:=Int->Option AqC
noncomputable def T7(x:Aqs):AV:=.agg (Ab x)
def RO:Aqs:=({ Name:=([]:List UInt8),When:=[],Pay:=(Aqr.mk 0 0 ((Arr.rep 4 0)) ([])) }:Aqs)
abbrev SM:=List UInt8->Option Aqs
noncomputable def zE:List AV:=i64 0::i64 0::(C1 i64 ((Arr.rep 4 0)).l++[.sl true (L cApi_Expr ([]))])
noncomputable def xE(x:Aqr):List AV:=i64 x.Op::i64 x.N::(C1 i64 x.Unit.l++[.sl false (L cApi_Expr x.L)])
noncomputable def pS(p:Aqu):ABlk:=.box [.sl false (L An p.l),i64 p.end_] false
noncomputable def pE(p:Int×Int×Aqu):Value:=.iface 104 (.agg #[.int .i64 p.1,.int .i64 p.2.1])
attribute [go_sem] zE xE pS pE
noncomputable def mpF:TypeId->Option AV:=fun t=>if t=92 then some (.agg (.str (([]:List UInt8))::.sl false (L Ag ([]))::i64 0::i64 0::(C1 i64 ((Arr.rep 4 0)).l++[.sl false (L cApi_Expr ([]))])))else if t=120 then some (.bool false)else if t=146 then some (.junk)else if t=230 then some (i64 0)else none
theorem AoB:Ku Tryz.prog 47=some ⟨.struct #[⟨"Name", 9,0,false,"","", 0⟩,⟨"When", 40,1,false,"","", 16⟩,⟨"Pay", 45,2,false,"","", 40⟩],9,112,(.str (([]:List UInt8))::.sl true (L Ag ([]))::i64 0::i64 0::(C1 i64 ((Arr.rep 4 0)).l++[.sl true (L cApi_Expr ([]))]))⟩:=by kernel_rfl
theorem AlC:∀t z,mpF t=some z->Ajv Tryz.prog t z:=by
 intro t z h;unfold mpF at h;split at h
 ·rename_i e;subst e;cases h;exact Afc (by kernel_rfl:Tryz.prog.underlying 92=some (.map 9 47)) AoB (by decide)
 split at h
 ·rename_i e;subst e;cases h;exact SQ (v:=.bool false) (by kernel_rfl:Tryz.prog.underlying 120=some (.map 9 4)) (by kernel_rfl)
 split at h
 ·rename_i e;subst e;cases h;exact SQ (v:=.agg #[.nilFunc]) (by kernel_rfl:Tryz.prog.underlying 146=some (.map 3 201)) (by kernel_rfl)
 split at h
 ·rename_i e;subst e;cases h;exact SQ (v:=.int .i64 0) (by kernel_rfl:Tryz.prog.underlying 230=some (.map 3 3)) (by kernel_rfl)
 cases h
attribute [go_sem_proc] reduceIte Nat.reduceLT Nat.reduceEqDiff Nat.reduceAdd Nat.reduceBEq Nat.reduceMul Nat.reduceSub Nat.reduceGT Nat.reducePow Nat.reduceLeDiff Int.reduceToNat Int.reduceLT Int.reduceAdd Int.reduceSub Nat.reduceGT Nat.reduceLeDiff Int.reduceBEq Int.reduceGT Int.reduceLE Int.reduceGE
attribute [go_sem] ApJ decide_true decide_false Bool.false_eq_true beq_self_eq_true
noncomputable def B(rs:Aqm):Base:=VK Tryz.prog (fun i=>if i=1 then some [.val (.map (some (rs 1)))]else if i=3 then some [.val (.map (some (rs 3)))]else if i=0 then some (C1 u8 glob0.l)else match rs.ev with|some (b,m,has,v)=>if i=b+4 then some (i64 has::(C1 i64 v.l++[.val (.map (some m))]))else none|none=>none) (fun f xs=>[25,27,31,32,36,38,39,41,43,47,48,49,50,51,52,53,54,55,63,64,68,69,70,71,72,73,74,75,76,77,79,80,85,86,87,88,89,90,91,92,96,104,105,106,110,112,115,116,117,135,136,137,138,139,140,141,148,149,165,168,169,171].contains f||(f==1000000&&xs.isEmpty)) (fun t=>if t=120 then some ⟨rs 1,9,4,.string,.bool false,QK (fun k=>.str k) (fun x=>.bool x) tab1⟩else if t=214 then some ⟨rs 3,5,9,.int .u8,.str ([]:List UInt8),QK (fun k=>u8 k) (fun x=>.str x) tab3⟩else if t=138 then(match rs.ev with|some (b,m,_,_)=>some ⟨m,3,141,.int .i64,.val .nilFunc,YJ (b+4)⟩|none=>none)else none) (fun i=>if i=7 then some ((Lib.pow10Tab).map fun z=>Value.int .u64 z).toArray else none) (mp:=mpF) (hmp:=AlC)
theorem tbk{t F x}(h:Ku Tryz.prog t=x):((B rs).env F).tab t=x:=(GS Tryz.prog t).trans h
theorem ok:(B rs).Ok:=NK _ _ _ _ _ (mp:=mpF) (hmp:=AlC)
theorem own3(F:Out)(xs:List Operand):((B rs).env F).own 3 xs=false:=rfl
theorem own4(F:Out)(xs:List Operand):((B rs).env F).own 4 xs=false:=rfl
theorem own5(F:Out)(xs:List Operand):((B rs).env F).own 5 xs=false:=rfl
theorem own6(F:Out)(xs:List Operand):((B rs).env F).own 6 xs=false:=rfl
theorem own7(F:Out)(xs:List Operand):((B rs).env F).own 7 xs=false:=rfl
theorem own8(F:Out)(xs:List Operand):((B rs).env F).own 8 xs=false:=rfl
theorem own9(F:Out)(xs:List Operand):((B rs).env F).own 9 xs=false:=rfl
theorem Aod(F:Out)(xs:List Operand):((B rs).env F).own 10 xs=false:=rfl
theorem AoH(F:Out)(xs:List Operand):((B rs).env F).own 11 xs=false:=rfl
theorem Aos(F:Out)(xs:List Operand):((B rs).env F).own 12 xs=false:=rfl
theorem App(F:Out)(xs:List Operand):((B rs).env F).own 13 xs=false:=rfl
theorem An9(F:Out)(xs:List Operand):((B rs).env F).own 14 xs=false:=rfl
theorem Aof(F:Out)(xs:List Operand):((B rs).env F).own 15 xs=false:=rfl
theorem AnZ(F:Out)(xs:List Operand):((B rs).env F).own 16 xs=false:=rfl
theorem AnG(F:Out)(xs:List Operand):((B rs).env F).own 17 xs=false:=rfl
theorem ApZ(F:Out)(xs:List Operand):((B rs).env F).own 18 xs=false:=rfl
theorem Aqc(F:Out)(xs:List Operand):((B rs).env F).own 19 xs=false:=rfl
theorem Ao7(F:Out)(xs:List Operand):((B rs).env F).own 20 xs=false:=rfl
theorem Ap3(F:Out)(xs:List Operand):((B rs).env F).own 21 xs=false:=rfl
theorem ApV(F:Out)(xs:List Operand):((B rs).env F).own 22 xs=false:=rfl
theorem ApI(F:Out)(xs:List Operand):((B rs).env F).own 23 xs=false:=rfl
theorem Aoz(F:Out)(xs:List Operand):((B rs).env F).own 24 xs=false:=rfl
theorem Apn(F:Out)(xs:List Operand):((B rs).env F).own 25 xs=true:=rfl
theorem An2(F:Out)(xs:List Operand):((B rs).env F).own 26 xs=false:=rfl
theorem An5(F:Out)(xs:List Operand):((B rs).env F).own 27 xs=true:=rfl
theorem AnO(F:Out)(xs:List Operand):((B rs).env F).own 28 xs=false:=rfl
theorem Aoa(F:Out)(xs:List Operand):((B rs).env F).own 31 xs=true:=rfl
theorem AnK(F:Out)(xs:List Operand):((B rs).env F).own 32 xs=true:=rfl
theorem AoQ(F:Out)(xs:List Operand):((B rs).env F).own 33 xs=false:=rfl
theorem Apf(F:Out)(xs:List Operand):((B rs).env F).own 34 xs=false:=rfl
theorem Apo(F:Out)(xs:List Operand):((B rs).env F).own 35 xs=false:=rfl
theorem Aor(F:Out)(xs:List Operand):((B rs).env F).own 36 xs=true:=rfl
theorem Aop(F:Out)(xs:List Operand):((B rs).env F).own 37 xs=false:=rfl
theorem Ap5(F:Out)(xs:List Operand):((B rs).env F).own 38 xs=true:=rfl
theorem AnC(F:Out)(xs:List Operand):((B rs).env F).own 39 xs=true:=rfl
theorem AoZ(F:Out)(xs:List Operand):((B rs).env F).own 40 xs=false:=rfl
theorem Aob(F:Out)(xs:List Operand):((B rs).env F).own 41 xs=true:=rfl
theorem Apj(F:Out)(xs:List Operand):((B rs).env F).own 42 xs=false:=rfl
theorem An0(F:Out)(xs:List Operand):((B rs).env F).own 43 xs=true:=rfl
theorem AoA(F:Out)(xs:List Operand):((B rs).env F).own 44 xs=false:=rfl
theorem Aqd(F:Out)(xs:List Operand):((B rs).env F).own 45 xs=false:=rfl
theorem Ape(F:Out)(xs:List Operand):((B rs).env F).own 47 xs=true:=rfl
theorem Ap1(F:Out)(xs:List Operand):((B rs).env F).own 48 xs=true:=rfl
theorem ApM(F:Out)(xs:List Operand):((B rs).env F).own 49 xs=true:=rfl
theorem AnT(F:Out)(xs:List Operand):((B rs).env F).own 50 xs=true:=rfl
theorem Ap9(F:Out)(xs:List Operand):((B rs).env F).own 51 xs=true:=rfl
theorem Anw(F:Out)(xs:List Operand):((B rs).env F).own 52 xs=true:=rfl
theorem ApO(F:Out)(xs:List Operand):((B rs).env F).own 53 xs=true:=rfl
theorem Apq(F:Out)(xs:List Operand):((B rs).env F).own 54 xs=true:=rfl
theorem Aqh(F:Out)(xs:List Operand):((B rs).env F).own 55 xs=true:=rfl
theorem ApT(F:Out)(xs:List Operand):((B rs).env F).own 56 xs=false:=rfl
theorem Aqi(F:Out)(xs:List Operand):((B rs).env F).own 57 xs=false:=rfl
theorem AoY(F:Out)(xs:List Operand):((B rs).env F).own 58 xs=false:=rfl
theorem Apy(F:Out)(xs:List Operand):((B rs).env F).own 59 xs=false:=rfl
theorem AoO(F:Out)(xs:List Operand):((B rs).env F).own 60 xs=false:=rfl
theorem Apa(F:Out)(xs:List Operand):((B rs).env F).own 63 xs=true:=rfl
theorem Ao4(F:Out)(xs:List Operand):((B rs).env F).own 64 xs=true:=rfl
theorem AnI(F:Out)(xs:List Operand):((B rs).env F).own 68 xs=true:=rfl
theorem Aow(F:Out)(xs:List Operand):((B rs).env F).own 69 xs=true:=rfl
theorem Aqg(F:Out)(xs:List Operand):((B rs).env F).own 70 xs=true:=rfl
theorem ApG(F:Out)(xs:List Operand):((B rs).env F).own 71 xs=true:=rfl
theorem Apd(F:Out)(xs:List Operand):((B rs).env F).own 72 xs=true:=rfl
theorem Aog(F:Out)(xs:List Operand):((B rs).env F).own 73 xs=true:=rfl
theorem AnP(F:Out)(xs:List Operand):((B rs).env F).own 74 xs=true:=rfl
theorem Ao1(F:Out)(xs:List Operand):((B rs).env F).own 75 xs=true:=rfl
theorem ApH(F:Out)(xs:List Operand):((B rs).env F).own 76 xs=true:=rfl
theorem ApP(F:Out)(xs:List Operand):((B rs).env F).own 77 xs=true:=rfl
theorem AoU(F:Out)(xs:List Operand):((B rs).env F).own 78 xs=false:=rfl
theorem Apu(F:Out)(xs:List Operand):((B rs).env F).own 79 xs=true:=rfl
theorem Ao2(F:Out)(xs:List Operand):((B rs).env F).own 80 xs=true:=rfl
theorem Aoo(F:Out)(xs:List Operand):((B rs).env F).own 81 xs=false:=rfl
theorem Anv(F:Out)(xs:List Operand):((B rs).env F).own 82 xs=false:=rfl
theorem Ao6(F:Out)(xs:List Operand):((B rs).env F).own 83 xs=false:=rfl
theorem Aoi(F:Out)(xs:List Operand):((B rs).env F).own 84 xs=false:=rfl
theorem Aoh(F:Out)(xs:List Operand):((B rs).env F).own 85 xs=true:=rfl
theorem Ap0(F:Out)(xs:List Operand):((B rs).env F).own 86 xs=true:=rfl
theorem ApB(F:Out)(xs:List Operand):((B rs).env F).own 87 xs=true:=rfl
theorem An3(F:Out)(xs:List Operand):((B rs).env F).own 88 xs=true:=rfl
theorem AnX(F:Out)(xs:List Operand):((B rs).env F).own 89 xs=true:=rfl
theorem ApK(F:Out)(xs:List Operand):((B rs).env F).own 90 xs=true:=rfl
theorem Aoq(F:Out)(xs:List Operand):((B rs).env F).own 91 xs=true:=rfl
theorem AnH(F:Out)(xs:List Operand):((B rs).env F).own 92 xs=true:=rfl
theorem Aou(F:Out)(xs:List Operand):((B rs).env F).own 93 xs=false:=rfl
theorem Apm(F:Out)(xs:List Operand):((B rs).env F).own 94 xs=false:=rfl
theorem ApN(F:Out)(xs:List Operand):((B rs).env F).own 95 xs=false:=rfl
theorem Apc(F:Out)(xs:List Operand):((B rs).env F).own 96 xs=true:=rfl
theorem ApY(F:Out)(xs:List Operand):((B rs).env F).own 97 xs=false:=rfl
theorem Aql(F:Out)(xs:List Operand):((B rs).env F).own 98 xs=false:=rfl
theorem Anu(F:Out)(xs:List Operand):((B rs).env F).own 99 xs=false:=rfl
theorem AkN(F:Out)(xs:List Operand):((B rs).env F).own 100 xs=false:=rfl
theorem AmZ(F:Out)(xs:List Operand):((B rs).env F).own 101 xs=false:=rfl
theorem AjC(F:Out)(xs:List Operand):((B rs).env F).own 103 xs=false:=rfl
theorem AjU(F:Out)(xs:List Operand):((B rs).env F).own 104 xs=true:=rfl
theorem Alk(F:Out)(xs:List Operand):((B rs).env F).own 105 xs=true:=rfl
theorem Al5(F:Out)(xs:List Operand):((B rs).env F).own 106 xs=true:=rfl
theorem AkZ(F:Out)(xs:List Operand):((B rs).env F).own 107 xs=false:=rfl
theorem Ak2(F:Out)(xs:List Operand):((B rs).env F).own 110 xs=true:=rfl
theorem AlS(F:Out)(xs:List Operand):((B rs).env F).own 111 xs=false:=rfl
theorem Akh(F:Out)(xs:List Operand):((B rs).env F).own 112 xs=true:=rfl
theorem AlO(F:Out)(xs:List Operand):((B rs).env F).own 113 xs=false:=rfl
theorem Ald(F:Out)(xs:List Operand):((B rs).env F).own 114 xs=false:=rfl
theorem AkX(F:Out)(xs:List Operand):((B rs).env F).own 115 xs=true:=rfl
theorem AlZ(F:Out)(xs:List Operand):((B rs).env F).own 116 xs=true:=rfl
theorem Aj0(F:Out)(xs:List Operand):((B rs).env F).own 117 xs=true:=rfl
theorem Am4(F:Out)(xs:List Operand):((B rs).env F).own 119 xs=false:=rfl
theorem AkU(F:Out)(xs:List Operand):((B rs).env F).own 120 xs=false:=rfl
theorem Alx(F:Out)(xs:List Operand):((B rs).env F).own 121 xs=false:=rfl
theorem AjL(F:Out)(xs:List Operand):((B rs).env F).own 122 xs=false:=rfl
theorem Ak9(F:Out)(xs:List Operand):((B rs).env F).own 123 xs=false:=rfl
theorem AmL(F:Out)(xs:List Operand):((B rs).env F).own 124 xs=false:=rfl
theorem Amo(F:Out)(xs:List Operand):((B rs).env F).own 125 xs=false:=rfl
theorem Ak3(F:Out)(xs:List Operand):((B rs).env F).own 126 xs=false:=rfl
theorem Akm(F:Out)(xs:List Operand):((B rs).env F).own 127 xs=false:=rfl
theorem Amd(F:Out)(xs:List Operand):((B rs).env F).own 128 xs=false:=rfl
theorem Alz(F:Out)(xs:List Operand):((B rs).env F).own 129 xs=false:=rfl
theorem Aks(F:Out)(xs:List Operand):((B rs).env F).own 130 xs=false:=rfl
theorem AmC(F:Out)(xs:List Operand):((B rs).env F).own 131 xs=false:=rfl
theorem Amb(F:Out)(xs:List Operand):((B rs).env F).own 132 xs=false:=rfl
theorem Al1(F:Out)(xs:List Operand):((B rs).env F).own 133 xs=false:=rfl
theorem AjI(F:Out)(xs:List Operand):((B rs).env F).own 134 xs=false:=rfl
theorem Anf(F:Out)(xs:List Operand):((B rs).env F).own 135 xs=true:=rfl
theorem Aku(F:Out)(xs:List Operand):((B rs).env F).own 136 xs=true:=rfl
theorem AlX(F:Out)(xs:List Operand):((B rs).env F).own 137 xs=true:=rfl
theorem AmT(F:Out)(xs:List Operand):((B rs).env F).own 138 xs=true:=rfl
theorem Al8(F:Out)(xs:List Operand):((B rs).env F).own 139 xs=true:=rfl
theorem Amu(F:Out)(xs:List Operand):((B rs).env F).own 140 xs=true:=rfl
theorem AlA(F:Out)(xs:List Operand):((B rs).env F).own 141 xs=true:=rfl
theorem Al9(F:Out)(xs:List Operand):((B rs).env F).own 142 xs=false:=rfl
theorem Akg(F:Out)(xs:List Operand):((B rs).env F).own 143 xs=false:=rfl
theorem Akq(F:Out)(xs:List Operand):((B rs).env F).own 144 xs=false:=rfl
theorem Amp(F:Out)(xs:List Operand):((B rs).env F).own 145 xs=false:=rfl
theorem Am8(F:Out)(xs:List Operand):((B rs).env F).own 146 xs=false:=rfl
theorem Ali(F:Out)(xs:List Operand):((B rs).env F).own 147 xs=false:=rfl
theorem AkH(F:Out)(xs:List Operand):((B rs).env F).own 148 xs=true:=rfl
theorem AmX(F:Out)(xs:List Operand):((B rs).env F).own 149 xs=true:=rfl
theorem Aka(F:Out)(xs:List Operand):((B rs).env F).own 152 xs=false:=rfl
theorem AlI(F:Out)(xs:List Operand):((B rs).env F).own 156 xs=false:=rfl
theorem Ane(F:Out)(xs:List Operand):((B rs).env F).own 159 xs=false:=rfl
theorem Aj6(F:Out)(xs:List Operand):((B rs).env F).own 160 xs=false:=rfl
theorem AkR(F:Out)(xs:List Operand):((B rs).env F).own 161 xs=false:=rfl
theorem Als(F:Out)(xs:List Operand):((B rs).env F).own 162 xs=false:=rfl
theorem Ake(F:Out)(xs:List Operand):((B rs).env F).own 163 xs=false:=rfl
theorem AlR(F:Out)(xs:List Operand):((B rs).env F).own 165 xs=true:=rfl
theorem AlE(F:Out)(xs:List Operand):((B rs).env F).own 166 xs=false:=rfl
theorem Aky(F:Out)(xs:List Operand):((B rs).env F).own 167 xs=false:=rfl
theorem AkJ(F:Out)(xs:List Operand):((B rs).env F).own 168 xs=true:=rfl
theorem AjR(F:Out)(xs:List Operand):((B rs).env F).own 169 xs=true:=rfl
theorem Alt(F:Out)(xs:List Operand):((B rs).env F).own 171 xs=true:=rfl
theorem Ahg(F:Out):((B rs).env F).own 1000000 []=true:=rfl
theorem Ah5(F:Out)(x:Operand)(xs:List Operand):((B rs).env F).own 1000000 (x::xs)=false:=rfl
attribute [go_sem] Ahg Ah5
theorem mixed:Tryz.prog.follows .mixedOrders=true:=by kernel_rfl
theorem Xw{F:Out}{b_ m_:Nat}{has:Int}{v:Arr Int 16}(hev:rs.ev=some (b_,m_,has,v)):((B rs).env F).G (b_+4)=some (i64 has::(C1 i64 v.l++[.val (.map (some m_))])):=by
 have h0:((B rs).env F).G (b_+4)=(if(b_+4)=1 then some [.val (.map (some (rs 1)))]else if(b_+4)=3 then some [.val (.map (some (rs 3)))]else if(b_+4)=0 then some (C1 u8 glob0.l)else match rs.ev with|some (b,m,has,v)=>if(b_+4)=b+4 then some (i64 has::(C1 i64 v.l++[.val (.map (some m))]))else none|none=>none):=rfl;rw[h0,AqI (by omega),AqI (by omega),AqI (by omega),hev];exact AqJ rfl
theorem tt3:Ku Tryz.prog 3=some ⟨.int .i64,1,8,[i64 0]⟩:=by kernel_rfl
theorem tb3(F:Out):((B rs).env F).tab 3=some ⟨.int .i64,1,8,[i64 0]⟩:=(GS Tryz.prog 3).trans tt3
theorem tb4(F):((B rs).env F).tab 4=some ⟨.bool,1,1,[.bool false]⟩:=tbk (by kernel_rfl)
theorem tb5(F):((B rs).env F).tab 5=some ⟨.int .u8,1,1,[u8 ((0:UInt8))]⟩:=tbk (by kernel_rfl)
theorem tb9(F):((B rs).env F).tab 9=some ⟨.string,1,16,[.str (([]:List UInt8))]⟩:=tbk (by kernel_rfl)
theorem Akj(F):((B rs).env F).tab 22=some ⟨.slice 29,1,24,[.sl true (L Ak ([]))]⟩:=tbk (by kernel_rfl)
theorem tb24(F):((B rs).env F).tab 24=some ⟨.struct #[⟨"Railway", 3,0,false,"","", 0⟩,⟨"No", 3,1,false,"","", 8⟩],2,16,[i64 0,i64 0]⟩:=tbk (by kernel_rfl)
theorem tb25(F):((B rs).env F).tab 25=some ⟨.slice 294,1,24,[.sl true (L D9 ([]))]⟩:=tbk (by kernel_rfl)
theorem tb27(F):((B rs).env F).tab 27=some ⟨.struct #[⟨"Kind", 3,0,false,"","", 0⟩,⟨"Ref", 24,1,false,"","", 8⟩,⟨"Wagon", 3,3,false,"","", 24⟩,⟨"Place", 3,4,false,"","", 32⟩,⟨"Other", 3,5,false,"","", 40⟩,⟨"Number", 3,6,false,"","", 48⟩,⟨"From", 3,7,false,"","", 56⟩,⟨"To", 3,8,false,"","", 64⟩,⟨"Code", 3,9,false,"","", 72⟩,⟨"Dest", 3,10,false,"","", 80⟩,⟨"Class", 3,11,false,"","", 88⟩,⟨"Weight", 3,12,false,"","", 96⟩,⟨"Amount", 3,13,false,"","", 104⟩,⟨"Text", 9,14,false,"","", 112⟩,⟨"Parts", 25,15,false,"","", 128⟩],16,152,[i64 0,i64 0,i64 0,i64 0,i64 0,i64 0,i64 0,i64 0,i64 0,i64 0,i64 0,i64 0,i64 0,i64 0,.str (([]:List UInt8)),.sl true (L D9 ([]))]⟩:=tbk (by kernel_rfl)
theorem Anp(F):((B rs).env F).tab 29=some ⟨.struct #[⟨"Ref", 24,0,false,"","", 0⟩,⟨"By", 24,2,false,"","", 16⟩,⟨"Time", 3,4,false,"","", 32⟩,⟨"Item", 27,5,false,"","", 40⟩],21,192,[i64 0,i64 0,i64 0,i64 0,i64 0,i64 0,i64 0,i64 0,i64 0,i64 0,i64 0,i64 0,i64 0,i64 0,i64 0,i64 0,i64 0,i64 0,i64 0,.str (([]:List UInt8)),.sl true (L D9 ([]))]⟩:=tbk (by kernel_rfl)
theorem Amf(F):((B rs).env F).tab 32=some ⟨.slice 47,1,24,[.sl true (L Ab ([]))]⟩:=tbk (by kernel_rfl)
theorem tb34(F):((B rs).env F).tab 34=some ⟨.struct #[⟨"Name", 9,0,false,"","", 0⟩,⟨"For", 3,1,false,"","", 16⟩,⟨"Clauses", 32,2,false,"","", 24⟩],3,48,[.str (([]:List UInt8)),i64 0,.sl true (L Ab ([]))]⟩:=tbk (by kernel_rfl)
theorem tb35(F):((B rs).env F).tab 35=some ⟨.int .i64,1,8,[i64 0]⟩:=tbk (by kernel_rfl)
theorem Anr(F):((B rs).env F).tab 40=some ⟨.slice 69,1,24,[.sl true (L Ag ([]))]⟩:=tbk (by kernel_rfl)
theorem Ago(F):((B rs).env F).tab 42=some ⟨.array 4 3,4,32,(C1 i64 ((Arr.rep 4 0)).l)⟩:=tbk (by kernel_rfl)
theorem Ans(F):((B rs).env F).tab 43=some ⟨.slice 45,1,24,[.sl true (L cApi_Expr ([]))]⟩:=tbk (by kernel_rfl)
theorem Ap7(F):((B rs).env F).tab 45=some ⟨.struct #[⟨"Op", 3,0,false,"","", 0⟩,⟨"N", 3,1,false,"","", 8⟩,⟨"Unit", 42,2,false,"","", 16⟩,⟨"L", 43,6,false,"","", 48⟩],7,72,(i64 0::i64 0::(C1 i64 ((Arr.rep 4 0)).l++[.sl true (L cApi_Expr ([]))]))⟩:=tbk (by kernel_rfl)
theorem Anq(F):((B rs).env F).tab 47=some ⟨.struct #[⟨"Name", 9,0,false,"","", 0⟩,⟨"When", 40,1,false,"","", 16⟩,⟨"Pay", 45,2,false,"","", 40⟩],9,112,(.str (([]:List UInt8))::.sl true (L Ag ([]))::i64 0::i64 0::(C1 i64 ((Arr.rep 4 0)).l++[.sl true (L cApi_Expr ([]))]))⟩:=tbk (by kernel_rfl)
theorem Aqj(F):((B rs).env F).tab 50=some ⟨.array 16 3,16,128,(C1 i64 ((Arr.rep 16 0)).l)⟩:=tbk (by kernel_rfl)
theorem tt52:Ku Tryz.prog 52=some ⟨.struct #[⟨"Has", 3,0,false,"","", 0⟩,⟨"V", 50,1,false,"","", 8⟩],17,136,(i64 0::C1 i64 ((Arr.rep 16 0)).l)⟩:=by kernel_rfl
theorem tb52(F:Out):((B rs).env F).tab 52=some ⟨.struct #[⟨"Has", 3,0,false,"","", 0⟩,⟨"V", 50,1,false,"","", 8⟩],17,136,(i64 0::C1 i64 ((Arr.rep 16 0)).l)⟩:=(GS Tryz.prog 52).trans tt52
theorem AjA(F):((B rs).env F).tab 54=some ⟨.slice 172,1,24,[.sl true (L Ai ([]))]⟩:=tbk (by kernel_rfl)
theorem Anj(F):((B rs).env F).tab 69=some ⟨.struct #[⟨"Attr", 3,0,false,"","", 0⟩,⟨"Low", 3,1,false,"","", 8⟩,⟨"High", 3,2,false,"","", 16⟩],3,24,[i64 0,i64 0,i64 0]⟩:=tbk (by kernel_rfl)
theorem tb75(F):((B rs).env F).tab 75=some ⟨.pointer 78,1,8,[.val (.pointer none)]⟩:=tbk (by kernel_rfl)
theorem Ajo(F):((B rs).env F).tab 76=some ⟨.slice 9,1,24,[.sl true (L Bl ([]))]⟩:=tbk (by kernel_rfl)
theorem tb78(F):((B rs).env F).tab 78=some ⟨.struct #[⟨"l", 76,0,false,"","wagonpool/tparse", 0⟩],1,24,[.sl true (L Bl ([]))]⟩:=tbk (by kernel_rfl)
theorem tb92(F):((B rs).env F).tab 92=some ⟨.map 9 47,1,8,[.val (.map none)]⟩:=tbk (by kernel_rfl)
theorem tb96(F):((B rs).env F).tab 96=some ⟨.func #[] #[35] false,1,8,[.val .nilFunc]⟩:=tbk (by kernel_rfl)
theorem Afn(F):((B rs).env F).tab 100=some ⟨.slice 159,1,24,[.sl true (L An ([]))]⟩:=tbk (by kernel_rfl)
theorem AgW(F):((B rs).env F).tab 104=some ⟨.struct #[⟨"at", 3,0,false,"","wagonpool/tparse", 0⟩,⟨"e", 35,1,false,"","wagonpool/tparse", 8⟩],2,16,[i64 0,i64 0]⟩:=tbk (by kernel_rfl)
theorem Aov(F):((B rs).env F).tab 106=some ⟨.pointer 108,1,8,[.val (.pointer none)]⟩:=tbk (by kernel_rfl)
theorem Ap2(F):((B rs).env F).tab 108=some ⟨.struct #[⟨"l", 100,0,false,"","wagonpool/tparse", 0⟩,⟨"end", 3,1,false,"","wagonpool/tparse", 24⟩],2,32,[.sl true (L An ([])),i64 0]⟩:=tbk (by kernel_rfl)
theorem AnN(F):((B rs).env F).tab 116=some ⟨.struct #[⟨"code", 54,0,false,"","wagonpool/tcode", 0⟩],1,24,[.sl true (L Ai ([]))]⟩:=tbk (by kernel_rfl)
theorem AjP(F):((B rs).env F).tab 120=some ⟨.map 9 4,1,8,[.val (.map none)]⟩:=tbk (by kernel_rfl)
theorem AmO(F):((B rs).env F).tab 123=some ⟨.array 256 5,256,256,(C1 u8 ((Arr.rep 256 (0:UInt8))).l)⟩:=tbk (by kernel_rfl)
theorem AmH(F):((B rs).env F).tab 137=some ⟨.struct #[⟨"e", 35,0,false,"","wagonpool/teval", 0⟩],1,8,[i64 0]⟩:=tbk (by kernel_rfl)
theorem AnQ:Ku Tryz.prog 138=some ⟨.map 3 141,1,8,[.val (.map none)]⟩:=by kernel_rfl
theorem AmD:Ku Tryz.prog 140=some ⟨.struct #[⟨"v", 52,0,false,"","wagonpool/teval", 0⟩,⟨"op", 138,17,false,"","wagonpool/teval", 136⟩],18,144,(i64 0::(C1 i64 ((Arr.rep 16 0)).l++[.val (.map none)]))⟩:=by kernel_rfl
theorem AoP(F:Out):((B rs).env F).tab 140=some ⟨.struct #[⟨"v", 52,0,false,"","wagonpool/teval", 0⟩,⟨"op", 138,17,false,"","wagonpool/teval", 136⟩],18,144,(i64 0::(C1 i64 ((Arr.rep 16 0)).l++[.val (.map none)]))⟩:=(GS Tryz.prog 140).trans AmD
theorem ZZ(F):((B rs).env F).tab 143=some ⟨.slice 3,1,24,[.sl true (L IM ([]))]⟩:=tbk (by kernel_rfl)
theorem AlP(F):((B rs).env F).tab 145=some ⟨.slice 96,1,24,[.sl true []]⟩:=tbk (by kernel_rfl)
theorem Amx(F):((B rs).env F).tab 146=some ⟨.map 3 201,1,8,[.val (.map none)]⟩:=tbk (by kernel_rfl)
theorem Alb(F):((B rs).env F).tab 150=some ⟨.array 16 3,16,128,(C1 i64 ((Arr.rep 16 0)).l)⟩:=tbk (by kernel_rfl)
theorem AiP(F):((B rs).env F).tab 152=some ⟨.struct #[⟨"low", 150,0,false,"","wagonpool/tbox", 0⟩,⟨"high", 150,16,false,"","wagonpool/tbox", 128⟩],32,256,((C1 i64 ((Arr.rep 16 0)).l++C1 i64 ((Arr.rep 16 0)).l))⟩:=tbk (by kernel_rfl)
theorem Ai6(F):((B rs).env F).tab 159=some ⟨.struct #[⟨"Kind", 3,0,false,"","", 0⟩,⟨"Text", 9,1,false,"","", 8⟩,⟨"N", 3,2,false,"","", 24⟩,⟨"At", 3,3,false,"","", 32⟩],4,40,[i64 0,.str (([]:List UInt8)),i64 0,i64 0]⟩:=tbk (by kernel_rfl)
theorem ApE(F):((B rs).env F).tab 170=some ⟨.pointer 116,1,8,[.val (.pointer none)]⟩:=tbk (by kernel_rfl)
theorem AbQ(F):((B rs).env F).tab 172=some ⟨.struct #[⟨"Op", 3,0,false,"","", 0⟩,⟨"N", 3,1,false,"","", 8⟩,⟨"M", 3,2,false,"","", 16⟩],3,24,[i64 0,i64 0,i64 0]⟩:=tbk (by kernel_rfl)
theorem Afx(F):((B rs).env F).tab 198=some ⟨.slice 42,1,24,[.sl true (L (QS i64 4) ([]))]⟩:=tbk (by kernel_rfl)
theorem ApL(F):((B rs).env F).tab 199=some ⟨.func #[198] #[42,4] false,1,8,[.val .nilFunc]⟩:=tbk (by kernel_rfl)
theorem AnF(F):((B rs).env F).tab 201=some ⟨.struct #[⟨"unit", 199,0,false,"","wagonpool/ttype", 0⟩],1,8,[.val .nilFunc]⟩:=tbk (by kernel_rfl)
theorem Amq(F):((B rs).env F).tab 203=some ⟨.array 16 42,64,512,((C1 i64 ((Arr.rep 4 0)).l++(C1 i64 ((Arr.rep 4 0)).l++(C1 i64 ((Arr.rep 4 0)).l++(C1 i64 ((Arr.rep 4 0)).l++(C1 i64 ((Arr.rep 4 0)).l++(C1 i64 ((Arr.rep 4 0)).l++(C1 i64 ((Arr.rep 4 0)).l++(C1 i64 ((Arr.rep 4 0)).l++(C1 i64 ((Arr.rep 4 0)).l++(C1 i64 ((Arr.rep 4 0)).l++(C1 i64 ((Arr.rep 4 0)).l++(C1 i64 ((Arr.rep 4 0)).l++(C1 i64 ((Arr.rep 4 0)).l++(C1 i64 ((Arr.rep 4 0)).l++(C1 i64 ((Arr.rep 4 0)).l++C1 i64 ((Arr.rep 4 0)).l))))))))))))))))⟩:=tbk (by kernel_rfl)
theorem AhI(F):((B rs).env F).tab 208=some ⟨.slice 152,1,24,[.sl true (L EA ([]))]⟩:=tbk (by kernel_rfl)
theorem AiO(F):((B rs).env F).tab 209=some ⟨.slice 4,1,24,[.sl true (L MM ([]))]⟩:=tbk (by kernel_rfl)
theorem Apk(F):((B rs).env F).tab 214=some ⟨.map 5 9,1,8,[.val (.map none)]⟩:=tbk (by kernel_rfl)
theorem Aqk(F):((B rs).env F).tab 220=some ⟨.int .u64,1,8,[u64 ((0:UInt64))]⟩:=tbk (by kernel_rfl)
theorem ApF:Ku Tryz.prog 225=some ⟨.array 256 4,256,256,(C1 AV.bool ((Arr.rep 256 false)).l)⟩:=Aao (by kernel_rfl) (by kernel_rfl)
theorem AlV(F:Out):((B rs).env F).tab 225=some ⟨.array 256 4,256,256,(C1 AV.bool ((Arr.rep 256 false)).l)⟩:=(GS Tryz.prog 225).trans ApF
theorem AkY(F):((B rs).env F).tab 230=some ⟨.map 3 3,1,8,[.val (.map none)]⟩:=tbk (by kernel_rfl)
theorem AkM:AV.int .u64 0=u64 0:=rfl
theorem AiT:AV.int .u64 32=u64 32:=rfl
theorem PP:AV.int .u64 4294967295=u64 4294967295:=rfl
theorem KH:AV.int .u64 9007199254740992=u64 9007199254740992:=rfl
theorem Ji:AV.int .u64 9223372036854775807=u64 9223372036854775807:=rfl
theorem ApS:AV.int .u8 0=u8 0:=rfl
theorem An4:AV.int .u8 9=u8 9:=rfl
theorem AjB:AV.int .u8 10=u8 10:=rfl
theorem Al2:AV.int .u8 13=u8 13:=rfl
theorem Amz:AV.int .u8 32=u8 32:=rfl
theorem Alp:AV.int .u8 35=u8 35:=rfl
theorem Ame:AV.int .u8 48=u8 48:=rfl
theorem Alf:AV.int .u8 57=u8 57:=rfl
theorem Aki:AV.int .u8 97=u8 97:=rfl
theorem AiH:AV.int .u8 122=u8 122:=rfl
theorem AiB:AV.int .u8 128=u8 128:=rfl
theorem Al0{F}(l:List UInt8)(x:AV):Ka ((B rs).env F) 9 (.str l) x=match idx x l.length with
 |some i=>some (u8 (nth l i))
 |none=>none:=YD (tb9 F) l x
theorem AoW{F}:(((B rs).env F).bty=some 159)=False:=Ass (fun h:(none:Option TypeId)=some 159=>by cases h)
theorem glb3{F}:((B rs).env F).G 3=some [.val (.map (some (rs 3)))]:=rfl
theorem lkm3{F}(k:UInt8):K2 ((B rs).env F) 214 (.val (.map (some (rs 3)))) (u8 k) false=some (.str (IW ([]:List UInt8) tab3 k)):=XG (cK:=fun k=>u8 k) (cV:=fun x=>.str x) (z:=([]:List UInt8)) (l:=tab3) rfl (fun k=>rfl) AlN k
theorem YF{F}{O:Ac}(s x:AV):Bg ((B rs).env F) O .append [100,100] [s,x]=match Hb O x with
   | some new=>if Hk x 4=true then none else if ∀cs∈new,cs.length=4 then(match s with
     | .sl full els=>
      if els=[]/\full=true then
       if GX new.length 40 then some (.bs false O.length new.length 0 new.length,O++[.buf 4 new false])else none
      else if new=[]then some (.sl full els,O)
      else if full=true/\(∀cs∈els,cs.length=4)/\GX (els.length+new.length) 40
      then some (.bs false O.length (els.length+new.length) 0 (els.length+new.length),O++[.buf 4 (els++new) false])else none
     | .bs full id tot off len=>match O[id]? with
      | some (.buf k els ro)=>
       if els.length=tot/\k=4/\GX (len+new.length) 40 then
        if off=0/\len=tot then some (.bs false id (tot+new.length) 0 (tot+new.length),O.set id (.buf k (els++new) ro))
        else if new=[]then some (.bs full id tot off len,O)
        else if full then some (.bs false O.length (len+new.length) 0 (len+new.length),O++[.buf k ((els.drop off).take len++new) false])
        else none
       else none
      |some (.tb T l)=>O0 O id tot off len 40 4 159 T l new
      |_=>none
     |_=>none)
    else none
   |none=>none:=Gk (Afn F) (Ai6 F) (by decide) (Afn F) (.inl ⟨_,rfl⟩) s x []
theorem glb1{F}:((B rs).env F).G 1=some [.val (.map (some (rs 1)))]:=rfl
theorem lkm1{F}(k:List UInt8):K2 ((B rs).env F) 120 (.val (.map (some (rs 1)))) (.str k) false=some (.bool (IW false tab1 k)):=XG (cK:=fun k=>.str k) (cV:=fun x=>.bool x) (z:=false) (l:=tab1) rfl (fun k=>rfl) AhV k
theorem Aqa{F}:(((B rs).env F).bty=some 152)=False:=Ass (fun h:(none:Option TypeId)=some 152=>by cases h)
theorem AgU{F}{O:Ac}(id off:Nat)(x:AV):Ao ((B rs).env F) O 150 (.ref id off) x=match idx x 16 with
 |some i=>some (.ref id (off+i*1))
 |none=>none:=SB (Alb F) (tb3 F) id off x
theorem nb52{F}:(((B rs).env F).bty=some 52)=False:=Ass (fun h:(none:Option TypeId)=some 52=>by cases h)
theorem Akt{F}{O:Ac}(f:Bool)(l:List Aqp)(x:AV):Ao ((B rs).env F) O 40 (.sl f (L Ag l)) x=match idx x l.length with
 |some i=>some (.rp (Ag (nth l i)))
 |none=>none:=LA Ag (Anr F) (Anj F) (fun _=>rfl) f l x
theorem nb69{F}:(((B rs).env F).bty=some 69)=False:=Ass (fun h:(none:Option TypeId)=some 69=>by cases h)
theorem All{F}{O:Ac}(l c:Int):ED ((B rs).env F) O 208 (i64 l) (i64 c)=if Mk l c 256 then some (.bs (l==c) O.length l.toNat 0 l.toNat,O++[.buf 32 (List.replicate l.toNat ((C1 i64 ((Arr.rep 16 0)).l++C1 i64 ((Arr.rep 16 0)).l))) false])else none:=RQ (AhI F) (AiP F) (by decide) l c
theorem AjF{F}{O:Ac}(l c:Int):ED ((B rs).env F) O 209 (i64 l) (i64 c)=if Mk l c 1 then some (.bs (l==c) O.length l.toNat 0 l.toNat,O++[.buf 1 (List.replicate l.toNat [.bool false]) false])else none:=RQ (AiO F) (tb4 F) (by decide) l c
theorem AkB{F}{O:Ac}(f:Bool)(l:List Aqs)(x:AV):Ao ((B rs).env F) O 32 (.sl f (L Ab l)) x=match idx x l.length with
 |some i=>some (.rp (Ab (nth l i)))
 |none=>none:=LA Ab (Amf F) (Anq F) (fun y=>by simp only[Ab,AqP,AqM,Dr,Ara]) f l x
theorem nb47{F}:(((B rs).env F).bty=some 47)=False:=Ass (fun h:(none:Option TypeId)=some 47=>by cases h)
theorem AhB{F}{O:Ac}(f:Bool)(id tot off len:Nat)(x:AV):Ao ((B rs).env F) O 208 (.bs f id tot off len) x=match O[id]?,idx x len with
 |some (.buf k els _),some i=>if els.length=tot/\k=32 then some (.eref id tot (off+i) 0)else none
 |_,_=>none:=Qj (AhI F) (AiP F) (by decide) f id tot off len x
theorem Air{F}{O:Ac}(f:Bool)(id tot off len:Nat)(x:AV):Ao ((B rs).env F) O 209 (.bs f id tot off len) x=match O[id]?,idx x len with
 |some (.buf k els _),some i=>if els.length=tot/\k=1 then some (.eref id tot (off+i) 0)else none
 |_,_=>none:=Qj (AiO F) (tb4 F) (by decide) f id tot off len x
theorem Anb{F}{O:Ac}(f:Bool)(l:List Aqr)(x:AV):Ao ((B rs).env F) O 43 (.sl f (L cApi_Expr l)) x=match idx x l.length with
 |some i=>some (.rp (cApi_Expr (nth l i)))
 |none=>none:=LA cApi_Expr (Ans F) (Ap7 F) (fun y=>by rw[Oj];simp only[AqP,AqM,Dr,Ara]) f l x
theorem nb45{F}:(((B rs).env F).bty=some 45)=False:=Ass (fun h:(none:Option TypeId)=some 45=>by cases h)
theorem Ahe{F}{O:Ac}(f:Bool)(l:List Aqn)(x:AV):Ao ((B rs).env F) O 100 (.sl f (L An l)) x=match idx x l.length with
 |some i=>some (.rp (An (nth l i)))
 |none=>none:=LA An (Afn F) (Ai6 F) (fun _=>rfl) f l x
theorem Amh{F}{O:Ac}(f:Bool)(id tot off len:Nat)(x:AV):Ao ((B rs).env F) O 32 (.bs f id tot off len) x=match O[id]?,idx x len with
 |some (.buf k els _),some i=>if els.length=tot/\k=9 then some (.eref id tot (off+i) 0)else none
 |_,_=>none:=Qj (Amf F) (Anq F) (by decide) f id tot off len x
theorem Abv{F}{O:Ac}(f:Bool)(l:List (List UInt8))(x:AV):Ao ((B rs).env F) O 76 (.sl f (L Bl l)) x=match idx x l.length with
 |some i=>some (.rp (Bl (nth l i)))
 |none=>none:=LA Bl (Ajo F) (tb9 F) (fun _=>rfl) f l x
theorem Adt{F}{O:Ac}(x:AV):Ao ((B rs).env F) O 123 (.glob 0) x=match idx x 256 with
 |some i=>some (.rp ((C1 u8 glob0.l).drop i))
 |none=>none:=Aeq (AmO F) (tb5 F) rfl x
theorem An6{F}{O:Ac}(l c:Int):ED ((B rs).env F) O 76 (i64 l) (i64 c)=if Mk l c 16 then some (.bs (l==c) O.length l.toNat 0 l.toNat,O++[.buf 1 (List.replicate l.toNat [.str (([]:List UInt8))]) false])else none:=RQ (Ajo F) (tb9 F) (by decide) l c
theorem AkG{F}{O:Ac}(f:Bool)(id tot off len:Nat)(x:AV):Ao ((B rs).env F) O 76 (.bs f id tot off len) x=match O[id]?,idx x len with
 |some (.buf k els _),some i=>if els.length=tot/\k=1 then some (.eref id tot (off+i) 0)else none
 |_,_=>none:=Qj (Ajo F) (tb9 F) (by decide) f id tot off len x
theorem nb42{F}:(((B rs).env F).bty=some 42)=False:=Ass (fun h:(none:Option TypeId)=some 42=>by cases h)
theorem Akk{F}{O:Ac}(id off:Nat)(x:AV):Ao ((B rs).env F) O 42 (.ref id off) x=match idx x 4 with
 |some i=>some (.ref id (off+i*1))
 |none=>none:=SB (Ago F) (tb3 F) id off x
theorem Ait{F}{O:Ac}(f:Bool)(l:List Int)(x:AV):Ao ((B rs).env F) O 143 (.sl f (L IM l)) x=match idx x l.length with
 |some i=>some (.rp (IM (nth l i)))
 |none=>none:=LA IM (ZZ F) (tb3 F) (fun _=>rfl) f l x
theorem AjW{F}{O:Ac}(cs:List AV)(x:AV):Ao ((B rs).env F) O 50 (.rp cs) x=match idx x 16 with
 |some i=>some (.rp (cs.drop i))
 |none=>none:=AgG (Aqj F) (tb3 F) rfl cs x
theorem Aer{F}{O:Ac}(s x:AV):Bg ((B rs).env F) O .append [43,43] [s,x]=match Hb O x with
   | some new=>if Hk x 7=true then none else if ∀cs∈new,cs.length=7 then(match s with
     | .sl full els=>
      if els=[]/\full=true then
       if GX new.length 72 then some (.bs false O.length new.length 0 new.length,O++[.buf 7 new false])else none
      else if new=[]then some (.sl full els,O)
      else if full=true/\(∀cs∈els,cs.length=7)/\GX (els.length+new.length) 72
      then some (.bs false O.length (els.length+new.length) 0 (els.length+new.length),O++[.buf 7 (els++new) false])else none
     | .bs full id tot off len=>match O[id]? with
      | some (.buf k els ro)=>
       if els.length=tot/\k=7/\GX (len+new.length) 72 then
        if off=0/\len=tot then some (.bs false id (tot+new.length) 0 (tot+new.length),O.set id (.buf k (els++new) ro))
        else if new=[]then some (.bs full id tot off len,O)
        else if full then some (.bs false O.length (len+new.length) 0 (len+new.length),O++[.buf k ((els.drop off).take len++new) false])
        else none
       else none
      |some (.tb T l)=>O0 O id tot off len 72 7 45 T l new
      |_=>none
     |_=>none)
    else none
   |none=>none:=Gk (Ans F) (Ap7 F) (by decide) (Ans F) (.inl ⟨_,rfl⟩) s x []
theorem AdV{F}{O:Ac}(s x:AV):Bg ((B rs).env F) O .append [40,40] [s,x]=match Hb O x with
   | some new=>if Hk x 3=true then none else if ∀cs∈new,cs.length=3 then(match s with
     | .sl full els=>
      if els=[]/\full=true then
       if GX new.length 24 then some (.bs false O.length new.length 0 new.length,O++[.buf 3 new false])else none
      else if new=[]then some (.sl full els,O)
      else if full=true/\(∀cs∈els,cs.length=3)/\GX (els.length+new.length) 24
      then some (.bs false O.length (els.length+new.length) 0 (els.length+new.length),O++[.buf 3 (els++new) false])else none
     | .bs full id tot off len=>match O[id]? with
      | some (.buf k els ro)=>
       if els.length=tot/\k=3/\GX (len+new.length) 24 then
        if off=0/\len=tot then some (.bs false id (tot+new.length) 0 (tot+new.length),O.set id (.buf k (els++new) ro))
        else if new=[]then some (.bs full id tot off len,O)
        else if full then some (.bs false O.length (len+new.length) 0 (len+new.length),O++[.buf k ((els.drop off).take len++new) false])
        else none
       else none
      |some (.tb T l)=>O0 O id tot off len 24 3 69 T l new
      |_=>none
     |_=>none)
    else none
   |none=>none:=Gk (Anr F) (Anj F) (by decide) (Anr F) (.inl ⟨_,rfl⟩) s x []
theorem nb34{F}:(((B rs).env F).bty=some 34)=False:=Ass (fun h:(none:Option TypeId)=some 34=>by cases h)
theorem nb3{F}:(((B rs).env F).bty=some 3)=False:=Ass (fun h:(none:Option TypeId)=some 3=>by cases h)
theorem nb35{F}:(((B rs).env F).bty=some 35)=False:=Ass (fun h:(none:Option TypeId)=some 35=>by cases h)
theorem Ae7{F}{O:Ac}(s x:AV):Bg ((B rs).env F) O .append [32,32] [s,x]=match Hb O x with
   | some new=>if Hk x 9=true then none else if ∀cs∈new,cs.length=9 then(match s with
     | .sl full els=>
      if els=[]/\full=true then
       if GX new.length 112 then some (.bs false O.length new.length 0 new.length,O++[.buf 9 new false])else none
      else if new=[]then some (.sl full els,O)
      else if full=true/\(∀cs∈els,cs.length=9)/\GX (els.length+new.length) 112
      then some (.bs false O.length (els.length+new.length) 0 (els.length+new.length),O++[.buf 9 (els++new) false])else none
     | .bs full id tot off len=>match O[id]? with
      | some (.buf k els ro)=>
       if els.length=tot/\k=9/\GX (len+new.length) 112 then
        if off=0/\len=tot then some (.bs false id (tot+new.length) 0 (tot+new.length),O.set id (.buf k (els++new) ro))
        else if new=[]then some (.bs full id tot off len,O)
        else if full then some (.bs false O.length (len+new.length) 0 (len+new.length),O++[.buf k ((els.drop off).take len++new) false])
        else none
       else none
      |some (.tb T l)=>O0 O id tot off len 112 9 47 T l new
      |_=>none
     |_=>none)
    else none
   |none=>none:=Gk (Amf F) (Anq F) (by decide) (Amf F) (.inl ⟨_,rfl⟩) s x []
theorem Ao3{F}:(((B rs).env F).bty=some 172)=False:=Ass (fun h:(none:Option TypeId)=some 172=>by cases h)
theorem Abd{F}(a0:Int)(a1:Int)(a2:Int)(b0:Int)(b1:Int)(b2:Int):BF ((B rs).env F) .eql 172 (.agg [i64 a0,i64 a1,i64 a2]) (.agg [i64 b0,i64 b1,i64 b2])=some (.bool (((a0==b0)&&((a1==b1)&&(a2==b2))))) :=
 QP (AbQ F) (by kernel_rfl) (by kernel_rfl) (M2 (by decide) (tb3 F) rfl rfl (ND a0 b0) (M2 (by decide) (tb3 F) rfl rfl (ND a1 b1) (XW (by decide) (tb3 F) rfl rfl (ND a2 b2))))
theorem AlK{F}{O:Ac}(f:Bool)(l:List Aqz)(x:AV):Ao ((B rs).env F) O 54 (.sl f (L Ai l)) x=match idx x l.length with
 |some i=>some (.rp (Ai (nth l i)))
 |none=>none:=LA Ai (AjA F) (AbQ F) (fun _=>rfl) f l x
theorem AjX{F}{O:Ac}(l c:Int):ED ((B rs).env F) O 143 (i64 l) (i64 c)=if Mk l c 8 then some (.bs (l==c) O.length l.toNat 0 l.toNat,O++[.buf 1 (List.replicate l.toNat [i64 0]) false])else none:=RQ (ZZ F) (tb3 F) (by decide) l c
theorem AnB{F}:(((B rs).env F).bty=some 225)=False:=Ass (fun h:(none:Option TypeId)=some 225=>by cases h)
theorem AhK{F}(id off:Nat)(x:AV){O:Ac}:Ao ((B rs).env F) O 225 (.ref id off) x=match idx x 256 with
 |some i=>some (.ref id (off+i*1))
 |none=>none:=SB (AlV F) (tb4 F) id off x
theorem AmY{F}:((B rs).env F).mp 230=some (i64 0):=rfl
theorem SH{F}:HZ ((B rs).env F) 230=some (.int .i64):=OP (AkY F) (tb3 F)
theorem Aht{F}:Qp ((B rs).env F) 230=false:=by unfold Qp;rw[SH]
theorem AfC:mp0 230=MI QB no2:=Agw
theorem Ah1(a0:Int){m:Si}{k:Int}:KU (MI QB m) (.int k) (some (i64 a0))=MI QB (up2 m k (some a0)):=XM (c:=QB) a0
theorem AfF{F}{m:Si}(k:Int):JW ((B rs).env F) 230 false (MI QB m) (i64 k) false=some (i64 (((m k).getD (0:Int)))):=Rp (c:=QB) (z:=(0:Int)) SH AmY rfl false
theorem Ale{F}{O:Ac}{id:Nat}{k:Int}{x:AV}:Nd ((B rs).env F) O 230 (.mref id) (i64 k) x=(match O[id]? with
 |some (.mp st f)=>if x.closed=true/\false=st then some (O.set id (.mp st (KU f (.int k) (some x))))else none
 |_=>none):=Yi SH
theorem AnY{F}(cs:List AV)(x:AV):Ka ((B rs).env F) 42 (.agg cs) x=match idx x 4 with
 |some i=>partA (⟨.int .i64,1,8,[i64 0]⟩:TD) cs (i*1)
 |none=>none:=QY (Ago F) (tb3 F) cs x
theorem Aiq{F}{op:BinOp}(a b:Arr Int 4):BF ((B rs).env F) op 42 (.agg (C1 i64 a.l)) (.agg (C1 i64 b.l))=match op with
 |.eql=>some (.bool (a==b))
 |.neq=>some (.bool (!(a==b)))
 |_=>none:=Wv (Ago F) (tb3 F) a b
theorem Afs{F}{op:BinOp}(a:Arr Int 4):BF ((B rs).env F) op 42 (.agg (C1 i64 a.l)) (.agg [i64 0,i64 0,i64 0,i64 0])=match op with
 |.eql=>some (.bool (a==(⟨[0,0,0,0],rfl⟩:Arr Int 4)))
 |.neq=>some (.bool (!(a==(⟨[0,0,0,0],rfl⟩:Arr Int 4))))
 |_=>none:=Aiq a (⟨[0,0,0,0],rfl⟩:Arr Int 4)
theorem AmE{F}:((B rs).env F).mp 120=some (.bool false):=rfl
theorem Sn{F}:HZ ((B rs).env F) 120=some .string:=OP (AjP F) (tb9 F)
theorem AgY{F}:Qp ((B rs).env F) 120=true:=by unfold Qp;rw[Sn]
theorem Ae5:mp0 120=MS L6 no2:=Agy
theorem Ai7(a0:Bool){m:Nl}{k:List UInt8}:KU (MS L6 m) (.str k) (some (.bool a0))=MS L6 (up2 m k (some a0)):=Agq (c:=L6) a0
theorem AeL{F}{m:Nl}(k:List UInt8):JW ((B rs).env F) 120 true (MS L6 m) (.str k) false=some (.bool (((m k).getD false))):=R1 (c:=L6) (z:=false) Sn AmE rfl false
theorem Alq{F}{O:Ac}{id:Nat}{k:List UInt8}{x:AV}:Nd ((B rs).env F) O 120 (.mref id) (.str k) x=(match O[id]? with
 |some (.mp st f)=>if x.closed=true/\true=st then some (O.set id (.mp st (KU f (.str k) (some x))))else none
 |_=>none):=Yu Sn
theorem Ad1{F}(a0:Int)(a1:Int)(a2:Int)(b0:Int)(b1:Int)(b2:Int):BF ((B rs).env F) .neq 69 (.agg [i64 a0,i64 a1,i64 a2]) (.agg [i64 b0,i64 b1,i64 b2])=some (.bool (!((a0==b0)&&((a1==b1)&&(a2==b2))))) :=
 Q5 (Anj F) (by kernel_rfl) (by kernel_rfl) (M2 (by decide) (tb3 F) rfl rfl (ND a0 b0) (M2 (by decide) (tb3 F) rfl rfl (ND a1 b1) (XW (by decide) (tb3 F) rfl rfl (ND a2 b2))))
theorem AiD{F}{O:Ac}(f:Bool)(l:List (Arr Int 4))(x:AV):Ao ((B rs).env F) O 198 (.sl f (L (QS i64 4) l)) x=match idx x l.length with
 |some i=>some (.rp ((QS i64 4) (nth l i)))
 |none=>none:=LA (QS i64 4) (Afx F) (Ago F) (fun y=>Dr (a:=y)) f l x
theorem AkE{F}{O:Ac}(cs:List AV)(x:AV):Ao ((B rs).env F) O 42 (.rp cs) x=match idx x 4 with
 |some i=>some (.rp (cs.drop i))
 |none=>none:=AgG (Ago F) (tb3 F) rfl cs x
theorem AoK{F}:(((B rs).env F).bty=some 201)=False:=Ass (fun h:(none:Option TypeId)=some 201=>by cases h)
theorem Amj{F}:((B rs).env F).mp 146=some (.junk):=rfl
theorem RM{F}:HZ ((B rs).env F) 146=some (.int .i64):=OP (Amx F) (tb3 F)
theorem AhZ{F}:Qp ((B rs).env F) 146=false:=by unfold Qp;rw[RM]
theorem Aeb:mp0 146=MI Ew no2:=Agw
theorem WY{m:JD}{k:Int}:KU (MI Ew m) (.int k) (some (.agg [.fn 119 []]))=MI Ew (up2 m k (some ⟨119,0⟩)):=XM (c:=Ew) ⟨119,0⟩
theorem Wc{m:JD}{k:Int}:KU (MI Ew m) (.int k) (some (.agg [.fn 120 []]))=MI Ew (up2 m k (some ⟨120,0⟩)):=XM (c:=Ew) ⟨120,0⟩
theorem Xa{m:JD}{k:Int}(n:Int):KU (MI Ew m) (.int k) (some (.agg [.fn 165 [.rp [i64 n]]]))=MI Ew (up2 m k (some ⟨165,n⟩)):=XM (c:=Ew) ⟨165,n⟩
theorem Afj{F}{m:JD}(k:Int):JW ((B rs).env F) 146 false (MI Ew m) (i64 k) false=some (Ew (((m k).getD (⟨0,0⟩:AqC)))):=Rp (c:=Ew) (z:=(⟨0,0⟩:AqC)) RM Amj rfl false
theorem AkA{F}{O:Ac}{id:Nat}{k:Int}{x:AV}:Nd ((B rs).env F) O 146 (.mref id) (i64 k) x=(match O[id]? with
 |some (.mp st f)=>if x.closed=true/\false=st then some (O.set id (.mp st (KU f (.int k) (some x))))else none
 |_=>none):=Yi RM
theorem Ap4{F}:(((B rs).env F).bty=some 203)=False:=Ass (fun h:(none:Option TypeId)=some 203=>by cases h)
theorem Ahu{F}(a0 a1 a2 a3 a4 a5 a6 a7 a8 a9 a10 a11 a12 a13 a14 a15:Arr Int 4)(x:AV):Ka ((B rs).env F) 203 (.agg ((C1 i64 a0.l++(C1 i64 a1.l++(C1 i64 a2.l++(C1 i64 a3.l++(C1 i64 a4.l++(C1 i64 a5.l++(C1 i64 a6.l++(C1 i64 a7.l++(C1 i64 a8.l++(C1 i64 a9.l++(C1 i64 a10.l++(C1 i64 a11.l++(C1 i64 a12.l++(C1 i64 a13.l++(C1 i64 a14.l++C1 i64 a15.l))))))))))))))))) x=match idx x 16 with
 |some i=>some (.agg (C1 i64 (nth [a0,a1,a2,a3,a4,a5,a6,a7,a8,a9,a10,a11,a12,a13,a14,a15] i).l))
 |none=>none:=by
 have h:=V2 (E:=(B rs).env F) (Amq F) (Ago F) rfl [a0,a1,a2,a3,a4,a5,a6,a7,a8,a9,a10,a11,a12,a13,a14,a15] rfl x;simp only[Arc,ArS,Asv,List.flatten_nil,ArI]at h;exact h
theorem ZW{F}{O:Ac}(s x:AV):Bg ((B rs).env F) O .append [198,198] [s,x]=match Hb O x with
   | some new=>if Hk x 4=true then none else if ∀cs∈new,cs.length=4 then(match s with
     | .sl full els=>
      if els=[]/\full=true then
       if GX new.length 32 then some (.bs false O.length new.length 0 new.length,O++[.buf 4 new false])else none
      else if new=[]then some (.sl full els,O)
      else if full=true/\(∀cs∈els,cs.length=4)/\GX (els.length+new.length) 32
      then some (.bs false O.length (els.length+new.length) 0 (els.length+new.length),O++[.buf 4 (els++new) false])else none
     | .bs full id tot off len=>match O[id]? with
      | some (.buf k els ro)=>
       if els.length=tot/\k=4/\GX (len+new.length) 32 then
        if off=0/\len=tot then some (.bs false id (tot+new.length) 0 (tot+new.length),O.set id (.buf k (els++new) ro))
        else if new=[]then some (.bs full id tot off len,O)
        else if full then some (.bs false O.length (len+new.length) 0 (len+new.length),O++[.buf k ((els.drop off).take len++new) false])
        else none
       else none
      |some (.tb T l)=>O0 O id tot off len 32 4 42 T l new
      |_=>none
     |_=>none)
    else none
   |none=>none:=Gk (Afx F) (Ago F) (by decide) (Afx F) (.inl ⟨_,rfl⟩) s x []
theorem AfT{F}{op:BinOp}(a:Arr Int 4):BF ((B rs).env F) op 42 (.agg (C1 i64 a.l)) (.agg [i64 1,i64 0,i64 0,i64 0])=match op with
 |.eql=>some (.bool (a==(⟨[1,0,0,0],rfl⟩:Arr Int 4)))
 |.neq=>some (.bool (!(a==(⟨[1,0,0,0],rfl⟩:Arr Int 4))))
 |_=>none:=Aiq a (⟨[1,0,0,0],rfl⟩:Arr Int 4)
theorem AjT{F}{O:Ac}(f:Bool)(id tot off len:Nat)(x:AV):Ao ((B rs).env F) O 22 (.bs f id tot off len) x=match O[id]?,idx x len with
 |some (.buf k els _),some i=>if els.length=tot/\k=21 then some (.eref id tot (off+i) 0)else none
 |_,_=>none:=Qj (Akj F) (Anp F) (by decide) f id tot off len x
theorem Ams(a0:Int)(a1:Int)(a2:Int)(a3:Int)(a4:Int)(a5:Int)(a6:Int)(a7:Int)(a8:Int)(a9:Int)(a10:Int)(a11:Int)(a12:Int)(a13:Int)(a14:Int)(a15:Int)(a16:Int)(a17:Int)(a18:Int)(a19:List UInt8)(a20:List Aqw){l:List Aqy}{j i:Nat}(h:i<l.length):((L Ak l).set j [i64 a0,i64 a1,i64 a2,i64 a3,i64 a4,i64 a5,i64 a6,i64 a7,i64 a8,i64 a9,i64 a10,i64 a11,i64 a12,i64 a13,i64 a14,i64 a15,i64 a16,i64 a17,i64 a18,.str a19,.sl false (L D9 a20)])[i]?=some (Ak (nth (l.set j (({ Ref:=({ Za:=a0,No:=a1 }:Aqv),By:=({ Za:=a2,No:=a3 }:Aqv),Zn:=a4,Zo:=({ Kind:=a5,Ref:=({ Za:=a6,No:=a7 }:Aqv),Zd:=a8,Ze:=a9,Zf:=a10,Zg:=a11,Zh:=a12,To:=a13,Code:=a14,Zi:=a15,Zj:=a16,Zk:=a17,Zl:=a18,Text:=a19,Zm:=a20 }:Aqx) }:Aqy))) i)):=Aga (c:=Ak) (y:=({ Ref:=({ Za:=a0,No:=a1 }:Aqv),By:=({ Za:=a2,No:=a3 }:Aqv),Zn:=a4,Zo:=({ Kind:=a5,Ref:=({ Za:=a6,No:=a7 }:Aqv),Zd:=a8,Ze:=a9,Zf:=a10,Zg:=a11,Zh:=a12,To:=a13,Code:=a14,Zi:=a15,Zj:=a16,Zk:=a17,Zl:=a18,Text:=a19,Zm:=a20 }:Aqx) }:Aqy)) h
theorem AmM{F}{O:Ac}(f:Bool)(l:List Aqy)(x:AV):Ao ((B rs).env F) O 22 (.sl f (L Ak l)) x=match idx x l.length with
 |some i=>some (.rp (Ak (nth l i)))
 |none=>none:=LA Ak (Akj F) (Anp F) (fun _=>rfl) f l x
theorem nb29{F}:(((B rs).env F).bty=some 29)=False:=Ass (fun h:(none:Option TypeId)=some 29=>by cases h)
theorem Aef{F}{O:Ac}(s x:AV):Bg ((B rs).env F) O .append [22,22] [s,x]=match Hb O x with
   | some new=>if Hk x 21=true then none else if ∀cs∈new,cs.length=21 then(match s with
     | .sl full els=>
      if els=[]/\full=true then
       if GX new.length 192 then some (.bs false O.length new.length 0 new.length,O++[.buf 21 new false])else none
      else if new=[]then some (.sl full els,O)
      else if full=true/\(∀cs∈els,cs.length=21)/\GX (els.length+new.length) 192
      then some (.bs false O.length (els.length+new.length) 0 (els.length+new.length),O++[.buf 21 (els++new) false])else none
     | .bs full id tot off len=>match O[id]? with
      | some (.buf k els ro)=>
       if els.length=tot/\k=21/\GX (len+new.length) 192 then
        if off=0/\len=tot then some (.bs false id (tot+new.length) 0 (tot+new.length),O.set id (.buf k (els++new) ro))
        else if new=[]then some (.bs full id tot off len,O)
        else if full then some (.bs false O.length (len+new.length) 0 (len+new.length),O++[.buf k ((els.drop off).take len++new) false])
        else none
       else none
      |some (.tb T l)=>O0 O id tot off len 192 21 29 T l new
      |_=>none
     |_=>none)
    else none
   |none=>none:=Gk (Akj F) (Anp F) (by decide) (Akj F) (.inl ⟨_,rfl⟩) s x []
theorem Aet{F}{O:Ac}(s x:AV):Bg ((B rs).env F) O .append [76,76] [s,x]=match Hb O x with
   | some new=>if Hk x 1=true then none else if ∀cs∈new,cs.length=1 then(match s with
     | .sl full els=>
      if els=[]/\full=true then
       if GX new.length 16 then some (.bs false O.length new.length 0 new.length,O++[.buf 1 new false])else none
      else if new=[]then some (.sl full els,O)
      else if full=true/\(∀cs∈els,cs.length=1)/\GX (els.length+new.length) 16
      then some (.bs false O.length (els.length+new.length) 0 (els.length+new.length),O++[.buf 1 (els++new) false])else none
     | .bs full id tot off len=>match O[id]? with
      | some (.buf k els ro)=>
       if els.length=tot/\k=1/\GX (len+new.length) 16 then
        if off=0/\len=tot then some (.bs false id (tot+new.length) 0 (tot+new.length),O.set id (.buf k (els++new) ro))
        else if new=[]then some (.bs full id tot off len,O)
        else if full then some (.bs false O.length (len+new.length) 0 (len+new.length),O++[.buf k ((els.drop off).take len++new) false])
        else none
       else none
      |some (.tb T l)=>O0 O id tot off len 16 1 9 T l new
      |_=>none
     |_=>none)
    else none
   |none=>none:=Gk (Ajo F) (tb9 F) (by decide) (Ajo F) (.inl ⟨_,rfl⟩) s x []
theorem AlD(a:Arr Int 4):List.take 4 (List.map (fun c=>[c]) (C1 i64 a.l))=L IM a.l:=ZI a
theorem Acv{F}{O:Ac}(f:Bool)(a0 a1 a2:List UInt8)(x:AV):Ao ((B rs).env F) O 76 (.sl f [[.str a0],[.str a1],[.str a2]]) x=match idx x 3 with
 |some i=>some (.rp [.str (nth [a0,a1,a2] i)])
 |none=>none:=Abv f [a0,a1,a2] x
theorem Acw{F}{O:Ac}(f:Bool)(a0 a1:List UInt8)(x:AV):Ao ((B rs).env F) O 76 (.sl f [[.str a0],[.str a1]]) x=match idx x 2 with
 |some i=>some (.rp [.str (nth [a0,a1] i)])
 |none=>none:=Abv f [a0,a1] x
theorem AmA{F}{O:Ac}(f:Bool)(id tot off len:Nat)(x:AV):Ao ((B rs).env F) O 54 (.bs f id tot off len) x=match O[id]?,idx x len with
 |some (.buf k els _),some i=>if els.length=tot/\k=3 then some (.eref id tot (off+i) 0)else none
 |_,_=>none:=Qj (AjA F) (AbQ F) (by decide) f id tot off len x
theorem Afg{F}{O:Ac}(s x:AV):Bg ((B rs).env F) O .append [54,54] [s,x]=match Hb O x with
   | some new=>if Hk x 3=true then none else if ∀cs∈new,cs.length=3 then(match s with
     | .sl full els=>
      if els=[]/\full=true then
       if GX new.length 24 then some (.bs false O.length new.length 0 new.length,O++[.buf 3 new false])else none
      else if new=[]then some (.sl full els,O)
      else if full=true/\(∀cs∈els,cs.length=3)/\GX (els.length+new.length) 24
      then some (.bs false O.length (els.length+new.length) 0 (els.length+new.length),O++[.buf 3 (els++new) false])else none
     | .bs full id tot off len=>match O[id]? with
      | some (.buf k els ro)=>
       if els.length=tot/\k=3/\GX (len+new.length) 24 then
        if off=0/\len=tot then some (.bs false id (tot+new.length) 0 (tot+new.length),O.set id (.buf k (els++new) ro))
        else if new=[]then some (.bs full id tot off len,O)
        else if full then some (.bs false O.length (len+new.length) 0 (len+new.length),O++[.buf k ((els.drop off).take len++new) false])
        else none
       else none
      |some (.tb T l)=>O0 O id tot off len 24 3 172 T l new
      |_=>none
     |_=>none)
    else none
   |none=>none:=Gk (AjA F) (AbQ F) (by decide) (AjA F) (.inl ⟨_,rfl⟩) s x []
theorem Aip{F}{O:Ac}(f:Bool)(id tot off len:Nat)(x:AV):Ao ((B rs).env F) O 143 (.bs f id tot off len) x=match O[id]?,idx x len with
 |some (.buf k els _),some i=>if els.length=tot/\k=1 then some (.eref id tot (off+i) 0)else none
 |_,_=>none:=Qj (ZZ F) (tb3 F) (by decide) f id tot off len x
theorem ZP{F}{O:Ac}(s x:AV):Bg ((B rs).env F) O .append [143,143] [s,x]=match Hb O x with
   | some new=>if Hk x 1=true then none else if ∀cs∈new,cs.length=1 then(match s with
     | .sl full els=>
      if els=[]/\full=true then
       if GX new.length 8 then some (.bs false O.length new.length 0 new.length,O++[.buf 1 new false])else none
      else if new=[]then some (.sl full els,O)
      else if full=true/\(∀cs∈els,cs.length=1)/\GX (els.length+new.length) 8
      then some (.bs false O.length (els.length+new.length) 0 (els.length+new.length),O++[.buf 1 (els++new) false])else none
     | .bs full id tot off len=>match O[id]? with
      | some (.buf k els ro)=>
       if els.length=tot/\k=1/\GX (len+new.length) 8 then
        if off=0/\len=tot then some (.bs false id (tot+new.length) 0 (tot+new.length),O.set id (.buf k (els++new) ro))
        else if new=[]then some (.bs full id tot off len,O)
        else if full then some (.bs false O.length (len+new.length) 0 (len+new.length),O++[.buf k ((els.drop off).take len++new) false])
        else none
       else none
      |some (.tb T l)=>O0 O id tot off len 8 1 3 T l new
      |_=>none
     |_=>none)
    else none
   |none=>none:=Gk (ZZ F) (tb3 F) (by decide) (ZZ F) (.inl ⟨_,rfl⟩) s x []
theorem Aqe{F}:(((B rs).env F).bty=some 116)=False:=Ass (fun h:(none:Option TypeId)=some 116=>by cases h)
theorem AcV{F}{O:Ac}(f:Bool)(a0 a1 a2 a3 x:AV):Ao ((B rs).env F) O 145 (.sl f [[a0],[a1],[a2],[a3]]) x=match idx x 4 with
 |some i=>some (.rp [nth [a0,a1,a2,a3] i])
 |none=>none:=LA (fun y=>[y]) (AlP F) (tb96 F) (fun _=>rfl) f [a0,a1,a2,a3] x
theorem mz92{F}:((B rs).env F).mp 92=some (.agg (.str (([]:List UInt8))::.sl false (L Ag ([]))::i64 0::i64 0::(C1 i64 ((Arr.rep 4 0)).l++[.sl false (L cApi_Expr ([]))]))):=rfl
theorem UV{F}:HZ ((B rs).env F) 92=some .string:=OP (tb92 F) (tb9 F)
theorem AlQ{F}:Qp ((B rs).env F) 92=true:=by unfold Qp;rw[UV]
theorem AhD:mp0 92=MS T7 no2:=Agy
theorem Amt(a0:List UInt8)(a1:List Aqp)(a2:Int)(a3:Int)(a4:Arr Int 4)(a5:List Aqr){m:SM}{k:List UInt8}:KU (MS T7 m) (.str k) (some (.agg (.str a0::.sl false (L Ag a1)::i64 a2::i64 a3::(C1 i64 a4.l++[.sl false (L cApi_Expr a5)]))))=MS T7 (up2 m k (some (({ Name:=a0,When:=a1,Pay:=(Aqr.mk a2 a3 a4 a5) }:Aqs)))):=Agq (c:=T7) (({ Name:=a0,When:=a1,Pay:=(Aqr.mk a2 a3 a4 a5) }:Aqs))
theorem Aek{F}{m:SM}(k:List UInt8):JW ((B rs).env F) 92 true (MS T7 m) (.str k) true=some (.tup [.agg (.str ((((m k).getD RO)).Name)::.sl false (L Ag ((((m k).getD RO)).When))::i64 (((((m k).getD RO)).Pay).Op)::i64 (((((m k).getD RO)).Pay).N)::(C1 i64 (((((m k).getD RO)).Pay).Unit).l++[.sl false (L cApi_Expr (((((m k).getD RO)).Pay).L))])),.bool ((m k).isSome)]):=R1 (c:=T7) (z:=RO) UV mz92 rfl true
theorem ApU{F}{O:Ac}{id:Nat}{k:List UInt8}{x:AV}:Nd ((B rs).env F) O 92 (.mref id) (.str k) x=(match O[id]? with
 |some (.mp st f)=>if x.closed=true/\true=st then some (O.set id (.mp st (KU f (.str k) (some x))))else none
 |_=>none):=Yu UV
theorem Anz{F}{O:Ac}{id:Nat}{k:List UInt8}:PF ((B rs).env F) O 92 (.mref id) (.str k)=(match O[id]? with
 |some (.mp st f)=>if true=st then some (O.set id (.mp st (KU f (.str k) none)))else none
 |_=>none):=AcS UV
theorem AjO{F}{O:Ac}(id off:Nat)(x:AV):Ao ((B rs).env F) O 50 (.ref id off) x=match idx x 16 with
 |some i=>some (.ref id (off+i*1))
 |none=>none:=SB (Aqj F) (tb3 F) id off x
theorem Lb{v:AqC}(h:v.k=119):Ew v=.agg [.fn 119 []]:=by unfold Ew;simp[h]
theorem KV{v:AqC}(h:v.k=120):Ew v=.agg [.fn 120 []]:=by unfold Ew;simp[h]
theorem Lg{v:AqC}(h:v.k=165):Ew v=.agg [.fn 165 [.rp [i64 v.n]]]:=by unfold Ew;simp[h]
attribute [go_sem] An EA Ag XI V3 ZX S0 Aaq Oj Ab Aj Q6 XH D9 Ua Ak Ai PZ PL own3 own4 own5 own6 own7 own8 own9 Aod AoH Aos App An9 Aof AnZ AnG ApZ Aqc Ao7 Ap3 ApV ApI Aoz Apn An2 An5 AnO Aoa AnK AoQ Apf Apo Aor Aop Ap5 AnC AoZ Aob Apj An0 AoA Aqd Ape Ap1 ApM AnT Ap9 Anw ApO Apq Aqh ApT Aqi AoY Apy AoO Apa Ao4 AnI Aow Aqg ApG Apd Aog AnP Ao1 ApH ApP AoU Apu Ao2 Aoo Anv Ao6 Aoi Aoh Ap0 ApB An3 AnX ApK Aoq AnH Aou Apm ApN Apc ApY Aql Anu AkN AmZ AjC AjU Alk Al5 AkZ Ak2 AlS Akh AlO Ald AkX AlZ Aj0 Am4 AkU Alx AjL Ak9 AmL Amo Ak3 Akm Amd Alz Aks AmC Amb Al1 AjI Anf Aku AlX AmT Al8 Amu AlA Al9 Akg Akq Amp Am8 Ali AkH AmX Aka AlI Ane Aj6 AkR Als Ake AlR AlE Aky AkJ AjR Alt tb3 tb4 tb5 tb9 Akj tb24 tb25 tb27 Anp Amf tb34 tb35 Anr Ago Ans Ap7 Anq Aqj tb52 AjA Anj tb75 Ajo tb78 tb92 tb96 Afn AgW Aov Ap2 AnN AjP AmO AmH AoP ZZ AlP Amx Alb AiP Ai6 ApE AbQ Afx ApL AnF Amq AhI AiO Apk Aqk AlV AkY AkM AiT PP KH Ji ApS An4 AjB Al2 Amz Alp Ame Alf Aki AiH AiB Al0 AoW glb3 lkm3 YF glb1 lkm1 Aqa AgU nb52 Akt nb69 All AjF AkB nb47 AhB Air Anb nb45 Ahe Amh Abv Adt An6 AkG nb42 Akk Ait AjW Aer AdV nb34 nb3 nb35 Ae7 Ao3 Abd AlK AjX AnB AhK AmY SH Aht AfC Ah1 AfF Ale AnY Aiq Afs AmE Sn AgY Ae5 Ai7 AeL Alq Ad1 AiD AkE AoK Amj RM AhZ Aeb WY Wc Xa Afj AkA Ap4 Ahu ZW AfT AjT Ams AmM nb29 Aef Aet AlD Acv Acw AmA Afg Aip ZP Aqe AcV mz92 UV AlQ AhD Amt Aek ApU Anz AjO
def GN(a:UInt8):Option (Bool) :=(if(decide ((97:UInt8)<=a))then some (decide (a<=(122:UInt8))) else some false:Option (Bool)).bind fun b=>some b
def GD(a:UInt8):Option (Bool) :=(if(decide ((48:UInt8)<=a))then some (decide (a<=(57:UInt8))) else some false:Option (Bool)).bind fun b=>some b
def Dj(b:List UInt8)(c:UInt8->Option (Bool))(a:Int):Option ((Int)⊕((Unit)⊕((Unit)⊕(Int)))) :=if (decide (a<(b.length:Int)))then if InR a b.length then (c (nth b a.toNat)).bind fun d=>if(!d)then ((some a).bind fun e=>some (.inr e)).bind fun f=>some (.inr (.inr f)) else some (.inl (w64 (a+1))) else none else some (.inr (.inl ()))
def J4(a:List UInt8)(b:UInt8->Option (Bool)):Option (Int) :=((Bf (fun(v:Int)=>Dj a b v) 0).bind fun x=>match x with
 |.inl ()=>some (.inl ())
 |.inr z=>some z:Option ((Unit)⊕(Int))).bind fun x=>match x with
 |.inl ()=>some (a.length:Int)
 |.inr z=>some z
def Hu(a:UInt8):Option (Bool) :=((GN a).bind fun b=>if b then some true else (GD a).bind fun c=>some c:Option (Bool)).bind fun d=>some d
def Cu(b:List UInt8)(c:Int)(a:Int):Option ((Int×Int)⊕((Int)⊕((Int)⊕(Int×Int)))) :=if (decide (a<(b.length:Int)))then if InR a b.length then lt1 (w64 ((w64 (10*c))+(((nth b a.toNat)-(48:UInt8)).toNat:Int))) fun(d:Int)=>if(decide (d>1099511627776))then ((some (0,2)).bind fun e=>some (.inr e)).bind fun f=>some (.inr (.inr f)) else some (.inl (d,(w64 (a+1)))) else none else some (.inr (.inl c))
def HH(a:List UInt8):Option (Int×Int) :=(if(decide ((a.length:Int)>1))then if InR 0 a.length then some ((nth a 0)==(48:UInt8)) else none else some false:Option (Bool)).bind fun b=>if b then some (0,150) else ((Bf (fun(v:Int×Int)=>Cu a v.1 v.2) (0,0)).bind fun x=>match x with
  |.inl c=>some (.inl c)
  |.inr z=>some z:Option ((Int)⊕(Int×Int))).bind fun x=>match x with
  |.inl d=>some (d,0)
  |.inr z=>some z
def DD(b:List UInt8)(a:List UInt8):Option (Bool) :=(if(decide ((b.length:Int)≥(a.length:Int)))then if InB (a.length:Int) b.length then some ((b.take ((a.length:Int).toNat))==a) else none else some false:Option (Bool)).bind fun c=>some c
def Do(a:List UInt8)(b:List UInt8):Option (Bool) :=(DD a b).bind fun c=>some c
def Ej(l:List UInt8)(c:UInt8):Option (Int):=Xs l c
def DB(a:List UInt8)(b:UInt8):Option (Int) :=(Ej a b).bind fun c=>some c
def Dq(a:List UInt8)(b:UInt8):Option (Int) :=(DB a b).bind fun c=>some c
def HB(a:List UInt8):Option (Aqn×Int) :=if InR 0 a.length then (GN (nth a 0)).bind fun e=>if e then (J4 a Hu).bind fun b=>if InB b a.length then if(decide (((a.take b.toNat).length:Int)>32))then some (({ Kind:=0,Text:=([]:List UInt8),N:=0,At:=0 }:Aqn),2) else some (({ Kind:=1,Text:=(a.take b.toNat),N:=0,At:=0 }:Aqn),0) else none else (GD (nth a 0)).bind fun f=>if f then (J4 a GD).bind fun c=>if InB c a.length then (HH (a.take c.toNat)).bind fun d=>some (({ Kind:=2,Text:=(a.take c.toNat),N:=d.1,At:=0 }:Aqn),d.2) else none else if InR 0 a.length then (if(!((IW ([]:List UInt8) tab3 (nth a 0))==([]:List UInt8)))then (Do a (IW ([]:List UInt8) tab3 (nth a 0))).bind fun g=>some g else some false:Option (Bool)).bind fun i=>if i then lt1 (IW ([]:List UInt8) tab3 (nth a 0)) fun(j:List UInt8)=>some (({ Kind:=3,Text:=j,N:=0,At:=0 }:Aqn),0) else some (({ Kind:=0,Text:=([]:List UInt8),N:=0,At:=0 }:Aqn),150) else none else none
def Bs(b:List UInt8)(a:Int)(c:List Aqn):Option ((Int×List Aqn)⊕((List Aqn)⊕((List Aqn)⊕(List Aqn×Int×Int)))) :=if (decide (a<(b.length:Int)))then if InR a b.length then (if((nth b a.toNat)==(32:UInt8))then some ((nth b a.toNat)==(32:UInt8)) else if((nth b a.toNat)==(9:UInt8))then some ((nth b a.toNat)==(9:UInt8)) else if((nth b a.toNat)==(13:UInt8))then some ((nth b a.toNat)==(13:UInt8)) else some ((nth b a.toNat)==(10:UInt8)):Option (Bool)).bind fun f=>if f then some (.inl ((w64 (a+1)),c)) else if ((nth b a.toNat)==(35:UInt8))then if InB a b.length then (Dq ((b.drop a.toNat).take (b.length-a.toNat)) (10:UInt8)).bind fun e=>if(decide (e<0))then some (.inr (.inl c)) else lt1 (w64 (a+(w64 (e+1)))) fun(g:Int)=>some (.inl (g,c)) else none else if InB a b.length then (HB ((b.drop a.toNat).take (b.length-a.toNat))).bind fun d=>if(d.2 != 0)then ((some ([],a,d.2)).bind fun i=>some (.inr i)).bind fun j=>some (.inr (.inr j)) else if GX (c.length+1) 40 then lt1 (c++([({ Kind:=d.1.Kind,Text:=d.1.Text,N:=d.1.N,At:=a }:Aqn)]:List Aqn)) fun(k:List Aqn)=>lt1 (w64 (a+(d.1.Text.length:Int))) fun(l:Int)=>some (.inl (l,k)) else none else none else none else some (.inr (.inl c))
def Eu(a:List UInt8):Option (List Aqn×Int×Int) :=if(decide ((a.length:Int)>2000))then some ([],0,2) else ((Bf (fun(v:Int×List Aqn)=>Bs a v.1 v.2) (0,[])).bind fun x=>match x with
  |.inl b=>some (.inl b)
  |.inr z=>some z:Option ((List Aqn)⊕(List Aqn×Int×Int))).bind fun x=>match x with
  |.inl c=>some (c,0,0)
  |.inr z=>some z
def Em(a:List UInt8):Option (Bool) :=some (IW false tab1 a)
def Mb(a:Int)(b:Arr Int 16):Option ((Int×Arr Int 16)⊕(Arr Int 16)) :=if(decide (a<16))then if InR a 16 then lt1 (b.set a.toNat 9007199254740992) fun(c:Arr Int 16)=>some (.inl ((w64 (a+1)),c)) else none else some (.inr b)
def tbox_all  : Option (Aqo) :=((Bf (fun(v:Int×Arr Int 16)=>Mb v.1 v.2) (0,(Arr.rep 16 0))).bind fun a=>some a:Option (Arr Int 16)).bind fun b=>some ({ low:=(Arr.rep 16 0),high:=b }:Aqo)
def Hl(b:Aqo)(a:Aqp):Option (Aqo) :=if InR a.Attr 16 then if InR a.Attr 16 then lt1 (b.low.set a.Attr.toNat (QC (b.low.get a.Attr.toNat) a.Low)) fun(c:Arr Int 16)=>if InR a.Attr 16 then if InR a.Attr 16 then lt1 (b.high.set a.Attr.toNat (Q9 (b.high.get a.Attr.toNat) a.High)) fun(d:Arr Int 16)=>some ({ low:=c,high:=d }:Aqo) else none else none else none else none
def FS(d : Aqo)(e:Bool)(a:Int)(b:Arr Int 16)(c:Arr Int 16):Option ((Bool×Int×Arr Int 16×Arr Int 16)⊕(Bool×Arr Int 16×Arr Int 16)) :=if (decide (a<16))then if InR a 16 then if InR a 16 then if InR a 16 then lt1 (b.set a.toNat (QC (b.get a.toNat) (d.low.get a.toNat))) fun(f:Arr Int 16)=>if InR a 16 then if InR a 16 then if InR a 16 then lt1 (c.set a.toNat (Q9 (c.get a.toNat) (d.high.get a.toNat))) fun(g:Arr Int 16)=>(if e then if InR a 16 then if InR a 16 then some (decide ((f.get a.toNat)<=(g.get a.toNat))) else none else none else some false:Option (Bool)).bind fun i=>some (.inl (i,(w64 (a+1)),f,g)) else none else none else none else none else none else none else some (.inr (e,b,c))
def Fj(a:Aqo)(b:Aqo):Option (Aqo×Bool) :=((Bf (fun(v:Bool×Int×Arr Int 16×Arr Int 16)=>FS b v.1 v.2.1 v.2.2.1 v.2.2.2) (true,0,a.low,a.high)).bind fun(c,d,e)=>some (c,d,e):Option (Bool×Arr Int 16×Arr Int 16)).bind fun(f,g,i)=>some (({ low:=g,high:=i }:Aqo),f)
def Sg(a:Arr Int 16):Option (Aqq) :=some ({ Has:=65535,V:=a }:Aqq)
def Lk(b:Aqs)(a:Int)(d:Arr Int 16)(e:Arr Int 16):Option ((Int×Arr Int 16×Arr Int 16)⊕((Arr Int 16×Arr Int 16)⊕((Arr Int 16×Arr Int 16)⊕(Aqo×Bool)))) :=if (decide (a<(b.When.length:Int)))then if InR a b.When.length then lt1 ((nth b.When a.toNat).Attr) fun(c:Int)=>lt1 ((nth b.When a.toNat).Low) fun(g:Int)=>lt1 ((nth b.When a.toNat).High) fun(i:Int)=>(if(decide (c<0))then some true else some (decide (c≥16)):Option (Bool)).bind fun j=>if j then ((some (({ low:=(Arr.rep 16 0),high:=(Arr.rep 16 0) }:Aqo),false)).bind fun k=>some (.inr k)).bind fun l=>some (.inr (.inr l)) else (Hl ({ low:=d,high:=e }:Aqo) ({ Attr:=c,Low:=g,High:=i }:Aqp)).bind fun f=>some (.inl ((w64 (a+1)),f.low,f.high)) else none else some (.inr (.inl (d,e)))
def HY(e:Aqs):Option (Aqo×Bool) :=tbox_all.bind fun a=>((Bf (fun(v:Int×Arr Int 16×Arr Int 16)=>Lk e v.1 v.2.1 v.2.2) (0,a.low,a.high)).bind fun x=>match x with
 |.inl (f,g)=>some (.inl (f,g))
 |.inr z=>some z:Option ((Arr Int 16×Arr Int 16)⊕(Aqo×Bool))).bind fun x=>match x with
 | .inl (b,c)=>(Fj ({ low:=b,high:=c }:Aqo) ({ low:=b,high:=c }:Aqo)).bind fun d=>if d.2=true then some (d.1,true) else some (({ low:=(Arr.rep 16 0),high:=(Arr.rep 16 0) }:Aqo),false)
 |.inr z=>some z
def ET(b:Aqt)(a:Int)(c:List Aqo)(d:List Bool):Option ((Int×List Aqo×List Bool)⊕(List Aqo×List Bool)) :=if (decide (a<(b.Clauses.length:Int)))then if InR a b.Clauses.length then lt1 ((nth b.Clauses a.toNat).Name) fun(f:List UInt8)=>lt1 ((nth b.Clauses a.toNat).When) fun(g:List Aqp)=>lt1 (((nth b.Clauses a.toNat).Pay).Op) fun(i:Int)=>lt1 (((nth b.Clauses a.toNat).Pay).N) fun(j:Int)=>lt1 (((nth b.Clauses a.toNat).Pay).Unit) fun(k:Arr Int 4)=>lt1 (((nth b.Clauses a.toNat).Pay).L) fun(l:List Aqr)=>(HY ({ Name:=f,When:=g,Pay:=(Aqr.mk i j k l) }:Aqs)).bind fun e=>if InR a c.length then if InR a d.length then lt1 (c.set a.toNat e.1) fun(m:List Aqo)=>lt1 (d.set a.toNat e.2) fun(n:List Bool)=>some (.inl ((w64 (a+1)),m,n)) else none else none else none else some (.inr (c,d))
def EV(b:List Aqo)(d:List Bool)(c:Int)(a:Int):Option ((Int)⊕((Unit)⊕((Unit)⊕((Int)⊕((Unit)⊕((Unit)⊕(Int×Int×Aqq×Bool))))))) :=if (decide (a<(b.length:Int)))then if InR c b.length then if InR a b.length then (Fj (nth b c.toNat) (nth b a.toNat)).bind fun e=>(if e.2=true then if InR c d.length then if nth d c.toNat=true then if InR a d.length then some (nth d a.toNat) else none else some false else none else some false:Option (Bool)).bind fun f=>if f then (Sg e.1.low).bind fun g=>((((some (c,a,g,true)).bind fun i=>some (.inr i)).bind fun j=>some (.inr (.inr j))).bind fun k=>some (.inr k)).bind fun l=>some (.inr (.inr l)) else some (.inl (w64 (a+1))) else none else none else some (.inr (.inl ()))
def Gt(b:List Aqo)(c:List Bool)(a:Int):Option ((Int)⊕((Unit)⊕((Unit)⊕(Int×Int×Aqq×Bool)))) :=if(decide (a<(b.length:Int)))then ((Bf (fun(v:Int)=>EV b c a v) (w64 (a+1))).bind fun x=>match x with
  |.inl ()=>some (.inl ())
  |.inr z=>some z:Option ((Unit)⊕((Int)⊕((Unit)⊕((Unit)⊕(Int×Int×Aqq×Bool)))))).bind fun x=>match x with
  |.inl ()=>some (.inl (w64 (a+1)))
  |.inr z=>some z else some (.inr (.inl ()))
def Hc(a:Aqt):Option (Int×Int×Aqq×Bool) :=if Mk (a.Clauses.length:Int) (a.Clauses.length:Int) 256 then lt1 (List.replicate ((a.Clauses.length:Int).toNat) ({ low:=(Arr.rep 16 0),high:=(Arr.rep 16 0) }:Aqo)) fun(b:List Aqo)=>if Mk (a.Clauses.length:Int) (a.Clauses.length:Int) 1 then lt1 (List.replicate ((a.Clauses.length:Int).toNat) false) fun(c:List Bool)=>((Bf (fun(v:Int×List Aqo×List Bool)=>ET a v.1 v.2.1 v.2.2) (0,b,c)).bind fun(d,e)=>some (d,e):Option (List Aqo×List Bool)).bind fun(f,g)=>((Bf (fun(v:Int)=>Gt f g v) 0).bind fun x=>match x with
   |.inl ()=>some (.inl ())
   |.inr z=>some z:Option ((Unit)⊕(Int×Int×Aqq×Bool))).bind fun x=>match x with
   |.inl ()=>some (0,0,({ Has:=0,V:=(Arr.rep 16 0) }:Aqq),false)
   |.inr z=>some z else none else none
def H9(b:Aqt)(a:Int):Option ((Int)⊕((Unit)⊕((Unit)⊕(Int)))) :=if (decide (a<(b.Clauses.length:Int)))then if InR a b.Clauses.length then lt1 ((nth b.Clauses a.toNat).Name) fun(c:List UInt8)=>lt1 ((nth b.Clauses a.toNat).When) fun(d:List Aqp)=>lt1 (((nth b.Clauses a.toNat).Pay).Op) fun(e:Int)=>lt1 (((nth b.Clauses a.toNat).Pay).N) fun(f:Int)=>lt1 (((nth b.Clauses a.toNat).Pay).Unit) fun(g:Arr Int 4)=>lt1 (((nth b.Clauses a.toNat).Pay).L) fun(i:List Aqr)=>(HY ({ Name:=c,When:=d,Pay:=(Aqr.mk e f g i) }:Aqs)).bind fun j=>if(!j.2)then ((some 190).bind fun k=>some (.inr k)).bind fun l=>some (.inr (.inr l)) else some (.inl (w64 (a+1))) else none else some (.inr (.inl ()))
def EE(a:Aqt):Option (Int) :=((Bf (fun(v:Int)=>H9 a v) 0).bind fun x=>match x with
 |.inl ()=>some (.inl ())
 |.inr z=>some z:Option ((Unit)⊕(Int))).bind fun x=>match x with
 | .inl ()=>(Hc a).bind fun b=>if b.2.2.2=true then some 190 else some 0
 |.inr z=>some z
def Fh(b:Aqr)(rec_:Aqr->Option (Int))(c:Int)(a:Int):Option ((Int×Int)⊕(Int)) :=if(decide (a<(b.L.length:Int)))then if InR a b.L.length then lt1 ((nth b.L a.toNat).Op) fun(d:Int)=>lt1 ((nth b.L a.toNat).N) fun(e:Int)=>lt1 ((nth b.L a.toNat).Unit) fun(f:Arr Int 4)=>lt1 ((nth b.L a.toNat).L) fun(g:List Aqr)=>(rec_ (Aqr.mk d e f g)).bind fun i=>some (.inl ((QC c i),(w64 (a+1)))) else none else some (.inr c)
def EC(rec_:Aqr->Option (Int))(a:Aqr):Option (Int) :=((Bf (fun(v:Int×Int)=>Fh a rec_ v.1 v.2) (0,0)).bind fun b=>some b:Option (Int)).bind fun c=>some (w64 (c+1))
def E7(n:Nat):Aqr->Option (Int):=match n with
 |0=>fun _=>none
 |n+1=>EC (E7 n)
def DO(a:Aqr):Option (Int):=E7 18446744073709551616 a
def Bq(a:Aqu):Option (Int×Aqu) :=if(decide ((a.l.length:Int)>0))then if InR 0 a.l.length then some ((nth a.l 0).At,a) else none else some (a.end_,a)
def BR(a:Aqu)(b:Int):Option (Aqn×Bool×Aqu) :=(if((a.l.length:Int)==0)then some true else if InR 0 a.l.length then some ((nth a.l 0).Kind != b) else none:Option (Bool)).bind fun c=>if c then some (({ Kind:=0,Text:=([]:List UInt8),N:=0,At:=0 }:Aqn),false,a) else if InR 0 a.l.length then some (nth a.l 0,true,a) else none
def Aw(a:Aqu)(b:List UInt8):Option (Bool×Aqu) :=(if((a.l.length:Int)==0)then some true else if InR 0 a.l.length then if((nth a.l 0).Kind==2)then some true else if InR 0 a.l.length then some (!(((nth a.l 0).Text)==b)) else none else none:Option (Bool)).bind fun c=>if c then some (false,a) else if InB 1 a.l.length then lt1 ((a.l.drop 1).take (a.l.length-1)) fun(d:List Aqn)=>some (true,({ l:=d,end_:=a.end_ }:Aqu)) else none
def D5(b:Aqs)(a:Aqs):Option (Bool×Aqs) :=some ((b.Name==a.Name),({ Name:=a.Name,When:=[],Pay:=(Aqr.mk a.Pay.Op a.Pay.N a.Pay.Unit ([])) }:Aqs))
def Ci(c:List Aqs)(b:Int)(d:List UInt8)(e:Int)(f:Int)(g:Arr Int 4):Option ((Int×List UInt8×Int×Int×Arr Int 4)⊕((List UInt8×Int×Int×Arr Int 4)⊕((List UInt8×Int×Int×Arr Int 4)⊕(Int×Aqs)))) :=if (decide (b<(c.length:Int)))then if InR b c.length then (D5 (nth c b.toNat) ({ Name:=d,When:=[],Pay:=(Aqr.mk e f g ([])) }:Aqs)).bind fun a=>if a.1=true then ((some (b,({ Name:=a.2.Name,When:=[],Pay:=(Aqr.mk a.2.Pay.Op a.2.Pay.N a.2.Pay.Unit ([])) }:Aqs))).bind fun i=>some (.inr i)).bind fun j=>some (.inr (.inr j)) else some (.inl ((w64 (b+1)),a.2.Name,a.2.Pay.Op,a.2.Pay.N,a.2.Pay.Unit)) else none else some (.inr (.inl (d,e,f,g)))
def CA(b:List Aqs)(a:Aqs):Option (Int×Aqs) :=((Bf (fun(v:Int×List UInt8×Int×Int×Arr Int 4)=>Ci b v.1 v.2.1 v.2.2.1 v.2.2.2.1 v.2.2.2.2) (0,a.Name,a.Pay.Op,a.Pay.N,a.Pay.Unit)).bind fun x=>match x with
 |.inl (c,d,e,f)=>some (.inl (c,d,e,f))
 |.inr z=>some z:Option ((List UInt8×Int×Int×Arr Int 4)⊕(Int×Aqs))).bind fun x=>match x with
 |.inl (g,i,j,k)=>some ((-1),({ Name:=g,When:=[],Pay:=(Aqr.mk i j k ([])) }:Aqs))
 |.inr z=>some z
def B6(c:List Aqs)(b:Aqs):Option (Bool×Aqs) :=(CA c ({ Name:=b.Name,When:=[],Pay:=(Aqr.mk b.Pay.Op b.Pay.N b.Pay.Unit ([])) }:Aqs)).bind fun a=>some ((decide (a.1≥0)),({ Name:=a.2.Name,When:=[],Pay:=(Aqr.mk a.2.Pay.Op a.2.Pay.N a.2.Pay.Unit ([])) }:Aqs))
noncomputable def JP(r:Aqu⊕(Int×Int×Aqu)):Outc:=match r with
 |.inl r=>.ret (.tup []) [pS r]
 |.inr r=>.pan (.iface 104 (.agg #[.int .i64 r.1,.int .i64 r.2.1])) [pS r.2.2]
def Bz(b:Aqu):Option (Aqu⊕(Int×Int×Aqu)) :=(Bq b).bind fun a=>some (.inr (a.1,160,a.2))
noncomputable def Jj(r:Aqu⊕(Int×Int×Aqu)):Outc:=match r with
 |.inl r=>.ret (.tup []) [pS r]
 |.inr r=>.pan (.iface 104 (.agg #[.int .i64 r.1,.int .i64 r.2.1])) [pS r.2.2]
def Ax(c:Aqu)(d:List UInt8):Option (Aqu⊕(Int×Int×Aqu)) :=(Aw c d).bind fun a=>if(!a.1)then (Bz a.2).bind fun e=>match e with
  |.inl f=>some (.inl f)
  |.inr b=>some (.inr (b.1,b.2.1,b.2.2)) else some (.inl a.2)
noncomputable def I8(r:(Int×Aqu)⊕(Int×Int×Aqu)):Outc:=match r with
 |.inl r=>.ret (i64 r.1) [pS r.2]
 |.inr r=>.pan (.iface 104 (.agg #[.int .i64 r.1,.int .i64 r.2.1])) [pS r.2.2]
def Bv(e:Aqu):Option ((Int×Aqu)⊕(Int×Int×Aqu)) :=(BR e 2).bind fun a=>(if(!a.2.1)then (Bz a.2.2).bind fun f=>match f with
  |.inl d=>some (.inl (d.l,d.end_))
  |.inr b=>(some (.inr (b.1,b.2.1,b.2.2))).bind fun g=>some (.inr g) else some (.inl (a.2.2.l,a.2.2.end_)):Option ((List Aqn×Int)⊕((Int×Aqu)⊕(Int×Int×Aqu)))).bind fun x=>match x with
 | .inl (c,i)=>if InB 1 c.length then lt1 ((c.drop 1).take (c.length-1)) fun(j:List Aqn)=>some (.inl (a.1.N,({ l:=j,end_:=i }:Aqu))) else none
 |.inr z=>some z
noncomputable def Kb(r:(List UInt8×Aqu)⊕(Int×Int×Aqu)):Outc:=match r with
 |.inl r=>.ret (.str r.1) [pS r.2]
 |.inr r=>.pan (.iface 104 (.agg #[.int .i64 r.1,.int .i64 r.2.1])) [pS r.2.2]
def CT(f:Aqu):Option ((List UInt8×Aqu)⊕(Int×Int×Aqu)) :=(BR f 1).bind fun a=>(if(!a.2.1)then (Bz a.2.2).bind fun g=>match g with
  |.inl d=>some (.inl (d.l,d.end_))
  |.inr c=>(some (.inr (c.1,c.2.1,c.2.2))).bind fun i=>some (.inr i) else some (.inl (a.2.2.l,a.2.2.end_)):Option ((List Aqn×Int)⊕((List UInt8×Aqu)⊕(Int×Int×Aqu)))).bind fun x=>match x with
 | .inl (b,e)=>(Em a.1.Text).bind fun j=>if j then some (.inr (a.1.At,161,({ l:=b,end_:=e }:Aqu))) else if InB 1 b.length then lt1 ((b.drop 1).take (b.length-1)) fun(k:List Aqn)=>some (.inl (a.1.Text,({ l:=k,end_:=e }:Aqu))) else none
 |.inr z=>some z
def Ep(b:List (List UInt8))(c:List UInt8)(a:Int):Option ((Int)⊕((Unit)⊕((Unit)⊕(Int)))) :=if (decide (a<(b.length:Int)))then if InR a b.length then if(c==(nth b a.toNat))then ((some a).bind fun d=>some (.inr d)).bind fun e=>some (.inr (.inr e)) else some (.inl (w64 (a+1))) else none else some (.inr (.inl ()))
def D8(a:List (List UInt8))(b:List UInt8):Option (Int) :=((Bf (fun(v:Int)=>Ep a b v) 0).bind fun x=>match x with
 |.inl ()=>some (.inl ())
 |.inr z=>some z:Option ((Unit)⊕(Int))).bind fun x=>match x with
 |.inl ()=>some (-1)
 |.inr z=>some z
def GE(b:List UInt8)(c:Int)(f:Int)(d:UInt8)(a:Int):Option ((Int×Int×UInt8×Int)⊕(Int×UInt8)) :=if (decide (a<(b.length:Int)))then if InR a b.length then lt1 (d ||| (nth b a.toNat)) fun(g:UInt8)=>if InR ((nth b a.toNat).toNat:Int) 256 then lt1 ((glob0.get ((nth b a.toNat).toNat)).toNat:Int) fun(e:Int)=>lt1 (w64 (c+(Ahn f (Aha (-1) e)))) fun(i:Int)=>some (.inl (i,e,g,(w64 (a+1)))) else none else none else some (.inr (c,d))
def GL(b:List UInt8)(a:Int):Option ((Int)⊕(Int)) :=(if(decide (a<(b.length:Int)))then if InR a b.length then if InR ((nth b a.toNat).toNat:Int) 256 then some ((glob0.get ((nth b a.toNat).toNat)) != (0:UInt8)) else none else none else some false:Option (Bool)).bind fun c=>if c then some (.inl (w64 (a+1))) else some (.inr a)
def GT(b:List UInt8)(a:Int):Option ((Int)⊕(Int)) :=(if(decide (a<(b.length:Int)))then if InR a b.length then if InR ((nth b a.toNat).toNat:Int) 256 then some ((glob0.get ((nth b a.toNat).toNat)) != (0:UInt8)) else none else none else some false:Option (Bool)).bind fun c=>if c then some (.inl (w64 (a+1))) else some (.inr a)
def GC(b:List UInt8)(c:Int)(d:Int)(a:Int)(e:List (List UInt8)):Option ((Int×Int×Int×List (List UInt8))⊕(Int×Int×List (List UInt8))) :=if (decide (a<(b.length:Int)))then if InR a b.length then if InR ((nth b a.toNat).toNat:Int) 256 then lt1 ((glob0.get ((nth b a.toNat).toNat))==(0:UInt8)) fun(g:Bool)=>if g then some (.inl (c,d,(w64 (a+1)),e)) else if InB a b.length then if InB d a.toNat then if InR c e.length then lt1 (e.set c.toNat ((b.drop d.toNat).take (a.toNat-d.toNat))) fun(i:List (List UInt8))=>((Bf (fun(v:Int)=>GT b v) (w64 (a+1))).bind fun j=>some j:Option (Int)).bind fun f=>some (.inl ((w64 (c+1)),f,f,i)) else none else none else none else none else none else some (.inr (c,d,e))
def Bp(a:List UInt8):Option (List (List UInt8)) :=((Bf (fun(v:Int×Int×UInt8×Int)=>GE a v.1 v.2.1 v.2.2.1 v.2.2.2) (0,1,(0:UInt8),0)).bind fun(g,i)=>some (g,i):Option (Int×UInt8)).bind fun(c,j)=>if(decide (j≥(128:UInt8)))then none else if Mk c c 16 then lt1 (List.replicate c.toNat ([]:List UInt8)) fun(k:List (List UInt8))=>((Bf (fun(v:Int)=>GL a v) 0).bind fun l=>some l:Option (Int)).bind fun e=>((Bf (fun(v:Int×Int×Int×List (List UInt8))=>GC a v.1 v.2.1 v.2.2.1 v.2.2.2) (0,e,e,k)).bind fun(m,n,o)=>some (m,n,o):Option (Int×Int×List (List UInt8))).bind fun(f,b,d)=>(if(decide (b<(a.length:Int)))then if InB b a.length then if InR f d.length then lt1 (d.set f.toNat ((a.drop b.toNat).take (a.length-b.toNat))) fun(p:List (List UInt8))=>some p else none else none else some d:Option (List (List UInt8))).bind fun q=>some q else none
def BP(c:Aqu)(d:List UInt8):Option (Int×Bool×Aqu) :=(BR c 1).bind fun a=>(Bp d).bind fun e=>(D8 e a.1.Text).bind fun b=>(if(!a.2.1)then some true else some (decide (b<0)):Option (Bool)).bind fun f=>if f then some (0,false,a.2.2) else if InB 1 a.2.2.l.length then lt1 ((a.2.2.l.drop 1).take (a.2.2.l.length-1)) fun(g:List Aqn)=>some (b,true,({ l:=g,end_:=a.2.2.end_ }:Aqu)) else none
noncomputable def Ke(r:(Int×Aqu)⊕(Int×Int×Aqu)):Outc:=match r with
 |.inl r=>.ret (i64 r.1) [pS r.2]
 |.inr r=>.pan (.iface 104 (.agg #[.int .i64 r.1,.int .i64 r.2.1])) [pS r.2.2]
def BV(d:Aqu)(e:List UInt8):Option ((Int×Aqu)⊕(Int×Int×Aqu)) :=(BP d e).bind fun a=>(if(!a.2.1)then (Bz a.2.2).bind fun f=>match f with
  |.inl c=>some (.inl (c.l,c.end_))
  |.inr b=>(some (.inr (b.1,b.2.1,b.2.2))).bind fun g=>some (.inr g) else some (.inl (a.2.2.l,a.2.2.end_)):Option ((List Aqn×Int)⊕((Int×Aqu)⊕(Int×Int×Aqu)))).bind fun x=>match x with
 |.inl (i,j)=>some (.inl (a.1,({ l:=i,end_:=j }:Aqu)))
 |.inr z=>some z
noncomputable def Kf(r:(Arr Int 4×Aqu)⊕(Int×Int×Aqu)):Outc:=match r with
 |.inl r=>.ret (.agg (C1 i64 r.1.l)) [pS r.2]
 |.inr r=>.pan (.iface 104 (.agg #[.int .i64 r.1,.int .i64 r.2.1])) [pS r.2.2]
def C3(f:Aqu):Option ((Arr Int 4×Aqu)⊕(Int×Int×Aqu)) :=((BP f ([109,111,110,101,121,32,109,105,110,117,116,101,32,107,109,32,107,103]:List UInt8)).bind fun a=>if a.2.1=true then if InR a.1 4 then if InR a.1 4 then lt1 ((Arr.rep 4 0).set a.1.toNat (w64 (((Arr.rep 4 0).get a.1.toNat)+1))) fun(g:Arr Int 4)=>some (a.2.2.l,a.2.2.end_,g) else none else none else some (a.2.2.l,a.2.2.end_,(Arr.rep 4 0)):Option (List Aqn×Int×Arr Int 4)).bind fun(i,j,d)=>((Aw ({ l:=i,end_:=j }:Aqu) ([112,101,114]:List UInt8)).bind fun c=>if c.1=true then (BV c.2 ([109,111,110,101,121,32,109,105,110,117,116,101,32,107,109,32,107,103]:List UInt8)).bind fun k=>match k with
  | .inl b=>if InR b.1 4 then if InR b.1 4 then lt1 (d.set b.1.toNat (w64 ((d.get b.1.toNat)-1))) fun(m:Arr Int 4)=>some (.inl (b.2.l,b.2.end_,m)) else none else none
  |.inr e=>(some (.inr (e.1,e.2.1,e.2.2))).bind fun n=>some (.inr n) else some (.inl (c.2.l,c.2.end_,d)):Option ((List Aqn×Int×Arr Int 4)⊕((Arr Int 4×Aqu)⊕(Int×Int×Aqu)))).bind fun x=>match x with
 |.inl (o,p,q)=>some (.inl (q,({ l:=o,end_:=p }:Aqu)))
 |.inr z=>some z
noncomputable def Kg(r:(Aqp×Aqu)⊕(Int×Int×Aqu)):Outc:=match r with
 |.inl r=>.ret (.agg [i64 r.1.Attr,i64 r.1.Low,i64 r.1.High]) [pS r.2]
 |.inr r=>.pan (.iface 104 (.agg #[.int .i64 r.1,.int .i64 r.2.1])) [pS r.2.2]
def BS(n:Aqu)(o:Int):Option ((Aqp×Aqu)⊕(Int×Int×Aqu)) :=(Bq n).bind fun k=>(BV k.2 ([116,121,112,101,32,111,119,110,101,114,32,114,97,105,108,119,97,121,32,115,104,105,112,112,101,114,32,99,108,97,115,115,32,119,101,105,103,104,116,32,107,109,32,109,105,110,117,116,101,115,32,119,111,114,107,105,110,103,32,99,111,100,101,32,119,111,114,116,104,32,99,111,115,116,32,109,111,110,116,104,32,98,101,103,105,110,32,112,97,114,116,115,32,112,97,114,116]:List UInt8)).bind fun p=>match p with
 | .inl a=>if(o==8)then some (.inr (k.1,2,a.2)) else (Aw a.2 ([105,115]:List UInt8)).bind fun b=>if b.1=true then (Bv b.2).bind fun q=>match q with
    |.inl c=>some (.inl (({ Attr:=a.1,Low:=c.1,High:=c.1 }:Aqp),c.2))
    |.inr d=>some (.inr (d.1,d.2.1,d.2.2)) else (Ax b.2 ([105,110]:List UInt8)).bind fun s=>match s with
    | .inl t=>(Bv t).bind fun u=>match u with
     | .inl l=>(Ax l.2 ([46,46]:List UInt8)).bind fun v=>match v with
      | .inl w=>(Bv w).bind fun x=>match x with
       |.inl m=>some (.inl (({ Attr:=a.1,Low:=l.1,High:=m.1 }:Aqp),m.2))
       |.inr e=>some (.inr (e.1,e.2.1,e.2.2))
      |.inr f=>some (.inr (f.1,f.2.1,f.2.2))
     |.inr g=>some (.inr (g.1,g.2.1,g.2.2))
    |.inr i=>some (.inr (i.1,i.2.1,i.2.2))
 |.inr j=>some (.inr (j.1,j.2.1,j.2.2))
def WK(b:List Int)(a:Int):Option ((Int)⊕((Unit)⊕((Unit)⊕(Bool)))) :=if (decide (a<(b.length:Int)))then if InR a b.length then (if(decide (nth b a.toNat<(-9007199254740992)))then some true else some (decide (nth b a.toNat>9007199254740992)):Option (Bool)).bind fun c=>if c then ((some false).bind fun d=>some (.inr d)).bind fun e=>some (.inr (.inr e)) else some (.inl (w64 (a+1))) else none else some (.inr (.inl ()))
def Ano(a:List Int):Option (Bool) :=((Bf (fun(v:Int)=>WK a v) 0).bind fun x=>match x with
 |.inl ()=>some (.inl ())
 |.inr z=>some z:Option ((Unit)⊕(Bool))).bind fun x=>match x with
 |.inl ()=>some true
 |.inr z=>some z
def Nv(a:UInt64)(b:UInt64):Option (UInt64×UInt64) :=lt1 (a &&& (4294967295:UInt64)) fun(x0_2646:UInt64)=>lt1 (VE a (32:UInt64).toNat) fun(x1_2648:UInt64)=>lt1 (b &&& (4294967295:UInt64)) fun(y0_2650:UInt64)=>lt1 (VE b (32:UInt64).toNat) fun(y1_2652:UInt64)=>lt1 ((x1_2648*y0_2650)+(VE (x0_2646*y0_2650) (32:UInt64).toNat)) fun(c:UInt64)=>lt1 (c &&& (4294967295:UInt64)) fun(w1_2656:UInt64)=>lt1 (VE c (32:UInt64).toNat) fun(w2_2658:UInt64)=>lt1 (w1_2656+(x0_2646*y1_2652)) fun(w1_2660:UInt64)=>lt1 (((x1_2648*y1_2652)+w2_2658)+(VE w1_2660 (32:UInt64).toNat)) fun(d:UInt64)=>some (d,(a*b))
noncomputable def AdF(r:Int⊕Int):Outc:=match r with
 |.inl r=>.ret (i64 r) []
 |.inr r=>.pan (.iface 137 (.agg #[.int .i64 r])) []
noncomputable def Ju(r:Int⊕Int):Outc:=match r with
 |.inl r=>.ret (i64 r) []
 |.inr r=>.pan (.iface 137 (.agg #[.int .i64 r])) []
def CW(c:Aqq)(a:Int):Option (Int⊕Int) :=(if(decide (a<0))then some true else some (decide (a≥16)):Option (Bool)).bind fun d=>if d then some (.inr 1) else if NP a then if((Ahn c.Has (shlI 1 a))==0)then some (.inr 181) else if InR a 16 then lt1 (c.V.get a.toNat) fun(b:Int)=>(if(decide (b<(-9007199254740992)))then some true else some (decide (b>9007199254740992)):Option (Bool)).bind fun e=>if e then some (.inr 3) else some (.inl b) else none else none
def Av(b:Aqu):Option (Int×Aqu) :=(Aw b ([42]:List UInt8)).bind fun a=>if a.1=true then some (5,a.2) else some (0,a.2)
def A4(c:Aqu):Option (Int×Aqu) :=(Aw c ([43]:List UInt8)).bind fun a=>if a.1=true then some (3,a.2) else (Aw a.2 ([45]:List UInt8)).bind fun b=>if b.1=true then some (4,b.2) else some (0,b.2)
noncomputable def AY(r:(Aqr×Aqu)⊕(Int×Int×Aqu)):Outc:=match r with
 |.inl r=>.ret (.agg (xE r.1)) [pS r.2]
 |.inr r=>.pan (.iface 104 (.agg #[.int .i64 r.1,.int .i64 r.2.1])) [pS r.2.2]
noncomputable def Ih(r:(Aqr×Aqu×List (List UInt8))⊕(Int×Int×Aqu×List (List UInt8))):Outc:=match r with
 |.inl r=>.ret (.agg (xE r.1)) [pS r.2.1,.buf 1 (L Bl r.2.2) false]
 |.inr r=>.pan (.iface 104 (.agg #[.int .i64 r.1,.int .i64 r.2.1])) [pS r.2.2.1,.buf 1 (L Bl r.2.2.2) false]
def Ca(k:Aqu->Option ((Aqr×Aqu)⊕(Int×Int×Aqu)))(a:List (List UInt8))(b:Int)(f:List Aqn)(g:Int)(c:List Aqr):Option ((Int×List Aqn×Int×List Aqr)⊕((List Aqn×Int×List Aqr)⊕((List Aqn×Int×List Aqr)⊕((Aqr×Aqu×List (List UInt8))⊕(Int×Int×Aqu×List (List UInt8)))))) :=if (decide (b<(a.length:Int)))then if InR b a.length then lt1 (nth a b.toNat) fun(m:List UInt8)=>(k ({ l:=f,end_:=g }:Aqu)).bind fun n=>match n with
   | .inl i=>if GX (c.length+1) 72 then lt1 (c++([i.1]:List Aqr)) fun(o:List Aqr)=>(Ax i.2 m).bind fun p=>match p with
     |.inl j=>some (.inl ((w64 (b+1)),j.l,j.end_,o))
     |.inr d=>((some (.inr (d.1,d.2.1,d.2.2,a))).bind fun q=>some (.inr q)).bind fun s=>some (.inr (.inr s)) else none
   |.inr e=>((some (.inr (e.1,e.2.1,e.2.2,a))).bind fun t=>some (.inr t)).bind fun u=>some (.inr (.inr u)) else none else some (.inr (.inl (f,g,c)))
def Bj(d:Aqu->Option ((Aqr×Aqu)⊕(Int×Int×Aqu)))(e:Aqu)(f:Int)(a:List (List UInt8)):Option ((Aqr×Aqu×List (List UInt8))⊕(Int×Int×Aqu×List (List UInt8))) :=(Ax e ([40]:List UInt8)).bind fun g=>match g with
 | .inl c=>((Bf (fun(v:Int×List Aqn×Int×List Aqr)=>Ca d a v.1 v.2.1 v.2.2.1 v.2.2.2) (0,c.l,c.end_,[])).bind fun x=>match x with
  |.inl (i,j,k)=>some (.inl (i,j,k))
  |.inr z=>some z:Option ((List Aqn×Int×List Aqr)⊕((Aqr×Aqu×List (List UInt8))⊕(Int×Int×Aqu×List (List UInt8))))).bind fun x=>match x with
  |.inl (m,n,o)=>some (.inl ((Aqr.mk f 0 (Arr.rep 4 0) o),({ l:=m,end_:=n }:Aqu),a))
  |.inr z=>some z
 |.inr b=>some (.inr (b.1,b.2.1,b.2.2,a))
noncomputable def Jv(r:(Aqr×Aqu)⊕(Int×Int×Aqu)):Outc:=match r with
 |.inl r=>.ret (.agg (xE r.1)) [pS r.2]
 |.inr r=>.pan (.iface 104 (.agg #[.int .i64 r.1,.int .i64 r.2.1])) [pS r.2.2]
def Au(b:Aqu->Option ((Aqr×Aqu)⊕(Int×Int×Aqu)))(u:Aqu):Option ((Aqr×Aqu)⊕(Int×Int×Aqu)) :=(BR u 2).bind fun c=>if c.2.1=true then (Bv c.2.2).bind fun v=>match v with
  | .inl n=>(C3 n.2).bind fun w=>match w with
   |.inl o=>some (.inl ((Aqr.mk 1 n.1 o.1 ([])),o.2))
   |.inr d=>some (.inr (d.1,d.2.1,d.2.2))
  |.inr e=>some (.inr (e.1,e.2.1,e.2.2)) else (Aw c.2.2 ([40]:List UInt8)).bind fun f=>if f.1=true then (b f.2).bind fun x=>match x with
   | .inl p=>(Ax p.2 ([41]:List UInt8)).bind fun y=>match y with
    |.inl z=>some (.inl (p.1,z))
    |.inr g=>some (.inr (g.1,g.2.1,g.2.2))
   |.inr i=>some (.inr (i.1,i.2.1,i.2.2)) else (Aw f.2 ([105,102]:List UInt8)).bind fun j=>if j.1=true then (Bj b j.2 11 ([([60]:List UInt8),([44]:List UInt8),([44]:List UInt8),([41]:List UInt8)]:List (List UInt8))).bind fun aa=>match aa with
    |.inl q=>some (.inl (q.1,q.2.1))
    |.inr k=>some (.inr (k.1,k.2.1,k.2.2.1)) else (BP j.2 ([109,105,110,32,109,97,120,32,100,111,119,110,32,117,112,32,104,97,108,102]:List UInt8)).bind fun a=>if a.2.1=true then (Bj b a.2.2 (w64 (6+a.1)) ([([44]:List UInt8),([41]:List UInt8)]:List (List UInt8))).bind fun ab=>match ab with
     |.inl s=>some (.inl (s.1,s.2.1))
     |.inr l=>some (.inr (l.1,l.2.1,l.2.2.1)) else (BV a.2.2 ([116,121,112,101,32,111,119,110,101,114,32,114,97,105,108,119,97,121,32,115,104,105,112,112,101,114,32,99,108,97,115,115,32,119,101,105,103,104,116,32,107,109,32,109,105,110,117,116,101,115,32,119,111,114,107,105,110,103,32,99,111,100,101,32,119,111,114,116,104,32,99,111,115,116,32,109,111,110,116,104,32,98,101,103,105,110,32,112,97,114,116,115,32,112,97,114,116]:List UInt8)).bind fun ac=>match ac with
     |.inl t=>some (.inl ((Aqr.mk 2 t.1 (Arr.rep 4 0) ([])),t.2))
     |.inr m=>some (.inr (m.1,m.2.1,m.2.2))
noncomputable def FE(r:(Aqr×Aqu)⊕(Int×Int×Aqu)):Outc:=match r with
 |.inl r=>.ret (.agg (xE r.1)) [pS r.2,.box [.ref 0 0] false]
 |.inr r=>.pan (.iface 104 (.agg #[.int .i64 r.1,.int .i64 r.2.1])) [pS r.2.2,.box [.ref 0 0] false]
def AH(m:Aqu->Option ((Aqr×Aqu)⊕(Int×Int×Aqu)))(c:Int)(d:List Aqn)(e:Int)(f:Int)(g:Int)(i:Arr Int 4)(j:List Aqr):Option ((Int×List Aqn×Int×Int×Int×Arr Int 4×List Aqr)⊕((List Aqn×Int×Int×Int×Arr Int 4×List Aqr)⊕((List Aqn×Int×Int×Int×Arr Int 4×List Aqr)⊕((Aqr×Aqu)⊕(Int×Int×Aqu))))) :=if(c != 0)then (Au m ({ l:=d,end_:=e }:Aqu)).bind fun n=>match n with
  |.inl k=>lt1 ([(Aqr.mk f g i j),k.1]:List Aqr) fun(o:List Aqr)=>(Av k.2).bind fun a=>some (.inl (a.1,a.2.l,a.2.end_,c,0,(Arr.rep 4 0),o))
  |.inr b=>((some (.inr (b.1,b.2.1,b.2.2))).bind fun p=>some (.inr p)).bind fun q=>some (.inr (.inr q)) else some (.inr (.inl (d,e,f,g,i,j)))
def AE(d:Aqu->Option ((Aqr×Aqu)⊕(Int×Int×Aqu)))(e:Aqu):Option ((Aqr×Aqu)⊕(Int×Int×Aqu)) :=(Au d e).bind fun f=>match f with
 | .inl a=>((Av a.2).bind fun b=>(Bf (fun(v:Int×List Aqn×Int×Int×Int×Arr Int 4×List Aqr)=>AH d v.1 v.2.1 v.2.2.1 v.2.2.2.1 v.2.2.2.2.1 v.2.2.2.2.2.1 v.2.2.2.2.2.2) (b.1,b.2.l,b.2.end_,a.1.Op,a.1.N,a.1.Unit,a.1.L)).bind fun x=>match x with
  |.inl (g,i,j,k,m,n)=>some (.inl (g,i,j,k,m,n))
  |.inr z=>some z:Option ((List Aqn×Int×Int×Int×Arr Int 4×List Aqr)⊕((Aqr×Aqu)⊕(Int×Int×Aqu)))).bind fun x=>match x with
  |.inl (o,p,q,s,t,u)=>some (.inl ((Aqr.mk q s t u),({ l:=o,end_:=p }:Aqu)))
  |.inr z=>some z
 |.inr c=>some (.inr (c.1,c.2.1,c.2.2))
noncomputable def IV(r:(Aqr×Aqu)⊕(Int×Int×Aqu)):Outc:=match r with
 |.inl r=>.ret (.agg (xE r.1)) [pS r.2,.box [.ref 0 0] false]
 |.inr r=>.pan (.iface 104 (.agg #[.int .i64 r.1,.int .i64 r.2.1])) [pS r.2.2,.box [.ref 0 0] false]
def A5(c:Aqu->Option ((Aqr×Aqu)⊕(Int×Int×Aqu)))(d:Aqu):Option ((Aqr×Aqu)⊕(Int×Int×Aqu)) :=(AE c d).bind fun e=>match e with
 |.inl b=>some (.inl (b.1,b.2))
 |.inr a=>some (.inr (a.1,a.2.1,a.2.2))
noncomputable def FD(r:(Aqr×Aqu)⊕(Int×Int×Aqu)):Outc:=match r with
 |.inl r=>.ret (.agg (xE r.1)) [pS r.2,.box [.ref 0 0] false]
 |.inr r=>.pan (.iface 104 (.agg #[.int .i64 r.1,.int .i64 r.2.1])) [pS r.2.2,.box [.ref 0 0] false]
def AG(m:Aqu->Option ((Aqr×Aqu)⊕(Int×Int×Aqu)))(c:Int)(d:List Aqn)(e:Int)(f:Int)(g:Int)(i:Arr Int 4)(j:List Aqr):Option ((Int×List Aqn×Int×Int×Int×Arr Int 4×List Aqr)⊕((List Aqn×Int×Int×Int×Arr Int 4×List Aqr)⊕((List Aqn×Int×Int×Int×Arr Int 4×List Aqr)⊕((Aqr×Aqu)⊕(Int×Int×Aqu))))) :=if(c != 0)then (A5 m ({ l:=d,end_:=e }:Aqu)).bind fun n=>match n with
  |.inl k=>lt1 ([(Aqr.mk f g i j),k.1]:List Aqr) fun(o:List Aqr)=>(A4 k.2).bind fun a=>some (.inl (a.1,a.2.l,a.2.end_,c,0,(Arr.rep 4 0),o))
  |.inr b=>((some (.inr (b.1,b.2.1,b.2.2))).bind fun p=>some (.inr p)).bind fun q=>some (.inr (.inr q)) else some (.inr (.inl (d,e,f,g,i,j)))
def AD(d:Aqu->Option ((Aqr×Aqu)⊕(Int×Int×Aqu)))(e:Aqu):Option ((Aqr×Aqu)⊕(Int×Int×Aqu)) :=(A5 d e).bind fun f=>match f with
 | .inl a=>((A4 a.2).bind fun b=>(Bf (fun(v:Int×List Aqn×Int×Int×Int×Arr Int 4×List Aqr)=>AG d v.1 v.2.1 v.2.2.1 v.2.2.2.1 v.2.2.2.2.1 v.2.2.2.2.2.1 v.2.2.2.2.2.2) (b.1,b.2.l,b.2.end_,a.1.Op,a.1.N,a.1.Unit,a.1.L)).bind fun x=>match x with
  |.inl (g,i,j,k,m,n)=>some (.inl (g,i,j,k,m,n))
  |.inr z=>some z:Option ((List Aqn×Int×Int×Int×Arr Int 4×List Aqr)⊕((Aqr×Aqu)⊕(Int×Int×Aqu)))).bind fun x=>match x with
  |.inl (o,p,q,s,t,u)=>some (.inl ((Aqr.mk q s t u),({ l:=o,end_:=p }:Aqu)))
  |.inr z=>some z
 |.inr c=>some (.inr (c.1,c.2.1,c.2.2))
def BQ(rec_:Aqu->Option ((Aqr×Aqu)⊕(Int×Int×Aqu)))(c:Aqu):Option ((Aqr×Aqu)⊕(Int×Int×Aqu)) :=(AD rec_ c).bind fun d=>match d with
 |.inl b=>some (.inl (b.1,b.2))
 |.inr a=>some (.inr (a.1,a.2.1,a.2.2))
def AZ(n:Nat):Aqu->Option ((Aqr×Aqu)⊕(Int×Int×Aqu)):=match n with
 |0=>fun _=>none
 |n+1=>BQ (AZ n)
def EI(a:Aqu):Option ((Aqr×Aqu)⊕(Int×Int×Aqu)):=AZ 18446744073709551616 a
noncomputable def Jp(a:List Aqs)(r:(Aqs×Aqu)⊕(Int×Int×Aqu)):Outc:=match r with
 |.inl r=>.ret (.agg (.str r.1.Name::.sl false (L Ag r.1.When)::i64 r.1.Pay.Op::i64 r.1.Pay.N::(C1 i64 r.1.Pay.Unit.l++[.sl false (L cApi_Expr r.1.Pay.L)]))) [pS r.2,.buf 9 (L Ab a) false]
 |.inr r=>.pan (.iface 104 (.agg #[.int .i64 r.1,.int .i64 r.2.1])) [pS r.2.2,.buf 9 (L Ab a) false]
def Cx(g:Bool)(d:List Aqn)(e:Int)(a:List Aqp):Option ((Bool×List Aqn×Int×List Aqp)⊕((List Aqn×Int×List Aqp)⊕((List Aqn×Int×List Aqp)⊕((Aqs×Aqu)⊕(Int×Int×Aqu))))) :=if g then (BS ({ l:=d,end_:=e }:Aqu) (a.length:Int)).bind fun i=>match i with
  | .inl f=>if GX (a.length+1) 24 then lt1 (a++([f.1]:List Aqp)) fun(j:List Aqp)=>(Aw f.2 ([97,110,100]:List UInt8)).bind fun b=>some (.inl (b.1,b.2.l,b.2.end_,j)) else none
  |.inr c=>((some (.inr (c.1,c.2.1,c.2.2))).bind fun k=>some (.inr k)).bind fun m=>some (.inr (.inr m)) else some (.inr (.inl (d,e,a)))
def BA(m:Aqu)(n:List Aqs):Option ((Aqs×Aqu)⊕(Int×Int×Aqu)) :=(Bq m).bind fun i=>(CT i.2).bind fun o=>match o with
 | .inl b=>(B6 n ({ Name:=b.1,When:=[],Pay:=(Aqr.mk 0 0 (Arr.rep 4 0) ([])) }:Aqs)).bind fun j=>if j.1=true then some (.inr (i.1,161,b.2)) else ((Aw b.2 ([119,104,101,110]:List UInt8)).bind fun c=>(Bf (fun(v:Bool×List Aqn×Int×List Aqp)=>Cx v.1 v.2.1 v.2.2.1 v.2.2.2) (c.1,c.2.l,c.2.end_,[])).bind fun x=>match x with
   |.inl (p,q,s)=>some (.inl (p,q,s))
   |.inr z=>some z:Option ((List Aqn×Int×List Aqp)⊕((Aqs×Aqu)⊕(Int×Int×Aqu)))).bind fun x=>match x with
   | .inl (t,u,w)=>(Ax ({ l:=t,end_:=u }:Aqu) ([112,97,121]:List UInt8)).bind fun y=>match y with
    | .inl aa=>(Bq aa).bind fun k=>(EI k.2).bind fun ab=>match ab with
     | .inl a=>(DO a.1).bind fun ac=>if(decide (ac>24))then some (.inr (k.1,2,a.2)) else (Ax a.2 ([59]:List UInt8)).bind fun ad=>match ad with
       |.inl ae=>some (.inl (({ Name:=j.2.Name,When:=w,Pay:=a.1 }:Aqs),ae))
       |.inr d=>some (.inr (d.1,d.2.1,d.2.2))
     |.inr e=>some (.inr (e.1,e.2.1,e.2.2))
    |.inr f=>some (.inr (f.1,f.2.1,f.2.2))
   |.inr z=>some z
 |.inr g=>some (.inr (g.1,g.2.1,g.2.2))
def Cb(b:List UInt8):Option (Aqt×Int×Int) :=(Eu b).bind fun a=>if(a.2.2 != 0)then some (({ Name:=([]:List UInt8),For:=0,Clauses:=[] }:Aqt),a.2.1,a.2.2) else none
def Dy(f:Int)(g:List Aqn)(i:Int)(a:List Aqs):Option ((Int×List Aqn×Int×List Aqs)⊕((List Aqn×Int×List Aqs)⊕((List Aqn×Int×List Aqs)⊕(Aqt×Int×Int)))) :=(Aw ({ l:=g,end_:=i }:Aqu) ([99,108,97,117,115,101]:List UInt8)).bind fun b=>if b.1=true then if((a.length:Int)==64)then ((some (({ Name:=([]:List UInt8),For:=0,Clauses:=[] }:Aqt),f,2)).bind fun j=>some (.inr j)).bind fun k=>some (.inr (.inr k)) else (BA b.2 a).bind fun m=>match m with
   | .inl d=>if GX (a.length+1) 112 then lt1 (a++([d.1]:List Aqs)) fun(n:List Aqs)=>(Bq d.2).bind fun c=>some (.inl (c.1,c.2.l,c.2.end_,n)) else none
   |.inr e=>((some (({ Name:=([]:List UInt8),For:=0,Clauses:=[] }:Aqt),e.1,e.2.1)).bind fun o=>some (.inr o)).bind fun p=>some (.inr (.inr p)) else some (.inr (.inl (b.2.l,b.2.end_,a)))
def DL(b : List UInt8):Option (Aqt×Int×Int) :=(Eu b).bind fun c=>if(c.2.2 != 0)then none else (Ax ({ l:=c.1,end_:=(b.length:Int) }:Aqu) ([116,97,114,105,102,102]:List UInt8)).bind fun p=>match p with
 | .inl q =>(CT q).bind fun s=>match s with
  | .inl d=>(Ax d.2 ([102,111,114]:List UInt8)).bind fun t=>match t with
   | .inl u=>(BV u ([104,105,114,101,32,100,101,109,117,114,114,97,103,101,32,102,114,101,105,103,104,116,32,114,101,112,97,105,114,32,108,111,115,115,32,99,108,101,97,110,105,110,103]:List UInt8)).bind fun w=>match w with
    | .inl e=>(Ax e.2 ([123]:List UInt8)).bind fun y=>match y with
     | .inl aa=>((Bq aa).bind fun a=>(Bf (fun(v:Int×List Aqn×Int×List Aqs)=>Dy v.1 v.2.1 v.2.2.1 v.2.2.2) (a.1,a.2.l,a.2.end_,[])).bind fun x=>match x with
      |.inl (ab,ac,ad)=>some (.inl (ab,ac,ad))
      |.inr z=>some z:Option ((List Aqn×Int×List Aqs)⊕(Aqt×Int×Int))).bind fun x=>match x with
      | .inl (ae,af,ag)=>(Ax ({ l:=ae,end_:=af }:Aqu) ([125]:List UInt8)).bind fun ah=>match ah with
       | .inl f=>(if(decide ((f.l.length:Int)>0))then (Bz f).bind fun ai=>match ai with
         |.inl ak=>some (.inl ())
         |.inr g=>(some (({ Name:=([]:List UInt8),For:=0,Clauses:=[] }:Aqt),g.1,g.2.1)).bind fun aj=>some (.inr aj) else some (.inl ()):Option ((Unit)⊕(Aqt×Int×Int))).bind fun x=>match x with
        |.inl ()=>some (({ Name:=d.1,For:=(w64 (1+e.1)),Clauses:=ag }:Aqt),0,0)
        |.inr z=>some z
       |.inr i=>some (({ Name:=([]:List UInt8),For:=0,Clauses:=[] }:Aqt),i.1,i.2.1)
      |.inr z=>some z
     |.inr j=>some (({ Name:=([]:List UInt8),For:=0,Clauses:=[] }:Aqt),j.1,j.2.1)
    |.inr k=>some (({ Name:=([]:List UInt8),For:=0,Clauses:=[] }:Aqt),k.1,k.2.1)
   |.inr m=>some (({ Name:=([]:List UInt8),For:=0,Clauses:=[] }:Aqt),m.1,m.2.1)
  |.inr n=>some (({ Name:=([]:List UInt8),For:=0,Clauses:=[] }:Aqt),n.1,n.2.1)
 |.inr o=>some (({ Name:=([]:List UInt8),For:=0,Clauses:=[] }:Aqt),o.1,o.2.1)
def Dg(a:List UInt8):Option (Aqt×Int×Int):=match Cb a with
|some r=>some r
|none=>DL a
def FH(a:Int)(b:Int):Option (Bool) :=(if(decide (a≥0))then if(decide (a<16))then if(decide (b≥1))then some (decide (b<=6)) else some false else some false else some false:Option (Bool)).bind fun c=>some c
def Hh(a:Int):Option (Bool) :=some (a != a)
def DJ(a:Int)(b:Int):Option (Int) :=(Hh a).bind fun d=>(Hh b).bind fun c=>if d then if c then some 0 else some (-1) else if c then some 1 else if(decide (a<b))then some (-1) else if(decide (a>b))then some 1 else some 0
def Iu(b:List Int)(a:Int):Option ((Int)⊕((Unit)⊕((Unit)⊕(Int)))) :=if (decide (a<(b.length:Int)))then if InR a b.length then if(nth b a.toNat != 0)then ((some (nth b a.toNat)).bind fun c=>some (.inr c)).bind fun d=>some (.inr (.inr d)) else some (.inl (w64 (a+1))) else none else some (.inr (.inl ()))
def Ki(a:List Int):Option (Int) :=((Bf (fun(v:Int)=>Iu a v) 0).bind fun x=>match x with
 |.inl ()=>some (.inl ())
 |.inr z=>some z:Option ((Unit)⊕(Int))).bind fun x=>match x with
 |.inl ()=>some 0
 |.inr z=>some z
def Cl(a:Aqy)(b:Aqy):Option (Int) :=(DJ a.Zo.Zh b.Zo.Zh).bind fun c=>(DJ a.Zn b.Zn).bind fun d=>(DJ a.Ref.No b.Ref.No).bind fun e=>(Ki ([c,d,e]:List Int)).bind fun f=>some f
def EN(a:Int):Option (Int) :=(if(a==3)then some (a==3) else some (a==4):Option (Bool)).bind fun b=>if b then some 1 else if(a==5)then some 2 else some 3
def EQ(a:Int):Option (Int×Int) :=(if(a==1)then some (a==1) else if(a==13)then some (a==13) else if(a==14)then some (a==14) else some (a==15):Option (Bool)).bind fun b=>if b then some (1,9007199254740992) else if(a==2)then some (1,15) else if(a==12)then some (2,9007199254740992) else some (0,0)
def Hn(a:Int):Option (Int×Int) :=(if(a==1)then some (a==1) else some (a==2):Option (Bool)).bind fun b=>if b then some (0,1) else if(a==12)then some (1,1) else (if(a==13)then some (a==13) else some (a==15):Option (Bool)).bind fun c=>if c then some (1,0) else (if(a==14)then some (a==14) else some (a==16):Option (Bool)).bind fun d=>if d then some (0,0) else some (2,1)
def Io(a:Aqz):Option (Bool) :=(if(decide (a.Op<1))then some true else some (decide (a.Op≥17)):Option (Bool)).bind fun c=>if c then some false else (EQ a.Op).bind fun b=>(if(decide (b.1>0))then some 0 else some a.N:Option (Int)).bind fun d=>(if(decide (b.1>1))then some 0 else some a.M:Option (Int)).bind fun e=>(if((d==0)&&(e==0))then if(decide ((Q9 a.N a.M)≥0))then some (decide ((QC a.N a.M)<=b.2)) else some false else some false:Option (Bool)).bind fun f=>some f
def Dc(b:List Aqz)(c:Aqz->Option (Bool))(a:Int):Option ((Int)⊕((Unit)⊕((Unit)⊕(Int)))) :=if (decide (a<(b.length:Int)))then if InR a b.length then (c (nth b a.toNat)).bind fun d=>if d then ((some a).bind fun e=>some (.inr e)).bind fun f=>some (.inr (.inr f)) else some (.inl (w64 (a+1))) else none else some (.inr (.inl ()))
def DS(a:List Aqz)(b:Aqz->Option (Bool)):Option (Int) :=((Bf (fun(v:Int)=>Dc a b v) 0).bind fun x=>match x with
 |.inl ()=>some (.inl ())
 |.inr z=>some z:Option ((Unit)⊕(Int))).bind fun x=>match x with
 |.inl ()=>some (-1)
 |.inr z=>some z
def CD(a:List Aqz)(b:Aqz->Option (Bool)):Option (Bool) :=(DS a b).bind fun c=>some (decide (c≥0))
def FC(a:Aqz):Option (Bool) :=(Io a).bind fun b=>some (!b)
def MB(b:UInt64)(c:UInt64):Option (UInt64×UInt64) :=(Nv b c).bind fun a=>some (a.1,a.2)
def En(a:Int)(b:List Int):Option ((Int×List Int)⊕(List Int)) :=if (decide (a<(b.length:Int)))then if InB a b.length then if InB a b.length then lt1 (w64 (a+(((min (b.take a.toNat).length (b.length-a.toNat)):Nat):Int))) fun(c:Int)=>lt1 (ovl b ((b.take a.toNat).take (min (b.take a.toNat).length (b.length-a.toNat))) a.toNat) fun(d:List Int)=>some (.inl (c,d)) else none else none else some (.inr b)
def E9(b:List Int)(d:Int):Option (List Int) :=if(decide (d<0))then none else (MB (UInt64.ofInt (b.length:Int)) (UInt64.ofInt d)).bind fun a=>(if(decide (a.1>(0:UInt64)))then some true else some (decide (a.2>(9223372036854775807:UInt64))):Option (Bool)).bind fun e=>if e then none else if Mk (w64 (a.2.toNat:Int)) (w64 (a.2.toNat:Int)) 8 then lt1 (List.replicate ((w64 (a.2.toNat:Int)).toNat) 0) fun(c:List Int)=>lt1 (((min b.length c.length):Nat):Int) fun(f:Int)=>lt1 (ovl c (b.take (min b.length c.length)) 0) fun(g:List Int)=>((Bf (fun(v:Int×List Int)=>En v.1 v.2) (f,g)).bind fun i=>some i:Option (List Int)).bind fun j=>some j else none
def EP(a:List Aqs):Option (List Aqs) :=if GX (0+a.length) 112 then lt1 (([]:List Aqs)++a) fun(b:List Aqs)=>some b else none
def DW(b:UInt8)(a:List UInt8):Option ((List UInt8)⊕(List UInt8)) :=(if(decide ((a.length:Int)>0))then if InR (w64 ((a.length:Int)-1)) a.length then some ((nth a ((w64 ((a.length:Int)-1)).toNat))==b) else none else some false:Option (Bool)).bind fun c=>if c then if InB (w64 ((a.length:Int)-1)) a.length then lt1 (a.take ((w64 ((a.length:Int)-1)).toNat)) fun(d:List UInt8)=>some (.inl d) else none else some (.inr a)
def EW(a:List UInt8)(b:UInt8):Option (List UInt8) :=((Bf (fun(v:List UInt8)=>DW b v) a).bind fun c=>some c:Option (List UInt8)).bind fun d=>some d
def Es(b:UInt8)(a:List UInt8):Option ((List UInt8)⊕(List UInt8)) :=(if(decide ((a.length:Int)>0))then if InR 0 a.length then some ((nth a 0)==b) else none else some false:Option (Bool)).bind fun c=>if c then if InB 1 a.length then lt1 ((a.drop 1).take (a.length-1)) fun(d:List UInt8)=>some (.inl d) else none else some (.inr a)
def Fy(a:List UInt8)(b:UInt8):Option (List UInt8) :=((Bf (fun(v:List UInt8)=>Es b v) a).bind fun c=>some c:Option (List UInt8)).bind fun d=>some d
def E4(b:List UInt8)(a:Int)(c:Arr Bool 256):Option ((Int×Arr Bool 256)⊕((Arr Bool 256)⊕((Arr Bool 256)⊕(Arr Bool 256×Bool)))) :=if (decide (a<(b.length:Int)))then if InR a b.length then lt1 (nth b a.toNat) fun(d:UInt8)=>if(decide (d≥(128:UInt8)))then ((some (c,false)).bind fun e=>some (.inr e)).bind fun f=>some (.inr (.inr f)) else if InR (d.toNat:Int) 256 then lt1 (c.set d.toNat true) fun(g:Arr Bool 256)=>some (.inl ((w64 (a+1)),g)) else none else none else some (.inr (.inl c))
def C6(a:List UInt8):Option (Arr Bool 256×Bool) :=((Bf (fun(v:Int×Arr Bool 256)=>E4 a v.1 v.2) (0,(Arr.rep 256 false))).bind fun x=>match x with
 |.inl b=>some (.inl b)
 |.inr z=>some z:Option ((Arr Bool 256)⊕(Arr Bool 256×Bool))).bind fun x=>match x with
 |.inl c=>some (c,true)
 |.inr z=>some z
def B9(a:Arr Bool 256)(b:UInt8):Option (Bool×Arr Bool 256) :=if InR (b.toNat:Int) 256 then some ((a.get b.toNat),a) else none
def CI(a:List UInt8)(c:Arr Bool 256):Option ((List UInt8×Arr Bool 256)⊕(List UInt8×Arr Bool 256)) :=if (decide ((a.length:Int)>0))then if InR (w64 ((a.length:Int)-1)) a.length then (B9 c (nth a ((w64 ((a.length:Int)-1)).toNat))).bind fun b=>if(!b.1)then some (.inr (a,b.2)) else if InB (w64 ((a.length:Int)-1)) a.length then lt1 (a.take ((w64 ((a.length:Int)-1)).toNat)) fun(d:List UInt8)=>some (.inl (d,b.2)) else none else none else some (.inr (a,c))
def CC(a:List UInt8)(b:Arr Bool 256):Option (List UInt8×Arr Bool 256) :=((Bf (fun(v:List UInt8×Arr Bool 256)=>CI v.1 v.2) (a,b)).bind fun(c,d)=>some (c,d):Option (List UInt8×Arr Bool 256)).bind fun(e,f)=>some (e,f)
def CU(a:List UInt8)(c:Arr Bool 256):Option ((List UInt8×Arr Bool 256)⊕(List UInt8×Arr Bool 256)) :=if (decide ((a.length:Int)>0))then if InR 0 a.length then (B9 c (nth a 0)).bind fun b=>if(!b.1)then some (.inr (a,b.2)) else if InB 1 a.length then lt1 ((a.drop 1).take (a.length-1)) fun(d:List UInt8)=>some (.inl (d,b.2)) else none else none else some (.inr (a,c))
def CK(a:List UInt8)(b:Arr Bool 256):Option (List UInt8×Arr Bool 256) :=((Bf (fun(v:List UInt8×Arr Bool 256)=>CU v.1 v.2) (a,b)).bind fun(c,d)=>some (c,d):Option (List UInt8×Arr Bool 256)).bind fun(e,f)=>some (e,f)
def I6(b:List UInt8)(a:List UInt8):Option (List UInt8) :=(if(b==([]:List UInt8))then some true else some (a==([]:List UInt8)):Option (Bool)).bind fun e=>if e then some b else (if((a.length:Int)==1)then if InR 0 a.length then some (decide ((nth a 0)<(128:UInt8))) else none else some false:Option (Bool)).bind fun f=>if f then if InR 0 a.length then (EW b (nth a 0)).bind fun g=>if InR 0 a.length then (Fy g (nth a 0)).bind fun i=>some i else none else none else (C6 a).bind fun c=>if c.2=true then (CC b c.1).bind fun d=>(CK d.1 d.2).bind fun j=>some j.1 else none
def GQ(a:List UInt8):Option (Bool) :=(if (decide ((a.length:Int)<=32))then if (!(a==([]:List UInt8)))then if InR 0 a.length then if (decide ((nth a 0)≥(97:UInt8)))then if InR 0 a.length then if(decide ((nth a 0)<=(122:UInt8)))then (I6 a ([97,98,99,100,101,102,103,104,105,106,107,108,109,110,111,112,113,114,115,116,117,118,119,120,121,122,48,49,50,51,52,53,54,55,56,57]:List UInt8)).bind fun b=>some (b==([]:List UInt8)) else some false else none else some false else none else some false else some false:Option (Bool)).bind fun c=>some c
def DE(c:Arr Int 4)(a:Int)(b:Si):Option ((Int×Si)⊕(Si)) :=if(decide (a<4))then if InR a 4 then lt1 (up2 b (c.get a.toNat) (some (w64 (((b (c.get a.toNat)).getD 0)+1)))) fun(d:Si)=>some (.inl ((w64 (a+1)),d)) else none else some (.inr b)
def BE(b:Arr Int 4):Option (Bool) :=((Bf (fun(v:Int×Si)=>DE b v.1 v.2) (0,no2)).bind fun c=>some c:Option (Si)).bind fun a=>(if((w64 ((w64 (((a 0).getD 0)+((a 1).getD 0)))+((a (-1)).getD 0)))==4)=true then if(decide (((a 1).getD 0)<=1))then some (decide (((a (-1)).getD 0)<=1)) else some false else some false:Option (Bool)).bind fun d=>some d
def Gr(a:Aqr->Option (Bool))(b:Aqr):Option (Bool) :=(a b).bind fun c=>some (!c)
def CZ(b:List Aqr)(c:Aqr->Option (Bool))(a:Int):Option ((Int)⊕((Unit)⊕((Unit)⊕(Int)))) :=if (decide (a<(b.length:Int)))then if InR a b.length then (c (nth b a.toNat)).bind fun d=>if d then ((some a).bind fun e=>some (.inr e)).bind fun f=>some (.inr (.inr f)) else some (.inl (w64 (a+1))) else none else some (.inr (.inl ()))
def DT(a:List Aqr)(b:Aqr->Option (Bool)):Option (Int) :=((Bf (fun(v:Int)=>CZ a b v) 0).bind fun x=>match x with
 |.inl ()=>some (.inl ())
 |.inr z=>some z:Option ((Unit)⊕(Int))).bind fun x=>match x with
 |.inl ()=>some (-1)
 |.inr z=>some z
def Cv(a:List Aqr)(b:Aqr->Option (Bool)):Option (Bool) :=(DT a b).bind fun c=>some (decide (c≥0))
def EO(rec_:Aqr->Option (Bool))(a:Aqr):Option (Bool) :=((if(a.Op==1)then (some (.inl (1099511627776,0))).bind fun b=>some (.inr b) else if(a.Op==2)then (some (.inl (15,0))).bind fun c=>some (.inr c) else if(a.Op==11)then some (.inl 4) else some (.inl 2):Option ((Int)⊕((Int×Int)⊕(Bool)))).bind fun x=>match x with
 | .inl d=>(if(decide (a.Op<1))then some true else some (decide (a.Op>11)):Option (Bool)).bind fun e=>if e then (some false).bind fun f=>some (.inr f) else some (.inl (0,d))
 |.inr z=>some z:Option ((Int×Int)⊕(Bool))).bind fun x=>match x with
 | .inl (g,i)=>(if(decide (a.N<0))then some true else if(decide (a.N>g))then some true else if((a.L.length:Int) != i)then some true else (BE a.Unit).bind fun j=>if(!j)then some true else if(a.Op != 1)then some (!(a.Unit==(⟨[0,0,0,0],rfl⟩:Arr Int 4))) else some false:Option (Bool)).bind fun k=>if k then some false else (Cv a.L (Gr rec_)).bind fun l=>some (!l)
 |.inr z=>some z
def EM(n:Nat):Aqr->Option (Bool):=match n with
 |0=>fun _=>none
 |n+1=>EO (EM n)
def MZ(a:Aqr):Option (Bool):=EM 18446744073709551616 a
def EU(b:List Aqp)(a:Int):Option ((Int)⊕((Unit)⊕((Unit)⊕((Bool×Bool×Nl)⊕((Bool×Bool×Int×Nl)⊕((Bool×Bool)⊕((Bool×Bool)⊕(Int)))))))) :=if (decide (a<(b.length:Int)))then if InR a b.length then lt1 ((nth b a.toNat).Attr) fun(c:Int)=>lt1 ((nth b a.toNat).Low) fun(d:Int)=>lt1 ((nth b a.toNat).High) fun(e:Int)=>(if(decide (c<0))then some true else if(decide (c≥16))then some true else if(decide ((Q9 d e)<0))then some true else some (decide ((QC d e)>1099511627776)):Option (Bool)).bind fun f=>if f then (((((some 1).bind fun g=>some (.inr g)).bind fun i=>some (.inr (.inr i))).bind fun j=>some (.inr j)).bind fun k=>some (.inr k)).bind fun l=>some (.inr (.inr l)) else some (.inl (w64 (a+1))) else none else some (.inr (.inl ()))
def Gz(b:Aqt)(d:Bool)(e:Bool)(a:Int)(f:Nl):Option ((Bool×Bool×Int×Nl)⊕((Bool×Bool)⊕((Bool×Bool)⊕(Int)))) :=if (decide (a<(b.Clauses.length:Int)))then (if InR a b.Clauses.length then lt1 ((nth b.Clauses a.toNat).Name) fun(c:List UInt8)=>lt1 ((nth b.Clauses a.toNat).When) fun(g:List Aqp)=>lt1 (((nth b.Clauses a.toNat).Pay).Op) fun(i:Int)=>lt1 (((nth b.Clauses a.toNat).Pay).N) fun(j:Int)=>lt1 (((nth b.Clauses a.toNat).Pay).Unit) fun(k:Arr Int 4)=>lt1 (((nth b.Clauses a.toNat).Pay).L) fun(l:List Aqr)=>((GQ c).bind fun m=>if(!m)then some true else (MZ (Aqr.mk i j k l)).bind fun n=>some (!n):Option (Bool)).bind fun o=>if o then (((some 1).bind fun p=>some (.inr p)).bind fun q=>some (.inr (.inr q))).bind fun s=>some (.inr s) else ((Bf (fun(v:Int)=>EU g v) 0).bind fun x=>match x with
    |.inl ()=>some (.inl ())
    |.inr z=>some z:Option ((Unit)⊕((Bool×Bool×Nl)⊕((Bool×Bool×Int×Nl)⊕((Bool×Bool)⊕((Bool×Bool)⊕(Int))))))).bind fun x=>match x with
    | .inl ()=>(if d then some true else (Em c).bind fun t=>if t then some true else some ((f c).getD false):Option (Bool)).bind fun u=>(if e then some true else if(decide ((g.length:Int)>8))then some true else (DO (Aqr.mk i j k l)).bind fun w=>some (decide (w>24)):Option (Bool)).bind fun y=>lt1 (up2 f c (some true)) fun(aa:Nl)=>some (.inl (u,y,aa))
    |.inr z=>some z else none:Option ((Bool×Bool×Nl)⊕((Bool×Bool×Int×Nl)⊕((Bool×Bool)⊕((Bool×Bool)⊕(Int)))))).bind fun x=>match x with
  |.inl (ab,ac,ad)=>some (.inl (ab,ac,(w64 (a+1)),ad))
  |.inr z=>some z else some (.inr (.inl (d,e)))
def Dh(a:Aqt):Option (Int) :=((GQ a.Name).bind fun b=>if(!b)then some true else if(decide (a.For<1))then some true else some (decide (a.For>6)):Option (Bool)).bind fun c=>if c then some 1 else (Em a.Name).bind fun d=>lt1 (decide ((a.Clauses.length:Int)>64)) fun(e:Bool)=>((Bf (fun(v:Bool×Bool×Int×Nl)=>Gz a v.1 v.2.1 v.2.2.1 v.2.2.2) (d,e,0,no2)).bind fun x=>match x with
  |.inl (f,g)=>some (.inl (f,g))
  |.inr z=>some z:Option ((Bool×Bool)⊕(Int))).bind fun x=>match x with
  | .inl (i,j)=>if i then some 161 else if j then some 2 else some 0
  |.inr z=>some z
def Ex(b:List Int)(c:Int)(a:Int):Option ((Int)⊕((Unit)⊕((Unit)⊕(Int)))) :=if (decide (a<(b.length:Int)))then if InR a b.length then if(c==nth b a.toNat)then ((some a).bind fun d=>some (.inr d)).bind fun e=>some (.inr (.inr e)) else some (.inl (w64 (a+1))) else none else some (.inr (.inl ()))
def C9(a:List Int)(b:Int):Option (Int) :=((Bf (fun(v:Int)=>Ex a b v) 0).bind fun x=>match x with
 |.inl ()=>some (.inl ())
 |.inr z=>some z:Option ((Unit)⊕(Int))).bind fun x=>match x with
 |.inl ()=>some (-1)
 |.inr z=>some z
def EH(s1_6377:List Aqp)(s2_6378:List Aqp)(a:Int):Option ((Int)⊕((Unit)⊕((Unit)⊕(Bool)))) :=if (decide (a<(s1_6377.length:Int)))then if InR a s1_6377.length then if InR a s2_6378.length then lt1 (!(((nth s1_6377 a.toNat).Attr==(nth s2_6378 a.toNat).Attr)&&(((nth s1_6377 a.toNat).Low==(nth s2_6378 a.toNat).Low)&&((nth s1_6377 a.toNat).High==(nth s2_6378 a.toNat).High)))) fun(b:Bool)=>if b then ((some false).bind fun c=>some (.inr c)).bind fun d=>some (.inr (.inr d)) else some (.inl (w64 (a+1))) else none else none else some (.inr (.inl ()))
def ER(s1_6377:List Aqp)(s2_6378:List Aqp):Option (Bool) :=if((s1_6377.length:Int) != (s2_6378.length:Int))then some false else ((Bf (fun(v:Int)=>EH s1_6377 s2_6378 v) 0).bind fun x=>match x with
  |.inl ()=>some (.inl ())
  |.inr z=>some z:Option ((Unit)⊕(Bool))).bind fun x=>match x with
  |.inl ()=>some true
  |.inr z=>some z
def H5(a:List (Arr Int 4)):Option (Arr Int 4×Bool) :=if InR 0 a.length then if InR 0 a.length then if InR 1 a.length then some (nth a 0,(nth a 0==nth a 1)) else none else none else none
def H6(a:List (Arr Int 4)):Option (Arr Int 4×Bool) :=(if InR 2 a.length then if InR 0 a.length then if InR 1 a.length then if (nth a 0==nth a 1)then if InR 2 a.length then if InR 3 a.length then some (nth a 2==nth a 3) else none else none else some false else none else none else none:Option (Bool)).bind fun b=>some (nth a 2,b)
def FN(b : List (Arr Int 4))(e:Int)(a:Int)(d:Arr Int 4):Option ((Int×Arr Int 4)⊕((Arr Int 4)⊕((Arr Int 4)⊕(Arr Int 4×Bool)))) :=if (decide (a<4))then if InR 0 b.length then if InR a 4 then if InR 1 b.length then if InR a 4 then if InR a 4 then lt1 (d.set a.toNat (w64 (((nth b 0).get a.toNat)+(w64 (e*((nth b 1).get a.toNat)))))) fun(c:Arr Int 4)=>(if InR a 4 then if(decide ((c.get a.toNat)<(-3)))then some true else if InR a 4 then some (decide ((c.get a.toNat)>3)) else none else none:Option (Bool)).bind fun f=>if f then lt1 (⟨[0,0,0,0],rfl⟩:Arr Int 4) fun(g:Arr Int 4)=>((some (g,false)).bind fun i=>some (.inr i)).bind fun j=>some (.inr (.inr j)) else some (.inl ((w64 (a+1)),c)) else none else none else none else none else none else some (.inr (.inl d))
def G2(a:List (Arr Int 4))(b:Int):Option (Arr Int 4×Bool) :=((Bf (fun(v:Int×Arr Int 4)=>FN a b v.1 v.2) (0,(Arr.rep 4 0))).bind fun x=>match x with
 |.inl c=>some (.inl c)
 |.inr z=>some z:Option ((Arr Int 4)⊕(Arr Int 4×Bool))).bind fun x=>match x with
 |.inl d=>some (d,true)
 |.inr z=>some z
def GJ(a:Int):Option (Int) :=some a
def ttype_rules  : Option (JD) :=(GJ 1).bind fun a=>(GJ (-1)).bind fun b=>(GJ (-1)).bind fun c=>(GJ (-1)).bind fun d=>lt1 (up2 (up2 (up2 (up2 (up2 (up2 (up2 (up2 (up2 no2 3 (some (⟨119,0⟩))) 4 (some (⟨119,0⟩))) 6 (some (⟨119,0⟩))) 7 (some (⟨119,0⟩))) 5 (some (⟨165,a⟩))) 8 (some (⟨165,b⟩))) 9 (some (⟨165,c⟩))) 10 (some (⟨165,d⟩))) 11 (some (⟨120,0⟩))) fun(e:JD)=>some e
def ttype_attributes  : Option ((Arr Int 4)×(Arr Int 4)×(Arr Int 4)×(Arr Int 4)×(Arr Int 4)×(Arr Int 4)×(Arr Int 4)×(Arr Int 4)×(Arr Int 4)×(Arr Int 4)×(Arr Int 4)×(Arr Int 4)×(Arr Int 4)×(Arr Int 4)×(Arr Int 4)×(Arr Int 4)) :=lt1 (⟨[0,0,0,1],rfl⟩:Arr Int 4) fun(c:Arr Int 4)=>lt1 (⟨[0,0,1,0],rfl⟩:Arr Int 4) fun(d:Arr Int 4)=>lt1 (⟨[0,1,0,0],rfl⟩:Arr Int 4) fun(a:Arr Int 4)=>lt1 (⟨[1,0,0,0],rfl⟩:Arr Int 4) fun(b:Arr Int 4)=>some ((Arr.rep 4 0),(Arr.rep 4 0),(Arr.rep 4 0),(Arr.rep 4 0),(Arr.rep 4 0),c,d,a,a,(Arr.rep 4 0),b,b,(Arr.rep 4 0),(Arr.rep 4 0),(Arr.rep 4 0),(Arr.rep 4 0))
def H7(e:JD)(b:Aqr)(rec_:JD->Aqr->Option (Arr Int 4×Bool))(a:Int)(c:List (Arr Int 4)):Option ((Int×List (Arr Int 4))⊕((List (Arr Int 4))⊕((List (Arr Int 4))⊕(Arr Int 4×Bool)))) :=if (decide (a<(b.L.length:Int)))then if InR a b.L.length then lt1 ((nth b.L a.toNat).Op) fun(f:Int)=>lt1 ((nth b.L a.toNat).N) fun(g:Int)=>lt1 ((nth b.L a.toNat).Unit) fun(i:Arr Int 4)=>lt1 ((nth b.L a.toNat).L) fun(j:List Aqr)=>(rec_ e (Aqr.mk f g i j)).bind fun d=>if(!d.2)then lt1 (⟨[0,0,0,0],rfl⟩:Arr Int 4) fun(k:Arr Int 4)=>((some (k,false)).bind fun l=>some (.inr l)).bind fun m=>some (.inr (.inr m)) else if GX (c.length+1) 32 then lt1 (c++([d.1]:List (Arr Int 4))) fun(n:List (Arr Int 4))=>some (.inl ((w64 (a+1)),n)) else none else none else some (.inr (.inl c))
def Hg(rec_:JD->Aqr->Option (Arr Int 4×Bool))(c:JD)(b:Aqr):Option (Arr Int 4×Bool) :=if(b.Op==1)then some (b.Unit,true) else if(b.Op==2)then ttype_attributes.bind fun a=>if InR b.N 16 then lt1 (nth [a.1,a.2.1,a.2.2.1,a.2.2.2.1,a.2.2.2.2.1,a.2.2.2.2.2.1,a.2.2.2.2.2.2.1,a.2.2.2.2.2.2.2.1,a.2.2.2.2.2.2.2.2.1,a.2.2.2.2.2.2.2.2.2.1,a.2.2.2.2.2.2.2.2.2.2.1,a.2.2.2.2.2.2.2.2.2.2.2.1,a.2.2.2.2.2.2.2.2.2.2.2.2.1,a.2.2.2.2.2.2.2.2.2.2.2.2.2.1,a.2.2.2.2.2.2.2.2.2.2.2.2.2.2.1,a.2.2.2.2.2.2.2.2.2.2.2.2.2.2.2] b.N.toNat) fun(i:Arr Int 4)=>some (i,true) else none else ((Bf (fun(v:Int×List (Arr Int 4))=>H7 c b rec_ v.1 v.2) (0,[])).bind fun x=>match x with
   |.inl j=>some (.inl j)
   |.inr z=>some z:Option ((List (Arr Int 4))⊕(Arr Int 4×Bool))).bind fun x=>match x with
   | .inl d=>if((c b.Op).getD ⟨0,0⟩).k=119 then (H5 d).bind fun e=>if(!e.2)then lt1 (⟨[0,0,0,0],rfl⟩:Arr Int 4) fun(l:Arr Int 4)=>some (l,false) else some (e.1,true) else if((c b.Op).getD ⟨0,0⟩).k=120 then (H6 d).bind fun f=>if(!f.2)then lt1 (⟨[0,0,0,0],rfl⟩:Arr Int 4) fun(m:Arr Int 4)=>some (m,false) else some (f.1,true) else if((c b.Op).getD ⟨0,0⟩).k=165 then (G2 d (((c b.Op).getD ⟨0,0⟩).n)).bind fun g=>if(!g.2)then lt1 (⟨[0,0,0,0],rfl⟩:Arr Int 4) fun(o:Arr Int 4)=>some (o,false) else some (g.1,true) else none
   |.inr z=>some z
def Hm(n:Nat):JD->Aqr->Option (Arr Int 4×Bool):=match n with
 |0=>fun _ _=>none
 |n+1=>Hg (Hm n)
def Rk(a:JD)(b:Aqr):Option (Arr Int 4×Bool):=Hm 18446744073709551616 a b
def GV(b:Aqt)(d:JD)(a:Int):Option ((Int)⊕((Unit)⊕((Unit)⊕(Int×Int)))) :=if (decide (a<(b.Clauses.length:Int)))then if InR a b.Clauses.length then lt1 ((nth b.Clauses a.toNat).Name) fun(m:List UInt8)=>lt1 ((nth b.Clauses a.toNat).When) fun(n:List Aqp)=>lt1 (((nth b.Clauses a.toNat).Pay).Op) fun(e:Int)=>lt1 (((nth b.Clauses a.toNat).Pay).N) fun(f:Int)=>lt1 (((nth b.Clauses a.toNat).Pay).Unit) fun(g:Arr Int 4)=>lt1 (((nth b.Clauses a.toNat).Pay).L) fun(i:List Aqr)=>(Rk d (Aqr.mk e f g i)).bind fun c=>(if(!c.2)then some true else some (!(c.1==(⟨[1,0,0,0],rfl⟩:Arr Int 4))):Option (Bool)).bind fun j=>if j then ((some (a,170)).bind fun k=>some (.inr k)).bind fun l=>some (.inr (.inr l)) else some (.inl (w64 (a+1))) else none else some (.inr (.inl ()))
def HG(a:Aqt):Option (Int×Int) :=(Dh a).bind fun b=>if(b != 0)then some (0,b) else ttype_rules.bind fun c=>((Bf (fun(v:Int)=>GV a c v) 0).bind fun x=>match x with
  |.inl ()=>some (.inl ())
  |.inr z=>some z:Option ((Unit)⊕(Int×Int))).bind fun x=>match x with
  |.inl ()=>some (0,0)
  |.inr z=>some z
def A2(c:Int)(a:Int)(b:List Aqy):Option ((Int×List Aqy)⊕(List Aqy)) :=(if(decide (a>c))then if InR a b.length then if InR (w64 (a-1)) b.length then (Cl ({ Ref:=(nth b a.toNat).Ref,By:=(nth b a.toNat).By,Zn:=(nth b a.toNat).Zn,Zo:=(nth b a.toNat).Zo }:Aqy) ({ Ref:=(nth b ((w64 (a-1)).toNat)).Ref,By:=(nth b ((w64 (a-1)).toNat)).By,Zn:=(nth b ((w64 (a-1)).toNat)).Zn,Zo:=(nth b ((w64 (a-1)).toNat)).Zo }:Aqy)).bind fun d=>some (decide (d<0)) else none else none else some false:Option (Bool)).bind fun e=>if e = true then if InR (w64 (a-1)) b.length then if InR a b.length then if InR a b.length then if InR (w64 (a-1)) ((b.set a.toNat ({ Ref:=(nth b ((w64 (a-1)).toNat)).Ref,By:=(nth b ((w64 (a-1)).toNat)).By,Zn:=(nth b ((w64 (a-1)).toNat)).Zn,Zo:=(nth b ((w64 (a-1)).toNat)).Zo }:Aqy)).length)then lt1 ((b.set a.toNat ({ Ref:=(nth b ((w64 (a-1)).toNat)).Ref,By:=(nth b ((w64 (a-1)).toNat)).By,Zn:=(nth b ((w64 (a-1)).toNat)).Zn,Zo:=(nth b ((w64 (a-1)).toNat)).Zo }:Aqy)).set ((w64 (a-1)).toNat) ({ Ref:=(nth b a.toNat).Ref,By:=(nth b a.toNat).By,Zn:=(nth b a.toNat).Zn,Zo:=(nth b a.toNat).Zo }:Aqy)) fun(f:List Aqy)=>some (.inl ((w64 (a-1)),f)) else none else none else none else none else some (.inr b)
def Ba(c:Int)(d:Int)(a:Int)(b:List Aqy):Option ((Int×List Aqy)⊕(List Aqy)) :=if(decide (a<d))then ((Bf (fun(v:Int×List Aqy)=>A2 c v.1 v.2) (a,b)).bind fun e=>some e:Option (List Aqy)).bind fun f=>some (.inl ((w64 (a+1)),f)) else some (.inr b)
def Az(b:List Aqy)(a:Int)(c:Int):Option (List Aqy) :=(Bf (fun(v:Int×List Aqy)=>Ba a c v.1 v.2) ((w64 (a+1)),b)).bind fun d=>some d
def AM(e:Int)(c:Int)(a:Int)(b:List Aqy):Option ((Int×Int×List Aqy)⊕(Int×List Aqy)) :=if(decide (a<=e))then (Az b c a).bind fun d=>if b.length=d.length then some (.inl (a,(w64 (a+20)),d)) else none else some (.inr (c,b))
def C2(a:Int)(b:Int):Option ((Unit)⊕(Unit)) :=if(decide ((w64 (2*b))<=a))then none else some (.inr ())
def AO(b:Int)(a:Int):Option ((Int)⊕(Unit)) :=if(decide (a<b))then ((Bf (fun(_:Unit)=>C2 b a ) ()).bind fun()=>some ():Option (Unit)).bind fun()=>(if(decide ((w64 (0+a))<b))then none else some ():Option (Unit)).bind fun()=>some (.inl (w64 (a*2))) else some (.inr ())
def BU(d:List Aqy)(a:Int):Option (List Aqy) :=((Bf (fun(v:Int×Int×List Aqy)=>AM a v.1 v.2.1 v.2.2) (0,20,d)).bind fun(e,f)=>some (e,f):Option (Int×List Aqy)).bind fun(g,b)=>(Az b g a).bind fun c=>if b.length=c.length then (Bf (fun(v:Int)=>AO a v) 20).bind fun()=>some c else none
def Bm(a:List Aqy):Option (List Aqy) :=(BU a (a.length:Int)).bind fun b=>if a.length=b.length then some b else none
def C5(b:List Aqy)(g:Int)(i:Int)(a:Int)(c:List Aqy):Option ((Int×List Aqy)⊕(List Aqy)) :=if (decide (a<(b.length:Int)))then (if InR a b.length then lt1 (((nth b a.toNat).Ref).Za) fun(e:Int)=>lt1 (((nth b a.toNat).Ref).No) fun(j:Int)=>lt1 (((nth b a.toNat).By).Za) fun(k:Int)=>lt1 (((nth b a.toNat).By).No) fun(l:Int)=>lt1 ((nth b a.toNat).Zn) fun(m:Int)=>lt1 (((nth b a.toNat).Zo).Kind) fun(d:Int)=>lt1 ((((nth b a.toNat).Zo).Ref).Za) fun(n:Int)=>lt1 ((((nth b a.toNat).Zo).Ref).No) fun(o:Int)=>lt1 (((nth b a.toNat).Zo).Zd) fun(p:Int)=>lt1 (((nth b a.toNat).Zo).Ze) fun(q:Int)=>lt1 (((nth b a.toNat).Zo).Zf) fun(s:Int)=>lt1 (((nth b a.toNat).Zo).Zg) fun(f:Int)=>lt1 (((nth b a.toNat).Zo).Zh) fun(t:Int)=>lt1 (((nth b a.toNat).Zo).To) fun(u:Int)=>lt1 (((nth b a.toNat).Zo).Code) fun(v:Int)=>lt1 (((nth b a.toNat).Zo).Zi) fun(w:Int)=>lt1 (((nth b a.toNat).Zo).Zj) fun(x:Int)=>lt1 (((nth b a.toNat).Zo).Zk) fun(y:Int)=>lt1 (((nth b a.toNat).Zo).Zl) fun(z:Int)=>lt1 (((nth b a.toNat).Zo).Text) fun(aa:List UInt8)=>lt1 (((nth b a.toNat).Zo).Zm) fun(ab:List Aqw)=>(if(e != g)then some true else some (f != i):Option (Bool)).bind fun ac=>if ac then some c else (if(d==11)then some true else if(d==12)then some true else some (d==13):Option (Bool)).bind fun ad=>if ad then if GX (c.length+1) 192 then lt1 (c++([({ Ref:=({ Za:=e,No:=j }:Aqv),By:=({ Za:=k,No:=l }:Aqv),Zn:=m,Zo:=({ Kind:=d,Ref:=({ Za:=n,No:=o }:Aqv),Zd:=p,Ze:=q,Zf:=s,Zg:=f,Zh:=t,To:=u,Code:=v,Zi:=w,Zj:=x,Zk:=y,Zl:=z,Text:=aa,Zm:=ab }:Aqx) }:Aqy)]:List Aqy)) fun(ae:List Aqy)=>some ae else none else some c else none:Option (List Aqy)).bind fun af=>some (.inl ((w64 (a+1)),af)) else some (.inr c)
def Eb(c:List Aqy)(d:Int)(e:Int):Option (List Aqy) :=((Bf (fun(v:Int×List Aqy)=>C5 c d e v.1 v.2) (0,[])).bind fun f=>some f:Option (List Aqy)).bind fun a=>(Bm a).bind fun b=>if a.length=b.length then some b else none
def D1(s1_8461:List Aqr)(s2_8462:List Aqr)(b:Aqr->Aqr->Option (Bool))(a:Int):Option ((Int)⊕((Unit)⊕((Unit)⊕(Bool)))) :=if (decide (a<(s1_8461.length:Int)))then if InR a s1_8461.length then lt1 ((nth s1_8461 a.toNat).Op) fun(c:Int)=>lt1 ((nth s1_8461 a.toNat).N) fun(d:Int)=>lt1 ((nth s1_8461 a.toNat).Unit) fun(e:Arr Int 4)=>lt1 ((nth s1_8461 a.toNat).L) fun(f:List Aqr)=>if InR a s2_8462.length then lt1 ((nth s2_8462 a.toNat).Op) fun(g:Int)=>lt1 ((nth s2_8462 a.toNat).N) fun(i:Int)=>lt1 ((nth s2_8462 a.toNat).Unit) fun(j:Arr Int 4)=>lt1 ((nth s2_8462 a.toNat).L) fun(k:List Aqr)=>(b (Aqr.mk c d e f) (Aqr.mk g i j k)).bind fun l=>if(!l)then ((some false).bind fun m=>some (.inr m)).bind fun n=>some (.inr (.inr n)) else some (.inl (w64 (a+1))) else none else none else some (.inr (.inl ()))
def Dt(s1_8461:List Aqr)(s2_8462:List Aqr)(a:Aqr->Aqr->Option (Bool)):Option (Bool) :=if((s1_8461.length:Int) != (s2_8462.length:Int))then some false else ((Bf (fun(v:Int)=>D1 s1_8461 s2_8462 a v) 0).bind fun x=>match x with
  |.inl ()=>some (.inl ())
  |.inr z=>some z:Option ((Unit)⊕(Bool))).bind fun x=>match x with
  |.inl ()=>some true
  |.inr z=>some z
def Ec(rec_:Aqr->Aqr->Option (Bool))(a:Aqr)(b:Aqr):Option (Bool) :=(if(a.Op==b.Op)then if(a.N==b.N)then if(a.Unit==b.Unit)then (Dt a.L b.L rec_).bind fun c=>some c else some false else some false else some false:Option (Bool)).bind fun d=>some d
def DV(n:Nat):Aqr->Aqr->Option (Bool):=match n with
 |0=>fun _ _=>none
 |n+1=>Ec (DV n)
def K5(a:Aqr)(b:Aqr):Option (Bool):=DV 18446744073709551616 a b
def EZ(a:Aqs)(b:Aqs):Option (Bool) :=(if(a.Name==b.Name)then (ER a.When b.When).bind fun c=>if c then (K5 a.Pay b.Pay).bind fun d=>some d else some false else some false:Option (Bool)).bind fun e=>some e
def D2(s1_8598:List Aqs)(s2_8599:List Aqs)(b:Aqs->Aqs->Option (Bool))(a:Int):Option ((Int)⊕((Unit)⊕((Unit)⊕(Bool)))) :=if (decide (a<(s1_8598.length:Int)))then if InR a s1_8598.length then lt1 ((nth s1_8598 a.toNat).Name) fun(c:List UInt8)=>lt1 ((nth s1_8598 a.toNat).When) fun(d:List Aqp)=>lt1 (((nth s1_8598 a.toNat).Pay).Op) fun(e:Int)=>lt1 (((nth s1_8598 a.toNat).Pay).N) fun(f:Int)=>lt1 (((nth s1_8598 a.toNat).Pay).Unit) fun(g:Arr Int 4)=>lt1 (((nth s1_8598 a.toNat).Pay).L) fun(i:List Aqr)=>if InR a s2_8599.length then lt1 ((nth s2_8599 a.toNat).Name) fun(j:List UInt8)=>lt1 ((nth s2_8599 a.toNat).When) fun(k:List Aqp)=>lt1 (((nth s2_8599 a.toNat).Pay).Op) fun(l:Int)=>lt1 (((nth s2_8599 a.toNat).Pay).N) fun(m:Int)=>lt1 (((nth s2_8599 a.toNat).Pay).Unit) fun(n:Arr Int 4)=>lt1 (((nth s2_8599 a.toNat).Pay).L) fun(o:List Aqr)=>(b ({ Name:=c,When:=d,Pay:=(Aqr.mk e f g i) }:Aqs) ({ Name:=j,When:=k,Pay:=(Aqr.mk l m n o) }:Aqs)).bind fun p=>if(!p)then ((some false).bind fun q=>some (.inr q)).bind fun s=>some (.inr (.inr s)) else some (.inl (w64 (a+1))) else none else none else some (.inr (.inl ()))
def Dv(s1_8598:List Aqs)(s2_8599:List Aqs)(a:Aqs->Aqs->Option (Bool)):Option (Bool) :=if((s1_8598.length:Int) != (s2_8599.length:Int))then some false else ((Bf (fun(v:Int)=>D2 s1_8598 s2_8599 a v) 0).bind fun x=>match x with
  |.inl ()=>some (.inl ())
  |.inr z=>some z:Option ((Unit)⊕(Bool))).bind fun x=>match x with
  |.inl ()=>some true
  |.inr z=>some z
def GI(a:Aqt)(b:Aqt):Option (Bool) :=(if(a.Name==b.Name)then if(a.For==b.For)then (Dv a.Clauses b.Clauses EZ).bind fun c=>some c else some false else some false:Option (Bool)).bind fun d=>some d
def Fk(b:List Aqy)(c:Int)(a:Int):Option ((Int×Int)⊕(Int)) :=if(decide (a<(b.length:Int)))then if InR a b.length then lt1 (((nth b a.toNat).Ref).Za) fun(f:Int)=>lt1 (((nth b a.toNat).Ref).No) fun(g:Int)=>lt1 (((nth b a.toNat).By).Za) fun(i:Int)=>lt1 (((nth b a.toNat).By).No) fun(j:Int)=>lt1 ((nth b a.toNat).Zn) fun(k:Int)=>lt1 (((nth b a.toNat).Zo).Kind) fun(l:Int)=>lt1 ((((nth b a.toNat).Zo).Ref).Za) fun(m:Int)=>lt1 ((((nth b a.toNat).Zo).Ref).No) fun(n:Int)=>lt1 (((nth b a.toNat).Zo).Zd) fun(o:Int)=>lt1 (((nth b a.toNat).Zo).Ze) fun(p:Int)=>lt1 (((nth b a.toNat).Zo).Zf) fun(q:Int)=>lt1 (((nth b a.toNat).Zo).Zg) fun(s:Int)=>lt1 (((nth b a.toNat).Zo).Zh) fun(t:Int)=>lt1 (((nth b a.toNat).Zo).To) fun(u:Int)=>lt1 (((nth b a.toNat).Zo).Code) fun(v:Int)=>lt1 (((nth b a.toNat).Zo).Zi) fun(w:Int)=>lt1 (((nth b a.toNat).Zo).Zj) fun(x:Int)=>lt1 (((nth b a.toNat).Zo).Zk) fun(y:Int)=>lt1 (((nth b a.toNat).Zo).Zl) fun(z:Int)=>lt1 (((nth b a.toNat).Zo).Text) fun(d:List UInt8)=>lt1 (((nth b a.toNat).Zo).Zm) fun(aa:List Aqw)=>lt1 (w64 (c+(d.length:Int))) fun(e:Int)=>some (.inl (e,(w64 (a+1)))) else none else some (.inr c)
def Fz(a:List Aqy):Option (Bool) :=((Bf (fun(v:Int×Int)=>Fk a v.1 v.2) (0,0)).bind fun b=>some b:Option (Int)).bind fun c=>(if(decide ((a.length:Int)<=8))then some (decide (c<=2000)) else some false:Option (Bool)).bind fun d=>some d
def strconv_Itoa(n:Int):Option (List UInt8):=Agf n
def Aq(a:AqA)(b:List (List UInt8)):Option (AqA) :=if GX (a.l.length+b.length) 16 then lt1 (a.l++b) fun(c:List (List UInt8))=>some ({ l:=c }:AqA) else none
def Bu(a:AqA)(b:Int):Option (AqA) :=(strconv_Itoa b).bind fun c=>(Aq a ([c]:List (List UInt8))).bind fun d=>lt1 d.l fun(e:List (List UInt8))=>some ({ l:=e }:AqA)
def Du(d:AqA)(e:Arr Int 4):Option (AqA) :=(Bp ([109,111,110,101,121,32,109,105,110,117,116,101,32,107,109,32,107,103]:List UInt8)).bind fun a=>((C9 e.l 1).bind fun b=>if(decide (b≥0))then if InR b a.length then (Aq d ([nth a b.toNat]:List (List UInt8))).bind fun g=>lt1 g.l fun(i:List (List UInt8))=>some i else none else some d.l:Option (List (List UInt8))).bind fun f=>(C9 e.l (-1)).bind fun c=>if(decide (c≥0))then if InR c a.length then (Aq ({ l:=f }:AqA) ([([112,101,114]:List UInt8),nth a c.toNat]:List (List UInt8))).bind fun j=>lt1 j.l fun(k:List (List UInt8))=>some ({ l:=k }:AqA) else none else some ({ l:=f }:AqA)
def BC(e:AqA->Aqr->Option (AqA))(b:List (List UInt8))(c:Aqr)(a:Int)(d:List (List UInt8)):Option ((Int×List (List UInt8))⊕(List (List UInt8))) :=if (decide (a<(b.length:Int)))then if InR a b.length then lt1 (nth b a.toNat) fun(f:List UInt8)=>if InR a c.L.length then (e ({ l:=d }:AqA) (nth c.L a.toNat)).bind fun g=>lt1 g.l fun(i:List (List UInt8))=>(Aq ({ l:=i }:AqA) ([f]:List (List UInt8))).bind fun j=>lt1 j.l fun(k:List (List UInt8))=>some (.inl ((w64 (a+1)),k)) else none else none else some (.inr d)
def Cp(a:AqA->Aqr->Option (AqA))(b:List UInt8)(c:List (List UInt8))(d:AqA)(e:Aqr):Option (AqA) :=(Aq d ([b,([40]:List UInt8)]:List (List UInt8))).bind fun f=>lt1 f.l fun(g:List (List UInt8))=>(Bf (fun(v:Int×List (List UInt8))=>BC a c e v.1 v.2) (0,g)).bind fun i=>some ({ l:=i }:AqA)
def BW(b:AqA->Aqr->Option (AqA))(c:AqA)(a:Aqr)(d:Int):Option (AqA) :=(EN a.Op).bind fun e=>if(decide (e≥d))then (b c a).bind fun f=>lt1 f.l fun(g:List (List UInt8))=>some ({ l:=g }:AqA) else (Aq c ([([40]:List UInt8)]:List (List UInt8))).bind fun i=>lt1 i.l fun(j:List (List UInt8))=>(b ({ l:=j }:AqA) a).bind fun k=>lt1 k.l fun(m:List (List UInt8))=>(Aq ({ l:=m }:AqA) ([([41]:List UInt8)]:List (List UInt8))).bind fun n=>lt1 n.l fun(o:List (List UInt8))=>some ({ l:=o }:AqA)
def CO(rec_:AqA->Aqr->Option (AqA))(b:AqA)(a:Aqr):Option (AqA) :=if(a.Op==1)then (Bu b a.N).bind fun e=>lt1 e.l fun(f:List (List UInt8))=>(Du ({ l:=f }:AqA) a.Unit).bind fun g=>lt1 g.l fun(i:List (List UInt8))=>some ({ l:=i }:AqA) else if(a.Op==2)then (Bp ([116,121,112,101,32,111,119,110,101,114,32,114,97,105,108,119,97,121,32,115,104,105,112,112,101,114,32,99,108,97,115,115,32,119,101,105,103,104,116,32,107,109,32,109,105,110,117,116,101,115,32,119,111,114,107,105,110,103,32,99,111,100,101,32,119,111,114,116,104,32,99,111,115,116,32,109,111,110,116,104,32,98,101,103,105,110,32,112,97,114,116,115,32,112,97,114,116]:List UInt8)).bind fun c=>if InR a.N c.length then (Aq b ([nth c a.N.toNat]:List (List UInt8))).bind fun j=>lt1 j.l fun(k:List (List UInt8))=>some ({ l:=k }:AqA) else none else if(a.Op==11)then (Cp rec_ ([105,102]:List UInt8) ([([60]:List UInt8),([44]:List UInt8),([44]:List UInt8),([41]:List UInt8)]:List (List UInt8)) b a).bind fun m=>lt1 m.l fun(n:List (List UInt8))=>some ({ l:=n }:AqA) else (if(a.Op==3)then some (a.Op==3) else if(a.Op==4)then some (a.Op==4) else some (a.Op==5):Option (Bool)).bind fun o=>if o then if InR 0 a.L.length then (EN a.Op).bind fun p=>(BW rec_ b (nth a.L 0) p).bind fun q=>lt1 q.l fun(s:List (List UInt8))=>if InR (w64 (a.Op-3)) (([([43]:List UInt8),([45]:List UInt8),([42]:List UInt8)]:List (List UInt8)).length)then (Aq ({ l:=s }:AqA) ([nth ([([43]:List UInt8),([45]:List UInt8),([42]:List UInt8)]:List (List UInt8)) ((w64 (a.Op-3)).toNat)]:List (List UInt8))).bind fun t=>lt1 t.l fun(u:List (List UInt8))=>if InR 1 a.L.length then (EN a.Op).bind fun v=>(BW rec_ ({ l:=u }:AqA) (nth a.L 1) (w64 (v+1))).bind fun w=>lt1 w.l fun(x:List (List UInt8))=>some ({ l:=x }:AqA) else none else none else none else (Bp ([109,105,110,32,109,97,120,32,100,111,119,110,32,117,112,32,104,97,108,102]:List UInt8)).bind fun d=>if InR (w64 (a.Op-6)) d.length then (Cp rec_ (nth d ((w64 (a.Op-6)).toNat)) ([([44]:List UInt8),([41]:List UInt8)]:List (List UInt8)) b a).bind fun y=>lt1 y.l fun(z:List (List UInt8))=>some ({ l:=z }:AqA) else none
def DA(n:Nat):AqA->Aqr->Option (AqA):=match n with
 |0=>fun _ _=>none
 |n+1=>CO (DA n)
def FW(a:AqA)(b:Aqr):Option (AqA):=DA 18446744073709551616 a b
def BD(b:Aqs)(a:Int)(d:List (List UInt8)):Option ((Int×List (List UInt8))⊕(List (List UInt8))) :=if (decide (a<(b.When.length:Int)))then (if InR a b.When.length then lt1 ((nth b.When a.toNat).Attr) fun(e:Int)=>lt1 ((nth b.When a.toNat).Low) fun(c:Int)=>lt1 ((nth b.When a.toNat).High) fun(f:Int)=>if InR (Q9 a 1) (([([119,104,101,110]:List UInt8),([97,110,100]:List UInt8)]:List (List UInt8)).length)then (Bp ([116,121,112,101,32,111,119,110,101,114,32,114,97,105,108,119,97,121,32,115,104,105,112,112,101,114,32,99,108,97,115,115,32,119,101,105,103,104,116,32,107,109,32,109,105,110,117,116,101,115,32,119,111,114,107,105,110,103,32,99,111,100,101,32,119,111,114,116,104,32,99,111,115,116,32,109,111,110,116,104,32,98,101,103,105,110,32,112,97,114,116,115,32,112,97,114,116]:List UInt8)).bind fun g=>if InR e g.length then (Aq ({ l:=d }:AqA) ([nth ([([119,104,101,110]:List UInt8),([97,110,100]:List UInt8)]:List (List UInt8)) ((Q9 a 1).toNat),nth g e.toNat]:List (List UInt8))).bind fun j=>lt1 j.l fun(i:List (List UInt8))=>if(c==f)then (Aq ({ l:=i }:AqA) ([([105,115]:List UInt8)]:List (List UInt8))).bind fun k=>lt1 k.l fun(m:List (List UInt8))=>(Bu ({ l:=m }:AqA) c).bind fun n=>lt1 n.l fun(o:List (List UInt8))=>some o else (Aq ({ l:=i }:AqA) ([([105,110]:List UInt8)]:List (List UInt8))).bind fun p=>lt1 p.l fun(q:List (List UInt8))=>(Bu ({ l:=q }:AqA) c).bind fun s=>lt1 s.l fun(t:List (List UInt8))=>(Aq ({ l:=t }:AqA) ([([46,46]:List UInt8)]:List (List UInt8))).bind fun u=>lt1 u.l fun(v:List (List UInt8))=>(Bu ({ l:=v }:AqA) f).bind fun w=>lt1 w.l fun(x:List (List UInt8))=>some x else none else none else none:Option (List (List UInt8))).bind fun y=>some (.inl ((w64 (a+1)),y)) else some (.inr d)
def CN(b:AqA)(a:Aqs):Option (AqA) :=(Aq b ([([99,108,97,117,115,101]:List UInt8),a.Name]:List (List UInt8))).bind fun c=>lt1 c.l fun(d:List (List UInt8))=>((Bf (fun(v:Int×List (List UInt8))=>BD a v.1 v.2) (0,d)).bind fun e=>some e:Option (List (List UInt8))).bind fun f=>(Aq ({ l:=f }:AqA) ([([112,97,121]:List UInt8)]:List (List UInt8))).bind fun g=>lt1 g.l fun(i:List (List UInt8))=>(FW ({ l:=i }:AqA) a.Pay).bind fun j=>lt1 j.l fun(k:List (List UInt8))=>(Aq ({ l:=k }:AqA) ([([59]:List UInt8)]:List (List UInt8))).bind fun m=>lt1 m.l fun(n:List (List UInt8))=>some ({ l:=n }:AqA)
def Kw(xs:List (List UInt8))(sep:List UInt8):Option (List UInt8):=AeN xs sep
def DZ(b:Aqt)(a:Int)(c:List (List UInt8)):Option ((Int×List (List UInt8))⊕(List (List UInt8))) :=if(decide (a<(b.Clauses.length:Int)))then if InR a b.Clauses.length then lt1 ((nth b.Clauses a.toNat).Name) fun(d:List UInt8)=>lt1 ((nth b.Clauses a.toNat).When) fun(e:List Aqp)=>lt1 (((nth b.Clauses a.toNat).Pay).Op) fun(f:Int)=>lt1 (((nth b.Clauses a.toNat).Pay).N) fun(g:Int)=>lt1 (((nth b.Clauses a.toNat).Pay).Unit) fun(i:Arr Int 4)=>lt1 (((nth b.Clauses a.toNat).Pay).L) fun(j:List Aqr)=>(CN ({ l:=c }:AqA) ({ Name:=d,When:=e,Pay:=(Aqr.mk f g i j) }:Aqs)).bind fun k=>lt1 k.l fun(m:List (List UInt8))=>some (.inl ((w64 (a+1)),m)) else none else some (.inr c)
def DG(a:Aqt):Option (List UInt8×Int) :=(Dh a).bind fun b=>if(b != 0)then some (([]:List UInt8),b) else (Bp ([104,105,114,101,32,100,101,109,117,114,114,97,103,101,32,102,114,101,105,103,104,116,32,114,101,112,97,105,114,32,108,111,115,115,32,99,108,101,97,110,105,110,103]:List UInt8)).bind fun c=>if InR (w64 (a.For-1)) c.length then (Aq ({ l:=[] }:AqA) ([([116,97,114,105,102,102]:List UInt8),a.Name,([102,111,114]:List UInt8),nth c ((w64 (a.For-1)).toNat),([123]:List UInt8)]:List (List UInt8))).bind fun e=>lt1 e.l fun(f:List (List UInt8))=>((Bf (fun(v:Int×List (List UInt8))=>DZ a v.1 v.2) (0,f)).bind fun g=>some g:Option (List (List UInt8))).bind fun i=>(Aq ({ l:=i }:AqA) ([([125]:List UInt8)]:List (List UInt8))).bind fun j=>lt1 j.l fun(k:List (List UInt8))=>(Kw k ([32]:List UInt8)).bind fun d=>if(decide ((d.length:Int)>2000))then some (([]:List UInt8),2) else some (d,0) else none
def Bc(a:AqB)(b:Int):Option (AqB) :=if InR b a.code.length then lt1 (a.code.set b.toNat ({ Op:=(nth a.code b.toNat).Op,N:=(a.code.length:Int),M:=(nth a.code b.toNat).M }:Aqz)) fun(c:List Aqz)=>some ({ code:=c }:AqB) else none
def Ar(a:AqB)(b:Int)(c:Int)(d:Int):Option (Int×AqB) :=lt1 (a.code.length:Int) fun(e:Int)=>if GX (a.code.length+1) 24 then lt1 (a.code++([({ Op:=b,N:=c,M:=d }:Aqz)]:List Aqz)) fun(f:List Aqz)=>some (e,({ code:=f }:AqB)) else none
def BG(rec_:AqB->Aqr->Option (AqB))(b:AqB)(a:Aqr):Option (AqB) :=if(a.Op==1)then (Ar b 1 a.N 0).bind fun e=>lt1 e.2.code fun(f:List Aqz)=>some ({ code:=f }:AqB) else if(a.Op==2)then (Ar b 2 a.N 0).bind fun g=>lt1 g.2.code fun(i:List Aqz)=>some ({ code:=i }:AqB) else if (a.Op==11)then if InR 0 a.L.length then (rec_ b (nth a.L 0)).bind fun j=>lt1 j.code fun(k:List Aqz)=>if InR 1 a.L.length then (rec_ ({ code:=k }:AqB) (nth a.L 1)).bind fun l=>lt1 l.code fun(m:List Aqz)=>(Ar ({ code:=m }:AqB) 11 0 0).bind fun n=>lt1 n.2.code fun(o:List Aqz)=>(Ar ({ code:=o }:AqB) 13 0 0).bind fun c=>lt1 c.2.code fun(p:List Aqz)=>if InR 2 a.L.length then (rec_ ({ code:=p }:AqB) (nth a.L 2)).bind fun q=>lt1 q.code fun(s:List Aqz)=>(Ar ({ code:=s }:AqB) 14 0 0).bind fun d=>lt1 d.2.code fun(t:List Aqz)=>(Bc ({ code:=t }:AqB) c.1).bind fun u=>lt1 u.code fun(v:List Aqz)=>if InR 3 a.L.length then (rec_ ({ code:=v }:AqB) (nth a.L 3)).bind fun w=>lt1 w.code fun(x:List Aqz)=>(Bc ({ code:=x }:AqB) d.1).bind fun y=>lt1 y.code fun(z:List Aqz)=>some ({ code:=z }:AqB) else none else none else none else none else if InR 0 a.L.length then (rec_ b (nth a.L 0)).bind fun aa=>lt1 aa.code fun(ab:List Aqz)=>if InR 1 a.L.length then (rec_ ({ code:=ab }:AqB) (nth a.L 1)).bind fun ac=>lt1 ac.code fun(ad:List Aqz)=>(Ar ({ code:=ad }:AqB) (w64 ((w64 (3+a.Op))-3)) 0 0).bind fun ae=>lt1 ae.2.code fun(af:List Aqz)=>some ({ code:=af }:AqB) else none else none
def C0(n:Nat):AqB->Aqr->Option (AqB):=match n with
 |0=>fun _ _=>none
 |n+1=>BG (C0 n)
def F8(a:AqB)(b:Aqr):Option (AqB):=C0 18446744073709551616 a b
def EL(e:List Aqz)(f:Int)(d:Int)(b:List Int)(a:Int)(c:List Int):Option ((Int×List Int)⊕((List Int)⊕((Int×List Int)⊕((Int×Int×List Int)⊕((Int)⊕((Int)⊕(Int×Int))))))) :=if (decide (a<(b.length:Int)))then if InR a b.length then (if(decide (nth b a.toNat<=f))then some true else if(decide (nth b a.toNat≥(e.length:Int)))then some true else if InR (nth b a.toNat) c.length then if(decide (nth c ((nth b a.toNat).toNat)≥0))then if InR (nth b a.toNat) c.length then some (nth c ((nth b a.toNat).toNat) != d) else none else some false else none:Option (Bool)).bind fun g=>if g then ((((some (0,200)).bind fun i=>some (.inr i)).bind fun j=>some (.inr (.inr j))).bind fun k=>some (.inr k)).bind fun l=>some (.inr (.inr l)) else if InR (nth b a.toNat) c.length then lt1 (c.set ((nth b a.toNat).toNat) d) fun(m:List Int)=>some (.inl ((w64 (a+1)),m)) else none else none else some (.inr (.inl c))
def Gp(d:List Aqz)(e:Int)(a:Int)(b:List Int):Option ((Int×Int×List Int)⊕((Int)⊕((Int)⊕(Int×Int)))) :=if (decide (a<(d.length:Int)))then (if InR a d.length then lt1 ((nth d a.toNat).Op) fun(c:Int)=>lt1 ((nth d a.toNat).N) fun(j:Int)=>lt1 ((nth d a.toNat).M) fun(ab:Int)=>if InR a b.length then if(decide (nth b a.toNat<0))then some (.inl (e,b)) else (Hn c).bind fun f=>lt1 (w64 ((w64 (nth b a.toNat-f.1))+f.2)) fun(i:Int)=>lt1 (QC (QC e (nth b a.toNat)) i) fun(k:Int)=>(if(decide (nth b a.toNat<f.1))then some true else if (c==15)then if(nth b a.toNat != 1)then some true else if(c==16)then some (nth b a.toNat != 0) else some false else if(c==16)then some (nth b a.toNat != 0) else some false:Option (Bool)).bind fun l=>if l then (((some (0,200)).bind fun m=>some (.inr m)).bind fun n=>some (.inr (.inr n))).bind fun o=>some (.inr o) else ((if(c==13)then some true else some (c==14):Option (Bool)).bind fun p=>if p then lt1 ([j]:List Int) fun(q:List Int)=>some q else some ([]):Option (List Int)).bind fun g=>((if(c != 14)then if(c != 15)then some (c != 16) else some false else some false:Option (Bool)).bind fun s=>if s then if GX (g.length+1) 8 then lt1 (g++([(w64 (a+1))]:List Int)) fun(t:List Int)=>some t else none else some g:Option (List Int)).bind fun u=>(Bf (fun(v:Int×List Int)=>EL d a i u v.1 v.2) (0,b)).bind fun x=>match x with
      |.inl w=>some (.inl (k,w))
      |.inr z=>some z else none else none:Option ((Int×List Int)⊕((Int×Int×List Int)⊕((Int)⊕((Int)⊕(Int×Int)))))).bind fun x=>match x with
  |.inl (y,aa)=>some (.inl (y,(w64 (a+1)),aa))
  |.inr z=>some z else some (.inr (.inl e))
def Hs(a:List Aqz):Option (Int×Int) :=if(decide ((a.length:Int)>4096))then some (0,2) else (if((a.length:Int)==0)then some true else (CD a FC).bind fun d=>some d:Option (Bool)).bind fun e=>if e then some (0,200) else (E9 ([(-1)]:List Int) (a.length:Int)).bind fun b=>if InR 0 b.length then lt1 (b.set 0 0) fun(f:List Int)=>((Bf (fun(v:Int×Int×List Int)=>Gp a v.1 v.2.1 v.2.2) (0,0,f)).bind fun x=>match x with
    |.inl g=>some (.inl g)
    |.inr z=>some z:Option ((Int)⊕(Int×Int))).bind fun x=>match x with
    | .inl c=>if(decide (c>64))then some (0,2) else some (c,0)
    |.inr z=>some z else none
def BZ:List Aqp->AqB->List Int->Option (AqB×List Int)
 |[],c,ats=>some (c,ats)
 |t::l,c,ats=>(Ar c 2 t.Attr 0).bind fun y1=>(Ar y1.2 12 t.Low t.High).bind fun y2=>(Ar y2.2 13 0 0).bind fun y3=>BZ l y3.2 (y3.1::ats)
def C4:List Int->AqB->Option AqB
 |[],c=>some c
 |a::l,c=>(Bc c a).bind (C4 l)
def CM(c:AqB)(x:Aqs)(index:Int):Option AqB :=if x.When.length<4611686018427387904 then (BZ x.When c []).bind fun s=>(F8 s.1 x.Pay).bind fun c1=>(Ar c1 15 index 0).bind fun y=>C4 s.2 y.2 else none
def FL(b:Aqt)(a:Int)(c:List Aqz):Option ((Int×List Aqz)⊕(List Aqz)) :=if(decide (a<(b.Clauses.length:Int)))then if InR a b.Clauses.length then lt1 ((nth b.Clauses a.toNat).Name) fun(d:List UInt8)=>lt1 ((nth b.Clauses a.toNat).When) fun(e:List Aqp)=>lt1 (((nth b.Clauses a.toNat).Pay).Op) fun(f:Int)=>lt1 (((nth b.Clauses a.toNat).Pay).N) fun(g:Int)=>lt1 (((nth b.Clauses a.toNat).Pay).Unit) fun(i:Arr Int 4)=>lt1 (((nth b.Clauses a.toNat).Pay).L) fun(j:List Aqr)=>(CM ({ code:=c }:AqB) ({ Name:=d,When:=e,Pay:=(Aqr.mk f g i j) }:Aqs) a).bind fun k=>lt1 k.code fun(l:List Aqz)=>some (.inl ((w64 (a+1)),l)) else none else some (.inr c)
def Ek(a:Aqt):Option (List Aqz×Int) :=(Dh a).bind fun b=>if(b != 0)then some ([],b) else ((Bf (fun(v:Int×List Aqz)=>FL a v.1 v.2) (0,[])).bind fun d=>some d:Option (List Aqz)).bind fun e=>(Ar ({ code:=e }:AqB) 16 0 0).bind fun f=>lt1 f.2.code fun(c:List Aqz)=>(Hs c).bind fun g=>if(g.2 != 0)then some ([],2) else some (c,0)
def FM(a:Aqt):Option (Int) :=(DG a).bind fun b=>some b.2
def FO(a:Aqt):Option (Int) :=(HG a).bind fun b=>some b.2
def FQ(a:Aqt):Option (Int) :=(EE a).bind fun b=>some b
def FR(a:Aqt):Option (Int) :=(Ek a).bind fun b=>some b.2
def Cg(a:Aqt):Option (Int) :=((FM a).bind fun b=>if(b != 0)then (some b).bind fun f=>some (.inr f) else (FO a).bind fun c=>if(c != 0)then (some c).bind fun g=>some (.inr g) else (FQ a).bind fun d=>if(d != 0)then (some d).bind fun i=>some (.inr i) else (FR a).bind fun e=>if(e != 0)then (some e).bind fun j=>some (.inr j) else some (.inl ()):Option ((Unit)⊕(Int))).bind fun x=>match x with
 |.inl ()=>some 0
 |.inr z=>some z
def BI(a:Aqt):Option (Int) :=(Cg a).bind fun b=>some b
def Fm(b:Aqt)(a:Int)(c:SM):Option ((Int×SM)⊕(SM)) :=if(decide (a<(b.Clauses.length:Int)))then if InR a b.Clauses.length then lt1 ((nth b.Clauses a.toNat).Name) fun(d:List UInt8)=>lt1 ((nth b.Clauses a.toNat).When) fun(e:List Aqp)=>lt1 (((nth b.Clauses a.toNat).Pay).Op) fun(f:Int)=>lt1 (((nth b.Clauses a.toNat).Pay).N) fun(g:Int)=>lt1 (((nth b.Clauses a.toNat).Pay).Unit) fun(i:Arr Int 4)=>lt1 (((nth b.Clauses a.toNat).Pay).L) fun(j:List Aqr)=>lt1 (up2 c d (some ({ Name:=d,When:=e,Pay:=(Aqr.mk f g i j) }:Aqs))) fun(k:SM)=>some (.inl ((w64 (a+1)),k)) else none else some (.inr c)
def Ff(e:List Aqs)(a:Int)(c:SM)(b:List Aqs):Option ((Int×SM×List Aqs)⊕(SM×List Aqs)) :=if (decide (a<(e.length:Int)))then (if InR a b.length then lt1 ((nth b a.toNat).Name) fun(d:List UInt8)=>lt1 ((nth b a.toNat).When) fun(q:List Aqp)=>lt1 (((nth b a.toNat).Pay).Op) fun(s:Int)=>lt1 (((nth b a.toNat).Pay).N) fun(t:Int)=>lt1 (((nth b a.toNat).Pay).Unit) fun(u:Arr Int 4)=>lt1 (((nth b a.toNat).Pay).L) fun(v:List Aqr)=>lt1 (((c d).getD RO).Name) fun(f:List UInt8)=>lt1 (((c d).getD RO).When) fun(g:List Aqp)=>lt1 ((((c d).getD RO).Pay).Op) fun(i:Int)=>lt1 ((((c d).getD RO).Pay).N) fun(j:Int)=>lt1 ((((c d).getD RO).Pay).Unit) fun(k:Arr Int 4)=>lt1 ((((c d).getD RO).Pay).L) fun(l:List Aqr)=>if(c d).isSome=true then if InR a b.length then lt1 (b.set a.toNat ({ Name:=f,When:=g,Pay:=(Aqr.mk i j k l) }:Aqs)) fun(m:List Aqs)=>lt1 (up2 c d none) fun(n:SM)=>some (n,m) else none else some (c,b) else none:Option (SM×List Aqs)).bind fun(o,p)=>some (.inl ((w64 (a+1)),o,p)) else some (.inr (c,b))
def Fo(b:Aqt)(d:SM)(a:Int)(e:List Aqs):Option ((Int×List Aqs)⊕(List Aqs)) :=if (decide (a<(b.Clauses.length:Int)))then (if InR a b.Clauses.length then lt1 ((nth b.Clauses a.toNat).Name) fun(c:List UInt8)=>lt1 ((nth b.Clauses a.toNat).When) fun(f:List Aqp)=>lt1 (((nth b.Clauses a.toNat).Pay).Op) fun(g:Int)=>lt1 (((nth b.Clauses a.toNat).Pay).N) fun(i:Int)=>lt1 (((nth b.Clauses a.toNat).Pay).Unit) fun(j:Arr Int 4)=>lt1 (((nth b.Clauses a.toNat).Pay).L) fun(k:List Aqr)=>lt1 (((d c).getD RO).Name) fun(n:List UInt8)=>lt1 (((d c).getD RO).When) fun(o:List Aqp)=>lt1 ((((d c).getD RO).Pay).Op) fun(p:Int)=>lt1 ((((d c).getD RO).Pay).N) fun(q:Int)=>lt1 ((((d c).getD RO).Pay).Unit) fun(s:Arr Int 4)=>lt1 ((((d c).getD RO).Pay).L) fun(t:List Aqr)=>if(d c).isSome=true then if GX (e.length+1) 112 then lt1 (e++([({ Name:=c,When:=f,Pay:=(Aqr.mk g i j k) }:Aqs)]:List Aqs)) fun(l:List Aqs)=>some l else none else some e else none:Option (List Aqs)).bind fun m=>some (.inl ((w64 (a+1)),m)) else some (.inr e)
def DM(a:Aqt)(b:Aqt):Option (Aqt) :=((Bf (fun(v:Int×SM)=>Fm b v.1 v.2) (0,no2)).bind fun d=>some d:Option (SM)).bind fun e=>(EP a.Clauses).bind fun c=>((Bf (fun(v:Int×SM×List Aqs)=>Ff c v.1 v.2.1 v.2.2) (0,e,c)).bind fun(f,g)=>some (f,g):Option (SM×List Aqs)).bind fun(i,j)=>((Bf (fun(v:Int×List Aqs)=>Fo b i v.1 v.2) (0,j)).bind fun k=>some k:Option (List Aqs)).bind fun l=>some ({ Name:=a.Name,For:=a.For,Clauses:=l }:Aqt)
def Db(e:List UInt8)(b:Int):Option (Aqt×Int) :=(if(decide (b<1))then some true else some (decide (b>6)):Option (Bool)).bind fun f=>if f then some (({ Name:=([]:List UInt8),For:=0,Clauses:=[] }:Aqt),1) else (Dg e).bind fun a=>((if(a.2.2==0)then some (a.1.For != b) else some false:Option (Bool)).bind fun g=>if g then some 220 else some a.2.2:Option (Int)).bind fun c=>(if(c==0)then (BI a.1).bind fun i=>some i else some c:Option (Int)).bind fun d=>if(d != 0)then some (({ Name:=([]:List UInt8),For:=0,Clauses:=[] }:Aqt),d) else some (a.1,0)
def Et(k:Int)(l:Int)(b:List Aqy)(c:Bool)(a:Int)(d:List UInt8)(e:Int)(f:List Aqs):Option ((Bool×Int×List UInt8×Int×List Aqs)⊕(Bool×List UInt8×Int×List Aqs)) :=if (decide (a<(b.length:Int)))then (if InR a b.length then lt1 (((nth b a.toNat).Ref).Za) fun(v:Int)=>lt1 (((nth b a.toNat).Ref).No) fun(w:Int)=>lt1 (((nth b a.toNat).By).Za) fun(y:Int)=>lt1 (((nth b a.toNat).By).No) fun(aa:Int)=>lt1 ((nth b a.toNat).Zn) fun(ab:Int)=>lt1 (((nth b a.toNat).Zo).Kind) fun(j:Int)=>lt1 ((((nth b a.toNat).Zo).Ref).Za) fun(ac:Int)=>lt1 ((((nth b a.toNat).Zo).Ref).No) fun(ad:Int)=>lt1 (((nth b a.toNat).Zo).Zd) fun(ae:Int)=>lt1 (((nth b a.toNat).Zo).Ze) fun(af:Int)=>lt1 (((nth b a.toNat).Zo).Zf) fun(ag:Int)=>lt1 (((nth b a.toNat).Zo).Zg) fun(ah:Int)=>lt1 (((nth b a.toNat).Zo).Zh) fun(m:Int)=>lt1 (((nth b a.toNat).Zo).To) fun(ai:Int)=>lt1 (((nth b a.toNat).Zo).Code) fun(aj:Int)=>lt1 (((nth b a.toNat).Zo).Zi) fun(ak:Int)=>lt1 (((nth b a.toNat).Zo).Zj) fun(al:Int)=>lt1 (((nth b a.toNat).Zo).Zk) fun(am:Int)=>lt1 (((nth b a.toNat).Zo).Zl) fun(an:Int)=>lt1 (((nth b a.toNat).Zo).Text) fun(n:List UInt8)=>lt1 (((nth b a.toNat).Zo).Zm) fun(ao:List Aqw)=>if(decide (m>l))then (some (.inr (c,d,e,f))).bind fun o=>some (.inr o) else if(j==13)then some (.inl (false,([]:List UInt8),0,[])) else (Db n k).bind fun g=>if(g.2 != 0)then some (.inl (c,d,e,f)) else if(j==11)then some (.inl (true,g.1.Name,g.1.For,g.1.Clauses)) else if c then (DM ({ Name:=d,For:=e,Clauses:=f }:Aqt) g.1).bind fun i=>(BI i).bind fun p=>if(p==0)then some (.inl (c,i.Name,i.For,i.Clauses)) else some (.inl (c,d,e,f)) else some (.inl (c,d,e,f)) else none:Option ((Bool×List UInt8×Int×List Aqs)⊕((Bool×Int×List UInt8×Int×List Aqs)⊕(Bool×List UInt8×Int×List Aqs)))).bind fun x=>match x with
  |.inl (q,s,t,u)=>some (.inl (q,(w64 (a+1)),s,t,u))
  |.inr z=>some z else some (.inr (c,d,e,f))
def Ch(d:List Aqy)(c:Int)(a:Int)(b:Int):Option (Aqt×Int) :=((FH c a).bind fun e=>if(!e)then some true else if(decide (b<0))then some true else some (decide (b>1073741824)):Option (Bool)).bind fun f=>if f then some (({ Name:=([]:List UInt8),For:=0,Clauses:=[] }:Aqt),1) else ((Eb d c a).bind fun g=>(Bf (fun(v:Bool×Int×List UInt8×Int×List Aqs)=>Et a b g v.1 v.2.1 v.2.2.1 v.2.2.2.1 v.2.2.2.2) (false,0,([]:List UInt8),0,[])).bind fun(i,j,k,l)=>some (i,j,k,l):Option (Bool×List UInt8×Int×List Aqs)).bind fun(m,n,o,p)=>if(!m)then some (({ Name:=([]:List UInt8),For:=0,Clauses:=[] }:Aqt),220) else some (({ Name:=n,For:=o,Clauses:=p }:Aqt),0)
def FP(c:List Aqy)(d:Int)(e:Int)(f:Int):Option (List Aqz×Int) :=(Ch c d e f).bind fun a=>if(a.2 != 0)then some ([],a.2) else (Ek a.1).bind fun b=>some (b.1,b.2)
def top_editionsSane  : Option (Bool) :=lt1 ([({ Ref:=({ Za:=0,No:=1 }:Aqv),By:=({ Za:=0,No:=1 }:Aqv),Zn:=0,Zo:=({ Kind:=11,Ref:=({ Za:=0,No:=0 }:Aqv),Zd:=0,Ze:=0,Zf:=0,Zg:=1,Zh:=5,To:=0,Code:=0,Zi:=0,Zj:=0,Zk:=0,Zl:=0,Text:=([116,97,114,105,102,102,32,116,32,102,111,114,32,104,105,114,101,32,123,32,99,108,97,117,115,101,32,97,32,112,97,121,32,50,32,109,111,110,101,121,59,32,125]:List UInt8),Zm:=[] }:Aqx) }:Aqy)]:List Aqy) fun(a:List Aqy)=>(Ch a 0 1 5).bind fun b=>(Ch a 0 1 4).bind fun c=>(if(b.2==0)then if(b.1.Name==([116]:List UInt8))then some (c.2==220) else some false else some false:Option (Bool)).bind fun d=>some d
def GW(d:Aqq)(b:Aqs)(a:Int):Option ((Int)⊕((Unit)⊕((Unit)⊕((Bool×Int)⊕Int)))) :=if (decide (a<(b.When.length:Int)))then if InR a b.When.length then lt1 ((nth b.When a.toNat).Attr) fun(e:Int)=>lt1 ((nth b.When a.toNat).Low) fun(f:Int)=>lt1 ((nth b.When a.toNat).High) fun(g:Int)=>(CW d e).bind fun i=>match i with
   | .inl c=>(if(decide (c<f))then some true else some (decide (c>g)):Option (Bool)).bind fun j=>if j then ((some (.inl (false,0))).bind fun k=>some (.inr k)).bind fun l=>some (.inr (.inr l)) else some (.inl (w64 (a+1)))
   |.inr m=>((some (.inr m)).bind fun n=>some (.inr n)).bind fun o=>some (.inr (.inr o)) else none else some (.inr (.inl ()))
def JF(a:Aqq)(b:Aqs):Option ((Bool×Int)⊕Int) :=((Bf (fun(v:Int)=>GW a b v) 0).bind fun x=>match x with
 |.inl ()=>some (.inl ())
 |.inr z=>some z:Option ((Unit)⊕((Bool×Int)⊕Int))).bind fun x=>match x with
 |.inl ()=>some (.inl (true,0))
 |.inr z=>some z
def Yg:(Bool×Int)⊕Int->Bool×Int
 |.inl r=>r
 |.inr e=>(false,e)
def HF(c:Aqs)(v:Aqq):Option (Bool×Int):=(JF v c).bind fun r=>some (Yg r)
def Ed(b:Aqq)(a:Int):Option ((Int)⊕((Unit)⊕((Unit)⊕(Bool)))) :=if (decide (a<16))then (if InR a 16 then if(decide ((b.V.get a.toNat)<0))then some true else if InR a 16 then some (decide ((b.V.get a.toNat)>9007199254740992)) else none else none:Option (Bool)).bind fun c=>if c then ((some true).bind fun d=>some (.inr d)).bind fun e=>some (.inr (.inr e)) else some (.inl (w64 (a+1))) else some (.inr (.inl ()))
def DX(e:Aqq)(b:Aqt×Int)(c:Int)(a:Int):Option ((Int×Int)⊕(Int)) :=if (decide (a<(b.1.Clauses.length:Int)))then (if InR a b.1.Clauses.length then lt1 ((nth b.1.Clauses a.toNat).Name) fun(f:List UInt8)=>lt1 ((nth b.1.Clauses a.toNat).When) fun(g:List Aqp)=>lt1 (((nth b.1.Clauses a.toNat).Pay).Op) fun(i:Int)=>lt1 (((nth b.1.Clauses a.toNat).Pay).N) fun(j:Int)=>lt1 (((nth b.1.Clauses a.toNat).Pay).Unit) fun(k:Arr Int 4)=>lt1 (((nth b.1.Clauses a.toNat).Pay).L) fun(l:List Aqr)=>(HF ({ Name:=f,When:=g,Pay:=(Aqr.mk i j k l) }:Aqs) e).bind fun d=>(if d.1=true then some (d.2==0) else some false:Option (Bool)).bind fun m=>if m then some (w64 (c+1)) else some c else none:Option (Int)).bind fun n=>some (.inl (n,(w64 (a+1)))) else some (.inr c)
def F4(c:List Aqy)(e:Int)(b:Int)(f:Int)(g:Aqq):Option (Bool) :=top_editionsSane.bind fun k=>if(!k)then some false else (Fz c).bind fun l=>if(!l)then some true else (Ch c e b f).bind fun a=>(FP c e b f).bind fun d=>if (a.2 != 0)then (if(d.2==a.2)then if((d.1.length:Int)==0)then some ((a.1.Clauses.length:Int)==0) else some false else some false:Option (Bool)).bind fun m=>some m else (DG a.1).bind fun i=>(Db i.1 b).bind fun j=>(if(d.2 != 0)then some true else if(i.2 != 0)then some true else if(j.2 != 0)then some true else (GI a.1 j.1).bind fun n=>if(!n)then some true else some (a.1.For != b):Option (Bool)).bind fun o=>if o then some false else ((Bf (fun(v:Int)=>Ed g v) 0).bind fun x=>match x with
     |.inl ()=>some (.inl ())
     |.inr z=>some z:Option ((Unit)⊕(Bool))).bind fun x=>match x with
     |.inl ()=>((Bf (fun(v:Int×Int)=>DX g a v.1 v.2) (0,0)).bind fun p=>some p:Option (Int)).bind fun q=>some (decide (q<=1))
     |.inr z=>some z
open Go.Rv Go.ChangeShapes Go.WideShapes Go.ChangeAt Go.RowKit
theorem Y0(H:Type)(l:List (DataW H)):(l.map (Rows.uptoBulk (H:=H))).sum=Rows.uptoBulkAll l:=by
 induction l with
 |nil=>rfl
 |cons x l ih=>simp only[Arc,Ash,ih,Rows.uptoBulkAll]
theorem HT:BulkOk (fun H=>Rows.uptoBulk (H:=H)) where
 one:=fun H d=>by
  cases d with
  |lit l=>cases l<;>simp[Rows.uptoBulk]
  |_=>simp[Rows.uptoBulk]
 str:=fun H l=>by simp[Rows.uptoBulk]
 slice:=fun H e s=>by rw[Y0];simp only[Rows.uptoBulk];omega
 agg:=fun H p=>by rw[Y0];simp only[Rows.uptoBulk];omega
theorem BJ:Tryz.prog.cellsOf 3=1:=by kernel_rfl
theorem YE:Tryz.prog.cellsOf 4=1:=by kernel_rfl
theorem YN:Tryz.prog.cellsOf 9=1:=by kernel_rfl
theorem JT:Tryz.prog.cellsOf 24=2:=by kernel_rfl
theorem NQ:Tryz.prog.cellsOf 294=3:=by kernel_rfl
theorem Wk:Tryz.prog.cellsOf 25=1:=by kernel_rfl
theorem OQ:Tryz.prog.cellsOf 27=16:=by kernel_rfl
theorem PI:Tryz.prog.cellsOf 29=21:=by kernel_rfl
theorem Qc:Tryz.prog.cellsOf 50=16:=by kernel_rfl
theorem Xz:Tryz.prog.cellsOf 52=17:=by kernel_rfl
theorem J5{P:Program}{B:∀H:Type,DataW H->Nat}{t:TypeId}{α:Type}{c:α->List AV}{sz sz':α->Nat}{ok ok':α->Prop}(h:Opens P B t c sz ok)(h1:∀x,sz' x<=sz x)(h2:∀x,ok x->ok' x):Opens P B t c sz' ok':=by
 intro H enc W pr hpr fuel cs d ps hd;obtain⟨x,e1,e2,e3,e4⟩:=h H enc W pr hpr fuel cs d ps hd;exact⟨x,e1,ArZ (h1 x) e2,h2 x e3,e4⟩
theorem Fq:Opens Tryz.prog (fun H=>Rows.uptoBulk (H:=H)) 3 IM (fun _=>1) (fun _=>True):=J5 (Acd HT Tryz.underlying3) (fun _=>AqT _) (fun _ _=>trivial)
theorem Akr:Opens Tryz.prog (fun H=>Rows.uptoBulk (H:=H)) 4 MM (fun _=>1) (fun _=>True):=ZQ HT Tryz.underlying4
theorem AmJ:Opens Tryz.prog (fun H=>Rows.uptoBulk (H:=H)) 9 Bl (fun _=>0) (fun _=>True):=J5 (Acz HT Tryz.underlying9) (fun _=>Aq5 _) (fun _ _=>trivial)
theorem V1:Opens Tryz.prog (fun H=>Rows.uptoBulk (H:=H)) 24 XH (fun _=>0) (fun _=>True) :=
 Ht HT Tryz.underlying24 (n:=2) JT (A9 (k:=1) rfl BJ (fun _=>rfl) Fq (A9 (k:=1) rfl BJ (fun _=>rfl) Fq HQ)) (fun x=>(⟨x.1,x.2.1⟩:Aqv)) (fun _=>rfl) (fun _=>rfl) (fun x=>Aq5 _) (fun _ _=>trivial)
theorem AeO:Opens Tryz.prog (fun H=>Rows.uptoBulk (H:=H)) 294 D9 (fun _=>0) (fun _=>True) :=
 Ht HT Tryz.underlying294 (n:=3) NQ (A9 (k:=1) rfl BJ (fun _=>rfl) Fq (A9 (k:=1) rfl BJ (fun _=>rfl) Fq (A9 (k:=1) rfl YE (fun _=>rfl) Akr HQ))) (fun x=>(⟨x.1,x.2.1,x.2.2.1⟩:Aqw)) (fun _=>rfl) (fun _=>rfl) (fun x=>Aq5 _) (fun _ _=>trivial)
theorem Aja:Opens Tryz.prog (fun H=>Rows.uptoBulk (H:=H)) 25 (cSl D9) (fun _=>0) (fun _=>True):=J5 (P4 HT Tryz.underlying25 NQ (fun _=>rfl) AeO) (fun _=>Aq5 _) (fun _ _=>trivial)
theorem Ain:Opens Tryz.prog (fun H=>Rows.uptoBulk (H:=H)) 27 Ua (fun _=>0) (fun _=>True) :=
 Ht HT Tryz.underlying27 (n:=16) OQ (A9 (k:=1) rfl BJ (fun _=>rfl) Fq (A9 (k:=2) rfl JT (fun _=>rfl) V1 (A9 (k:=1) rfl BJ (fun _=>rfl) Fq (A9 (k:=1) rfl BJ (fun _=>rfl) Fq (A9 (k:=1) rfl BJ (fun _=>rfl) Fq (A9 (k:=1) rfl BJ (fun _=>rfl) Fq (A9 (k:=1) rfl BJ (fun _=>rfl) Fq (A9 (k:=1) rfl BJ (fun _=>rfl) Fq (A9 (k:=1) rfl BJ (fun _=>rfl) Fq (A9 (k:=1) rfl BJ (fun _=>rfl) Fq (A9 (k:=1) rfl BJ (fun _=>rfl) Fq (A9 (k:=1) rfl BJ (fun _=>rfl) Fq (A9 (k:=1) rfl BJ (fun _=>rfl) Fq (A9 (k:=1) rfl YN (fun _=>rfl) AmJ (A9 (k:=1) rfl Wk (fun _=>rfl) Aja HQ)))))))))))))))
  (fun x=>(⟨x.1,x.2.1,x.2.2.1,x.2.2.2.1,x.2.2.2.2.1,x.2.2.2.2.2.1,x.2.2.2.2.2.2.1,x.2.2.2.2.2.2.2.1,x.2.2.2.2.2.2.2.2.1,x.2.2.2.2.2.2.2.2.2.1,x.2.2.2.2.2.2.2.2.2.2.1,x.2.2.2.2.2.2.2.2.2.2.2.1,x.2.2.2.2.2.2.2.2.2.2.2.2.1,x.2.2.2.2.2.2.2.2.2.2.2.2.2.1,x.2.2.2.2.2.2.2.2.2.2.2.2.2.2.1⟩:Aqx)) (fun _=>rfl) (fun _=>rfl) (fun x=>Aq5 _) (fun _ _=>trivial)
theorem Ahf:Opens Tryz.prog (fun H=>Rows.uptoBulk (H:=H)) 29 Ak (fun _=>1) (fun _=>True) :=
 Ht HT Tryz.underlying29 (n:=21) PI (A9 (k:=2) rfl JT (fun _=>rfl) V1 (A9 (k:=2) rfl JT (fun _=>rfl) V1 (A9 (k:=1) rfl BJ (fun _=>rfl) Fq (A9 (k:=16) rfl OQ (fun _=>rfl) Ain HQ))))
  (fun x=>(⟨x.1,x.2.1,x.2.2.1,x.2.2.2.1⟩:Aqy)) (fun _=>rfl) (fun _=>rfl) (fun x=>by show 1<=0+(0+(1+_));omega) (fun _ _=>trivial)
theorem AhT:Opens Tryz.prog (fun H=>Rows.uptoBulk (H:=H)) 22 (cSl Ak) (fun l=>l.length+1) (fun l=>l.length<=maxLen) :=
 J5 (P4 HT Tryz.underlying22 PI (fun _=>rfl) Ahf) (fun l=>by
  show l.length+1<=(l.map fun _=>1).sum+1
  have:∀m:List Aqy,m.length=(m.map fun _=>1).sum:=by
   intro m
   induction m with
   |nil=>rfl
   |cons a m ih=>simp only[AqP,Arc,Ash,<-ih];omega
  have:=this l;omega) (fun _ h=>h.1)
theorem Ais:Opens Tryz.prog (fun H=>Rows.uptoBulk (H:=H)) 50 (fun a:Arr Int 16=>C1 i64 a.l) (fun _=>0) (fun _=>True):=J5 (AcL HT Tryz.underlying50 Qc BJ Fq) (fun _=>Aq5 _) (fun _ _=>trivial)
theorem Ai8:Opens Tryz.prog (fun H=>Rows.uptoBulk (H:=H)) 52 XI (fun _=>0) (fun _=>True) :=
 Ht HT Tryz.underlying52 (n:=17) Xz
  (A9 (k:=1) rfl BJ (fun _=>rfl) Fq (A9 (k:=16) rfl Qc (fun _=>Dr) Ais HQ))
  (fun x=>(⟨x.1,x.2.1⟩:Aqq)) (fun x=>by show _=i64 x.1::(C1 i64 x.2.1.l++[]);rw[ArI];rfl) (fun x=>by show(i64 x.Has::C1 i64 x.V.l).length=17;rw[AqP,Dr])
  (fun x=>Aq5 _)
  (fun _ _=>trivial)
theorem own:ownKnob Tryz.prog.godebug=none:=by kernel_rfl
theorem AhX:laidOutB Tryz.prog=true:=by kernel_rfl
abbrev laidM:List (String×DataW Unit):=[("math/bits.deBruijn32tab", Rows.laid_math_bits_deBruijn32tab),("math/bits.deBruijn64tab", Rows.laid_math_bits_deBruijn64tab),("internal/strconv.uint64pow10", Rows.laid_internal_strconv_uint64pow10),("unicode/utf8.acceptRanges", Rows.laid_unicode_utf8_acceptRanges),("unicode.White_Space", Rows.laid_unicode_White_Space),("strings.asciiSpace", Rows.laid_strings_asciiSpace),("wagonpool/tlex.signs", Rows.laid_wagonpool_tlex_signs),("wagonpool/tlex.reserved", Rows.laid_wagonpool_tlex_reserved),("unicode/utf8.first", Rows.laid_unicode_utf8_first)]
theorem Akn:(Rows.laid_wagonpool_tlex_signs:DataW Unit)=.map (tab3.map fun p=>(Lit.int .u8 (p.1.toNat:Int),.lit (.string p.2))):=by kernel_rfl
theorem AjK:(Rows.laid_wagonpool_tlex_reserved:DataW Unit)=.map (tab1.map fun p=>(Lit.string p.1,.lit (.bool p.2))):=by kernel_rfl
theorem AmS:(Rows.laid_strings_asciiSpace:DataW Unit)=Lib.tabData .u8 (glob0.l.map fun c=>(c.toNat:Int)):=by kernel_rfl
theorem Amg:(Rows.laid_internal_strconv_uint64pow10:DataW Unit)=Lib.tabData .u64 Lib.pow10Tab:=by kernel_rfl
noncomputable def Ad7(os:Os):World:=(World.doorLaid Tryz.prog 400 os).layVars Tryz.prog (laidM.filter fun x=>["unicode/utf8.first"].contains x.1)
theorem AeH(os:Os)(args:Array Value):laidMetH Tryz.prog laidM ((Ad7 os).forCall (fun _ _=>0) ⟨#[],args,[]⟩).memory:=by
 rw[MakeChecks.laidMetH_plain _ _ _ (by kernel_rfl)]
 have h:laidMet Tryz.prog laidM (Ad7 os):=laidMet_layVars (w0:=World.doorLaid Tryz.prog 400 os) (w':=Ad7 os) ["unicode/utf8.first"] ((List.range 20).filter (· != 5)) rfl (by kernel_rfl) (by kernel_rfl)
  (LaidIn.of_run _ 8 (by kernel_rfl) (by kernel_rfl) (by kernel_rfl) (by kernel_rfl))
 exact h.of_heap (by simp[World.memory,World.forCall,Input.heap])
theorem ans1:∀p∈tab1,QK (fun k=>.str k) (fun x=>.bool x) tab1 (.str p.1)=some (.bool p.2):=by
 have h:(tab1.all fun p=>match QK (fun k=>.str k) (fun x=>.bool x) tab1 (.str p.1)with|some (.bool b)=>b==p.2|_=>false)=true:=by decide +kernel
 intro p hp;have:=AqW.1 h p hp;split at this
 ·rename_i b hb;rw[hb];rw[ArO]at this;rw[this]
 cases this
theorem ans0:∀p∈tab3,QK (fun k=>u8 k) (fun x=>.str x) tab3 (u8 p.1)=some (.str p.2):=by
 have h:(tab3.all fun p=>match QK (fun k=>u8 k) (fun x=>.str x) tab3 (u8 p.1)with|some (.str b)=>b==p.2|_=>false)=true:=by decide +kernel
 intro p hp;have:=AqW.1 h p hp;split at this
 ·rename_i b hb;rw[hb];rw[ArO]at this;rw[this]
 cases this
theorem Ms{P:Program}{w:World}:∀{l:List (String×DataW Unit)} {ps:List MemPlace},DataW.LaidVars P w l ps->∀x∈l,∃g t cs fuel p,P.globalNamed x.1=some g/\(P.globals[g]?).map (·.type)=some t/\w.var? P x.1=some cs /\DataW.trod (fun _=>()) P w 0 (fun _=>true) false fuel t cs.toList=some (x.2,p)
 |[],_,_,x,hx=>by cases hx
 |(n,d)::r,ps,⟨g,t,cs,fuel,p,q,hg,ht,hv,hd,hr,_⟩,x,hx=>by
  rcases Aq9.1 hx with rfl|hx
  ·exact⟨g,t,cs,fuel,p,hg,ht,hv,hd⟩
  exact Ms hr x hx
theorem AhF{W:World}(hw:∃t o,W.heap[7]?=some (.cells ((Lib.pow10Tab.map fun z=>Value.int .u64 z).toArray) t o)){c0 c1 c2:Array Value}{f0 f1 f2:Nat}{p0 p1 p2:List MemPlace}(hv0:W.var? Tryz.prog "wagonpool/tlex.signs" = some c0) (hv1:W.var? Tryz.prog "wagonpool/tlex.reserved" = some c1) (hv2:W.var? Tryz.prog "strings.asciiSpace" = some c2) (hd0:DataW.trod (fun _=>()) Tryz.prog W 0 (fun _=>true) false f0 214 c0.toList=some (Rows.laid_wagonpool_tlex_signs,p0)) (hd1:DataW.trod (fun _=>()) Tryz.prog W 0 (fun _=>true) false f1 120 c1.toList=some (Rows.laid_wagonpool_tlex_reserved,p1)) (hd2:DataW.trod (fun _=>()) Tryz.prog W 0 (fun _=>true) false f2 123 c2.toList=some (Rows.laid_strings_asciiSpace,p2)) :∃r:Nat->Nat,Mem ((B ⟨r,none⟩).env noF) W [] []:=by
 rw[Akn]at hd0;rw[AjK]at hd1;rw[AmS]at hd2
 obtain⟨r0,e0,m0⟩:=UG (cK:=fun k=>u8 k) (cV:=fun x=>.str x) (lK:=fun k:UInt8=>Lit.int .u8 (k.toNat:Int)) (lV:=fun x:List UInt8=>Lit.string x) (zv:=.str []) Tryz.underlying214 Tryz.underlying5 (fun w=>by kernel_rfl) rfl hd0 (fun _=>rfl) (fun _=>rfl)
  (fun v a h=>AkP Tryz.underlying5 h) (fun n v b pl h=>Aiv Tryz.underlying9 h) ans0
 obtain⟨r1,e1,m1⟩:=UG (cK:=fun k=>.str k) (cV:=fun x=>.bool x) (lK:=fun k:List UInt8=>Lit.string k) (lV:=fun x:Bool=>Lit.bool x) (zv:=.bool false) Tryz.underlying120 Tryz.underlying9 (fun w=>by kernel_rfl) rfl hd1 (fun _=>rfl) (fun _=>rfl)
  (fun v a h=>AiI Tryz.underlying9 h) (fun n v b pl h=>AeX Tryz.underlying4 h) ans1
 have g0:W.cell? ⟨3,0,none⟩=some (.map (some r0)):=by
  have:=World.var?_cell (show Tryz.prog.globalNamed "wagonpool/tlex.signs" = some 3 by kernel_rfl) hv0 0;rw[this,Array.eq_one_of_toList e0];rfl
 have g1:W.cell? ⟨1,0,none⟩=some (.map (some r1)):=by
  have:=World.var?_cell (show Tryz.prog.globalNamed "wagonpool/tlex.reserved" = some 1 by kernel_rfl) hv1 0;rw[this,Array.eq_one_of_toList e1];rfl
 have hc:=Lib.cells_of_tab (n:=256) Tryz.underlying123 Tryz.underlying5 (by kernel_rfl) (by kernel_rfl) hd2
 have g2:∀j,j<256->W.cell? ⟨0,j,none⟩=some (.int .u8 ((glob0.get j).toNat:Int)):=by
  intro j hj;have:=World.var?_cell (show Tryz.prog.globalNamed "strings.asciiSpace" = some 0 by kernel_rfl) hv2 j;rw[this,<-ArR,hc,Atk,Aq8];have hl:j<glob0.l.length:=by rw[glob0.h];exact hj
  rw[AqH hl];simp[Arr.get,nth,hl]
 refine⟨fun i=>if i=3 then r0 else r1,rfl,fun id b ab h=>by simp at h,fun id id' b b' β h=>by simp at h,fun a h=>h.elim,fun i cs hG=>?_,fun t m h=>?_,fun i p h=>?_⟩
 ·have hG':(if i=1 then some [AV.val (.map (some r1))]else if i=3 then some [AV.val (.map (some r0))]else if i=0 then some (C1 u8 glob0.l)else none)=some cs:=hG;by_cases hi:i=3
  ·subst hi;rw[AqI (by decide),AqJ rfl]at hG';cases hG';refine⟨cell?_lt g0,(by rintro⟨id,b,hb,_⟩;simp at hb),fun _ hf=>hf,fun j=>.map (some r0),fun j x hj=>?_⟩;cases j with
   |zero=>cases hj;exact⟨g0,.val _ _ rfl,rfl⟩
   |succ j=>simp at hj
  by_cases hi1:i=1
  ·subst hi1;rw[AqJ rfl]at hG';cases hG';refine⟨cell?_lt g1,(by rintro⟨id,b,hb,_⟩;simp at hb),fun _ hf=>hf,fun j=>.map (some r1),fun j x hj=>?_⟩;cases j with
   |zero=>cases hj;exact⟨g1,.val _ _ rfl,rfl⟩
   |succ j=>simp at hj
  rw[AqI hi1,AqI hi]at hG';by_cases hi2:i=0
  ·rw[AqJ hi2]at hG';cases hG';subst hi2;refine⟨cell?_lt (g2 0 (by decide)),(by rintro⟨id,b,hb,_⟩;simp at hb),fun _ hf=>hf,fun j=>.int .u8 ((glob0.get j).toNat:Int),fun j x hj=>?_⟩
   have hj':j<256:=by
    have:=(AqD.1 hj).1;rwa[Dr]at this
   rw[Yn hj']at hj;cases hj;exact⟨g2 j hj',.int _ _ _,rfl⟩
  rw[AqI hi2]at hG';cases hG'
 ·have h':(if t=120 then some (⟨r1,9,4,.string,.bool false,QK (fun k=>.str k) (fun x=>.bool x) tab1⟩:MapS)else if t=214 then some ⟨r0,5,9,.int .u8,.str ([]:List UInt8),QK (fun k=>u8 k) (fun x=>.str x) tab3⟩else if t=138 then none else none)=some m:=h;by_cases ht:t=120
  ·rw[AqJ ht]at h';cases h';subst ht;exact m1
  rw[AqI ht]at h';by_cases ht2:t=214
  ·rw[AqJ ht2]at h';cases h';subst ht2;exact m0
  rw[AqI ht2]at h';split at h'<;>cases h'
 have h':(if i=7 then some ((Lib.pow10Tab.map fun z=>Value.int .u64 z).toArray)else none)=some p:=h;by_cases hi:i=7
 ·rw[AqJ hi]at h';cases h';subst hi;exact⟨(by rintro⟨id,b,hb,_⟩;simp at hb),hw⟩
 rw[AqI hi]at h';cases h'
theorem Ad3{W:World}(h:laidMetH Tryz.prog laidM W):∃r:Nat->Nat,Mem ((B ⟨r,none⟩).env noF) W [] []:=by
 rw[MakeChecks.laidMetH_plain _ _ _ (by kernel_rfl)]at h;obtain⟨ps,hl,_⟩:=h
 have hw:∃t o,W.heap[7]?=some (.cells ((Lib.pow10Tab.map fun z=>Value.int .u64 z).toArray) t o):=by
  obtain⟨g0,t0,cs0,f0,p0,hg0,ht0,hv0,hd0⟩:=Ms hl ("internal/strconv.uint64pow10", Rows.laid_internal_strconv_uint64pow10) (by simp[laidM]);obtain rfl:=AqF ((show Tryz.prog.globalNamed "internal/strconv.uint64pow10" = some 7 by kernel_rfl).symm.trans hg0);obtain rfl:=AqF ((show(Tryz.prog.globals[7]?).map (·.type)=some 275 by kernel_rfl).symm.trans ht0);simp only[Amg]at hd0;have hc:=Lib.cells_of_tab (n:=20) Tryz.underlying275 Tryz.underlying249 (by kernel_rfl) (by kernel_rfl) hd0;unfold World.var? at hv0;rw[show Tryz.prog.globalNamed "internal/strconv.uint64pow10" = some 7 by kernel_rfl,ArL]at hv0;split at hv0
  ·rename_i c t o hcell;cases hv0;rw[<-hc];exact⟨t,o,hcell⟩
  cases hv0
 obtain⟨g0,t0,cs0,f0,p0,hg0,ht0,hv0,hd0⟩:=Ms hl ("wagonpool/tlex.signs", Rows.laid_wagonpool_tlex_signs) (by simp[laidM]);obtain⟨g1,t1,cs1,f1,p1,hg1,ht1,hv1,hd1⟩:=Ms hl ("wagonpool/tlex.reserved", Rows.laid_wagonpool_tlex_reserved) (by simp[laidM]);obtain⟨g2,t2,cs2,f2,p2,hg2,ht2,hv2,hd2⟩:=Ms hl ("strings.asciiSpace", Rows.laid_strings_asciiSpace) (by simp[laidM]);obtain rfl:=AqF ((show Tryz.prog.globalNamed "wagonpool/tlex.signs" = some 3 by kernel_rfl).symm.trans hg0);obtain rfl:=AqF ((show Tryz.prog.globalNamed "wagonpool/tlex.reserved" = some 1 by kernel_rfl).symm.trans hg1);obtain rfl:=AqF ((show Tryz.prog.globalNamed "strings.asciiSpace" = some 0 by kernel_rfl).symm.trans hg2);obtain rfl:=AqF ((show(Tryz.prog.globals[3]?).map (·.type)=some 214 by kernel_rfl).symm.trans ht0);obtain rfl:=AqF ((show(Tryz.prog.globals[1]?).map (·.type)=some 120 by kernel_rfl).symm.trans ht1);obtain rfl:=AqF ((show(Tryz.prog.globals[0]?).map (·.type)=some 123 by kernel_rfl).symm.trans ht2);exact AhF hw hv0 hv1 hv2 hd0 hd1 hd2
theorem Aar{rs:Aqm}{f:FuncId}{avs:List AV}(h:Con (B rs) f avs [] (fun r O'=>r=.bool true/\O'=[])){fn:Func}{c:Code}(hf:Tryz.prog.funcs[f]?=some fn)(hb:fn.body=some c)(hn:(fn.name == "runtime.NumGoroutine")=false) {W:World} (hm:Mem ((B rs).env noF) W [] []) {args:Array Value} (ha:Cj W (Ay ((B rs).env noF) []) [] args.toList avs):Calls Tryz.prog f args W fun e W'=>e=.returned (.bool true)/\Below W.heap.size W W':=by
 refine((h.call (fun _=>False) W [] args hm ha).calls hf hb hn).mono ?_;rintro e w' ⟨v,r,O',g',rfl,⟨rfl,rfl⟩,hm,he,hr⟩;exact⟨by rw[Fb hr],he.below⟩
set_option maxHeartbeats 4000000
theorem tt20:Ku Tryz.prog 20=some ⟨.interface #[],1,16,[.val .nilIface]⟩:=by kernel_rfl
theorem if20{rs:Aqm}(F:Out):Oy ((B rs).env F) 20=true:=Afk ((GS Tryz.prog 20).trans tt20)
theorem AmB{w:World}{pr:Addr->Prop}{g:Gh}(t:TypeId)(x:Int):Rep w pr g (.iface t (.agg #[.int .i64 x])) (.iface t (.agg [i64 x])):=by
 refine .iface _ _ _ _ (.agg _ _ _ rfl (fun i z h=>?_) (fun i z h=>?_))
 ·match i,h with
  |0,h=>cases h;rfl
 match i,h with
 |0,h=>cases h;exact .int _ _ _
theorem Q3{rs:Aqm}{a0:AV}:Aj8 (B rs) 29 (JZ 1) [.box [a0] false] .returning .returning [.box [a0] false]:=by
 intro F w g vs hm ha;have hE:=(ok (rs:=rs)).env F;obtain⟨vs⟩:=vs
 match vs,ha with
 | [p_],⟨hp,_⟩=>
  refine callsD_of_wpS Tryz.func29 rfl fun c₀ cs hu=>?_
  refine wpS_seq (wpS_region ?_);show wpOpsS (B rs).P _ _ [0] _ _ _;refine Vc _ ⟨#[p_,undef,undef,undef,undef,.nilIface,undef,undef,undef,undef,undef,undef,undef,undef,undef],[]⟩ rfl rfl rfl hu rfl ?_
  have hr:Rel ((B rs).env F) w g ⟨Ah 15 [(5,.val .nilIface),(0,.ref 0 0)],[.box [a0] false]⟩ ⟨#[p_,undef,undef,undef,undef,.nilIface,undef,undef,undef,undef,undef,undef,undef,undef,undef],[]⟩:=by
   refine⟨rfl,JG ?_,hm,.plain rfl⟩;intro p h;simp only[Aq9,Asf,Att]at h;rcases h with rfl|rfl
   ·exact .val _ _ rfl
   exact hp
  refine OE ?_;refine Le (n:=1) (fr':=Ah 15 []) rfl (Evo.refl _ _ _ _) hr ?_;refine OS ?_;refine EX hE [7] (fr':=[(7,.bool true)]) (O':=[.box [a0] false]) ⟨_,Aa,by simp only[go_sem,if20,goB]⟩ ?_;refine Gm (b:=true) rfl (by decide) (fun _=>?_) (fun hb=>by cases hb);exact C8 hE (Eo X0) [] (fr':=[]) (O':=[.box [a0] false]) ⟨_,Aa,by simp only[go_sem]⟩ Tu
theorem YX{rs:Aqm}{a0:AV}{x_:Int}:Aj8 (B rs) 29 (JZ 1) [.box [a0] false] (.panicking (Oi (.iface 137 (.agg #[.int .i64 x_])))) (.panicking [{ v:=(.iface 137 (.agg #[.int .i64 x_])),recovered:=true }]) [.box [i64 x_] false,.box [i64 x_] false]:=by
 intro F w g vs hm ha;have hE:=(ok (rs:=rs)).env F;have hbty:((B rs).env F).bty=none:=rfl;obtain⟨vs⟩:=vs
 match vs,ha with
 | [p_],⟨hp,_⟩=>
  refine callsD_of_wpS Tryz.func29 rfl fun c₀ cs hu=>?_
  refine wpS_seq (wpS_region ?_);show wpOpsS (B rs).P _ _ [0] _ _ _;refine Qe _ (.iface 137 (.agg #[.int .i64 x_])) [] ⟨#[p_,undef,undef,undef,undef,(.iface 137 (.agg #[.int .i64 x_])),undef,undef,undef,undef,undef,undef,undef,undef,undef],[]⟩ rfl rfl rfl hu rfl ?_
  have hr:Rel ((B rs).env F) w g ⟨Ah 15 [(5,.iface 137 (.agg [i64 x_])),(0,.ref 0 0)],[.box [a0] false]⟩ ⟨#[p_,undef,undef,undef,undef,(.iface 137 (.agg #[.int .i64 x_])),undef,undef,undef,undef,undef,undef,undef,undef,undef],[]⟩:=by
   refine⟨rfl,JG ?_,hm,.plain rfl⟩;intro p h;simp only[Aq9,Asf,Att]at h;rcases h with rfl|rfl
   ·exact AmB _ _
   exact hp
  refine OE ?_;refine Le (n:=1) (fr':=Ah 15 []) rfl (Evo.refl _ _ _ _) hr ?_;refine OS ?_;refine EX hE [0,5,7] (fr':=[(0,.ref 0 0),(5,.iface 137 (.agg [i64 x_])),(7,.bool false)]) (O':=[.box [a0] false]) ⟨_,Aa,by simp only[go_sem,if20,goB]⟩ ?_;refine Gm (b:=false) rfl (by decide) (fun hb=>by cases hb) (fun _=>?_);refine EX hE [0,9,10] (fr':=[(0,.ref 0 0),(9,.bool true),(10,.agg [i64 x_])]) (O':=[.box [a0] false]) ⟨_,Aa,by simp only[go_sem,Me,AmH,Xb]⟩ ?_;refine Gm (b:=true) rfl (by decide) (fun _=>?_) (fun hb=>by cases hb);refine EX hE [0,3] (fr':=[(0,.ref 0 0),(3,.ref 1 0)]) (O':=[.box [a0] false,.box [i64 x_] false]) ⟨_,Aa,by simp only[go_sem,hbty,reduceCtorEq,Arx]⟩ ?_;exact C8 hE (Eo X0) [] (fr':=[]) (O':=[.box [i64 x_] false,.box [i64 x_] false]) ⟨_,Aa,by simp only[go_sem]⟩ Tu
end Go.Proofs.YtldngkmkhfddpaaGreatDoor
