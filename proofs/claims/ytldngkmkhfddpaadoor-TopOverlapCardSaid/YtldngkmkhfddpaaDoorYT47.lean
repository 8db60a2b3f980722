/-
  Part 47.
-/
import Derived.Test.YtldngkmkhfddpaaDoorProg
import Derived.Test.YtldngkmkhfddpaaDoorRows
import Derived.Test.YtldngkmkhfddpaaDoorYT26
import Derived.Test.YtldngkmkhfddpaaDoorYT33
import Derived.Test.YtldngkmkhfddpaaDoorYT46
import Derived.KernelRfl
import Derived.WalkKit
import Derived.ProofKit
import Derived.OpenShut
import Derived.JoinedCond
import Derived.LaidMore
import Derived.Lay
import Derived.SevenTiedAt
import Derived.Stop.Joined
import Derived.Lib.LaidTab
namespace Go.Proofs.YtldngkmkhfddpaaDoor
open Go.Rv
set_option linter.unusedVariables false
set_option linter.unusedSimpArgs false
set_option maxRecDepth 20000
def glob2:Arr UInt8 256:=⟨[0,0,0,0,0,0,0,0,0,1,1,1,1,1,0,0,0,0,0,0,0,0,0,0,0,0,0,0,0,0,0,0,1,0,0,0,0,0,0,0,0,0,0,0,0,0,0,0,0,0,0,0,0,0,0,0,0,0,0,0,0,0,0,0,0,0,0,0,0,0,0,0,0,0,0,0,0,0,0,0,0,0,0,0,0,0,0,0,0,0,0,0,0,0,0,0,0,0,0,0,0,0,0,0,0,0,0,0,0,0,0,0,0,0,0,0,0,0,0,0,0,0,0,0,0,0,0,0,0,0,0,0,0,0,0,0,0,0,0,0,0,0,0,0,0,0,0,0,0,0,0,0,0,0,0,0,0,0,0,0,0,0,0,0,0,0,0,0,0,0,0,0,0,0,0,0,0,0,0,0,0,0,0,0,0,0,0,0,0,0,0,0,0,0,0,0,0,0,0,0,0,0,0,0,0,0,0,0,0,0,0,0,0,0,0,0,0,0,0,0,0,0,0,0,0,0,0,0,0,0,0,0,0,0,0,0,0,0,0,0,0,0,0,0,0,0,0,0,0,0,0,0,0,0,0,0],rfl⟩
def tab0:List (UInt8×List UInt8):=[(40,[40]),(41,[41]),(42,[42]),(43,[43]),(44,[44]),(45,[45]),(46,[46,46]),(59,[59]),(60,[60]),(123,[123]),(125,[125])]
def tab1:List (List UInt8×Bool):=[([97,110,100],true),([98,101,103,105,110],true),([99,108,97,115,115],true),([99,108,97,117,115,101],true),([99,108,101,97,110,105,110,103],true),([99,111,100,101],true),([99,111,115,116],true),([100,101,109,117,114,114,97,103,101],true),([100,111,119,110],true),([102,111,114],true),([102,114,101,105,103,104,116],true),([104,97,108,102],true),([104,105,114,101],true),([105,102],true),([105,110],true),([105,115],true),([107,103],true),([107,109],true),([108,111,115,115],true),([109,97,120],true),([109,105,110],true),([109,105,110,117,116,101],true),([109,105,110,117,116,101,115],true),([109,111,110,101,121],true),([109,111,110,116,104],true),([111,119,110,101,114],true),([112,97,114,116],true),([112,97,114,116,115],true),([112,97,121],true),([112,101,114],true),([114,97,105,108,119,97,121],true),([114,101,112,97,105,114],true),([115,104,105,112,112,101,114],true),([116,97,114,105,102,102],true),([116,121,112,101],true),([117,112],true),([119,101,105,103,104,116],true),([119,104,101,110],true),([119,111,114,107,105,110,103],true),([119,111,114,116,104],true)]
structure RS where
  r:Nat→Nat
  ev:Option (Nat×Nat×Int×Arr Int 16)
instance:CoeFun RS fun _=>Nat→Nat:=⟨RS.r⟩
variable {rs:RS}
def D5(b:Nat):AV→Option AV
 |.int .i64 n=>if n=3 then some (.fn 38 [.tup [.glob b]])else if n=4 then some (.fn 39 [.tup [.glob b]])else if n=5 then some (.fn 40 [.tup [.glob b]])else if n=6 then some (.fn 41 [.tup [.glob b]])else if n=7 then some (.fn 42 [.tup [.glob b]])else if n=8 then some (.fn 43 [.tup [.glob b]])else if n=9 then some (.fn 44 [.tup [.glob b]])else if n=10 then some (.fn 45 [.tup [.glob b]])else if n=11 then some (.fn 46 [.tup [.glob b]])else none
 |_=>none
attribute [go_sem_proc] reduceIte Nat.reduceLT Nat.reduceEqDiff Nat.reduceAdd Nat.reduceBEq Nat.reduceMul Nat.reduceSub Nat.reduceGT Nat.reducePow Nat.reduceLeDiff Int.reduceToNat Int.reduceLT Int.reduceAdd Int.reduceSub Nat.reduceGT Nat.reduceLeDiff Int.reduceBEq Int.reduceGT Int.reduceLE Int.reduceGE
attribute [go_sem] Acu decide_true decide_false Bool.false_eq_true beq_self_eq_true
noncomputable def B(rs:RS):Base:=Pq Tryd.prog (fun i=>if i=0 then some [.val (.map (some (rs 0)))]else if i=1 then some [.val (.map (some (rs 1)))]else if i=2 then some (C1 u8 glob2.l)else match rs.ev with|some (b,m,has,v)=>if i=b+3 then some (i64 has::(C1 i64 v.l++[.val (.map (some m))]))else none|none=>none) (fun f xs=>[11,12,13,14,15,16,17,22,26,28,29,30,31,32,38,39,40,41,42,43,44,45,46,48,58,59,60,61,62,63,64,65,67,70,76,77].contains f||(f==1000000&&xs.isEmpty)) (fun t=>if t=107 then some ⟨rs 0,5,9,.int .u8,.str ([]:List UInt8),N6 (fun k=>u8 k) (fun x=>.str x) tab0⟩else if t=109 then some ⟨rs 1,9,4,.string,.bool false,N6 (fun k=>.str k) (fun x=>.bool x) tab1⟩else if t=99 then(match rs.ev with|some (b,m,_,_)=>some ⟨m,3,102,.int .i64,.val .nilFunc,D5 (b+3)⟩|none=>none)else none)
theorem tbk{t F x}(h:JY Tryd.prog t=x):((B rs).env F).tab t=x:=(EY Tryd.prog t).trans h
theorem ok:(B rs).Ok:=Mc _ _ _ _
theorem own3(F:Out)(xs:List Operand):((B rs).env F).own 3 xs=false:=rfl
theorem own4(F:Out)(xs:List Operand):((B rs).env F).own 4 xs=false:=rfl
theorem own5(F:Out)(xs:List Operand):((B rs).env F).own 5 xs=false:=rfl
theorem own6(F:Out)(xs:List Operand):((B rs).env F).own 6 xs=false:=rfl
theorem own7(F:Out)(xs:List Operand):((B rs).env F).own 7 xs=false:=rfl
theorem own8(F:Out)(xs:List Operand):((B rs).env F).own 8 xs=false:=rfl
theorem own9(F:Out)(xs:List Operand):((B rs).env F).own 9 xs=false:=rfl
theorem Aeg(F:Out)(xs:List Operand):((B rs).env F).own 11 xs=true:=rfl
theorem Ad9(F:Out)(xs:List Operand):((B rs).env F).own 12 xs=true:=rfl
theorem Adn(F:Out)(xs:List Operand):((B rs).env F).own 13 xs=true:=rfl
theorem AeJ(F:Out)(xs:List Operand):((B rs).env F).own 14 xs=true:=rfl
theorem AcM(F:Out)(xs:List Operand):((B rs).env F).own 15 xs=true:=rfl
theorem AeP(F:Out)(xs:List Operand):((B rs).env F).own 16 xs=true:=rfl
theorem AdS(F:Out)(xs:List Operand):((B rs).env F).own 17 xs=true:=rfl
theorem Adi(F:Out)(xs:List Operand):((B rs).env F).own 18 xs=false:=rfl
theorem Ad5(F:Out)(xs:List Operand):((B rs).env F).own 19 xs=false:=rfl
theorem AdO(F:Out)(xs:List Operand):((B rs).env F).own 22 xs=true:=rfl
theorem Ac2(F:Out)(xs:List Operand):((B rs).env F).own 23 xs=false:=rfl
theorem AcS(F:Out)(xs:List Operand):((B rs).env F).own 24 xs=false:=rfl
theorem Ado(F:Out)(xs:List Operand):((B rs).env F).own 25 xs=false:=rfl
theorem AeD(F:Out)(xs:List Operand):((B rs).env F).own 26 xs=true:=rfl
theorem Ad4(F:Out)(xs:List Operand):((B rs).env F).own 27 xs=false:=rfl
theorem Adg(F:Out)(xs:List Operand):((B rs).env F).own 28 xs=true:=rfl
theorem Aeb(F:Out)(xs:List Operand):((B rs).env F).own 29 xs=true:=rfl
theorem AcX(F:Out)(xs:List Operand):((B rs).env F).own 30 xs=true:=rfl
theorem Ads(F:Out)(xs:List Operand):((B rs).env F).own 31 xs=true:=rfl
theorem AeR(F:Out)(xs:List Operand):((B rs).env F).own 32 xs=true:=rfl
theorem Adt(F:Out)(xs:List Operand):((B rs).env F).own 33 xs=false:=rfl
theorem AcY(F:Out)(xs:List Operand):((B rs).env F).own 34 xs=false:=rfl
theorem AcF(F:Out)(xs:List Operand):((B rs).env F).own 35 xs=false:=rfl
theorem Aee(F:Out)(xs:List Operand):((B rs).env F).own 36 xs=false:=rfl
theorem AdL(F:Out)(xs:List Operand):((B rs).env F).own 37 xs=false:=rfl
theorem Ac4(F:Out)(xs:List Operand):((B rs).env F).own 38 xs=true:=rfl
theorem Ad8(F:Out)(xs:List Operand):((B rs).env F).own 39 xs=true:=rfl
theorem Acq(F:Out)(xs:List Operand):((B rs).env F).own 40 xs=true:=rfl
theorem Ad0(F:Out)(xs:List Operand):((B rs).env F).own 41 xs=true:=rfl
theorem AcJ(F:Out)(xs:List Operand):((B rs).env F).own 42 xs=true:=rfl
theorem Aev(F:Out)(xs:List Operand):((B rs).env F).own 43 xs=true:=rfl
theorem AdT(F:Out)(xs:List Operand):((B rs).env F).own 44 xs=true:=rfl
theorem AdP(F:Out)(xs:List Operand):((B rs).env F).own 45 xs=true:=rfl
theorem Ad7(F:Out)(xs:List Operand):((B rs).env F).own 46 xs=true:=rfl
theorem Ad1(F:Out)(xs:List Operand):((B rs).env F).own 47 xs=false:=rfl
theorem Adb(F:Out)(xs:List Operand):((B rs).env F).own 48 xs=true:=rfl
theorem AcE(F:Out)(xs:List Operand):((B rs).env F).own 49 xs=false:=rfl
theorem Acz(F:Out)(xs:List Operand):((B rs).env F).own 50 xs=false:=rfl
theorem Aeq(F:Out)(xs:List Operand):((B rs).env F).own 51 xs=false:=rfl
theorem Aek(F:Out)(xs:List Operand):((B rs).env F).own 52 xs=false:=rfl
theorem Adj(F:Out)(xs:List Operand):((B rs).env F).own 53 xs=false:=rfl
theorem Ac9(F:Out)(xs:List Operand):((B rs).env F).own 54 xs=false:=rfl
theorem AcZ(F:Out)(xs:List Operand):((B rs).env F).own 55 xs=false:=rfl
theorem AdC(F:Out)(xs:List Operand):((B rs).env F).own 56 xs=false:=rfl
theorem Adu(F:Out)(xs:List Operand):((B rs).env F).own 57 xs=false:=rfl
theorem AeO(F:Out)(xs:List Operand):((B rs).env F).own 58 xs=true:=rfl
theorem AdU(F:Out)(xs:List Operand):((B rs).env F).own 59 xs=true:=rfl
theorem AeN(F:Out)(xs:List Operand):((B rs).env F).own 60 xs=true:=rfl
theorem Adl(F:Out)(xs:List Operand):((B rs).env F).own 61 xs=true:=rfl
theorem Aea(F:Out)(xs:List Operand):((B rs).env F).own 62 xs=true:=rfl
theorem Ac3(F:Out)(xs:List Operand):((B rs).env F).own 63 xs=true:=rfl
theorem AdN(F:Out)(xs:List Operand):((B rs).env F).own 64 xs=true:=rfl
theorem Aef(F:Out)(xs:List Operand):((B rs).env F).own 65 xs=true:=rfl
theorem AeM(F:Out)(xs:List Operand):((B rs).env F).own 66 xs=false:=rfl
theorem Acx(F:Out)(xs:List Operand):((B rs).env F).own 67 xs=true:=rfl
theorem Aei(F:Out)(xs:List Operand):((B rs).env F).own 68 xs=false:=rfl
theorem Ad6(F:Out)(xs:List Operand):((B rs).env F).own 69 xs=false:=rfl
theorem Aep(F:Out)(xs:List Operand):((B rs).env F).own 70 xs=true:=rfl
theorem Aes(F:Out)(xs:List Operand):((B rs).env F).own 71 xs=false:=rfl
theorem Aeh(F:Out)(xs:List Operand):((B rs).env F).own 72 xs=false:=rfl
theorem AdA(F:Out)(xs:List Operand):((B rs).env F).own 73 xs=false:=rfl
theorem AdZ(F:Out)(xs:List Operand):((B rs).env F).own 76 xs=true:=rfl
theorem AeQ(F:Out)(xs:List Operand):((B rs).env F).own 77 xs=true:=rfl
theorem AdQ(F:Out)(xs:List Operand):((B rs).env F).own 78 xs=false:=rfl
theorem AeV(F:Out)(xs:List Operand):((B rs).env F).own 79 xs=false:=rfl
theorem Adh(F:Out)(xs:List Operand):((B rs).env F).own 80 xs=false:=rfl
theorem AdG(F:Out)(xs:List Operand):((B rs).env F).own 81 xs=false:=rfl
theorem Aez(F:Out)(xs:List Operand):((B rs).env F).own 82 xs=false:=rfl
theorem YM(F:Out):((B rs).env F).own 1000000 []=true:=rfl
theorem YU(F:Out)(x:Operand)(xs:List Operand):((B rs).env F).own 1000000 (x::xs)=false:=rfl
attribute [go_sem] YM YU
theorem Dl:Tryd.prog.follows .mixedOrders=true:=by kernel_rfl
theorem BX{F:Out}{b_ m_:Nat}{has:Int}{v:Arr Int 16}(hev:rs.ev=some (b_,m_,has,v)):((B rs).env F).G (b_+3)=some (i64 has::(C1 i64 v.l++[.val (.map (some m_))])):=by
 have h0:((B rs).env F).G (b_+3)=(if(b_+3)=0 then some [.val (.map (some (rs 0)))]else if(b_+3)=1 then some [.val (.map (some (rs 1)))]else if(b_+3)=2 then some (C1 u8 glob2.l)else match rs.ev with|some (b,m,has,v)=>if(b_+3)=b+3 then some (i64 has::(C1 i64 v.l++[.val (.map (some m))]))else none|none=>none):=rfl
 rw[h0,if_neg (by omega),if_neg (by omega),if_neg (by omega),hev]
 exact if_pos rfl
theorem Ya{F:Out}{b_ m_:Nat}{has:Int}{v:Arr Int 16}(hev:rs.ev=some (b_,m_,has,v)):BD ((B rs).env F) 99 (.val (.map (some m_))) (i64 3) false=some (.fn 38 [.tup [.glob (b_+3)]]):=by
 have h:((B rs).env F).maps 99=some ⟨m_,3,102,.int .i64,.val .nilFunc,D5 (b_+3)⟩:=by
  show(match rs.ev with|some (b,m,_,_)=>some (⟨m,3,102,.int .i64,.val .nilFunc,D5 (b+3)⟩:MapS)|none=>none)=_
  rw[hev]
 unfold BD
 rw[h]
 show(if m_=m_∧R9 (.int .i64) (i64 3)=true then some ((D5 (b_+3) (i64 3)).getD (.val .nilFunc))else none)=_
 rw[if_pos ⟨rfl,rfl⟩]
 rfl
theorem Y1{F:Out}{b_ m_:Nat}{has:Int}{v:Arr Int 16}(hev:rs.ev=some (b_,m_,has,v)):BD ((B rs).env F) 99 (.val (.map (some m_))) (i64 4) false=some (.fn 39 [.tup [.glob (b_+3)]]):=by
 have h:((B rs).env F).maps 99=some ⟨m_,3,102,.int .i64,.val .nilFunc,D5 (b_+3)⟩:=by
  show(match rs.ev with|some (b,m,_,_)=>some (⟨m,3,102,.int .i64,.val .nilFunc,D5 (b+3)⟩:MapS)|none=>none)=_
  rw[hev]
 unfold BD
 rw[h]
 show(if m_=m_∧R9 (.int .i64) (i64 4)=true then some ((D5 (b_+3) (i64 4)).getD (.val .nilFunc))else none)=_
 rw[if_pos ⟨rfl,rfl⟩]
 rfl
theorem ZL{F:Out}{b_ m_:Nat}{has:Int}{v:Arr Int 16}(hev:rs.ev=some (b_,m_,has,v)):BD ((B rs).env F) 99 (.val (.map (some m_))) (i64 5) false=some (.fn 40 [.tup [.glob (b_+3)]]):=by
 have h:((B rs).env F).maps 99=some ⟨m_,3,102,.int .i64,.val .nilFunc,D5 (b_+3)⟩:=by
  show(match rs.ev with|some (b,m,_,_)=>some (⟨m,3,102,.int .i64,.val .nilFunc,D5 (b+3)⟩:MapS)|none=>none)=_
  rw[hev]
 unfold BD
 rw[h]
 show(if m_=m_∧R9 (.int .i64) (i64 5)=true then some ((D5 (b_+3) (i64 5)).getD (.val .nilFunc))else none)=_
 rw[if_pos ⟨rfl,rfl⟩]
 rfl
theorem Zq{F:Out}{b_ m_:Nat}{has:Int}{v:Arr Int 16}(hev:rs.ev=some (b_,m_,has,v)):BD ((B rs).env F) 99 (.val (.map (some m_))) (i64 6) false=some (.fn 41 [.tup [.glob (b_+3)]]):=by
 have h:((B rs).env F).maps 99=some ⟨m_,3,102,.int .i64,.val .nilFunc,D5 (b_+3)⟩:=by
  show(match rs.ev with|some (b,m,_,_)=>some (⟨m,3,102,.int .i64,.val .nilFunc,D5 (b+3)⟩:MapS)|none=>none)=_
  rw[hev]
 unfold BD
 rw[h]
 show(if m_=m_∧R9 (.int .i64) (i64 6)=true then some ((D5 (b_+3) (i64 6)).getD (.val .nilFunc))else none)=_
 rw[if_pos ⟨rfl,rfl⟩]
 rfl
theorem Yz{F:Out}{b_ m_:Nat}{has:Int}{v:Arr Int 16}(hev:rs.ev=some (b_,m_,has,v)):BD ((B rs).env F) 99 (.val (.map (some m_))) (i64 7) false=some (.fn 42 [.tup [.glob (b_+3)]]):=by
 have h:((B rs).env F).maps 99=some ⟨m_,3,102,.int .i64,.val .nilFunc,D5 (b_+3)⟩:=by
  show(match rs.ev with|some (b,m,_,_)=>some (⟨m,3,102,.int .i64,.val .nilFunc,D5 (b+3)⟩:MapS)|none=>none)=_
  rw[hev]
 unfold BD
 rw[h]
 show(if m_=m_∧R9 (.int .i64) (i64 7)=true then some ((D5 (b_+3) (i64 7)).getD (.val .nilFunc))else none)=_
 rw[if_pos ⟨rfl,rfl⟩]
 rfl
theorem ZM{F:Out}{b_ m_:Nat}{has:Int}{v:Arr Int 16}(hev:rs.ev=some (b_,m_,has,v)):BD ((B rs).env F) 99 (.val (.map (some m_))) (i64 8) false=some (.fn 43 [.tup [.glob (b_+3)]]):=by
 have h:((B rs).env F).maps 99=some ⟨m_,3,102,.int .i64,.val .nilFunc,D5 (b_+3)⟩:=by
  show(match rs.ev with|some (b,m,_,_)=>some (⟨m,3,102,.int .i64,.val .nilFunc,D5 (b+3)⟩:MapS)|none=>none)=_
  rw[hev]
 unfold BD
 rw[h]
 show(if m_=m_∧R9 (.int .i64) (i64 8)=true then some ((D5 (b_+3) (i64 8)).getD (.val .nilFunc))else none)=_
 rw[if_pos ⟨rfl,rfl⟩]
 rfl
theorem Zv{F:Out}{b_ m_:Nat}{has:Int}{v:Arr Int 16}(hev:rs.ev=some (b_,m_,has,v)):BD ((B rs).env F) 99 (.val (.map (some m_))) (i64 9) false=some (.fn 44 [.tup [.glob (b_+3)]]):=by
 have h:((B rs).env F).maps 99=some ⟨m_,3,102,.int .i64,.val .nilFunc,D5 (b_+3)⟩:=by
  show(match rs.ev with|some (b,m,_,_)=>some (⟨m,3,102,.int .i64,.val .nilFunc,D5 (b+3)⟩:MapS)|none=>none)=_
  rw[hev]
 unfold BD
 rw[h]
 show(if m_=m_∧R9 (.int .i64) (i64 9)=true then some ((D5 (b_+3) (i64 9)).getD (.val .nilFunc))else none)=_
 rw[if_pos ⟨rfl,rfl⟩]
 rfl
theorem Uk{F:Out}{b_ m_:Nat}{has:Int}{v:Arr Int 16}(hev:rs.ev=some (b_,m_,has,v)):BD ((B rs).env F) 99 (.val (.map (some m_))) (i64 10) false=some (.fn 45 [.tup [.glob (b_+3)]]):=by
 have h:((B rs).env F).maps 99=some ⟨m_,3,102,.int .i64,.val .nilFunc,D5 (b_+3)⟩:=by
  show(match rs.ev with|some (b,m,_,_)=>some (⟨m,3,102,.int .i64,.val .nilFunc,D5 (b+3)⟩:MapS)|none=>none)=_
  rw[hev]
 unfold BD
 rw[h]
 show(if m_=m_∧R9 (.int .i64) (i64 10)=true then some ((D5 (b_+3) (i64 10)).getD (.val .nilFunc))else none)=_
 rw[if_pos ⟨rfl,rfl⟩]
 rfl
theorem Uo{F:Out}{b_ m_:Nat}{has:Int}{v:Arr Int 16}(hev:rs.ev=some (b_,m_,has,v)):BD ((B rs).env F) 99 (.val (.map (some m_))) (i64 11) false=some (.fn 46 [.tup [.glob (b_+3)]]):=by
 have h:((B rs).env F).maps 99=some ⟨m_,3,102,.int .i64,.val .nilFunc,D5 (b_+3)⟩:=by
  show(match rs.ev with|some (b,m,_,_)=>some (⟨m,3,102,.int .i64,.val .nilFunc,D5 (b+3)⟩:MapS)|none=>none)=_
  rw[hev]
 unfold BD
 rw[h]
 show(if m_=m_∧R9 (.int .i64) (i64 11)=true then some ((D5 (b_+3) (i64 11)).getD (.val .nilFunc))else none)=_
 rw[if_pos ⟨rfl,rfl⟩]
 rfl
structure Api_Token where
  Za:Int
  Zb:List UInt8
  N:Int
  At:Int
  deriving DecidableEq,Inhabited
def Aa(x:Api_Token):List AV:=[i64 x.Za,.str x.Zb,i64 x.N,i64 x.At]
structure Tbox_box where
  low:Arr Int 16
  high:Arr Int 16
  deriving DecidableEq,Inhabited
def CW(x:Tbox_box):List AV:=((C1 i64 x.low.l++C1 i64 x.high.l))
structure Api_Test where
  Attr:Int
  Low:Int
  Zc:Int
  deriving DecidableEq,Inhabited
def Af(x:Api_Test):List AV:=[i64 x.Attr,i64 x.Low,i64 x.Zc]
structure Api_Env where
  Has:Int
  V:Arr Int 16
  deriving DecidableEq,Inhabited
def QW(x:Api_Env):List AV:=(i64 x.Has::C1 i64 x.V.l)
inductive Api_Expr where
  |mk (Op:Int) (N:Int) (Unit:Arr Int 4) (L:List Api_Expr)
instance:Inhabited Api_Expr:=⟨.mk default default default default⟩
def Api_Expr.Op(x:Api_Expr):Int:=match x with
 |.mk a _ _ _=>a
theorem QF{x0:Int}{x1:Int}{x2:Arr Int 4}{x3:List Api_Expr}:(Api_Expr.mk x0 x1 x2 x3).Op=x0:=rfl
def Api_Expr.N(x:Api_Expr):Int:=match x with
 |.mk _ a _ _=>a
theorem RP{x0:Int}{x1:Int}{x2:Arr Int 4}{x3:List Api_Expr}:(Api_Expr.mk x0 x1 x2 x3).N=x1:=rfl
def Api_Expr.Unit(x:Api_Expr):Arr Int 4:=match x with
 |.mk _ _ a _=>a
theorem Nt{x0:Int}{x1:Int}{x2:Arr Int 4}{x3:List Api_Expr}:(Api_Expr.mk x0 x1 x2 x3).Unit=x2:=rfl
def Api_Expr.L(x:Api_Expr):List Api_Expr:=match x with
 |.mk _ _ _ a=>a
theorem Ti{x0:Int}{x1:Int}{x2:Arr Int 4}{x3:List Api_Expr}:(Api_Expr.mk x0 x1 x2 x3).L=x3:=rfl
noncomputable def cApi_Expr(v:Api_Expr):List AV:=Api_Expr.rec (motive_1:=fun _=>List AV) (motive_2:=fun _=>List (List AV)) (fun Op_ N_ Unit_ L_ ih3=>(i64 Op_::i64 N_::(C1 i64 Unit_.l++[.sl false ih3]))) [] (fun _ _ x l=>x::l) v
theorem P1(l:List Api_Expr):Api_Expr.rec_1 (motive_1:=fun _=>List AV) (motive_2:=fun _=>List (List AV)) (fun Op_ N_ Unit_ L_ ih3=>(i64 Op_::i64 N_::(C1 i64 Unit_.l++[.sl false ih3]))) [] (fun _ _ x l=>x::l) l=L cApi_Expr l:=by
 induction l with
 |nil=>rfl
 |cons x l ih=>exact congrArg (cApi_Expr x::·) ih
theorem JH(x:Api_Expr):cApi_Expr x=(i64 x.Op::i64 x.N::(C1 i64 x.Unit.l++[.sl false (L cApi_Expr x.L)])):=by
  cases x with
  | mk a0 a1 a2 a3=>
    show(i64 a0::i64 a1::(C1 i64 a2.l++[.sl false (Api_Expr.rec_1 (motive_1:=fun _=>List AV) (motive_2:=fun _=>List (List AV)) (fun Op_ N_ Unit_ L_ ih3=>(i64 Op_::i64 N_::(C1 i64 Unit_.l++[.sl false ih3]))) [] (fun _ _ x l=>x::l) a3)]))=_
    rw[P1];rfl
structure Api_Clause where
  Zd:List UInt8
  Ze:List Api_Test
  Pay:Api_Expr
  deriving Inhabited
noncomputable def Ac(x:Api_Clause):List AV:=(.str x.Zd::.sl false (L Af x.Ze)::i64 x.Pay.Op::i64 x.Pay.N::(C1 i64 x.Pay.Unit.l++[.sl false (L cApi_Expr x.Pay.L)]))
structure Api_Tariff where
  Zd:List UInt8
  For:Int
  Zf:List Api_Clause
  deriving Inhabited
noncomputable def QJ(x:Api_Tariff):List AV:=[.str x.Zd,i64 x.For,.sl false (L Ac x.Zf)]
structure Tparse_parser where
  l:List Api_Token
  end_:Int
  deriving DecidableEq,Inhabited
def LP(x:Tparse_parser):List AV:=[.sl false (L Aa x.l),i64 x.end_]
theorem tt3:JY Tryd.prog 3=some ⟨.int .i64,1,8,[i64 0]⟩:=by kernel_rfl
theorem tb3(F:Out):((B rs).env F).tab 3=some ⟨.int .i64,1,8,[i64 0]⟩:=(EY Tryd.prog 3).trans tt3
theorem tb4(F):((B rs).env F).tab 4=some ⟨.bool,1,1,[.bool false]⟩:=tbk (by kernel_rfl)
theorem tb5(F):((B rs).env F).tab 5=some ⟨.int .u8,1,1,[u8 ((0:UInt8))]⟩:=tbk (by kernel_rfl)
theorem tb9(F):((B rs).env F).tab 9=some ⟨.string,1,16,[.str (([]:List UInt8))]⟩:=tbk (by kernel_rfl)
theorem Adm(F):((B rs).env F).tab 22=some ⟨.array 16 3,16,128,(C1 i64 ((Arr.rep 16 0)).l)⟩:=tbk (by kernel_rfl)
theorem tt24:JY Tryd.prog 24=some ⟨.struct #[⟨"Has", 3,0,false,"","", 0⟩,⟨"V", 22,1,false,"","", 8⟩],17,136,(i64 0::C1 i64 ((Arr.rep 16 0)).l)⟩:=by kernel_rfl
theorem tb24(F:Out):((B rs).env F).tab 24=some ⟨.struct #[⟨"Has", 3,0,false,"","", 0⟩,⟨"V", 22,1,false,"","", 8⟩],17,136,(i64 0::C1 i64 ((Arr.rep 16 0)).l)⟩:=(EY Tryd.prog 24).trans tt24
theorem AaU(F):((B rs).env F).tab 26=some ⟨.slice 40,1,24,[.sl true (L Ac ([]))]⟩:=tbk (by kernel_rfl)
theorem tb28(F):((B rs).env F).tab 28=some ⟨.struct #[⟨"Name", 9,0,false,"","", 0⟩,⟨"For", 3,1,false,"","", 16⟩,⟨"Clauses", 26,2,false,"","", 24⟩],3,48,[.str (([]:List UInt8)),i64 0,.sl true (L Ac ([]))]⟩:=tbk (by kernel_rfl)
theorem tb29(F):((B rs).env F).tab 29=some ⟨.int .i64,1,8,[i64 0]⟩:=tbk (by kernel_rfl)
theorem Ach(F):((B rs).env F).tab 33=some ⟨.slice 73,1,24,[.sl true (L Af ([]))]⟩:=tbk (by kernel_rfl)
theorem tb35(F):((B rs).env F).tab 35=some ⟨.array 4 3,4,32,(C1 i64 ((Arr.rep 4 0)).l)⟩:=tbk (by kernel_rfl)
theorem Aco(F):((B rs).env F).tab 36=some ⟨.slice 38,1,24,[.sl true (L cApi_Expr ([]))]⟩:=tbk (by kernel_rfl)
theorem AcB(F):((B rs).env F).tab 38=some ⟨.struct #[⟨"Op", 3,0,false,"","", 0⟩,⟨"N", 3,1,false,"","", 8⟩,⟨"Unit", 35,2,false,"","", 16⟩,⟨"L", 36,6,false,"","", 48⟩],7,72,(i64 0::i64 0::(C1 i64 ((Arr.rep 4 0)).l++[.sl true (L cApi_Expr ([]))]))⟩:=tbk (by kernel_rfl)
theorem Ack(F):((B rs).env F).tab 40=some ⟨.struct #[⟨"Name", 9,0,false,"","", 0⟩,⟨"When", 33,1,false,"","", 16⟩,⟨"Pay", 38,2,false,"","", 40⟩],9,112,(.str (([]:List UInt8))::.sl true (L Af ([]))::i64 0::i64 0::(C1 i64 ((Arr.rep 4 0)).l++[.sl true (L cApi_Expr ([]))]))⟩:=tbk (by kernel_rfl)
theorem Acl(F):((B rs).env F).tab 46=some ⟨.slice 79,1,24,[.sl true (L Aa ([]))]⟩:=tbk (by kernel_rfl)
theorem AeW(F):((B rs).env F).tab 50=some ⟨.struct #[⟨"at", 3,0,false,"","wagonpool/tparse", 0⟩,⟨"e", 29,1,false,"","wagonpool/tparse", 8⟩],2,16,[i64 0,i64 0]⟩:=tbk (by kernel_rfl)
theorem tb52(F):((B rs).env F).tab 52=some ⟨.pointer 54,1,8,[.val (.pointer none)]⟩:=tbk (by kernel_rfl)
theorem tb54(F):((B rs).env F).tab 54=some ⟨.struct #[⟨"l", 46,0,false,"","wagonpool/tparse", 0⟩,⟨"end", 3,1,false,"","wagonpool/tparse", 24⟩],2,32,[.sl true (L Aa ([])),i64 0]⟩:=tbk (by kernel_rfl)
theorem tb61(F):((B rs).env F).tab 61=some ⟨.array 16 3,16,128,(C1 i64 ((Arr.rep 16 0)).l)⟩:=tbk (by kernel_rfl)
theorem AcN(F):((B rs).env F).tab 63=some ⟨.struct #[⟨"low", 61,0,false,"","wagonpool/tbox", 0⟩,⟨"high", 61,16,false,"","wagonpool/tbox", 128⟩],32,256,((C1 i64 ((Arr.rep 16 0)).l++C1 i64 ((Arr.rep 16 0)).l))⟩:=tbk (by kernel_rfl)
theorem Ad2(F):((B rs).env F).tab 73=some ⟨.struct #[⟨"Attr", 3,0,false,"","", 0⟩,⟨"Low", 3,1,false,"","", 8⟩,⟨"High", 3,2,false,"","", 16⟩],3,24,[i64 0,i64 0,i64 0]⟩:=tbk (by kernel_rfl)
theorem Ada(F):((B rs).env F).tab 79=some ⟨.struct #[⟨"Kind", 3,0,false,"","", 0⟩,⟨"Text", 9,1,false,"","", 8⟩,⟨"N", 3,2,false,"","", 24⟩,⟨"At", 3,3,false,"","", 32⟩],4,40,[i64 0,.str (([]:List UInt8)),i64 0,i64 0]⟩:=tbk (by kernel_rfl)
theorem AcP(F):((B rs).env F).tab 94=some ⟨.slice 63,1,24,[.sl true (L CW ([]))]⟩:=tbk (by kernel_rfl)
theorem Adf(F):((B rs).env F).tab 95=some ⟨.slice 4,1,24,[.sl true (L Kf ([]))]⟩:=tbk (by kernel_rfl)
theorem tb98(F):((B rs).env F).tab 98=some ⟨.struct #[⟨"e", 29,0,false,"","wagonpool/teval", 0⟩],1,8,[i64 0]⟩:=tbk (by kernel_rfl)
theorem tt99:JY Tryd.prog 99=some ⟨.map 3 102,1,8,[.val (.map none)]⟩:=by kernel_rfl
theorem tb99(F:Out):((B rs).env F).tab 99=some ⟨.map 3 102,1,8,[.val (.map none)]⟩:=(EY Tryd.prog 99).trans tt99
theorem Abb:JY Tryd.prog 101=some ⟨.struct #[⟨"v", 24,0,false,"","wagonpool/teval", 0⟩,⟨"op", 99,17,false,"","wagonpool/teval", 136⟩],18,144,(i64 0::(C1 i64 ((Arr.rep 16 0)).l++[.val (.map none)]))⟩:=by kernel_rfl
theorem AcV(F:Out):((B rs).env F).tab 101=some ⟨.struct #[⟨"v", 24,0,false,"","wagonpool/teval", 0⟩,⟨"op", 99,17,false,"","wagonpool/teval", 136⟩],18,144,(i64 0::(C1 i64 ((Arr.rep 16 0)).l++[.val (.map none)]))⟩:=(EY Tryd.prog 101).trans Abb
theorem AeG(F):((B rs).env F).tab 107=some ⟨.map 5 9,1,8,[.val (.map none)]⟩:=tbk (by kernel_rfl)
theorem Acv(F):((B rs).env F).tab 109=some ⟨.map 9 4,1,8,[.val (.map none)]⟩:=tbk (by kernel_rfl)
theorem Xf(F):((B rs).env F).tab 111=some ⟨.slice 9,1,24,[.sl true (L Eg ([]))]⟩:=tbk (by kernel_rfl)
theorem Abd(F):((B rs).env F).tab 120=some ⟨.array 256 5,256,256,(C1 u8 ((Arr.rep 256 (0:UInt8))).l)⟩:=tbk (by kernel_rfl)
theorem AcU(F):((B rs).env F).tab 127=some ⟨.int .u64,1,8,[u64 ((0:UInt64))]⟩:=tbk (by kernel_rfl)
theorem Aaj(F):((B rs).env F).tab 138=some ⟨.slice 3,1,24,[.sl true (L VN ([]))]⟩:=tbk (by kernel_rfl)
theorem Abt:AV.int .u64 0=u64 0:=rfl
theorem ZD:AV.int .u64 32=u64 32:=rfl
theorem Ky:AV.int .u64 4294967295=u64 4294967295:=rfl
theorem Ho:AV.int .u64 9007199254740992=u64 9007199254740992:=rfl
theorem AdX:AV.int .u8 0=u8 0:=rfl
theorem AdJ:AV.int .u8 9=u8 9:=rfl
theorem Abc:AV.int .u8 10=u8 10:=rfl
theorem Acb:AV.int .u8 13=u8 13:=rfl
theorem Abg:AV.int .u8 32=u8 32:=rfl
theorem Aa9:AV.int .u8 35=u8 35:=rfl
theorem ZY:AV.int .u8 48=u8 48:=rfl
theorem Aac:AV.int .u8 57=u8 57:=rfl
theorem AaD:AV.int .u8 97=u8 97:=rfl
theorem ZA:AV.int .u8 122=u8 122:=rfl
theorem Yh:AV.int .u8 128=u8 128:=rfl
theorem Aax{F}(l:List UInt8)(x:AV):HQ ((B rs).env F) 9 (.str l) x=match idx x l.length with
 |some i=>some (u8 (nth l i))
 |none=>none:=Tb (tb9 F) l x
theorem nb79{F}:(((B rs).env F).bty=some 79)=False:=eq_false (fun h:(none:Option TypeId)=some 79=>by cases h)
theorem glb0{F}:((B rs).env F).G 0=some [.val (.map (some (rs 0)))]:=rfl
theorem lkm0{F}(k:UInt8):BD ((B rs).env F) 107 (.val (.map (some (rs 0)))) (u8 k) false=some (.str (Gl ([]:List UInt8) tab0 k)):=Rz (cK:=fun k=>u8 k) (cV:=fun x=>.str x) (z:=([]:List UInt8)) (l:=tab0) rfl (fun k=>rfl) AaM k
theorem X0{F}{σ:Ad}(s x:AV):Ba ((B rs).env F) σ .append [46,46] [s,x]=match F4 σ x with
      | some new=>if GO x 4=true then none else if ∀cs∈new,cs.length=4 then(match s with
          | .sl full els=>
            if els=[]∧full=true then
              if Iu new.length 40 then some (.bs false σ.length new.length 0 new.length,σ++[.buf 4 new false])else none
            else if new=[]then some (.sl full els,σ)
            else if full=true∧(∀cs∈els,cs.length=4)∧Iu (els.length+new.length) 40
            then some (.bs false σ.length (els.length+new.length) 0 (els.length+new.length),σ++[.buf 4 (els++new) false])else none
          | .bs full id tot off len=>match σ[id]? with
            | some (.buf k els ro)=>
              if els.length=tot∧k=4∧Iu (len+new.length) 40 then
                if off=0∧len=tot then some (.bs false id (tot+new.length) 0 (tot+new.length),σ.set id (.buf k (els++new) ro))
                else if new=[]then some (.bs full id tot off len,σ)
                else if full then some (.bs false σ.length (len+new.length) 0 (len+new.length),σ++[.buf k ((els.drop off).take len++new) false])
                else none
              else none
            |some (.tb T l)=>PM σ id tot off len 40 4 79 T l new
            |_=>none
          |_=>none)
        else none
      |none=>none:=IK (Acl F) (Ada F) (by decide) (Acl F) (.inl ⟨_,rfl⟩) s x []
theorem glb1{F}:((B rs).env F).G 1=some [.val (.map (some (rs 1)))]:=rfl
theorem lkm1{F}(k:List UInt8):BD ((B rs).env F) 109 (.val (.map (some (rs 1)))) (.str k) false=some (.bool (Gl false tab1 k)):=Rz (cK:=fun k=>.str k) (cV:=fun x=>.bool x) (z:=false) (l:=tab1) rfl (fun k=>rfl) XW k
theorem nb63{F}:(((B rs).env F).bty=some 63)=False:=eq_false (fun h:(none:Option TypeId)=some 63=>by cases h)
theorem AaG{F}{σ:Ad}(id off:Nat)(x:AV):As ((B rs).env F) σ 61 (.ref id off) x=match idx x 16 with
 |some i=>some (.ref id (off+i*1))
 |none=>none:=UH (tb61 F) (tb3 F) id off x
theorem nb24{F}:(((B rs).env F).bty=some 24)=False:=eq_false (fun h:(none:Option TypeId)=some 24=>by cases h)
theorem AbV{F}{σ:Ad}(f:Bool)(l:List Api_Test)(x:AV):As ((B rs).env F) σ 33 (.sl f (L Af l)) x=match idx x l.length with
 |some i=>some (.rp (Af (nth l i)))
 |none=>none:=Mn Af (Ach F) (Ad2 F) (fun _=>rfl) f l x
theorem nb73{F}:(((B rs).env F).bty=some 73)=False:=eq_false (fun h:(none:Option TypeId)=some 73=>by cases h)
theorem Aem{F}{σ:Ad}(l c:Int):Ds ((B rs).env F) σ 94 (i64 l) (i64 c)=if Mk l c 256 then some (.bs (l==c) σ.length l.toNat 0 l.toNat,σ++[.buf 32 (List.replicate l.toNat ((C1 i64 ((Arr.rep 16 0)).l++C1 i64 ((Arr.rep 16 0)).l))) false])else none:=Pn (AcP F) (AcN F) (by decide) l c
theorem Ac1{F}{σ:Ad}(l c:Int):Ds ((B rs).env F) σ 95 (i64 l) (i64 c)=if Mk l c 1 then some (.bs (l==c) σ.length l.toNat 0 l.toNat,σ++[.buf 1 (List.replicate l.toNat [.bool false]) false])else none:=Pn (Adf F) (tb4 F) (by decide) l c
theorem AaQ{F}{σ:Ad}(f:Bool)(l:List Api_Clause)(x:AV):As ((B rs).env F) σ 26 (.sl f (L Ac l)) x=match idx x l.length with
 |some i=>some (.rp (Ac (nth l i)))
 |none=>none:=Mn Ac (AaU F) (Ack F) (fun y=>by simp only[Ac,List.length_cons,List.length_append,CM,List.length_nil]) f l x
theorem nb40{F}:(((B rs).env F).bty=some 40)=False:=eq_false (fun h:(none:Option TypeId)=some 40=>by cases h)
theorem ZZ{F}{σ:Ad}(f:Bool)(id tot off len:Nat)(x:AV):As ((B rs).env F) σ 94 (.bs f id tot off len) x=match σ[id]?,idx x len with
 |some (.buf k els _),some i=>if els.length=tot∧k=32 then some (.eref id tot (off+i) 0)else none
 |_,_=>none:=RC (AcP F) (AcN F) (by decide) f id tot off len x
theorem AbJ{F}{σ:Ad}(f:Bool)(id tot off len:Nat)(x:AV):As ((B rs).env F) σ 95 (.bs f id tot off len) x=match σ[id]?,idx x len with
 |some (.buf k els _),some i=>if els.length=tot∧k=1 then some (.eref id tot (off+i) 0)else none
 |_,_=>none:=RC (Adf F) (tb4 F) (by decide) f id tot off len x
theorem AaV{F}{σ:Ad}(f:Bool)(l:List Api_Expr)(x:AV):As ((B rs).env F) σ 36 (.sl f (L cApi_Expr l)) x=match idx x l.length with
 |some i=>some (.rp (cApi_Expr (nth l i)))
 |none=>none:=Mn cApi_Expr (Aco F) (AcB F) (fun y=>by rw[JH];simp only[List.length_cons,List.length_append,CM,List.length_nil]) f l x
theorem nb38{F}:(((B rs).env F).bty=some 38)=False:=eq_false (fun h:(none:Option TypeId)=some 38=>by cases h)
theorem Aat{F}{σ:Ad}(f:Bool)(l:List Api_Token)(x:AV):As ((B rs).env F) σ 46 (.sl f (L Aa l)) x=match idx x l.length with
 |some i=>some (.rp (Aa (nth l i)))
 |none=>none:=Mn Aa (Acl F) (Ada F) (fun _=>rfl) f l x
theorem AbC{F}{σ:Ad}(f:Bool)(id tot off len:Nat)(x:AV):As ((B rs).env F) σ 26 (.bs f id tot off len) x=match σ[id]?,idx x len with
 |some (.buf k els _),some i=>if els.length=tot∧k=9 then some (.eref id tot (off+i) 0)else none
 |_,_=>none:=RC (AaU F) (Ack F) (by decide) f id tot off len x
theorem Yr{F}{σ:Ad}(f:Bool)(l:List (List UInt8))(x:AV):As ((B rs).env F) σ 111 (.sl f (L Eg l)) x=match idx x l.length with
 |some i=>some (.rp (Eg (nth l i)))
 |none=>none:=Mn Eg (Xf F) (tb9 F) (fun _=>rfl) f l x
theorem TN{F}{σ:Ad}(x:AV):As ((B rs).env F) σ 120 (.glob 2) x=match idx x 256 with
 |some i=>some (.rp ((C1 u8 glob2.l).drop i))
 |none=>none:=Wk (Abd F) (tb5 F) rfl x
theorem Aad{F}{σ:Ad}(l c:Int):Ds ((B rs).env F) σ 111 (i64 l) (i64 c)=if Mk l c 16 then some (.bs (l==c) σ.length l.toNat 0 l.toNat,σ++[.buf 1 (List.replicate l.toNat [.str (([]:List UInt8))]) false])else none:=Pn (Xf F) (tb9 F) (by decide) l c
theorem Zp{F}{σ:Ad}(f:Bool)(id tot off len:Nat)(x:AV):As ((B rs).env F) σ 111 (.bs f id tot off len) x=match σ[id]?,idx x len with
 |some (.buf k els _),some i=>if els.length=tot∧k=1 then some (.eref id tot (off+i) 0)else none
 |_,_=>none:=RC (Xf F) (tb9 F) (by decide) f id tot off len x
theorem nb35{F}:(((B rs).env F).bty=some 35)=False:=eq_false (fun h:(none:Option TypeId)=some 35=>by cases h)
theorem Acd{F}{σ:Ad}(id off:Nat)(x:AV):As ((B rs).env F) σ 35 (.ref id off) x=match idx x 4 with
 |some i=>some (.ref id (off+i*1))
 |none=>none:=UH (tb35 F) (tb3 F) id off x
theorem Zg{F}{σ:Ad}(f:Bool)(l:List Int)(x:AV):As ((B rs).env F) σ 138 (.sl f (L VN l)) x=match idx x l.length with
 |some i=>some (.rp (VN (nth l i)))
 |none=>none:=Mn VN (Aaj F) (tb3 F) (fun _=>rfl) f l x
theorem Aa4{F}{σ:Ad}(cs:List AV)(x:AV):As ((B rs).env F) σ 22 (.rp cs) x=match idx x 16 with
 |some i=>some (.rp (cs.drop i))
 |none=>none:=AaN (Adm F) (tb3 F) rfl cs x
theorem WQ{F}{σ:Ad}(s x:AV):Ba ((B rs).env F) σ .append [36,36] [s,x]=match F4 σ x with
      | some new=>if GO x 7=true then none else if ∀cs∈new,cs.length=7 then(match s with
          | .sl full els=>
            if els=[]∧full=true then
              if Iu new.length 72 then some (.bs false σ.length new.length 0 new.length,σ++[.buf 7 new false])else none
            else if new=[]then some (.sl full els,σ)
            else if full=true∧(∀cs∈els,cs.length=7)∧Iu (els.length+new.length) 72
            then some (.bs false σ.length (els.length+new.length) 0 (els.length+new.length),σ++[.buf 7 (els++new) false])else none
          | .bs full id tot off len=>match σ[id]? with
            | some (.buf k els ro)=>
              if els.length=tot∧k=7∧Iu (len+new.length) 72 then
                if off=0∧len=tot then some (.bs false id (tot+new.length) 0 (tot+new.length),σ.set id (.buf k (els++new) ro))
                else if new=[]then some (.bs full id tot off len,σ)
                else if full then some (.bs false σ.length (len+new.length) 0 (len+new.length),σ++[.buf k ((els.drop off).take len++new) false])
                else none
              else none
            |some (.tb T l)=>PM σ id tot off len 72 7 38 T l new
            |_=>none
          |_=>none)
        else none
      |none=>none:=IK (Aco F) (AcB F) (by decide) (Aco F) (.inl ⟨_,rfl⟩) s x []
theorem VZ{F}{σ:Ad}(s x:AV):Ba ((B rs).env F) σ .append [33,33] [s,x]=match F4 σ x with
      | some new=>if GO x 3=true then none else if ∀cs∈new,cs.length=3 then(match s with
          | .sl full els=>
            if els=[]∧full=true then
              if Iu new.length 24 then some (.bs false σ.length new.length 0 new.length,σ++[.buf 3 new false])else none
            else if new=[]then some (.sl full els,σ)
            else if full=true∧(∀cs∈els,cs.length=3)∧Iu (els.length+new.length) 24
            then some (.bs false σ.length (els.length+new.length) 0 (els.length+new.length),σ++[.buf 3 (els++new) false])else none
          | .bs full id tot off len=>match σ[id]? with
            | some (.buf k els ro)=>
              if els.length=tot∧k=3∧Iu (len+new.length) 24 then
                if off=0∧len=tot then some (.bs false id (tot+new.length) 0 (tot+new.length),σ.set id (.buf k (els++new) ro))
                else if new=[]then some (.bs full id tot off len,σ)
                else if full then some (.bs false σ.length (len+new.length) 0 (len+new.length),σ++[.buf k ((els.drop off).take len++new) false])
                else none
              else none
            |some (.tb T l)=>PM σ id tot off len 24 3 73 T l new
            |_=>none
          |_=>none)
        else none
      |none=>none:=IK (Ach F) (Ad2 F) (by decide) (Ach F) (.inl ⟨_,rfl⟩) s x []
theorem nb28{F}:(((B rs).env F).bty=some 28)=False:=eq_false (fun h:(none:Option TypeId)=some 28=>by cases h)
theorem nb3{F}:(((B rs).env F).bty=some 3)=False:=eq_false (fun h:(none:Option TypeId)=some 3=>by cases h)
theorem nb29{F}:(((B rs).env F).bty=some 29)=False:=eq_false (fun h:(none:Option TypeId)=some 29=>by cases h)
theorem WC{F}{σ:Ad}(s x:AV):Ba ((B rs).env F) σ .append [26,26] [s,x]=match F4 σ x with
      | some new=>if GO x 9=true then none else if ∀cs∈new,cs.length=9 then(match s with
          | .sl full els=>
            if els=[]∧full=true then
              if Iu new.length 112 then some (.bs false σ.length new.length 0 new.length,σ++[.buf 9 new false])else none
            else if new=[]then some (.sl full els,σ)
            else if full=true∧(∀cs∈els,cs.length=9)∧Iu (els.length+new.length) 112
            then some (.bs false σ.length (els.length+new.length) 0 (els.length+new.length),σ++[.buf 9 (els++new) false])else none
          | .bs full id tot off len=>match σ[id]? with
            | some (.buf k els ro)=>
              if els.length=tot∧k=9∧Iu (len+new.length) 112 then
                if off=0∧len=tot then some (.bs false id (tot+new.length) 0 (tot+new.length),σ.set id (.buf k (els++new) ro))
                else if new=[]then some (.bs full id tot off len,σ)
                else if full then some (.bs false σ.length (len+new.length) 0 (len+new.length),σ++[.buf k ((els.drop off).take len++new) false])
                else none
              else none
            |some (.tb T l)=>PM σ id tot off len 112 9 40 T l new
            |_=>none
          |_=>none)
        else none
      |none=>none:=IK (AaU F) (Ack F) (by decide) (AaU F) (.inl ⟨_,rfl⟩) s x []
theorem AcL{F}(cs:List AV)(x:AV):HQ ((B rs).env F) 22 (.agg cs) x=match idx x 16 with
 |some i=>partA (⟨.int .i64,1,8,[i64 0]⟩:TD) cs (i*1)
 |none=>none:=Se (Adm F) (tb3 F) cs x
theorem Ab4{F}(x y:Bool):Bs ((B rs).env F) .neq 4 (.bool x) (.bool y)=some (.bool (!(x==y))):=OS (tb4 F) x y
attribute [go_sem] own3 own4 own5 own6 own7 own8 own9 Aeg Ad9 Adn AeJ AcM AeP AdS Adi Ad5 AdO Ac2 AcS Ado AeD Ad4 Adg Aeb AcX Ads AeR Adt AcY AcF Aee AdL Ac4 Ad8 Acq Ad0 AcJ Aev AdT AdP Ad7 Ad1 Adb AcE Acz Aeq Aek Adj Ac9 AcZ AdC Adu AeO AdU AeN Adl Aea Ac3 AdN Aef AeM Acx Aei Ad6 Aep Aes Aeh AdA AdZ AeQ AdQ AeV Adh AdG Aez Aa CW Af QW QF RP Nt Ti JH Ac QJ LP tb3 tb4 tb5 tb9 Adm tb24 AaU tb28 tb29 Ach tb35 Aco AcB Ack Acl AeW tb52 tb54 tb61 AcN Ad2 Ada AcP Adf tb98 tb99 AcV AeG Acv Xf Abd AcU Aaj Abt ZD Ky Ho AdX AdJ Abc Acb Abg Aa9 ZY Aac AaD ZA Yh Aax nb79 glb0 lkm0 X0 glb1 lkm1 nb63 AaG nb24 AbV nb73 Aem Ac1 AaQ nb40 ZZ AbJ AaV nb38 Aat AbC Yr TN Aad Zp nb35 Acd Zg Aa4 WQ VZ nb28 nb3 nb29 WC AcL Ab4
def Ez(a:UInt8):Option (Bool) :=(if(decide ((97:UInt8)≤a))then some (decide (a≤(122:UInt8))) else some false:Option (Bool)).bind fun b=>some b
def EA(a:UInt8):Option (Bool) :=(if(decide ((48:UInt8)≤a))then some (decide (a≤(57:UInt8))) else some false:Option (Bool)).bind fun b=>some b
def BS(b:List UInt8)(c:UInt8→Option (Bool))(a:Int):Option ((Int)⊕((Unit)⊕((Unit)⊕(Int)))) :=if (decide (a<(b.length:Int)))then if InR a b.length then (c (nth b a.toNat)).bind fun d=>if(!d)then ((some a).bind fun e=>some (.inr e)).bind fun f=>some (.inr (.inr f)) else some (.inl (w64 (a+1))) else none else some (.inr (.inl ()))
def Gm(a:List UInt8)(b:UInt8→Option (Bool)):Option (Int) :=((CJ (fun(v:Int)=>BS a b v) 0).bind fun x=>match x with
 |.inl ()=>some (.inl ())
 |.inr z=>some z:Option ((Unit)⊕(Int))).bind fun x=>match x with
 |.inl ()=>some (a.length:Int)
 |.inr z=>some z
def EU(a:UInt8):Option (Bool) :=((Ez a).bind fun b=>if b then some true else (EA a).bind fun c=>some c:Option (Bool)).bind fun d=>some d
def Bu(b:List UInt8)(c:Int)(a:Int):Option ((Int×Int)⊕((Int)⊕((Int)⊕(Int×Int)))) :=if (decide (a<(b.length:Int)))then if InR a b.length then lt1 (w64 ((w64 (10*c))+(((nth b a.toNat)-(48:UInt8)).toNat:Int))) fun(d:Int)=>if(decide (d>1099511627776))then ((some (0,2)).bind fun e=>some (.inr e)).bind fun f=>some (.inr (.inr f)) else some (.inl (d,(w64 (a+1)))) else none else some (.inr (.inl c))
def Fq(a:List UInt8):Option (Int×Int) :=(if(decide ((a.length:Int)>1))then if InR 0 a.length then some ((nth a 0)==(48:UInt8)) else none else some false:Option (Bool)).bind fun b=>if b then some (0,150) else ((CJ (fun(v:Int×Int)=>Bu a v.1 v.2) (0,0)).bind fun x=>match x with
  |.inl c=>some (.inl c)
  |.inr z=>some z:Option ((Int)⊕(Int×Int))).bind fun x=>match x with
  |.inl d=>some (d,0)
  |.inr z=>some z
def Cq(b:List UInt8)(a:List UInt8):Option (Bool) :=(if(decide ((b.length:Int)≥(a.length:Int)))then if InB (a.length:Int) b.length then some ((b.take ((a.length:Int).toNat))==a) else none else some false:Option (Bool)).bind fun c=>some c
def BW(a:List UInt8)(b:List UInt8):Option (Bool) :=(Cq a b).bind fun c=>some c
def CP(l:List UInt8)(c:UInt8):Option (Int):=PG l c
def Cs(a:List UInt8)(b:UInt8):Option (Int) :=(CP a b).bind fun c=>some c
def BV(a:List UInt8)(b:UInt8):Option (Int) :=(Cs a b).bind fun c=>some c
def Fi(a:List UInt8):Option (Api_Token×Int) :=if InR 0 a.length then (Ez (nth a 0)).bind fun e=>if e then (Gm a EU).bind fun b=>if InB b a.length then if(decide (((a.take b.toNat).length:Int)>32))then some (({ Za:=0,Zb:=([]:List UInt8),N:=0,At:=0 }:Api_Token),2) else some (({ Za:=1,Zb:=(a.take b.toNat),N:=0,At:=0 }:Api_Token),0) else none else (EA (nth a 0)).bind fun f=>if f then (Gm a EA).bind fun c=>if InB c a.length then (Fq (a.take c.toNat)).bind fun d=>some (({ Za:=2,Zb:=(a.take c.toNat),N:=d.1,At:=0 }:Api_Token),d.2) else none else if InR 0 a.length then (if(!((Gl ([]:List UInt8) tab0 (nth a 0))==([]:List UInt8)))then (BW a (Gl ([]:List UInt8) tab0 (nth a 0))).bind fun g=>some g else some false:Option (Bool)).bind fun i=>if i then lt1 (Gl ([]:List UInt8) tab0 (nth a 0)) fun(j:List UInt8)=>some (({ Za:=3,Zb:=j,N:=0,At:=0 }:Api_Token),0) else some (({ Za:=0,Zb:=([]:List UInt8),N:=0,At:=0 }:Api_Token),150) else none else none
def AD(b:List UInt8)(a:Int)(c:List Api_Token):Option ((Int×List Api_Token)⊕((List Api_Token)⊕((List Api_Token)⊕(List Api_Token×Int×Int)))) :=if (decide (a<(b.length:Int)))then if InR a b.length then (if((nth b a.toNat)==(32:UInt8))then some ((nth b a.toNat)==(32:UInt8)) else if((nth b a.toNat)==(9:UInt8))then some ((nth b a.toNat)==(9:UInt8)) else if((nth b a.toNat)==(13:UInt8))then some ((nth b a.toNat)==(13:UInt8)) else some ((nth b a.toNat)==(10:UInt8)):Option (Bool)).bind fun f=>if f then some (.inl ((w64 (a+1)),c)) else if ((nth b a.toNat)==(35:UInt8))then if InB a b.length then (BV ((b.drop a.toNat).take (b.length-a.toNat)) (10:UInt8)).bind fun e=>if(decide (e<0))then some (.inr (.inl c)) else lt1 (w64 (a+(w64 (e+1)))) fun(g:Int)=>some (.inl (g,c)) else none else if InB a b.length then (Fi ((b.drop a.toNat).take (b.length-a.toNat))).bind fun d=>if(d.2 != 0)then ((some ([],a,d.2)).bind fun i=>some (.inr i)).bind fun j=>some (.inr (.inr j)) else if Iu (c.length+1) 40 then lt1 (c++([({ Za:=d.1.Za,Zb:=d.1.Zb,N:=d.1.N,At:=a }:Api_Token)]:List Api_Token)) fun(k:List Api_Token)=>lt1 (w64 (a+(d.1.Zb.length:Int))) fun(l:Int)=>some (.inl (l,k)) else none else none else none else some (.inr (.inl c))
def E5(a:List UInt8):Option (List Api_Token×Int×Int) :=if(decide ((a.length:Int)>2000))then some ([],0,2) else ((CJ (fun(v:Int×List Api_Token)=>AD a v.1 v.2) (0,[])).bind fun x=>match x with
  |.inl b=>some (.inl b)
  |.inr z=>some z:Option ((List Api_Token)⊕(List Api_Token×Int×Int))).bind fun x=>match x with
  |.inl c=>some (c,0,0)
  |.inr z=>some z
def Ed(a:List UInt8):Option (Bool) :=some (Gl false tab1 a)
def Ip(a:Int)(b:Arr Int 16):Option ((Int×Arr Int 16)⊕(Arr Int 16)) :=if(decide (a<16))then if InR a 16 then lt1 (b.set a.toNat 9007199254740992) fun(c:Arr Int 16)=>some (.inl ((w64 (a+1)),c)) else none else some (.inr b)
def tbox_all  : Option (Tbox_box) :=((CJ (fun(v:Int×Arr Int 16)=>Ip v.1 v.2) (0,(Arr.rep 16 0))).bind fun a=>some a:Option (Arr Int 16)).bind fun b=>some ({ low:=(Arr.rep 16 0),high:=b }:Tbox_box)
def EQ(b:Tbox_box)(a:Api_Test):Option (Tbox_box) :=if InR a.Attr 16 then if InR a.Attr 16 then lt1 (b.low.set a.Attr.toNat (Ph (b.low.get a.Attr.toNat) a.Low)) fun(c:Arr Int 16)=>if InR a.Attr 16 then if InR a.Attr 16 then lt1 (b.high.set a.Attr.toNat (QV (b.high.get a.Attr.toNat) a.Zc)) fun(d:Arr Int 16)=>some ({ low:=c,high:=d }:Tbox_box) else none else none else none else none
def DB(d : Tbox_box)(e:Bool)(a:Int)(b:Arr Int 16)(c:Arr Int 16):Option ((Bool×Int×Arr Int 16×Arr Int 16)⊕(Bool×Arr Int 16×Arr Int 16)) :=if (decide (a<16))then if InR a 16 then if InR a 16 then if InR a 16 then lt1 (b.set a.toNat (Ph (b.get a.toNat) (d.low.get a.toNat))) fun(f:Arr Int 16)=>if InR a 16 then if InR a 16 then if InR a 16 then lt1 (c.set a.toNat (QV (c.get a.toNat) (d.high.get a.toNat))) fun(g:Arr Int 16)=>(if e then if InR a 16 then if InR a 16 then some (decide ((f.get a.toNat)≤(g.get a.toNat))) else none else none else some false:Option (Bool)).bind fun i=>some (.inl (i,(w64 (a+1)),f,g)) else none else none else none else none else none else none else some (.inr (e,b,c))
def Du(a:Tbox_box)(b:Tbox_box):Option (Tbox_box×Bool) :=((CJ (fun(v:Bool×Int×Arr Int 16×Arr Int 16)=>DB b v.1 v.2.1 v.2.2.1 v.2.2.2) (true,0,a.low,a.high)).bind fun(c,d,e)=>some (c,d,e):Option (Bool×Arr Int 16×Arr Int 16)).bind fun(f,g,i)=>some (({ low:=g,high:=i }:Tbox_box),f)
def Nm(a:Arr Int 16):Option (Api_Env) :=some ({ Has:=65535,V:=a }:Api_Env)
def H7(b:Api_Clause)(a:Int)(d:Arr Int 16)(e:Arr Int 16):Option ((Int×Arr Int 16×Arr Int 16)⊕((Arr Int 16×Arr Int 16)⊕((Arr Int 16×Arr Int 16)⊕(Tbox_box×Bool)))) :=if (decide (a<(b.Ze.length:Int)))then if InR a b.Ze.length then lt1 ((nth b.Ze a.toNat).Attr) fun(c:Int)=>lt1 ((nth b.Ze a.toNat).Low) fun(g:Int)=>lt1 ((nth b.Ze a.toNat).Zc) fun(i:Int)=>(if(decide (c<0))then some true else some (decide (c≥16)):Option (Bool)).bind fun j=>if j then ((some (({ low:=(Arr.rep 16 0),high:=(Arr.rep 16 0) }:Tbox_box),false)).bind fun k=>some (.inr k)).bind fun l=>some (.inr (.inr l)) else (EQ ({ low:=d,high:=e }:Tbox_box) ({ Attr:=c,Low:=g,Zc:=i }:Api_Test)).bind fun f=>some (.inl ((w64 (a+1)),f.low,f.high)) else none else some (.inr (.inl (d,e)))
def Fy(e:Api_Clause):Option (Tbox_box×Bool) :=tbox_all.bind fun a=>((CJ (fun(v:Int×Arr Int 16×Arr Int 16)=>H7 e v.1 v.2.1 v.2.2) (0,a.low,a.high)).bind fun x=>match x with
 |.inl (f,g)=>some (.inl (f,g))
 |.inr z=>some z:Option ((Arr Int 16×Arr Int 16)⊕(Tbox_box×Bool))).bind fun x=>match x with
 | .inl (b,c)=>(Du ({ low:=b,high:=c }:Tbox_box) ({ low:=b,high:=c }:Tbox_box)).bind fun d=>if d.2=true then some (d.1,true) else some (({ low:=(Arr.rep 16 0),high:=(Arr.rep 16 0) }:Tbox_box),false)
 |.inr z=>some z
def Dm(b:Api_Tariff)(a:Int)(c:List Tbox_box)(d:List Bool):Option ((Int×List Tbox_box×List Bool)⊕(List Tbox_box×List Bool)) :=if (decide (a<(b.Zf.length:Int)))then if InR a b.Zf.length then lt1 ((nth b.Zf a.toNat).Zd) fun(f:List UInt8)=>lt1 ((nth b.Zf a.toNat).Ze) fun(g:List Api_Test)=>lt1 (((nth b.Zf a.toNat).Pay).Op) fun(i:Int)=>lt1 (((nth b.Zf a.toNat).Pay).N) fun(j:Int)=>lt1 (((nth b.Zf a.toNat).Pay).Unit) fun(k:Arr Int 4)=>lt1 (((nth b.Zf a.toNat).Pay).L) fun(l:List Api_Expr)=>(Fy ({ Zd:=f,Ze:=g,Pay:=(Api_Expr.mk i j k l) }:Api_Clause)).bind fun e=>if InR a c.length then if InR a d.length then lt1 (c.set a.toNat e.1) fun(m:List Tbox_box)=>lt1 (d.set a.toNat e.2) fun(n:List Bool)=>some (.inl ((w64 (a+1)),m,n)) else none else none else none else some (.inr (c,d))
def Dn(b:List Tbox_box)(d:List Bool)(c:Int)(a:Int):Option ((Int)⊕((Unit)⊕((Unit)⊕((Int)⊕((Unit)⊕((Unit)⊕(Int×Int×Api_Env×Bool))))))) :=if (decide (a<(b.length:Int)))then if InR c b.length then if InR a b.length then (Du (nth b c.toNat) (nth b a.toNat)).bind fun e=>(if e.2=true then if InR c d.length then if nth d c.toNat=true then if InR a d.length then some (nth d a.toNat) else none else some false else none else some false:Option (Bool)).bind fun f=>if f then (Nm e.1.low).bind fun g=>((((some (c,a,g,true)).bind fun i=>some (.inr i)).bind fun j=>some (.inr (.inr j))).bind fun k=>some (.inr k)).bind fun l=>some (.inr (.inr l)) else some (.inl (w64 (a+1))) else none else none else some (.inr (.inl ()))
def Ee(b:List Tbox_box)(c:List Bool)(a:Int):Option ((Int)⊕((Unit)⊕((Unit)⊕(Int×Int×Api_Env×Bool)))) :=if(decide (a<(b.length:Int)))then ((CJ (fun(v:Int)=>Dn b c a v) (w64 (a+1))).bind fun x=>match x with
  |.inl ()=>some (.inl ())
  |.inr z=>some z:Option ((Unit)⊕((Int)⊕((Unit)⊕((Unit)⊕(Int×Int×Api_Env×Bool)))))).bind fun x=>match x with
  |.inl ()=>some (.inl (w64 (a+1)))
  |.inr z=>some z else some (.inr (.inl ()))
def EO(a:Api_Tariff):Option (Int×Int×Api_Env×Bool) :=if Mk (a.Zf.length:Int) (a.Zf.length:Int) 256 then lt1 (List.replicate ((a.Zf.length:Int).toNat) ({ low:=(Arr.rep 16 0),high:=(Arr.rep 16 0) }:Tbox_box)) fun(b:List Tbox_box)=>if Mk (a.Zf.length:Int) (a.Zf.length:Int) 1 then lt1 (List.replicate ((a.Zf.length:Int).toNat) false) fun(c:List Bool)=>((CJ (fun(v:Int×List Tbox_box×List Bool)=>Dm a v.1 v.2.1 v.2.2) (0,b,c)).bind fun(d,e)=>some (d,e):Option (List Tbox_box×List Bool)).bind fun(f,g)=>((CJ (fun(v:Int)=>Ee f g v) 0).bind fun x=>match x with
   |.inl ()=>some (.inl ())
   |.inr z=>some z:Option ((Unit)⊕(Int×Int×Api_Env×Bool))).bind fun x=>match x with
   |.inl ()=>some (0,0,({ Has:=0,V:=(Arr.rep 16 0) }:Api_Env),false)
   |.inr z=>some z else none else none
def Fg(b:Api_Tariff)(a:Int):Option ((Int)⊕((Unit)⊕((Unit)⊕(Int)))) :=if (decide (a<(b.Zf.length:Int)))then if InR a b.Zf.length then lt1 ((nth b.Zf a.toNat).Zd) fun(c:List UInt8)=>lt1 ((nth b.Zf a.toNat).Ze) fun(d:List Api_Test)=>lt1 (((nth b.Zf a.toNat).Pay).Op) fun(e:Int)=>lt1 (((nth b.Zf a.toNat).Pay).N) fun(f:Int)=>lt1 (((nth b.Zf a.toNat).Pay).Unit) fun(g:Arr Int 4)=>lt1 (((nth b.Zf a.toNat).Pay).L) fun(i:List Api_Expr)=>(Fy ({ Zd:=c,Ze:=d,Pay:=(Api_Expr.mk e f g i) }:Api_Clause)).bind fun j=>if(!j.2)then ((some 190).bind fun k=>some (.inr k)).bind fun l=>some (.inr (.inr l)) else some (.inl (w64 (a+1))) else none else some (.inr (.inl ()))
def Gx(a:Api_Tariff):Option (Int) :=((CJ (fun(v:Int)=>Fg a v) 0).bind fun x=>match x with
 |.inl ()=>some (.inl ())
 |.inr z=>some z:Option ((Unit)⊕(Int))).bind fun x=>match x with
 | .inl ()=>(EO a).bind fun b=>if b.2.2.2=true then some 190 else some 0
 |.inr z=>some z
def D7(a:Int):Option (Int) :=(if(decide (a<1))then some true else some (decide (a>11)):Option (Bool)).bind fun b=>if b then some (-1) else (if(a==1)then some true else some (a==2):Option (Bool)).bind fun c=>if c then some 0 else if(a==11)then some 4 else some 2
def Ej(b:Api_Expr)(c:Int)(rec_:Api_Expr→Int→Option (Bool))(a:Int):Option ((Int)⊕((Unit)⊕((Unit)⊕(Bool)))) :=if (decide (a<(b.L.length:Int)))then if InR a b.L.length then lt1 ((nth b.L a.toNat).Op) fun(d:Int)=>lt1 ((nth b.L a.toNat).N) fun(e:Int)=>lt1 ((nth b.L a.toNat).Unit) fun(f:Arr Int 4)=>lt1 ((nth b.L a.toNat).L) fun(g:List Api_Expr)=>(rec_ (Api_Expr.mk d e f g) (w64 (c-1))).bind fun i=>if(!i)then ((some false).bind fun j=>some (.inr j)).bind fun k=>some (.inr (.inr k)) else some (.inl (w64 (a+1))) else none else some (.inr (.inl ()))
def C5(rec_:Api_Expr→Int→Option (Bool))(a:Api_Expr)(b:Int):Option (Bool) :=(if(b==0)then some true else (D7 a.Op).bind fun c=>some ((a.L.length:Int) != c):Option (Bool)).bind fun d=>if d then some false else if(a.Op==1)then (if(decide (a.N≥0))then some (decide (a.N≤1099511627776)) else some false:Option (Bool)).bind fun e=>some e else if(a.Op==2)then (if(decide (a.N≥0))then some (decide (a.N<16)) else some false:Option (Bool)).bind fun f=>some f else ((CJ (fun(v:Int)=>Ej a b rec_ v) 0).bind fun x=>match x with
    |.inl ()=>some (.inl ())
    |.inr z=>some z:Option ((Unit)⊕(Bool))).bind fun x=>match x with
    |.inl ()=>some true
    |.inr z=>some z
def CZ(n:Nat):Api_Expr→Int→Option (Bool):=match n with
 |0=>fun _ _=>none
 |n+1=>C5 (CZ n)
def H1(a:Api_Expr)(b:Int):Option (Bool):=CZ 18446744073709551616 a b
def Dv(b:Api_Expr)(rec_:Api_Expr→Option (Int))(c:Int)(a:Int):Option ((Int×Int)⊕(Int)) :=if(decide (a<(b.L.length:Int)))then if InR a b.L.length then lt1 ((nth b.L a.toNat).Op) fun(d:Int)=>lt1 ((nth b.L a.toNat).N) fun(e:Int)=>lt1 ((nth b.L a.toNat).Unit) fun(f:Arr Int 4)=>lt1 ((nth b.L a.toNat).L) fun(g:List Api_Expr)=>(rec_ (Api_Expr.mk d e f g)).bind fun i=>some (.inl ((Ph c i),(w64 (a+1)))) else none else some (.inr c)
def CU(rec_:Api_Expr→Option (Int))(a:Api_Expr):Option (Int) :=((CJ (fun(v:Int×Int)=>Dv a rec_ v.1 v.2) (0,0)).bind fun b=>some b:Option (Int)).bind fun c=>some (w64 (c+1))
def CS(n:Nat):Api_Expr→Option (Int):=match n with
 |0=>fun _=>none
 |n+1=>CU (CS n)
def HU(a:Api_Expr):Option (Int):=CS 18446744073709551616 a
def AE(a:Tparse_parser):Option (Int×Tparse_parser) :=if(decide ((a.l.length:Int)>0))then if InR 0 a.l.length then some ((nth a.l 0).At,a) else none else some (a.end_,a)
def Be(a:Tparse_parser)(b:Int):Option (Api_Token×Bool×Tparse_parser) :=(if((a.l.length:Int)==0)then some true else if InR 0 a.l.length then some ((nth a.l 0).Za != b) else none:Option (Bool)).bind fun c=>if c then some (({ Za:=0,Zb:=([]:List UInt8),N:=0,At:=0 }:Api_Token),false,a) else if InR 0 a.l.length then some (nth a.l 0,true,a) else none
def Aq(a:Tparse_parser)(b:List UInt8):Option (Bool×Tparse_parser) :=(if((a.l.length:Int)==0)then some true else if InR 0 a.l.length then if((nth a.l 0).Za==2)then some true else if InR 0 a.l.length then some (!(((nth a.l 0).Zb)==b)) else none else none:Option (Bool)).bind fun c=>if c then some (false,a) else if InB 1 a.l.length then lt1 ((a.l.drop 1).take (a.l.length-1)) fun(d:List Api_Token)=>some (true,({ l:=d,end_:=a.end_ }:Tparse_parser)) else none
def Ch(b:Api_Clause)(a:Api_Clause):Option (Bool×Api_Clause) :=some ((b.Zd==a.Zd),({ Zd:=a.Zd,Ze:=[],Pay:=(Api_Expr.mk a.Pay.Op a.Pay.N a.Pay.Unit ([])) }:Api_Clause))
def Bl(c:List Api_Clause)(b:Int)(d:List UInt8)(e:Int)(f:Int)(g:Arr Int 4):Option ((Int×List UInt8×Int×Int×Arr Int 4)⊕((List UInt8×Int×Int×Arr Int 4)⊕((List UInt8×Int×Int×Arr Int 4)⊕(Int×Api_Clause)))) :=if (decide (b<(c.length:Int)))then if InR b c.length then (Ch (nth c b.toNat) ({ Zd:=d,Ze:=[],Pay:=(Api_Expr.mk e f g ([])) }:Api_Clause)).bind fun a=>if a.1=true then ((some (b,({ Zd:=a.2.Zd,Ze:=[],Pay:=(Api_Expr.mk a.2.Pay.Op a.2.Pay.N a.2.Pay.Unit ([])) }:Api_Clause))).bind fun i=>some (.inr i)).bind fun j=>some (.inr (.inr j)) else some (.inl ((w64 (b+1)),a.2.Zd,a.2.Pay.Op,a.2.Pay.N,a.2.Pay.Unit)) else none else some (.inr (.inl (d,e,f,g)))
def B3(b:List Api_Clause)(a:Api_Clause):Option (Int×Api_Clause) :=((CJ (fun(v:Int×List UInt8×Int×Int×Arr Int 4)=>Bl b v.1 v.2.1 v.2.2.1 v.2.2.2.1 v.2.2.2.2) (0,a.Zd,a.Pay.Op,a.Pay.N,a.Pay.Unit)).bind fun x=>match x with
 |.inl (c,d,e,f)=>some (.inl (c,d,e,f))
 |.inr z=>some z:Option ((List UInt8×Int×Int×Arr Int 4)⊕(Int×Api_Clause))).bind fun x=>match x with
 |.inl (g,i,j,k)=>some ((-1),({ Zd:=g,Ze:=[],Pay:=(Api_Expr.mk i j k ([])) }:Api_Clause))
 |.inr z=>some z
def AM(c:List Api_Clause)(b:Api_Clause):Option (Bool×Api_Clause) :=(B3 c ({ Zd:=b.Zd,Ze:=[],Pay:=(Api_Expr.mk b.Pay.Op b.Pay.N b.Pay.Unit ([])) }:Api_Clause)).bind fun a=>some ((decide (a.1≥0)),({ Zd:=a.2.Zd,Ze:=[],Pay:=(Api_Expr.mk a.2.Pay.Op a.2.Pay.N a.2.Pay.Unit ([])) }:Api_Clause))
noncomputable def GH(r:Tparse_parser⊕(Int×Int×Tparse_parser)):Outc:=match r with
 |.inl r=>.ret (.tup []) [.box [.sl false (L Aa r.l),i64 r.end_] false]
 |.inr r=>.pan (.iface 50 (.agg #[.int .i64 r.1,.int .i64 r.2.1])) [.box [.sl false (L Aa r.2.2.l),i64 r.2.2.end_] false]
def AL(b:Tparse_parser):Option (Tparse_parser⊕(Int×Int×Tparse_parser)) :=(AE b).bind fun a=>some (.inr (a.1,160,a.2))
noncomputable def Gf(r:Tparse_parser⊕(Int×Int×Tparse_parser)):Outc:=match r with
 |.inl r=>.ret (.tup []) [.box [.sl false (L Aa r.l),i64 r.end_] false]
 |.inr r=>.pan (.iface 50 (.agg #[.int .i64 r.1,.int .i64 r.2.1])) [.box [.sl false (L Aa r.2.2.l),i64 r.2.2.end_] false]
def Ar(c:Tparse_parser)(d:List UInt8):Option (Tparse_parser⊕(Int×Int×Tparse_parser)) :=(Aq c d).bind fun a=>if(!a.1)then (AL a.2).bind fun e=>match e with
  |.inl f=>some (.inl f)
  |.inr b=>some (.inr (b.1,b.2.1,b.2.2)) else some (.inl a.2)
noncomputable def FP(r:(Int×Tparse_parser)⊕(Int×Int×Tparse_parser)):Outc:=match r with
 |.inl r=>.ret (i64 r.1) [.box [.sl false (L Aa r.2.l),i64 r.2.end_] false]
 |.inr r=>.pan (.iface 50 (.agg #[.int .i64 r.1,.int .i64 r.2.1])) [.box [.sl false (L Aa r.2.2.l),i64 r.2.2.end_] false]
def AH(e:Tparse_parser):Option ((Int×Tparse_parser)⊕(Int×Int×Tparse_parser)) :=(Be e 2).bind fun a=>(if(!a.2.1)then (AL a.2.2).bind fun f=>match f with
  |.inl d=>some (.inl (d.l,d.end_))
  |.inr b=>(some (.inr (b.1,b.2.1,b.2.2))).bind fun g=>some (.inr g) else some (.inl (a.2.2.l,a.2.2.end_)):Option ((List Api_Token×Int)⊕((Int×Tparse_parser)⊕(Int×Int×Tparse_parser)))).bind fun x=>match x with
 | .inl (c,i)=>if InB 1 c.length then lt1 ((c.drop 1).take (c.length-1)) fun(j:List Api_Token)=>some (.inl (a.1.N,({ l:=j,end_:=i }:Tparse_parser))) else none
 |.inr z=>some z
noncomputable def GP(r:(List UInt8×Tparse_parser)⊕(Int×Int×Tparse_parser)):Outc:=match r with
 |.inl r=>.ret (.str r.1) [.box [.sl false (L Aa r.2.l),i64 r.2.end_] false]
 |.inr r=>.pan (.iface 50 (.agg #[.int .i64 r.1,.int .i64 r.2.1])) [.box [.sl false (L Aa r.2.2.l),i64 r.2.2.end_] false]
def BK(f:Tparse_parser):Option ((List UInt8×Tparse_parser)⊕(Int×Int×Tparse_parser)) :=(Be f 1).bind fun a=>(if(!a.2.1)then (AL a.2.2).bind fun g=>match g with
  |.inl d=>some (.inl (d.l,d.end_))
  |.inr c=>(some (.inr (c.1,c.2.1,c.2.2))).bind fun i=>some (.inr i) else some (.inl (a.2.2.l,a.2.2.end_)):Option ((List Api_Token×Int)⊕((List UInt8×Tparse_parser)⊕(Int×Int×Tparse_parser)))).bind fun x=>match x with
 | .inl (b,e)=>(Ed a.1.Zb).bind fun j=>if j then some (.inr (a.1.At,161,({ l:=b,end_:=e }:Tparse_parser))) else if InB 1 b.length then lt1 ((b.drop 1).take (b.length-1)) fun(k:List Api_Token)=>some (.inl (a.1.Zb,({ l:=k,end_:=e }:Tparse_parser))) else none
 |.inr z=>some z
def Dd(b:List (List UInt8))(c:List UInt8)(a:Int):Option ((Int)⊕((Unit)⊕((Unit)⊕(Int)))) :=if (decide (a<(b.length:Int)))then if InR a b.length then if(c==(nth b a.toNat))then ((some a).bind fun d=>some (.inr d)).bind fun e=>some (.inr (.inr e)) else some (.inl (w64 (a+1))) else none else some (.inr (.inl ()))
def CH(a:List (List UInt8))(b:List UInt8):Option (Int) :=((CJ (fun(v:Int)=>Dd a b v) 0).bind fun x=>match x with
 |.inl ()=>some (.inl ())
 |.inr z=>some z:Option ((Unit)⊕(Int))).bind fun x=>match x with
 |.inl ()=>some (-1)
 |.inr z=>some z
def E2(b:List UInt8)(c:Int)(f:Int)(d:UInt8)(a:Int):Option ((Int×Int×UInt8×Int)⊕(Int×UInt8)) :=if (decide (a<(b.length:Int)))then if InR a b.length then lt1 (d ||| (nth b a.toNat)) fun(g:UInt8)=>if InR ((nth b a.toNat).toNat:Int) 256 then lt1 ((glob2.get ((nth b a.toNat).toNat)).toNat:Int) fun(e:Int)=>lt1 (w64 (c+(X8 f (ZK (-1) e)))) fun(i:Int)=>some (.inl (i,e,g,(w64 (a+1)))) else none else none else some (.inr (c,d))
def EB(b:List UInt8)(a:Int):Option ((Int)⊕(Int)) :=(if(decide (a<(b.length:Int)))then if InR a b.length then if InR ((nth b a.toNat).toNat:Int) 256 then some ((glob2.get ((nth b a.toNat).toNat)) != (0:UInt8)) else none else none else some false:Option (Bool)).bind fun c=>if c then some (.inl (w64 (a+1))) else some (.inr a)
def ED(b:List UInt8)(a:Int):Option ((Int)⊕(Int)) :=(if(decide (a<(b.length:Int)))then if InR a b.length then if InR ((nth b a.toNat).toNat:Int) 256 then some ((glob2.get ((nth b a.toNat).toNat)) != (0:UInt8)) else none else none else some false:Option (Bool)).bind fun c=>if c then some (.inl (w64 (a+1))) else some (.inr a)
def E8(b:List UInt8)(c:Int)(d:Int)(a:Int)(e:List (List UInt8)):Option ((Int×Int×Int×List (List UInt8))⊕(Int×Int×List (List UInt8))) :=if (decide (a<(b.length:Int)))then if InR a b.length then if InR ((nth b a.toNat).toNat:Int) 256 then lt1 ((glob2.get ((nth b a.toNat).toNat))==(0:UInt8)) fun(g:Bool)=>if g then some (.inl (c,d,(w64 (a+1)),e)) else if InB a b.length then if InB d a.toNat then if InR c e.length then lt1 (e.set c.toNat ((b.drop d.toNat).take (a.toNat-d.toNat))) fun(i:List (List UInt8))=>((CJ (fun(v:Int)=>ED b v) (w64 (a+1))).bind fun j=>some j:Option (Int)).bind fun f=>some (.inl ((w64 (c+1)),f,f,i)) else none else none else none else none else none else some (.inr (c,d,e))
def BC(a:List UInt8):Option (List (List UInt8)) :=((CJ (fun(v:Int×Int×UInt8×Int)=>E2 a v.1 v.2.1 v.2.2.1 v.2.2.2) (0,1,(0:UInt8),0)).bind fun(g,i)=>some (g,i):Option (Int×UInt8)).bind fun(c,j)=>if(decide (j≥(128:UInt8)))then none else if Mk c c 16 then lt1 (List.replicate c.toNat ([]:List UInt8)) fun(k:List (List UInt8))=>((CJ (fun(v:Int)=>EB a v) 0).bind fun l=>some l:Option (Int)).bind fun e=>((CJ (fun(v:Int×Int×Int×List (List UInt8))=>E8 a v.1 v.2.1 v.2.2.1 v.2.2.2) (0,e,e,k)).bind fun(m,n,o)=>some (m,n,o):Option (Int×Int×List (List UInt8))).bind fun(f,b,d)=>(if(decide (b<(a.length:Int)))then if InB b a.length then if InR f d.length then lt1 (d.set f.toNat ((a.drop b.toNat).take (a.length-b.toNat))) fun(p:List (List UInt8))=>some p else none else none else some d:Option (List (List UInt8))).bind fun q=>some q else none
def Bc(c:Tparse_parser)(d:List UInt8):Option (Int×Bool×Tparse_parser) :=(Be c 1).bind fun a=>(BC d).bind fun e=>(CH e a.1.Zb).bind fun b=>(if(!a.2.1)then some true else some (decide (b<0)):Option (Bool)).bind fun f=>if f then some (0,false,a.2.2) else if InB 1 a.2.2.l.length then lt1 ((a.2.2.l.drop 1).take (a.2.2.l.length-1)) fun(g:List Api_Token)=>some (b,true,({ l:=g,end_:=a.2.2.end_ }:Tparse_parser)) else none
noncomputable def GS(r:(Int×Tparse_parser)⊕(Int×Int×Tparse_parser)):Outc:=match r with
 |.inl r=>.ret (i64 r.1) [.box [.sl false (L Aa r.2.l),i64 r.2.end_] false]
 |.inr r=>.pan (.iface 50 (.agg #[.int .i64 r.1,.int .i64 r.2.1])) [.box [.sl false (L Aa r.2.2.l),i64 r.2.2.end_] false]
def Bf(d:Tparse_parser)(e:List UInt8):Option ((Int×Tparse_parser)⊕(Int×Int×Tparse_parser)) :=(Bc d e).bind fun a=>(if(!a.2.1)then (AL a.2.2).bind fun f=>match f with
  |.inl c=>some (.inl (c.l,c.end_))
  |.inr b=>(some (.inr (b.1,b.2.1,b.2.2))).bind fun g=>some (.inr g) else some (.inl (a.2.2.l,a.2.2.end_)):Option ((List Api_Token×Int)⊕((Int×Tparse_parser)⊕(Int×Int×Tparse_parser)))).bind fun x=>match x with
 |.inl (i,j)=>some (.inl (a.1,({ l:=i,end_:=j }:Tparse_parser)))
 |.inr z=>some z
noncomputable def GQ(r:(Arr Int 4×Tparse_parser)⊕(Int×Int×Tparse_parser)):Outc:=match r with
 |.inl r=>.ret (.agg (C1 i64 r.1.l)) [.box [.sl false (L Aa r.2.l),i64 r.2.end_] false]
 |.inr r=>.pan (.iface 50 (.agg #[.int .i64 r.1,.int .i64 r.2.1])) [.box [.sl false (L Aa r.2.2.l),i64 r.2.2.end_] false]
def Cp(f:Tparse_parser):Option ((Arr Int 4×Tparse_parser)⊕(Int×Int×Tparse_parser)) :=((Bc f ([109,111,110,101,121,32,109,105,110,117,116,101,32,107,109,32,107,103]:List UInt8)).bind fun a=>if a.2.1=true then if InR a.1 4 then if InR a.1 4 then lt1 ((Arr.rep 4 0).set a.1.toNat (w64 (((Arr.rep 4 0).get a.1.toNat)+1))) fun(g:Arr Int 4)=>some (a.2.2.l,a.2.2.end_,g) else none else none else some (a.2.2.l,a.2.2.end_,(Arr.rep 4 0)):Option (List Api_Token×Int×Arr Int 4)).bind fun(i,j,d)=>((Aq ({ l:=i,end_:=j }:Tparse_parser) ([112,101,114]:List UInt8)).bind fun c=>if c.1=true then (Bf c.2 ([109,111,110,101,121,32,109,105,110,117,116,101,32,107,109,32,107,103]:List UInt8)).bind fun k=>match k with
  | .inl b=>if InR b.1 4 then if InR b.1 4 then lt1 (d.set b.1.toNat (w64 ((d.get b.1.toNat)-1))) fun(m:Arr Int 4)=>some (.inl (b.2.l,b.2.end_,m)) else none else none
  |.inr e=>(some (.inr (e.1,e.2.1,e.2.2))).bind fun n=>some (.inr n) else some (.inl (c.2.l,c.2.end_,d)):Option ((List Api_Token×Int×Arr Int 4)⊕((Arr Int 4×Tparse_parser)⊕(Int×Int×Tparse_parser)))).bind fun x=>match x with
 |.inl (o,p,q)=>some (.inl (q,({ l:=o,end_:=p }:Tparse_parser)))
 |.inr z=>some z
noncomputable def GR(r:(Api_Test×Tparse_parser)⊕(Int×Int×Tparse_parser)):Outc:=match r with
 |.inl r=>.ret (.agg [i64 r.1.Attr,i64 r.1.Low,i64 r.1.Zc]) [.box [.sl false (L Aa r.2.l),i64 r.2.end_] false]
 |.inr r=>.pan (.iface 50 (.agg #[.int .i64 r.1,.int .i64 r.2.1])) [.box [.sl false (L Aa r.2.2.l),i64 r.2.2.end_] false]
def Cv(n:Tparse_parser)(o:Int):Option ((Api_Test×Tparse_parser)⊕(Int×Int×Tparse_parser)) :=(AE n).bind fun k=>(Bf k.2 ([116,121,112,101,32,111,119,110,101,114,32,114,97,105,108,119,97,121,32,115,104,105,112,112,101,114,32,99,108,97,115,115,32,119,101,105,103,104,116,32,107,109,32,109,105,110,117,116,101,115,32,119,111,114,107,105,110,103,32,99,111,100,101,32,119,111,114,116,104,32,99,111,115,116,32,109,111,110,116,104,32,98,101,103,105,110,32,112,97,114,116,115,32,112,97,114,116]:List UInt8)).bind fun p=>match p with
 | .inl a=>if(o==8)then some (.inr (k.1,2,a.2)) else (Aq a.2 ([105,115]:List UInt8)).bind fun b=>if b.1=true then (AH b.2).bind fun q=>match q with
    |.inl c=>some (.inl (({ Attr:=a.1,Low:=c.1,Zc:=c.1 }:Api_Test),c.2))
    |.inr d=>some (.inr (d.1,d.2.1,d.2.2)) else (Ar b.2 ([105,110]:List UInt8)).bind fun s=>match s with
    | .inl t=>(AH t).bind fun u=>match u with
     | .inl l=>(Ar l.2 ([46,46]:List UInt8)).bind fun v=>match v with
      | .inl w=>(AH w).bind fun x=>match x with
       |.inl m=>some (.inl (({ Attr:=a.1,Low:=l.1,Zc:=m.1 }:Api_Test),m.2))
       |.inr e=>some (.inr (e.1,e.2.1,e.2.2))
      |.inr f=>some (.inr (f.1,f.2.1,f.2.2))
     |.inr g=>some (.inr (g.1,g.2.1,g.2.2))
    |.inr i=>some (.inr (i.1,i.2.1,i.2.2))
 |.inr j=>some (.inr (j.1,j.2.1,j.2.2))
def E1(b:List Int)(a:Int):Option ((Int)⊕((Unit)⊕((Unit)⊕(Bool)))) :=if (decide (a<(b.length:Int)))then if InR a b.length then (if(decide (nth b a.toNat<(-9007199254740992)))then some true else some (decide (nth b a.toNat>9007199254740992)):Option (Bool)).bind fun c=>if c then ((some false).bind fun d=>some (.inr d)).bind fun e=>some (.inr (.inr e)) else some (.inl (w64 (a+1))) else none else some (.inr (.inl ()))
def Fh(a:List Int):Option (Bool) :=((CJ (fun(v:Int)=>E1 a v) 0).bind fun x=>match x with
 |.inl ()=>some (.inl ())
 |.inr z=>some z:Option ((Unit)⊕(Bool))).bind fun x=>match x with
 |.inl ()=>some true
 |.inr z=>some z
def DM(a:Int):Option (Int×Int) :=(Fh ([a]:List Int)).bind fun b=>if(!b)then some (0,3) else some (a,0)
def Hl(a:Int)(b:Int):Option (Int×Int) :=(Fh ([a,b]:List Int)).bind fun d=>if(!d)then some (0,3) else (DM (w64 (a+b))).bind fun c=>some (c.1,c.2)
def Hu(a:Int)(b:Int):Option (Int×Int) :=(Fh ([a,b]:List Int)).bind fun d=>if(!d)then some (0,3) else (DM (w64 (a-b))).bind fun c=>some (c.1,c.2)
def Gt(a:Int):Option (UInt64) :=if(decide (a<0))then some (0-(UInt64.ofInt a)) else some (UInt64.ofInt a)
def Gg(a:UInt64)(b:UInt64):Option (UInt64×UInt64) :=lt1 (a &&& (4294967295:UInt64)) fun(x0_2743:UInt64)=>lt1 (Qm a (32:UInt64).toNat) fun(x1_2745:UInt64)=>lt1 (b &&& (4294967295:UInt64)) fun(y0_2747:UInt64)=>lt1 (Qm b (32:UInt64).toNat) fun(y1_2749:UInt64)=>lt1 ((x1_2745*y0_2747)+(Qm (x0_2743*y0_2747) (32:UInt64).toNat)) fun(c:UInt64)=>lt1 (c &&& (4294967295:UInt64)) fun(w1_2753:UInt64)=>lt1 (Qm c (32:UInt64).toNat) fun(w2_2755:UInt64)=>lt1 (w1_2753+(x0_2743*y1_2749)) fun(w1_2757:UInt64)=>lt1 (((x1_2745*y1_2749)+w2_2755)+(Qm w1_2757 (32:UInt64).toNat)) fun(d:UInt64)=>some (d,(a*b))
def Hp(a:Int)(b:Int):Option (Int×Int) :=(Fh ([a,b]:List Int)).bind fun d=>if(!d)then some (0,3) else (Gt a).bind fun e=>(Gt b).bind fun f=>(Gg e f).bind fun c=>(if(c.1 != (0:UInt64))then some true else some (decide (c.2>(9007199254740992:UInt64))):Option (Bool)).bind fun g=>if g then some (0,3) else some ((w64 (a*b)),0)
def Ha(b:Int)(a:Int)(c:Int):Option (Int×Int) :=(if(c != 8)then if(c != 9)then some (c != 10) else some false else some false:Option (Bool)).bind fun g=>if g then some (0,1) else (Fh ([b,a]:List Int)).bind fun i=>if(!i)then some (0,3) else if(decide (a≤0))then some (0,70) else ((if(c==10)then lt1 (w64 ((w64 (2*b))+a)) fun(j:Int)=>some (.inl (j,(w64 (2*a)))) else if(c==8)then some (.inl (b,a)) else ((if ¬(a:Int)=0 then if(decide (((b:Int).tmod a)>0))then some (w64 (b+a)) else some b else none:Option (Int)).bind fun k=>some (k,a)).bind fun l=>some (.inr l):Option ((Int×Int)⊕(Int×Int))).bind fun x=>match x with
    | .inl (e,d)=>(if ¬(d:Int)=0 then if(decide (((e:Int).tmod d)<0))then some (w64 (e-d)) else some e else none:Option (Int)).bind fun m=>some (m,d)
    |.inr z=>some z:Option (Int×Int)).bind fun(n,f)=>if ¬(f:Int)=0 then some ((w64 ((n:Int).tdiv f)),0) else none
noncomputable def LG(r:Int⊕Int):Outc:=match r with
 |.inl r=>.ret (i64 r) []
 |.inr r=>.pan (.iface 98 (.agg #[.int .i64 r])) []
def DK(b:Int)(a:Int):Option (Int⊕Int) :=if(a != 0)then some (.inr a) else some (.inl b)
noncomputable def Gk(r:Int⊕Int):Outc:=match r with
 |.inl r=>.ret (i64 r) []
 |.inr r=>.pan (.iface 98 (.agg #[.int .i64 r])) []
def AO(c:Api_Env)(a:Int):Option (Int⊕Int) :=(if(decide (a<0))then some true else some (decide (a≥16)):Option (Bool)).bind fun d=>if d then some (.inr 1) else if JE a then if((X8 c.Has (Aew 1 a))==0)then some (.inr 181) else if InR a 16 then lt1 (c.V.get a.toNat) fun(b:Int)=>(if(decide (b<(-9007199254740992)))then some true else some (decide (b>9007199254740992)):Option (Bool)).bind fun e=>if e then some (.inr 3) else some (.inl b) else none else none
noncomputable def Ap(r:Int⊕Int):Outc:=match r with
 |.inl r=>.ret (i64 r) []
 |.inr r=>.pan (.iface 98 (.agg #[.int .i64 r])) []
noncomputable def Ga(r:(Int×Int)⊕Int):Outc:=match r with
 |.inl r=>.ret (.tup [i64 r.1,i64 r.2]) []
 |.inr r=>.pan (.iface 98 (.agg #[.int .i64 r])) []
def A6(b:Api_Env→Api_Expr→Option (Int⊕Int))(c:Api_Env)(a:List Api_Expr):Option ((Int×Int)⊕Int) :=if InR 0 a.length then (b c (nth a 0)).bind fun d=>match d with
  | .inl e=>if InR 1 a.length then (b c (nth a 1)).bind fun f=>match f with
    |.inl g=>some (.inl (e,g))
    |.inr i=>some (.inr i) else none
  |.inr j=>some (.inr j) else none
noncomputable def F8(r:Int⊕Int):Outc:=match r with
 |.inl r=>.ret (i64 r) []
 |.inr r=>.pan (.iface 98 (.agg #[.int .i64 r])) []
def AP(c:Api_Env→Api_Expr→Option (Int⊕Int))(d:Api_Env)(e:List Api_Expr)(f:Int):Option (Int⊕Int) :=(A6 c d e).bind fun g=>match g with
 | .inl a=>(Ha a.1 a.2 f).bind fun b=>(DK b.1 b.2).bind fun i=>match i with
  |.inl j=>some (.inl j)
  |.inr k=>some (.inr k)
 |.inr l=>some (.inr l)
noncomputable def G1(r:Int⊕Int):Outc:=match r with
 |.inl r=>.ret (i64 r) []
 |.inr r=>.pan (.iface 98 (.agg #[.int .i64 r])) []
def Cc(c:Api_Env→Api_Expr→Option (Int⊕Int))(d:Api_Env)(e:List Api_Expr):Option (Int⊕Int) :=(A6 c d e).bind fun f=>match f with
 | .inl a=>(Hl a.1 a.2).bind fun b=>(DK b.1 b.2).bind fun g=>match g with
  |.inl i=>some (.inl i)
  |.inr j=>some (.inr j)
 |.inr k=>some (.inr k)
noncomputable def GG(r:Int⊕Int):Outc:=match r with
 |.inl r=>.ret (i64 r) []
 |.inr r=>.pan (.iface 98 (.agg #[.int .i64 r])) []
def Cb(c:Api_Env→Api_Expr→Option (Int⊕Int))(d:Api_Env)(e:List Api_Expr):Option (Int⊕Int) :=(A6 c d e).bind fun f=>match f with
 | .inl a=>(Hu a.1 a.2).bind fun b=>(DK b.1 b.2).bind fun g=>match g with
  |.inl i=>some (.inl i)
  |.inr j=>some (.inr j)
 |.inr k=>some (.inr k)
noncomputable def G7(r:Int⊕Int):Outc:=match r with
 |.inl r=>.ret (i64 r) []
 |.inr r=>.pan (.iface 98 (.agg #[.int .i64 r])) []
def BZ(c:Api_Env→Api_Expr→Option (Int⊕Int))(d:Api_Env)(e:List Api_Expr):Option (Int⊕Int) :=(A6 c d e).bind fun f=>match f with
 | .inl a=>(Hp a.1 a.2).bind fun b=>(DK b.1 b.2).bind fun g=>match g with
  |.inl i=>some (.inl i)
  |.inr j=>some (.inr j)
 |.inr k=>some (.inr k)
noncomputable def FM(r:Int⊕Int):Outc:=match r with
 |.inl r=>.ret (i64 r) []
 |.inr r=>.pan (.iface 98 (.agg #[.int .i64 r])) []
def BE(b:Api_Env→Api_Expr→Option (Int⊕Int))(c:Api_Env)(d:List Api_Expr):Option (Int⊕Int) :=(A6 b c d).bind fun e=>match e with
 |.inl a=>some (.inl (QV a.1 a.2))
 |.inr f=>some (.inr f)
noncomputable def Ff(r:Int⊕Int):Outc:=match r with
 |.inl r=>.ret (i64 r) []
 |.inr r=>.pan (.iface 98 (.agg #[.int .i64 r])) []
def Bq(b:Api_Env→Api_Expr→Option (Int⊕Int))(c:Api_Env)(d:List Api_Expr):Option (Int⊕Int) :=(A6 b c d).bind fun e=>match e with
 |.inl a=>some (.inl (Ph a.1 a.2))
 |.inr f=>some (.inr f)
noncomputable def FX(r:Int⊕Int):Outc:=match r with
 |.inl r=>.ret (i64 r) []
 |.inr r=>.pan (.iface 98 (.agg #[.int .i64 r])) []
def C8(a:Api_Env→Api_Expr→Option (Int⊕Int))(b:Api_Env)(c:List Api_Expr):Option (Int⊕Int) :=(AP a b c 8).bind fun d=>match d with
 |.inl e=>some (.inl e)
 |.inr f=>some (.inr f)
noncomputable def GU(r:Int⊕Int):Outc:=match r with
 |.inl r=>.ret (i64 r) []
 |.inr r=>.pan (.iface 98 (.agg #[.int .i64 r])) []
def Dg(a:Api_Env→Api_Expr→Option (Int⊕Int))(b:Api_Env)(c:List Api_Expr):Option (Int⊕Int) :=(AP a b c 9).bind fun d=>match d with
 |.inl e=>some (.inl e)
 |.inr f=>some (.inr f)
noncomputable def Gb(r:Int⊕Int):Outc:=match r with
 |.inl r=>.ret (i64 r) []
 |.inr r=>.pan (.iface 98 (.agg #[.int .i64 r])) []
def C7(a:Api_Env→Api_Expr→Option (Int⊕Int))(b:Api_Env)(c:List Api_Expr):Option (Int⊕Int) :=(AP a b c 10).bind fun d=>match d with
 |.inl e=>some (.inl e)
 |.inr f=>some (.inr f)
noncomputable def F6(r:Int⊕Int):Outc:=match r with
 |.inl r=>.ret (i64 r) []
 |.inr r=>.pan (.iface 98 (.agg #[.int .i64 r])) []
def B6(b:Api_Env→Api_Expr→Option (Int⊕Int))(c:Api_Env)(a:List Api_Expr):Option (Int⊕Int) :=(A6 b c a).bind fun e=>match e with
 | .inl d=>if (decide (d.1<d.2))then if InR 2 a.length then (b c (nth a 2)).bind fun f=>match f with
    |.inl g=>some (.inl g)
    |.inr i=>some (.inr i) else none else if InR 3 a.length then (b c (nth a 3)).bind fun j=>match j with
    |.inl k=>some (.inl k)
    |.inr l=>some (.inr l) else none
 |.inr m=>some (.inr m)
def B7(rec_ : Api_Env→Api_Expr→Option (Int⊕Int))(b:Api_Env)(a:Api_Expr):Option (Int⊕Int) :=if(a.Op==1)then some (.inl a.N) else if(a.Op==2)then (AO b a.N).bind fun c=>match c with
   |.inl d=>some (.inl d)
   |.inr e=>some (.inr e) else if a.Op=3 then (Cc rec_ b a.L).bind fun f=>match f with
    |.inl g=>some (.inl g)
    |.inr i=>some (.inr i) else if a.Op=4 then (Cb rec_ b a.L).bind fun j=>match j with
     |.inl k=>some (.inl k)
     |.inr l=>some (.inr l) else if a.Op=5 then (BZ rec_ b a.L).bind fun m=>match m with
      |.inl n=>some (.inl n)
      |.inr o=>some (.inr o) else if a.Op=6 then (BE rec_ b a.L).bind fun p=>match p with
       |.inl q=>some (.inl q)
       |.inr s=>some (.inr s) else if a.Op=7 then (Bq rec_ b a.L).bind fun t=>match t with
        |.inl u=>some (.inl u)
        |.inr v=>some (.inr v) else if a.Op=8 then (C8 rec_ b a.L).bind fun w=>match w with
         |.inl x=>some (.inl x)
         |.inr y=>some (.inr y) else if a.Op=9 then (Dg rec_ b a.L).bind fun z=>match z with
          |.inl aa=>some (.inl aa)
          |.inr ab=>some (.inr ab) else if a.Op=10 then (C7 rec_ b a.L).bind fun ac=>match ac with
           |.inl ad=>some (.inl ad)
           |.inr ae=>some (.inr ae) else if a.Op=11 then (B6 rec_ b a.L).bind fun af=>match af with
            |.inl ag=>some (.inl ag)
            |.inr ah=>some (.inr ah) else none
def Bh(n:Nat):Api_Env→Api_Expr→Option (Int⊕Int):=match n with
 |0=>fun _ _=>none
 |n+1=>B7 (Bh n)
def Fb(a:Api_Env)(b:Api_Expr):Option (Int⊕Int):=Bh 18446744073709551616 a b
def Bi(b:Tparse_parser):Option (Int×Tparse_parser) :=(Aq b ([42]:List UInt8)).bind fun a=>if a.1=true then some (5,a.2) else some (0,a.2)
def Bz(c:Tparse_parser):Option (Int×Tparse_parser) :=(Aq c ([43]:List UInt8)).bind fun a=>if a.1=true then some (3,a.2) else (Aq a.2 ([45]:List UInt8)).bind fun b=>if b.1=true then some (4,b.2) else some (0,b.2)
noncomputable def A9(r:(Api_Expr×Tparse_parser)⊕(Int×Int×Tparse_parser)):Outc:=match r with
 |.inl r=>.ret (.agg (i64 r.1.Op::i64 r.1.N::(C1 i64 r.1.Unit.l++[.sl false (L cApi_Expr r.1.L)]))) [.box [.sl false (L Aa r.2.l),i64 r.2.end_] false]
 |.inr r=>.pan (.iface 50 (.agg #[.int .i64 r.1,.int .i64 r.2.1])) [.box [.sl false (L Aa r.2.2.l),i64 r.2.2.end_] false]
noncomputable def F7(r:(Api_Expr×Tparse_parser×List (List UInt8))⊕(Int×Int×Tparse_parser×List (List UInt8))):Outc:=match r with
 |.inl r=>.ret (.agg (i64 r.1.Op::i64 r.1.N::(C1 i64 r.1.Unit.l++[.sl false (L cApi_Expr r.1.L)]))) [.box [.sl false (L Aa r.2.1.l),i64 r.2.1.end_] false,.buf 1 (L Eg r.2.2) false]
 |.inr r=>.pan (.iface 50 (.agg #[.int .i64 r.1,.int .i64 r.2.1])) [.box [.sl false (L Aa r.2.2.1.l),i64 r.2.2.1.end_] false,.buf 1 (L Eg r.2.2.2) false]
def BB(k:Tparse_parser→Option ((Api_Expr×Tparse_parser)⊕(Int×Int×Tparse_parser)))(a:List (List UInt8))(b:Int)(f:List Api_Token)(g:Int)(c:List Api_Expr):Option ((Int×List Api_Token×Int×List Api_Expr)⊕((List Api_Token×Int×List Api_Expr)⊕((List Api_Token×Int×List Api_Expr)⊕((Api_Expr×Tparse_parser×List (List UInt8))⊕(Int×Int×Tparse_parser×List (List UInt8)))))) :=if (decide (b<(a.length:Int)))then if InR b a.length then lt1 (nth a b.toNat) fun(m:List UInt8)=>(k ({ l:=f,end_:=g }:Tparse_parser)).bind fun n=>match n with
   | .inl i=>if Iu (c.length+1) 72 then lt1 (c++([i.1]:List Api_Expr)) fun(o:List Api_Expr)=>(Ar i.2 m).bind fun p=>match p with
     |.inl j=>some (.inl ((w64 (b+1)),j.l,j.end_,o))
     |.inr d=>((some (.inr (d.1,d.2.1,d.2.2,a))).bind fun q=>some (.inr q)).bind fun s=>some (.inr (.inr s)) else none
   |.inr e=>((some (.inr (e.1,e.2.1,e.2.2,a))).bind fun t=>some (.inr t)).bind fun u=>some (.inr (.inr u)) else none else some (.inr (.inl (f,g,c)))
def Bk(d:Tparse_parser→Option ((Api_Expr×Tparse_parser)⊕(Int×Int×Tparse_parser)))(e:Tparse_parser)(f:Int)(a:List (List UInt8)):Option ((Api_Expr×Tparse_parser×List (List UInt8))⊕(Int×Int×Tparse_parser×List (List UInt8))) :=(Ar e ([40]:List UInt8)).bind fun g=>match g with
 | .inl c=>((CJ (fun(v:Int×List Api_Token×Int×List Api_Expr)=>BB d a v.1 v.2.1 v.2.2.1 v.2.2.2) (0,c.l,c.end_,[])).bind fun x=>match x with
  |.inl (i,j,k)=>some (.inl (i,j,k))
  |.inr z=>some z:Option ((List Api_Token×Int×List Api_Expr)⊕((Api_Expr×Tparse_parser×List (List UInt8))⊕(Int×Int×Tparse_parser×List (List UInt8))))).bind fun x=>match x with
  |.inl (m,n,o)=>some (.inl ((Api_Expr.mk f 0 (Arr.rep 4 0) o),({ l:=m,end_:=n }:Tparse_parser),a))
  |.inr z=>some z
 |.inr b=>some (.inr (b.1,b.2.1,b.2.2,a))
noncomputable def Gs(r:(Api_Expr×Tparse_parser)⊕(Int×Int×Tparse_parser)):Outc:=match r with
 |.inl r=>.ret (.agg (i64 r.1.Op::i64 r.1.N::(C1 i64 r.1.Unit.l++[.sl false (L cApi_Expr r.1.L)]))) [.box [.sl false (L Aa r.2.l),i64 r.2.end_] false]
 |.inr r=>.pan (.iface 50 (.agg #[.int .i64 r.1,.int .i64 r.2.1])) [.box [.sl false (L Aa r.2.2.l),i64 r.2.2.end_] false]
def Bw(b:Tparse_parser→Option ((Api_Expr×Tparse_parser)⊕(Int×Int×Tparse_parser)))(u:Tparse_parser):Option ((Api_Expr×Tparse_parser)⊕(Int×Int×Tparse_parser)) :=(Be u 2).bind fun c=>if c.2.1=true then (AH c.2.2).bind fun v=>match v with
  | .inl n=>(Cp n.2).bind fun w=>match w with
   |.inl o=>some (.inl ((Api_Expr.mk 1 n.1 o.1 ([])),o.2))
   |.inr d=>some (.inr (d.1,d.2.1,d.2.2))
  |.inr e=>some (.inr (e.1,e.2.1,e.2.2)) else (Aq c.2.2 ([40]:List UInt8)).bind fun f=>if f.1=true then (b f.2).bind fun x=>match x with
   | .inl p=>(Ar p.2 ([41]:List UInt8)).bind fun y=>match y with
    |.inl z=>some (.inl (p.1,z))
    |.inr g=>some (.inr (g.1,g.2.1,g.2.2))
   |.inr i=>some (.inr (i.1,i.2.1,i.2.2)) else (Aq f.2 ([105,102]:List UInt8)).bind fun j=>if j.1=true then (Bk b j.2 11 ([([60]:List UInt8),([44]:List UInt8),([44]:List UInt8),([41]:List UInt8)]:List (List UInt8))).bind fun aa=>match aa with
    |.inl q=>some (.inl (q.1,q.2.1))
    |.inr k=>some (.inr (k.1,k.2.1,k.2.2.1)) else (Bc j.2 ([109,105,110,32,109,97,120,32,100,111,119,110,32,117,112,32,104,97,108,102]:List UInt8)).bind fun a=>if a.2.1=true then (Bk b a.2.2 (w64 (6+a.1)) ([([44]:List UInt8),([41]:List UInt8)]:List (List UInt8))).bind fun ab=>match ab with
     |.inl s=>some (.inl (s.1,s.2.1))
     |.inr l=>some (.inr (l.1,l.2.1,l.2.2.1)) else (Bf a.2.2 ([116,121,112,101,32,111,119,110,101,114,32,114,97,105,108,119,97,121,32,115,104,105,112,112,101,114,32,99,108,97,115,115,32,119,101,105,103,104,116,32,107,109,32,109,105,110,117,116,101,115,32,119,111,114,107,105,110,103,32,99,111,100,101,32,119,111,114,116,104,32,99,111,115,116,32,109,111,110,116,104,32,98,101,103,105,110,32,112,97,114,116,115,32,112,97,114,116]:List UInt8)).bind fun ac=>match ac with
     |.inl t=>some (.inl ((Api_Expr.mk 2 t.1 (Arr.rep 4 0) ([])),t.2))
     |.inr m=>some (.inr (m.1,m.2.1,m.2.2))
noncomputable def DS(r:(Api_Expr×Tparse_parser)⊕(Int×Int×Tparse_parser)):Outc:=match r with
 |.inl r=>.ret (.agg (i64 r.1.Op::i64 r.1.N::(C1 i64 r.1.Unit.l++[.sl false (L cApi_Expr r.1.L)]))) [.box [.sl false (L Aa r.2.l),i64 r.2.end_] false,.box [.ref 0 0] false]
 |.inr r=>.pan (.iface 50 (.agg #[.int .i64 r.1,.int .i64 r.2.1])) [.box [.sl false (L Aa r.2.2.l),i64 r.2.2.end_] false,.box [.ref 0 0] false]
def AU(m:Tparse_parser→Option ((Api_Expr×Tparse_parser)⊕(Int×Int×Tparse_parser)))(c:Int)(d:List Api_Token)(e:Int)(f:Int)(g:Int)(i:Arr Int 4)(j:List Api_Expr):Option ((Int×List Api_Token×Int×Int×Int×Arr Int 4×List Api_Expr)⊕((List Api_Token×Int×Int×Int×Arr Int 4×List Api_Expr)⊕((List Api_Token×Int×Int×Int×Arr Int 4×List Api_Expr)⊕((Api_Expr×Tparse_parser)⊕(Int×Int×Tparse_parser))))) :=if(c != 0)then (Bw m ({ l:=d,end_:=e }:Tparse_parser)).bind fun n=>match n with
  |.inl k=>lt1 ([(Api_Expr.mk f g i j),k.1]:List Api_Expr) fun(o:List Api_Expr)=>(Bi k.2).bind fun a=>some (.inl (a.1,a.2.l,a.2.end_,c,0,(Arr.rep 4 0),o))
  |.inr b=>((some (.inr (b.1,b.2.1,b.2.2))).bind fun p=>some (.inr p)).bind fun q=>some (.inr (.inr q)) else some (.inr (.inl (d,e,f,g,i,j)))
def AG(d:Tparse_parser→Option ((Api_Expr×Tparse_parser)⊕(Int×Int×Tparse_parser)))(e:Tparse_parser):Option ((Api_Expr×Tparse_parser)⊕(Int×Int×Tparse_parser)) :=(Bw d e).bind fun f=>match f with
 | .inl a=>((Bi a.2).bind fun b=>(CJ (fun(v:Int×List Api_Token×Int×Int×Int×Arr Int 4×List Api_Expr)=>AU d v.1 v.2.1 v.2.2.1 v.2.2.2.1 v.2.2.2.2.1 v.2.2.2.2.2.1 v.2.2.2.2.2.2) (b.1,b.2.l,b.2.end_,a.1.Op,a.1.N,a.1.Unit,a.1.L)).bind fun x=>match x with
  |.inl (g,i,j,k,m,n)=>some (.inl (g,i,j,k,m,n))
  |.inr z=>some z:Option ((List Api_Token×Int×Int×Int×Arr Int 4×List Api_Expr)⊕((Api_Expr×Tparse_parser)⊕(Int×Int×Tparse_parser)))).bind fun x=>match x with
  |.inl (o,p,q,s,t,u)=>some (.inl ((Api_Expr.mk q s t u),({ l:=o,end_:=p }:Tparse_parser)))
  |.inr z=>some z
 |.inr c=>some (.inr (c.1,c.2.1,c.2.2))
noncomputable def FY(r:(Api_Expr×Tparse_parser)⊕(Int×Int×Tparse_parser)):Outc:=match r with
 |.inl r=>.ret (.agg (i64 r.1.Op::i64 r.1.N::(C1 i64 r.1.Unit.l++[.sl false (L cApi_Expr r.1.L)]))) [.box [.sl false (L Aa r.2.l),i64 r.2.end_] false,.box [.ref 0 0] false]
 |.inr r=>.pan (.iface 50 (.agg #[.int .i64 r.1,.int .i64 r.2.1])) [.box [.sl false (L Aa r.2.2.l),i64 r.2.2.end_] false,.box [.ref 0 0] false]
def B1(c:Tparse_parser→Option ((Api_Expr×Tparse_parser)⊕(Int×Int×Tparse_parser)))(d:Tparse_parser):Option ((Api_Expr×Tparse_parser)⊕(Int×Int×Tparse_parser)) :=(AG c d).bind fun e=>match e with
 |.inl b=>some (.inl (b.1,b.2))
 |.inr a=>some (.inr (a.1,a.2.1,a.2.2))
noncomputable def DT(r:(Api_Expr×Tparse_parser)⊕(Int×Int×Tparse_parser)):Outc:=match r with
 |.inl r=>.ret (.agg (i64 r.1.Op::i64 r.1.N::(C1 i64 r.1.Unit.l++[.sl false (L cApi_Expr r.1.L)]))) [.box [.sl false (L Aa r.2.l),i64 r.2.end_] false,.box [.ref 0 0] false]
 |.inr r=>.pan (.iface 50 (.agg #[.int .i64 r.1,.int .i64 r.2.1])) [.box [.sl false (L Aa r.2.2.l),i64 r.2.2.end_] false,.box [.ref 0 0] false]
def AQ(m:Tparse_parser→Option ((Api_Expr×Tparse_parser)⊕(Int×Int×Tparse_parser)))(c:Int)(d:List Api_Token)(e:Int)(f:Int)(g:Int)(i:Arr Int 4)(j:List Api_Expr):Option ((Int×List Api_Token×Int×Int×Int×Arr Int 4×List Api_Expr)⊕((List Api_Token×Int×Int×Int×Arr Int 4×List Api_Expr)⊕((List Api_Token×Int×Int×Int×Arr Int 4×List Api_Expr)⊕((Api_Expr×Tparse_parser)⊕(Int×Int×Tparse_parser))))) :=if(c != 0)then (B1 m ({ l:=d,end_:=e }:Tparse_parser)).bind fun n=>match n with
  |.inl k=>lt1 ([(Api_Expr.mk f g i j),k.1]:List Api_Expr) fun(o:List Api_Expr)=>(Bz k.2).bind fun a=>some (.inl (a.1,a.2.l,a.2.end_,c,0,(Arr.rep 4 0),o))
  |.inr b=>((some (.inr (b.1,b.2.1,b.2.2))).bind fun p=>some (.inr p)).bind fun q=>some (.inr (.inr q)) else some (.inr (.inl (d,e,f,g,i,j)))
def AJ(d:Tparse_parser→Option ((Api_Expr×Tparse_parser)⊕(Int×Int×Tparse_parser)))(e:Tparse_parser):Option ((Api_Expr×Tparse_parser)⊕(Int×Int×Tparse_parser)) :=(B1 d e).bind fun f=>match f with
 | .inl a=>((Bz a.2).bind fun b=>(CJ (fun(v:Int×List Api_Token×Int×Int×Int×Arr Int 4×List Api_Expr)=>AQ d v.1 v.2.1 v.2.2.1 v.2.2.2.1 v.2.2.2.2.1 v.2.2.2.2.2.1 v.2.2.2.2.2.2) (b.1,b.2.l,b.2.end_,a.1.Op,a.1.N,a.1.Unit,a.1.L)).bind fun x=>match x with
  |.inl (g,i,j,k,m,n)=>some (.inl (g,i,j,k,m,n))
  |.inr z=>some z:Option ((List Api_Token×Int×Int×Int×Arr Int 4×List Api_Expr)⊕((Api_Expr×Tparse_parser)⊕(Int×Int×Tparse_parser)))).bind fun x=>match x with
  |.inl (o,p,q,s,t,u)=>some (.inl ((Api_Expr.mk q s t u),({ l:=o,end_:=p }:Tparse_parser)))
  |.inr z=>some z
 |.inr c=>some (.inr (c.1,c.2.1,c.2.2))
def BL(rec_:Tparse_parser→Option ((Api_Expr×Tparse_parser)⊕(Int×Int×Tparse_parser)))(c:Tparse_parser):Option ((Api_Expr×Tparse_parser)⊕(Int×Int×Tparse_parser)) :=(AJ rec_ c).bind fun d=>match d with
 |.inl b=>some (.inl (b.1,b.2))
 |.inr a=>some (.inr (a.1,a.2.1,a.2.2))
def C9(n:Nat):Tparse_parser→Option ((Api_Expr×Tparse_parser)⊕(Int×Int×Tparse_parser)):=match n with
 |0=>fun _=>none
 |n+1=>BL (C9 n)
def Eo(a:Tparse_parser):Option ((Api_Expr×Tparse_parser)⊕(Int×Int×Tparse_parser)):=C9 18446744073709551616 a
noncomputable def Gd(a:List Api_Clause)(r:(Api_Clause×Tparse_parser)⊕(Int×Int×Tparse_parser)):Outc:=match r with
 |.inl r=>.ret (.agg (.str r.1.Zd::.sl false (L Af r.1.Ze)::i64 r.1.Pay.Op::i64 r.1.Pay.N::(C1 i64 r.1.Pay.Unit.l++[.sl false (L cApi_Expr r.1.Pay.L)]))) [.box [.sl false (L Aa r.2.l),i64 r.2.end_] false,.buf 9 (L Ac a) false]
 |.inr r=>.pan (.iface 50 (.agg #[.int .i64 r.1,.int .i64 r.2.1])) [.box [.sl false (L Aa r.2.2.l),i64 r.2.2.end_] false,.buf 9 (L Ac a) false]
def BP(g:Bool)(d:List Api_Token)(e:Int)(a:List Api_Test):Option ((Bool×List Api_Token×Int×List Api_Test)⊕((List Api_Token×Int×List Api_Test)⊕((List Api_Token×Int×List Api_Test)⊕((Api_Clause×Tparse_parser)⊕(Int×Int×Tparse_parser))))) :=if g then (Cv ({ l:=d,end_:=e }:Tparse_parser) (a.length:Int)).bind fun i=>match i with
  | .inl f=>if Iu (a.length+1) 24 then lt1 (a++([f.1]:List Api_Test)) fun(j:List Api_Test)=>(Aq f.2 ([97,110,100]:List UInt8)).bind fun b=>some (.inl (b.1,b.2.l,b.2.end_,j)) else none
  |.inr c=>((some (.inr (c.1,c.2.1,c.2.2))).bind fun k=>some (.inr k)).bind fun m=>some (.inr (.inr m)) else some (.inr (.inl (d,e,a)))
def BM(m:Tparse_parser)(n:List Api_Clause):Option ((Api_Clause×Tparse_parser)⊕(Int×Int×Tparse_parser)) :=(AE m).bind fun i=>(BK i.2).bind fun o=>match o with
 | .inl b=>(AM n ({ Zd:=b.1,Ze:=[],Pay:=(Api_Expr.mk 0 0 (Arr.rep 4 0) ([])) }:Api_Clause)).bind fun j=>if j.1=true then some (.inr (i.1,161,b.2)) else ((Aq b.2 ([119,104,101,110]:List UInt8)).bind fun c=>(CJ (fun(v:Bool×List Api_Token×Int×List Api_Test)=>BP v.1 v.2.1 v.2.2.1 v.2.2.2) (c.1,c.2.l,c.2.end_,[])).bind fun x=>match x with
   |.inl (p,q,s)=>some (.inl (p,q,s))
   |.inr z=>some z:Option ((List Api_Token×Int×List Api_Test)⊕((Api_Clause×Tparse_parser)⊕(Int×Int×Tparse_parser)))).bind fun x=>match x with
   | .inl (t,u,w)=>(Ar ({ l:=t,end_:=u }:Tparse_parser) ([112,97,121]:List UInt8)).bind fun y=>match y with
    | .inl aa=>(AE aa).bind fun k=>(Eo k.2).bind fun ab=>match ab with
     | .inl a=>(HU a.1).bind fun ac=>if(decide (ac>24))then some (.inr (k.1,2,a.2)) else (Ar a.2 ([59]:List UInt8)).bind fun ad=>match ad with
       |.inl ae=>some (.inl (({ Zd:=j.2.Zd,Ze:=w,Pay:=a.1 }:Api_Clause),ae))
       |.inr d=>some (.inr (d.1,d.2.1,d.2.2))
     |.inr e=>some (.inr (e.1,e.2.1,e.2.2))
    |.inr f=>some (.inr (f.1,f.2.1,f.2.2))
   |.inr z=>some z
 |.inr g=>some (.inr (g.1,g.2.1,g.2.2))
def C2(b:List UInt8):Option (Api_Tariff×Int×Int) :=(E5 b).bind fun a=>if(a.2.2 != 0)then some (({ Zd:=([]:List UInt8),For:=0,Zf:=[] }:Api_Tariff),a.2.1,a.2.2) else none
def Di(f:Int)(g:List Api_Token)(i:Int)(a:List Api_Clause):Option ((Int×List Api_Token×Int×List Api_Clause)⊕((List Api_Token×Int×List Api_Clause)⊕((List Api_Token×Int×List Api_Clause)⊕(Api_Tariff×Int×Int)))) :=(Aq ({ l:=g,end_:=i }:Tparse_parser) ([99,108,97,117,115,101]:List UInt8)).bind fun b=>if b.1=true then if((a.length:Int)==64)then ((some (({ Zd:=([]:List UInt8),For:=0,Zf:=[] }:Api_Tariff),f,2)).bind fun j=>some (.inr j)).bind fun k=>some (.inr (.inr k)) else (BM b.2 a).bind fun m=>match m with
   | .inl d=>if Iu (a.length+1) 112 then lt1 (a++([d.1]:List Api_Clause)) fun(n:List Api_Clause)=>(AE d.2).bind fun c=>some (.inl (c.1,c.2.l,c.2.end_,n)) else none
   |.inr e=>((some (({ Zd:=([]:List UInt8),For:=0,Zf:=[] }:Api_Tariff),e.1,e.2.1)).bind fun o=>some (.inr o)).bind fun p=>some (.inr (.inr p)) else some (.inr (.inl (b.2.l,b.2.end_,a)))
def DA(b : List UInt8):Option (Api_Tariff×Int×Int) :=(E5 b).bind fun c=>if(c.2.2 != 0)then none else (Ar ({ l:=c.1,end_:=(b.length:Int) }:Tparse_parser) ([116,97,114,105,102,102]:List UInt8)).bind fun p=>match p with
 | .inl q =>(BK q).bind fun s=>match s with
  | .inl d=>(Ar d.2 ([102,111,114]:List UInt8)).bind fun t=>match t with
   | .inl u=>(Bf u ([104,105,114,101,32,100,101,109,117,114,114,97,103,101,32,102,114,101,105,103,104,116,32,114,101,112,97,105,114,32,108,111,115,115,32,99,108,101,97,110,105,110,103]:List UInt8)).bind fun w=>match w with
    | .inl e=>(Ar e.2 ([123]:List UInt8)).bind fun y=>match y with
     | .inl aa=>((AE aa).bind fun a=>(CJ (fun(v:Int×List Api_Token×Int×List Api_Clause)=>Di v.1 v.2.1 v.2.2.1 v.2.2.2) (a.1,a.2.l,a.2.end_,[])).bind fun x=>match x with
      |.inl (ab,ac,ad)=>some (.inl (ab,ac,ad))
      |.inr z=>some z:Option ((List Api_Token×Int×List Api_Clause)⊕(Api_Tariff×Int×Int))).bind fun x=>match x with
      | .inl (ae,af,ag)=>(Ar ({ l:=ae,end_:=af }:Tparse_parser) ([125]:List UInt8)).bind fun ah=>match ah with
       | .inl f=>(if(decide ((f.l.length:Int)>0))then (AL f).bind fun ai=>match ai with
         |.inl ak=>some (.inl ())
         |.inr g=>(some (({ Zd:=([]:List UInt8),For:=0,Zf:=[] }:Api_Tariff),g.1,g.2.1)).bind fun aj=>some (.inr aj) else some (.inl ()):Option ((Unit)⊕(Api_Tariff×Int×Int))).bind fun x=>match x with
        |.inl ()=>some (({ Zd:=d.1,For:=(w64 (1+e.1)),Zf:=ag }:Api_Tariff),0,0)
        |.inr z=>some z
       |.inr i=>some (({ Zd:=([]:List UInt8),For:=0,Zf:=[] }:Api_Tariff),i.1,i.2.1)
      |.inr z=>some z
     |.inr j=>some (({ Zd:=([]:List UInt8),For:=0,Zf:=[] }:Api_Tariff),j.1,j.2.1)
    |.inr k=>some (({ Zd:=([]:List UInt8),For:=0,Zf:=[] }:Api_Tariff),k.1,k.2.1)
   |.inr m=>some (({ Zd:=([]:List UInt8),For:=0,Zf:=[] }:Api_Tariff),m.1,m.2.1)
  |.inr n=>some (({ Zd:=([]:List UInt8),For:=0,Zf:=[] }:Api_Tariff),n.1,n.2.1)
 |.inr o=>some (({ Zd:=([]:List UInt8),For:=0,Zf:=[] }:Api_Tariff),o.1,o.2.1)
def Dk(a:List UInt8):Option (Api_Tariff×Int×Int):=match C2 a with
|some r=>some r
|none=>DA a
def CX(d:Api_Env)(b:Api_Clause)(a:Int):Option ((Int)⊕((Unit)⊕((Unit)⊕((Bool×Int)⊕Int)))) :=if (decide (a<(b.Ze.length:Int)))then if InR a b.Ze.length then lt1 ((nth b.Ze a.toNat).Attr) fun(e:Int)=>lt1 ((nth b.Ze a.toNat).Low) fun(f:Int)=>lt1 ((nth b.Ze a.toNat).Zc) fun(g:Int)=>(AO d e).bind fun i=>match i with
   | .inl c=>(if(decide (c<f))then some true else some (decide (c>g)):Option (Bool)).bind fun j=>if j then ((some (.inl (false,0))).bind fun k=>some (.inr k)).bind fun l=>some (.inr (.inr l)) else some (.inl (w64 (a+1)))
   |.inr m=>((some (.inr m)).bind fun n=>some (.inr n)).bind fun o=>some (.inr (.inr o)) else none else some (.inr (.inl ()))
def G2(a:Api_Env)(b:Api_Clause):Option ((Bool×Int)⊕Int) :=((CJ (fun(v:Int)=>CX a b v) 0).bind fun x=>match x with
 |.inl ()=>some (.inl ())
 |.inr z=>some z:Option ((Unit)⊕((Bool×Int)⊕Int))).bind fun x=>match x with
 |.inl ()=>some (.inl (true,0))
 |.inr z=>some z
def Vi:(Bool×Int)⊕Int→Bool×Int
 |.inl r=>r
 |.inr e=>(false,e)
def E3(c:Api_Clause)(v:Api_Env):Option (Bool×Int):=(G2 v c).bind fun r=>some (Vi r)
def E4(x:Api_Expr)(v:Api_Env):Option (Int×Int):=(H1 x 24).bind fun y=>if y then(Fb v x).bind fun r=>match r with|.inl n=>some (n,0)|.inr e=>some (0,e)else some (0,1)
def En(b:Api_Tariff)(e:Api_Env)(a:Int):Option ((Int)⊕((Unit)⊕((Unit)⊕(Int×Int×Int)))) :=if (decide (a<(b.Zf.length:Int)))then if InR a b.Zf.length then lt1 ((nth b.Zf a.toNat).Zd) fun(k:List UInt8)=>lt1 ((nth b.Zf a.toNat).Ze) fun(l:List Api_Test)=>lt1 (((nth b.Zf a.toNat).Pay).Op) fun(f:Int)=>lt1 (((nth b.Zf a.toNat).Pay).N) fun(g:Int)=>lt1 (((nth b.Zf a.toNat).Pay).Unit) fun(i:Arr Int 4)=>lt1 (((nth b.Zf a.toNat).Pay).L) fun(j:List Api_Expr)=>(E3 ({ Zd:=k,Ze:=l,Pay:=(Api_Expr.mk f g i j) }:Api_Clause) e).bind fun c=>if(c.2 != 0)then ((some (0,0,c.2)).bind fun m=>some (.inr m)).bind fun n=>some (.inr (.inr n)) else if(!c.1)then some (.inl (w64 (a+1))) else (E4 (Api_Expr.mk f g i j) e).bind fun d=>if(d.2 != 0)then ((some (0,0,d.2)).bind fun o=>some (.inr o)).bind fun p=>some (.inr (.inr p)) else ((some (d.1,a,0)).bind fun q=>some (.inr q)).bind fun s=>some (.inr (.inr s)) else none else some (.inr (.inl ()))
def Dj(a:Api_Tariff)(b:Api_Env):Option (Int×Int×Int) :=((CJ (fun(v:Int)=>En a b v) 0).bind fun x=>match x with
 |.inl ()=>some (.inl ())
 |.inr z=>some z:Option ((Unit)⊕(Int×Int×Int))).bind fun x=>match x with
 |.inl ()=>some (0,0,180)
 |.inr z=>some z
def top_tariffSane  : Option (Bool) :=(Dk ([116,97,114,105,102,102,32,116,32,102,111,114,32,104,105,114,101,32,123,32,99,108,97,117,115,101,32,97,32,112,97,121,32,50,32,109,111,110,101,121,32,112,101,114,32,109,105,110,117,116,101,32,42,32,109,105,110,117,116,101,115,59,32,125]:List UInt8)).bind fun b=>(Dj b.1 ({ Has:=128,V:=(⟨[0,0,0,0,0,0,0,21,0,0,0,0,0,0,0,0],rfl⟩:Arr Int 16) }:Api_Env)).bind fun a=>(if(b.2.2==0)then if(a.2.2==0)then if(a.1==42)then some (a.2.1==0) else some false else some false else some false:Option (Bool)).bind fun c=>some c
def CC(c:Api_Env)(a:Int):Option ((Int)⊕((Unit)⊕((Unit)⊕(Bool)))) :=if (decide (a<16))then if InR a 16 then lt1 (c.V.get a.toNat) fun(b:Int)=>(if(decide (b<0))then some true else some (decide (b>9007199254740992)):Option (Bool)).bind fun d=>if d then ((some true).bind fun e=>some (.inr e)).bind fun f=>some (.inr (.inr f)) else some (.inl (w64 (a+1))) else none else some (.inr (.inl ()))
def CF(e:Api_Env)(b:Api_Tariff×Int×Int)(c:Int)(a:Int):Option ((Int×Int)⊕((Int)⊕((Int)⊕(Bool)))) :=if (decide (a<(b.1.Zf.length:Int)))then (if InR a b.1.Zf.length then lt1 ((nth b.1.Zf a.toNat).Zd) fun(f:List UInt8)=>lt1 ((nth b.1.Zf a.toNat).Ze) fun(g:List Api_Test)=>lt1 (((nth b.1.Zf a.toNat).Pay).Op) fun(i:Int)=>lt1 (((nth b.1.Zf a.toNat).Pay).N) fun(j:Int)=>lt1 (((nth b.1.Zf a.toNat).Pay).Unit) fun(k:Arr Int 4)=>lt1 (((nth b.1.Zf a.toNat).Pay).L) fun(l:List Api_Expr)=>(E3 ({ Zd:=f,Ze:=g,Pay:=(Api_Expr.mk i j k l) }:Api_Clause) e).bind fun d=>if(d.2 != 0)then (((some false).bind fun m=>some (.inr m)).bind fun n=>some (.inr (.inr n))).bind fun o=>some (.inr o) else if d.1=true then some (.inl (w64 (c+1))) else some (.inl c) else none:Option ((Int)⊕((Int×Int)⊕((Int)⊕((Int)⊕(Bool)))))).bind fun x=>match x with
  |.inl p=>some (.inl (p,(w64 (a+1))))
  |.inr z=>some z else some (.inr (.inl c))
def Da(g : List UInt8)(e:Api_Env)(b:Int):Option (Bool) :=top_tariffSane.bind fun k=>if(!k)then some false else if(decide ((g.length:Int)>600))then some true else (Dk g).bind fun a=>(if(a.2.2 != 0)then some true else (Gx a.1).bind fun l=>if(l != 0)then some true else if((a.1.Zf.length:Int)==0)then some true else if(decide (b<0))then some true else if(decide (b≥(a.1.Zf.length:Int)))then some true else some (e.Has != 65535):Option (Bool)).bind fun m=>if m then some true else ((CJ (fun(v:Int)=>CC e v) 0).bind fun x=>match x with
    |.inl ()=>some (.inl ())
    |.inr z=>some z:Option ((Unit)⊕(Bool))).bind fun x=>match x with
    | .inl () =>((CJ (fun(v:Int×Int)=>CF e a v.1 v.2) (0,0)).bind fun x=>match x with
     |.inl n=>some (.inl n)
     |.inr z=>some z:Option ((Int)⊕(Bool))).bind fun x=>match x with
     | .inl i =>if InR b a.1.Zf.length then if InB b a.1.Zf.length then if Iu (1 + (a.1.Zf.take b.toNat).length) 112 then lt1 (([nth a.1.Zf b.toNat]:List Api_Clause)++(a.1.Zf.take b.toNat)) fun(j:List Api_Clause)=>if InB (w64 (b+1)) a.1.Zf.length then if Iu (j.length+((a.1.Zf.drop ((w64 (b+1)).toNat)).take (a.1.Zf.length-(w64 (b+1)).toNat)).length) 112 then lt1 (j++((a.1.Zf.drop ((w64 (b+1)).toNat)).take (a.1.Zf.length-(w64 (b+1)).toNat))) fun(f:List Api_Clause)=>(Dj a.1 e).bind fun c=>(Dj ({ Zd:=a.1.Zd,For:=a.1.For,Zf:=f }:Api_Tariff) e).bind fun d=>(if(decide (i>1))then some true else if(!((i==0)==(c.2.2==180)))then some true else if(c.2.2 != d.2.2)then some true else some (c.1 != d.1):Option (Bool)).bind fun o=>if o then some false else (if(c.2.2 != 0)then some true else if (decide (c.2.1≥0))then if (decide (c.2.1<(a.1.Zf.length:Int)))then if (decide (d.2.1≥0))then if (decide (d.2.1<(f.length:Int)))then if InR c.2.1 a.1.Zf.length then if InR d.2.1 f.length then some (((nth a.1.Zf c.2.1.toNat).Zd)==((nth f d.2.1.toNat).Zd)) else none else none else some false else some false else some false else some false:Option (Bool)).bind fun p=>some p else none else none else none else none else none
     |.inr z=>some z
    |.inr z=>some z
open Go.Rv Go.ChangeShapes Go.WideShapes Go.ChangeAt Go.RowKit
theorem Rs(H:Type)(l:List (DataW H)):(l.map (Rows.uptoBulk (H:=H))).sum=Rows.uptoBulkAll l:=by
 induction l with
 |nil=>rfl
 |cons x l ih=>simp only[List.map_cons,List.sum_cons,ih,Rows.uptoBulkAll]
theorem Nc:BulkOk (fun H=>Rows.uptoBulk (H:=H)) where
 one:=fun H d=>by
  cases d with
  |lit l=>cases l<;>simp[Rows.uptoBulk]
  |_=>simp[Rows.uptoBulk]
 str:=fun H l=>by simp[Rows.uptoBulk]
 slice:=fun H e s=>by rw[Rs];simp only[Rows.uptoBulk];omega
 agg:=fun H p=>by rw[Rs];simp only[Rows.uptoBulk];omega
theorem Mg:Tryd.prog.cellsOf 3=1:=by kernel_rfl
theorem KM:Tryd.prog.cellsOf 22=16:=by kernel_rfl
theorem Qt:Tryd.prog.cellsOf 24=17:=by kernel_rfl
theorem To{P:Program}{B:∀H:Type,DataW H→Nat}{t:TypeId}{α:Type}{c:α→List AV}{sz sz':α→Nat}{ok ok':α→Prop}(h:Opens P B t c sz ok)(h1:∀x,sz' x≤sz x)(h2:∀x,ok x→ok' x):Opens P B t c sz' ok':=by
 intro H enc W pr hpr fuel cs d ps hd
 obtain⟨x,e1,e2,e3,e4⟩:=h H enc W pr hpr fuel cs d ps hd
 exact⟨x,e1,Nat.le_trans (h1 x) e2,h2 x e3,e4⟩
theorem TU:Opens Tryd.prog (fun H=>Rows.uptoBulk (H:=H)) 3 VN (fun _=>1) (fun x=>-9223372036854775808≤x∧x≤9223372036854775807):=T6 Nc Tryd.underlying3
theorem AaC:Opens Tryd.prog (fun H=>Rows.uptoBulk (H:=H)) 9 Eg (fun l=>l.length+1) (fun l=>l.length≤maxLen):=Ug Nc Tryd.underlying9
theorem Y8:Opens Tryd.prog (fun H=>Rows.uptoBulk (H:=H)) 22 (fun a:Arr Int 16=>C1 i64 a.l) (fun _=>0) (fun s=>True):=To (VD Nc Tryd.underlying22 KM Mg TU) (fun _=>Nat.zero_le _) (fun _ _=>trivial)
theorem Yi:Opens Tryd.prog (fun H=>Rows.uptoBulk (H:=H)) 24 QW (fun _=>0) (fun _=>True) :=
 OT Nc Tryd.underlying24 (n:=17) Qt
  (JQ (k:=1) rfl Mg (fun _=>rfl) TU (JQ (k:=16) rfl KM (fun _=>CM) Y8 Pp))
  (fun x=>(⟨x.1,x.2.1⟩:Api_Env)) (fun x=>by show _=i64 x.1::(C1 i64 x.2.1.l++[]);rw[List.append_nil];rfl) (fun x=>by show(i64 x.Has::C1 i64 x.V.l).length=17;rw[List.length_cons,CM])
  (fun x=>Nat.zero_le _)
  (fun _ _=>trivial)
theorem own:ownKnob Tryd.prog.godebug=none:=by kernel_rfl
theorem Z0:laidOutB Tryd.prog=true:=by kernel_rfl
abbrev NY:List (String×DataW Unit):=[("unicode.White_Space", Rows.laid_unicode_White_Space),("strings.asciiSpace", Rows.laid_strings_asciiSpace),("wagonpool/tlex.signs", Rows.laid_wagonpool_tlex_signs),("wagonpool/tlex.reserved", Rows.laid_wagonpool_tlex_reserved)]
theorem AbZ:(Rows.laid_wagonpool_tlex_signs:DataW Unit)=.map (tab0.map fun p=>(Lit.int .u8 (p.1.toNat:Int),.lit (.string p.2))):=by kernel_rfl
theorem AbI:(Rows.laid_wagonpool_tlex_reserved:DataW Unit)=.map (tab1.map fun p=>(Lit.string p.1,.lit (.bool p.2))):=by kernel_rfl
theorem Abe:(Rows.laid_strings_asciiSpace:DataW Unit)=Lib.tabData .u8 (glob2.l.map fun c=>(c.toNat:Int)):=by kernel_rfl
theorem WN(os:Os)(args:Array Value):laidMetH Tryd.prog NY ((World.doorLaid Tryd.prog 400 os).forCall (fun _ _=>0) ⟨#[],args,[]⟩).memory :=
 laidMetH_of_parts3 (fuel:=8) (laidMet_of_run' 8 (by kernel_rfl) (by kernel_rfl)) (by kernel_rfl) (by kernel_rfl)
theorem ans1:∀p∈tab1,N6 (fun k=>.str k) (fun x=>.bool x) tab1 (.str p.1)=some (.bool p.2):=by
 have h:(tab1.all fun p=>match N6 (fun k=>.str k) (fun x=>.bool x) tab1 (.str p.1)with|some (.bool b)=>b==p.2|_=>false)=true:=by decide +kernel
 intro p hp
 have:=List.all_eq_true.1 h p hp
 split at this
 ·rename_i b hb;rw[hb];rw[beq_iff_eq]at this;rw[this]
 ·cases this
theorem ans0:∀p∈tab0,N6 (fun k=>u8 k) (fun x=>.str x) tab0 (u8 p.1)=some (.str p.2):=by
 have h:(tab0.all fun p=>match N6 (fun k=>u8 k) (fun x=>.str x) tab0 (u8 p.1)with|some (.str b)=>b==p.2|_=>false)=true:=by decide +kernel
 intro p hp
 have:=List.all_eq_true.1 h p hp
 split at this
 ·rename_i b hb;rw[hb];rw[beq_iff_eq]at this;rw[this]
 ·cases this
theorem Kw{P:Program}{w:World}:∀{l:List (String×DataW Unit)} {ps:List MemPlace},DataW.LaidVars P w l ps→∀x∈l,∃g t cs fuel p,P.globalNamed x.1=some g∧(P.globals[g]?).map (·.type)=some t∧w.var? P x.1=some cs ∧
    DataW.trod (fun _=>()) P w 0 (fun _=>true) false fuel t cs.toList=some (x.2,p)
  |[],_,_,x,hx=>by cases hx
  | (n,d)::r,ps,⟨g,t,cs,fuel,p,q,hg,ht,hv,hd,hr,_⟩,x,hx=>by
    rcases List.mem_cons.1 hx with rfl|hx
    · exact⟨g,t,cs,fuel,p,hg,ht,hv,hd⟩
    · exact Kw hr x hx
theorem Zy{W:World}{c0 c1 c2:Array Value}{f0 f1 f2:Nat}{p0 p1 p2:List MemPlace}(hv0:W.var? Tryd.prog "wagonpool/tlex.signs" = some c0) (hv1:W.var? Tryd.prog "wagonpool/tlex.reserved" = some c1) (hv2:W.var? Tryd.prog "strings.asciiSpace" = some c2)
    (hd0:DataW.trod (fun _=>()) Tryd.prog W 0 (fun _=>true) false f0 107 c0.toList=some (Rows.laid_wagonpool_tlex_signs,p0)) (hd1:DataW.trod (fun _=>()) Tryd.prog W 0 (fun _=>true) false f1 109 c1.toList=some (Rows.laid_wagonpool_tlex_reserved,p1))
    (hd2:DataW.trod (fun _=>()) Tryd.prog W 0 (fun _=>true) false f2 120 c2.toList=some (Rows.laid_strings_asciiSpace,p2)) :
    ∃r:Nat→Nat,Mem ((B ⟨r,none⟩).env noF) W [] []:=by
  rw[AbZ]at hd0
  rw[AbI]at hd1
  rw[Abe]at hd2
  obtain⟨r0,e0,m0⟩:=OY (cK:=fun k=>u8 k) (cV:=fun x=>.str x) (lK:=fun k:UInt8=>Lit.int .u8 (k.toNat:Int)) (lV:=fun x:List UInt8=>Lit.string x) (zv:=.str []) Tryd.underlying107 Tryd.underlying5 (fun w=>by kernel_rfl) rfl hd0 (fun _=>rfl) (fun _=>rfl)
    (fun v a h=>Aca Tryd.underlying5 h) (fun n v b pl h=>Zo Tryd.underlying9 h) ans0
  obtain⟨r1,e1,m1⟩:=OY (cK:=fun k=>.str k) (cV:=fun x=>.bool x) (lK:=fun k:List UInt8=>Lit.string k) (lV:=fun x:Bool=>Lit.bool x) (zv:=.bool false) Tryd.underlying109 Tryd.underlying9 (fun w=>by kernel_rfl) rfl hd1 (fun _=>rfl) (fun _=>rfl)
    (fun v a h=>Zl Tryd.underlying9 h) (fun n v b pl h=>Wq Tryd.underlying4 h) ans1
  have g0:W.cell? ⟨0,0,none⟩=some (.map (some r0)):=by
    have:=World.var?_cell (show Tryd.prog.globalNamed "wagonpool/tlex.signs" = some 0 by kernel_rfl) hv0 0
    rw[this,Array.eq_one_of_toList e0];rfl
  have g1:W.cell? ⟨1,0,none⟩=some (.map (some r1)):=by
    have:=World.var?_cell (show Tryd.prog.globalNamed "wagonpool/tlex.reserved" = some 1 by kernel_rfl) hv1 0
    rw[this,Array.eq_one_of_toList e1];rfl
  have hc:=Lib.cells_of_tab (n:=256) Tryd.underlying120 Tryd.underlying5 (by kernel_rfl) (by kernel_rfl) hd2
  have g2:∀j,j<256→W.cell? ⟨2,j,none⟩=some (.int .u8 ((glob2.get j).toNat:Int)):=by
    intro j hj
    have:=World.var?_cell (show Tryd.prog.globalNamed "strings.asciiSpace" = some 2 by kernel_rfl) hv2 j
    rw[this,←Array.getElem?_toList,hc,List.map_map,List.getElem?_map]
    have hl:j<glob2.l.length:=by rw[glob2.h];exact hj
    rw[List.getElem?_eq_getElem hl]
    simp[Arr.get,nth,hl]
  refine⟨fun i=>if i=0 then r0 else r1,rfl,fun id b ab h=>by simp at h,fun id id' b b' β h=>by simp at h,fun a h=>h.elim,fun i cs hG=>?_,fun t m h=>?_,fun i p h=>(by have h':(none:Option (Array Value))=some p:=h;cases h')⟩
  · have hG':(if i=0 then some [AV.val (.map (some r0))]else if i=1 then some [AV.val (.map (some r1))]else if i=2 then some (C1 u8 glob2.l)else none)=some cs:=hG
    by_cases hi:i=0
    · rw[if_pos hi]at hG'
      cases hG'
      subst hi
      refine⟨cell?_lt g0,(by rintro⟨id,b,hb,_⟩;simp at hb),fun _ hf=>hf,fun j=>.map (some r0),fun j x hj=>?_⟩
      cases j with
      |zero=>cases hj;exact⟨g0,.val _ _ rfl,rfl⟩
      |succ j=>simp at hj
    · rw[if_neg hi]at hG'
      by_cases hi1:i=1
      · rw[if_pos hi1]at hG'
        cases hG'
        subst hi1
        refine⟨cell?_lt g1,(by rintro⟨id,b,hb,_⟩;simp at hb),fun _ hf=>hf,fun j=>.map (some r1),fun j x hj=>?_⟩
        cases j with
        |zero=>cases hj;exact⟨g1,.val _ _ rfl,rfl⟩
        |succ j=>simp at hj
      · rw[if_neg hi1]at hG'
        by_cases hi2:i=2
        · rw[if_pos hi2]at hG'
          cases hG'
          subst hi2
          refine⟨cell?_lt (g2 0 (by decide)),(by rintro⟨id,b,hb,_⟩;simp at hb),fun _ hf=>hf,fun j=>.int .u8 ((glob2.get j).toNat:Int),fun j x hj=>?_⟩
          have hj':j<256:=by
            have:=(List.getElem?_eq_some_iff.1 hj).1
            rwa[CM]at this
          rw[RI hj']at hj
          cases hj
          exact⟨g2 j hj',.int _ _ _,rfl⟩
        · rw[if_neg hi2]at hG';cases hG'
  · have h':(if t=107 then some (⟨r0,5,9,.int .u8,.str ([]:List UInt8),N6 (fun k=>u8 k) (fun x=>.str x) tab0⟩:MapS)else if t=109 then some ⟨r1,9,4,.string,.bool false,N6 (fun k=>.str k) (fun x=>.bool x) tab1⟩else if t=99 then none else none)=some m:=h
    by_cases ht:t=107
    · rw[if_pos ht]at h'
      cases h'
      subst ht
      exact m0
    · rw[if_neg ht]at h'
      by_cases ht2:t=109
      · rw[if_pos ht2]at h'
        cases h'
        subst ht2
        exact m1
      · rw[if_neg ht2]at h'
        split at h'<;>cases h'
theorem WU{W:World}(h:laidMetH Tryd.prog NY W):∃r:Nat→Nat,Mem ((B ⟨r,none⟩).env noF) W [] []:=by
 rw[MakeChecks.laidMetH_plain _ _ _ (by kernel_rfl)]at h
 obtain⟨ps,hl,_⟩:=h
 obtain⟨g0,t0,cs0,f0,p0,hg0,ht0,hv0,hd0⟩:=Kw hl ("wagonpool/tlex.signs", Rows.laid_wagonpool_tlex_signs) (by simp[NY])
 obtain⟨g1,t1,cs1,f1,p1,hg1,ht1,hv1,hd1⟩:=Kw hl ("wagonpool/tlex.reserved", Rows.laid_wagonpool_tlex_reserved) (by simp[NY])
 obtain⟨g2,t2,cs2,f2,p2,hg2,ht2,hv2,hd2⟩:=Kw hl ("strings.asciiSpace", Rows.laid_strings_asciiSpace) (by simp[NY])
 obtain rfl:=Option.some.inj ((show Tryd.prog.globalNamed "wagonpool/tlex.signs" = some 0 by kernel_rfl).symm.trans hg0)
 obtain rfl:=Option.some.inj ((show Tryd.prog.globalNamed "wagonpool/tlex.reserved" = some 1 by kernel_rfl).symm.trans hg1)
 obtain rfl:=Option.some.inj ((show Tryd.prog.globalNamed "strings.asciiSpace" = some 2 by kernel_rfl).symm.trans hg2)
 obtain rfl:=Option.some.inj ((show(Tryd.prog.globals[0]?).map (·.type)=some 107 by kernel_rfl).symm.trans ht0)
 obtain rfl:=Option.some.inj ((show(Tryd.prog.globals[1]?).map (·.type)=some 109 by kernel_rfl).symm.trans ht1)
 obtain rfl:=Option.some.inj ((show(Tryd.prog.globals[2]?).map (·.type)=some 120 by kernel_rfl).symm.trans ht2)
 exact Zy hv0 hv1 hv2 hd0 hd1 hd2
theorem SL{rs:RS}{f:FuncId}{avs:List AV}(h:Con (B rs) f avs [] (fun r σ'=>r=.bool true∧σ'=[])){fn:Func}{c:Code}(hf:Tryd.prog.funcs[f]?=some fn)(hb:fn.body=some c)(hn:(fn.name == "runtime.NumGoroutine")=false) {W:World} (hm:Mem ((B rs).env noF) W [] []) {args:Array Value}
 (ha:Bt W (Aw ((B rs).env noF) []) [] args.toList avs):Calls Tryd.prog f args W fun e W'=>e=.returned (.bool true)∧Below W.heap.size W W':=by
 refine((h.call (fun _=>False) W [] args hm ha).calls hf hb hn).mono ?_
 rintro e w' ⟨v,r,σ',g',rfl,⟨rfl,rfl⟩,hm,he,hr⟩
 exact⟨by rw[DU hr],he.below⟩
variable {rs:RS}
set_option maxHeartbeats 4000000
theorem Fu{b r}(h:Ez b=some r):Con (B rs) 50 [u8 b] [] (fun r' σ'=>r'=.bool r∧σ'=[]):=by
 refine Cw 9 [.tmp 2] Tryd.func50 (fun F hE=>?_) h
 unfold Ez
 refine T0 [0] ?_
 refine Tw [2] (fun c=>⟨Am 9 [(2,.bool c)],[]⟩) ?_ ?_
 ·intro _
  refine Sp (fun a=>?_) fun a=>?_
  ·exact Lf Ab (Ev (by simp only[go_sem,a];exact Ak)) (ws [])
  ·exact Lf Ab (Ev (by simp only[go_sem,a];exact Ak)) (ws [])
 intro c
 exact Sr <|Rr
theorem FK{b r}(h:EA b=some r):Con (B rs) 53 [u8 b] [] (fun r' σ'=>r'=.bool r∧σ'=[]):=by
 refine Cw 9 [.tmp 2] Tryd.func53 (fun F hE=>?_) h
 unfold EA
 refine T0 [0] ?_
 refine Tw [2] (fun c=>⟨Am 9 [(2,.bool c)],[]⟩) ?_ ?_
 ·intro _
  refine Sp (fun a=>?_) fun a=>?_
  ·exact Lf Ab (Ev (by simp only[go_sem,a];exact Ak)) (ws [])
  ·exact Lf Ab (Ev (by simp only[go_sem,a];exact Ak)) (ws [])
 intro c
 exact Sr <|Rr
theorem IG{a:List UInt8}{c:UInt8→Option (Bool)}{b:Nat}(g:∀{a0:UInt8} {r:Bool},c a0=some r→Con (B rs) b [u8 a0] [] (fun r' σ'=>r'=.bool r∧σ'=[])){r:Int}(h:Gm a c=some r):Con (B rs) 51 [.str a,.fn b []] [] (fun r' σ'=>r'=i64 r∧σ'=[]):=by
 refine Ki (N:=21) (rs:=[.tmp 4]) ok Tryd.func51 rfl (by decide +kernel) rfl rfl (Nat.le_of_ble_eq_true rfl) (fun F=>?_)
 have hE:=(ok (rs:=rs)).env F
 unfold Gm at h
 show Run ((B rs).env F) 0 _ ⟨Am 21 [(0,.str a),(1,.fn b [])],[]⟩ _
 refine AX ?_
 revert h
 refine T0 [0,1] ?_
 refine Jo (fun _=>⟨Am 21 [(0,.str a)],[]⟩) ?_ ?_
 ·intro m i
  refine T0 [0,1,7,8] ?_
  refine Sb ?_
  refine Lo (fun d=>⟨Am 21 [(0,.str a),(1,.fn b []),(7,i64 (a.length:Int)),(8,i64 d)],[]⟩) (ws []) ?_
  rintro d n j e f
  show BS a c d=some j→_
  unfold BS
  refine T0 [0,1,7,8,9] ?_
  refine Sq <|Cd ?_ ?_
  ·refine Sk <|Tn <|Sq <|Sb <|T0 [0,1,5,7,8] ?_
   refine Ck fun k =>Bd fun o l =>Te [0,1,5,7,8,16] (o1 15 (g l)) (Ev (by simp only[go_sem,qR k];exact Ak)) ?_
   refine Cd ?_ ?_
   ·refine T0 [4] ?_
    exact Sr <|Br <|Tr <|Lr f e <|Br <|Jr i <|Rr
   ·refine Sk <|Bn <|Tn <|F0 [0,1,7,8] ?_
    exact Ln (ws [])
  ·refine Sx <|Tx <|Lx f e <|Bx <|?_
   exact Jn ((ws (l':=[(0,.str a)]) (σ':=[]) []).trans (ws []))
 intro _
 refine T0 [4] ?_
 exact Sr <|Rr
theorem Kd{b r}(h:EU b=some r):Con (B rs) 52 [u8 b] [] (fun r' σ'=>r'=.bool r∧σ'=[]):=by
 refine Cw 9 [.tmp 2] Tryd.func52 (fun F hE=>?_) h
 unfold EU
 refine T0 [0] ?_
 refine Tw [2] (fun c=>⟨Am 9 [(2,.bool c)],[]⟩) ?_ ?_
 ·intro _
  refine Bd fun f d=>?_
  refine Sp (fun a=>?_) fun a=>?_
  ·exact Lf (o1 4 (Fu d)) (Ev (by simp only[go_sem,a];exact Ak)) (ws [])
  ·refine Bd fun g e=>?_
   exact Lf (o2 4 (Fu d) 7 (FK e)) (Ev (by simp only[go_sem,a];exact Ak)) (ws [])
 intro c
 exact Sr <|Rr
theorem K6{a r}(h:Fq a=some r):Con (B rs) 54 [.str a] [] (fun r' σ'=>r'=.tup [i64 r.1,i64 r.2]∧σ'=[]):=by
 refine Cw 31 [.tmp 2,.tmp 3] Tryd.func54 (fun F hE=>?_) h
 unfold Fq
 refine T0 [0] ?_
 refine Sq ?_
 refine Tw [0,13] (fun c=>⟨Am 31 [(0,.str a),(13,.bool c)],[]⟩) ?_ ?_
 ·intro _
  refine Sp (fun b=>?_) fun b=>?_
  ·refine Ck fun i=>?_
   exact Lf Ab (Ev (by simp only[go_sem,b,qL i];exact Ak)) (ws [])
  ·exact Lf Ab (Ev (by simp only[go_sem,b];exact Ak)) (ws [])
 intro c
 refine Cd ?_ ?_
 ·refine T0 [2,3] ?_
  exact Sr <|Tr <|Rr
 ·refine Sk <|Tn <|T0 [0,4] ?_
  refine Jo (fun d=>⟨Am 31 [(4,i64 d)],[]⟩) ?_ ?_
  ·intro p j
   refine T0 [0,4,15,16] ?_
   refine Sb ?_
   refine Lo (fun(v:Int×Int)=>(⟨Am 31 [(0,.str a),(4,i64 v.1),(15,i64 (a.length:Int)),(16,i64 v.2)],[]⟩:St)) (ws []) ?_
   rintro⟨e,k⟩ q l f g
   show Bu a e k=some l→_
   unfold Bu
   refine T0 [0,4,15,16,17] ?_
   refine Sq <|Cd ?_ ?_
   ·refine Sk <|Tn <|Sq <|Sb <|T0 [0,4,5,15,16] ?_
    refine Ck fun m =>Lt fun n o =>Te (fr':=[(0,_),(4,i64 n),(15,_),(16,_)]) [0,4,15,16] Ab (Ev (by simp only[go_sem,qR m,o];exact Ak)) ?_
    refine T0 [0,4,15,16,28] ?_
    refine Cd ?_ ?_
    ·refine T0 [2,3] ?_
     exact Sr <|Br <|Tr <|Lr g f <|Br <|Jr j <|Rr
    ·refine Sk <|Bn <|Tn <|F0 [0,4,15,16] ?_
     exact Ln (ws [])
   ·refine Sx <|Tx <|Lx g f <|Bx <|?_
    exact Jn ((ws (l':=[(4,i64 e)]) (σ':=[]) []).trans (ws []))
  intro d
  refine T0 [2,3] ?_
  exact Sr <|Rr
theorem FS{b c r}(h:Cq b c=some r):Con (B rs) 73 [.str b,.str c] [] (fun r' σ'=>r'=.bool r∧σ'=[]):=by
 refine Cw 18 [.tmp 4] Tryd.func73 (fun F hE=>?_) h
 unfold Cq
 refine T0 [0,1] ?_
 refine Tw [4] (fun d=>⟨Am 18 [(4,.bool d)],[]⟩) ?_ ?_
 ·intro _
  refine Sp (fun a=>?_) fun a=>?_
  ·refine Ck fun e=>?_
   exact Lf Ab (Ev (by simp only[go_sem,a,e];exact Ak)) (ws [])
  ·exact Lf Ab (Ev (by simp only[go_sem,a];exact Ak)) (ws [])
 intro d
 exact Sr <|Rr
theorem Hh{a b r}(h:BW a b=some r):Con (B rs) 55 [.str a,.str b] [] (fun r' σ'=>r'=.bool r∧σ'=[]):=by
 refine Cw 8 [.tmp 4] Tryd.func55 (fun F hE=>?_) h
 unfold BW
 refine T0 [0,1] ?_
 refine Bd fun d c =>Te [4] (o1 7 (FS c)) Ev ?_
 exact Sr <|Rr
theorem Fo{l:List UInt8}{c:UInt8}{r:Int}(h:CP l c=some r):Con (B rs) 72 [.str l,u8 c] [] (fun r' σ'=>r'=i64 r∧σ'=[]) :=
 Lj Tryd.func72 (by decide +kernel) rfl (by kernel_rfl) (by kernel_rfl) h
theorem FO{a b r}(h:Cs a b=some r):Con (B rs) 49 [.str a,u8 b] [] (fun r' σ'=>r'=i64 r∧σ'=[]):=by
 refine Cw 8 [.tmp 4] Tryd.func49 (fun F hE=>?_) h
 unfold Cs
 refine T0 [0,1] ?_
 refine Bd fun d c =>Te [4] (o1 7 (Fo c)) Ev ?_
 exact Sr <|Rr
theorem GY{a b r}(h:BV a b=some r):Con (B rs) 24 [.str a,u8 b] [] (fun r' σ'=>r'=i64 r∧σ'=[]):=by
 refine Cw 8 [.tmp 4] Tryd.func24 (fun F hE=>?_) h
 unfold BV
 refine T0 [0,1] ?_
 refine Bd fun d c =>Te [4] (o1 7 (FO c)) Ev ?_
 exact Sr <|Rr
theorem LJ{a r}(h:Fi a=some r):Con (B rs) 25 [.str a] [] (fun r' σ'=>r'=.tup [.agg [i64 r.1.Za,.str r.1.Zb,i64 r.1.N,i64 r.1.At],i64 r.2]∧σ'=[]):=by
 refine Cw 55 [.cell 2 79,.tmp 3] Tryd.func25 (fun F hE=>?_) h
 unfold Fi
 refine T0 [0,2] ?_
 refine Sq <|Ck fun d =>Te [0,2,4] Ab (Ev (by simp only[go_sem,qL d];exact Ak)) ?_
 refine Sb <|Bd fun q e =>Te [0,2,4,12] (o1 14 (Fu e)) Ev ?_
 refine Cd ?_ ?_
 ·refine Bd fun s f =>Ck fun g =>Te [2,5] (o1 17 (IG (fun h=>Kd h) f)) (Ev (by simp only[go_sem,g];exact Ak)) ?_
  refine Sq <|T0 [2,5,21] ?_
  refine Cd ?_ ?_
  ·refine T0 [2,3] ?_
   exact Sr <|Tr <|Br <|Tr <|Rr
  ·refine Sk <|Tn <|T0 [2,3] ?_
   exact Sr <|Br <|Tr <|Rr
 ·refine Bd fun t i =>Te [0,2,25] (o1 27 (FK i)) Ev ?_
  refine Cd ?_ ?_
  ·refine Bd fun u j =>Ck fun k =>Te [2,6] (o1 30 (IG (fun h=>FK h) j)) (Ev (by simp only[go_sem,k];exact Ak)) ?_
   refine Bd fun v l =>Te [2,6,7,8] (o1 34 (K6 l)) Ev ?_
   refine T0 [2,3] ?_
   exact Sr <|Br <|Tr <|Rr
  ·refine Sk <|Bn <|Tn <|Sq <|Ck fun m =>De [[],[],[1],[0,1,2],[0,1,2,3]] [0,2,9] Ab (Ev (by simp only[go_sem,qL m];exact Ak)) ?_
   refine Tw [2,9,51] (fun c=>⟨Am 55 [(2,.ref 0 0),(9,.str (Gl ([]:List UInt8) tab0 (nth a 0))),(51,.bool c)],[.box [i64 0,.str ([]:List UInt8),i64 0,i64 0] false]⟩) ?_ ?_
   ·intro _
    refine Sp (fun b=>?_) fun b=>?_
    ·refine Bd fun w n=>?_
     exact Lf (o1 50 (Hh n)) (Ev (by simp only[go_sem,b];exact Ak)) (ws [0])
    ·exact Lf Ab (Ev (by simp only[go_sem,b];exact Ak)) (ws [0])
   intro c
   refine Cd ?_ ?_
   ·refine Lt fun o p =>Te (σ':=[.box [i64 3,.str o,i64 0,i64 0] false]) [2,3] Ab (Ev (by simp only[go_sem,p];exact Ak)) ?_
    exact Sr <|Tr <|Rr
   ·refine Sk <|Tn <|T0 [2,3] ?_
    exact Sr <|Rr
theorem Hd{b r}(h:E5 b=some r):Con (B rs) 9 [.str b] [] (fun r' σ'=>r'=.tup [.sl false (L Aa r.1),i64 r.2.1,i64 r.2.2]∧σ'=[]):=by
 refine Cw 62 [.tmp 2,.tmp 3,.tmp 4] Tryd.func9 (fun F hE=>?_) h
 unfold E5
 refine T0 [0] ?_
 refine Sc <|Sq <|T0 [0,12] ?_
 refine Cd ?_ ?_
 ·refine T0 [2,3,4] ?_
  exact Sr <|Tr <|Cr <|Rr
 ·refine Sk <|Tn <|T0 [0,5] ?_
  refine T0 [0,5,6] ?_
  refine Sq <|Sl <|Tn <|?_
  refine Jo (fun c=>⟨Am 62 [(5,.bs false 0 (c.length) 0 (c.length))],[.buf 4 (L Aa c) false]⟩) ?_ ?_
  ·intro y j
   refine Sb ?_
   refine Lo (fun(v:Int×List Api_Token)=>(⟨Am 62 [(0,.str b),(5,.bs false 0 (v.2.length) 0 (v.2.length)),(6,i64 v.1)],[.buf 4 (L Aa v.2) false]⟩:St)) ((WB 5 4 rfl).trans (ws [0])) ?_
   rintro⟨d,a⟩ z k e f
   show AD b d a=some k→_
   unfold AD
   refine Sq <|T0 [0,5,6,16] ?_
   refine Cd ?_ ?_
   ·refine Sk <|Tn <|Sb <|Sq <|Ck fun l =>Te [0,5,6,19] Ab (Ev (by simp only[go_sem,qR l];exact Ak)) ?_
    refine Sb ?_
    refine Ja (fun i=>⟨Am 62 [(0,.str b),(5,.bs false 0 (a.length) 0 (a.length)),(6,i64 d),(19,u8 (nth b d.toNat)),(20,.bool i)],[.buf 4 (L Aa a) false]⟩) ?_ ?_
    ·intro aa
     refine T0 [0,5,6,19,20] ?_
     refine Cd ?_ ?_
     ·exact Sk <|Jm (ws [0])
     ·refine T0 [0,5,6,19,20] ?_
      refine Cd ?_ ?_
      ·exact Sk <|Jm (ws [0])
      ·refine T0 [0,5,6,19,20] ?_
       refine Cd ?_ ?_
       ·exact Sk <|Jm (ws [0])
       ·refine F0 [0,5,6,19,20] ?_
        exact Jm (ws [0])
    intro i
    refine Cd ?_ ?_
    ·refine T0 [0,5,6] ?_
     exact Sx <|Bo <|Tx <|Bx <|Ln (ws [0])
    ·refine T0 [0,5,6,27] ?_
     refine Cd ?_ ?_
     ·refine Ck fun m =>Bd fun ab n =>Te [0,5,6,7] (o1 32 (GY n)) (Ev (by simp only[go_sem,m];exact Ak)) ?_
      refine Sq <|T0 [0,5,6,7,34] ?_
      refine Cd ?_ ?_
      ·refine Sx <|Tx <|Bo <|Tx <|Bo <|Lx f e <|Bx <|?_
       exact Jn ((ws (l':=[(5,.bs false 0 (a.length) 0 (a.length))]) (σ':=[.buf 4 (L Aa a) false]) [0]).trans (ws [0]))
      ·refine Sk <|Tn <|Lt fun o p =>Te (fr':=[(0,_),(5,_),(6,i64 o)]) [0,5,6] Ab (Ev (by simp only[go_sem,p];exact Ak)) ?_
       exact Sx <|Bo <|Tx <|Bx <|Ln (ws [0])
     ·refine Sk <|Bn <|Tn <|Ck fun q =>Bd fun ac s =>Te [0,5,6,8,9] (o1 43 (LJ s)) (Ev (by simp only[go_sem,q];exact Ak)) ?_
      refine Sq <|T0 [0,5,6,8,9,47] ?_
      refine Cd ?_ ?_
      ·refine T0 [2,3,4] ?_
       exact Sr <|Tr <|Br <|Lr f e <|Br <|Jr j <|Cr <|Rr
      ·refine Sk <|Tn <|T0 [0,5,6,8] ?_
       refine Ck fun t =>Lt fun g u =>Te (fr':=[(0,_),(5,.bs false 0 (g.length) 0 (g.length)),(6,_),(8,_)]) (σ':=[.buf 4 (L Aa g) false,_,_]) [0,5,6,8] Ab (Ev (by simp only[go_sem,t,u];exact Ak)) ?_
       refine Lt fun w x =>Fe (fr':=[(0,_),(5,_),(6,i64 w)]) [0,5,6] Ab (Ev (by simp only[go_sem,x];exact Ak)) ?_
       exact Bn <|Ln (ws [0])
   ·refine Sx <|Tx <|Lx f e <|Bx <|?_
    exact Jn ((ws (l':=[(5,.bs false 0 (a.length) 0 (a.length))]) (σ':=[.buf 4 (L Aa a) false]) [0]).trans (ws [0]))
  intro c
  refine T0 [2,3,4] ?_
  exact Sr <|Cr <|Rr
theorem J8{a r}(h:Ed a=some r):Con (B rs) 27 [.str a] [] (fun r' σ'=>r'=.bool r∧σ'=[]):=by
 refine Cw 6 [.tmp 2] Tryd.func27 (fun F hE=>?_) h
 unfold Ed
 refine T0 [0] ?_
 refine T0 [2] ?_
 exact Sr <|Rr
theorem OX{r}(h:tbox_all  = some r):Con (B rs) 34 [] [] (fun r' σ'=>r'=.agg (C1 i64 r.low.l++C1 i64 r.high.l)∧σ'=[]):=by
 refine Cw 10 [.cell 0 63] Tryd.func34 (fun F hE=>?_) h
 unfold tbox_all
 refine T0 [0] ?_
 refine Ja (fun a=>⟨Am 10 [(0,.ref 0 0)],[.box (C1 i64 (Arr.rep 16 0).l++C1 i64 a.l) false]⟩) ?_ ?_
 ·intro m
  refine T0 [0,2] ?_
  refine Sb ?_
  refine Lo (fun(v:Int×Arr Int 16)=>(⟨Am 10 [(0,.ref 0 0),(2,i64 v.1)],[.box (C1 i64 (Arr.rep 16 0).l++C1 i64 v.2.l) false]⟩:St)) (ws [0]) ?_
  rintro⟨b,c⟩ n e f g
  show Ip b c=some e→_
  unfold Ip
  refine T0 [0,2,3] ?_
  refine Sq <|Cd ?_ ?_
  ·refine Sk <|Tn <|Sq <|Sb <|T0 [0,1,2] ?_
   refine Ck fun d=>?_
   have i:16+b.toNat≤31:=by have:=d.2;omega
   refine Lt fun j k =>Fe (σ':=[.box (C1 i64 (Arr.rep 16 0).l++C1 i64 j.l) false]) [0,2] Ab (Ev (by simp only[go_sem,qR d,i,k];exact Ak)) ?_
   refine Bn <|Tn <|F0 [0,2] ?_
   exact Ln (ws [0])
  ·refine Sx <|Tx <|Ly g f <|Bx <|?_
   exact Jm ((ws (l':=[(0,.ref 0 0)]) (σ':=[.box (C1 i64 (Arr.rep 16 0).l++C1 i64 c.l) false]) [0]).trans (ws [0]))
 intro a
 refine T0 [0] ?_
 exact Sr <|Rr
theorem Kb{b a r}(h:EQ b a=some r):Con (B rs) 35 [.agg (C1 i64 b.low.l++C1 i64 b.high.l),.agg [i64 a.Attr,i64 a.Low,i64 a.Zc]] [] (fun r' σ'=>r'=.agg (C1 i64 r.low.l++C1 i64 r.high.l)∧σ'=[]):=by
 refine Cw 30 [.cell 4 63] Tryd.func35 (fun F hE=>?_) h
 unfold EQ
 refine T0 [2,3,4] ?_
 refine Ck fun c=>?_
 have i:a.Attr.toNat≤31:=by have:=c.2;omega
 refine Ck fun d=>?_
 have j:a.Attr.toNat≤31:=by have:=d.2;omega
 refine Lt fun e k =>De (σ':=[.box (C1 i64 e.l++C1 i64 b.high.l) false,_,_]) [[],[0],[],[2],[],[2,3,4],[2,3,4,5],[],[7],[2,3,4,5,6,7,8],[],[0,1,2,3,4,5,6,7,8,9,10],[0,1,2,3,4,5,6,7,8,9,10,11]] [2,3,4] Ab (Ev (by simp only[go_sem,qR c,i,qR d,j,k];exact Ak)) ?_
 refine Ck fun f=>?_
 have m:16+a.Attr.toNat≤31:=by have:=f.2;omega
 refine Ck fun g=>?_
 have n:16+a.Attr.toNat≤31:=by have:=g.2;omega
 refine Lt fun o p =>De (σ':=[.box (C1 i64 e.l++C1 i64 o.l) false,_,_]) [[],[0],[],[2],[],[2,3,4],[2,3,4,5],[],[7],[2,3,4,5,6,7,8],[],[0,1,2,3,4,5,6,7,8,9,10],[0,1,2,3,4,5,6,7,8,9,10,11]] [2,4] Ab (Ev (by simp only[go_sem,qR f,m,qR g,n,p];exact Ak)) ?_
 refine T0 [4] ?_
 exact Sr <|Rr
variable {rs:RS}
theorem Gp{f b r}(h:Du f b=some r):Con (B rs) 36 [.agg (C1 i64 f.low.l++C1 i64 f.high.l),.agg (C1 i64 b.low.l++C1 i64 b.high.l)] [] (fun r' σ'=>r'=.tup [.agg (C1 i64 r.1.low.l++C1 i64 r.1.high.l),.bool r.2]∧σ'=[]):=by
 refine Cw 50 [.cell 4 63,.tmp 5] Tryd.func36 (fun F hE=>?_) h
 unfold Du
 refine T0 [2,3,4] ?_
 refine T0 [2,3,4,6] ?_
 refine Ja (fun⟨j,k,m⟩=>⟨Am 50 [(2,.ref 0 0),(4,.ref 1 0),(6,.bool j)],[.box (C1 i64 k.l++C1 i64 m.l) false,.box (C1 i64 (Arr.rep 16 0).l++C1 i64 (Arr.rep 16 0).l) false]⟩) ?_ ?_
 ·intro al
  refine T0 [2,3,4,6,8] ?_
  refine Sb ?_
  refine Lo (fun⟨d,a,e,c⟩=>⟨Am 50 [(2,.ref 0 0),(3,.ref 1 0),(4,.ref 2 0),(6,.bool d),(8,i64 a)],[.box (C1 i64 e.l++C1 i64 c.l) false,.box (C1 i64 b.low.l++C1 i64 b.high.l) false,.box (C1 i64 (Arr.rep 16 0).l++C1 i64 (Arr.rep 16 0).l) false]⟩) (ws [0,1,2]) ?_
  rintro⟨d,a,e,c⟩ am y z aa
  show DB b d a e c=some y→_
  unfold DB
  refine T0 [2,3,4,6,8,9] ?_
  refine Sq <|Cd ?_ ?_
  ·refine Sk <|Tn <|Sq <|Sb <|T0 [2,3,4,6,7,8] ?_
   refine Ck fun n=>?_
   have ab:a.toNat≤31:=by have:=n.2;omega
   refine Ck fun o=>?_
   have ac:a.toNat≤31:=by have:=o.2;omega
   refine Ck fun p=>?_
   have ad:a.toNat≤31:=by have:=p.2;omega
   refine Lt fun g ae =>De (σ':=[.box (C1 i64 g.l++C1 i64 c.l) false,_,_]) [[],[],[],[1,2],[1,2,3],[],[],[5,6],[5,6,7],[1,2,3,4,5,6,7,8],[],[0,1,2,3,4,5,6,7,8,9,10],[0,1,2,3,4,5,6,7,8,9,10,11]] [2,3,4,6,7,8] Ab (Ev (by simp only[go_sem,qR n,ab,qR o,ac,qR p,ad,ae];exact Ak)) ?_
   refine Ck fun q=>?_
   have af:16+a.toNat≤31:=by have:=q.2;omega
   refine Ck fun s=>?_
   have ag:16+a.toNat≤31:=by have:=s.2;omega
   refine Ck fun t=>?_
   have ah:16+a.toNat≤31:=by have:=t.2;omega
   refine Lt fun u ai =>De (σ':=[.box (C1 i64 g.l++C1 i64 u.l) false,_,_]) [[],[],[],[1,2],[1,2,3],[],[],[5,6],[5,6,7],[1,2,3,4,5,6,7,8],[],[0,1,2,3,4,5,6,7,8,9,10],[0,1,2,3,4,5,6,7,8,9,10,11]] [2,3,4,6,7,8] Ab (Ev (by simp only[go_sem,qR q,af,qR s,ag,qR t,ah,ai];exact Ak)) ?_
   refine Hw [[],[0],[0,1],[0,1],[0,1,2,3],[0,1,2,3,4],[0,1],[0,1],[0,1,6,7],[0,1,6,7,8],[0,1,2,3,4,5,6,7,8,9],[0,1,2,3,4,5,6,7,8,9,10],[0,1,2,3,4,5,6,7,8,9,10,11]] [2,3,4,6,8] (fun v=>⟨Am 50 [(2,.ref 0 0),(3,.ref 1 0),(4,.ref 2 0),(6,.bool v),(8,i64 a)],[.box (C1 i64 g.l++C1 i64 u.l) false,.box (C1 i64 b.low.l++C1 i64 b.high.l) false,.box (C1 i64 (Arr.rep 16 0).l++C1 i64 (Arr.rep 16 0).l) false]⟩) ?_ ?_
   ·intro _
    refine Sp (fun i=>?_) fun i=>?_
    ·refine Ck fun w=>?_
     have aj:a.toNat≤31:=by have:=w.2;omega
     refine Ck fun x=>?_
     have ak:16+a.toNat≤31:=by have:=x.2;omega
     exact Lf Ab (Ev (by simp only[go_sem,i,qR w,aj,qR x,ak];exact Ak)) (ws [0,1,2])
    ·exact Lf Ab (Ev (by simp only[go_sem,i];exact Ak)) (ws [0,1,2])
   intro v
   refine Bn <|Tn <|F0 [2,3,4,6,8] ?_
   exact Ln (ws [0,1,2])
  ·refine Sx <|Tx <|Ly aa z <|Bx <|?_
   exact Jm ((ws (l':=[(2,.ref 0 0),(4,.ref 1 0),(6,.bool d)]) (σ':=[.box (C1 i64 e.l++C1 i64 c.l) false,.box (C1 i64 (Arr.rep 16 0).l++C1 i64 (Arr.rep 16 0).l) false]) [0,2]).trans (ws [0,1]))
 rintro⟨j,k,m⟩
 refine T0 [4,5] ?_
 exact Sr <|Rr
theorem Oa{a r}(h:Nm a=some r):Con (B rs) 37 [.agg (C1 i64 a.l)] [] (fun r' σ'=>r'=.agg (i64 r.Has::C1 i64 r.V.l)∧σ'=[]):=by
 refine Cw 5 [.cell 2 24] Tryd.func37 (fun F hE=>?_) h
 unfold Nm
 refine T0 [1,2] ?_
 refine T0 [2] ?_
 exact Sr <|Rr
theorem Lm{a r}(h:Fy a=some r):Con (B rs) 18 [.agg (.str a.Zd::.sl false (L Af a.Ze)::i64 a.Pay.Op::i64 a.Pay.N::(C1 i64 a.Pay.Unit.l++[.sl false (L cApi_Expr a.Pay.L)]))] [] (fun r' σ'=>r'=.tup [.agg (C1 i64 r.1.low.l++C1 i64 r.1.high.l),.bool r.2]∧σ'=[]):=by
 refine Cw 39 [.cell 2 63,.tmp 3] Tryd.func18 (fun F hE=>?_) h
 unfold Fy
 refine T0 [1,2] ?_
 refine Bd fun y n =>Te [1,2,4] (o1 9 (OX n)) Ev ?_
 refine Jo (fun(v:Arr Int 16×Arr Int 16)=>(⟨Am 39 [(2,.ref 0 0),(4,.ref 1 0)],[.box (C1 i64 (Arr.rep 16 0).l++C1 i64 (Arr.rep 16 0).l) false,.box (C1 i64 v.1.l++C1 i64 v.2.l) false]⟩:St)) ?_ ?_
 ·intro z o
  refine T0 [2,4,11,12,13] ?_
  refine Sb ?_
  refine Lo (fun⟨d,b,c⟩=>⟨Am 39 [(2,.ref 0 0),(4,.ref 1 0),(11,.sl false (L Af a.Ze)),(12,i64 (a.Ze.length:Int)),(13,i64 d)],[.box (C1 i64 (Arr.rep 16 0).l++C1 i64 (Arr.rep 16 0).l) false,.box (C1 i64 b.l++C1 i64 c.l) false]⟩) (ws [1,2]) ?_
  rintro⟨d,b,c⟩ aa p f g
  show H7 a d b c=some p→_
  unfold H7
  refine T0 [2,4,11,12,13,14] ?_
  refine Sq <|Cd ?_ ?_
  ·refine Sk <|Tn <|Sq <|Sb <|Ck fun q =>Lt fun i s =>Lt fun j t =>Lt fun k u =>Te (σ':=[_,_,.box [i64 i,i64 j,i64 k] false]) [2,4,6,11,12,13] Ab (Ev (by simp only[go_sem,qR q,s,t,u];exact Ak)) ?_
   refine Sq ?_
   refine Tw [2,4,6,11,12,13,24] (fun m=>⟨Am 39 [(2,.ref 0 0),(4,.ref 1 0),(6,.ref 2 0),(11,.sl false (L Af a.Ze)),(12,i64 (a.Ze.length:Int)),(13,i64 d),(24,.bool m)],[.box (C1 i64 (Arr.rep 16 0).l++C1 i64 (Arr.rep 16 0).l) false,.box (C1 i64 b.l++C1 i64 c.l) false,.box [i64 i,i64 j,i64 k] false]⟩) ?_ ?_
   ·intro _
    refine Sp (fun e=>?_) fun e=>?_
    ·exact Lf Ab (Ev (by simp only[go_sem,e];exact Ak)) (ws [0,1,2])
    ·exact Lf Ab (Ev (by simp only[go_sem,e];exact Ak)) (ws [0,1,2])
   intro m
   refine Cd ?_ ?_
   ·refine T0 [2,3] ?_
    exact Sr <|Tr <|Br <|Tr <|Lr g f <|Br <|Jr o <|Rr
   ·refine Sk <|Tn <|Bd fun ab w =>Fe [2,4,11,12,13] (o1 28 (Kb w)) Ev ?_
    refine Bn <|Tn <|F0 [2,4,11,12,13] ?_
    exact Ln (ws [0,1])
  ·refine Sx <|Tx <|Lx g f <|Bx <|?_
   exact Jn ((ws (l':=[(2,.ref 0 0),(4,.ref 1 0)]) (σ':=[.box (C1 i64 (Arr.rep 16 0).l++C1 i64 (Arr.rep 16 0).l) false,.box (C1 i64 b.l++C1 i64 c.l) false]) [0,1]).trans (ws [0,1]))
 rintro⟨ac,ad⟩
 refine Sq <|Bd fun ae x =>Te [2,7,8] (o1 33 (Gp x)) Ev ?_
 refine T0 [2,7,36] ?_
 refine Cd ?_ ?_
 ·refine T0 [2,3] ?_
  exact Sr <|Tr <|Rr
 ·refine Sk <|Tn <|T0 [2,3] ?_
  exact Sr <|Rr
theorem Ke{f r}(h:EO f=some r):Con (B rs) 19 [.agg [.str f.Zd,i64 f.For,.sl false (L Ac f.Zf)]] [] (fun r' σ'=>r'=.tup [i64 r.1,i64 r.2.1,.agg (i64 r.2.2.1.Has::C1 i64 r.2.2.1.V.l),.bool r.2.2.2]∧σ'=[]):=by
 refine Cw 87 [.tmp 2,.tmp 3,.cell 4 24,.tmp 5] Tryd.func19 (fun F hE=>?_) h
 unfold EO
 refine T0 [1,4] ?_
 refine Ck fun z =>Lt fun j aa =>Te (fr':=[(1,_),(4,_),(6,.bs true 2 (j.length) 0 (j.length))]) (σ':=[_,_,.buf 32 (L CW j) false]) [1,4,6] Ab (Ev (by simp only[go_sem,z,aa];exact Ak)) ?_
 refine Ck fun ab =>Lt fun k ac =>Te (fr':=[(1,_),(4,_),(6,_),(7,.bs true 3 (k.length) 0 (k.length))]) (σ':=[_,_,_,.buf 1 (L Kf k) false]) [1,4,6,7] Ab (Ev (by simp only[go_sem,ab,ac];exact Ak)) ?_
 refine Ja (fun(v:List Tbox_box×List Bool)=>(⟨Am 87 [(4,.ref 0 0),(6,.bs true 1 (v.1.length) 0 (v.1.length)),(7,.bs true 2 (v.2.length) 0 (v.2.length))],[.box (i64 0::C1 i64 (Arr.rep 16 0).l) false,.buf 32 (L CW v.1) false,.buf 1 (L Kf v.2) false]⟩:St)) ?_ ?_
 ·intro aJ
  refine T0 [4,6,7,23,24,25] ?_
  refine Sb ?_
  refine Lo (fun⟨m,d,e⟩=>⟨Am 87 [(4,.ref 0 0),(6,.bs true 1 (d.length) 0 (d.length)),(7,.bs true 2 (e.length) 0 (e.length)),(23,.sl false (L Ac f.Zf)),(24,i64 (f.Zf.length:Int)),(25,i64 m)],[.box (i64 0::C1 i64 (Arr.rep 16 0).l) false,.buf 32 (L CW d) false,.buf 1 (L Kf e) false]⟩) (ws [1,2,3]) ?_
  rintro⟨m,d,e⟩ aK ad ae af
  show Dm f m d e=some ad→_
  unfold Dm
  refine T0 [4,6,7,23,24,25,26] ?_
  refine Sq <|Cd ?_ ?_
  ·refine Sk <|Tn <|Sq <|Sb <|Ck fun ag =>Lt fun ah ai =>Lt fun aj ak =>Lt fun al am =>Lt fun an ao =>Lt fun ap aq =>Lt fun ar au =>Te (σ':=[_,_,_,.box (.str ah::.sl false (L Af aj)::i64 al::i64 an::(C1 i64 ap.l++[.sl false (L cApi_Expr ar)])) false]) [4,6,7,8,9,23,24,25] Ab (Ev (by simp only[go_sem,qR ag,ai,ak,am,ao,aq,au];exact Ak)) ?_
   refine Bd fun aL av =>Ck fun aw =>Ck fun ax =>Lt fun n ay =>Lt fun o az =>Fe (fr':=[(4,_),(6,.bs true 1 (n.length) 0 (n.length)),(7,.bs true 2 (o.length) 0 (o.length)),(23,_),(24,_),(25,_)]) (σ':=[_,.buf 32 (L CW n) false,.buf 1 (L Kf o) false,_]) [4,6,7,23,24,25] (o1 36 (Lm av)) (Ev (by simp only[go_sem,qR aw,qR ax,ay,az];exact Ak)) ?_
   refine Bn <|Tn <|F0 [4,6,7,23,24,25] ?_
   exact Ln (ws [0,1,2])
  ·refine Sx <|Tx <|Ly af ae <|Bx <|?_
   exact Jm ((ws (l':=[(4,.ref 0 0),(6,.bs true 1 (d.length) 0 (d.length)),(7,.bs true 2 (e.length) 0 (e.length))]) (σ':=[.box (i64 0::C1 i64 (Arr.rep 16 0).l) false,.buf 32 (L CW d) false,.buf 1 (L Kf e) false]) [0,1,2]).trans (ws [0,1,2]))
 rintro⟨a,b⟩
 refine Jo (fun _=>⟨Am 87 [(4,.ref 0 0)],[.box (i64 0::C1 i64 (Arr.rep 16 0).l) false]⟩) ?_ ?_
 ·intro aM aA
  refine T0 [4,6,7,43,44] ?_
  refine Sb ?_
  refine Lo (fun c=>⟨Am 87 [(4,.ref 0 0),(6,.bs true 1 (a.length) 0 (a.length)),(7,.bs true 2 (b.length) 0 (b.length)),(43,i64 (a.length:Int)),(44,i64 c)],[.box (i64 0::C1 i64 (Arr.rep 16 0).l) false,.buf 32 (L CW a) false,.buf 1 (L Kf b) false]⟩) (ws [0,1,2]) ?_
  rintro c aN aB q s
  show Ee a b c=some aB→_
  unfold Ee
  refine T0 [4,6,7,43,44,45] ?_
  refine Sq <|Cd ?_ ?_
  ·refine Sk <|Tn <|?_
   refine Jo (fun _=>⟨Am 87 [(4,.ref 0 0),(6,.bs true 1 (a.length) 0 (a.length)),(7,.bs true 2 (b.length) 0 (b.length)),(43,i64 (a.length:Int)),(44,i64 c)],[.box (i64 0::C1 i64 (Arr.rep 16 0).l) false,.buf 32 (L CW a) false,.buf 1 (L Kf b) false]⟩) ?_ ?_
   ·intro aO aC
    refine Sb <|T0 [4,6,7,10,43,44] ?_
    refine T0 [4,6,7,10,11,43,44] ?_
    refine Sb ?_
    refine Lo (fun g=>⟨Am 87 [(4,.ref 0 0),(6,.bs true 1 (a.length) 0 (a.length)),(7,.bs true 2 (b.length) 0 (b.length)),(10,i64 c),(11,i64 g),(43,i64 (a.length:Int)),(44,i64 c)],[.box (i64 0::C1 i64 (Arr.rep 16 0).l) false,.buf 32 (L CW a) false,.buf 1 (L Kf b) false]⟩) (ws [0,1,2]) ?_
    rintro g aP aD t u
    show Dn a b c g=some aD→_
    unfold Dn
    refine Sq <|T0 [4,6,7,10,11,43,44,52] ?_
    refine Cd ?_ ?_
    ·refine Sk <|Tn <|Sq <|Sb <|Ck fun aE =>Ck fun aF =>Bd fun w aG =>De [[],[],[0,1],[0,1,2],[],[],[4,5],[4,5,6],[0,1,2,3,4,5,6,7],[0,1,2,3,4,5,6,7,8],[0,1,2,3,4,5,6,7,8,9],[0,1,2,3,4,5,6,7,8,9],[],[0,1,2,3,4,5,6,7,8,9,10,12],[0,1,2,3,4,5,6,7,8,9,10,11,12,13]] [4,6,7,10,11,12,13,43,44] (o1 64 (Gp aG)) (Ev (by simp only[go_sem,qR aE,qR aF];exact Ak)) ?_
     refine Tw [4,6,7,10,11,12,43,44,79] (fun x=>⟨Am 87 [(4,.ref 0 0),(6,.bs true 1 (a.length) 0 (a.length)),(7,.bs true 2 (b.length) 0 (b.length)),(10,i64 c),(11,i64 g),(12,.ref 3 0),(43,i64 (a.length:Int)),(44,i64 c),(79,.bool x)],[.box (i64 0::C1 i64 (Arr.rep 16 0).l) false,.buf 32 (L CW a) false,.buf 1 (L Kf b) false,.box (C1 i64 w.1.low.l++C1 i64 w.1.high.l) false]⟩) ?_ ?_
     ·intro _
      refine Sp (fun i=>?_) fun i=>?_
      ·refine Ck fun y=>?_
       refine Sp (fun p=>?_) fun p=>?_
       ·refine Ck fun aH=>?_
        exact Lf Ab (Ev (by simp only[go_sem,i,qR y,p,qR aH];exact Ak)) (ws [0,1,2,3])
       ·exact Lf Ab (Ev (by simp only[go_sem,i,qR y,p];exact Ak)) (ws [0,1,2,3])
      ·exact Lf Ab (Ev (by simp only[go_sem,i];exact Ak)) (ws [0,1,2,3])
     intro x
     refine Cd ?_ ?_
     ·refine Bd fun aQ aI =>Te [2,3,4,5] (o1 84 (Oa aI)) Ev ?_
      exact Sr <|Br <|Tr <|Lr u t <|Br <|Br <|Jr aC <|Lr s q <|Br <|Jr aA <|Rr
     ·refine Sk <|Bn <|Tn <|F0 [4,6,7,10,11,43,44] ?_
      exact Ln (ws [0,1,2])
    ·refine Sx <|Tx <|Lx u t <|Bx <|Bn <|?_
     exact Jn ((ws (l':=[(4,.ref 0 0),(6,.bs true 1 (a.length) 0 (a.length)),(7,.bs true 2 (b.length) 0 (b.length)),(43,i64 (a.length:Int)),(44,i64 c)]) (σ':=[.box (i64 0::C1 i64 (Arr.rep 16 0).l) false,.buf 32 (L CW a) false,.buf 1 (L Kf b) false]) [0,1,2]).trans (ws [0,1,2]))
   intro _
   refine F0 [4,6,7,43,44] ?_
   exact Ln (ws [0,1,2])
  ·refine Sx <|Tx <|Lx s q <|Bx <|?_
   exact Jn ((ws (l':=[(4,.ref 0 0)]) (σ':=[.box (i64 0::C1 i64 (Arr.rep 16 0).l) false]) [0]).trans (ws [0]))
 intro _
 refine T0 [2,3,4,5] ?_
 exact Sr <|Rr
theorem D4{a r}(h:Gx a=some r):Con (B rs) 6 [.agg [.str a.Zd,i64 a.For,.sl false (L Ac a.Zf)]] [] (fun r' σ'=>r'=i64 r∧σ'=[]):=by
 refine Cw 34 [.tmp 2] Tryd.func6 (fun F hE=>?_) h
 unfold Gx
 refine T0 [1] ?_
 refine Jo (fun _=>⟨Am 34 [(1,.ref 0 0)],[.box [.str a.Zd,i64 a.For,.sl false (L Ac a.Zf)] false]⟩) ?_ ?_
 ·intro y e
  refine T0 [1,12,13,14] ?_
  refine Sb ?_
  refine Lo (fun b=>⟨Am 34 [(1,.ref 0 0),(12,.sl false (L Ac a.Zf)),(13,i64 (a.Zf.length:Int)),(14,i64 b)],[.box [.str a.Zd,i64 a.For,.sl false (L Ac a.Zf)] false]⟩) (ws [0]) ?_
  rintro b z f c d
  show Fg a b=some f→_
  unfold Fg
  refine T0 [1,12,13,14,15] ?_
  refine Sq <|Cd ?_ ?_
  ·refine Sk <|Tn <|Sq <|Sb <|Ck fun g =>Lt fun i j =>Lt fun k m =>Lt fun n o =>Lt fun p q =>Lt fun s t =>Lt fun u v =>Te (σ':=[_,.box (.str i::.sl false (L Af k)::i64 n::i64 p::(C1 i64 s.l++[.sl false (L cApi_Expr u)])) false]) [1,4,12,13,14] Ab (Ev (by simp only[go_sem,qR g,j,m,o,q,t,v];exact Ak)) ?_
   refine Bd fun aa w =>Te [1,6,12,13,14] (o1 20 (Lm w)) Ev ?_
   refine T0 [1,12,13,14,24] ?_
   refine Cd ?_ ?_
   ·refine T0 [2] ?_
    exact Sr <|Br <|Tr <|Lr d c <|Br <|Jr e <|Rr
   ·refine Sk <|Bn <|Tn <|F0 [1,12,13,14] ?_
    exact Ln (ws [0])
  ·refine Sx <|Tx <|Lx d c <|Bx <|?_
   exact Jn ((ws (l':=[(1,.ref 0 0)]) (σ':=[.box [.str a.Zd,i64 a.For,.sl false (L Ac a.Zf)] false]) [0]).trans (ws [0]))
 intro _
 refine Sq <|Bd fun ab x =>Te [10] (o1 28 (Ke x)) Ev ?_
 refine T0 [33] ?_
 refine Cd ?_ ?_
 ·refine T0 [2] ?_
  exact Sr <|Tr <|Rr
 ·refine Sk <|Tn <|T0 [2] ?_
  exact Sr <|Rr
theorem Ix{a r}(h:D7 a=some r):Con (B rs) 71 [i64 a] [] (fun r' σ'=>r'=i64 r∧σ'=[]):=by
 refine Cw 20 [.tmp 2] Tryd.func71 (fun F hE=>?_) h
 unfold D7
 refine T0 [0] ?_
 refine Sq <|Sb <|?_
 refine Tw [0,3] (fun d=>⟨Am 20 [(0,i64 a),(3,.bool d)],[]⟩) ?_ ?_
 ·intro _
  refine Sp (fun b=>?_) fun b=>?_
  ·exact Lf Ab (Ev (by simp only[go_sem,b];exact Ak)) (ws [])
  ·exact Lf Ab (Ev (by simp only[go_sem,b];exact Ak)) (ws [])
 intro d
 refine Cd ?_ ?_
 ·refine T0 [2] ?_
  exact Sr <|Br <|Tr <|Rr
 ·refine Tw [0,10] (fun e=>⟨Am 20 [(0,i64 a),(10,.bool e)],[]⟩) ?_ ?_
  ·intro _
   refine Sp (fun c=>?_) fun c=>?_
   ·exact Lf Ab (Ev (by simp only[go_sem,c];exact Ak)) (ws [])
   ·exact Lf Ab (Ev (by simp only[go_sem,c];exact Ak)) (ws [])
  intro e
  refine Cd ?_ ?_
  ·refine T0 [2] ?_
   exact Sr <|Br <|Tr <|Rr
  ·refine T0 [17] ?_
   refine Cd ?_ ?_
   ·refine T0 [2] ?_
    exact Sr <|Br <|Tr <|Rr
   ·refine Sk <|Bn <|Tn <|T0 [2] ?_
    exact Sr <|Rr
variable {rs:RS}
theorem I2{rec_:Api_Expr→Int→Option (Bool)}(hrec:∀{a:Api_Expr} {b:Int} {r:Bool},rec_ a b=some r→Con (B rs) 47 [.agg (i64 a.Op::i64 a.N::(C1 i64 a.Unit.l++[.sl false (L cApi_Expr a.L)])),i64 b] [] (fun r' σ'=>r'=.bool r∧σ'=[])){a:Api_Expr}{b:Int}{r:Bool}(h:C5 rec_ a b=some r):Con (B rs) 47 [.agg (i64 a.Op::i64 a.N::(C1 i64 a.Unit.l++[.sl false (L cApi_Expr a.L)])),i64 b] [] (fun r' σ'=>r'=.bool r∧σ'=[]):=by
 refine Ki (N:=53) (rs:=[.tmp 4]) ok Tryd.func47 rfl (by decide +kernel) rfl rfl (Nat.le_of_ble_eq_true rfl) (fun F=>?_)
 have hE:=(ok (rs:=rs)).env F
 unfold C5 at h
 show Run ((B rs).env F) 0 _ ⟨Am 53 [(0,.agg (i64 a.Op::i64 a.N::(C1 i64 a.Unit.l++[.sl false (L cApi_Expr a.L)]))),(1,i64 b)],[]⟩ _
 refine AX ?_
 revert h
 refine T0 [1,2] ?_
 refine Sq ?_
 refine Dw [[],[0],[0,1],[0,1,2],[0,1,2,3],[0,1,2,3,4],[0,1,2],[0,1,2,6],[0,1,2,6,7],[0,1,2,3,4,5,6,7,8],[0,1,2,3,4,5,6,7,8,9]] [1,2,17] (fun g=>⟨Am 53 [(1,i64 b),(2,.ref 0 0),(17,.bool g)],[.box (i64 a.Op::i64 a.N::(C1 i64 a.Unit.l++[.sl false (L cApi_Expr a.L)])) false]⟩) ?_ ?_
 ·intro _
  refine Sp (fun c=>?_) fun c=>?_
  ·exact Lf Ab (Ev (by simp only[go_sem,c];exact Ak)) (ws [0])
  ·refine Bd fun ab n=>?_
   exact Lf (o1 15 (Ix n)) (Ev (by simp only[go_sem,c];exact Ak)) (ws [0])
 intro g
 refine Cd ?_ ?_
 ·refine T0 [4] ?_
  exact Sr <|Tr <|Rr
 ·refine Sk <|Tn <|Sq <|T0 [1,2,19] ?_
  refine Sb <|T0 [1,2,19,20] ?_
  refine Cd ?_ ?_
  ·refine Tw [4] (fun i=>⟨Am 53 [(4,.bool i)],[]⟩) ?_ ?_
   ·intro _
    refine Sp (fun d=>?_) fun d=>?_
    ·exact Lf Ab (Ev (by simp only[go_sem,d];exact Ak)) (ws [])
    ·exact Lf Ab (Ev (by simp only[go_sem,d];exact Ak)) (ws [])
   intro i
   exact Sr <|Br <|Tr <|Rr
  ·refine T0 [1,2,30] ?_
   refine Cd ?_ ?_
   ·refine Tw [4] (fun j=>⟨Am 53 [(4,.bool j)],[]⟩) ?_ ?_
    ·intro _
     refine Sp (fun e=>?_) fun e=>?_
     ·exact Lf Ab (Ev (by simp only[go_sem,e];exact Ak)) (ws [])
     ·exact Lf Ab (Ev (by simp only[go_sem,e];exact Ak)) (ws [])
    intro j
    exact Sr <|Br <|Tr <|Rr
   ·refine Sk <|Bn <|Tn <|?_
    refine Jo (fun _=>⟨Am 53 [],[]⟩) ?_ ?_
    ·intro ac o
     refine T0 [1,41,42,43] ?_
     refine Sb ?_
     refine Lo (fun f=>⟨Am 53 [(1,i64 b),(41,.sl false (L cApi_Expr a.L)),(42,i64 (a.L.length:Int)),(43,i64 f)],[]⟩) (ws []) ?_
     rintro f ad p k m
     show Ej a b rec_ f=some p→_
     unfold Ej
     refine T0 [1,41,42,43,44] ?_
     refine Sq <|Cd ?_ ?_
     ·refine Sk <|Tn <|Sq <|Sb <|Ck fun q =>Lt fun s t =>Lt fun u v =>Lt fun w x =>Lt fun y z =>Te (σ':=[.box (i64 s::i64 u::(C1 i64 w.l++[.sl false (L cApi_Expr y)])) false]) [1,6,41,42,43] Ab (Ev (by simp only[go_sem,qR q,t,v,x,z];exact Ak)) ?_
      refine Bd fun ae aa =>Te [1,41,42,43,51] (o1 50 (hrec aa)) Ev ?_
      refine Cd ?_ ?_
      ·refine T0 [4] ?_
       exact Sr <|Br <|Tr <|Lr m k <|Br <|Jr o <|Rr
      ·refine Sk <|Bn <|Tn <|F0 [1,41,42,43] ?_
       exact Ln (ws [])
     ·refine Sx <|Tx <|Lx m k <|Bx <|?_
      exact Jn ((ws (l':=[]) (σ':=[]) []).trans (ws []))
    intro _
    refine T0 [4] ?_
    exact Sr <|Rr
theorem IB(n:Nat):∀{a:Api_Expr} {b:Int} {r:Bool},CZ n a b=some r→Con (B rs) 47 [.agg (i64 a.Op::i64 a.N::(C1 i64 a.Unit.l++[.sl false (L cApi_Expr a.L)])),i64 b] [] (fun r' σ'=>r'=.bool r∧σ'=[]):=by
 induction n with
 |zero=>intro a b r h;cases h
 |succ n ih=>intro a b r h;exact I2 ih h
theorem GL{a:Api_Expr}{b:Int}{r:Bool}(h:H1 a b=some r):Con (B rs) 47 [.agg (i64 a.Op::i64 a.N::(C1 i64 a.Unit.l++[.sl false (L cApi_Expr a.L)])),i64 b] [] (fun r' σ'=>r'=.bool r∧σ'=[]):=IB _ h
theorem HP{rec_:Api_Expr→Option (Int)}(hrec:∀{a:Api_Expr} {r:Int},rec_ a=some r→Con (B rs) 33 [.agg (i64 a.Op::i64 a.N::(C1 i64 a.Unit.l++[.sl false (L cApi_Expr a.L)]))] [] (fun r' σ'=>r'=i64 r∧σ'=[])){a:Api_Expr}{r:Int}(h:CU rec_ a=some r):Con (B rs) 33 [.agg (i64 a.Op::i64 a.N::(C1 i64 a.Unit.l++[.sl false (L cApi_Expr a.L)]))] [] (fun r' σ'=>r'=i64 r∧σ'=[]):=by
 refine Ki (N:=20) (rs:=[.tmp 2]) ok Tryd.func33 rfl (by decide +kernel) rfl rfl (Nat.le_of_ble_eq_true rfl) (fun F=>?_)
 have hE:=(ok (rs:=rs)).env F
 unfold CU at h
 show Run ((B rs).env F) 0 _ ⟨Am 20 [(0,.agg (i64 a.Op::i64 a.N::(C1 i64 a.Unit.l++[.sl false (L cApi_Expr a.L)])))],[]⟩ _
 refine AX ?_
 revert h
 refine T0 [1] ?_
 refine T0 [1,3] ?_
 refine Ja (fun b=>⟨Am 20 [(3,i64 b)],[]⟩) ?_ ?_
 ·intro u
  refine T0 [3,7,8,9] ?_
  refine Sb ?_
  refine Lo (fun(v:Int×Int)=>(⟨Am 20 [(3,i64 v.1),(7,.sl false (L cApi_Expr a.L)),(8,i64 (a.L.length:Int)),(9,i64 v.2)],[]⟩:St)) (ws []) ?_
  rintro⟨c,d⟩ w e f g
  show Dv a rec_ c d=some e→_
  unfold Dv
  refine T0 [3,7,8,9,10] ?_
  refine Sq <|Cd ?_ ?_
  ·refine Sk <|Tn <|Sq <|Sb <|Ck fun i =>Lt fun j k =>Lt fun m n =>Lt fun o p =>Lt fun q s =>Te (σ':=[.box (i64 j::i64 m::(C1 i64 o.l++[.sl false (L cApi_Expr q)])) false]) [3,5,7,8,9] Ab (Ev (by simp only[go_sem,qR i,k,n,p,s];exact Ak)) ?_
   refine Bd fun x t =>Fe [3,7,8,9] (o1 15 (hrec t)) Ev ?_
   refine Bn <|Tn <|F0 [3,7,8,9] ?_
   exact Ln (ws [])
  ·refine Sx <|Tx <|Ly g f <|Bx <|?_
   exact Jm ((ws (l':=[(3,i64 c)]) (σ':=[]) []).trans (ws []))
 intro b
 refine T0 [2] ?_
 exact Sr <|Rr
theorem HO(n:Nat):∀{a:Api_Expr} {r:Int},CS n a=some r→Con (B rs) 33 [.agg (i64 a.Op::i64 a.N::(C1 i64 a.Unit.l++[.sl false (L cApi_Expr a.L)]))] [] (fun r' σ'=>r'=i64 r∧σ'=[]):=by
 induction n with
 |zero=>intro a r h;cases h
 |succ n ih=>intro a r h;exact HP ih h
theorem I7{a:Api_Expr}{r:Int}(h:HU a=some r):Con (B rs) 33 [.agg (i64 a.Op::i64 a.N::(C1 i64 a.Unit.l++[.sl false (L cApi_Expr a.L)]))] [] (fun r' σ'=>r'=i64 r∧σ'=[]):=HO _ h
theorem Bg{a r}(h:AE a=some r):Con (B rs) 14 [.ref 0 0] [.box [.sl false (L Aa a.l),i64 a.end_] false] (fun r' σ'=>r'=i64 r.1∧σ'=[.box [.sl false (L Aa r.2.l),i64 r.2.end_] false]):=by
 refine Co 1 20 [.tmp 2] Tryd.func14 (fun F hE=>?_) h
 unfold AE
 refine T0 [0] ?_
 refine Sq <|T0 [0,8] ?_
 refine Cd ?_ ?_
 ·refine Ck fun b =>Te [2] Ab (Ev (by simp only[go_sem,qL b];exact Ak)) ?_
  exact Sr <|Tr <|Ro [0]
 ·refine Sk <|Tn <|T0 [2] ?_
  exact Sr <|Ro [0]
theorem Cg{a c r}(h:Be a c=some r):Con (B rs) 26 [.ref 0 0,i64 c] [.box [.sl false (L Aa a.l),i64 a.end_] false] (fun r' σ'=>r'=.tup [.agg [i64 r.1.Za,.str r.1.Zb,i64 r.1.N,i64 r.1.At],.bool r.2.1]∧σ'=[.box [.sl false (L Aa r.2.2.l),i64 r.2.2.end_] false]):=by
 refine Co 1 30 [.cell 4 79,.tmp 5] Tryd.func26 (fun F hE=>?_) h
 unfold Be
 refine T0 [0,1,4] ?_
 refine Sq ?_
 refine Tw [0,4,22] (fun d=>⟨Am 30 [(0,.ref 0 0),(4,.ref 1 0),(22,.bool d)],[.box [.sl false (L Aa a.l),i64 a.end_] false,.box [i64 0,.str ([]:List UInt8),i64 0,i64 0] false]⟩) ?_ ?_
 ·intro _
  refine Sp (fun b=>?_) fun b=>?_
  ·exact Lf Ab (Ev (by simp only[go_sem,b];exact Ak)) (ws [0,1])
  ·refine Ck fun e=>?_
   exact Lf Ab (Ev (by simp only[go_sem,b,qL e];exact Ak)) (ws [0,1])
 intro d
 refine Cd ?_ ?_
 ·refine T0 [4,5] ?_
  exact Sr <|Tr <|Ro [0]
 ·refine Sk <|Tn <|Ck fun f =>Te [4,5] Ab (Ev (by simp only[go_sem,qL f];exact Ak)) ?_
  exact Sr <|Ro [0]
theorem Ay{a d r}(h:Aq a d=some r):Con (B rs) 15 [.ref 0 0,.str d] [.box [.sl false (L Aa a.l),i64 a.end_] false] (fun r' σ'=>r'=.bool r.1∧σ'=[.box [.sl false (L Aa r.2.l),i64 r.2.end_] false]):=by
 refine Co 1 40 [.tmp 4] Tryd.func15 (fun F hE=>?_) h
 unfold Aq
 refine T0 [0,1] ?_
 refine Sq ?_
 refine Tw [0,31] (fun e=>⟨Am 40 [(0,.ref 0 0),(31,.bool e)],[.box [.sl false (L Aa a.l),i64 a.end_] false]⟩) ?_ ?_
 ·intro _
  refine Sp (fun b=>?_) fun b=>?_
  ·exact Lf Ab (Ev (by simp only[go_sem,b];exact Ak)) (ws [0])
  ·refine Ck fun f=>?_
   refine Sp (fun c=>?_) fun c=>?_
   ·exact Lf Ab (Ev (by simp only[go_sem,b,qL f,c];exact Ak)) (ws [0])
   ·refine Ck fun g=>?_
    exact Lf Ab (Ev (by simp only[go_sem,b,qL f,c,qL g];exact Ak)) (ws [0])
 intro e
 refine Cd ?_ ?_
 ·refine T0 [4] ?_
  exact Sr <|Tr <|Ro [0]
 ·refine Sk <|Tn <|Ck fun i =>Lt fun j k =>Te (σ':=[.box [.sl false (L Aa j),i64 a.end_] false]) [] Ab (Ev (by simp only[go_sem,i,k];exact Ak)) ?_
  refine T0 [4] ?_
  exact Sr <|Ro [0]
theorem F2{a b r}(h:Ch a b=some r):Con (B rs) 30 [.agg (.str a.Zd::.sl false (L Af a.Ze)::i64 a.Pay.Op::i64 a.Pay.N::(C1 i64 a.Pay.Unit.l++[.sl false (L cApi_Expr a.Pay.L)])),.ref 0 0] [.box (.str b.Zd::.sl true (L Af ([]))::i64 b.Pay.Op::i64 b.Pay.N::(C1 i64 b.Pay.Unit.l++[.sl true (L cApi_Expr ([]))])) false] (fun r' σ'=>r'=.bool r.1∧σ'=[.box (.str r.2.Zd::.sl true (L Af ([]))::i64 r.2.Pay.Op::i64 r.2.Pay.N::(C1 i64 r.2.Pay.Unit.l++[.sl true (L cApi_Expr ([]))])) false]):=by
 refine Co 1 9 [.tmp 3] Tryd.func30 (fun F hE=>?_) h
 unfold Ch
 refine T0 [1,2] ?_
 refine T0 [3] ?_
 exact Sr <|Ro [0]
theorem ER{a c r}(h:B3 a c=some r):Con (B rs) 58 [.bs false 0 (a.length) 0 (a.length),.fn 30 [.ref 1 0]] [.buf 9 (L Ac a) false,.box (.str c.Zd::.sl true (L Af ([]))::i64 c.Pay.Op::i64 c.Pay.N::(C1 i64 c.Pay.Unit.l++[.sl true (L cApi_Expr ([]))])) false] (fun r' σ'=>r'=i64 r.1∧σ'=[.buf 9 (L Ac a) false,.box (.str r.2.Zd::.sl true (L Af ([]))::i64 r.2.Pay.Op::i64 r.2.Pay.N::(C1 i64 r.2.Pay.Unit.l++[.sl true (L cApi_Expr ([]))])) false]):=by
 refine Co 2 19 [.tmp 4] Tryd.func58 (fun F hE=>?_) h
 unfold B3
 refine T0 [0,1] ?_
 refine Jo (fun⟨i,j,k,n⟩=>⟨Am 19 [],[.buf 9 (L Ac a) false,.box (.str i::.sl true (L Af ([]))::i64 j::i64 k::(C1 i64 n.l++[.sl true (L cApi_Expr ([]))])) false]⟩) ?_ ?_
 ·intro v q
  refine T0 [0,1,7,8] ?_
  refine Sb ?_
  refine Lo (fun⟨b,d,e,f,g⟩=>⟨Am 19 [(0,.bs false 0 (a.length) 0 (a.length)),(1,.fn 30 [.ref 1 0]),(7,i64 (a.length:Int)),(8,i64 b)],[.buf 9 (L Ac a) false,.box (.str d::.sl true (L Af ([]))::i64 e::i64 f::(C1 i64 g.l++[.sl true (L cApi_Expr ([]))])) false]⟩) (ws [0,1]) ?_
  rintro⟨b,d,e,f,g⟩ w s o p
  show Bl a b d e f g=some s→_
  unfold Bl
  refine T0 [0,1,7,8,9] ?_
  refine Sq <|Cd ?_ ?_
  ·refine Sk <|Tn <|Sq <|Sb <|T0 [0,1,5,7,8] ?_
   refine Ck fun t =>Bd fun x u =>Te [0,1,5,7,8,16] (Ag (l:=[]) (m:=[(16,30,[.agg (.str ((nth a b.toNat).Zd)::.sl false (L Af ((nth a b.toNat).Ze))::i64 (((nth a b.toNat).Pay).Op)::i64 (((nth a b.toNat).Pay).N)::(C1 i64 (((nth a b.toNat).Pay).Unit).l++[.sl false (L cApi_Expr (((nth a b.toNat).Pay).L))])),.ref 1 0],[.buf 9 (L Ac a) false,.box (.str d::.sl true (L Af ([]))::i64 e::i64 f::(C1 i64 g.l++[.sl true (L cApi_Expr ([]))])) false],_,_)]) trivial ⟨(wc (F2 u) [1]),trivial⟩) (Ev (by simp only[go_sem,qR t];exact Ak)) ?_
   refine Cd ?_ ?_
   ·refine T0 [4] ?_
    exact Sr <|Br <|Tr <|Lr p o <|Br <|Jr q <|Ro [0,1]
   ·refine Sk <|Bn <|Tn <|F0 [0,1,7,8] ?_
    exact Ln (ws [0,1])
  ·refine Sx <|Tx <|Lx p o <|Bx <|?_
   exact Jn ((ws (l':=[]) (σ':=[.buf 9 (L Ac a) false,.box (.str d::.sl true (L Af ([]))::i64 e::i64 f::(C1 i64 g.l++[.sl true (L cApi_Expr ([]))])) false]) [0,1]).trans (ws [0,1]))
 rintro⟨i,j,k,n⟩
 refine T0 [4] ?_
 exact Sr <|Ro [0,1]
theorem El{b a r}(h:AM b a=some r):Con (B rs) 29 [.bs false 0 (b.length) 0 (b.length),.fn 30 [.ref 1 0]] [.buf 9 (L Ac b) false,.box (.str a.Zd::.sl true (L Af ([]))::i64 a.Pay.Op::i64 a.Pay.N::(C1 i64 a.Pay.Unit.l++[.sl true (L cApi_Expr ([]))])) false] (fun r' σ'=>r'=.bool r.1∧σ'=[.buf 9 (L Ac b) false,.box (.str r.2.Zd::.sl true (L Af ([]))::i64 r.2.Pay.Op::i64 r.2.Pay.N::(C1 i64 r.2.Pay.Unit.l++[.sl true (L cApi_Expr ([]))])) false]):=by
 refine Co 2 9 [.tmp 4] Tryd.func29 (fun F hE=>?_) h
 unfold AM
 refine T0 [0,1] ?_
 refine Bd fun d c =>Te [4] (Ag (l:=[]) (m:=[(7,58,[.bs false 0 (b.length) 0 (b.length),.fn 30 [.ref 1 0]],[.buf 9 (L Ac b) false,.box (.str a.Zd::.sl true (L Af ([]))::i64 a.Pay.Op::i64 a.Pay.N::(C1 i64 a.Pay.Unit.l++[.sl true (L cApi_Expr ([]))])) false],_,_)]) trivial ⟨(wc (ER c) [0,1]),trivial⟩) Ev ?_
 exact Sr <|Ro [0,1]
theorem A4{a:Tparse_parser}{r:Tparse_parser⊕(Int×Int×Tparse_parser)}(h:AL a=some r):PCon (B rs) 17 [.ref 0 0] [.box [.sl false (L Aa a.l),i64 a.end_] false] (GH r):=by
 refine Au (N:=6) (rs:=[]) 1 rfl ok Tryd.func17 rfl (by decide +kernel) rfl rfl (Nat.le_of_ble_eq_true rfl) (fun F=>?_)
 have hE:=(ok (rs:=rs)).env F
 unfold AL at h
 show Run ((B rs).env F) 1 _ ⟨Am 6 [(0,.ref 0 0)],[.box [.sl false (L Aa a.l),i64 a.end_] false]⟩ _
 refine AX ?_
 revert h
 intro h
 replace h:=Ae h;obtain⟨b,c,h⟩:=h
 refine B5 hE [] 4 _ (v:=.iface 50 (.agg #[.int .i64 b.1,.int .i64 160])) (σ2:=[.box [.sl false (L Aa b.2.l),i64 b.2.end_] false]) (vals:=[]) rfl rfl ⟨_,[],(Ag (l:=[]) (m:=[(3,14,[.ref 0 0],[.box [.sl false (L Aa a.l),i64 a.end_] false],_,_)]) trivial ⟨(wc (Bg c) [0]),trivial⟩),trivial,?_⟩ (fun fr_ hlen_ hfr_=>?_)
 ·simp only[go_sem]
 obtain rfl:=Option.some.inj h
 refine Aj (Weak.refl _ _) ?_
 refine An rfl [0] (by decide) rfl ?_
 simp only[go_sem]
theorem Ah{b:Tparse_parser}{c:List UInt8}{r:Tparse_parser⊕(Int×Int×Tparse_parser)}(h:Ar b c=some r):PCon (B rs) 11 [.ref 0 0,.str c] [.box [.sl false (L Aa b.l),i64 b.end_] false] (Gf r):=by
 refine Au (N:=10) (rs:=[]) 1 rfl ok Tryd.func11 rfl (by decide +kernel) rfl rfl (Nat.le_of_ble_eq_true rfl) (fun F=>?_)
 have hE:=(ok (rs:=rs)).env F
 unfold Ar at h
 show Run ((B rs).env F) 1 _ ⟨Am 10 [(0,.ref 0 0),(1,.str c)],[.box [.sl false (L Aa b.l),i64 b.end_] false]⟩ _
 refine AX ?_
 revert h
 refine Bd fun d g =>Te [0,7] (Ag (l:=[]) (m:=[(6,15,[.ref 0 0,.str c],[.box [.sl false (L Aa b.l),i64 b.end_] false],_,_)]) trivial ⟨(wc (Ay g) [0]),trivial⟩) Ev ?_
 refine Cd ?_ ?_
 ·intro h
  replace h:=Ae h;obtain⟨i,e,h⟩:=h
  rcases i with f|a
  rotate_left
  ·dsimp only at h
   refine B5 hE [] 1 _ (v:=.iface 50 (.agg #[.int .i64 a.1,.int .i64 a.2.1])) (σ2:=[.box [.sl false (L Aa a.2.2.l),i64 a.2.2.end_] false]) (vals:=[]) rfl rfl ⟨_,[(9,17,[.ref 0 0],[.box [.sl false (L Aa d.2.l),i64 d.2.end_] false],.val (.iface 50 (.agg #[.int .i64 a.1,.int .i64 a.2.1])),[.box [.sl false (L Aa a.2.2.l),i64 a.2.2.end_] false])],Ab,⟨fun v hv=>by cases hv;exact Ai (PCon.pan (A4 e) rfl) [0] (by decide) gs gs gs gs,trivial⟩,?_⟩ (fun fr_ hlen_ hfr_=>?_)
   ·simp only[go_sem]
   obtain rfl:=Option.some.inj h
   refine Aj (Weak.refl _ _) ?_
   refine An rfl [0] (by decide) rfl ?_
   simp only[go_sem]
  dsimp only at h
  refine Bp hE Ru [] (fr':=[]) (σ':=[.box [.sl false (L Aa f.l),i64 f.end_] false]) ⟨_,(Ag (l:=[]) (m:=[(9,17,[.ref 0 0],[.box [.sl false (L Aa d.2.l),i64 d.2.end_] false],_,_)]) trivial ⟨(wc (PCon.to (A4 e) rfl) [0]),trivial⟩),?_⟩ ?_
  ·simp only[go_sem]
  revert h
  intro h
  obtain rfl:=Option.some.inj h
  refine Aj (Weak.refl _ _) ?_
  refine AB rfl (Bm (.inl rfl) ?_ rfl ?_)
  ·simp only[go_sem]
  ·show D3 [0] _ [0] _;simp only[go_sem]
 ·refine Sk ?_
  intro h
  obtain rfl:=Option.some.inj h
  refine Aj (Weak.refl _ _) ?_
  refine AB rfl (Bm (.inl rfl) ?_ rfl ?_)
  ·simp only[go_sem]
  ·show D3 [0] _ [0] _;simp only[go_sem]
variable {rs:RS}
theorem A8{c:Tparse_parser}{r:(Int×Tparse_parser)⊕(Int×Int×Tparse_parser)}(h:AH c=some r):PCon (B rs) 59 [.ref 0 0] [.box [.sl false (L Aa c.l),i64 c.end_] false] (FP r):=by
 refine Au (N:=24) (rs:=[.tmp 2]) 1 rfl ok Tryd.func59 rfl (by decide +kernel) rfl rfl (Nat.le_of_ble_eq_true rfl) (fun F=>?_)
 have hE:=(ok (rs:=rs)).env F
 unfold AH at h
 show Run ((B rs).env F) 1 _ ⟨Am 24 [(0,.ref 0 0)],[.box [.sl false (L Aa c.l),i64 c.end_] false]⟩ _
 refine AX ?_
 revert h
 refine T0 [0] ?_
 refine Bd fun a f =>Te [0,3,4] (Ag (l:=[]) (m:=[(7,26,[.ref 0 0,i64 2],[.box [.sl false (L Aa c.l),i64 c.end_] false],_,_)]) trivial ⟨(wc (Cg f) [0]),trivial⟩) Ev ?_
 refine Jo (fun(v:List Api_Token×Int)=>(⟨Am 24 [(0,.ref 0 0),(3,.ref 1 0)],[.box [.sl false (L Aa v.1),i64 v.2] false,.box [i64 a.1.Za,.str a.1.Zb,i64 a.1.N,i64 a.1.At] false]⟩:St)) ?_ ?_
 ·intro p g
  refine T0 [0,3,11] ?_
  refine Cd ?_ ?_
  ·intro h
   replace h:=Ae h;obtain⟨i,d,h⟩:=h
   rcases i with e|b
   rotate_left
   ·dsimp only at h
    refine B5 hE [] 1 _ (v:=.iface 50 (.agg #[.int .i64 b.1,.int .i64 b.2.1])) (σ2:=[.box [.sl false (L Aa b.2.2.l),i64 b.2.2.end_] false,.box [i64 a.1.Za,.str a.1.Zb,i64 a.1.N,i64 a.1.At] false]) (vals:=[]) rfl rfl ⟨_,[(13,17,[.ref 0 0],[.box [.sl false (L Aa a.2.2.l),i64 a.2.2.end_] false,.box [i64 a.1.Za,.str a.1.Zb,i64 a.1.N,i64 a.1.At] false],.val (.iface 50 (.agg #[.int .i64 b.1,.int .i64 b.2.1])),[.box [.sl false (L Aa b.2.2.l),i64 b.2.2.end_] false,.box [i64 a.1.Za,.str a.1.Zb,i64 a.1.N,i64 a.1.At] false])],Ab,⟨fun v hv=>by cases hv;exact Ai (PCon.pan (A4 d) rfl) [0] (by decide) gs gs gs gs,trivial⟩,?_⟩ (fun fr_ hlen_ hfr_=>?_)
    ·simp only[go_sem]
    refine E6 ?_
    replace h:=Ae h;obtain⟨q,h,e_z_1954⟩:=h
    obtain rfl:=Option.some.inj e_z_1954
    obtain rfl:=Option.some.inj g
    obtain rfl:=Option.some.inj h
    refine Aj (Weak.refl _ _) ?_
    refine An rfl [0] (by decide) rfl ?_
    simp only[go_sem]
   dsimp only at h
   refine Bp hE Hi [0,3] (fr':=[(0,.ref 0 0),(3,.ref 1 0)]) (σ':=[.box [.sl false (L Aa e.l),i64 e.end_] false,.box [i64 a.1.Za,.str a.1.Zb,i64 a.1.N,i64 a.1.At] false]) ⟨_,(Ag (l:=[]) (m:=[(13,17,[.ref 0 0],[.box [.sl false (L Aa a.2.2.l),i64 a.2.2.end_] false,.box [i64 a.1.Za,.str a.1.Zb,i64 a.1.N,i64 a.1.At] false],_,_)]) trivial ⟨(wc (PCon.to (A4 d) rfl) [0]),trivial⟩),?_⟩ ?_
   ·simp only[go_sem]
   revert h
   exact Jn (ws [0,1])
  ·exact Sk <|Jn (ws [0,1])
 rintro⟨s,j⟩
 refine Ck fun k =>Lt fun n o =>Te (σ':=[.box [.sl false (L Aa n),i64 j] false,_]) [3] Ab (Ev (by simp only[go_sem,k,o];exact Ak)) ?_
 refine T0 [2] ?_
 refine Sr ?_
 intro h
 obtain rfl:=Option.some.inj h
 refine Aj (Weak.refl _ _) ?_
 refine AB rfl (Bm (.inr rfl) ?_ rfl ?_)
 ·simp only[go_sem]
 ·show D3 [0] _ [0] _;simp only[go_sem]
theorem Ci{c:Tparse_parser}{r:(List UInt8×Tparse_parser)⊕(Int×Int×Tparse_parser)}(h:BK c=some r):PCon (B rs) 12 [.ref 0 0] [.box [.sl false (L Aa c.l),i64 c.end_] false] (GP r):=by
 refine Au (N:=31) (rs:=[.tmp 2]) 1 rfl ok Tryd.func12 rfl (by decide +kernel) rfl rfl (Nat.le_of_ble_eq_true rfl) (fun F=>?_)
 have hE:=(ok (rs:=rs)).env F
 unfold BK at h
 show Run ((B rs).env F) 1 _ ⟨Am 31 [(0,.ref 0 0)],[.box [.sl false (L Aa c.l),i64 c.end_] false]⟩ _
 refine AX ?_
 revert h
 refine T0 [0] ?_
 refine Bd fun a g =>Te [0,3,4] (Ag (l:=[]) (m:=[(7,26,[.ref 0 0,i64 1],[.box [.sl false (L Aa c.l),i64 c.end_] false],_,_)]) trivial ⟨(wc (Cg g) [0]),trivial⟩) Ev ?_
 refine Jo (fun(v:List Api_Token×Int)=>(⟨Am 31 [(0,.ref 0 0),(3,.ref 1 0)],[.box [.sl false (L Aa v.1),i64 v.2] false,.box [i64 a.1.Za,.str a.1.Zb,i64 a.1.N,i64 a.1.At] false]⟩:St)) ?_ ?_
 ·intro s i
  refine T0 [0,3,11] ?_
  refine Cd ?_ ?_
  ·intro h
   replace h:=Ae h;obtain⟨j,d,h⟩:=h
   rcases j with e|b
   rotate_left
   ·dsimp only at h
    refine B5 hE [] 1 _ (v:=.iface 50 (.agg #[.int .i64 b.1,.int .i64 b.2.1])) (σ2:=[.box [.sl false (L Aa b.2.2.l),i64 b.2.2.end_] false,.box [i64 a.1.Za,.str a.1.Zb,i64 a.1.N,i64 a.1.At] false]) (vals:=[]) rfl rfl ⟨_,[(13,17,[.ref 0 0],[.box [.sl false (L Aa a.2.2.l),i64 a.2.2.end_] false,.box [i64 a.1.Za,.str a.1.Zb,i64 a.1.N,i64 a.1.At] false],.val (.iface 50 (.agg #[.int .i64 b.1,.int .i64 b.2.1])),[.box [.sl false (L Aa b.2.2.l),i64 b.2.2.end_] false,.box [i64 a.1.Za,.str a.1.Zb,i64 a.1.N,i64 a.1.At] false])],Ab,⟨fun v hv=>by cases hv;exact Ai (PCon.pan (A4 d) rfl) [0] (by decide) gs gs gs gs,trivial⟩,?_⟩ (fun fr_ hlen_ hfr_=>?_)
    ·simp only[go_sem]
    refine E6 ?_
    replace h:=Ae h;obtain⟨t,h,e_z_1975⟩:=h
    obtain rfl:=Option.some.inj e_z_1975
    obtain rfl:=Option.some.inj i
    obtain rfl:=Option.some.inj h
    refine Aj (Weak.refl _ _) ?_
    refine An rfl [0] (by decide) rfl ?_
    simp only[go_sem]
   dsimp only at h
   refine Bp hE Hi [0,3] (fr':=[(0,.ref 0 0),(3,.ref 1 0)]) (σ':=[.box [.sl false (L Aa e.l),i64 e.end_] false,.box [i64 a.1.Za,.str a.1.Zb,i64 a.1.N,i64 a.1.At] false]) ⟨_,(Ag (l:=[]) (m:=[(13,17,[.ref 0 0],[.box [.sl false (L Aa a.2.2.l),i64 a.2.2.end_] false,.box [i64 a.1.Za,.str a.1.Zb,i64 a.1.N,i64 a.1.At] false],_,_)]) trivial ⟨(wc (PCon.to (A4 d) rfl) [0]),trivial⟩),?_⟩ ?_
   ·simp only[go_sem]
   revert h
   exact Jn (ws [0,1])
  ·exact Sk <|Jn (ws [0,1])
 rintro⟨k,f⟩
 refine Sq <|Bd fun u n =>Te [0,3,16] (o1 16 (J8 n)) Ev ?_
 refine Cd ?_ ?_
 ·intro h
  refine B5 hE [] 4 _ (v:=.iface 50 (.agg #[.int .i64 a.1.At,.int .i64 161])) (σ2:=[.box [.sl false (L Aa k),i64 f] false,.box [i64 a.1.Za,.str a.1.Zb,i64 a.1.N,i64 a.1.At] false]) (vals:=[]) rfl rfl ⟨_,[],Ab,trivial,?_⟩ (fun fr_ hlen_ hfr_=>?_)
  ·simp only[go_sem]
  refine B9 ?_
  obtain rfl:=Option.some.inj h
  refine Aj (Weak.refl _ _) ?_
  refine An rfl [0] (by decide) rfl ?_
  simp only[go_sem]
 ·refine Sk <|Tn <|Ck fun o =>Lt fun p q =>Te (σ':=[.box [.sl false (L Aa p),i64 f] false,_]) [3] Ab (Ev (by simp only[go_sem,o,q];exact Ak)) ?_
  refine T0 [2] ?_
  refine Sr ?_
  intro h
  obtain rfl:=Option.some.inj h
  refine Aj (Weak.refl _ _) ?_
  refine AB rfl (Bm (.inr rfl) ?_ rfl ?_)
  ·simp only[go_sem]
  ·show D3 [0] _ [0] _;simp only[go_sem]
theorem Ic{a b r}(h:CH a b=some r):Con (B rs) 56 [.sl false (L Eg a),.str b] [] (fun r' σ'=>r'=i64 r∧σ'=[]):=by
 refine Cw 19 [.tmp 4] Tryd.func56 (fun F hE=>?_) h
 unfold CH
 refine T0 [0,1] ?_
 refine Jo (fun _=>⟨Am 19 [],[]⟩) ?_ ?_
 ·intro j f
  refine T0 [0,1,7,8] ?_
  refine Sb ?_
  refine Lo (fun c=>⟨Am 19 [(0,.sl false (L Eg a)),(1,.str b),(7,i64 (a.length:Int)),(8,i64 c)],[]⟩) (ws []) ?_
  rintro c k g d e
  show Dd a b c=some g→_
  unfold Dd
  refine T0 [0,1,7,8,9] ?_
  refine Sq <|Cd ?_ ?_
  ·refine Sk <|Tn <|Sq <|Sb <|T0 [0,1,5,7,8] ?_
   refine Ck fun i =>Te [0,1,5,7,8,16] Ab (Ev (by simp only[go_sem,qR i];exact Ak)) ?_
   refine Cd ?_ ?_
   ·refine T0 [4] ?_
    exact Sr <|Br <|Tr <|Lr e d <|Br <|Jr f <|Rr
   ·refine Sk <|Bn <|Tn <|F0 [0,1,7,8] ?_
    exact Ln (ws [])
  ·refine Sx <|Tx <|Lx e d <|Bx <|?_
   exact Jn ((ws (l':=[]) (σ':=[]) []).trans (ws []))
 intro _
 refine T0 [4] ?_
 exact Sr <|Rr
theorem Jc{a r}(h:BC a=some r):Con (B rs) 57 [.str a] [] (fun r' σ'=>r'=.sl false (L Eg r)∧σ'=[]):=by
 refine Cw 106 [.tmp 2] Tryd.func57 (fun F hE=>?_) h
 unfold BC
 refine T0 [0] ?_
 refine T0 [0,3] ?_
 refine T0 [0,3,4] ?_
 refine T0 [0,3,4,5] ?_
 refine Ja (fun(v:Int×UInt8)=>(⟨Am 106 [(0,.str a),(3,i64 v.1),(5,u8 v.2)],[]⟩:St)) ?_ ?_
 ·intro aO
  refine T0 [0,3,4,5,6] ?_
  refine Sb ?_
  refine Lo (fun⟨i,n,j,o⟩=>⟨Am 106 [(0,.str a),(3,i64 i),(4,i64 n),(5,u8 j),(6,i64 o)],[]⟩) (ws []) ?_
  rintro⟨i,n,j,o⟩ aP ab ac ad
  show E2 a i n j o=some ab→_
  unfold E2
  refine Sq <|T0 [0,3,4,5,6,16] ?_
  refine Cd ?_ ?_
  ·refine Sk <|Tn <|Sq <|Sb <|Ck fun ae =>Te [0,3,4,5,6,7] Ab (Ev (by simp only[go_sem,qR ae];exact Ak)) ?_
   refine Lt fun af ag =>Te (fr':=[(0,_),(3,_),(4,_),(5,u8 af),(6,_),(7,_)]) [0,3,4,5,6,7] Ab (Ev (by simp only[go_sem,ag];exact Ak)) ?_
   refine Ck fun ah =>Lt fun ai aj =>Te (fr':=[(0,_),(3,_),(4,_),(5,_),(6,_),(8,i64 ai)]) [0,3,4,5,6,8] Ab (Ev (by simp only[go_sem,qN ah,aj];exact Ak)) ?_
   refine Lt fun ak al =>Te (fr':=[(0,_),(3,i64 ak),(5,_),(6,_),(8,_)]) [0,3,5,6,8] Ab (Ev (by simp only[go_sem,al];exact Ak)) ?_
   refine F0 [0,3,4,5,6] ?_
   refine Bn <|Tn <|F0 [0,3,4,5,6] ?_
   exact Ln (ws [])
  ·refine Sx <|Tx <|Ly ad ac <|Bx <|?_
   exact Jm ((ws (l':=[(0,.str a),(3,i64 i),(5,u8 j)]) (σ':=[]) []).trans (ws []))
 rintro⟨aQ,aR⟩
 refine Sq <|T0 [0,3,37] ?_
 refine Cd ?_ ?_
 ·exact Rn
 ·refine Sk <|Tn <|Ck fun am =>Lt fun b an =>Te (fr':=[(0,_),(9,.bs true 0 (b.length) 0 (b.length))]) (σ':=[.buf 1 (L Eg b) false]) [0,9] Ab (Ev (by simp only[go_sem,am,an];exact Ak)) ?_
  refine T0 [0,9,10] ?_
  refine T0 [0,9,10] ?_
  refine T0 [0,9,10,12] ?_
  refine Ja (fun u=>⟨Am 106 [(0,.str a),(9,.bs true 0 (b.length) 0 (b.length)),(10,i64 0),(12,i64 u)],[.buf 1 (L Eg b) false]⟩) ?_ ?_
  ·intro aS
   refine Sb ?_
   refine Lo (fun f=>⟨Am 106 [(0,.str a),(9,.bs true 0 (b.length) 0 (b.length)),(10,i64 0),(12,i64 f)],[.buf 1 (L Eg b) false]⟩) (ws [0]) ?_
   rintro f aT ao ap aq
   show EB a f=some ao→_
   unfold EB
   refine Sq ?_
   refine Tw [0,9,10,12,53] (fun w=>⟨Am 106 [(0,.str a),(9,.bs true 0 (b.length) 0 (b.length)),(10,i64 0),(12,i64 f),(53,.bool w)],[.buf 1 (L Eg b) false]⟩) ?_ ?_
   ·intro _
    refine Sp (fun p=>?_) fun p=>?_
    ·refine Ck fun ar =>Ck fun au =>?_
     exact Lf Ab (Ev (by simp only[go_sem,p,qR ar,qN au];exact Ak)) (ws [0])
    ·exact Lf Ab (Ev (by simp only[go_sem,p];exact Ak)) (ws [0])
   intro w
   refine Cd ?_ ?_
   ·refine Sk <|Tn <|Sb <|F0 [0,9,10,12] ?_
    exact Bn <|Ln (ws [0])
   ·refine Sx <|Tx <|Ly aq ap <|Bx <|?_
    exact Jm ((ws (l':=[(0,.str a),(9,.bs true 0 (b.length) 0 (b.length)),(10,i64 0),(12,i64 f)]) (σ':=[.buf 1 (L Eg b) false]) [0]).trans (ws [0]))
  intro u
  refine T0 [0,9,10,11,12] ?_
  refine Ja (fun⟨x,y,k⟩=>⟨Am 106 [(0,.str a),(9,.bs true 0 (k.length) 0 (k.length)),(10,i64 x),(11,i64 y)],[.buf 1 (L Eg k) false]⟩) ?_ ?_
  ·intro aU
   refine Sb ?_
   refine Lo (fun⟨d,l,q,e⟩=>⟨Am 106 [(0,.str a),(9,.bs true 0 (e.length) 0 (e.length)),(10,i64 d),(11,i64 l),(12,i64 q)],[.buf 1 (L Eg e) false]⟩) (ws [0]) ?_
   rintro⟨d,l,q,e⟩ aV av aw ax
   show E8 a d l q e=some av→_
   unfold E8
   refine Sq <|T0 [0,9,10,11,12,60] ?_
   refine Cd ?_ ?_
   ·refine Sk <|Tn <|Sb <|Sq <|Ck fun ay =>Ck fun az =>Lt fun aA aB =>Te (fr':=[(0,_),(9,_),(10,_),(11,_),(12,_),(66,.bool aA)]) [0,9,10,11,12,66] Ab (Ev (by simp only[go_sem,qR ay,qN az,aB];exact Ak)) ?_
    refine Cd ?_ ?_
    ·refine T0 [0,9,10,11,12] ?_
     exact Sx <|Tx <|Bx <|Ln (ws [0])
    ·refine Sk <|Tn <|Ck fun aC =>Ck fun aD =>Ck fun aE =>Lt fun c aF =>Te (fr':=[(0,_),(9,.bs true 0 (c.length) 0 (c.length)),(10,_),(12,_)]) (σ':=[.buf 1 (L Eg c) false]) [0,9,10,12] Ab (Ev (by simp only[go_sem,aC,aD,qR aE,aF];exact Ak)) ?_
     refine T0 [0,9,10,12] ?_
     refine T0 [0,9,10,12] ?_
     refine Ja (fun z=>⟨Am 106 [(0,.str a),(9,.bs true 0 (c.length) 0 (c.length)),(10,i64 (w64 (d+1))),(12,i64 z)],[.buf 1 (L Eg c) false]⟩) ?_ ?_
     ·intro aW
      refine Sb ?_
      refine Lo (fun g=>⟨Am 106 [(0,.str a),(9,.bs true 0 (c.length) 0 (c.length)),(10,i64 (w64 (d+1))),(12,i64 g)],[.buf 1 (L Eg c) false]⟩) (ws [0]) ?_
      rintro g aX aG aH aI
      show ED a g=some aG→_
      unfold ED
      refine Sq ?_
      refine Tw [0,9,10,12,91] (fun aa=>⟨Am 106 [(0,.str a),(9,.bs true 0 (c.length) 0 (c.length)),(10,i64 (w64 (d+1))),(12,i64 g),(91,.bool aa)],[.buf 1 (L Eg c) false]⟩) ?_ ?_
      ·intro _
       refine Sp (fun s=>?_) fun s=>?_
       ·refine Ck fun aJ =>Ck fun aK =>?_
        exact Lf Ab (Ev (by simp only[go_sem,s,qR aJ,qN aK];exact Ak)) (ws [0])
       ·exact Lf Ab (Ev (by simp only[go_sem,s];exact Ak)) (ws [0])
      intro aa
      refine Cd ?_ ?_
      ·refine Sk <|Tn <|Sb <|F0 [0,9,10,12] ?_
       exact Bn <|Ln (ws [0])
      ·refine Sx <|Tx <|Ly aI aH <|Bx <|?_
       exact Jm ((ws (l':=[(0,.str a),(9,.bs true 0 (c.length) 0 (c.length)),(10,i64 (w64 (d+1))),(12,i64 g)]) (σ':=[.buf 1 (L Eg c) false]) [0]).trans (ws [0]))
     intro z
     refine F0 [0,9,10,11,12] ?_
     exact Bn <|Ln (ws [0])
   ·refine Sx <|Tx <|Ly ax aw <|Bx <|?_
    exact Jm ((ws (l':=[(0,.str a),(9,.bs true 0 (e.length) 0 (e.length)),(10,i64 d),(11,i64 l)]) (σ':=[.buf 1 (L Eg e) false]) [0]).trans (ws [0]))
  rintro⟨x,y,k⟩
  refine Ja (fun m=>⟨Am 106 [(9,.bs true 0 (m.length) 0 (m.length))],[.buf 1 (L Eg m) false]⟩) ?_ ?_
  ·intro aY
   refine T0 [0,9,10,11,98] ?_
   refine Cd ?_ ?_
   ·refine Ck fun aL =>Ck fun aM =>Lt fun t aN =>Fe (fr':=[(9,.bs true 0 (t.length) 0 (t.length))]) (σ':=[.buf 1 (L Eg t) false]) [9] Ab (Ev (by simp only[go_sem,aL,qR aM,aN];exact Ak)) ?_
    exact Jm (ws [0])
   ·exact Sk <|Jm (ws [0])
  intro m
  refine T0 [2] ?_
  exact Sr <|Rr
theorem CG{a d r}(h:Bc a d=some r):Con (B rs) 28 [.ref 0 0,.str d] [.box [.sl false (L Aa a.l),i64 a.end_] false] (fun r' σ'=>r'=.tup [i64 r.1,.bool r.2.1]∧σ'=[.box [.sl false (L Aa r.2.2.l),i64 r.2.2.end_] false]):=by
 refine Co 1 34 [.tmp 4,.tmp 5] Tryd.func28 (fun F hE=>?_) h
 unfold Bc
 refine T0 [0,1] ?_
 refine Bd fun b f =>Te [0,1,6,7] (Ag (l:=[]) (m:=[(11,26,[.ref 0 0,i64 1],[.box [.sl false (L Aa a.l),i64 a.end_] false],_,_)]) trivial ⟨(wc (Cg f) [0]),trivial⟩) Ev ?_
 refine Bd fun p g =>Bd fun i j =>De [[],[0],[],[2],[0,1,2,3],[0,1,2,3,4]] [0,7,8] (o2 15 (Jc g) 18 (Ic j)) Ev ?_
 refine Sq ?_
 refine Tw [0,8,24] (fun e=>⟨Am 34 [(0,.ref 0 0),(8,i64 i),(24,.bool e)],[.box [.sl false (L Aa b.2.2.l),i64 b.2.2.end_] false]⟩) ?_ ?_
 ·intro _
  refine Sp (fun c=>?_) fun c=>?_
  ·exact Lf Ab (Ev (by simp only[go_sem,c];exact Ak)) (ws [0])
  ·exact Lf Ab (Ev (by simp only[go_sem,c];exact Ak)) (ws [0])
 intro e
 refine Cd ?_ ?_
 ·refine T0 [4,5] ?_
  exact Sr <|Tr <|Ro [0]
 ·refine Sk <|Tn <|Ck fun k =>Lt fun n o =>Te (σ':=[.box [.sl false (L Aa n),i64 b.2.2.end_] false]) [8] Ab (Ev (by simp only[go_sem,k,o];exact Ak)) ?_
  refine T0 [4,5] ?_
  exact Sr <|Ro [0]
variable {rs:RS}
theorem AC{b:Tparse_parser}{d:List UInt8}{r:(Int×Tparse_parser)⊕(Int×Int×Tparse_parser)}(h:Bf b d=some r):PCon (B rs) 13 [.ref 0 0,.str d] [.box [.sl false (L Aa b.l),i64 b.end_] false] (GS r):=by
 refine Au (N:=18) (rs:=[.tmp 4]) 1 rfl ok Tryd.func13 rfl (by decide +kernel) rfl rfl (Nat.le_of_ble_eq_true rfl) (fun F=>?_)
 have hE:=(ok (rs:=rs)).env F
 unfold Bf at h
 show Run ((B rs).env F) 1 _ ⟨Am 18 [(0,.ref 0 0),(1,.str d)],[.box [.sl false (L Aa b.l),i64 b.end_] false]⟩ _
 refine AX ?_
 revert h
 refine T0 [0,1] ?_
 refine Bd fun c g =>Te [0,5,6] (Ag (l:=[]) (m:=[(10,28,[.ref 0 0,.str d],[.box [.sl false (L Aa b.l),i64 b.end_] false],_,_)]) trivial ⟨(wc (CG g) [0]),trivial⟩) Ev ?_
 refine Jo (fun(v:List Api_Token×Int)=>(⟨Am 18 [(5,i64 c.1)],[.box [.sl false (L Aa v.1),i64 v.2] false]⟩:St)) ?_ ?_
 ·intro k i
  refine T0 [0,5,14] ?_
  refine Cd ?_ ?_
  ·intro h
   replace h:=Ae h;obtain⟨j,e,h⟩:=h
   rcases j with f|a
   rotate_left
   ·dsimp only at h
    refine B5 hE [] 1 _ (v:=.iface 50 (.agg #[.int .i64 a.1,.int .i64 a.2.1])) (σ2:=[.box [.sl false (L Aa a.2.2.l),i64 a.2.2.end_] false]) (vals:=[]) rfl rfl ⟨_,[(16,17,[.ref 0 0],[.box [.sl false (L Aa c.2.2.l),i64 c.2.2.end_] false],.val (.iface 50 (.agg #[.int .i64 a.1,.int .i64 a.2.1])),[.box [.sl false (L Aa a.2.2.l),i64 a.2.2.end_] false])],Ab,⟨fun v hv=>by cases hv;exact Ai (PCon.pan (A4 e) rfl) [0] (by decide) gs gs gs gs,trivial⟩,?_⟩ (fun fr_ hlen_ hfr_=>?_)
    ·simp only[go_sem]
    refine E6 ?_
    replace h:=Ae h;obtain⟨n,h,e_z_2595⟩:=h
    obtain rfl:=Option.some.inj e_z_2595
    obtain rfl:=Option.some.inj i
    obtain rfl:=Option.some.inj h
    refine Aj (Weak.refl _ _) ?_
    refine An rfl [0] (by decide) rfl ?_
    simp only[go_sem]
   dsimp only at h
   refine Bp hE Hi [5] (fr':=[(5,i64 c.1)]) (σ':=[.box [.sl false (L Aa f.l),i64 f.end_] false]) ⟨_,(Ag (l:=[]) (m:=[(16,17,[.ref 0 0],[.box [.sl false (L Aa c.2.2.l),i64 c.2.2.end_] false],_,_)]) trivial ⟨(wc (PCon.to (A4 e) rfl) [0]),trivial⟩),?_⟩ ?_
   ·simp only[go_sem]
   revert h
   exact Jn (ws [0])
  ·exact Sk <|Jn (ws [0])
 rintro⟨o,p⟩
 refine T0 [4] ?_
 refine Sr ?_
 intro h
 obtain rfl:=Option.some.inj h
 refine Aj (Weak.refl _ _) ?_
 refine AB rfl (Bm (.inr rfl) ?_ rfl ?_)
 ·simp only[go_sem]
 ·show D3 [0] _ [0] _;simp only[go_sem]
theorem Ew{b:Tparse_parser}{r:(Arr Int 4×Tparse_parser)⊕(Int×Int×Tparse_parser)}(h:Cp b=some r):PCon (B rs) 76 [.ref 0 0] [.box [.sl false (L Aa b.l),i64 b.end_] false] (GQ r):=by
 refine Au (N:=25) (rs:=[.cell 2 35]) 1 rfl ok Tryd.func76 rfl (by decide +kernel) rfl rfl (Nat.le_of_ble_eq_true rfl) (fun F=>?_)
 have hE:=(ok (rs:=rs)).env F
 unfold Cp at h
 show Run ((B rs).env F) 1 _ ⟨Am 25 [(0,.ref 0 0)],[.box [.sl false (L Aa b.l),i64 b.end_] false]⟩ _
 refine AX ?_
 revert h
 refine T0 [0,2] ?_
 refine Ja (fun⟨g,i,c⟩=>⟨Am 25 [(0,.ref 0 0),(2,.ref 1 0)],[.box [.sl false (L Aa g),i64 i] false,.box (C1 i64 c.l) false]⟩) ?_ ?_
 ·intro ac
  refine Bd fun ad q =>Te [0,2,3,4] (Ag (l:=[]) (m:=[(7,28,[.ref 0 0,.str ([109,111,110,101,121,32,109,105,110,117,116,101,32,107,109,32,107,103]:List UInt8)],[.box [.sl false (L Aa b.l),i64 b.end_] false,.box (C1 i64 (Arr.rep 4 0).l) false],_,_)]) trivial ⟨(wc (CG q) [0]),trivial⟩) Ev ?_
  refine T0 [0,2,3,10] ?_
  refine Cd ?_ ?_
  ·refine Ck fun s =>Ck fun t =>Lt fun u w =>Fe (σ':=[_,.box (C1 i64 u.l) false]) [0,2] Ab (Ev (by simp only[go_sem,qR s,qR t,w];exact Ak)) ?_
   exact Jm (ws [0,1])
  ·exact Sk <|Jm (ws [0,1])
 rintro⟨g,i,c⟩
 refine Jo (fun⟨j,k,n⟩=>⟨Am 25 [(2,.ref 1 0)],[.box [.sl false (L Aa j),i64 k] false,.box (C1 i64 n.l) false]⟩) ?_ ?_
 ·intro ae x
  refine Bd fun f y =>Te [0,2,17] (Ag (l:=[]) (m:=[(17,15,[.ref 0 0,.str ([112,101,114]:List UInt8)],[.box [.sl false (L Aa g),i64 i] false,.box (C1 i64 c.l) false],_,_)]) trivial ⟨(wc (Ay y) [0]),trivial⟩) Ev ?_
  refine Cd ?_ ?_
  ·intro h
   replace h:=Ae h;obtain⟨z,o,h⟩:=h
   rcases z with p|a
   rotate_left
   ·dsimp only at h
    refine B5 hE [] 1 _ (v:=.iface 50 (.agg #[.int .i64 a.1,.int .i64 a.2.1])) (σ2:=[.box [.sl false (L Aa a.2.2.l),i64 a.2.2.end_] false,.box (C1 i64 c.l) false]) (vals:=[]) rfl rfl ⟨_,[(19,13,[.ref 0 0,.str ([109,111,110,101,121,32,109,105,110,117,116,101,32,107,109,32,107,103]:List UInt8)],[.box [.sl false (L Aa f.2.l),i64 f.2.end_] false,.box (C1 i64 c.l) false],.val (.iface 50 (.agg #[.int .i64 a.1,.int .i64 a.2.1])),[.box [.sl false (L Aa a.2.2.l),i64 a.2.2.end_] false,.box (C1 i64 c.l) false])],Ab,⟨fun v hv=>by cases hv;exact Ai (PCon.pan (AC o) rfl) [0] (by decide) gs gs gs gs,trivial⟩,?_⟩ (fun fr_ hlen_ hfr_=>?_)
    ·simp only[go_sem]
    refine E6 ?_
    replace h:=Ae h;obtain⟨af,h,e_z_2638⟩:=h
    obtain rfl:=Option.some.inj e_z_2638
    obtain rfl:=Option.some.inj x
    obtain rfl:=Option.some.inj h
    refine Aj (Weak.refl _ _) ?_
    refine An rfl [0] (by decide) rfl ?_
    simp only[go_sem]
   dsimp only at h
   replace h:=Ep h;obtain⟨d,h⟩:=h
   replace h:=Ep h;obtain⟨e,h⟩:=h
   replace h:=HJ h;obtain⟨aa,ab,h⟩:=h
   refine Bp hE Hi [2] (fr':=[(2,.ref 1 0)]) (σ':=[.box [.sl false (L Aa p.2.l),i64 p.2.end_] false,.box (C1 i64 aa.l) false]) ⟨_,(Ag (l:=[]) (m:=[(19,13,[.ref 0 0,.str ([109,111,110,101,121,32,109,105,110,117,116,101,32,107,109,32,107,103]:List UInt8)],[.box [.sl false (L Aa f.2.l),i64 f.2.end_] false,.box (C1 i64 c.l) false],_,_)]) trivial ⟨(wc (PCon.to (AC o) rfl) [0]),trivial⟩),?_⟩ ?_
   ·subst ab;first|(simp only[go_sem,d,d.2,W5 d.2,e,e.2,W5 e.2];done)|(simp only[go_sem,d,d.2,W5 d.2,e,e.2,W5 e.2];simp only[Nat.add_comm 1])
   revert h
   exact Jn (ws [0,1])
  ·exact Sk <|Jn (ws [0,1])
 rintro⟨j,k,n⟩
 refine T0 [2] ?_
 refine Sr ?_
 intro h
 obtain rfl:=Option.some.inj h
 refine Aj (Weak.refl _ _) ?_
 refine AB rfl (Bm (.inr rfl) ?_ rfl ?_)
 ·simp only[go_sem]
 ·show D3 [0] _ [0] _;simp only[go_sem]
variable {rs:RS}
theorem Eu{k:Tparse_parser}{q:Int}{r:(Api_Test×Tparse_parser)⊕(Int×Int×Tparse_parser)}(h:Cv k q=some r):PCon (B rs) 31 [.ref 0 0,i64 q] [.box [.sl false (L Aa k.l),i64 k.end_] false] (GR r):=by
 refine Au (N:=37) (rs:=[.cell 4 73]) 1 rfl ok Tryd.func31 rfl (by decide +kernel) rfl rfl (Nat.le_of_ble_eq_true rfl) (fun F=>?_)
 have hE:=(ok (rs:=rs)).env F
 unfold Cv at h
 show Run ((B rs).env F) 1 _ ⟨Am 37 [(0,.ref 0 0),(1,i64 q)],[.box [.sl false (L Aa k.l),i64 k.end_] false]⟩ _
 refine AX ?_
 revert h
 refine T0 [0,1,4] ?_
 refine Bd fun n ab =>Te [0,1,4,5] (Ag (l:=[]) (m:=[(8,14,[.ref 0 0],[.box [.sl false (L Aa k.l),i64 k.end_] false,.box [i64 0,i64 0,i64 0] false],_,_)]) trivial ⟨(wc (Bg ab) [0]),trivial⟩) Ev ?_
 intro h
 replace h:=Ae h;obtain⟨ac,u,h⟩:=h
 rcases ac with a|c
 rotate_left
 ·dsimp only at h
  refine Az hE [] 1 _ (v:=.iface 50 (.agg #[.int .i64 c.1,.int .i64 c.2.1])) (σ2:=[.box [.sl false (L Aa c.2.2.l),i64 c.2.2.end_] false,.box [i64 0,i64 0,i64 0] false]) (vals:=[]) rfl rfl ⟨_,[(10,13,[.ref 0 0,.str ([116,121,112,101,32,111,119,110,101,114,32,114,97,105,108,119,97,121,32,115,104,105,112,112,101,114,32,99,108,97,115,115,32,119,101,105,103,104,116,32,107,109,32,109,105,110,117,116,101,115,32,119,111,114,107,105,110,103,32,99,111,100,101,32,119,111,114,116,104,32,99,111,115,116,32,109,111,110,116,104,32,98,101,103,105,110,32,112,97,114,116,115,32,112,97,114,116]:List UInt8)],[.box [.sl false (L Aa n.2.l),i64 n.2.end_] false,.box [i64 0,i64 0,i64 0] false],.val (.iface 50 (.agg #[.int .i64 c.1,.int .i64 c.2.1])),[.box [.sl false (L Aa c.2.2.l),i64 c.2.2.end_] false,.box [i64 0,i64 0,i64 0] false])],Ab,⟨fun v hv=>by cases hv;exact Ai (PCon.pan (AC u) rfl) [0] (by decide) gs gs gs gs,trivial⟩,?_⟩ (fun fr_ hlen_ hfr_=>?_)
  ·simp only[go_sem]
  obtain rfl:=Option.some.inj h
  refine Aj (Weak.refl _ _) ?_
  refine An rfl [0] (by decide) rfl ?_
  simp only[go_sem]
 dsimp only at h
 refine Ao hE [0,1,4,5,6] (fr':=[(0,.ref 0 0),(1,i64 q),(4,.ref 1 0),(5,i64 n.1),(6,.ref 2 0)]) (σ':=[.box [.sl false (L Aa a.2.l),i64 a.2.end_] false,.box [i64 0,i64 0,i64 0] false,.box [i64 a.1,i64 0,i64 0] false]) ⟨_,(Ag (l:=[]) (m:=[(10,13,[.ref 0 0,.str ([116,121,112,101,32,111,119,110,101,114,32,114,97,105,108,119,97,121,32,115,104,105,112,112,101,114,32,99,108,97,115,115,32,119,101,105,103,104,116,32,107,109,32,109,105,110,117,116,101,115,32,119,111,114,107,105,110,103,32,99,111,100,101,32,119,111,114,116,104,32,99,111,115,116,32,109,111,110,116,104,32,98,101,103,105,110,32,112,97,114,116,115,32,112,97,114,116]:List UInt8)],[.box [.sl false (L Aa n.2.l),i64 n.2.end_] false,.box [i64 0,i64 0,i64 0] false],_,_)]) trivial ⟨(wc (PCon.to (AC u) rfl) [0]),trivial⟩),?_⟩ ?_
 ·simp only[go_sem]
 revert h
 refine Sq <|T0 [0,4,5,6,13] ?_
 refine Cd ?_ ?_
 ·intro h
  refine B5 hE [] 3 _ (v:=.iface 50 (.agg #[.int .i64 n.1,.int .i64 2])) (σ2:=[.box [.sl false (L Aa a.2.l),i64 a.2.end_] false,.box [i64 0,i64 0,i64 0] false,.box [i64 a.1,i64 0,i64 0] false]) (vals:=[]) rfl rfl ⟨_,[],Ab,trivial,?_⟩ (fun fr_ hlen_ hfr_=>?_)
  ·simp only[go_sem]
  refine B9 ?_
  obtain rfl:=Option.some.inj h
  refine Aj (Weak.refl _ _) ?_
  refine An rfl [0] (by decide) rfl ?_
  simp only[go_sem]
 ·refine Sk <|Tn <|Sq <|Bd fun d ad =>Te [0,4,6,18] (Ag (l:=[]) (m:=[(18,15,[.ref 0 0,.str ([105,115]:List UInt8)],[.box [.sl false (L Aa a.2.l),i64 a.2.end_] false,.box [i64 0,i64 0,i64 0] false,.box [i64 a.1,i64 0,i64 0] false],_,_)]) trivial ⟨(wc (Ay ad) [0]),trivial⟩) Ev ?_
  refine Cd ?_ ?_
  ·intro h
   replace h:=Ae h;obtain⟨ae,w,h⟩:=h
   rcases ae with s|e
   rotate_left
   ·dsimp only at h
    refine Az hE [] 1 _ (v:=.iface 50 (.agg #[.int .i64 e.1,.int .i64 e.2.1])) (σ2:=[.box [.sl false (L Aa e.2.2.l),i64 e.2.2.end_] false,.box [i64 0,i64 0,i64 0] false,.box [i64 a.1,i64 0,i64 0] false]) (vals:=[]) rfl rfl ⟨_,[(20,59,[.ref 0 0],[.box [.sl false (L Aa d.2.l),i64 d.2.end_] false,.box [i64 0,i64 0,i64 0] false,.box [i64 a.1,i64 0,i64 0] false],.val (.iface 50 (.agg #[.int .i64 e.1,.int .i64 e.2.1])),[.box [.sl false (L Aa e.2.2.l),i64 e.2.2.end_] false,.box [i64 0,i64 0,i64 0] false,.box [i64 a.1,i64 0,i64 0] false])],Ab,⟨fun v hv=>by cases hv;exact Ai (PCon.pan (A8 w) rfl) [0] (by decide) gs gs gs gs,trivial⟩,?_⟩ (fun fr_ hlen_ hfr_=>?_)
    ·simp only[go_sem]
    refine B9 ?_
    obtain rfl:=Option.some.inj h
    refine Aj (Weak.refl _ _) ?_
    refine An rfl [0] (by decide) rfl ?_
    simp only[go_sem]
   dsimp only at h
   refine Ao hE [4,6] (fr':=[(4,.ref 1 0),(6,.ref 2 0)]) (σ':=[.box [.sl false (L Aa s.2.l),i64 s.2.end_] false,.box [i64 0,i64 0,i64 0] false,.box [i64 a.1,i64 s.1,i64 0] false]) ⟨_,(Ag (l:=[]) (m:=[(20,59,[.ref 0 0],[.box [.sl false (L Aa d.2.l),i64 d.2.end_] false,.box [i64 0,i64 0,i64 0] false,.box [i64 a.1,i64 0,i64 0] false],_,_)]) trivial ⟨(wc (PCon.to (A8 w) rfl) [0]),trivial⟩),?_⟩ ?_
   ·simp only[go_sem]
   revert h
   refine T0 [4,6] ?_
   refine T0 [4] ?_
   refine Sr <|Tr <|?_
   intro h
   obtain rfl:=Option.some.inj h
   refine Aj (Weak.refl _ _) ?_
   refine AB rfl (Bm (.inr rfl) ?_ rfl ?_)
   ·simp only[go_sem]
   ·show D3 [0] _ [0] _;simp only[go_sem]
  ·refine Sk <|Tn <|?_
   intro h
   replace h:=Ae h;obtain⟨af,x,h⟩:=h
   rcases af with o|f
   rotate_left
   ·dsimp only at h
    refine Az hE [] 1 _ (v:=.iface 50 (.agg #[.int .i64 f.1,.int .i64 f.2.1])) (σ2:=[.box [.sl false (L Aa f.2.2.l),i64 f.2.2.end_] false,.box [i64 0,i64 0,i64 0] false,.box [i64 a.1,i64 0,i64 0] false]) (vals:=[]) rfl rfl ⟨_,[(27,11,[.ref 0 0,.str ([105,110]:List UInt8)],[.box [.sl false (L Aa d.2.l),i64 d.2.end_] false,.box [i64 0,i64 0,i64 0] false,.box [i64 a.1,i64 0,i64 0] false],.val (.iface 50 (.agg #[.int .i64 f.1,.int .i64 f.2.1])),[.box [.sl false (L Aa f.2.2.l),i64 f.2.2.end_] false,.box [i64 0,i64 0,i64 0] false,.box [i64 a.1,i64 0,i64 0] false])],Ab,⟨fun v hv=>by cases hv;exact Ai (PCon.pan (Ah x) rfl) [0] (by decide) gs gs gs gs,trivial⟩,?_⟩ (fun fr_ hlen_ hfr_=>?_)
    ·simp only[go_sem]
    obtain rfl:=Option.some.inj h
    refine Aj (Weak.refl _ _) ?_
    refine An rfl [0] (by decide) rfl ?_
    simp only[go_sem]
   dsimp only at h
   refine Ao hE [0,4,6] (fr':=[(0,.ref 0 0),(4,.ref 1 0),(6,.ref 2 0)]) (σ':=[.box [.sl false (L Aa o.l),i64 o.end_] false,.box [i64 0,i64 0,i64 0] false,.box [i64 a.1,i64 0,i64 0] false]) ⟨_,(Ag (l:=[]) (m:=[(27,11,[.ref 0 0,.str ([105,110]:List UInt8)],[.box [.sl false (L Aa d.2.l),i64 d.2.end_] false,.box [i64 0,i64 0,i64 0] false,.box [i64 a.1,i64 0,i64 0] false],_,_)]) trivial ⟨(wc (PCon.to (Ah x) rfl) [0]),trivial⟩),?_⟩ ?_
   ·simp only[go_sem]
   revert h
   intro h
   replace h:=Ae h;obtain⟨ag,y,h⟩:=h
   rcases ag with b|g
   rotate_left
   ·dsimp only at h
    refine Az hE [] 1 _ (v:=.iface 50 (.agg #[.int .i64 g.1,.int .i64 g.2.1])) (σ2:=[.box [.sl false (L Aa g.2.2.l),i64 g.2.2.end_] false,.box [i64 0,i64 0,i64 0] false,.box [i64 a.1,i64 0,i64 0] false]) (vals:=[]) rfl rfl ⟨_,[(29,59,[.ref 0 0],[.box [.sl false (L Aa o.l),i64 o.end_] false,.box [i64 0,i64 0,i64 0] false,.box [i64 a.1,i64 0,i64 0] false],.val (.iface 50 (.agg #[.int .i64 g.1,.int .i64 g.2.1])),[.box [.sl false (L Aa g.2.2.l),i64 g.2.2.end_] false,.box [i64 0,i64 0,i64 0] false,.box [i64 a.1,i64 0,i64 0] false])],Ab,⟨fun v hv=>by cases hv;exact Ai (PCon.pan (A8 y) rfl) [0] (by decide) gs gs gs gs,trivial⟩,?_⟩ (fun fr_ hlen_ hfr_=>?_)
    ·simp only[go_sem]
    obtain rfl:=Option.some.inj h
    refine Aj (Weak.refl _ _) ?_
    refine An rfl [0] (by decide) rfl ?_
    simp only[go_sem]
   dsimp only at h
   refine Ao hE [0,4,6] (fr':=[(0,.ref 0 0),(4,.ref 1 0),(6,.ref 2 0)]) (σ':=[.box [.sl false (L Aa b.2.l),i64 b.2.end_] false,.box [i64 0,i64 0,i64 0] false,.box [i64 a.1,i64 b.1,i64 0] false]) ⟨_,(Ag (l:=[]) (m:=[(29,59,[.ref 0 0],[.box [.sl false (L Aa o.l),i64 o.end_] false,.box [i64 0,i64 0,i64 0] false,.box [i64 a.1,i64 0,i64 0] false],_,_)]) trivial ⟨(wc (PCon.to (A8 y) rfl) [0]),trivial⟩),?_⟩ ?_
   ·simp only[go_sem]
   revert h
   intro h
   replace h:=Ae h;obtain⟨ah,z,h⟩:=h
   rcases ah with p|i
   rotate_left
   ·dsimp only at h
    refine Az hE [] 1 _ (v:=.iface 50 (.agg #[.int .i64 i.1,.int .i64 i.2.1])) (σ2:=[.box [.sl false (L Aa i.2.2.l),i64 i.2.2.end_] false,.box [i64 0,i64 0,i64 0] false,.box [i64 a.1,i64 b.1,i64 0] false]) (vals:=[]) rfl rfl ⟨_,[(32,11,[.ref 0 0,.str ([46,46]:List UInt8)],[.box [.sl false (L Aa b.2.l),i64 b.2.end_] false,.box [i64 0,i64 0,i64 0] false,.box [i64 a.1,i64 b.1,i64 0] false],.val (.iface 50 (.agg #[.int .i64 i.1,.int .i64 i.2.1])),[.box [.sl false (L Aa i.2.2.l),i64 i.2.2.end_] false,.box [i64 0,i64 0,i64 0] false,.box [i64 a.1,i64 b.1,i64 0] false])],Ab,⟨fun v hv=>by cases hv;exact Ai (PCon.pan (Ah z) rfl) [0] (by decide) gs gs gs gs,trivial⟩,?_⟩ (fun fr_ hlen_ hfr_=>?_)
    ·simp only[go_sem]
    obtain rfl:=Option.some.inj h
    refine Aj (Weak.refl _ _) ?_
    refine An rfl [0] (by decide) rfl ?_
    simp only[go_sem]
   dsimp only at h
   refine Ao hE [0,4,6] (fr':=[(0,.ref 0 0),(4,.ref 1 0),(6,.ref 2 0)]) (σ':=[.box [.sl false (L Aa p.l),i64 p.end_] false,.box [i64 0,i64 0,i64 0] false,.box [i64 a.1,i64 b.1,i64 0] false]) ⟨_,(Ag (l:=[]) (m:=[(32,11,[.ref 0 0,.str ([46,46]:List UInt8)],[.box [.sl false (L Aa b.2.l),i64 b.2.end_] false,.box [i64 0,i64 0,i64 0] false,.box [i64 a.1,i64 b.1,i64 0] false],_,_)]) trivial ⟨(wc (PCon.to (Ah z) rfl) [0]),trivial⟩),?_⟩ ?_
   ·simp only[go_sem]
   revert h
   intro h
   replace h:=Ae h;obtain⟨ai,aa,h⟩:=h
   rcases ai with t|j
   rotate_left
   ·dsimp only at h
    refine Az hE [] 1 _ (v:=.iface 50 (.agg #[.int .i64 j.1,.int .i64 j.2.1])) (σ2:=[.box [.sl false (L Aa j.2.2.l),i64 j.2.2.end_] false,.box [i64 0,i64 0,i64 0] false,.box [i64 a.1,i64 b.1,i64 0] false]) (vals:=[]) rfl rfl ⟨_,[(34,59,[.ref 0 0],[.box [.sl false (L Aa p.l),i64 p.end_] false,.box [i64 0,i64 0,i64 0] false,.box [i64 a.1,i64 b.1,i64 0] false],.val (.iface 50 (.agg #[.int .i64 j.1,.int .i64 j.2.1])),[.box [.sl false (L Aa j.2.2.l),i64 j.2.2.end_] false,.box [i64 0,i64 0,i64 0] false,.box [i64 a.1,i64 b.1,i64 0] false])],Ab,⟨fun v hv=>by cases hv;exact Ai (PCon.pan (A8 aa) rfl) [0] (by decide) gs gs gs gs,trivial⟩,?_⟩ (fun fr_ hlen_ hfr_=>?_)
    ·simp only[go_sem]
    obtain rfl:=Option.some.inj h
    refine Aj (Weak.refl _ _) ?_
    refine An rfl [0] (by decide) rfl ?_
    simp only[go_sem]
   dsimp only at h
   refine Ao hE [4,6] (fr':=[(4,.ref 1 0),(6,.ref 2 0)]) (σ':=[.box [.sl false (L Aa t.2.l),i64 t.2.end_] false,.box [i64 0,i64 0,i64 0] false,.box [i64 a.1,i64 b.1,i64 t.1] false]) ⟨_,(Ag (l:=[]) (m:=[(34,59,[.ref 0 0],[.box [.sl false (L Aa p.l),i64 p.end_] false,.box [i64 0,i64 0,i64 0] false,.box [i64 a.1,i64 b.1,i64 0] false],_,_)]) trivial ⟨(wc (PCon.to (A8 aa) rfl) [0]),trivial⟩),?_⟩ ?_
   ·simp only[go_sem]
   revert h
   refine T0 [4] ?_
   refine Sr ?_
   intro h
   obtain rfl:=Option.some.inj h
   refine Aj (Weak.refl _ _) ?_
   refine AB rfl (Bm (.inr rfl) ?_ rfl ?_)
   ·simp only[go_sem]
   ·show D3 [0] _ [0] _;simp only[go_sem]
theorem EP{a r}(h:Fh a=some r):Con (B rs) 78 [.sl false (L VN a)] [] (fun r' σ'=>r'=.bool r∧σ'=[]):=by
 refine Cw 18 [.tmp 2] Tryd.func78 (fun F hE=>?_) h
 unfold Fh
 refine T0 [0] ?_
 refine Jo (fun _=>⟨Am 18 [],[]⟩) ?_ ?_
 ·intro k g
  refine T0 [5,6,7] ?_
  refine Sb ?_
  refine Lo (fun b=>⟨Am 18 [(5,.sl false (L VN a)),(6,i64 (a.length:Int)),(7,i64 b)],[]⟩) (ws []) ?_
  rintro b l i d e
  show E1 a b=some i→_
  unfold E1
  refine T0 [5,6,7,8] ?_
  refine Sq <|Cd ?_ ?_
  ·refine Sk <|Tn <|Sq <|Sb <|Ck fun j =>Te [4,5,6,7] Ab (Ev (by simp only[go_sem,qR j];exact Ak)) ?_
   refine Tw [5,6,7,16] (fun f=>⟨Am 18 [(5,.sl false (L VN a)),(6,i64 (a.length:Int)),(7,i64 b),(16,.bool f)],[]⟩) ?_ ?_
   ·intro _
    refine Sp (fun c=>?_) fun c=>?_
    ·exact Lf Ab (Ev (by simp only[go_sem,c];exact Ak)) (ws [])
    ·exact Lf Ab (Ev (by simp only[go_sem,c];exact Ak)) (ws [])
   intro f
   refine Cd ?_ ?_
   ·refine T0 [2] ?_
    exact Sr <|Br <|Tr <|Lr e d <|Br <|Jr g <|Rr
   ·refine Sk <|Bn <|Tn <|F0 [5,6,7] ?_
    exact Ln (ws [])
  ·refine Sx <|Tx <|Lx e d <|Bx <|?_
   exact Jn ((ws (l':=[]) (σ':=[]) []).trans (ws []))
 intro _
 refine T0 [2] ?_
 exact Sr <|Rr
theorem GM{a r}(h:DM a=some r):Con (B rs) 79 [i64 a] [] (fun r' σ'=>r'=.tup [i64 r.1,i64 r.2]∧σ'=[]):=by
 refine Cw 9 [.tmp 2,.tmp 3] Tryd.func79 (fun F hE=>?_) h
 unfold DM
 refine T0 [0] ?_
 refine Sq <|Bd fun c b =>Te [0,7] (o1 6 (EP b)) Ev ?_
 refine Cd ?_ ?_
 ·refine T0 [2,3] ?_
  exact Sr <|Tr <|Rr
 ·refine Sk <|Tn <|T0 [2,3] ?_
  exact Sr <|Rr
theorem IL{a b r}(h:Hl a b=some r):Con (B rs) 66 [i64 a,i64 b] [] (fun r' σ'=>r'=.tup [i64 r.1,i64 r.2]∧σ'=[]):=by
 refine Cw 17 [.tmp 4,.tmp 5] Tryd.func66 (fun F hE=>?_) h
 unfold Hl
 refine T0 [0,1] ?_
 refine Sq <|Bd fun e c =>Te [0,1,10] (o1 9 (EP c)) Ev ?_
 refine Cd ?_ ?_
 ·refine T0 [4,5] ?_
  exact Sr <|Tr <|Rr
 ·refine Sk <|Tn <|Bd fun f d =>Te [4,5] (o1 14 (GM d)) Ev ?_
  exact Sr <|Rr
theorem I1{a b r}(h:Hu a b=some r):Con (B rs) 68 [i64 a,i64 b] [] (fun r' σ'=>r'=.tup [i64 r.1,i64 r.2]∧σ'=[]):=by
 refine Cw 17 [.tmp 4,.tmp 5] Tryd.func68 (fun F hE=>?_) h
 unfold Hu
 refine T0 [0,1] ?_
 refine Sq <|Bd fun e c =>Te [0,1,10] (o1 9 (EP c)) Ev ?_
 refine Cd ?_ ?_
 ·refine T0 [4,5] ?_
  exact Sr <|Tr <|Rr
 ·refine Sk <|Tn <|Bd fun f d =>Te [4,5] (o1 14 (GM d)) Ev ?_
  exact Sr <|Rr
theorem IX{a r}(h:Gt a=some r):Con (B rs) 81 [i64 a] [] (fun r' σ'=>r'=u64 r∧σ'=[]):=by
 refine Cw 10 [.tmp 2] Tryd.func81 (fun F hE=>?_) h
 unfold Gt
 refine T0 [0] ?_
 refine Sq <|T0 [0,4] ?_
 refine Cd ?_ ?_
 ·refine T0 [2] ?_
  exact Sr <|Tr <|Rr
 ·refine Sk <|Tn <|T0 [2] ?_
  exact Sr <|Rr
variable {rs:RS}
theorem LO{a b r}(h:Gg a b=some r):Con (B rs) 80 [u64 a,u64 b] [] (fun r' σ'=>r'=.tup [u64 r.1,u64 r.2]∧σ'=[]):=by
 refine Cw 51 [.tmp 4,.tmp 5] Tryd.func80 (fun F hE=>?_) h
 unfold Gg
 refine T0 [0,1] ?_
 refine Lt fun x0_2743 c =>Te (fr':=[(0,_),(1,_),(6,u64 x0_2743)]) [0,1,6] Ab (Ev (by simp only[go_sem,c];exact Ak)) ?_
 refine Lt fun x1_2745 d =>Te (fr':=[(0,_),(1,_),(6,_),(7,u64 x1_2745)]) [0,1,6,7] Ab (Ev (by simp only[go_sem,d];exact Ak)) ?_
 refine Lt fun y0_2747 e =>Te (fr':=[(0,_),(1,_),(6,_),(7,_),(8,u64 y0_2747)]) [0,1,6,7,8] Ab (Ev (by simp only[go_sem,e];exact Ak)) ?_
 refine Lt fun y1_2749 f =>Te (fr':=[(0,_),(1,_),(6,_),(7,_),(8,_),(9,u64 y1_2749)]) [0,1,6,7,8,9] Ab (Ev (by simp only[go_sem,f];exact Ak)) ?_
 refine T0 [0,1,6,7,8,9,10] ?_
 refine Lt fun g i =>Te (fr':=[(0,_),(1,_),(6,_),(7,_),(9,_),(11,u64 g)]) [0,1,6,7,9,11] Ab (Ev (by simp only[go_sem,i];exact Ak)) ?_
 refine Lt fun w1_2753 j =>Te (fr':=[(0,_),(1,_),(6,_),(7,_),(9,_),(11,_),(12,u64 w1_2753)]) [0,1,6,7,9,11,12] Ab (Ev (by simp only[go_sem,j];exact Ak)) ?_
 refine Lt fun w2_2755 k =>Te (fr':=[(0,_),(1,_),(6,_),(7,_),(9,_),(12,_),(13,u64 w2_2755)]) [0,1,6,7,9,12,13] Ab (Ev (by simp only[go_sem,k];exact Ak)) ?_
 refine Lt fun w1_2757 l =>Te (fr':=[(0,_),(1,_),(7,_),(9,_),(12,u64 w1_2757),(13,_)]) [0,1,7,9,12,13] Ab (Ev (by simp only[go_sem,l];exact Ak)) ?_
 refine Lt fun m n =>Te (fr':=[(0,_),(1,_),(4,u64 m)]) [0,1,4] Ab (Ev (by simp only[go_sem,n];exact Ak)) ?_
 refine T0 [4,5] ?_
 exact Sr <|Rr
theorem IP{a b r}(h:Hp a b=some r):Con (B rs) 69 [i64 a,i64 b] [] (fun r' σ'=>r'=.tup [i64 r.1,i64 r.2]∧σ'=[]):=by
 refine Cw 30 [.tmp 4,.tmp 5] Tryd.func69 (fun F hE=>?_) h
 unfold Hp
 refine T0 [0,1] ?_
 refine Sq <|Bd fun m e =>Te [0,1,12] (o1 11 (EP e)) Ev ?_
 refine Cd ?_ ?_
 ·refine T0 [4,5] ?_
  exact Sr <|Tr <|Rr
 ·refine Sk <|Tn <|Sq <|Bd fun f g =>Bd fun i j =>Bd fun n k =>Te [0,1,6,7] (NC (l:=[(15,_,_,u64 f),(17,_,_,u64 i),(18,_,_,_)]) ⟨IX  g,IX  j,LO  k,trivial⟩) Ev ?_
  refine Tw [0,1,26] (fun d=>⟨Am 30 [(0,i64 a),(1,i64 b),(26,.bool d)],[]⟩) ?_ ?_
  ·intro _
   refine Sp (fun c=>?_) fun c=>?_
   ·exact Lf Ab (Ev (by simp only[go_sem,c];exact Ak)) (ws [])
   ·exact Lf Ab (Ev (by simp only[go_sem,c];exact Ak)) (ws [])
  intro d
  refine Cd ?_ ?_
  ·refine T0 [4,5] ?_
   exact Sr <|Tr <|Rr
  ·refine Sk <|Tn <|T0 [4,5] ?_
   exact Sr <|Rr
theorem I0{c a d r}(h:Ha c a d=some r):Con (B rs) 82 [i64 c,i64 a,i64 d] [] (fun r' σ'=>r'=.tup [i64 r.1,i64 r.2]∧σ'=[]):=by
 refine Cw 53 [.tmp 6,.tmp 7] Tryd.func82 (fun F hE=>?_) h
 unfold Ha
 refine T0 [0,1,2] ?_
 refine Sq ?_
 refine Tw [0,1,2,17] (fun f=>⟨Am 53 [(0,i64 c),(1,i64 a),(2,i64 d),(17,.bool f)],[]⟩) ?_ ?_
 ·intro _
  refine Sp (fun b=>?_) fun b=>?_
  ·refine Sp (fun e=>?_) fun e=>?_
   ·exact Lf Ab (Ev (by simp only[go_sem,b,e];exact Ak)) (ws [])
   ·exact Lf Ab (Ev (by simp only[go_sem,b,e];exact Ak)) (ws [])
  ·exact Lf Ab (Ev (by simp only[go_sem,b];exact Ak)) (ws [])
 intro f
 refine Cd ?_ ?_
 ·refine T0 [6,7] ?_
  exact Sr <|Tr <|Rr
 ·refine Sk <|Tn <|Sq <|Bd fun s j =>Te [0,1,2,22] (o1 21 (EP j)) Ev ?_
  refine Cd ?_ ?_
  ·refine T0 [6,7] ?_
   exact Sr <|Tr <|Rr
  ·refine Sk <|Tn <|Sq <|T0 [0,1,2,24] ?_
   refine Cd ?_ ?_
   ·refine T0 [6,7] ?_
    exact Sr <|Tr <|Rr
   ·refine Sk <|Tn <|?_
    refine Ja (fun(v:Int×Int)=>(⟨Am 53 [(0,i64 v.1),(1,i64 v.2)],[]⟩:St)) ?_ ?_
    ·intro t
     refine T0 [0,1,25] ?_
     refine Sb <|Sq <|Sb <|?_
     refine Jo (fun(v:Int×Int)=>(⟨Am 53 [(0,i64 v.1),(1,i64 v.2)],[]⟩:St)) ?_ ?_
     ·intro u k
      refine Sb <|Sq <|Sb <|Sq <|Sq <|T0 [0,1,25,26] ?_
      refine Cd ?_ ?_
      ·refine Sx <|Tx <|Tx <|Bx <|Tn <|Lt fun l m =>Fe (fr':=[(0,i64 l),(1,_)]) [0,1] Ab (Ev (by simp only[go_sem,m];exact Ak)) ?_
       exact Bn <|Jn (ws [])
      ·refine Sk <|Tn <|T0 [0,1,28] ?_
       refine Cd ?_ ?_
       ·exact Sx <|Tx <|Bo <|Tx <|Bx <|Jn (ws [])
       ·refine Sk <|Tn <|Sx <|Bo <|Tx <|Bo <|Jx k <|Bx <|Tn <|?_
        refine Ja (fun g=>⟨Am 53 [(0,i64 g),(1,i64 a)],[]⟩) ?_ ?_
        ·intro w
         refine Ck fun n =>Te [0,1,46] Ab (Ev (by simp only[go_sem,n];exact Ak)) ?_
         refine Cd ?_ ?_
         ·refine F0 [0,1] ?_
          exact Jm (ws [])
         ·exact Sk <|Jm (ws [])
        intro g
        exact Sx <|Bx <|Jm (ws [])
     rintro⟨x,o⟩
     refine Ja (fun i=>⟨Am 53 [(0,i64 i),(1,i64 o)],[]⟩) ?_ ?_
     ·intro y
      refine Ck fun p =>Te [0,1,39] Ab (Ev (by simp only[go_sem,p];exact Ak)) ?_
      refine Cd ?_ ?_
      ·refine F0 [0,1] ?_
       exact Jm (ws [])
      ·exact Sk <|Jm (ws [])
     intro i
     exact Sx <|Bo <|Tx <|Bx <|Jm (ws [])
    rintro⟨z,aa⟩
    refine Ck fun q =>Te [6,7] Ab (Ev (by simp only[go_sem,q];exact Ak)) ?_
    exact Sr <|Rr
theorem BT{b:Int}{a:Int}{r:Int⊕Int}(h:DK b a=some r):PCon (B rs) 65 [i64 b,i64 a] [] (LG r):=by
 refine Au (N:=11) (rs:=[.tmp 4]) 0 rfl ok Tryd.func65 rfl (by decide +kernel) rfl rfl (Nat.le_of_ble_eq_true rfl) (fun F=>?_)
 have hE:=(ok (rs:=rs)).env F
 unfold DK at h
 show Run ((B rs).env F) 0 _ ⟨Am 11 [(0,i64 b),(1,i64 a)],[]⟩ _
 refine AX ?_
 revert h
 refine T0 [0,1] ?_
 refine Sq <|T0 [0,1,6] ?_
 refine Cd ?_ ?_
 ·intro h
  refine B5 hE [] 3 _ (v:=.iface 98 (.agg #[.int .i64 a])) (σ2:=[]) (vals:=[]) rfl rfl ⟨_,[],Ab,trivial,?_⟩ (fun fr_ hlen_ hfr_=>?_)
  ·simp only[go_sem]
  refine B9 ?_
  obtain rfl:=Option.some.inj h
  refine Aj (Weak.refl _ _) ?_
  refine An rfl [] (by decide) rfl ?_
  simp only[go_sem]
 ·refine Sk <|Tn <|T0 [4] ?_
  refine Sr ?_
  intro h
  obtain rfl:=Option.some.inj h
  refine Aj (Weak.refl _ _) ?_
  refine AB rfl (Bm (.inr rfl) ?_ rfl ?_)
  ·simp only[go_sem]
  ·show D3 [] _ [] _;simp only[go_sem]
theorem BF{b:Api_Env}{b_ m_:Nat}(hev:rs.ev=some (b_,m_,b.Has,b.V)){a:Int}{r:Int⊕Int}(h:AO b a=some r):PCon (B rs) 22 [.glob (b_+3),i64 a] [] (Gk r):=by
 refine Au (N:=41) (rs:=[.tmp 4]) 0 rfl ok Tryd.func22 rfl (by decide +kernel) rfl rfl (Nat.le_of_ble_eq_true rfl) (fun F=>?_)
 have hE:=(ok (rs:=rs)).env F
 unfold AO at h
 show Run ((B rs).env F) 0 _ ⟨Am 41 [(0,.glob (b_+3)),(1,i64 a)],[]⟩ _
 refine AX ?_
 revert h
 refine Te [0,1] Ab (Ev (by simp only[go_sem,BX hev];exact Ak)) ?_
 refine Sq ?_
 refine Tw [0,1,11] (fun e=>⟨Am 41 [(0,.glob (b_+3)),(1,i64 a),(11,.bool e)],[]⟩) ?_ ?_
 ·intro _
  refine Sp (fun c=>?_) fun c=>?_
  ·exact Lf Ab (Ev (by simp only[go_sem,c];exact Ak)) (ws [])
  ·exact Lf Ab (Ev (by simp only[go_sem,c];exact Ak)) (ws [])
 intro e
 refine Cd ?_ ?_
 ·intro h
  refine B5 hE [] 2 _ (v:=.iface 98 (.agg #[.int .i64 1])) (σ2:=[]) (vals:=[]) rfl rfl ⟨_,[],Ab,trivial,?_⟩ (fun fr_ hlen_ hfr_=>?_)
  ·simp only[go_sem,BX hev]
  refine B9 ?_
  obtain rfl:=Option.some.inj h
  refine Aj (Weak.refl _ _) ?_
  refine An rfl [] (by decide) rfl ?_
  simp only[go_sem]
 ·refine Sk <|Tn <|Sq <|Ck fun i =>De [[],[0],[0,1],[0,1,2],[0,1,2,3],[],[5],[0,1,2,3,4,5,6],[0,1,2,3,4,5,6,7]] [0,1,22] Ab (Ev (by simp only[go_sem,BX hev,i];exact Ak)) ?_
  refine Cd ?_ ?_
  ·intro h
   refine B5 hE [] 2 _ (v:=.iface 98 (.agg #[.int .i64 181])) (σ2:=[]) (vals:=[]) rfl rfl ⟨_,[],Ab,trivial,?_⟩ (fun fr_ hlen_ hfr_=>?_)
   ·simp only[go_sem,BX hev]
   refine B9 ?_
   obtain rfl:=Option.some.inj h
   refine Aj (Weak.refl _ _) ?_
   refine An rfl [] (by decide) rfl ?_
   simp only[go_sem]
  ·refine Sk <|Tn <|Ck fun j =>Lt fun f k =>Te (fr':=[(5,i64 f)]) [5] Ab (Ev (by simp only[go_sem,BX hev,qR j,k];exact Ak)) ?_
   refine Sq ?_
   refine Tw [5,37] (fun g=>⟨Am 41 [(5,i64 f),(37,.bool g)],[]⟩) ?_ ?_
   ·intro _
    refine Sp (fun d=>?_) fun d=>?_
    ·exact Lf Ab (Ev (by simp only[go_sem,d];exact Ak)) (ws [])
    ·exact Lf Ab (Ev (by simp only[go_sem,d];exact Ak)) (ws [])
   intro g
   refine Cd ?_ ?_
   ·intro h
    refine B5 hE [] 2 _ (v:=.iface 98 (.agg #[.int .i64 3])) (σ2:=[]) (vals:=[]) rfl rfl ⟨_,[],Ab,trivial,?_⟩ (fun fr_ hlen_ hfr_=>?_)
    ·simp only[go_sem,BX hev]
    refine B9 ?_
    obtain rfl:=Option.some.inj h
    refine Aj (Weak.refl _ _) ?_
    refine An rfl [] (by decide) rfl ?_
    simp only[go_sem]
   ·refine Sk <|Tn <|Te [4] Ab (Ev (by simp only[go_sem,BX hev];exact Ak)) ?_
    refine Sr ?_
    intro h
    obtain rfl:=Option.some.inj h
    refine Aj (Weak.refl _ _) ?_
    refine AB rfl (Bm (.inr rfl) ?_ rfl ?_)
    ·simp only[go_sem]
    ·show D3 [] _ [] _;simp only[go_sem]
theorem Al{b:Api_Env}{b_ m_:Nat}(hev:rs.ev=some (b_,m_,b.Has,b.V)){e:Api_Env→Api_Expr→Option (Int⊕Int)}(h48:∀{q1_:Api_Expr} {r:Int⊕Int},e b q1_=some r→PCon (B rs) 48 [.glob (b_+3),.agg (i64 q1_.Op::i64 q1_.N::(C1 i64 q1_.Unit.l++[.sl false (L cApi_Expr q1_.L)]))] [] (Ap r)){a:List Api_Expr}{r:(Int×Int)⊕Int}(h:A6 e b a=some r):PCon (B rs) 67 [.glob (b_+3),.sl false (L cApi_Expr a)] [] (Ga r):=by
 refine Au (N:=17) (rs:=[.tmp 4,.tmp 5]) 0 rfl ok Tryd.func67 rfl (by decide +kernel) rfl rfl (Nat.le_of_ble_eq_true rfl) (fun F=>?_)
 have hE:=(ok (rs:=rs)).env F
 unfold A6 at h
 show Run ((B rs).env F) 0 _ ⟨Am 17 [(0,.glob (b_+3)),(1,.sl false (L cApi_Expr a))],[]⟩ _
 refine AX ?_
 revert h
 refine Te [0,1] Ab (Ev (by simp only[go_sem,BX hev];exact Ak)) ?_
 intro h
 replace h:=Ep h;obtain⟨c,h⟩:=h
 replace h:=Ae h;obtain⟨n,f,h⟩:=h
 rcases n with g|i
 rotate_left
 ·dsimp only at h
  refine Az hE [] 4 _ (v:=.iface 98 (.agg #[.int .i64 i])) (σ2:=[]) (vals:=[]) rfl rfl ⟨_,[(10,48,[.glob (b_+3),.agg (i64 ((nth a 0).Op)::i64 ((nth a 0).N)::(C1 i64 ((nth a 0).Unit).l++[.sl false (L cApi_Expr ((nth a 0).L))]))],[],.val (.iface 98 (.agg #[.int .i64 i])),[])],Ab,⟨fun v hv=>by cases hv;exact Ai (PCon.pan (h48 f) rfl) [] (by decide) gs gs gs gs,trivial⟩,?_⟩ (fun fr_ hlen_ hfr_=>?_)
  ·simp only[go_sem,BX hev,c,(show 0<a.length from c.2)]
  obtain rfl:=Option.some.inj h
  refine Aj (Weak.refl _ _) ?_
  refine An rfl [] (by decide) rfl ?_
  simp only[go_sem]
 dsimp only at h
 refine Ao hE [0,1,4] (fr':=[(0,.glob (b_+3)),(1,.sl false (L cApi_Expr a)),(4,i64 g)]) (σ':=[]) ⟨_,(Ag (l:=[]) (m:=[(10,48,[.glob (b_+3),.agg (i64 ((nth a 0).Op)::i64 ((nth a 0).N)::(C1 i64 ((nth a 0).Unit).l++[.sl false (L cApi_Expr ((nth a 0).L))]))],[],_,_)]) trivial ⟨(wc (PCon.to (h48 f) rfl) []),trivial⟩),?_⟩ ?_
 ·simp only[go_sem,BX hev,c,(show 0<a.length from c.2)]
 revert h
 intro h
 replace h:=Ep h;obtain⟨d,h⟩:=h
 replace h:=Ae h;obtain⟨o,j,h⟩:=h
 rcases o with p|k
 rotate_left
 ·dsimp only at h
  refine Az hE [] 5 _ (v:=.iface 98 (.agg #[.int .i64 k])) (σ2:=[]) (vals:=[]) rfl rfl ⟨_,[(16,48,[.glob (b_+3),.agg (i64 ((nth a 1).Op)::i64 ((nth a 1).N)::(C1 i64 ((nth a 1).Unit).l++[.sl false (L cApi_Expr ((nth a 1).L))]))],[],.val (.iface 98 (.agg #[.int .i64 k])),[])],Ab,⟨fun v hv=>by cases hv;exact Ai (PCon.pan (h48 j) rfl) [] (by decide) gs gs gs gs,trivial⟩,?_⟩ (fun fr_ hlen_ hfr_=>?_)
  ·simp only[go_sem,BX hev,d,(show 1<a.length from d.2)]
  obtain rfl:=Option.some.inj h
  refine Aj (Weak.refl _ _) ?_
  refine An rfl [] (by decide) rfl ?_
  simp only[go_sem]
 dsimp only at h
 refine Ao hE [4,5] (fr':=[(4,i64 g),(5,i64 p)]) (σ':=[]) ⟨_,(Ag (l:=[]) (m:=[(16,48,[.glob (b_+3),.agg (i64 ((nth a 1).Op)::i64 ((nth a 1).N)::(C1 i64 ((nth a 1).Unit).l++[.sl false (L cApi_Expr ((nth a 1).L))]))],[],_,_)]) trivial ⟨(wc (PCon.to (h48 j) rfl) []),trivial⟩),?_⟩ ?_
 ·simp only[go_sem,BX hev,d,(show 1<a.length from d.2)]
 revert h
 refine Sr ?_
 intro h
 obtain rfl:=Option.some.inj h
 refine Aj (Weak.refl _ _) ?_
 refine AB rfl (Bm (.inr rfl) ?_ rfl ?_)
 ·simp only[go_sem]
 ·show D3 [] _ [] _;simp only[go_sem]
end Go.Proofs.YtldngkmkhfddpaaDoor
