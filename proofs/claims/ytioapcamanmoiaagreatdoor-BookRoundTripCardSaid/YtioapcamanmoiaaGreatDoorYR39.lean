/-
  Part 39.
-/
import Derived.Test.YtioapcamanmoiaaGreatDoorYR38
namespace Go.Rv
set_option linter.unusedVariables false
set_option linter.unusedSimpArgs false
variable{t:TypeId}{ts:List TypeId}{l:List Bool}{i o:Nat}{f:FuncId}
variable {E:Env}{σ:Am}
theorem AeJ(a b c:Int):AU E σ .min (t::ts) [i64 a,i64 b,i64 c]=some (i64 (WS (WS a b) c),σ):=rfl
theorem AfX(a b c:Int):AU E σ .max (t::ts) [i64 a,i64 b,i64 c]=some (i64 (Hi (Hi a b) c),σ):=rfl
theorem Af6(a b c d:Int):AU E σ .min (t::ts) [i64 a,i64 b,i64 c,i64 d]=some (i64 (WS (WS (WS a b) c) d),σ):=rfl
theorem Aec(a b c d:Int):AU E σ .max (t::ts) [i64 a,i64 b,i64 c,i64 d]=some (i64 (Hi (Hi (Hi a b) c) d),σ):=rfl
attribute [go_sem] AeJ AfX Af6 Aec
theorem Ajk:(C1 AV.bool l).all AV.flat=true:=Oi fun _=>rfl
theorem AjV:fzCells σ (C1 AV.bool l)=some (C1 AV.bool l):=F3 fun _=>rfl
theorem Ahn{sel:List Nat}:wkL sel (C1 AV.bool l) (C1 AV.bool l)=True:=W1 fun _=>Arq VE
attribute [go_sem] Ajk AjV Ahn
theorem YT{j n m:Nat}(h1:i<n)(h2:j<m):i*m+j<n*m:=by
 have h3:(i+1)*m≤n*m:=AoX m h1;rw[Apd,Apw]at h3;omega
def HW:Nat→List Value→Bool
 |0,[]=>true
 |n+1,.bool false::l=>HW n l
 |_,_=>false
theorem L8:∀(n:Nat) (l:List Value),HW n l=true→l=List.replicate n (.bool false)
 |0,[],_=>rfl
 |n+1,.bool false::l,h=>by rw[List.replicate_succ,L8 n l h]
 |0,_::_,h=>by simp[HW]at h
 |n+1,[],h=>by simp[HW]at h
theorem Qb{P:Program}{t N:Nat}{d:TypeDesc}(hu:P.underlying t=some d) (hi:(match P.info? t with|some i=>(match i.zero with|some z=>(i.size==N&&i.bytes==N)&&HW N z.cells.toList|none=>false)|none=>false)=true):Bc P t=some ⟨d,N,N,C1 AV.bool (Arr.rep N false).l⟩:=by
  unfold Bc;rw[hu];cases hh:P.info? t with
  |none=>rw[hh]at hi;cases hi
  | some i=>
    rw[hh]at hi;cases hz:i.zero with
    |none=>simp only[hz]at hi;cases hi
    | some z=>
      simp only[hz,Apb,ApQ]at hi;obtain⟨⟨h1,h2⟩,h3⟩:=hi;have h4:=L8 N _ h3;have h5:z.cells.size=N:=by rw[←ApM,h4,Arg]
      have h6:z.cells.all one=true:=by
        rw[←Array.all_toList,h4,List.all_replicate];split
        · rfl
        · rfl
      have h7:z.cells.toList.map Nq=C1 AV.bool (Arr.rep N false).l:=by rw[h4,List.map_replicate,Ji];rfl
      simp only[hz];rw[AoO ⟨h5.trans h1.symm,h6⟩,h7,h1,h2]
section
variable {sel:List Nat}{N:Nat}{y:AV}
theorem AcL(x:UInt64):wk2.match_1 (fun _ _=>Prop) (u64 x) y (fun xs ys=>wkA sel xs ys) (fun x y=>wk1 sel x y)=wk1 sel (u64 x) y:=by cases y<;>rfl
theorem AcN(x:Int):wk2.match_1 (fun _ _=>Prop) (i64 x) y (fun xs ys=>wkA sel xs ys) (fun x y=>wk1 sel x y)=wk1 sel (i64 x) y:=by cases y<;>rfl
theorem Acs:LM sel N (.fn f [.ref i o])=.fn f [.ref (F7 sel N i) o]:=rfl
theorem Abm:Xv sel N (.fn f [.ref i o])=.fn f [.ref (F7 sel N i) o]:=rfl
theorem AcR:Ti sel N (.fn f [.ref i o])=.fn f [.ref (F7 sel N i) o]:=rfl
end
attribute [go_sem] Acs Abm AcR
attribute [go_sem] AcL AcN
end Go.Rv
