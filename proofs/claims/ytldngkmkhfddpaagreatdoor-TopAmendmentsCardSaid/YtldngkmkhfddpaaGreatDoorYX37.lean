/-
  Part 37.
-/
import Derived.Test.YtldngkmkhfddpaaGreatDoorYX36
namespace Go.Rv
set_option linter.unusedVariables false
set_option linter.unusedSimpArgs false
variable{t:TypeId}{ts:List TypeId}{l:List Bool}{f:FuncId}{i o:Nat}
variable {E:Env}{O:Ac}
theorem AfZ(a b c:Int):AU E O .min (t::ts) [i64 a,i64 b,i64 c]=some (i64 (Qc (Qc a b) c),O):=rfl
theorem Agr(a b c:Int):AU E O .max (t::ts) [i64 a,i64 b,i64 c]=some (i64 (Qk (Qk a b) c),O):=rfl
theorem Ag9(a b c d:Int):AU E O .min (t::ts) [i64 a,i64 b,i64 c,i64 d]=some (i64 (Qc (Qc (Qc a b) c) d),O):=rfl
theorem AgF(a b c d:Int):AU E O .max (t::ts) [i64 a,i64 b,i64 c,i64 d]=some (i64 (Qk (Qk (Qk a b) c) d),O):=rfl
attribute [go_sem] AfZ Agr Ag9 AgF
theorem Akp:(C1 AV.bool l).all AV.flat=true:=PR fun _=>rfl
theorem Akw:fzCells O (C1 AV.bool l)=some (C1 AV.bool l):=H4 fun _=>rfl
theorem Akg{sel:List Nat}:wkL sel (C1 AV.bool l) (C1 AV.bool l)=True:=ZT fun _=>ArU Xx
attribute [go_sem] Akp Akw Akg
def JK:Nat->List Value->Bool
 |0,[]=>true
 |n+1,.bool false::l=>JK n l
 |_,_=>false
theorem Nu:∀(n:Nat) (l:List Value),JK n l=true->l=List.replicate n (.bool false)
 |0,[],_=>rfl
 |n+1,.bool false::l,h=>by rw[List.replicate_succ,Nu n l h]
 |0,_::_,h=>by simp[JK]at h
 |n+1,[],h=>by simp[JK]at h
theorem Yw{P:Program}{t N:Nat}{d:TypeDesc}(hu:P.underlying t=some d) (hi:(match P.info? t with|some i=>(match i.zero with|some z=>(i.size==N&&i.bytes==N)&&JK N z.cells.toList|none=>false)|none=>false)=true):NV P t=some ⟨d,N,N,C1 AV.bool (Arr.rep N false).l⟩:=by
 unfold NV;rw[hu];cases hh:P.info? t with
 |none=>rw[hh]at hi;cases hi
 | some i=>
  rw[hh]at hi;cases hz:i.zero with
  |none=>simp only[hz]at hi;cases hi
  | some z=>
   simp only[hz,Apj,Aqg]at hi;obtain⟨⟨h1,h2⟩,h3⟩:=hi;have h4:=Nu N _ h3;have h5:z.cells.size=N:=by rw[<-Aqb,h4,Arv]
   have h6:z.cells.all one=true:=by
    rw[<-Array.all_toList,h4,List.all_replicate];split
    ·rfl
    rfl
   have h7:z.cells.toList.map Ny=C1 AV.bool (Arr.rep N false).l:=by rw[h4,List.map_replicate,Im];rfl
   simp only[hz];rw[Apb ⟨h5.trans h1.symm,h6⟩,h7,h1,h2]
section
variable {sel:List Nat}{N:Nat}{y:AV}
theorem Aeq(x:Int):wk2.match_1 (fun _ _=>Prop) (i64 x) y (fun xs ys=>wkA sel xs ys) (fun x y=>wk1 sel x y)=wk1 sel (i64 x) y:=by cases y<;>rfl
theorem AdL:MG sel N (.fn f [.ref i o])=.fn f [.ref (Gv sel N i) o]:=rfl
theorem AeT:Wq sel N (.fn f [.ref i o])=.fn f [.ref (Gv sel N i) o]:=rfl
theorem AcX:SI sel N (.fn f [.ref i o])=.fn f [.ref (Gv sel N i) o]:=rfl
end
attribute [go_sem] AdL AeT AcX
attribute [go_sem] Aeq
end Go.Rv
