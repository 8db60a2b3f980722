/-
  Part 37.
-/
import Derived.Test.YtldngkmkhfddpaaGreatDoorYV36
namespace Go.Rv
set_option linter.unusedVariables false
set_option linter.unusedSimpArgs false
variable{t:TypeId}{ts:List TypeId}{l:List Bool}{f:FuncId}{i o:Nat}
variable {E:Env}{O:Ad}
theorem AgI(a b c:Int):Ba E O .min (t::ts) [i64 a,i64 b,i64 c]=some (i64 (Qm (Qm a b) c),O):=rfl
theorem Ags(a b c:Int):Ba E O .max (t::ts) [i64 a,i64 b,i64 c]=some (i64 (Qe (Qe a b) c),O):=rfl
theorem AfR(a b c d:Int):Ba E O .min (t::ts) [i64 a,i64 b,i64 c,i64 d]=some (i64 (Qm (Qm (Qm a b) c) d),O):=rfl
theorem Agt(a b c d:Int):Ba E O .max (t::ts) [i64 a,i64 b,i64 c,i64 d]=some (i64 (Qe (Qe (Qe a b) c) d),O):=rfl
attribute [go_sem] AgI Ags AfR Agt
theorem Aks:(C1 AV.bool l).all AV.flat=true:=Pv fun _=>rfl
theorem Ako:fzCells O (C1 AV.bool l)=some (C1 AV.bool l):=H1 fun _=>rfl
theorem Alh{sel:List Nat}:wkL sel (C1 AV.bool l) (C1 AV.bool l)=True:=Aa2 fun _=>ArN Xk
attribute [go_sem] Aks Ako Alh
def Ki:Nat->List Value->Bool
 |0,[]=>true
 |n+1,.bool false::l=>Ki n l
 |_,_=>false
theorem NF:∀(n:Nat) (l:List Value),Ki n l=true->l=List.replicate n (.bool false)
 |0,[],_=>rfl
 |n+1,.bool false::l,h=>by rw[List.replicate_succ,NF n l h]
 |0,_::_,h=>by simp[Ki]at h
 |n+1,[],h=>by simp[Ki]at h
theorem YL{P:Program}{t N:Nat}{d:TypeDesc}(hu:P.underlying t=some d) (hi:(match P.info? t with|some i=>(match i.zero with|some z=>(i.size==N&&i.bytes==N)&&Ki N z.cells.toList|none=>false)|none=>false)=true):Ob P t=some ⟨d,N,N,C1 AV.bool (Arr.rep N false).l⟩:=by
 unfold Ob;rw[hu];cases hh:P.info? t with
 |none=>rw[hh]at hi;cases hi
 | some i=>
  rw[hh]at hi;cases hz:i.zero with
  |none=>simp only[hz]at hi;cases hi
  | some z=>
   simp only[hz,Ape,Ap9]at hi;obtain⟨⟨h1,h2⟩,h3⟩:=hi;have h4:=NF N _ h3;have h5:z.cells.size=N:=by rw[<-Ap5,h4,Arn]
   have h6:z.cells.all one=true:=by
    rw[<-Array.all_toList,h4,List.all_replicate];split
    ·rfl
    rfl
   have h7:z.cells.toList.map Ny=C1 AV.bool (Arr.rep N false).l:=by rw[h4,List.map_replicate,Iy];rfl
   simp only[hz];rw[Ao4 ⟨h5.trans h1.symm,h6⟩,h7,h1,h2]
section
variable {sel:List Nat}{N:Nat}{y:AV}
theorem Ade(x:Int):wk2.match_1 (fun _ _=>Prop) (i64 x) y (fun xs ys=>wkA sel xs ys) (fun x y=>wk1 sel x y)=wk1 sel (i64 x) y:=by cases y<;>rfl
theorem AdE:MN sel N (.fn f [.ref i o])=.fn f [.ref (Gy sel N i) o]:=rfl
theorem AdX:Wy sel N (.fn f [.ref i o])=.fn f [.ref (Gy sel N i) o]:=rfl
theorem Adx:Tm sel N (.fn f [.ref i o])=.fn f [.ref (Gy sel N i) o]:=rfl
end
attribute [go_sem] AdE AdX Adx
attribute [go_sem] Ade
end Go.Rv
