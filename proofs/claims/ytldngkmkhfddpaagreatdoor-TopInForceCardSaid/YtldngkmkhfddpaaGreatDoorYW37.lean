/-
  Part 37.
-/
import Derived.Test.YtldngkmkhfddpaaGreatDoorYW36
namespace Go.Rv
set_option linter.unusedVariables false
set_option linter.unusedSimpArgs false
variable{t:TypeId}{ts:List TypeId}{l:List Bool}{f:FuncId}{i o:Nat}
variable {E:Env}{O:Ac}
theorem AhY(a b c:Int):Bg E O .min (t::ts) [i64 a,i64 b,i64 c]=some (i64 (Q9 (Q9 a b) c),O):=rfl
theorem AiR(a b c:Int):Bg E O .max (t::ts) [i64 a,i64 b,i64 c]=some (i64 (QC (QC a b) c),O):=rfl
theorem Aib(a b c d:Int):Bg E O .min (t::ts) [i64 a,i64 b,i64 c,i64 d]=some (i64 (Q9 (Q9 (Q9 a b) c) d),O):=rfl
theorem AiG(a b c d:Int):Bg E O .max (t::ts) [i64 a,i64 b,i64 c,i64 d]=some (i64 (QC (QC (QC a b) c) d),O):=rfl
attribute [go_sem] AhY AiR Aib AiG
theorem Aj5:(C1 AV.bool l).all AV.flat=true:=Qt fun _=>rfl
theorem Ala:fzCells O (C1 AV.bool l)=some (C1 AV.bool l):=HC fun _=>rfl
theorem AjZ{sel:List Nat}:wkL sel (C1 AV.bool l) (C1 AV.bool l)=True:=Adw fun _=>Atq Yo
attribute [go_sem] Aj5 Ala AjZ
def Ko:Nat->List Value->Bool
 |0,[]=>true
 |n+1,.bool false::l=>Ko n l
 |_,_=>false
theorem Of:∀(n:Nat) (l:List Value),Ko n l=true->l=List.replicate n (.bool false)
 |0,[],_=>rfl
 |n+1,.bool false::l,h=>by rw[List.replicate_succ,Of n l h]
 |0,_::_,h=>by simp[Ko]at h
 |n+1,[],h=>by simp[Ko]at h
theorem Aao{P:Program}{t N:Nat}{d:TypeDesc}(hu:P.underlying t=some d) (hi:(match P.info? t with|some i=>(match i.zero with|some z=>(i.size==N&&i.bytes==N)&&Ko N z.cells.toList|none=>false)|none=>false)=true):Ku P t=some ⟨d,N,N,C1 AV.bool (Arr.rep N false).l⟩:=by
 unfold Ku;rw[hu];cases hh:P.info? t with
 |none=>rw[hh]at hi;cases hi
 | some i=>
  rw[hh]at hi;cases hz:i.zero with
  |none=>simp only[hz]at hi;cases hi
  | some z=>
   simp only[hz,AqZ,ArO]at hi;obtain⟨⟨h1,h2⟩,h3⟩:=hi;have h4:=Of N _ h3;have h5:z.cells.size=N:=by rw[<-ArN,h4,As5]
   have h6:z.cells.all one=true:=by
    rw[<-Array.all_toList,h4,List.all_replicate];split
    ·rfl
    rfl
   have h7:z.cells.toList.map NS=C1 AV.bool (Arr.rep N false).l:=by rw[h4,List.map_replicate,Iy];rfl
   simp only[hz];rw[AqJ ⟨h5.trans h1.symm,h6⟩,h7,h1,h2]
section
variable {sel:List Nat}{N:Nat}{y:AV}
theorem Afu(x:Int):wk2.match_1 (fun _ _=>Prop) (i64 x) y (fun xs ys=>wkA sel xs ys) (fun x y=>wk1 sel x y)=wk1 sel (i64 x) y:=by cases y<;>rfl
theorem Afe:Nw sel N (.fn f [.ref i o])=.fn f [.ref (G6 sel N i) o]:=rfl
theorem AdY:Xn sel N (.fn f [.ref i o])=.fn f [.ref (G6 sel N i) o]:=rfl
theorem AeC:T5 sel N (.fn f [.ref i o])=.fn f [.ref (G6 sel N i) o]:=rfl
end
attribute [go_sem] Afe AdY AeC
attribute [go_sem] Afu
end Go.Rv
