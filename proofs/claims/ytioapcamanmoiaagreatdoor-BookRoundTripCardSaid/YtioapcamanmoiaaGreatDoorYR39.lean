/-
  Part 39.
-/
import Derived.Test.YtioapcamanmoiaaGreatDoorYR38
namespace Go.Rv
set_option linter.unusedVariables false
set_option linter.unusedSimpArgs false
variable{t:TypeId}{ts:List TypeId}{l:List Bool}{i o:Nat}{f:FuncId}
variable {E:Env}{σ:Ab}
theorem AfG(a b c:Int):AZ E σ .min (t::ts) [i64 a,i64 b,i64 c]=some (i64 (Xr (Xr a b) c),σ):=rfl
theorem Afj(a b c:Int):AZ E σ .max (t::ts) [i64 a,i64 b,i64 c]=some (i64 (Hn (Hn a b) c),σ):=rfl
theorem Af2(a b c d:Int):AZ E σ .min (t::ts) [i64 a,i64 b,i64 c,i64 d]=some (i64 (Xr (Xr (Xr a b) c) d),σ):=rfl
theorem Aec(a b c d:Int):AZ E σ .max (t::ts) [i64 a,i64 b,i64 c,i64 d]=some (i64 (Hn (Hn (Hn a b) c) d),σ):=rfl
attribute [go_sem] AfG Afj Af2 Aec
theorem Akq:(C1 AV.bool l).all AV.flat=true:=O4 fun _=>rfl
theorem AhR:fzCells σ (C1 AV.bool l)=some (C1 AV.bool l):=F7 fun _=>rfl
theorem AiV{sel:List Nat}:wkL sel (C1 AV.bool l) (C1 AV.bool l)=True:=Vx fun _=>Arq W7
attribute [go_sem] Akq AhR AiV
theorem ZY{j n m:Nat}(h1:i<n)(h2:j<m):i*m+j<n*m:=by
 have h3:(i+1)*m≤n*m:=AoX m h1;rw[Apd,Apw]at h3;omega
def Iu:Nat→List Value→Bool
 |0,[]=>true
 |n+1,.bool false::l=>Iu n l
 |_,_=>false
theorem LB:∀(n:Nat) (l:List Value),Iu n l=true→l=List.replicate n (.bool false)
 |0,[],_=>rfl
 |n+1,.bool false::l,h=>by rw[List.replicate_succ,LB n l h]
 |0,_::_,h=>by simp[Iu]at h
 |n+1,[],h=>by simp[Iu]at h
theorem PU{P:Program}{t N:Nat}{d:TypeDesc}(hu:P.underlying t=some d) (hi:(match P.info? t with|some i=>(match i.zero with|some z=>(i.size==N&&i.bytes==N)&&Iu N z.cells.toList|none=>false)|none=>false)=true):Bh P t=some ⟨d,N,N,C1 AV.bool (Arr.rep N false).l⟩:=by
  unfold Bh;rw[hu];cases hh:P.info? t with
  |none=>rw[hh]at hi;cases hi
  | some i=>
    rw[hh]at hi;cases hz:i.zero with
    |none=>simp only[hz]at hi;cases hi
    | some z=>
      simp only[hz,Apb,ApQ]at hi;obtain⟨⟨h1,h2⟩,h3⟩:=hi;have h4:=LB N _ h3;have h5:z.cells.size=N:=by rw[←ApM,h4,Arg]
      have h6:z.cells.all one=true:=by
        rw[←Array.all_toList,h4,List.all_replicate];split
        · rfl
        · rfl
      have h7:z.cells.toList.map NN=C1 AV.bool (Arr.rep N false).l:=by rw[h4,List.map_replicate,Js];rfl
      simp only[hz];rw[AoO ⟨h5.trans h1.symm,h6⟩,h7,h1,h2]
section
variable {sel:List Nat}{N:Nat}{y:AV}
theorem Ab0(x:UInt64):wk2.match_1 (fun _ _=>Prop) (u64 x) y (fun xs ys=>wkA sel xs ys) (fun x y=>wk1 sel x y)=wk1 sel (u64 x) y:=by cases y<;>rfl
theorem Ab2(x:Int):wk2.match_1 (fun _ _=>Prop) (i64 x) y (fun xs ys=>wkA sel xs ys) (fun x y=>wk1 sel x y)=wk1 sel (i64 x) y:=by cases y<;>rfl
theorem AbG:LR sel N (.fn f [.ref i o])=.fn f [.ref (F8 sel N i) o]:=rfl
theorem AcJ:X2 sel N (.fn f [.ref i o])=.fn f [.ref (F8 sel N i) o]:=rfl
theorem Ace:Tk sel N (.fn f [.ref i o])=.fn f [.ref (F8 sel N i) o]:=rfl
end
attribute [go_sem] AbG AcJ Ace
attribute [go_sem] Ab0 Ab2
end Go.Rv
