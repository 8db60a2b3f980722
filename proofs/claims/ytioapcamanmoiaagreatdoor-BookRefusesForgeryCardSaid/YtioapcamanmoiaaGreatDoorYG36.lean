/-
  Part 36.
-/
import Derived.Test.YtioapcamanmoiaaGreatDoorYG35
namespace Go.Rv
set_option linter.unusedVariables false
set_option linter.unusedSimpArgs false
variable{t:TypeId}{ts:List TypeId}{l:List Bool}{i o:Nat}{f:FuncId}
variable {E:Env}{σ:Am}
theorem Ag0(a b c:Int):Bf E σ .min (t::ts) [i64 a,i64 b,i64 c]=some (i64 (Pm (Pm a b) c),σ):=rfl
theorem Ae9(a b c:Int):Bf E σ .max (t::ts) [i64 a,i64 b,i64 c]=some (i64 (JT (JT a b) c),σ):=rfl
theorem AfY(a b c d:Int):Bf E σ .min (t::ts) [i64 a,i64 b,i64 c,i64 d]=some (i64 (Pm (Pm (Pm a b) c) d),σ):=rfl
theorem Ag6(a b c d:Int):Bf E σ .max (t::ts) [i64 a,i64 b,i64 c,i64 d]=some (i64 (JT (JT (JT a b) c) d),σ):=rfl
attribute [go_sem] Ag0 Ae9 AfY Ag6
theorem Akj:(C1 AV.bool l).all AV.flat=true:=Nf fun _=>rfl
theorem AkD:fzCells σ (C1 AV.bool l)=some (C1 AV.bool l):=Gi fun _=>rfl
theorem AjQ{sel:List Nat}:wkL sel (C1 AV.bool l) (C1 AV.bool l)=True:=Wh fun _=>Asp WD
attribute [go_sem] Akj AkD AjQ
theorem Aav{j n m:Nat}(h1:i<n)(h2:j<m):i*m+j<n*m:=by
 have h3:(i+1)*m≤n*m:=Ap3 m h1;rw[Aqi,AqB]at h3;omega
def IG:Nat→List Value→Bool
 |0,[]=>true
 |n+1,.bool false::l=>IG n l
 |_,_=>false
theorem Lz:∀(n:Nat) (l:List Value),IG n l=true→l=List.replicate n (.bool false)
 |0,[],_=>rfl
 |n+1,.bool false::l,h=>by rw[List.replicate_succ,Lz n l h]
 |0,_::_,h=>by simp[IG]at h
 |n+1,[],h=>by simp[IG]at h
theorem Qc{P:Program}{t N:Nat}{d:TypeDesc}(hu:P.underlying t=some d) (hi:(match P.info? t with|some i=>(match i.zero with|some z=>(i.size==N&&i.bytes==N)&&IG N z.cells.toList|none=>false)|none=>false)=true):Bz P t=some ⟨d,N,N,C1 AV.bool (Arr.rep N false).l⟩:=by
  unfold Bz;rw[hu];cases hh:P.info? t with
  |none=>rw[hh]at hi;cases hi
  | some i=>
    rw[hh]at hi;cases hz:i.zero with
    |none=>simp only[hz]at hi;cases hi
    | some z=>
      simp only[hz,Ap9,AqV]at hi;obtain⟨⟨h1,h2⟩,h3⟩:=hi;have h4:=Lz N _ h3;have h5:z.cells.size=N:=by rw[←AqR,h4,Ar0]
      have h6:z.cells.all one=true:=by
        rw[←Array.all_toList,h4,List.all_replicate];split
        · rfl
        · rfl
      have h7:z.cells.toList.map OM=C1 AV.bool (Arr.rep N false).l:=by rw[h4,List.map_replicate,Js];rfl
      simp only[hz];rw[ApU ⟨h5.trans h1.symm,h6⟩,h7,h1,h2]
section
variable {sel:List Nat}{N:Nat}{y:AV}
theorem AdV(x:UInt64):wk2.match_1 (fun _ _=>Prop) (u64 x) y (fun xs ys=>wkA sel xs ys) (fun x y=>wk1 sel x y)=wk1 sel (u64 x) y:=by cases y<;>rfl
theorem Ab9(x:Int):wk2.match_1 (fun _ _=>Prop) (i64 x) y (fun xs ys=>wkA sel xs ys) (fun x y=>wk1 sel x y)=wk1 sel (i64 x) y:=by cases y<;>rfl
theorem AbN:Ms sel N (.fn f [.ref i o])=.fn f [.ref (Gk sel N i) o]:=rfl
theorem Adi:XT sel N (.fn f [.ref i o])=.fn f [.ref (Gk sel N i) o]:=rfl
theorem AdM:T8 sel N (.fn f [.ref i o])=.fn f [.ref (Gk sel N i) o]:=rfl
end
attribute [go_sem] AbN Adi AdM
attribute [go_sem] AdV Ab9
end Go.Rv
