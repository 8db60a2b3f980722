/-
  Part 36.
-/
import Derived.Test.YtioapcamanmoiaaGreatDoorYA35
namespace Go.Rv
variable{t:TypeId}{ts:List TypeId}{l:List Bool}{i o:Nat}{f:FuncId}
variable {E:Env}{σ:Ad}
theorem AjL(a b c:Int):Bp E σ .min (t::ts) [i64 a,i64 b,i64 c]=some (i64 (Mo (Mo a b) c),σ):=rfl
theorem Aib(a b c:Int):Bp E σ .max (t::ts) [i64 a,i64 b,i64 c]=some (i64 (J6 (J6 a b) c),σ):=rfl
theorem Ajv(a b c d:Int):Bp E σ .min (t::ts) [i64 a,i64 b,i64 c,i64 d]=some (i64 (Mo (Mo (Mo a b) c) d),σ):=rfl
theorem AiW(a b c d:Int):Bp E σ .max (t::ts) [i64 a,i64 b,i64 c,i64 d]=some (i64 (J6 (J6 (J6 a b) c) d),σ):=rfl
attribute [go_sem] AjL Aib Ajv AiW
theorem Al4:(C1 AV.bool l).all AV.flat=true:=Q0 fun _=>rfl
theorem AlI:fzCells σ (C1 AV.bool l)=some (C1 AV.bool l):=Ha fun _=>rfl
theorem AmD{sel:List Nat}:wkL sel (C1 AV.bool l) (C1 AV.bool l)=True:=ZG fun _=>Avx Yr
attribute [go_sem] Al4 AlI AmD
theorem Acn{j n m:Nat}(h1:i<n)(h2:j<m):i*m+j<n*m:=by
 have h3:(i+1)*m≤n*m:=As5 m h1;rw[Atn,AtI]at h3;omega
def JB:Nat→List Value→Bool
 |0,[]=>true
 |n+1,.bool false::l=>JB n l
 |_,_=>false
theorem Ni:∀(n:Nat) (l:List Value),JB n l=true→l=List.replicate n (.bool false)
 |0,[],_=>rfl
 |n+1,.bool false::l,h=>by rw[List.replicate_succ,Ni n l h]
 |0,_::_,h=>by simp[JB]at h
 |n+1,[],h=>by simp[JB]at h
theorem RZ{P:Program}{t N:Nat}{d:TypeDesc}(hu:P.underlying t=some d) (hi:(match P.info? t with|some i=>(match i.zero with|some z=>(i.size==N&&i.bytes==N)&&JB N z.cells.toList|none=>false)|none=>false)=true):B9 P t=some ⟨d,N,N,C1 AV.bool (Arr.rep N false).l⟩:=by
  unfold B9;rw[hu];cases hh:P.info? t with
  |none=>rw[hh]at hi;cases hi
  | some i=>
    rw[hh]at hi;cases hz:i.zero with
    |none=>simp only[hz]at hi;cases hi
    | some z=>
      simp only[hz,Ata,AtW]at hi;obtain⟨⟨h1,h2⟩,h3⟩:=hi;have h4:=Ni N _ h3;have h5:z.cells.size=N:=by rw[←AtY,h4,Au5]
      have h6:z.cells.all one=true:=by
        rw[←Array.all_toList,h4,List.all_replicate];split
        · rfl
        · rfl
      have h7:z.cells.toList.map Q2=C1 AV.bool (Arr.rep N false).l:=by rw[h4,List.map_replicate,GA];rfl
      simp only[hz];rw[AsU ⟨h5.trans h1.symm,h6⟩,h7,h1,h2]
section
variable {sel:List Nat}{N:Nat}{y:AV}
theorem Agi(x:UInt64):wk2.match_1 (fun _ _=>Prop) (u64 x) y (fun xs ys=>wkA sel xs ys) (fun x y=>wk1 sel x y)=wk1 sel (u64 x) y:=by cases y<;>rfl
theorem Agn(x:Int):wk2.match_1 (fun _ _=>Prop) (i64 x) y (fun xs ys=>wkA sel xs ys) (fun x y=>wk1 sel x y)=wk1 sel (i64 x) y:=by cases y<;>rfl
theorem Agf:NU sel N (.fn f [.ref i o])=.fn f [.ref (GX sel N i) o]:=rfl
theorem AeC:Aaj sel N (.fn f [.ref i o])=.fn f [.ref (GX sel N i) o]:=rfl
theorem AfR:XA sel N (.fn f [.ref i o])=.fn f [.ref (GX sel N i) o]:=rfl
end
attribute [go_sem] Agf AeC AfR
attribute [go_sem] Agi Agn
end Go.Rv
