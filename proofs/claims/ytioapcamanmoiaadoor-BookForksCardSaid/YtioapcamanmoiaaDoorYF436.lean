/-
  Part 36.
-/
import Derived.Test.YtioapcamanmoiaaDoorYF435
namespace Go.Rv
set_option linter.unusedVariables false
set_option linter.unusedSimpArgs false
variable{t:TypeId}{ts:List TypeId}{l:List Bool}{i o:Nat}{f:FuncId}
variable {E:Env}{σ:Al}
theorem AcL(a b c:Int):AW E σ .min (t::ts) [i64 a,i64 b,i64 c]=some (i64 (NX (NX a b) c),σ):=rfl
theorem AdZ(a b c:Int):AW E σ .max (t::ts) [i64 a,i64 b,i64 c]=some (i64 (L8 (L8 a b) c),σ):=rfl
theorem Adh(a b c d:Int):AW E σ .min (t::ts) [i64 a,i64 b,i64 c,i64 d]=some (i64 (NX (NX (NX a b) c) d),σ):=rfl
theorem Acz(a b c d:Int):AW E σ .max (t::ts) [i64 a,i64 b,i64 c,i64 d]=some (i64 (L8 (L8 (L8 a b) c) d),σ):=rfl
attribute [go_sem] AcL AdZ Adh Acz
theorem AeD:(C1 AV.bool l).all AV.flat=true:=LO fun _=>rfl
theorem AfX:fzCells σ (C1 AV.bool l)=some (C1 AV.bool l):=FF fun _=>rfl
theorem AfZ{sel:List Nat}:wkL sel (C1 AV.bool l) (C1 AV.bool l)=True:=TM fun _=>Anh Uw
attribute [go_sem] AeD AfX AfZ
theorem Xv{j n m:Nat}(h1:i<n)(h2:j<m):i*m+j<n*m:=by
 have h3:(i+1)*m≤n*m:=AkU m h1;rw[Ald,Alw]at h3;omega
def HB:Nat→List Value→Bool
 |0,[]=>true
 |n+1,.bool false::l=>HB n l
 |_,_=>false
theorem KE:∀(n:Nat) (l:List Value),HB n l=true→l=List.replicate n (.bool false)
 |0,[],_=>rfl
 |n+1,.bool false::l,h=>by rw[List.replicate_succ,KE n l h]
 |0,_::_,h=>by simp[HB]at h
 |n+1,[],h=>by simp[HB]at h
theorem Ot{P:Program}{t N:Nat}{d:TypeDesc}(hu:P.underlying t=some d) (hi:(match P.info? t with|some i=>(match i.zero with|some z=>(i.size==N&&i.bytes==N)&&HB N z.cells.toList|none=>false)|none=>false)=true):Bp P t=some ⟨d,N,N,C1 AV.bool (Arr.rep N false).l⟩:=by
  unfold Bp;rw[hu];cases hh:P.info? t with
  |none=>rw[hh]at hi;cases hi
  | some i=>
    rw[hh]at hi;cases hz:i.zero with
    |none=>simp only[hz]at hi;cases hi
    | some z=>
      simp only[hz,Ak3,AlW]at hi;obtain⟨⟨h1,h2⟩,h3⟩:=hi;have h4:=KE N _ h3;have h5:z.cells.size=N:=by rw[←AlD,h4,AmM]
      have h6:z.cells.all one=true:=by
        rw[←Array.all_toList,h4,List.all_replicate];split
        · rfl
        · rfl
      have h7:z.cells.toList.map Mf=C1 AV.bool (Arr.rep N false).l:=by rw[h4,List.map_replicate,I8];rfl
      simp only[hz];rw[if_pos ⟨h5.trans h1.symm,h6⟩,h7,h1,h2]
section
variable {sel:List Nat}{N:Nat}{y:AV}
theorem YC(x:UInt64):wk2.match_1 (fun _ _=>Prop) (u64 x) y (fun xs ys=>wkA sel xs ys) (fun x y=>wk1 sel x y)=wk1 sel (u64 x) y:=by cases y<;>rfl
theorem YO(x:Int):wk2.match_1 (fun _ _=>Prop) (i64 x) y (fun xs ys=>wkA sel xs ys) (fun x y=>wk1 sel x y)=wk1 sel (i64 x) y:=by cases y<;>rfl
theorem YH:L2 sel N (.fn f [.ref i o])=.fn f [.ref (FH sel N i) o]:=rfl
theorem AaK:UZ sel N (.fn f [.ref i o])=.fn f [.ref (FH sel N i) o]:=rfl
theorem ZT:Ru sel N (.fn f [.ref i o])=.fn f [.ref (FH sel N i) o]:=rfl
end
attribute [go_sem] YH AaK ZT
attribute [go_sem] YC YO
end Go.Rv
