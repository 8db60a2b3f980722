/-
  Part 36.
-/
import Derived.Test.YtioapcamanmoiaaDoorYF35
namespace Go.Rv
set_option linter.unusedVariables false
set_option linter.unusedSimpArgs false
variable{t:TypeId}{ts:List TypeId}{l:List Bool}{i o:Nat}{f:FuncId}
variable {E:Env}{σ:Al}
theorem AbE(a b c:Int):AW E σ .min (t::ts) [i64 a,i64 b,i64 c]=some (i64 (NM (NM a b) c),σ):=rfl
theorem AdD(a b c:Int):AW E σ .max (t::ts) [i64 a,i64 b,i64 c]=some (i64 (Lv (Lv a b) c),σ):=rfl
theorem AcB(a b c d:Int):AW E σ .min (t::ts) [i64 a,i64 b,i64 c,i64 d]=some (i64 (NM (NM (NM a b) c) d),σ):=rfl
theorem Ab0(a b c d:Int):AW E σ .max (t::ts) [i64 a,i64 b,i64 c,i64 d]=some (i64 (Lv (Lv (Lv a b) c) d),σ):=rfl
attribute [go_sem] AbE AdD AcB Ab0
theorem Agr:(C1 AV.bool l).all AV.flat=true:=M6 fun _=>rfl
theorem AgH:fzCells σ (C1 AV.bool l)=some (C1 AV.bool l):=FH fun _=>rfl
theorem Agc{sel:List Nat}:wkL sel (C1 AV.bool l) (C1 AV.bool l)=True:=Uu fun _=>Am8 Ub
attribute [go_sem] Agr AgH Agc
theorem XN{j n m:Nat}(h1:i<n)(h2:j<m):i*m+j<n*m:=by
 have h3:(i+1)*m≤n*m:=AkY m h1;rw[Alf,Aly]at h3;omega
def HB:Nat→List Value→Bool
 |0,[]=>true
 |n+1,.bool false::l=>HB n l
 |_,_=>false
theorem KR:∀(n:Nat) (l:List Value),HB n l=true→l=List.replicate n (.bool false)
 |0,[],_=>rfl
 |n+1,.bool false::l,h=>by rw[List.replicate_succ,KR n l h]
 |0,_::_,h=>by simp[HB]at h
 |n+1,[],h=>by simp[HB]at h
theorem Oe{P:Program}{t N:Nat}{d:TypeDesc}(hu:P.underlying t=some d) (hi:(match P.info? t with|some i=>(match i.zero with|some z=>(i.size==N&&i.bytes==N)&&HB N z.cells.toList|none=>false)|none=>false)=true):Bl P t=some ⟨d,N,N,C1 AV.bool (Arr.rep N false).l⟩:=by
  unfold Bl;rw[hu];cases hh:P.info? t with
  |none=>rw[hh]at hi;cases hi
  | some i=>
    rw[hh]at hi;cases hz:i.zero with
    |none=>simp only[hz]at hi;cases hi
    | some z=>
      simp only[hz,Ak6,AlX]at hi;obtain⟨⟨h1,h2⟩,h3⟩:=hi;have h4:=KR N _ h3;have h5:z.cells.size=N:=by rw[←AlE,h4,AmK]
      have h6:z.cells.all one=true:=by
        rw[←Array.all_toList,h4,List.all_replicate];split
        · rfl
        · rfl
      have h7:z.cells.toList.map MW=C1 AV.bool (Arr.rep N false).l:=by rw[h4,List.map_replicate,I1];rfl
      simp only[hz];rw[AkS ⟨h5.trans h1.symm,h6⟩,h7,h1,h2]
section
variable {sel:List Nat}{N:Nat}{y:AV}
theorem AaN(x:UInt64):wk2.match_1 (fun _ _=>Prop) (u64 x) y (fun xs ys=>wkA sel xs ys) (fun x y=>wk1 sel x y)=wk1 sel (u64 x) y:=by cases y<;>rfl
theorem Aaa(x:Int):wk2.match_1 (fun _ _=>Prop) (i64 x) y (fun xs ys=>wkA sel xs ys) (fun x y=>wk1 sel x y)=wk1 sel (i64 x) y:=by cases y<;>rfl
theorem ZP:LB sel N (.fn f [.ref i o])=.fn f [.ref (FF sel N i) o]:=rfl
theorem AaL:VX sel N (.fn f [.ref i o])=.fn f [.ref (FF sel N i) o]:=rfl
theorem Z4:SF sel N (.fn f [.ref i o])=.fn f [.ref (FF sel N i) o]:=rfl
end
attribute [go_sem] ZP AaL Z4
attribute [go_sem] AaN Aaa
end Go.Rv
