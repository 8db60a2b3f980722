/-
  Part 36.
-/
import Derived.Test.YtioapcamanmoiaaDoorYF35
namespace Go.Rv
set_option linter.unusedVariables false
set_option linter.unusedSimpArgs false
variable{t:TypeId}{ts:List TypeId}{l:List Bool}{i o:Nat}{f:FuncId}
variable {E:Env}{σ:Al}
theorem Ad3(a b c:Int):AW E σ .min (t::ts) [i64 a,i64 b,i64 c]=some (i64 (NP (NP a b) c),σ):=rfl
theorem AcJ(a b c:Int):AW E σ .max (t::ts) [i64 a,i64 b,i64 c]=some (i64 (L1 (L1 a b) c),σ):=rfl
theorem Abp(a b c d:Int):AW E σ .min (t::ts) [i64 a,i64 b,i64 c,i64 d]=some (i64 (NP (NP (NP a b) c) d),σ):=rfl
theorem AbP(a b c d:Int):AW E σ .max (t::ts) [i64 a,i64 b,i64 c,i64 d]=some (i64 (L1 (L1 (L1 a b) c) d),σ):=rfl
attribute [go_sem] Ad3 AcJ Abp AbP
theorem AeT:(C1 AV.bool l).all AV.flat=true:=Mh fun _=>rfl
theorem AeE:fzCells σ (C1 AV.bool l)=some (C1 AV.bool l):=FF fun _=>rfl
theorem Aey{sel:List Nat}:wkL sel (C1 AV.bool l) (C1 AV.bool l)=True:=UB fun _=>Am8 TL
attribute [go_sem] AeT AeE Aey
theorem WE{j n m:Nat}(h1:i<n)(h2:j<m):i*m+j<n*m:=by
 have h3:(i+1)*m≤n*m:=AkY m h1;rw[Alf,Aly]at h3;omega
def HG:Nat→List Value→Bool
 |0,[]=>true
 |n+1,.bool false::l=>HG n l
 |_,_=>false
theorem KT:∀(n:Nat) (l:List Value),HG n l=true→l=List.replicate n (.bool false)
 |0,[],_=>rfl
 |n+1,.bool false::l,h=>by rw[List.replicate_succ,KT n l h]
 |0,_::_,h=>by simp[HG]at h
 |n+1,[],h=>by simp[HG]at h
theorem Oh{P:Program}{t N:Nat}{d:TypeDesc}(hu:P.underlying t=some d) (hi:(match P.info? t with|some i=>(match i.zero with|some z=>(i.size==N&&i.bytes==N)&&HG N z.cells.toList|none=>false)|none=>false)=true):Bm P t=some ⟨d,N,N,C1 AV.bool (Arr.rep N false).l⟩:=by
  unfold Bm;rw[hu];cases hh:P.info? t with
  |none=>rw[hh]at hi;cases hi
  | some i=>
    rw[hh]at hi;cases hz:i.zero with
    |none=>simp only[hz]at hi;cases hi
    | some z=>
      simp only[hz,Ak6,AlX]at hi;obtain⟨⟨h1,h2⟩,h3⟩:=hi;have h4:=KT N _ h3;have h5:z.cells.size=N:=by rw[←AlE,h4,AmK]
      have h6:z.cells.all one=true:=by
        rw[←Array.all_toList,h4,List.all_replicate];split
        · rfl
        · rfl
      have h7:z.cells.toList.map Nn=C1 AV.bool (Arr.rep N false).l:=by rw[h4,List.map_replicate,Iz];rfl
      simp only[hz];rw[AkS ⟨h5.trans h1.symm,h6⟩,h7,h1,h2]
section
variable {sel:List Nat}{N:Nat}{y:AV}
theorem ZG(x:UInt64):wk2.match_1 (fun _ _=>Prop) (u64 x) y (fun xs ys=>wkA sel xs ys) (fun x y=>wk1 sel x y)=wk1 sel (u64 x) y:=by cases y<;>rfl
theorem YV(x:Int):wk2.match_1 (fun _ _=>Prop) (i64 x) y (fun xs ys=>wkA sel xs ys) (fun x y=>wk1 sel x y)=wk1 sel (i64 x) y:=by cases y<;>rfl
theorem ZI:Lz sel N (.fn f [.ref i o])=.fn f [.ref (FJ sel N i) o]:=rfl
theorem Aar:Wa sel N (.fn f [.ref i o])=.fn f [.ref (FJ sel N i) o]:=rfl
theorem AaK:Ss sel N (.fn f [.ref i o])=.fn f [.ref (FJ sel N i) o]:=rfl
end
attribute [go_sem] ZI Aar AaK
attribute [go_sem] ZG YV
end Go.Rv
