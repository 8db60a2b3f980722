/-
  Part 45.
-/
import Derived.Test.YtioapcamanmoiaaGreatDoorYR44
namespace Go.Rv
set_option linter.unusedVariables false
set_option linter.unusedSimpArgs false
def S8(n:Nat){α:Type}(z:α)(l:List α):Arr α n:=⟨(l++List.replicate n z).take n,by simp⟩
theorem Tu{n:Nat}{α:Type}{z:α}{l:List α}(h:n≤l.length):(S8 n z l).l=l.take n:=by
 show(l++List.replicate n z).take n=_;rw[List.take_append_of_le_length h]
theorem S5{α:Type}{c:α→AV}{cc:α→List AV}(hc:∀x,cc x=[c x]):∀(l:List α) (n:Nat),((L cc l).take n).flatten=C1 c (l.take n)
  |[],n=>by simp[L,C1]
  |x::l,0=>by simp[C1]
  | x::l,n+1=>by
    rw[AdO,Aq2,Aq2,List.flatten_cons,S5 hc l n,hc];rfl
theorem sapA{E:Env}{t e n a b:Nat}{z:List AV}{α:Type}{c:α→AV}{cc:α→List AV}{zz:α}(ht:E.tab t=some ⟨.array n e,a,b,z⟩)(hc:∀x,cc x=[c x])(hn:0<n)(f:Bool)(l:List α) :JD E t (.sl f (L cc l))=if InB (n:Int) l.length then some (.rp (C1 c (S8 n zz l).l))else none:=by
 unfold JD;simp only[ht]
 have h1:((L cc l).all fun cs=>cs.length==1)=true:=by
  rw[AoZ];intro cs hcs;obtain⟨x,_,rfl⟩:=ApT.1 hcs;rw[hc];rfl
 by_cases h:n≤l.length
 ·rw[AoO ⟨hn,by rw[WE];exact h,h1⟩,AoO (show InB (n:Int) l.length from⟨by omega,by omega⟩),S5 hc,Tu h]
 ·rw[AoQ (fun q=>h (by have:=q.2.1;rwa[WE]at this)),AoQ (fun q:InB (n:Int) l.length=>h (by have:=q.2;omega))]
end Go.Rv
