/-
  Part 38.
-/
import Derived.Test.YtnfoiocigicdnaaGreatDoorYG37
namespace Go.Rv
set_option linter.unusedVariables false
set_option linter.unusedSimpArgs false
variable {E : Env} {σ : Am}
theorem AkK {t : TypeId} {ts : List TypeId} (a b c : Int) : Cn E σ .min (t :: ts) [i64 a,i64 b,i64 c] = some (i64 (Ab7 (Ab7 a b) c),σ):=rfl
theorem Akl {t : TypeId} {ts : List TypeId} (a b c : Int) : Cn E σ .max (t :: ts) [i64 a,i64 b,i64 c] = some (i64 (AcT (AcT a b) c),σ):=rfl
theorem Ai1 {t : TypeId} {ts : List TypeId} (a b c d : Int) : Cn E σ .min (t :: ts) [i64 a,i64 b,i64 c,i64 d] = some (i64 (Ab7 (Ab7 (Ab7 a b) c) d),σ):=rfl
theorem AiV {t : TypeId} {ts : List TypeId} (a b c d : Int) : Cn E σ .max (t :: ts) [i64 a,i64 b,i64 c,i64 d] = some (i64 (AcT (AcT (AcT a b) c) d),σ):=rfl
attribute [go_sem] AkK Akl Ai1 AiV
theorem AoX {l : List Bool} : (C1 AV.bool l).all AV.flat = true:=Tl fun _ => rfl
theorem AlX {l : List Bool} : fzCells σ (C1 AV.bool l) = some (C1 AV.bool l):=Il fun _ => rfl
theorem Apk {sel : List Nat} {l : List Bool} : wkL sel (C1 AV.bool l) (C1 AV.bool l) = True:=Aip fun _ => of_eq_true Acx
attribute [go_sem] AoX AlX Apk
theorem AfL {i j n m : Nat} (h1 : i < n) (h2 : j < m) : i * m + j < n * m:=by
 have h3 : (i + 1) * m≤n * m:=Nat.mul_le_mul_right m h1
 rw [Nat.add_mul,Nat.one_mul] at h3
 omega
def Mu : Nat→List Value→Bool
 | 0,[] => true
 | n + 1,.bool false :: l => Mu n l
 | _,_ => false
theorem Qw : ∀ (n : Nat) (l : List Value),Mu n l = true→l = List.replicate n (.bool false)
  | 0,[],_ => rfl
  | n + 1,.bool false :: l,h => by rw [List.replicate_succ,Qw n l h]
  | 0,_ :: _,h => by simp [Mu] at h
  | n + 1,[],h => by simp [Mu] at h
theorem Vk {P : Program} {t N : Nat} {d : TypeDesc} (hu : P.underlying t = some d)
    (hi : (match P.info? t with | some i => (match i.zero with | some z => (i.size == N && i.bytes == N) && Mu N z.cells.toList | none => false) | none => false) = true) : Ry P t = some ⟨d,N,N,C1 AV.bool (Arr.rep N false).l⟩:=by
  unfold Ry
  rw [hu]
  cases hh : P.info? t with
  | none => rw [hh] at hi;cases hi
  | some i =>
    rw [hh] at hi
    cases hz : i.zero with
    | none => simp only [hz] at hi;cases hi
    | some z =>
      simp only [hz,Bool.and_eq_true,beq_iff_eq] at hi
      obtain ⟨⟨h1,h2⟩,h3⟩:=hi
      have h4:=Qw N _ h3
      have h5 : z.cells.size = N:=by rw [← Array.length_toList,h4,List.length_replicate]
      have h6 : z.cells.all one = true:=by
        rw [← Array.all_toList,h4,List.all_replicate]
        split
        · rfl
        · rfl
      have h7 : z.cells.toList.map S7 = C1 AV.bool (Arr.rep N false).l:=by rw [h4,List.map_replicate,Al9];rfl
      simp only [hz]
      rw [if_pos ⟨h5.trans h1.symm,h6⟩,h7,h1,h2]
section
variable {sel : List Nat} {N : Nat} {y : AV}
theorem AhQ (x : UInt64) : wk2.match_1 (fun _ _ => Prop) (u64 x) y (fun xs ys => wkA sel xs ys) (fun x y => wk1 sel x y) = wk1 sel (u64 x) y:=by cases y <;> rfl
theorem AgQ {f : FuncId} {i o : Nat} : U8 sel N (.fn f [.ref i o]) = .fn f [.ref (Iq sel N i) o]:=rfl
theorem AhL {f : FuncId} {i o : Nat} : AcS sel N (.fn f [.ref i o]) = .fn f [.ref (Iq sel N i) o]:=rfl
theorem AgY {f : FuncId} {i o : Nat} : Acj sel N (.fn f [.ref i o]) = .fn f [.ref (Iq sel N i) o]:=rfl
end
attribute [go_sem] AgQ AhL AgY
attribute [go_sem] AhQ
end Go.Rv
