/-
  Part 38.
-/
import Derived.Test.YtnfoiocigicdnaaGreatDoorYH37
namespace Go.Rv
set_option linter.unusedVariables false
set_option linter.unusedSimpArgs false
variable {E : Env} {σ : Am}
theorem Ake {t : TypeId} {ts : List TypeId} (a b c : Int) : Ch E σ .min (t :: ts) [i64 a,i64 b,i64 c] = some (i64 (AaP (AaP a b) c),σ):=rfl
theorem AiV {t : TypeId} {ts : List TypeId} (a b c : Int) : Ch E σ .max (t :: ts) [i64 a,i64 b,i64 c] = some (i64 (AcP (AcP a b) c),σ):=rfl
theorem AkR {t : TypeId} {ts : List TypeId} (a b c d : Int) : Ch E σ .min (t :: ts) [i64 a,i64 b,i64 c,i64 d] = some (i64 (AaP (AaP (AaP a b) c) d),σ):=rfl
theorem Ajf {t : TypeId} {ts : List TypeId} (a b c d : Int) : Ch E σ .max (t :: ts) [i64 a,i64 b,i64 c,i64 d] = some (i64 (AcP (AcP (AcP a b) c) d),σ):=rfl
attribute [go_sem] Ake AiV AkR Ajf
theorem Al8 {l : List Bool} : (C1 AV.bool l).all AV.flat = true:=R5 fun _ => rfl
theorem AnU {l : List Bool} : fzCells σ (C1 AV.bool l) = some (C1 AV.bool l):=H5 fun _ => rfl
theorem AoS {sel : List Nat} {l : List Bool} : wkL sel (C1 AV.bool l) (C1 AV.bool l) = True:=Aic fun _ => of_eq_true Ab7
attribute [go_sem] Al8 AnU AoS
theorem AfX {i j n m : Nat} (h1 : i < n) (h2 : j < m) : i * m + j < n * m:=by
 have h3 : (i + 1) * m≤n * m:=Nat.mul_le_mul_right m h1
 rw [Nat.add_mul,Nat.one_mul] at h3
 omega
def Mj : Nat→List Value→Bool
 | 0,[] => true
 | n + 1,.bool false :: l => Mj n l
 | _,_ => false
theorem Qa : ∀ (n : Nat) (l : List Value),Mj n l = true→l = List.replicate n (.bool false)
  | 0,[],_ => rfl
  | n + 1,.bool false :: l,h => by rw [List.replicate_succ,Qa n l h]
  | 0,_ :: _,h => by simp [Mj] at h
  | n + 1,[],h => by simp [Mj] at h
theorem Vb {P : Program} {t N : Nat} {d : TypeDesc} (hu : P.underlying t = some d)
    (hi : (match P.info? t with | some i => (match i.zero with | some z => (i.size == N && i.bytes == N) && Mj N z.cells.toList | none => false) | none => false) = true) : Tb P t = some ⟨d,N,N,C1 AV.bool (Arr.rep N false).l⟩:=by
  unfold Tb
  rw [hu]
  cases hh : P.info? t with
  | none => rw [hh] at hi;cases hi
  | some i =>
    rw [hh] at hi
    cases hz : i.zero with
    | none => simp only [hz] at hi;cases hi
    | some z =>
      simp only [hz,Bool.and_eq_true,beq_iff_eq] at hi
      obtain ⟨⟨h1,h2⟩,h3⟩:=hi
      have h4:=Qa N _ h3
      have h5 : z.cells.size = N:=by rw [← Array.length_toList,h4,List.length_replicate]
      have h6 : z.cells.all one = true:=by
        rw [← Array.all_toList,h4,List.all_replicate]
        split
        · rfl
        · rfl
      have h7 : z.cells.toList.map Tm = C1 AV.bool (Arr.rep N false).l:=by rw [h4,List.map_replicate,Aob];rfl
      simp only [hz]
      rw [if_pos ⟨h5.trans h1.symm,h6⟩,h7,h1,h2]
section
variable {sel : List Nat} {N : Nat} {y : AV}
theorem AhL (x : UInt64) : wk2.match_1 (fun _ _ => Prop) (u64 x) y (fun xs ys => wkA sel xs ys) (fun x y => wk1 sel x y) = wk1 sel (u64 x) y:=by cases y <;> rfl
theorem Agz {f : FuncId} {i o : Nat} : Up sel N (.fn f [.ref i o]) = .fn f [.ref (Iu sel N i) o]:=rfl
theorem Ahg {f : FuncId} {i o : Nat} : Ach sel N (.fn f [.ref i o]) = .fn f [.ref (Iu sel N i) o]:=rfl
theorem Ahm {f : FuncId} {i o : Nat} : Aa5 sel N (.fn f [.ref i o]) = .fn f [.ref (Iu sel N i) o]:=rfl
end
attribute [go_sem] Agz Ahg Ahm
attribute [go_sem] AhL
end Go.Rv
