/-
  Part 36.
-/
import Derived.Test.YtioapcamanmoiaaDoorYR35
namespace Go.Rv
set_option linter.unusedVariables false
set_option linter.unusedSimpArgs false
variable {E : Env} {σ : An}
theorem Alg {t : TypeId} {ts : List TypeId} (a b c : Int) : Be E σ .min (t :: ts) [i64 a,i64 b,i64 c] = some (i64 (Aaq (Aaq a b) c),σ):=rfl
theorem AjE {t : TypeId} {ts : List TypeId} (a b c : Int) : Be E σ .max (t :: ts) [i64 a,i64 b,i64 c] = some (i64 (Aez (Aez a b) c),σ):=rfl
theorem AjZ {t : TypeId} {ts : List TypeId} (a b c d : Int) : Be E σ .min (t :: ts) [i64 a,i64 b,i64 c,i64 d] = some (i64 (Aaq (Aaq (Aaq a b) c) d),σ):=rfl
theorem Alu {t : TypeId} {ts : List TypeId} (a b c d : Int) : Be E σ .max (t :: ts) [i64 a,i64 b,i64 c,i64 d] = some (i64 (Aez (Aez (Aez a b) c) d),σ):=rfl
attribute [go_sem] Alg AjE AjZ Alu
theorem Amx {l : List Bool} : (C1 AV.bool l).all AV.flat = true:=Th fun _ => rfl
theorem AnH {l : List Bool} : fzCells σ (C1 AV.bool l) = some (C1 AV.bool l):=H0 fun _ => rfl
theorem AlL {sel : List Nat} {l : List Bool} : wkL sel (C1 AV.bool l) (C1 AV.bool l) = True:=AdV fun _ => of_eq_true Adr
attribute [go_sem] Amx AnH AlL
theorem Afw {i j n m : Nat} (h1 : i < n) (h2 : j < m) : i * m + j < n * m:=by
 have h3 : (i + 1) * m≤n * m:=Nat.mul_le_mul_right m h1
 rw [Nat.add_mul,Nat.one_mul] at h3
 omega
def Me : Nat→List Value→Bool
 | 0,[] => true
 | n + 1,.bool false :: l => Me n l
 | _,_ => false
theorem Rz : ∀ (n : Nat) (l : List Value),Me n l = true→l = List.replicate n (.bool false)
  | 0,[],_ => rfl
  | n + 1,.bool false :: l,h => by rw [List.replicate_succ,Rz n l h]
  | 0,_ :: _,h => by simp [Me] at h
  | n + 1,[],h => by simp [Me] at h
theorem Xf {P : Program} {t N : Nat} {d : TypeDesc} (hu : P.underlying t = some d)
    (hi : (match P.info? t with | some i => (match i.zero with | some z => (i.size == N && i.bytes == N) && Me N z.cells.toList | none => false) | none => false) = true) : Bq P t = some ⟨d,N,N,C1 AV.bool (Arr.rep N false).l⟩:=by
  unfold Bq
  rw [hu]
  cases hh : P.info? t with
  | none => rw [hh] at hi;cases hi
  | some i =>
    rw [hh] at hi
    cases hz : i.zero with
    | none => simp only [hz] at hi;cases hi
    | some z =>
      simp only [hz,Bool.and_eq_true,beq_iff_eq] at hi
      obtain ⟨⟨h1,h2⟩,h3⟩:=hi
      have h4:=Rz N _ h3
      have h5 : z.cells.size = N:=by rw [← Array.length_toList,h4,List.length_replicate]
      have h6 : z.cells.all one = true:=by
        rw [← Array.all_toList,h4,List.all_replicate]
        split
        · rfl
        · rfl
      have h7 : z.cells.toList.map Vq = C1 AV.bool (Arr.rep N false).l:=by rw [h4,List.map_replicate,N4];rfl
      simp only [hz]
      rw [if_pos ⟨h5.trans h1.symm,h6⟩,h7,h1,h2]
section
variable {sel : List Nat} {N : Nat} {y : AV}
theorem Aiq (x : UInt64) : wk2.match_1 (fun _ _ => Prop) (u64 x) y (fun xs ys => wkA sel xs ys) (fun x y => wk1 sel x y) = wk1 sel (u64 x) y:=by cases y <;> rfl
theorem Aia (x : Int) : wk2.match_1 (fun _ _ => Prop) (i64 x) y (fun xs ys => wkA sel xs ys) (fun x y => wk1 sel x y) = wk1 sel (i64 x) y:=by cases y <;> rfl
theorem AhQ {f : FuncId} {i o : Nat} : S0 sel N (.fn f [.ref i o]) = .fn f [.ref (Hy sel N i) o]:=rfl
theorem AiD {f : FuncId} {i o : Nat} : AeO sel N (.fn f [.ref i o]) = .fn f [.ref (Hy sel N i) o]:=rfl
theorem AhG {f : FuncId} {i o : Nat} : AbK sel N (.fn f [.ref i o]) = .fn f [.ref (Hy sel N i) o]:=rfl
end
attribute [go_sem] AhQ AiD AhG
attribute [go_sem] Aiq Aia
end Go.Rv
