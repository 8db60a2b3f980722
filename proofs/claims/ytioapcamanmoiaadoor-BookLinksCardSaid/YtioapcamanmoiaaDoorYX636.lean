/-
  Part 36.
-/
import Derived.Test.YtioapcamanmoiaaDoorYX635
namespace Go.Rv
set_option linter.unusedVariables false
set_option linter.unusedSimpArgs false
variable {E : Env} {σ : Am}
theorem AnT {t : TypeId} {ts : List TypeId} (a b c : Int) : Bu E σ .min (t :: ts) [i64 a,i64 b,i64 c] = some (i64 (AbQ (AbQ a b) c),σ):=rfl
theorem AlM {t : TypeId} {ts : List TypeId} (a b c : Int) : Bu E σ .max (t :: ts) [i64 a,i64 b,i64 c] = some (i64 (Tq (Tq a b) c),σ):=rfl
theorem Amn {t : TypeId} {ts : List TypeId} (a b c d : Int) : Bu E σ .min (t :: ts) [i64 a,i64 b,i64 c,i64 d] = some (i64 (AbQ (AbQ (AbQ a b) c) d),σ):=rfl
theorem Amj {t : TypeId} {ts : List TypeId} (a b c d : Int) : Bu E σ .max (t :: ts) [i64 a,i64 b,i64 c,i64 d] = some (i64 (Tq (Tq (Tq a b) c) d),σ):=rfl
attribute [go_sem] AnT AlM Amn Amj
theorem Aqj {l : List Bool} : (C1 AV.bool l).all AV.flat = true:=Wb fun _ => rfl
theorem Ap4 {l : List Bool} : fzCells σ (C1 AV.bool l) = some (C1 AV.bool l):=Ju fun _ => rfl
theorem ApA {sel : List Nat} {l : List Bool} : wkL sel (C1 AV.bool l) (C1 AV.bool l) = True:=AeB fun _ => of_eq_true Afc
attribute [go_sem] Aqj Ap4 ApA
theorem AiH {i j n m : Nat} (h1 : i < n) (h2 : j < m) : i * m + j < n * m:=by
 have h3 : (i + 1) * m≤n * m:=Nat.mul_le_mul_right m h1
 rw [Nat.add_mul,Nat.one_mul] at h3
 omega
def M8 : Nat→List Value→Bool
 | 0,[] => true
 | n + 1,.bool false :: l => M8 n l
 | _,_ => false
theorem Sf : ∀ (n : Nat) (l : List Value),M8 n l = true→l = List.replicate n (.bool false)
  | 0,[],_ => rfl
  | n + 1,.bool false :: l,h => by rw [List.replicate_succ,Sf n l h]
  | 0,_ :: _,h => by simp [M8] at h
  | n + 1,[],h => by simp [M8] at h
theorem Yx {P : Program} {t N : Nat} {d : TypeDesc} (hu : P.underlying t = some d)
    (hi : (match P.info? t with | some i => (match i.zero with | some z => (i.size == N && i.bytes == N) && M8 N z.cells.toList | none => false) | none => false) = true) : Cb P t = some ⟨d,N,N,C1 AV.bool (Arr.rep N false).l⟩:=by
  unfold Cb
  rw [hu]
  cases hh : P.info? t with
  | none => rw [hh] at hi;cases hi
  | some i =>
    rw [hh] at hi
    cases hz : i.zero with
    | none => simp only [hz] at hi;cases hi
    | some z =>
      simp only [hz,Bool.and_eq_true,beq_iff_eq] at hi
      obtain ⟨⟨h1,h2⟩,h3⟩:=hi
      have h4:=Sf N _ h3
      have h5 : z.cells.size = N:=by rw [← Array.length_toList,h4,List.length_replicate]
      have h6 : z.cells.all one = true:=by
        rw [← Array.all_toList,h4,List.all_replicate]
        split
        · rfl
        · rfl
      have h7 : z.cells.toList.map Va = C1 AV.bool (Arr.rep N false).l:=by rw [h4,List.map_replicate,Ow];rfl
      simp only [hz]
      rw [if_pos ⟨h5.trans h1.symm,h6⟩,h7,h1,h2]
section
variable {sel : List Nat} {N : Nat} {y : AV}
theorem AiT (x : UInt64) : wk2.match_1 (fun _ _ => Prop) (u64 x) y (fun xs ys => wkA sel xs ys) (fun x y => wk1 sel x y) = wk1 sel (u64 x) y:=by cases y <;> rfl
theorem Ajg (x : Int) : wk2.match_1 (fun _ _ => Prop) (i64 x) y (fun xs ys => wkA sel xs ys) (fun x y => wk1 sel x y) = wk1 sel (i64 x) y:=by cases y <;> rfl
theorem AkM {f : FuncId} {i o : Nat} : Tk sel N (.fn f [.ref i o]) = .fn f [.ref (Jp sel N i) o]:=rfl
theorem Ajm {f : FuncId} {i o : Nat} : AfN sel N (.fn f [.ref i o]) = .fn f [.ref (Jp sel N i) o]:=rfl
theorem Ajr {f : FuncId} {i o : Nat} : AcS sel N (.fn f [.ref i o]) = .fn f [.ref (Jp sel N i) o]:=rfl
end
attribute [go_sem] AkM Ajm Ajr
attribute [go_sem] AiT Ajg
end Go.Rv
