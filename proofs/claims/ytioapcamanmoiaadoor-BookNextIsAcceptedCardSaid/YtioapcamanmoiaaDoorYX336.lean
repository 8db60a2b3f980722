/-
  Part 36.
-/
import Derived.Test.YtioapcamanmoiaaDoorYX335
namespace Go.Rv
set_option linter.unusedVariables false
set_option linter.unusedSimpArgs false
variable {E : Env} {σ : Am}
theorem AnA {t : TypeId} {ts : List TypeId} (a b c : Int) : Bv E σ .min (t :: ts) [i64 a,i64 b,i64 c] = some (i64 (Abl (Abl a b) c),σ):=rfl
theorem AnE {t : TypeId} {ts : List TypeId} (a b c : Int) : Bv E σ .max (t :: ts) [i64 a,i64 b,i64 c] = some (i64 (Ty (Ty a b) c),σ):=rfl
theorem AmW {t : TypeId} {ts : List TypeId} (a b c d : Int) : Bv E σ .min (t :: ts) [i64 a,i64 b,i64 c,i64 d] = some (i64 (Abl (Abl (Abl a b) c) d),σ):=rfl
theorem Anb {t : TypeId} {ts : List TypeId} (a b c d : Int) : Bv E σ .max (t :: ts) [i64 a,i64 b,i64 c,i64 d] = some (i64 (Ty (Ty (Ty a b) c) d),σ):=rfl
attribute [go_sem] AnA AnE AmW Anb
theorem ApJ {l : List Bool} : (C1 AV.bool l).all AV.flat = true:=Vb fun _ => rfl
theorem AoL {l : List Bool} : fzCells σ (C1 AV.bool l) = some (C1 AV.bool l):=J0 fun _ => rfl
theorem AqR {sel : List Nat} {l : List Bool} : wkL sel (C1 AV.bool l) (C1 AV.bool l) = True:=Afv fun _ => of_eq_true AeG
attribute [go_sem] ApJ AoL AqR
theorem AhY {i j n m : Nat} (h1 : i < n) (h2 : j < m) : i * m + j < n * m:=by
 have h3 : (i + 1) * m≤n * m:=Nat.mul_le_mul_right m h1
 rw [Nat.add_mul,Nat.one_mul] at h3
 omega
def Og : Nat→List Value→Bool
 | 0,[] => true
 | n + 1,.bool false :: l => Og n l
 | _,_ => false
theorem S6 : ∀ (n : Nat) (l : List Value),Og n l = true→l = List.replicate n (.bool false)
  | 0,[],_ => rfl
  | n + 1,.bool false :: l,h => by rw [List.replicate_succ,S6 n l h]
  | 0,_ :: _,h => by simp [Og] at h
  | n + 1,[],h => by simp [Og] at h
theorem Yz {P : Program} {t N : Nat} {d : TypeDesc} (hu : P.underlying t = some d)
    (hi : (match P.info? t with | some i => (match i.zero with | some z => (i.size == N && i.bytes == N) && Og N z.cells.toList | none => false) | none => false) = true) : Cc P t = some ⟨d,N,N,C1 AV.bool (Arr.rep N false).l⟩:=by
  unfold Cc
  rw [hu]
  cases hh : P.info? t with
  | none => rw [hh] at hi;cases hi
  | some i =>
    rw [hh] at hi
    cases hz : i.zero with
    | none => simp only [hz] at hi;cases hi
    | some z =>
      simp only [hz,Bool.and_eq_true,beq_iff_eq] at hi
      obtain ⟨⟨h1,h2⟩,h3⟩:=hi
      have h4:=S6 N _ h3
      have h5 : z.cells.size = N:=by rw [← Array.length_toList,h4,List.length_replicate]
      have h6 : z.cells.all one = true:=by
        rw [← Array.all_toList,h4,List.all_replicate]
        split
        · rfl
        · rfl
      have h7 : z.cells.toList.map Vm = C1 AV.bool (Arr.rep N false).l:=by rw [h4,List.map_replicate,Oc];rfl
      simp only [hz]
      rw [if_pos ⟨h5.trans h1.symm,h6⟩,h7,h1,h2]
section
variable {sel : List Nat} {N : Nat} {y : AV}
theorem Aj3 (x : UInt64) : wk2.match_1 (fun _ _ => Prop) (u64 x) y (fun xs ys => wkA sel xs ys) (fun x y => wk1 sel x y) = wk1 sel (u64 x) y:=by cases y <;> rfl
theorem Aj5 (x : Int) : wk2.match_1 (fun _ _ => Prop) (i64 x) y (fun xs ys => wkA sel xs ys) (fun x y => wk1 sel x y) = wk1 sel (i64 x) y:=by cases y <;> rfl
theorem AkW {f : FuncId} {i o : Nat} : Ua sel N (.fn f [.ref i o]) = .fn f [.ref (J1 sel N i) o]:=rfl
theorem Ak2 {f : FuncId} {i o : Nat} : AfQ sel N (.fn f [.ref i o]) = .fn f [.ref (J1 sel N i) o]:=rfl
theorem Ajn {f : FuncId} {i o : Nat} : Ael sel N (.fn f [.ref i o]) = .fn f [.ref (J1 sel N i) o]:=rfl
end
attribute [go_sem] AkW Ak2 Ajn
attribute [go_sem] Aj3 Aj5
end Go.Rv
