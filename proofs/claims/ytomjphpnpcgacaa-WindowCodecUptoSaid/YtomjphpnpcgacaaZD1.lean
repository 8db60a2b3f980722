/-
  WindowCodec. Condition: the arguments are of bulk at most 1048576 (UptoSaid).
-/
import Derived.Test.YtomjphpnpcgacaaZC3
namespace Go.Proofs.Ytomjphpnpcgacaa
open Go.Rv Go.ChangeShapes Go.WideShapes Go.ChangeAt Go.RowKit
set_option linter.unusedVariables false

set_option maxRecDepth 100000 in
theorem windowCodec_contract (H : Type) (enc : TypeId × Value → H) (W : World) (base : Nat) (args : Array Value) (ds gs : List (DataW H)) (before : List MemPlace)
    (hval0 : ∀ (j : Nat) t v, Try.f9.params[j]? = some t → args[j]? = some v → Value.okWide Try.prog W .any base t v)
    (hW : DataW.Whole enc Try.prog Try.f9.params.toList Rows.windowCodecSpec.vars false W args.toList ds gs before) (hk : Rows.uptoSmall H (ds ++ gs) = true) :
    Calls Try.prog 9 args W fun e W' => ∃ v, e = .returned v ∧ Rows.windowCodecSpec.post enc Try.prog Try.f9 false true false false W args v W' := by
  have hval : ∀ (j : Nat) t v, Try.f9.params[j]? = some t → args[j]? = some v → Value.okWide Try.prog W .any base t v := hval0
  have hW' := hW
  obtain ⟨p, q, hA0, hV, rfl, hfz, hnd⟩ := hW
  have hA : DataW.TrodAll enc Try.prog W 0 (fun _ => true) true Try.f9.params.toList args.toList ds p := hA0
  rw [Try.params9] at hA hval
  obtain ⟨v0, vs0, d0, ds0, p0, q0, hargs, rfl, rfl, h0, r0⟩ := trodAll_cons hA
  obtain ⟨v1, vs1, d1, ds1, p1, q1, rfl, rfl, rfl, h1, r1⟩ := trodAll_cons r0
  obtain ⟨v2, vs2, d2, ds2, p2, q2, rfl, rfl, rfl, h2, r2⟩ := trodAll_cons r1
  obtain ⟨rfl, rfl, rfl⟩ := trodAll_nil r2
  obtain rfl : args = #[v0, v1, v2] := by cases args; simp_all
  obtain ⟨rfl, rfl⟩ := trodVars_none hV
  have hbulk : Rows.uptoBulk d0 + (Rows.uptoBulk d1 + (Rows.uptoBulk d2)) ≤ 1048576 := by
    have := of_decide_eq_true hk
    simpa [Rows.uptoBulkAll] using this
  obtain ⟨x0, hsz0, hok0, hrep0⟩ := arg_agg Try.underlying39 (hval 0 39 v0 rfl rfl) opens39 h0 (pr := prot (B.env fun _ => False) []) (fun a => prot_empty a)
  obtain ⟨x1, hsz1, hok1, hrep1⟩ := arg_agg Try.underlying63 (hval 1 63 v1 rfl rfl) opens63 h1 (pr := prot (B.env fun _ => False) []) (fun a => prot_empty a)
  have hs1 : szV x1 ≤ Rows.uptoBulk d1 := hsz1
  rw [cApi_Value_eq] at hrep1
  obtain ⟨x2, hsz2, hok2, hrep2⟩ := arg_one opens26 (fun x => ⟨_, rfl⟩) (vcells_slice Try.underlying26 (hval 2 26 v2 rfl rfl)) h2 (pr := prot (B.env fun _ => False) []) (fun a => prot_empty a)
  refine (law_calls G_none (law12_WindowCodec_con (law_windowCodec x0 x1 x2 hok0 (by omega))) Try.func9 rfl (by decide +kernel) (W := W) (args := #[v0, v1, v2]) ⟨hrep0, hrep1, hrep2 _ rfl, trivial⟩).mono fun e W' ⟨he, hbel⟩ => ?_
  exact ⟨_, he, law_post hW' rfl rfl rfl Try.underlying4 laid_ok (by decide +kernel) hbel⟩

set_option maxRecDepth 100000 in
theorem windowCodec_lifted (os : Os) (started : os.Started) (H : Type) (enc : TypeId × Value → H) (F : Stop.Interp) :
    ReturnsInHanded {} Try.checked os 9 .any ((Rows.OpenSpec.upto Rows.windowCodecSpec).pre6 enc Try.prog Try.f9 Rows.windowCodecUptoRow.domain false) (((Rows.OpenSpec.upto Rows.windowCodecSpec).at F).post enc Try.prog Try.f9 false true false false) := by
  refine returnsInHanded_of_cond (C := Try.checked) (s := Rows.OpenSpec.upto Rows.windowCodecSpec) (k := Rows.uptoSmall) rfl own started (by kernel_rfl) Try.func9
    (OpenSpec.witness (enc := enc) (C := Try.checked) (s := Rows.OpenSpec.upto Rows.windowCodecSpec) (k := Rows.uptoSmall) rfl false ⟨#[], #[.agg #[.int .i64 0, .int .i64 0, .int .i64 0, .int .i64 0, .slice none 0 0], .agg #[.int .i64 0, .int .i64 0, .slice none 0 0, .slice none 0 0], .slice none 0 0], []⟩ 8 (by kernel_rfl) (by kernel_rfl) (by kernel_rfl)
      (x := ([.agg [.lit (.int .i64 0), .lit (.int .i64 0), .lit (.int .i64 0), .lit (.int .i64 0), .nil], .agg [.lit (.int .i64 0), .lit (.int .i64 0), .nil, .nil], .nil], [], [])) (by kernel_rfl) rfl (by kernel_rfl)) ?_
  intro W base args ds gs before hval hW _ hk _
  exact windowCodec_contract H enc W base args ds gs before hval hW hk

theorem windowCodec_upto : Rows.WindowCodecUptoSaid :=
  OpenClaim.holds_of_cond 9 Try.f9 rfl rfl rfl rfl rfl rfl rfl ⟨rfl, rfl, rfl, rfl, rfl⟩ rfl rfl rfl rfl rfl (by kernel_rfl) Try.func9 (by kernel_rfl)
    (of_decide_eq_true (by kernel_rfl)) (by unfold Func.isWrapper; first | (rw [if_pos (by decide +kernel)]; kernel_rfl) | (rw [if_neg (by decide +kernel)]; exact ⟨rfl, rfl⟩))
    (fun os started H enc _ F => windowCodec_lifted os started H enc F)

end Go.Proofs.Ytomjphpnpcgacaa
