/-
  Part 41.
-/
import Derived.Test.YtnfoiocigicdnaaGreatDoorYB39
import Derived.Test.YtnfoiocigicdnaaGreatDoorYB40
import Derived.KernelRfl
namespace Go.Proofs.YtnfoiocigicdnaaGreatDoor
open Go.Rv
set_option linter.unusedVariables false
set_option linter.unusedSimpArgs false
set_option maxRecDepth 20000
set_option maxHeartbeats 4000000
open Go.RowKit in
theorem L0 {fn s : List UInt8} {b c e : Int} (he : e = 1 ∨ e = 2) (hl : s.length ≤ 281474976710656) : Con B 169 [.str fn, .str s, i64 b, i64 c, erA 230 e] [] (fun r' σ' => r' = Ac6 233 true ∧ σ' = []) := by
  refine ⟨fun F w g vs hm ha => .inl ⟨⟨Tryz.f169, _, Tryz.func169, rfl, by decide +kernel⟩, ?_⟩⟩
  have hg : g = [] := List.length_eq_zero_iff.1 hm.len
  subst hg
  obtain ⟨vs⟩ := vs
  match vs, ha with
  | [u1, u2, u3, u4, u5], ⟨h1, h2, h3, h4, h5, _⟩ =>
    have e3 := Ci h3
    have e4 := Ci h4
    subst e3 e4
    cases h1 with
    | str _ b1 _ hb1 =>
      cases h2 with
      | str _ b2 _ hb2 =>
        have hsz : b2.size = s.length := by rw [← hb2]; rfl
        have fin : ∀ (ev : Value) (w' : World), Below w.heap.size w w' → Rep w' (Aw (B.env F) []) [] ev (Ac6 233 true) →
            ∃ v' r' σ' g', Ending.returned ev = Ending.returned v' ∧ (r' = Ac6 233 true ∧ σ' = []) ∧ Mem (B.env F) w' g' σ' ∧ Evo (B.env F) 0 w [] w' g' ∧ Rep w' (Aw (B.env F) g') g' v' r' :=
          fun ev w' hb2 hr => ⟨_, _, [], [], rfl, ⟨rfl, rfl⟩, I7 hm hb2, Hq hb2, hr⟩
        rcases he with rfl | rfl
        · rw [AmP] at h5
          cases h5 with
          | iface _ _ v _ hv =>
            have ev := Ci hv
            subst ev
            obtain ⟨ev, q2, te, pe, q3⟩ := K9 hm (i := 8) rfl
            refine (Any.strconv_toError_range { Tryz.laysC172 with } b1 b2 b c ev w (by omega) q2 (.inr ⟨te, pe, q3⟩)).mono ?_
            rintro e w' ⟨N, rfl, _, _, hw⟩
            exact fin _ w' hw (.iface _ _ _ _ (.junk _ _))
        · rw [AlM] at h5
          cases h5 with
          | iface _ _ v _ hv =>
            have ev := Ci hv
            subst ev
            obtain ⟨ev, q2, te, pe, q3⟩ := K9 hm (i := 7) rfl
            refine (Any.strconv_toError_syntax { Tryz.laysC172 with } b1 b2 b c ev w (by omega) q2 (.inr ⟨te, pe, q3⟩)).mono ?_
            rintro e w' ⟨N, rfl, _, _, hw⟩
            exact fin _ w' hw (.iface _ _ _ _ (.junk _ _))
theorem J4 {s : List UInt8} {b c : Int} {r : UInt64 × Bool} (h : Cb s b c = some r) : Con B 150 [.str s, i64 b, i64 c] [] (fun r' σ' => r' = .tup [u64 r.1, Ac6 233 r.2] ∧ σ' = []) := by
  unfold Cb at h
  split at h
  case isFalse => cases h
  rename_i hbc
  obtain ⟨rfl, rfl, hl⟩ := hbc
  replace h := Kx h
  obtain ⟨⟨n, e⟩, hy, h⟩ := h
  dsimp only at h
  split at h
  case isFalse => cases h
  rename_i hee
  obtain rfl := Option.some.inj h
  refine K0 (N := 26) (rs := [.tmp 6, .tmp 7]) ok Tryz.func150 rfl (by decide +kernel) rfl rfl (Nat.le_of_ble_eq_true rfl) (fun F => ?_)
  have hE := ok.env F
  show Run (B.env F) 0 _ ⟨Ao 26 [(0, .str s), (1, i64 16), (2, i64 8)], []⟩ _
  refine Md ?_
  refine Fp hE [0, 1, 2] (fr' := [(0, .str s), (1, i64 16), (2, i64 8)]) (σ' := []) ⟨_, Aa, ?_⟩ ?_
  · simp only [go_sem]
  refine Fp hE [0, 1, 2, 8, 9] (fr' := [(0, .str s), (1, i64 16), (2, i64 8), (8, u64 n), (9, erA 230 e)]) (σ' := []) ⟨_, Gp (l := [(14, 170, [.str s, i64 16, i64 8], .tup [u64 n, erA 230 e])]) ⟨Hz hy, trivial⟩, ?_⟩ ?_
  · simp only [go_sem]
  by_cases h0 : e = 0
  · subst h0
    refine Od ?_
    refine Fp hE [8, 18] (fr' := [(8, u64 n), (18, .bool false)]) (σ' := []) ⟨_, Aa, ?_⟩ ?_
    · simp only [go_sem]
    refine Kp (b := false) rfl (by decide) (fun hb => by cases hb) (fun hb => ?_)
    refine Abl ?_
    refine Ain ?_
    refine Fp hE [6, 7] (fr' := [(6, u64 n), (7, .val .nilIface)]) (σ' := []) ⟨_, Aa, ?_⟩ ?_
    · simp only [go_sem]
    refine Um ?_
    refine Abt (Weak.refl _ _) ?_
    refine AeM (.inr rfl) ?_
    simp only [go_sem]
    rfl
  · have he : e = 1 ∨ e = 2 := by omega
    have hc : erA 230 e = .iface 230 (i64 e) := by rw [erA, if_neg h0]
    refine Od ?_
    refine Fp hE [0, 1, 2, 8, 9, 18] (fr' := [(0, .str s), (1, i64 16), (2, i64 8), (8, u64 n), (9, erA 230 e), (18, .bool true)]) (σ' := []) ⟨_, Aa, ?_⟩ ?_
    · rw [hc]; simp only [go_sem]
    refine Kp (b := true) rfl (by decide) (fun hb => ?_) (fun hb => by cases hb)
    have ho : (B.env F).own 169 = false := rfl
    refine Fp hE [6, 7] (fr' := [(6, u64 n), (7, Ac6 233 true)]) (σ' := []) ⟨_, Gp (l := [(24, 169, [.str [80, 97, 114, 115, 101, 85, 105, 110, 116], .str s, i64 16, i64 8, erA 230 e], Ac6 233 true)]) ⟨L0 he hl, trivial⟩, ?_⟩ ?_
    · simp only [go_sem, ho]
    refine Um ?_
    refine Aja ?_
    refine Abt (Weak.refl _ _) ?_
    refine AeM (.inr rfl) ?_
    have hn : (e != 0) = true := by simpa using h0
    simp only [go_sem, hn]
theorem Mq {c r} (h : Ex c = some r) : Con B 109 [.str c] [] (fun r' σ' => r' = .tup [.str r.1, .bool r.2] ∧ σ' = []) := by
  refine Cw 44 [.tmp 2, .tmp 3] Tryz.func109 (fun F hE => ?_) h
  unfold Ex
  refine T0 [0] ?_
  refine T0 [0, 4] ?_
  refine Jo (fun b => ⟨Ao 44 [(4, .tref 0 108)], [.box [.nref 0, .bs false 1 (b.length) 0 (b.length)] false, .tb 5 b]⟩) ?_ ?_
  · intro w f
    refine T0 [0, 4, 5] ?_
    refine Sb ?_
    refine Lo (fun (v : Int × List UInt8) => (⟨Ao 44 [(0, .str c), (4, .tref 0 108), (5, i64 v.1)], [.box [.nref 0, .bs false 1 (v.2.length) 0 (v.2.length)] false, .tb 5 v.2]⟩ : St)) ((Qa 0 1 5 rfl rfl).trans (ws [0, 1])) ?_
    rintro ⟨k, a⟩ x n d e
    show B3 c k a = some n → _
    unfold B3
    refine Sq <|T0 [0, 4, 5, 12] ?_
    refine Cd ?_ ?_
    · refine Sk <|Tn <|Sq <|Sb <|?_
      refine Ck fun o => ?_
      refine Te [0, 4, 5, 6] Aa (Ev (by simp only [go_sem, qR o]; exact Ac)) ?_
      refine Jo (fun (v : Int × UInt8) => (⟨Ao 44 [(0, .str c), (4, .tref 0 108), (5, i64 v.1), (6, u8 v.2)], [.box [.nref 0, .bs false 1 (a.length) 0 (a.length)] false, .tb 5 a]⟩ : St)) ?_ ?_
      · intro y g
        refine T0 [0, 4, 5, 6, 19] ?_
        refine Cd ?_ ?_
        · refine Sq <|T0 [0, 4, 5, 24] ?_
          refine Cd ?_ ?_
          · refine T0 [2, 3] ?_
            exact Sr <|Tr <|Jr g <|Br <|Tr <|Lr e d <|Br <|Jr f <|Rr
          · refine Sk <|Tn <|?_
            refine Ck fun p => ?_
            refine Ck fun q => ?_
            refine Bd fun z s => ?_
            refine Te [0, 4, 5, 7, 8] (o1 32 (J4 s)) (Ev (by simp only [go_sem, p, q]; exact Ac)) ?_
            refine Sq <|T0 [0, 4, 5, 7, 36] ?_
            refine Cd ?_ ?_
            · refine T0 [2, 3] ?_
              exact Sr <|Tr <|Jr g <|Br <|Tr <|Lr e d <|Br <|Jr f <|Rr
            · refine Sk <|Tn <|T0 [0, 4, 5, 6] ?_
              refine F0 [0, 4, 5, 6] ?_
              exact Jn (ws [0, 1])
        · refine Sk ?_
          exact Jn (ws [0, 1])
      rintro ⟨aa, t⟩
      refine Bd fun ab u => ?_
      refine Fe [0, 4, 5] (Aj (l := []) (m := [(42, 50, [.tref 0 108, u8 t], [.box [.nref 0, .bs false 1 (a.length) 0 (a.length)] false, .tb 5 a], _, _)]) trivial ⟨(wc (Aq u) [0, 1]), trivial⟩) Ev ?_
      refine Bn <|Tn <|F0 [0, 4, 5] ?_
      exact Ln (ws [0, 1])
    · refine Sx <|Tx <|Lx e d <|Bx <|?_
      exact Jn ((ws (l' := [(4, .tref 0 108)]) (σ' := [.box [.nref 0, .bs false 1 (a.length) 0 (a.length)] false, .tb 5 a]) [0, 1]).trans (ws [0, 1]))
  intro b
  refine Ck fun i => ?_
  refine Ck fun j => ?_
  refine Te [2, 3] (Aj (l := []) (m := [(43, 54, [.tref 0 108], [.box [.nref 0, .bs false 1 (b.length) 0 (b.length)] false, .tb 5 b], .str b, [.box [.nref 0, .junk] false, Ab4 b.length])]) trivial ⟨(Qy rfl rfl i j rfl), trivial⟩) (Ev (by simp only [go_sem, i, j]; exact Ac)) ?_
  exact Sr <|Rr
open Go.RowKit in
theorem O5 : Con B 109 [.str []] [] (fun r' σ' => r' = .tup [.str [], .bool true] ∧ σ' = []) := by
  refine ⟨fun F w g vs hm ha => .inl ⟨⟨Tryz.f109, _, Tryz.func109, rfl, by decide +kernel⟩, ?_⟩⟩
  have hg : g = [] := List.length_eq_zero_iff.1 hm.len
  subst hg
  obtain ⟨vs⟩ := vs
  match vs, ha with
  | [u], ⟨h1, _⟩ =>
    cases h1 with
    | str _ b _ hb =>
      have eb : b = ⟨#[]⟩ := by
        obtain ⟨⟨l⟩⟩ := b
        simp only at hb
        subst hb; rfl
      subst eb
      refine (Sj w).mono ?_
      rintro e w' ⟨rfl, rfl⟩
      have hb2 : Below w.heap.size w (w.alloc (.cells #[.pointer none, .slice none 0 0] 108)).drew := ((Below.refl _ w).alloc (Nat.le_refl _) _).drew
      exact ⟨_, _, [], [], rfl, ⟨rfl, rfl⟩, I7 hm hb2, Hq hb2, T1 (.str _ _ _ rfl) (.bool _ _)⟩
theorem O9 {s : List UInt8} {r : List UInt8 × Bool} (h : C7 s = some r) : Con B 109 [.str s] [] (fun r' σ' => r' = .tup [.str r.1, .bool r.2] ∧ σ' = []) := by
  unfold C7 at h
  split at h
  · rename_i e
    subst e
    cases h
    exact O5
  · exact Mq h
theorem W8 {a t r} (h : Cp a t = some r) : Con B 68 [.ref 0 0, .str t] [.box [i64 a.Kind, i64 a.Ref.Railway, i64 a.Ref.No, i64 a.Wagon, i64 a.Place, i64 a.Other, i64 a.Number, i64 a.From, i64 a.To, i64 a.Code, i64 a.Dest, i64 a.Class, i64 a.Weight, i64 a.Amount, .str a.Text, .bs false 1 (a.Parts.length) 0 (a.Parts.length)] false, .buf 3 (L Ab a.Parts) false] (fun r' σ' => r' = .bool r.1 ∧ σ' = [.box [i64 r.2.Kind, i64 r.2.Ref.Railway, i64 r.2.Ref.No, i64 r.2.Wagon, i64 r.2.Place, i64 r.2.Other, i64 r.2.Number, i64 r.2.From, i64 r.2.To, i64 r.2.Code, i64 r.2.Dest, i64 r.2.Class, i64 r.2.Weight, i64 r.2.Amount, .str r.2.Text, .bs false 1 (r.2.Parts.length) 0 (r.2.Parts.length)] false, .buf 3 (L Ab r.2.Parts) false]) := by
  refine Co 2 96 [.tmp 4] Tryz.func68 (fun F hE => ?_) h
  unfold Cp
  refine Te [0, 1, 4] Aa (Ev (by simp only [go_sem, Ae, Int.reduceLT, Int.reduceAdd, Int.reduceSub, Nat.reduceMul, Nat.reduceGT, Nat.reduceLeDiff, decide_true, decide_false, Bool.false_eq_true, Int.reduceBEq, Int.reduceGT, Int.reduceLE, Int.reduceGE, beq_self_eq_true]; exact Ac)) ?_
  refine Sq ?_
  refine Te [0, 1, 4, 8] Aa (Ev (by simp only [go_sem, Ae, Int.reduceLT, Int.reduceAdd, Int.reduceSub, Nat.reduceMul, Nat.reduceGT, Nat.reduceLeDiff, decide_true, decide_false, Bool.false_eq_true, Int.reduceBEq, Int.reduceGT, Int.reduceLE, Int.reduceGE, beq_self_eq_true]; exact Ac)) ?_
  refine Cd ?_ ?_
  · refine Te [4] Aa (Ev (by simp only [go_sem, Ae, Int.reduceLT, Int.reduceAdd, Int.reduceSub, Nat.reduceMul, Nat.reduceGT, Nat.reduceLeDiff, decide_true, decide_false, Bool.false_eq_true, Int.reduceBEq, Int.reduceGT, Int.reduceLE, Int.reduceGE, beq_self_eq_true]; exact Ac)) ?_
    exact Sr <|Tr <|Ro [0, 1]
  · refine Sk <|Tn <|?_
    refine Te [0, 1, 4] Aa (Ev (by simp only [go_sem, Ae, Int.reduceLT, Int.reduceAdd, Int.reduceSub, Nat.reduceMul, Nat.reduceGT, Nat.reduceLeDiff, decide_true, decide_false, Bool.false_eq_true, Int.reduceBEq, Int.reduceGT, Int.reduceLE, Int.reduceGE, beq_self_eq_true]; exact Ac)) ?_
    refine Ja (fun ⟨u, v, w, x, y, z, aa, ab, ac, ad, ae, af, ag, ah, ai, c⟩ => ⟨Ao 96 [(4, .bool u)], [.box [i64 a.Kind, i64 v, i64 w, i64 x, i64 y, i64 z, i64 aa, i64 ab, i64 ac, i64 ad, i64 ae, i64 af, i64 ag, i64 ah, .str ai, .bs false 1 (c.length) 0 (c.length)] false, .buf 3 (L Ab c) false]⟩) ?_ ?_
    · intro bB
      refine Ck fun aH => ?_
      refine Bd fun bC aI => ?_
      refine Lt fun b aJ => ?_
      refine Te (fr' := [(0, _), (1, _), (4, _), (6, i64 b)]) [0, 1, 4, 6] (o1 11 (Ka aI)) (Ev (by simp only [go_sem, Ae, Int.reduceLT, Int.reduceAdd, Int.reduceSub, Nat.reduceMul, Nat.reduceGT, Nat.reduceLeDiff, decide_true, decide_false, Bool.false_eq_true, Int.reduceBEq, Int.reduceGT, Int.reduceLE, Int.reduceGE, beq_self_eq_true, qL aH, aJ]; exact Ac)) ?_
      refine Sp (fun aj => ?_) fun aj => ?_
      · obtain rfl : b = 0 := eq_of_beq aj
        refine Sb ?_
        refine Te [0, 1, 4, 6, 12] Aa (Ev (by simp only [go_sem, Ae, Int.reduceLT, Int.reduceAdd, Int.reduceSub, Nat.reduceMul, Nat.reduceGT, Nat.reduceLeDiff, decide_true, decide_false, Bool.false_eq_true, Int.reduceBEq, Int.reduceGT, Int.reduceLE, Int.reduceGE, beq_self_eq_true]; exact Ac)) ?_
        refine Ct ?_
        refine Ck fun aK => ?_
        refine Bd fun d aL => ?_
        refine Te [0, 4, 5, 6] (o1 18 (A4 aL)) (Ev (by simp only [go_sem, Ae, Int.reduceLT, Int.reduceAdd, Int.reduceSub, Nat.reduceMul, Nat.reduceGT, Nat.reduceLeDiff, decide_true, decide_false, Bool.false_eq_true, Int.reduceBEq, Int.reduceGT, Int.reduceLE, Int.reduceGE, beq_self_eq_true, aK]; exact Ac)) ?_
        refine Te [0, 4, 5, 6, 21] Aa (Ev (by simp only [go_sem, Ae, Int.reduceLT, Int.reduceAdd, Int.reduceSub, Nat.reduceMul, Nat.reduceGT, Nat.reduceLeDiff, decide_true, decide_false, Bool.false_eq_true, Int.reduceBEq, Int.reduceGT, Int.reduceLE, Int.reduceGE, beq_self_eq_true]; exact Ac)) ?_
        refine Cd ?_ ?_
        · have ak : InR 0 11 := by decide
          refine Ck fun aM => ?_
          intro h
          refine Dp hE mixed [[], [0], [], [0, 1, 2], [], [4], [4, 5], [0, 1, 2, 3, 4, 5, 6], [0, 1, 2, 3, 4, 5, 6, 7]] (by kernel_rfl) [26, 27] [4, 26, 27] (by kernel_rfl) (Dm E3) (fr' := [(4, .bool d.2), (26, .sl false (L M8 d.1)), (27, .rp [i64 (nth d.1 0)])]) (σ' := [.box [i64 a.Kind, i64 a.Ref.Railway, i64 a.Ref.No, i64 (nth d.1 0), i64 a.Place, i64 a.Other, i64 a.Number, i64 a.From, i64 a.To, i64 a.Code, i64 a.Dest, i64 a.Class, i64 a.Weight, i64 a.Amount, .str a.Text, .bs false 1 (a.Parts.length) 0 (a.Parts.length)] false, .buf 3 (L Ab a.Parts) false]) ⟨rfl, rfl, trivial⟩ ⟨_, (Aj (l := []) (m := [(23, 51, [.ref 0 0], [.box [i64 a.Kind, i64 a.Ref.Railway, i64 a.Ref.No, i64 a.Wagon, i64 a.Place, i64 a.Other, i64 a.Number, i64 a.From, i64 a.To, i64 a.Code, i64 a.Dest, i64 a.Class, i64 a.Weight, i64 a.Amount, .str a.Text, .bs false 1 (a.Parts.length) 0 (a.Parts.length)] false, .buf 3 (L Ab a.Parts) false], .agg [.ref 0 3, .ref 0 4, .ref 0 5, .ref 0 6, .ref 0 7, .ref 0 8, .ref 0 9, .ref 0 10, .ref 0 11, .ref 0 12, .ref 0 13], [.box [i64 a.Kind, i64 a.Ref.Railway, i64 a.Ref.No, i64 a.Wagon, i64 a.Place, i64 a.Other, i64 a.Number, i64 a.From, i64 a.To, i64 a.Code, i64 a.Dest, i64 a.Class, i64 a.Weight, i64 a.Amount, .str a.Text, .bs false 1 (a.Parts.length) 0 (a.Parts.length)] false, .buf 3 (L Ab a.Parts) false])]) trivial ⟨A3, trivial⟩), ?_⟩ ?_
          · simp only [go_sem, Ae, Int.reduceLT, Int.reduceAdd, Int.reduceSub, Nat.reduceMul, Nat.reduceGT, Nat.reduceLeDiff, decide_true, decide_false, Bool.false_eq_true, Int.reduceBEq, Int.reduceGT, Int.reduceLE, Int.reduceGE, beq_self_eq_true, ak, ak.2, qL aM]
          revert h
          refine Bn ?_
          exact Jm (ws [0, 1])
        · refine Sk <|Bn <|?_
          exact Jm (ws [0, 1])
      · skip
        refine Sp (fun al => ?_) fun al => ?_
        · obtain rfl : b = 1 := eq_of_beq al
          refine Sb ?_
          refine Te [0, 1, 4, 6, 12] Aa (Ev (by simp only [go_sem, Ae, Int.reduceLT, Int.reduceAdd, Int.reduceSub, Nat.reduceMul, Nat.reduceGT, Nat.reduceLeDiff, decide_true, decide_false, Bool.false_eq_true, Int.reduceBEq, Int.reduceGT, Int.reduceLE, Int.reduceGE, beq_self_eq_true]; exact Ac)) ?_
          refine Ct ?_
          refine Ck fun aN => ?_
          refine Bd fun e aO => ?_
          refine Te [0, 4, 5, 6] (o1 18 (A4 aO)) (Ev (by simp only [go_sem, Ae, Int.reduceLT, Int.reduceAdd, Int.reduceSub, Nat.reduceMul, Nat.reduceGT, Nat.reduceLeDiff, decide_true, decide_false, Bool.false_eq_true, Int.reduceBEq, Int.reduceGT, Int.reduceLE, Int.reduceGE, beq_self_eq_true, aN]; exact Ac)) ?_
          refine Te [0, 4, 5, 6, 21] Aa (Ev (by simp only [go_sem, Ae, Int.reduceLT, Int.reduceAdd, Int.reduceSub, Nat.reduceMul, Nat.reduceGT, Nat.reduceLeDiff, decide_true, decide_false, Bool.false_eq_true, Int.reduceBEq, Int.reduceGT, Int.reduceLE, Int.reduceGE, beq_self_eq_true]; exact Ac)) ?_
          refine Cd ?_ ?_
          · have am : InR 1 11 := by decide
            refine Ck fun aP => ?_
            intro h
            refine Dp hE mixed [[], [0], [], [0, 1, 2], [], [4], [4, 5], [0, 1, 2, 3, 4, 5, 6], [0, 1, 2, 3, 4, 5, 6, 7]] (by kernel_rfl) [26, 27] [4, 26, 27] (by kernel_rfl) (Dm E3) (fr' := [(4, .bool e.2), (26, .sl false (L M8 e.1)), (27, .rp [i64 (nth e.1 0)])]) (σ' := [.box [i64 a.Kind, i64 a.Ref.Railway, i64 a.Ref.No, i64 a.Wagon, i64 (nth e.1 0), i64 a.Other, i64 a.Number, i64 a.From, i64 a.To, i64 a.Code, i64 a.Dest, i64 a.Class, i64 a.Weight, i64 a.Amount, .str a.Text, .bs false 1 (a.Parts.length) 0 (a.Parts.length)] false, .buf 3 (L Ab a.Parts) false]) ⟨rfl, rfl, trivial⟩ ⟨_, (Aj (l := []) (m := [(23, 51, [.ref 0 0], [.box [i64 a.Kind, i64 a.Ref.Railway, i64 a.Ref.No, i64 a.Wagon, i64 a.Place, i64 a.Other, i64 a.Number, i64 a.From, i64 a.To, i64 a.Code, i64 a.Dest, i64 a.Class, i64 a.Weight, i64 a.Amount, .str a.Text, .bs false 1 (a.Parts.length) 0 (a.Parts.length)] false, .buf 3 (L Ab a.Parts) false], .agg [.ref 0 3, .ref 0 4, .ref 0 5, .ref 0 6, .ref 0 7, .ref 0 8, .ref 0 9, .ref 0 10, .ref 0 11, .ref 0 12, .ref 0 13], [.box [i64 a.Kind, i64 a.Ref.Railway, i64 a.Ref.No, i64 a.Wagon, i64 a.Place, i64 a.Other, i64 a.Number, i64 a.From, i64 a.To, i64 a.Code, i64 a.Dest, i64 a.Class, i64 a.Weight, i64 a.Amount, .str a.Text, .bs false 1 (a.Parts.length) 0 (a.Parts.length)] false, .buf 3 (L Ab a.Parts) false])]) trivial ⟨A3, trivial⟩), ?_⟩ ?_
            · simp only [go_sem, Ae, Int.reduceLT, Int.reduceAdd, Int.reduceSub, Nat.reduceMul, Nat.reduceGT, Nat.reduceLeDiff, decide_true, decide_false, Bool.false_eq_true, Int.reduceBEq, Int.reduceGT, Int.reduceLE, Int.reduceGE, beq_self_eq_true, am, am.2, qL aP]
            revert h
            refine Bn ?_
            exact Jm (ws [0, 1])
          · refine Sk <|Bn <|?_
            exact Jm (ws [0, 1])
        · skip
          refine Sp (fun an => ?_) fun an => ?_
          · obtain rfl : b = 2 := eq_of_beq an
            refine Sb ?_
            refine Te [0, 1, 4, 6, 12] Aa (Ev (by simp only [go_sem, Ae, Int.reduceLT, Int.reduceAdd, Int.reduceSub, Nat.reduceMul, Nat.reduceGT, Nat.reduceLeDiff, decide_true, decide_false, Bool.false_eq_true, Int.reduceBEq, Int.reduceGT, Int.reduceLE, Int.reduceGE, beq_self_eq_true]; exact Ac)) ?_
            refine Ct ?_
            refine Ck fun aQ => ?_
            refine Bd fun f aR => ?_
            refine Te [0, 4, 5, 6] (o1 18 (A4 aR)) (Ev (by simp only [go_sem, Ae, Int.reduceLT, Int.reduceAdd, Int.reduceSub, Nat.reduceMul, Nat.reduceGT, Nat.reduceLeDiff, decide_true, decide_false, Bool.false_eq_true, Int.reduceBEq, Int.reduceGT, Int.reduceLE, Int.reduceGE, beq_self_eq_true, aQ]; exact Ac)) ?_
            refine Te [0, 4, 5, 6, 21] Aa (Ev (by simp only [go_sem, Ae, Int.reduceLT, Int.reduceAdd, Int.reduceSub, Nat.reduceMul, Nat.reduceGT, Nat.reduceLeDiff, decide_true, decide_false, Bool.false_eq_true, Int.reduceBEq, Int.reduceGT, Int.reduceLE, Int.reduceGE, beq_self_eq_true]; exact Ac)) ?_
            refine Cd ?_ ?_
            · have ao : InR 2 11 := by decide
              refine Ck fun aS => ?_
              intro h
              refine Dp hE mixed [[], [0], [], [0, 1, 2], [], [4], [4, 5], [0, 1, 2, 3, 4, 5, 6], [0, 1, 2, 3, 4, 5, 6, 7]] (by kernel_rfl) [26, 27] [4, 26, 27] (by kernel_rfl) (Dm E3) (fr' := [(4, .bool f.2), (26, .sl false (L M8 f.1)), (27, .rp [i64 (nth f.1 0)])]) (σ' := [.box [i64 a.Kind, i64 a.Ref.Railway, i64 a.Ref.No, i64 a.Wagon, i64 a.Place, i64 (nth f.1 0), i64 a.Number, i64 a.From, i64 a.To, i64 a.Code, i64 a.Dest, i64 a.Class, i64 a.Weight, i64 a.Amount, .str a.Text, .bs false 1 (a.Parts.length) 0 (a.Parts.length)] false, .buf 3 (L Ab a.Parts) false]) ⟨rfl, rfl, trivial⟩ ⟨_, (Aj (l := []) (m := [(23, 51, [.ref 0 0], [.box [i64 a.Kind, i64 a.Ref.Railway, i64 a.Ref.No, i64 a.Wagon, i64 a.Place, i64 a.Other, i64 a.Number, i64 a.From, i64 a.To, i64 a.Code, i64 a.Dest, i64 a.Class, i64 a.Weight, i64 a.Amount, .str a.Text, .bs false 1 (a.Parts.length) 0 (a.Parts.length)] false, .buf 3 (L Ab a.Parts) false], .agg [.ref 0 3, .ref 0 4, .ref 0 5, .ref 0 6, .ref 0 7, .ref 0 8, .ref 0 9, .ref 0 10, .ref 0 11, .ref 0 12, .ref 0 13], [.box [i64 a.Kind, i64 a.Ref.Railway, i64 a.Ref.No, i64 a.Wagon, i64 a.Place, i64 a.Other, i64 a.Number, i64 a.From, i64 a.To, i64 a.Code, i64 a.Dest, i64 a.Class, i64 a.Weight, i64 a.Amount, .str a.Text, .bs false 1 (a.Parts.length) 0 (a.Parts.length)] false, .buf 3 (L Ab a.Parts) false])]) trivial ⟨A3, trivial⟩), ?_⟩ ?_
              · simp only [go_sem, Ae, Int.reduceLT, Int.reduceAdd, Int.reduceSub, Nat.reduceMul, Nat.reduceGT, Nat.reduceLeDiff, decide_true, decide_false, Bool.false_eq_true, Int.reduceBEq, Int.reduceGT, Int.reduceLE, Int.reduceGE, beq_self_eq_true, ao, ao.2, qL aS]
              revert h
              refine Bn ?_
              exact Jm (ws [0, 1])
            · refine Sk <|Bn <|?_
              exact Jm (ws [0, 1])
          · skip
            refine Sp (fun ap => ?_) fun ap => ?_
            · obtain rfl : b = 3 := eq_of_beq ap
              refine Sb ?_
              refine Te [0, 1, 4, 6, 12] Aa (Ev (by simp only [go_sem, Ae, Int.reduceLT, Int.reduceAdd, Int.reduceSub, Nat.reduceMul, Nat.reduceGT, Nat.reduceLeDiff, decide_true, decide_false, Bool.false_eq_true, Int.reduceBEq, Int.reduceGT, Int.reduceLE, Int.reduceGE, beq_self_eq_true]; exact Ac)) ?_
              refine Ct ?_
              refine Ck fun aT => ?_
              refine Bd fun g aU => ?_
              refine Te [0, 4, 5, 6] (o1 18 (A4 aU)) (Ev (by simp only [go_sem, Ae, Int.reduceLT, Int.reduceAdd, Int.reduceSub, Nat.reduceMul, Nat.reduceGT, Nat.reduceLeDiff, decide_true, decide_false, Bool.false_eq_true, Int.reduceBEq, Int.reduceGT, Int.reduceLE, Int.reduceGE, beq_self_eq_true, aT]; exact Ac)) ?_
              refine Te [0, 4, 5, 6, 21] Aa (Ev (by simp only [go_sem, Ae, Int.reduceLT, Int.reduceAdd, Int.reduceSub, Nat.reduceMul, Nat.reduceGT, Nat.reduceLeDiff, decide_true, decide_false, Bool.false_eq_true, Int.reduceBEq, Int.reduceGT, Int.reduceLE, Int.reduceGE, beq_self_eq_true]; exact Ac)) ?_
              refine Cd ?_ ?_
              · have aq : InR 3 11 := by decide
                refine Ck fun aV => ?_
                intro h
                refine Dp hE mixed [[], [0], [], [0, 1, 2], [], [4], [4, 5], [0, 1, 2, 3, 4, 5, 6], [0, 1, 2, 3, 4, 5, 6, 7]] (by kernel_rfl) [26, 27] [4, 26, 27] (by kernel_rfl) (Dm E3) (fr' := [(4, .bool g.2), (26, .sl false (L M8 g.1)), (27, .rp [i64 (nth g.1 0)])]) (σ' := [.box [i64 a.Kind, i64 a.Ref.Railway, i64 a.Ref.No, i64 a.Wagon, i64 a.Place, i64 a.Other, i64 (nth g.1 0), i64 a.From, i64 a.To, i64 a.Code, i64 a.Dest, i64 a.Class, i64 a.Weight, i64 a.Amount, .str a.Text, .bs false 1 (a.Parts.length) 0 (a.Parts.length)] false, .buf 3 (L Ab a.Parts) false]) ⟨rfl, rfl, trivial⟩ ⟨_, (Aj (l := []) (m := [(23, 51, [.ref 0 0], [.box [i64 a.Kind, i64 a.Ref.Railway, i64 a.Ref.No, i64 a.Wagon, i64 a.Place, i64 a.Other, i64 a.Number, i64 a.From, i64 a.To, i64 a.Code, i64 a.Dest, i64 a.Class, i64 a.Weight, i64 a.Amount, .str a.Text, .bs false 1 (a.Parts.length) 0 (a.Parts.length)] false, .buf 3 (L Ab a.Parts) false], .agg [.ref 0 3, .ref 0 4, .ref 0 5, .ref 0 6, .ref 0 7, .ref 0 8, .ref 0 9, .ref 0 10, .ref 0 11, .ref 0 12, .ref 0 13], [.box [i64 a.Kind, i64 a.Ref.Railway, i64 a.Ref.No, i64 a.Wagon, i64 a.Place, i64 a.Other, i64 a.Number, i64 a.From, i64 a.To, i64 a.Code, i64 a.Dest, i64 a.Class, i64 a.Weight, i64 a.Amount, .str a.Text, .bs false 1 (a.Parts.length) 0 (a.Parts.length)] false, .buf 3 (L Ab a.Parts) false])]) trivial ⟨A3, trivial⟩), ?_⟩ ?_
                · simp only [go_sem, Ae, Int.reduceLT, Int.reduceAdd, Int.reduceSub, Nat.reduceMul, Nat.reduceGT, Nat.reduceLeDiff, decide_true, decide_false, Bool.false_eq_true, Int.reduceBEq, Int.reduceGT, Int.reduceLE, Int.reduceGE, beq_self_eq_true, aq, aq.2, qL aV]
                revert h
                refine Bn ?_
                exact Jm (ws [0, 1])
              · refine Sk <|Bn <|?_
                exact Jm (ws [0, 1])
            · skip
              refine Sp (fun ar => ?_) fun ar => ?_
              · obtain rfl : b = 4 := eq_of_beq ar
                refine Sb ?_
                refine Te [0, 1, 4, 6, 12] Aa (Ev (by simp only [go_sem, Ae, Int.reduceLT, Int.reduceAdd, Int.reduceSub, Nat.reduceMul, Nat.reduceGT, Nat.reduceLeDiff, decide_true, decide_false, Bool.false_eq_true, Int.reduceBEq, Int.reduceGT, Int.reduceLE, Int.reduceGE, beq_self_eq_true]; exact Ac)) ?_
                refine Ct ?_
                refine Ck fun aW => ?_
                refine Bd fun i aX => ?_
                refine Te [0, 4, 5, 6] (o1 18 (A4 aX)) (Ev (by simp only [go_sem, Ae, Int.reduceLT, Int.reduceAdd, Int.reduceSub, Nat.reduceMul, Nat.reduceGT, Nat.reduceLeDiff, decide_true, decide_false, Bool.false_eq_true, Int.reduceBEq, Int.reduceGT, Int.reduceLE, Int.reduceGE, beq_self_eq_true, aW]; exact Ac)) ?_
                refine Te [0, 4, 5, 6, 21] Aa (Ev (by simp only [go_sem, Ae, Int.reduceLT, Int.reduceAdd, Int.reduceSub, Nat.reduceMul, Nat.reduceGT, Nat.reduceLeDiff, decide_true, decide_false, Bool.false_eq_true, Int.reduceBEq, Int.reduceGT, Int.reduceLE, Int.reduceGE, beq_self_eq_true]; exact Ac)) ?_
                refine Cd ?_ ?_
                · have au : InR 4 11 := by decide
                  refine Ck fun aY => ?_
                  intro h
                  refine Dp hE mixed [[], [0], [], [0, 1, 2], [], [4], [4, 5], [0, 1, 2, 3, 4, 5, 6], [0, 1, 2, 3, 4, 5, 6, 7]] (by kernel_rfl) [26, 27] [4, 26, 27] (by kernel_rfl) (Dm E3) (fr' := [(4, .bool i.2), (26, .sl false (L M8 i.1)), (27, .rp [i64 (nth i.1 0)])]) (σ' := [.box [i64 a.Kind, i64 a.Ref.Railway, i64 a.Ref.No, i64 a.Wagon, i64 a.Place, i64 a.Other, i64 a.Number, i64 (nth i.1 0), i64 a.To, i64 a.Code, i64 a.Dest, i64 a.Class, i64 a.Weight, i64 a.Amount, .str a.Text, .bs false 1 (a.Parts.length) 0 (a.Parts.length)] false, .buf 3 (L Ab a.Parts) false]) ⟨rfl, rfl, trivial⟩ ⟨_, (Aj (l := []) (m := [(23, 51, [.ref 0 0], [.box [i64 a.Kind, i64 a.Ref.Railway, i64 a.Ref.No, i64 a.Wagon, i64 a.Place, i64 a.Other, i64 a.Number, i64 a.From, i64 a.To, i64 a.Code, i64 a.Dest, i64 a.Class, i64 a.Weight, i64 a.Amount, .str a.Text, .bs false 1 (a.Parts.length) 0 (a.Parts.length)] false, .buf 3 (L Ab a.Parts) false], .agg [.ref 0 3, .ref 0 4, .ref 0 5, .ref 0 6, .ref 0 7, .ref 0 8, .ref 0 9, .ref 0 10, .ref 0 11, .ref 0 12, .ref 0 13], [.box [i64 a.Kind, i64 a.Ref.Railway, i64 a.Ref.No, i64 a.Wagon, i64 a.Place, i64 a.Other, i64 a.Number, i64 a.From, i64 a.To, i64 a.Code, i64 a.Dest, i64 a.Class, i64 a.Weight, i64 a.Amount, .str a.Text, .bs false 1 (a.Parts.length) 0 (a.Parts.length)] false, .buf 3 (L Ab a.Parts) false])]) trivial ⟨A3, trivial⟩), ?_⟩ ?_
                  · simp only [go_sem, Ae, Int.reduceLT, Int.reduceAdd, Int.reduceSub, Nat.reduceMul, Nat.reduceGT, Nat.reduceLeDiff, decide_true, decide_false, Bool.false_eq_true, Int.reduceBEq, Int.reduceGT, Int.reduceLE, Int.reduceGE, beq_self_eq_true, au, au.2, qL aY]
                  revert h
                  refine Bn ?_
                  exact Jm (ws [0, 1])
                · refine Sk <|Bn <|?_
                  exact Jm (ws [0, 1])
              · skip
                refine Sp (fun av => ?_) fun av => ?_
                · obtain rfl : b = 5 := eq_of_beq av
                  refine Sb ?_
                  refine Te [0, 1, 4, 6, 12] Aa (Ev (by simp only [go_sem, Ae, Int.reduceLT, Int.reduceAdd, Int.reduceSub, Nat.reduceMul, Nat.reduceGT, Nat.reduceLeDiff, decide_true, decide_false, Bool.false_eq_true, Int.reduceBEq, Int.reduceGT, Int.reduceLE, Int.reduceGE, beq_self_eq_true]; exact Ac)) ?_
                  refine Ct ?_
                  refine Ck fun aZ => ?_
                  refine Bd fun j a0 => ?_
                  refine Te [0, 4, 5, 6] (o1 18 (A4 a0)) (Ev (by simp only [go_sem, Ae, Int.reduceLT, Int.reduceAdd, Int.reduceSub, Nat.reduceMul, Nat.reduceGT, Nat.reduceLeDiff, decide_true, decide_false, Bool.false_eq_true, Int.reduceBEq, Int.reduceGT, Int.reduceLE, Int.reduceGE, beq_self_eq_true, aZ]; exact Ac)) ?_
                  refine Te [0, 4, 5, 6, 21] Aa (Ev (by simp only [go_sem, Ae, Int.reduceLT, Int.reduceAdd, Int.reduceSub, Nat.reduceMul, Nat.reduceGT, Nat.reduceLeDiff, decide_true, decide_false, Bool.false_eq_true, Int.reduceBEq, Int.reduceGT, Int.reduceLE, Int.reduceGE, beq_self_eq_true]; exact Ac)) ?_
                  refine Cd ?_ ?_
                  · have aw : InR 5 11 := by decide
                    refine Ck fun a1 => ?_
                    intro h
                    refine Dp hE mixed [[], [0], [], [0, 1, 2], [], [4], [4, 5], [0, 1, 2, 3, 4, 5, 6], [0, 1, 2, 3, 4, 5, 6, 7]] (by kernel_rfl) [26, 27] [4, 26, 27] (by kernel_rfl) (Dm E3) (fr' := [(4, .bool j.2), (26, .sl false (L M8 j.1)), (27, .rp [i64 (nth j.1 0)])]) (σ' := [.box [i64 a.Kind, i64 a.Ref.Railway, i64 a.Ref.No, i64 a.Wagon, i64 a.Place, i64 a.Other, i64 a.Number, i64 a.From, i64 (nth j.1 0), i64 a.Code, i64 a.Dest, i64 a.Class, i64 a.Weight, i64 a.Amount, .str a.Text, .bs false 1 (a.Parts.length) 0 (a.Parts.length)] false, .buf 3 (L Ab a.Parts) false]) ⟨rfl, rfl, trivial⟩ ⟨_, (Aj (l := []) (m := [(23, 51, [.ref 0 0], [.box [i64 a.Kind, i64 a.Ref.Railway, i64 a.Ref.No, i64 a.Wagon, i64 a.Place, i64 a.Other, i64 a.Number, i64 a.From, i64 a.To, i64 a.Code, i64 a.Dest, i64 a.Class, i64 a.Weight, i64 a.Amount, .str a.Text, .bs false 1 (a.Parts.length) 0 (a.Parts.length)] false, .buf 3 (L Ab a.Parts) false], .agg [.ref 0 3, .ref 0 4, .ref 0 5, .ref 0 6, .ref 0 7, .ref 0 8, .ref 0 9, .ref 0 10, .ref 0 11, .ref 0 12, .ref 0 13], [.box [i64 a.Kind, i64 a.Ref.Railway, i64 a.Ref.No, i64 a.Wagon, i64 a.Place, i64 a.Other, i64 a.Number, i64 a.From, i64 a.To, i64 a.Code, i64 a.Dest, i64 a.Class, i64 a.Weight, i64 a.Amount, .str a.Text, .bs false 1 (a.Parts.length) 0 (a.Parts.length)] false, .buf 3 (L Ab a.Parts) false])]) trivial ⟨A3, trivial⟩), ?_⟩ ?_
                    · simp only [go_sem, Ae, Int.reduceLT, Int.reduceAdd, Int.reduceSub, Nat.reduceMul, Nat.reduceGT, Nat.reduceLeDiff, decide_true, decide_false, Bool.false_eq_true, Int.reduceBEq, Int.reduceGT, Int.reduceLE, Int.reduceGE, beq_self_eq_true, aw, aw.2, qL a1]
                    revert h
                    refine Bn ?_
                    exact Jm (ws [0, 1])
                  · refine Sk <|Bn <|?_
                    exact Jm (ws [0, 1])
                · skip
                  refine Sp (fun ax => ?_) fun ax => ?_
                  · obtain rfl : b = 6 := eq_of_beq ax
                    refine Sb ?_
                    refine Te [0, 1, 4, 6, 12] Aa (Ev (by simp only [go_sem, Ae, Int.reduceLT, Int.reduceAdd, Int.reduceSub, Nat.reduceMul, Nat.reduceGT, Nat.reduceLeDiff, decide_true, decide_false, Bool.false_eq_true, Int.reduceBEq, Int.reduceGT, Int.reduceLE, Int.reduceGE, beq_self_eq_true]; exact Ac)) ?_
                    refine Ct ?_
                    refine Ck fun a2 => ?_
                    refine Bd fun k a3 => ?_
                    refine Te [0, 4, 5, 6] (o1 18 (A4 a3)) (Ev (by simp only [go_sem, Ae, Int.reduceLT, Int.reduceAdd, Int.reduceSub, Nat.reduceMul, Nat.reduceGT, Nat.reduceLeDiff, decide_true, decide_false, Bool.false_eq_true, Int.reduceBEq, Int.reduceGT, Int.reduceLE, Int.reduceGE, beq_self_eq_true, a2]; exact Ac)) ?_
                    refine Te [0, 4, 5, 6, 21] Aa (Ev (by simp only [go_sem, Ae, Int.reduceLT, Int.reduceAdd, Int.reduceSub, Nat.reduceMul, Nat.reduceGT, Nat.reduceLeDiff, decide_true, decide_false, Bool.false_eq_true, Int.reduceBEq, Int.reduceGT, Int.reduceLE, Int.reduceGE, beq_self_eq_true]; exact Ac)) ?_
                    refine Cd ?_ ?_
                    · have ay : InR 6 11 := by decide
                      refine Ck fun a4 => ?_
                      intro h
                      refine Dp hE mixed [[], [0], [], [0, 1, 2], [], [4], [4, 5], [0, 1, 2, 3, 4, 5, 6], [0, 1, 2, 3, 4, 5, 6, 7]] (by kernel_rfl) [26, 27] [4, 26, 27] (by kernel_rfl) (Dm E3) (fr' := [(4, .bool k.2), (26, .sl false (L M8 k.1)), (27, .rp [i64 (nth k.1 0)])]) (σ' := [.box [i64 a.Kind, i64 a.Ref.Railway, i64 a.Ref.No, i64 a.Wagon, i64 a.Place, i64 a.Other, i64 a.Number, i64 a.From, i64 a.To, i64 (nth k.1 0), i64 a.Dest, i64 a.Class, i64 a.Weight, i64 a.Amount, .str a.Text, .bs false 1 (a.Parts.length) 0 (a.Parts.length)] false, .buf 3 (L Ab a.Parts) false]) ⟨rfl, rfl, trivial⟩ ⟨_, (Aj (l := []) (m := [(23, 51, [.ref 0 0], [.box [i64 a.Kind, i64 a.Ref.Railway, i64 a.Ref.No, i64 a.Wagon, i64 a.Place, i64 a.Other, i64 a.Number, i64 a.From, i64 a.To, i64 a.Code, i64 a.Dest, i64 a.Class, i64 a.Weight, i64 a.Amount, .str a.Text, .bs false 1 (a.Parts.length) 0 (a.Parts.length)] false, .buf 3 (L Ab a.Parts) false], .agg [.ref 0 3, .ref 0 4, .ref 0 5, .ref 0 6, .ref 0 7, .ref 0 8, .ref 0 9, .ref 0 10, .ref 0 11, .ref 0 12, .ref 0 13], [.box [i64 a.Kind, i64 a.Ref.Railway, i64 a.Ref.No, i64 a.Wagon, i64 a.Place, i64 a.Other, i64 a.Number, i64 a.From, i64 a.To, i64 a.Code, i64 a.Dest, i64 a.Class, i64 a.Weight, i64 a.Amount, .str a.Text, .bs false 1 (a.Parts.length) 0 (a.Parts.length)] false, .buf 3 (L Ab a.Parts) false])]) trivial ⟨A3, trivial⟩), ?_⟩ ?_
                      · simp only [go_sem, Ae, Int.reduceLT, Int.reduceAdd, Int.reduceSub, Nat.reduceMul, Nat.reduceGT, Nat.reduceLeDiff, decide_true, decide_false, Bool.false_eq_true, Int.reduceBEq, Int.reduceGT, Int.reduceLE, Int.reduceGE, beq_self_eq_true, ay, ay.2, qL a4]
                      revert h
                      refine Bn ?_
                      exact Jm (ws [0, 1])
                    · refine Sk <|Bn <|?_
                      exact Jm (ws [0, 1])
                  · skip
                    refine Sp (fun az => ?_) fun az => ?_
                    · obtain rfl : b = 7 := eq_of_beq az
                      refine Sb ?_
                      refine Te [0, 1, 4, 6, 12] Aa (Ev (by simp only [go_sem, Ae, Int.reduceLT, Int.reduceAdd, Int.reduceSub, Nat.reduceMul, Nat.reduceGT, Nat.reduceLeDiff, decide_true, decide_false, Bool.false_eq_true, Int.reduceBEq, Int.reduceGT, Int.reduceLE, Int.reduceGE, beq_self_eq_true]; exact Ac)) ?_
                      refine Ct ?_
                      refine Ck fun a5 => ?_
                      refine Bd fun n a6 => ?_
                      refine Te [0, 4, 5, 6] (o1 18 (A4 a6)) (Ev (by simp only [go_sem, Ae, Int.reduceLT, Int.reduceAdd, Int.reduceSub, Nat.reduceMul, Nat.reduceGT, Nat.reduceLeDiff, decide_true, decide_false, Bool.false_eq_true, Int.reduceBEq, Int.reduceGT, Int.reduceLE, Int.reduceGE, beq_self_eq_true, a5]; exact Ac)) ?_
                      refine Te [0, 4, 5, 6, 21] Aa (Ev (by simp only [go_sem, Ae, Int.reduceLT, Int.reduceAdd, Int.reduceSub, Nat.reduceMul, Nat.reduceGT, Nat.reduceLeDiff, decide_true, decide_false, Bool.false_eq_true, Int.reduceBEq, Int.reduceGT, Int.reduceLE, Int.reduceGE, beq_self_eq_true]; exact Ac)) ?_
                      refine Cd ?_ ?_
                      · have aA : InR 7 11 := by decide
                        refine Ck fun a7 => ?_
                        intro h
                        refine Dp hE mixed [[], [0], [], [0, 1, 2], [], [4], [4, 5], [0, 1, 2, 3, 4, 5, 6], [0, 1, 2, 3, 4, 5, 6, 7]] (by kernel_rfl) [26, 27] [4, 26, 27] (by kernel_rfl) (Dm E3) (fr' := [(4, .bool n.2), (26, .sl false (L M8 n.1)), (27, .rp [i64 (nth n.1 0)])]) (σ' := [.box [i64 a.Kind, i64 a.Ref.Railway, i64 a.Ref.No, i64 a.Wagon, i64 a.Place, i64 a.Other, i64 a.Number, i64 a.From, i64 a.To, i64 a.Code, i64 (nth n.1 0), i64 a.Class, i64 a.Weight, i64 a.Amount, .str a.Text, .bs false 1 (a.Parts.length) 0 (a.Parts.length)] false, .buf 3 (L Ab a.Parts) false]) ⟨rfl, rfl, trivial⟩ ⟨_, (Aj (l := []) (m := [(23, 51, [.ref 0 0], [.box [i64 a.Kind, i64 a.Ref.Railway, i64 a.Ref.No, i64 a.Wagon, i64 a.Place, i64 a.Other, i64 a.Number, i64 a.From, i64 a.To, i64 a.Code, i64 a.Dest, i64 a.Class, i64 a.Weight, i64 a.Amount, .str a.Text, .bs false 1 (a.Parts.length) 0 (a.Parts.length)] false, .buf 3 (L Ab a.Parts) false], .agg [.ref 0 3, .ref 0 4, .ref 0 5, .ref 0 6, .ref 0 7, .ref 0 8, .ref 0 9, .ref 0 10, .ref 0 11, .ref 0 12, .ref 0 13], [.box [i64 a.Kind, i64 a.Ref.Railway, i64 a.Ref.No, i64 a.Wagon, i64 a.Place, i64 a.Other, i64 a.Number, i64 a.From, i64 a.To, i64 a.Code, i64 a.Dest, i64 a.Class, i64 a.Weight, i64 a.Amount, .str a.Text, .bs false 1 (a.Parts.length) 0 (a.Parts.length)] false, .buf 3 (L Ab a.Parts) false])]) trivial ⟨A3, trivial⟩), ?_⟩ ?_
                        · simp only [go_sem, Ae, Int.reduceLT, Int.reduceAdd, Int.reduceSub, Nat.reduceMul, Nat.reduceGT, Nat.reduceLeDiff, decide_true, decide_false, Bool.false_eq_true, Int.reduceBEq, Int.reduceGT, Int.reduceLE, Int.reduceGE, beq_self_eq_true, aA, aA.2, qL a7]
                        revert h
                        refine Bn ?_
                        exact Jm (ws [0, 1])
                      · refine Sk <|Bn <|?_
                        exact Jm (ws [0, 1])
                    · skip
                      refine Sp (fun aB => ?_) fun aB => ?_
                      · obtain rfl : b = 8 := eq_of_beq aB
                        refine Sb ?_
                        refine Te [0, 1, 4, 6, 12] Aa (Ev (by simp only [go_sem, Ae, Int.reduceLT, Int.reduceAdd, Int.reduceSub, Nat.reduceMul, Nat.reduceGT, Nat.reduceLeDiff, decide_true, decide_false, Bool.false_eq_true, Int.reduceBEq, Int.reduceGT, Int.reduceLE, Int.reduceGE, beq_self_eq_true]; exact Ac)) ?_
                        refine Ct ?_
                        refine Ck fun a8 => ?_
                        refine Bd fun o a9 => ?_
                        refine Te [0, 4, 5, 6] (o1 18 (A4 a9)) (Ev (by simp only [go_sem, Ae, Int.reduceLT, Int.reduceAdd, Int.reduceSub, Nat.reduceMul, Nat.reduceGT, Nat.reduceLeDiff, decide_true, decide_false, Bool.false_eq_true, Int.reduceBEq, Int.reduceGT, Int.reduceLE, Int.reduceGE, beq_self_eq_true, a8]; exact Ac)) ?_
                        refine Te [0, 4, 5, 6, 21] Aa (Ev (by simp only [go_sem, Ae, Int.reduceLT, Int.reduceAdd, Int.reduceSub, Nat.reduceMul, Nat.reduceGT, Nat.reduceLeDiff, decide_true, decide_false, Bool.false_eq_true, Int.reduceBEq, Int.reduceGT, Int.reduceLE, Int.reduceGE, beq_self_eq_true]; exact Ac)) ?_
                        refine Cd ?_ ?_
                        · have aC : InR 8 11 := by decide
                          refine Ck fun ba => ?_
                          intro h
                          refine Dp hE mixed [[], [0], [], [0, 1, 2], [], [4], [4, 5], [0, 1, 2, 3, 4, 5, 6], [0, 1, 2, 3, 4, 5, 6, 7]] (by kernel_rfl) [26, 27] [4, 26, 27] (by kernel_rfl) (Dm E3) (fr' := [(4, .bool o.2), (26, .sl false (L M8 o.1)), (27, .rp [i64 (nth o.1 0)])]) (σ' := [.box [i64 a.Kind, i64 a.Ref.Railway, i64 a.Ref.No, i64 a.Wagon, i64 a.Place, i64 a.Other, i64 a.Number, i64 a.From, i64 a.To, i64 a.Code, i64 a.Dest, i64 (nth o.1 0), i64 a.Weight, i64 a.Amount, .str a.Text, .bs false 1 (a.Parts.length) 0 (a.Parts.length)] false, .buf 3 (L Ab a.Parts) false]) ⟨rfl, rfl, trivial⟩ ⟨_, (Aj (l := []) (m := [(23, 51, [.ref 0 0], [.box [i64 a.Kind, i64 a.Ref.Railway, i64 a.Ref.No, i64 a.Wagon, i64 a.Place, i64 a.Other, i64 a.Number, i64 a.From, i64 a.To, i64 a.Code, i64 a.Dest, i64 a.Class, i64 a.Weight, i64 a.Amount, .str a.Text, .bs false 1 (a.Parts.length) 0 (a.Parts.length)] false, .buf 3 (L Ab a.Parts) false], .agg [.ref 0 3, .ref 0 4, .ref 0 5, .ref 0 6, .ref 0 7, .ref 0 8, .ref 0 9, .ref 0 10, .ref 0 11, .ref 0 12, .ref 0 13], [.box [i64 a.Kind, i64 a.Ref.Railway, i64 a.Ref.No, i64 a.Wagon, i64 a.Place, i64 a.Other, i64 a.Number, i64 a.From, i64 a.To, i64 a.Code, i64 a.Dest, i64 a.Class, i64 a.Weight, i64 a.Amount, .str a.Text, .bs false 1 (a.Parts.length) 0 (a.Parts.length)] false, .buf 3 (L Ab a.Parts) false])]) trivial ⟨A3, trivial⟩), ?_⟩ ?_
                          · simp only [go_sem, Ae, Int.reduceLT, Int.reduceAdd, Int.reduceSub, Nat.reduceMul, Nat.reduceGT, Nat.reduceLeDiff, decide_true, decide_false, Bool.false_eq_true, Int.reduceBEq, Int.reduceGT, Int.reduceLE, Int.reduceGE, beq_self_eq_true, aC, aC.2, qL ba]
                          revert h
                          refine Bn ?_
                          exact Jm (ws [0, 1])
                        · refine Sk <|Bn <|?_
                          exact Jm (ws [0, 1])
                      · skip
                        refine Sp (fun aD => ?_) fun aD => ?_
                        · obtain rfl : b = 9 := eq_of_beq aD
                          refine Sb ?_
                          refine Te [0, 1, 4, 6, 12] Aa (Ev (by simp only [go_sem, Ae, Int.reduceLT, Int.reduceAdd, Int.reduceSub, Nat.reduceMul, Nat.reduceGT, Nat.reduceLeDiff, decide_true, decide_false, Bool.false_eq_true, Int.reduceBEq, Int.reduceGT, Int.reduceLE, Int.reduceGE, beq_self_eq_true]; exact Ac)) ?_
                          refine Ct ?_
                          refine Ck fun bb => ?_
                          refine Bd fun p bc => ?_
                          refine Te [0, 4, 5, 6] (o1 18 (A4 bc)) (Ev (by simp only [go_sem, Ae, Int.reduceLT, Int.reduceAdd, Int.reduceSub, Nat.reduceMul, Nat.reduceGT, Nat.reduceLeDiff, decide_true, decide_false, Bool.false_eq_true, Int.reduceBEq, Int.reduceGT, Int.reduceLE, Int.reduceGE, beq_self_eq_true, bb]; exact Ac)) ?_
                          refine Te [0, 4, 5, 6, 21] Aa (Ev (by simp only [go_sem, Ae, Int.reduceLT, Int.reduceAdd, Int.reduceSub, Nat.reduceMul, Nat.reduceGT, Nat.reduceLeDiff, decide_true, decide_false, Bool.false_eq_true, Int.reduceBEq, Int.reduceGT, Int.reduceLE, Int.reduceGE, beq_self_eq_true]; exact Ac)) ?_
                          refine Cd ?_ ?_
                          · have aE : InR 9 11 := by decide
                            refine Ck fun bd => ?_
                            intro h
                            refine Dp hE mixed [[], [0], [], [0, 1, 2], [], [4], [4, 5], [0, 1, 2, 3, 4, 5, 6], [0, 1, 2, 3, 4, 5, 6, 7]] (by kernel_rfl) [26, 27] [4, 26, 27] (by kernel_rfl) (Dm E3) (fr' := [(4, .bool p.2), (26, .sl false (L M8 p.1)), (27, .rp [i64 (nth p.1 0)])]) (σ' := [.box [i64 a.Kind, i64 a.Ref.Railway, i64 a.Ref.No, i64 a.Wagon, i64 a.Place, i64 a.Other, i64 a.Number, i64 a.From, i64 a.To, i64 a.Code, i64 a.Dest, i64 a.Class, i64 (nth p.1 0), i64 a.Amount, .str a.Text, .bs false 1 (a.Parts.length) 0 (a.Parts.length)] false, .buf 3 (L Ab a.Parts) false]) ⟨rfl, rfl, trivial⟩ ⟨_, (Aj (l := []) (m := [(23, 51, [.ref 0 0], [.box [i64 a.Kind, i64 a.Ref.Railway, i64 a.Ref.No, i64 a.Wagon, i64 a.Place, i64 a.Other, i64 a.Number, i64 a.From, i64 a.To, i64 a.Code, i64 a.Dest, i64 a.Class, i64 a.Weight, i64 a.Amount, .str a.Text, .bs false 1 (a.Parts.length) 0 (a.Parts.length)] false, .buf 3 (L Ab a.Parts) false], .agg [.ref 0 3, .ref 0 4, .ref 0 5, .ref 0 6, .ref 0 7, .ref 0 8, .ref 0 9, .ref 0 10, .ref 0 11, .ref 0 12, .ref 0 13], [.box [i64 a.Kind, i64 a.Ref.Railway, i64 a.Ref.No, i64 a.Wagon, i64 a.Place, i64 a.Other, i64 a.Number, i64 a.From, i64 a.To, i64 a.Code, i64 a.Dest, i64 a.Class, i64 a.Weight, i64 a.Amount, .str a.Text, .bs false 1 (a.Parts.length) 0 (a.Parts.length)] false, .buf 3 (L Ab a.Parts) false])]) trivial ⟨A3, trivial⟩), ?_⟩ ?_
                            · simp only [go_sem, Ae, Int.reduceLT, Int.reduceAdd, Int.reduceSub, Nat.reduceMul, Nat.reduceGT, Nat.reduceLeDiff, decide_true, decide_false, Bool.false_eq_true, Int.reduceBEq, Int.reduceGT, Int.reduceLE, Int.reduceGE, beq_self_eq_true, aE, aE.2, qL bd]
                            revert h
                            refine Bn ?_
                            exact Jm (ws [0, 1])
                          · refine Sk <|Bn <|?_
                            exact Jm (ws [0, 1])
                        · skip
                          refine Sp (fun aF => ?_) fun aF => ?_
                          · obtain rfl : b = 10 := eq_of_beq aF
                            refine Sb ?_
                            refine Te [0, 1, 4, 6, 12] Aa (Ev (by simp only [go_sem, Ae, Int.reduceLT, Int.reduceAdd, Int.reduceSub, Nat.reduceMul, Nat.reduceGT, Nat.reduceLeDiff, decide_true, decide_false, Bool.false_eq_true, Int.reduceBEq, Int.reduceGT, Int.reduceLE, Int.reduceGE, beq_self_eq_true]; exact Ac)) ?_
                            refine Ct ?_
                            refine Ck fun be => ?_
                            refine Bd fun q bf => ?_
                            refine Te [0, 4, 5, 6] (o1 18 (A4 bf)) (Ev (by simp only [go_sem, Ae, Int.reduceLT, Int.reduceAdd, Int.reduceSub, Nat.reduceMul, Nat.reduceGT, Nat.reduceLeDiff, decide_true, decide_false, Bool.false_eq_true, Int.reduceBEq, Int.reduceGT, Int.reduceLE, Int.reduceGE, beq_self_eq_true, be]; exact Ac)) ?_
                            refine Te [0, 4, 5, 6, 21] Aa (Ev (by simp only [go_sem, Ae, Int.reduceLT, Int.reduceAdd, Int.reduceSub, Nat.reduceMul, Nat.reduceGT, Nat.reduceLeDiff, decide_true, decide_false, Bool.false_eq_true, Int.reduceBEq, Int.reduceGT, Int.reduceLE, Int.reduceGE, beq_self_eq_true]; exact Ac)) ?_
                            refine Cd ?_ ?_
                            · have aG : InR 10 11 := by decide
                              refine Ck fun bg => ?_
                              intro h
                              refine Dp hE mixed [[], [0], [], [0, 1, 2], [], [4], [4, 5], [0, 1, 2, 3, 4, 5, 6], [0, 1, 2, 3, 4, 5, 6, 7]] (by kernel_rfl) [26, 27] [4, 26, 27] (by kernel_rfl) (Dm E3) (fr' := [(4, .bool q.2), (26, .sl false (L M8 q.1)), (27, .rp [i64 (nth q.1 0)])]) (σ' := [.box [i64 a.Kind, i64 a.Ref.Railway, i64 a.Ref.No, i64 a.Wagon, i64 a.Place, i64 a.Other, i64 a.Number, i64 a.From, i64 a.To, i64 a.Code, i64 a.Dest, i64 a.Class, i64 a.Weight, i64 (nth q.1 0), .str a.Text, .bs false 1 (a.Parts.length) 0 (a.Parts.length)] false, .buf 3 (L Ab a.Parts) false]) ⟨rfl, rfl, trivial⟩ ⟨_, (Aj (l := []) (m := [(23, 51, [.ref 0 0], [.box [i64 a.Kind, i64 a.Ref.Railway, i64 a.Ref.No, i64 a.Wagon, i64 a.Place, i64 a.Other, i64 a.Number, i64 a.From, i64 a.To, i64 a.Code, i64 a.Dest, i64 a.Class, i64 a.Weight, i64 a.Amount, .str a.Text, .bs false 1 (a.Parts.length) 0 (a.Parts.length)] false, .buf 3 (L Ab a.Parts) false], .agg [.ref 0 3, .ref 0 4, .ref 0 5, .ref 0 6, .ref 0 7, .ref 0 8, .ref 0 9, .ref 0 10, .ref 0 11, .ref 0 12, .ref 0 13], [.box [i64 a.Kind, i64 a.Ref.Railway, i64 a.Ref.No, i64 a.Wagon, i64 a.Place, i64 a.Other, i64 a.Number, i64 a.From, i64 a.To, i64 a.Code, i64 a.Dest, i64 a.Class, i64 a.Weight, i64 a.Amount, .str a.Text, .bs false 1 (a.Parts.length) 0 (a.Parts.length)] false, .buf 3 (L Ab a.Parts) false])]) trivial ⟨A3, trivial⟩), ?_⟩ ?_
                              · simp only [go_sem, Ae, Int.reduceLT, Int.reduceAdd, Int.reduceSub, Nat.reduceMul, Nat.reduceGT, Nat.reduceLeDiff, decide_true, decide_false, Bool.false_eq_true, Int.reduceBEq, Int.reduceGT, Int.reduceLE, Int.reduceGE, beq_self_eq_true, aG, aG.2, qL bg]
                              revert h
                              refine Bn ?_
                              exact Jm (ws [0, 1])
                            · refine Sk <|Bn <|?_
                              exact Jm (ws [0, 1])
                          · refine Sb ?_
                            refine Te [0, 1, 4, 6, 12] Aa (Ev (by simp only [go_sem, Ae, Int.reduceLT, Int.reduceAdd, Int.reduceSub, Nat.reduceMul, Nat.reduceGT, Nat.reduceLeDiff, decide_true, decide_false, Bool.false_eq_true, Int.reduceBEq, Int.reduceGT, Int.reduceLE, Int.reduceGE, beq_self_eq_true]; exact Ac)) ?_
                            refine Cd ?_ ?_
                            · refine Ck fun bh => ?_
                              refine Bd fun bD bi => ?_
                              refine Te [0, 4, 5, 6] (o1 18 (A4 bi)) (Ev (by simp only [go_sem, Ae, Int.reduceLT, Int.reduceAdd, Int.reduceSub, Nat.reduceMul, Nat.reduceGT, Nat.reduceLeDiff, decide_true, decide_false, Bool.false_eq_true, Int.reduceBEq, Int.reduceGT, Int.reduceLE, Int.reduceGE, beq_self_eq_true, bh]; exact Ac)) ?_
                              refine Te [0, 4, 5, 6, 21] Aa (Ev (by simp only [go_sem, Ae, Int.reduceLT, Int.reduceAdd, Int.reduceSub, Nat.reduceMul, Nat.reduceGT, Nat.reduceLeDiff, decide_true, decide_false, Bool.false_eq_true, Int.reduceBEq, Int.reduceGT, Int.reduceLE, Int.reduceGE, beq_self_eq_true]; exact Ac)) ?_
                              refine Cd ?_ ?_
                              · exact Rn
                              · refine Sk <|Bn <|?_
                                exact Jm (ws [0, 1])
                            · refine Ck fun bj => ?_
                              refine Te [0, 1, 4, 30] Aa (Ev (by simp only [go_sem, Ae, Int.reduceLT, Int.reduceAdd, Int.reduceSub, Nat.reduceMul, Nat.reduceGT, Nat.reduceLeDiff, decide_true, decide_false, Bool.false_eq_true, Int.reduceBEq, Int.reduceGT, Int.reduceLE, Int.reduceGE, beq_self_eq_true, qL bj]; exact Ac)) ?_
                              refine Cd ?_ ?_
                              · refine Ck fun bk => ?_
                                refine Bd fun bE bl => ?_
                                refine Te [0, 4, 5] (o1 37 (A4 bl)) (Ev (by simp only [go_sem, Ae, Int.reduceLT, Int.reduceAdd, Int.reduceSub, Nat.reduceMul, Nat.reduceGT, Nat.reduceLeDiff, decide_true, decide_false, Bool.false_eq_true, Int.reduceBEq, Int.reduceGT, Int.reduceLE, Int.reduceGE, beq_self_eq_true, bk]; exact Ac)) ?_
                                refine Te [0, 4, 5, 40] Aa (Ev (by simp only [go_sem, Ae, Int.reduceLT, Int.reduceAdd, Int.reduceSub, Nat.reduceMul, Nat.reduceGT, Nat.reduceLeDiff, decide_true, decide_false, Bool.false_eq_true, Int.reduceBEq, Int.reduceGT, Int.reduceLE, Int.reduceGE, beq_self_eq_true]; exact Ac)) ?_
                                refine Cd ?_ ?_
                                · refine Ck fun bm => ?_
                                  refine Ck fun bn => ?_
                                  refine Ge [[], [], [1], [1, 2], [], [4], [4, 5], [1, 2, 3, 4, 5, 6], [0, 1, 2, 3, 4, 5, 6, 7], [0, 1, 2, 3, 4, 5, 6, 7, 8], [0, 1, 2, 3, 4, 5, 6, 7, 8, 9]] [4] Aa (Ev (by simp only [go_sem, Ae, Int.reduceLT, Int.reduceAdd, Int.reduceSub, Nat.reduceMul, Nat.reduceGT, Nat.reduceLeDiff, decide_true, decide_false, Bool.false_eq_true, Int.reduceBEq, Int.reduceGT, Int.reduceLE, Int.reduceGE, beq_self_eq_true, qL bm, qL bn]; exact Ac)) ?_
                                  refine Bn ?_
                                  exact Jm (ws [0, 1])
                                · refine Sk <|Bn <|?_
                                  exact Jm (ws [0, 1])
                              · refine Ck fun bo => ?_
                                refine Te [0, 1, 4, 51] Aa (Ev (by simp only [go_sem, Ae, Int.reduceLT, Int.reduceAdd, Int.reduceSub, Nat.reduceMul, Nat.reduceGT, Nat.reduceLeDiff, decide_true, decide_false, Bool.false_eq_true, Int.reduceBEq, Int.reduceGT, Int.reduceLE, Int.reduceGE, beq_self_eq_true, qL bo]; exact Ac)) ?_
                                refine Cd ?_ ?_
                                · refine Ck fun bp => ?_
                                  refine Bd fun bF bq => ?_
                                  refine Fe [4] (o1 59 (O9 bq)) (Ev (by simp only [go_sem, Ae, Int.reduceLT, Int.reduceAdd, Int.reduceSub, Nat.reduceMul, Nat.reduceGT, Nat.reduceLeDiff, decide_true, decide_false, Bool.false_eq_true, Int.reduceBEq, Int.reduceGT, Int.reduceLE, Int.reduceGE, beq_self_eq_true, bp]; exact Ac)) ?_
                                  refine Bn ?_
                                  exact Jm (ws [0, 1])
                                · refine Ck fun br => ?_
                                  refine Te [0, 1, 4, 64] Aa (Ev (by simp only [go_sem, Ae, Int.reduceLT, Int.reduceAdd, Int.reduceSub, Nat.reduceMul, Nat.reduceGT, Nat.reduceLeDiff, decide_true, decide_false, Bool.false_eq_true, Int.reduceBEq, Int.reduceGT, Int.reduceLE, Int.reduceGE, beq_self_eq_true, qL br]; exact Ac)) ?_
                                  refine Cd ?_ ?_
                                  · refine Ck fun bt => ?_
                                    refine Bd fun bG bu => ?_
                                    refine Te [0, 4, 5] (o1 71 (A4 bu)) (Ev (by simp only [go_sem, Ae, Int.reduceLT, Int.reduceAdd, Int.reduceSub, Nat.reduceMul, Nat.reduceGT, Nat.reduceLeDiff, decide_true, decide_false, Bool.false_eq_true, Int.reduceBEq, Int.reduceGT, Int.reduceLE, Int.reduceGE, beq_self_eq_true, bt]; exact Ac)) ?_
                                    refine Te [0, 4, 5, 74] Aa (Ev (by simp only [go_sem, Ae, Int.reduceLT, Int.reduceAdd, Int.reduceSub, Nat.reduceMul, Nat.reduceGT, Nat.reduceLeDiff, decide_true, decide_false, Bool.false_eq_true, Int.reduceBEq, Int.reduceGT, Int.reduceLE, Int.reduceGE, beq_self_eq_true]; exact Ac)) ?_
                                    refine Cd ?_ ?_
                                    · refine Ck fun bv => ?_
                                      refine Ck fun bw => ?_
                                      refine Ck fun bx => ?_
                                      refine Ck fun bz => ?_
                                      refine Lt fun s bA => ?_
                                      refine Ge (σ' := [.box [i64 a.Kind, i64 a.Ref.Railway, i64 a.Ref.No, i64 a.Wagon, i64 a.Place, i64 a.Other, i64 a.Number, i64 a.From, i64 a.To, i64 a.Code, i64 a.Dest, i64 a.Class, i64 a.Weight, i64 a.Amount, .str a.Text, .bs false 1 (s.length) 0 (s.length)] false, .buf 3 (L Ab s) false, _]) [[], [], [1], [1, 2], [1, 2, 3], [], [5], [5, 6], [], [8], [8, 9], [], [11], [11, 12], [11, 12, 13], [5, 6, 7, 8, 9, 10, 11, 12, 13, 14], [5, 6, 7, 8, 9, 10, 11, 12, 13, 14, 15], [1, 2, 3, 4, 5, 6, 7, 8, 9, 10, 11, 12, 13, 14, 15, 16], [0, 1, 2, 3, 4, 5, 6, 7, 8, 9, 10, 11, 12, 13, 14, 15, 16, 17], [0, 1, 2, 3, 4, 5, 6, 7, 8, 9, 10, 11, 12, 13, 14, 15, 16, 17, 18], [0, 1, 2, 3, 4, 5, 6, 7, 8, 9, 10, 11, 12, 13, 14, 15, 16, 17, 18, 19]] [4] Aa (Ev (by simp only [go_sem, Ae, Int.reduceLT, Int.reduceAdd, Int.reduceSub, Nat.reduceMul, Nat.reduceGT, Nat.reduceLeDiff, decide_true, decide_false, Bool.false_eq_true, Int.reduceBEq, Int.reduceGT, Int.reduceLE, Int.reduceGE, beq_self_eq_true, qL bv, qL bw, qL bx, bz, bA]; exact Ac)) ?_
                                      refine Bn ?_
                                      exact Jm (ws [0, 1])
                                    · refine Sk <|Bn <|?_
                                      exact Jm (ws [0, 1])
                                  · refine Sk <|Bn <|?_
                                    exact Jm (ws [0, 1])
    rintro ⟨u, v, w, x, y, z, aa, ab, ac, ad, ae, af, ag, ah, ai, c⟩
    refine Te [4] Aa (Ev (by simp only [go_sem, Ae, Int.reduceLT, Int.reduceAdd, Int.reduceSub, Nat.reduceMul, Nat.reduceGT, Nat.reduceLeDiff, decide_true, decide_false, Bool.false_eq_true, Int.reduceBEq, Int.reduceGT, Int.reduceLE, Int.reduceGE, beq_self_eq_true]; exact Ac)) ?_
    exact Sr <|Ro [0, 1]
theorem Fm {d r} (h : D0 d = some r) : Con B 23 [.str d] [] (fun r' σ' => r' = .tup [.agg [i64 r.1.Kind, i64 r.1.Ref.Railway, i64 r.1.Ref.No, i64 r.1.Wagon, i64 r.1.Place, i64 r.1.Other, i64 r.1.Number, i64 r.1.From, i64 r.1.To, i64 r.1.Code, i64 r.1.Dest, i64 r.1.Class, i64 r.1.Weight, i64 r.1.Amount, .str r.1.Text, .sl false (L Ab r.1.Parts)], i64 r.2] ∧ σ' = []) := by
  refine Cw 54 [.cell 2 41, .tmp 3] Tryz.func23 (fun F hE => ?_) h
  unfold D0
  refine T0 [0, 2] ?_
  refine Sq <|T0 [0, 2, 13] ?_
  refine Cd ?_ ?_
  · refine T0 [2, 3] ?_
    exact Sr <|Tr <|Rr
  · refine Sk <|Tn <|?_
    refine Bd fun aK aw => ?_
    refine Te [0, 2, 4] (o1 17 (Kd aw)) Ev ?_
    refine Bd fun e ax => ?_
    refine Te [0, 2, 6] (o1 21 (N7 ax)) Ev ?_
    refine Ck fun ay => ?_
    refine Bd fun aL az => ?_
    refine De [[], [], [1], [1, 2], [0, 1, 2, 3], [0, 1, 2, 3, 4], [0, 1, 2, 3, 4, 5]] [0, 2, 6] (o1 26 (Lu az)) (Ev (by simp only [go_sem, qL ay]; exact Ac)) ?_
    refine Jo (fun ⟨y, z, aa, ab, ac, ad, ae, af, ag, ah, ai, aj, ak, al, am, c⟩ => ⟨Ao 54 [(0, .str d), (2, .ref 0 0)], [.box [i64 y, i64 z, i64 aa, i64 ab, i64 ac, i64 ad, i64 ae, i64 af, i64 ag, i64 ah, i64 ai, i64 aj, i64 ak, i64 al, .str am, .bs false 1 (c.length) 0 (c.length)] false, .buf 3 (L Ab c) false]⟩) ?_ ?_
    · intro aM aA
      refine Ck fun aB => ?_
      refine Te [0, 2, 29, 30, 31] Aa (Ev (by simp only [go_sem, aB]; exact Ac)) ?_
      refine Sb ?_
      refine Lo (fun ⟨an, f, g, i, j, k, n, o, p, q, s, t, u, v, w, x, b⟩ => ⟨Ao 54 [(0, .str d), (2, .ref 0 0), (29, .sl false (L J6 (((e.drop 1).take (e.length - 1))))), (30, i64 (((((e.drop 1).take (e.length - 1))).length : Int))), (31, i64 an)], [.box [i64 f, i64 g, i64 i, i64 j, i64 k, i64 n, i64 o, i64 p, i64 q, i64 s, i64 t, i64 u, i64 v, i64 w, .str x, .bs false 1 (b.length) 0 (b.length)] false, .buf 3 (L Ab b) false]⟩) ((H1 0 15 3 rfl rfl).trans (ws [0, 1])) ?_
      rintro ⟨an, f, g, i, j, k, n, o, p, q, s, t, u, v, w, x, b⟩ aN aC aq ar
      show E7 e an f g i j k n o p q s t u v w x b = some aC → _
      unfold E7
      refine Lt fun aD aE => ?_
      refine Te (fr' := [(0, _), (2, _), (29, _), (30, _), (31, _), (32, .bool aD)]) [0, 2, 29, 30, 31, 32] Aa (Ev (by simp only [go_sem, aE]; exact Ac)) ?_
      refine Sq ?_
      refine Cd ?_ ?_
      · refine Sk <|Tn <|Sq <|Sb <|?_
        refine Ck fun aF => ?_
        refine Lt fun au aG => ?_
        refine Te (fr' := [(0, _), (2, _), (8, .str au), (29, _), (30, _), (31, _)]) [0, 2, 8, 29, 30, 31] Aa (Ev (by simp only [go_sem, qR aF, aG]; exact Ac)) ?_
        refine Bd fun a aH => ?_
        refine Lt fun ao aI => ?_
        refine Te (σ' := [.box [i64 a.2.Kind, i64 a.2.Ref.Railway, i64 a.2.Ref.No, i64 a.2.Wagon, i64 a.2.Place, i64 a.2.Other, i64 a.2.Number, i64 a.2.From, i64 a.2.To, i64 a.2.Code, i64 a.2.Dest, i64 a.2.Class, i64 a.2.Weight, i64 a.2.Amount, .str a.2.Text, .bs false 1 (ao.length) 0 (ao.length)] false, .buf 3 (L Ab ao) false]) [0, 2, 29, 30, 31, 37] (Aj (l := []) (m := [(36, 68, [.ref 0 0, .str au], [.box [i64 f, i64 g, i64 i, i64 j, i64 k, i64 n, i64 o, i64 p, i64 q, i64 s, i64 t, i64 u, i64 v, i64 w, .str x, .bs false 1 (b.length) 0 (b.length)] false, .buf 3 (L Ab b) false], _, _)]) trivial ⟨(wc (W8 aH) [0, 1]), trivial⟩) (Ev (by simp only [go_sem, aI]; exact Ac)) ?_
        refine Cd ?_ ?_
        · refine T0 [2, 3] ?_
          exact Sr <|Br <|Tr <|Lr ar aq <|Br <|Jr aA <|Rr
        · refine Sk <|Bn <|Tn <|F0 [0, 2, 29, 30, 31] ?_
          exact Ln (ws [0, 1])
      · refine Sx <|Tx <|Lx ar aq <|Bx <|?_
        exact Jn ((ws (l' := [(0, .str d), (2, .ref 0 0)]) (σ' := [.box [i64 f, i64 g, i64 i, i64 j, i64 k, i64 n, i64 o, i64 p, i64 q, i64 s, i64 t, i64 u, i64 v, i64 w, .str x, .bs false 1 (b.length) 0 (b.length)] false, .buf 3 (L Ab b) false]) [0, 1]).trans (ws [0, 1]))
    rintro ⟨y, z, aa, ab, ac, ad, ae, af, ag, ah, ai, aj, ak, al, am, c⟩
    refine Sq ?_
    refine Bd fun aO aJ => ?_
    refine Te [0, 2, 9, 10] (o1 42 (Df aJ)) Ev ?_
    refine Tw [2, 51] (fun av => ⟨Ao 54 [(2, .ref 0 0), (51, .bool av)], [.box [i64 y, i64 z, i64 aa, i64 ab, i64 ac, i64 ad, i64 ae, i64 af, i64 ag, i64 ah, i64 ai, i64 aj, i64 ak, i64 al, .str am, .bs false 1 (c.length) 0 (c.length)] false, .buf 3 (L Ab c) false]⟩) ?_ ?_
    · intro _
      refine Sp (fun ap => ?_) fun ap => ?_
      · exact Lf Aa (Ev (by simp only [go_sem, ap]; exact Ac)) (ws [0, 1])
      · exact Lf Aa (Ev (by simp only [go_sem, ap]; exact Ac)) (ws [0, 1])
    intro av
    refine Cd ?_ ?_
    · refine T0 [2, 3] ?_
      exact Sr <|Tr <|Rr
    · refine Sk <|Tn <|T0 [2, 3] ?_
      exact Sr <|Rr
theorem Fv {a r} (h : E2 a = some r) : Con B 14 [.agg [i64 a.Kind, i64 a.Ref.Railway, i64 a.Ref.No, i64 a.Wagon, i64 a.Place, i64 a.Other, i64 a.Number, i64 a.From, i64 a.To, i64 a.Code, i64 a.Dest, i64 a.Class, i64 a.Weight, i64 a.Amount, .str a.Text, .sl false (L Ab a.Parts)]] [] (fun r' σ' => r' = .bool r ∧ σ' = []) := by
  refine Cw 13 [.tmp 2] Tryz.func14 (fun F hE => ?_) h
  unfold E2
  refine T0 [1] ?_
  refine Tw [2] (fun c => ⟨Ao 13 [(2, .bool c)], []⟩) ?_ ?_
  · intro _
    refine Sp (fun b => ?_) fun b => ?_
    · exact Lf Aa (Ev (by simp only [go_sem, b]; exact Ac)) (ws [])
    · exact Lf Aa (Ev (by simp only [go_sem, b]; exact Ac)) (ws [])
  intro c
  exact Sr <|Rr
theorem Ax {a r} (h : Bc a = some r) : Con B 58 [i64 a] [] (fun r' σ' => r' = .agg [i64 r.Kind, i64 r.N, .sl false (L cU8 r.B), .sl false (L cApi_Value r.L)] ∧ σ' = []) := by
  refine Cw 5 [.cell 2 55] Tryz.func58 (fun F hE => ?_) h
  unfold Bc
  refine T0 [0, 2] ?_
  refine T0 [2] ?_
  exact Sr <|Rr
theorem V1 {a r} (h : Pb a = some r) : Con B 60 [.str a] [] (fun r' σ' => r' = .agg [i64 r.Kind, i64 r.N, .sl false (L cU8 r.B), .sl false (L cApi_Value r.L)] ∧ σ' = []) := by
  refine Cw 6 [.cell 2 55] Tryz.func60 (fun F hE => ?_) h
  unfold Pb
  refine T0 [0, 2] ?_
  refine T0 [2] ?_
  exact Sr <|Rr
theorem N6 {r} (h : edi_list_cnil  = some r) : Con B 59 [.sl true (L cApi_Value ([]))] [] (fun r' σ' => r' = .agg [i64 r.Kind, i64 r.N, .sl true (L cU8 ([])), .sl true (L cApi_Value ([]))] ∧ σ' = []) := by
  refine Co 0 5 [.cell 2 55] Tryz.func59 (fun F hE => ?_) h
  unfold edi_list_cnil
  refine Te [0, 2] Aa (Ev (by simp only [go_sem, Ae, Int.reduceLT, Int.reduceAdd, Int.reduceSub, Nat.reduceMul, Nat.reduceGT, Nat.reduceLeDiff, decide_true, decide_false, Bool.false_eq_true, Int.reduceBEq, Int.reduceGT, Int.reduceLE, Int.reduceGE, beq_self_eq_true]; exact Ac)) ?_
  refine Te [2] Aa (Ev (by simp only [go_sem, Ae, Int.reduceLT, Int.reduceAdd, Int.reduceSub, Nat.reduceMul, Nat.reduceGT, Nat.reduceLeDiff, decide_true, decide_false, Bool.false_eq_true, Int.reduceBEq, Int.reduceGT, Int.reduceLE, Int.reduceGE, beq_self_eq_true]; exact Ac)) ?_
  exact Sr <|Ro []
theorem O2 {a r} (h : H7 a = some r) : Con B 59 [.bs false 0 (a.length) 0 (a.length)] [.buf 4 (L cApi_Value a) false] (fun r' σ' => r' = .agg [i64 r.Kind, i64 r.N, .sl true (L cU8 ([])), .bs false 0 (r.L.length) 0 (r.L.length)] ∧ σ' = [.buf 4 (L cApi_Value r.L) false]) := by
  refine Co 1 5 [.cell 2 55] Tryz.func59 (fun F hE => ?_) h
  unfold H7
  refine Te [0, 2] Aa (Ev (by simp only [go_sem, Ae, Int.reduceLT, Int.reduceAdd, Int.reduceSub, Nat.reduceMul, Nat.reduceGT, Nat.reduceLeDiff, decide_true, decide_false, Bool.false_eq_true, Int.reduceBEq, Int.reduceGT, Int.reduceLE, Int.reduceGE, beq_self_eq_true]; exact Ac)) ?_
  refine Te [2] Aa (Ev (by simp only [go_sem, Ae, Int.reduceLT, Int.reduceAdd, Int.reduceSub, Nat.reduceMul, Nat.reduceGT, Nat.reduceLeDiff, decide_true, decide_false, Bool.false_eq_true, Int.reduceBEq, Int.reduceGT, Int.reduceLE, Int.reduceGE, beq_self_eq_true]; exact Ac)) ?_
  exact Sr <|Ro [0]
theorem I8 {a r} (h : Em a = some r) : Con B 59 [.sl false (L cApi_Value a)] [] (fun r' σ' => r' = .agg [i64 r.Kind, i64 r.N, .sl true (L cU8 ([])), .sl false (L cApi_Value r.L)] ∧ σ' = []) := by
  refine Co 0 5 [.cell 2 55] Tryz.func59 (fun F hE => ?_) h
  unfold Em
  refine Te [0, 2] Aa (Ev (by simp only [go_sem, Ae, Int.reduceLT, Int.reduceAdd, Int.reduceSub, Nat.reduceMul, Nat.reduceGT, Nat.reduceLeDiff, decide_true, decide_false, Bool.false_eq_true, Int.reduceBEq, Int.reduceGT, Int.reduceLE, Int.reduceGE, beq_self_eq_true]; exact Ac)) ?_
  refine Te [2] Aa (Ev (by simp only [go_sem, Ae, Int.reduceLT, Int.reduceAdd, Int.reduceSub, Nat.reduceMul, Nat.reduceGT, Nat.reduceLeDiff, decide_true, decide_false, Bool.false_eq_true, Int.reduceBEq, Int.reduceGT, Int.reduceLE, Int.reduceGE, beq_self_eq_true]; exact Ac)) ?_
  exact Sr <|Ro []
theorem Hg {a r} (h : Gy a = some r) : Con B 21 [.agg [i64 a.Kind, i64 a.Ref.Railway, i64 a.Ref.No, i64 a.Wagon, i64 a.Place, i64 a.Other, i64 a.Number, i64 a.From, i64 a.To, i64 a.Code, i64 a.Dest, i64 a.Class, i64 a.Weight, i64 a.Amount, .str a.Text, .sl false (L Ab a.Parts)]] [] (fun r' σ' => r' = .agg [i64 r.Kind, i64 r.N, .sl false (L cU8 r.B), .sl false (L cApi_Value r.L)] ∧ σ' = []) := by
  refine Cw 70 [.cell 2 55] Tryz.func21 (fun F hE => ?_) h
  unfold Gy
  refine T0 [1, 2] ?_
  refine Bd fun bF av => ?_
  refine Bd fun aw ax => ?_
  refine Bd fun ay az => ?_
  refine Bd fun bG aA => ?_
  refine Lt fun f aB => ?_
  refine De (fr' := [(1, _), (2, _), (3, .bs true 2 (f.length) 0 (f.length))]) (σ' := [_, _, .buf 4 (L cApi_Value f) false]) [[], [0], [0, 1], [], [3], [3, 4], [0, 1, 2, 3, 4, 5], [], [7], [7, 8], [0, 1, 2, 3, 4, 5, 6, 7, 8, 9], [0, 1, 2, 3, 4, 5, 6, 7, 8, 9, 10], [0, 1, 2, 3, 4, 5, 6, 7, 8, 9, 10, 11], [0, 1, 2, 3, 4, 5, 6, 7, 8, 9, 10, 11, 12], [0, 1, 2, 3, 4, 5, 6, 7, 8, 9, 10, 11, 12, 13]] [1, 2, 3] (Aj (l := [(12, _, _, _), (16, _, _, _), (20, _, _, _)]) (m := [(22, 59, [.sl false (L cApi_Value (([aw, ay] : List Api_Value)))], [.box [i64 a.Kind, i64 a.Ref.Railway, i64 a.Ref.No, i64 a.Wagon, i64 a.Place, i64 a.Other, i64 a.Number, i64 a.From, i64 a.To, i64 a.Code, i64 a.Dest, i64 a.Class, i64 a.Weight, i64 a.Amount, .str a.Text, .sl false (L Ab a.Parts)] false, .box [i64 0, i64 0, .sl true (L cU8 ([])), .sl true (L cApi_Value ([]))] false], _, _)]) ⟨Ax  av, Ax  ax, Ax  az, trivial⟩ ⟨(wc (I8 aA) []), trivial⟩) (Ev (by simp only [go_sem, aB]; exact Ac)) ?_
  refine Ja (fun b => ⟨Ao 70 [(1, .ref 0 0), (2, .ref 1 0), (3, .bs false 2 (b.length) 0 (b.length))], [.box [i64 a.Kind, i64 a.Ref.Railway, i64 a.Ref.No, i64 a.Wagon, i64 a.Place, i64 a.Other, i64 a.Number, i64 a.From, i64 a.To, i64 a.Code, i64 a.Dest, i64 a.Class, i64 a.Weight, i64 a.Amount, .str a.Text, .sl false (L Ab a.Parts)] false, .box [i64 0, i64 0, .sl true (L cU8 ([])), .sl true (L cApi_Value ([]))] false, .buf 4 (L cApi_Value b) false]⟩) ?_ ?_
  · intro bH
    refine Te [1, 2, 3, 24, 25] (Aj (l := []) (m := [(24, 51, [.ref 0 0], [.box [i64 a.Kind, i64 a.Ref.Railway, i64 a.Ref.No, i64 a.Wagon, i64 a.Place, i64 a.Other, i64 a.Number, i64 a.From, i64 a.To, i64 a.Code, i64 a.Dest, i64 a.Class, i64 a.Weight, i64 a.Amount, .str a.Text, .sl false (L Ab a.Parts)] false, .box [i64 0, i64 0, .sl true (L cU8 ([])), .sl true (L cApi_Value ([]))] false, .buf 4 (L cApi_Value f) false], .agg [.ref 0 3, .ref 0 4, .ref 0 5, .ref 0 6, .ref 0 7, .ref 0 8, .ref 0 9, .ref 0 10, .ref 0 11, .ref 0 12, .ref 0 13], [.box [i64 a.Kind, i64 a.Ref.Railway, i64 a.Ref.No, i64 a.Wagon, i64 a.Place, i64 a.Other, i64 a.Number, i64 a.From, i64 a.To, i64 a.Code, i64 a.Dest, i64 a.Class, i64 a.Weight, i64 a.Amount, .str a.Text, .sl false (L Ab a.Parts)] false, .box [i64 0, i64 0, .sl true (L cU8 ([])), .sl true (L cApi_Value ([]))] false, .buf 4 (L cApi_Value f) false])]) trivial ⟨A3, trivial⟩) Ev ?_
    refine Sb ?_
    refine Ul 17 ?_
    refine Ug (m := 16) ?_
    refine Te [1, 2, 3, 24, 25, 26] Aa (Ev (by simp only [go_sem, Ae, Int.reduceLT, Int.reduceAdd, Int.reduceSub, Nat.reduceMul, Nat.reduceGT, Nat.reduceLeDiff, decide_true, decide_false, Bool.false_eq_true, Int.reduceBEq, Int.reduceGT, Int.reduceLE, Int.reduceGE, beq_self_eq_true]; exact Ac)) ?_
    refine Sq ?_
    refine Ct ?_
    refine Sk <|Tn <|Sq <|Sb <|?_
    have ae : InR 0 11 := by decide
    refine Te [1, 2, 3, 5, 24, 25] Aa (Ev (by simp only [go_sem, Ae, Int.reduceLT, Int.reduceAdd, Int.reduceSub, Nat.reduceMul, Nat.reduceGT, Nat.reduceLeDiff, decide_true, decide_false, Bool.false_eq_true, Int.reduceBEq, Int.reduceGT, Int.reduceLE, Int.reduceGE, beq_self_eq_true, ae, ae.2]; exact Ac)) ?_
    refine Bd fun bI aC => ?_
    refine Ck fun aD => ?_
    refine Lt fun n aE => ?_
    refine Fe (fr' := [(1, _), (2, _), (3, .bs false 2 (n.length) 0 (n.length)), (24, _), (25, _)]) (σ' := [_, _, .buf 4 (L cApi_Value n) false, _]) [1, 2, 3, 24, 25] (o1 32 (Ax aC)) (Ev (by simp only [go_sem, Ae, Int.reduceLT, Int.reduceAdd, Int.reduceSub, Nat.reduceMul, Nat.reduceGT, Nat.reduceLeDiff, decide_true, decide_false, Bool.false_eq_true, Int.reduceBEq, Int.reduceGT, Int.reduceLE, Int.reduceGE, beq_self_eq_true, aD, aE]; exact Ac)) ?_
    refine Bn <|Tn <|?_
    have aF : w64 1 = 1 := by decide
    refine Fe [1, 2, 3, 24, 25] Aa (Ev (by simp only [go_sem, Ae, Int.reduceLT, Int.reduceAdd, Int.reduceSub, Nat.reduceMul, Nat.reduceGT, Nat.reduceLeDiff, decide_true, decide_false, Bool.false_eq_true, Int.reduceBEq, Int.reduceGT, Int.reduceLE, Int.reduceGE, beq_self_eq_true, aF]; exact Ac)) ?_
    refine Un ?_
    refine Ug (m := 15) ?_
    refine Te [1, 2, 3, 24, 25, 26] Aa (Ev (by simp only [go_sem, Ae, Int.reduceLT, Int.reduceAdd, Int.reduceSub, Nat.reduceMul, Nat.reduceGT, Nat.reduceLeDiff, decide_true, decide_false, Bool.false_eq_true, Int.reduceBEq, Int.reduceGT, Int.reduceLE, Int.reduceGE, beq_self_eq_true]; exact Ac)) ?_
    refine Sq ?_
    refine Ct ?_
    refine Sk <|Tn <|Sq <|Sb <|?_
    have af : InR 1 11 := by decide
    refine Te [1, 2, 3, 5, 24, 25] Aa (Ev (by simp only [go_sem, Ae, Int.reduceLT, Int.reduceAdd, Int.reduceSub, Nat.reduceMul, Nat.reduceGT, Nat.reduceLeDiff, decide_true, decide_false, Bool.false_eq_true, Int.reduceBEq, Int.reduceGT, Int.reduceLE, Int.reduceGE, beq_self_eq_true, af, af.2]; exact Ac)) ?_
    refine Bd fun bJ aG => ?_
    refine Ck fun aH => ?_
    refine Lt fun o aI => ?_
    refine Fe (fr' := [(1, _), (2, _), (3, .bs false 2 (o.length) 0 (o.length)), (24, _), (25, _)]) (σ' := [_, _, .buf 4 (L cApi_Value o) false, _, _]) [1, 2, 3, 24, 25] (o1 32 (Ax aG)) (Ev (by simp only [go_sem, Ae, Int.reduceLT, Int.reduceAdd, Int.reduceSub, Nat.reduceMul, Nat.reduceGT, Nat.reduceLeDiff, decide_true, decide_false, Bool.false_eq_true, Int.reduceBEq, Int.reduceGT, Int.reduceLE, Int.reduceGE, beq_self_eq_true, aH, aI]; exact Ac)) ?_
    refine Bn <|Tn <|?_
    have aJ : w64 2 = 2 := by decide
    refine Fe [1, 2, 3, 24, 25] Aa (Ev (by simp only [go_sem, Ae, Int.reduceLT, Int.reduceAdd, Int.reduceSub, Nat.reduceMul, Nat.reduceGT, Nat.reduceLeDiff, decide_true, decide_false, Bool.false_eq_true, Int.reduceBEq, Int.reduceGT, Int.reduceLE, Int.reduceGE, beq_self_eq_true, aJ]; exact Ac)) ?_
    refine Un ?_
    refine Ug (m := 14) ?_
    refine Te [1, 2, 3, 24, 25, 26] Aa (Ev (by simp only [go_sem, Ae, Int.reduceLT, Int.reduceAdd, Int.reduceSub, Nat.reduceMul, Nat.reduceGT, Nat.reduceLeDiff, decide_true, decide_false, Bool.false_eq_true, Int.reduceBEq, Int.reduceGT, Int.reduceLE, Int.reduceGE, beq_self_eq_true]; exact Ac)) ?_
    refine Sq ?_
    refine Ct ?_
    refine Sk <|Tn <|Sq <|Sb <|?_
    have ag : InR 2 11 := by decide
    refine Te [1, 2, 3, 5, 24, 25] Aa (Ev (by simp only [go_sem, Ae, Int.reduceLT, Int.reduceAdd, Int.reduceSub, Nat.reduceMul, Nat.reduceGT, Nat.reduceLeDiff, decide_true, decide_false, Bool.false_eq_true, Int.reduceBEq, Int.reduceGT, Int.reduceLE, Int.reduceGE, beq_self_eq_true, ag, ag.2]; exact Ac)) ?_
    refine Bd fun bK aK => ?_
    refine Ck fun aL => ?_
    refine Lt fun p aM => ?_
    refine Fe (fr' := [(1, _), (2, _), (3, .bs false 2 (p.length) 0 (p.length)), (24, _), (25, _)]) (σ' := [_, _, .buf 4 (L cApi_Value p) false, _, _, _]) [1, 2, 3, 24, 25] (o1 32 (Ax aK)) (Ev (by simp only [go_sem, Ae, Int.reduceLT, Int.reduceAdd, Int.reduceSub, Nat.reduceMul, Nat.reduceGT, Nat.reduceLeDiff, decide_true, decide_false, Bool.false_eq_true, Int.reduceBEq, Int.reduceGT, Int.reduceLE, Int.reduceGE, beq_self_eq_true, aL, aM]; exact Ac)) ?_
    refine Bn <|Tn <|?_
    have aN : w64 3 = 3 := by decide
    refine Fe [1, 2, 3, 24, 25] Aa (Ev (by simp only [go_sem, Ae, Int.reduceLT, Int.reduceAdd, Int.reduceSub, Nat.reduceMul, Nat.reduceGT, Nat.reduceLeDiff, decide_true, decide_false, Bool.false_eq_true, Int.reduceBEq, Int.reduceGT, Int.reduceLE, Int.reduceGE, beq_self_eq_true, aN]; exact Ac)) ?_
    refine Un ?_
    refine Ug (m := 13) ?_
    refine Te [1, 2, 3, 24, 25, 26] Aa (Ev (by simp only [go_sem, Ae, Int.reduceLT, Int.reduceAdd, Int.reduceSub, Nat.reduceMul, Nat.reduceGT, Nat.reduceLeDiff, decide_true, decide_false, Bool.false_eq_true, Int.reduceBEq, Int.reduceGT, Int.reduceLE, Int.reduceGE, beq_self_eq_true]; exact Ac)) ?_
    refine Sq ?_
    refine Ct ?_
    refine Sk <|Tn <|Sq <|Sb <|?_
    have ah : InR 3 11 := by decide
    refine Te [1, 2, 3, 5, 24, 25] Aa (Ev (by simp only [go_sem, Ae, Int.reduceLT, Int.reduceAdd, Int.reduceSub, Nat.reduceMul, Nat.reduceGT, Nat.reduceLeDiff, decide_true, decide_false, Bool.false_eq_true, Int.reduceBEq, Int.reduceGT, Int.reduceLE, Int.reduceGE, beq_self_eq_true, ah, ah.2]; exact Ac)) ?_
    refine Bd fun bL aO => ?_
    refine Ck fun aP => ?_
    refine Lt fun q aQ => ?_
    refine Fe (fr' := [(1, _), (2, _), (3, .bs false 2 (q.length) 0 (q.length)), (24, _), (25, _)]) (σ' := [_, _, .buf 4 (L cApi_Value q) false, _, _, _, _]) [1, 2, 3, 24, 25] (o1 32 (Ax aO)) (Ev (by simp only [go_sem, Ae, Int.reduceLT, Int.reduceAdd, Int.reduceSub, Nat.reduceMul, Nat.reduceGT, Nat.reduceLeDiff, decide_true, decide_false, Bool.false_eq_true, Int.reduceBEq, Int.reduceGT, Int.reduceLE, Int.reduceGE, beq_self_eq_true, aP, aQ]; exact Ac)) ?_
    refine Bn <|Tn <|?_
    have aR : w64 4 = 4 := by decide
    refine Fe [1, 2, 3, 24, 25] Aa (Ev (by simp only [go_sem, Ae, Int.reduceLT, Int.reduceAdd, Int.reduceSub, Nat.reduceMul, Nat.reduceGT, Nat.reduceLeDiff, decide_true, decide_false, Bool.false_eq_true, Int.reduceBEq, Int.reduceGT, Int.reduceLE, Int.reduceGE, beq_self_eq_true, aR]; exact Ac)) ?_
    refine Un ?_
    refine Ug (m := 12) ?_
    refine Te [1, 2, 3, 24, 25, 26] Aa (Ev (by simp only [go_sem, Ae, Int.reduceLT, Int.reduceAdd, Int.reduceSub, Nat.reduceMul, Nat.reduceGT, Nat.reduceLeDiff, decide_true, decide_false, Bool.false_eq_true, Int.reduceBEq, Int.reduceGT, Int.reduceLE, Int.reduceGE, beq_self_eq_true]; exact Ac)) ?_
    refine Sq ?_
    refine Ct ?_
    refine Sk <|Tn <|Sq <|Sb <|?_
    have ai : InR 4 11 := by decide
    refine Te [1, 2, 3, 5, 24, 25] Aa (Ev (by simp only [go_sem, Ae, Int.reduceLT, Int.reduceAdd, Int.reduceSub, Nat.reduceMul, Nat.reduceGT, Nat.reduceLeDiff, decide_true, decide_false, Bool.false_eq_true, Int.reduceBEq, Int.reduceGT, Int.reduceLE, Int.reduceGE, beq_self_eq_true, ai, ai.2]; exact Ac)) ?_
    refine Bd fun bM aS => ?_
    refine Ck fun aT => ?_
    refine Lt fun s aU => ?_
    refine Fe (fr' := [(1, _), (2, _), (3, .bs false 2 (s.length) 0 (s.length)), (24, _), (25, _)]) (σ' := [_, _, .buf 4 (L cApi_Value s) false, _, _, _, _, _]) [1, 2, 3, 24, 25] (o1 32 (Ax aS)) (Ev (by simp only [go_sem, Ae, Int.reduceLT, Int.reduceAdd, Int.reduceSub, Nat.reduceMul, Nat.reduceGT, Nat.reduceLeDiff, decide_true, decide_false, Bool.false_eq_true, Int.reduceBEq, Int.reduceGT, Int.reduceLE, Int.reduceGE, beq_self_eq_true, aT, aU]; exact Ac)) ?_
    refine Bn <|Tn <|?_
    have aV : w64 5 = 5 := by decide
    refine Fe [1, 2, 3, 24, 25] Aa (Ev (by simp only [go_sem, Ae, Int.reduceLT, Int.reduceAdd, Int.reduceSub, Nat.reduceMul, Nat.reduceGT, Nat.reduceLeDiff, decide_true, decide_false, Bool.false_eq_true, Int.reduceBEq, Int.reduceGT, Int.reduceLE, Int.reduceGE, beq_self_eq_true, aV]; exact Ac)) ?_
    refine Un ?_
    refine Ug (m := 11) ?_
    refine Te [1, 2, 3, 24, 25, 26] Aa (Ev (by simp only [go_sem, Ae, Int.reduceLT, Int.reduceAdd, Int.reduceSub, Nat.reduceMul, Nat.reduceGT, Nat.reduceLeDiff, decide_true, decide_false, Bool.false_eq_true, Int.reduceBEq, Int.reduceGT, Int.reduceLE, Int.reduceGE, beq_self_eq_true]; exact Ac)) ?_
    refine Sq ?_
    refine Ct ?_
    refine Sk <|Tn <|Sq <|Sb <|?_
    have aj : InR 5 11 := by decide
    refine Te [1, 2, 3, 5, 24, 25] Aa (Ev (by simp only [go_sem, Ae, Int.reduceLT, Int.reduceAdd, Int.reduceSub, Nat.reduceMul, Nat.reduceGT, Nat.reduceLeDiff, decide_true, decide_false, Bool.false_eq_true, Int.reduceBEq, Int.reduceGT, Int.reduceLE, Int.reduceGE, beq_self_eq_true, aj, aj.2]; exact Ac)) ?_
    refine Bd fun bN aW => ?_
    refine Ck fun aX => ?_
    refine Lt fun t aY => ?_
    refine Fe (fr' := [(1, _), (2, _), (3, .bs false 2 (t.length) 0 (t.length)), (24, _), (25, _)]) (σ' := [_, _, .buf 4 (L cApi_Value t) false, _, _, _, _, _, _]) [1, 2, 3, 24, 25] (o1 32 (Ax aW)) (Ev (by simp only [go_sem, Ae, Int.reduceLT, Int.reduceAdd, Int.reduceSub, Nat.reduceMul, Nat.reduceGT, Nat.reduceLeDiff, decide_true, decide_false, Bool.false_eq_true, Int.reduceBEq, Int.reduceGT, Int.reduceLE, Int.reduceGE, beq_self_eq_true, aX, aY]; exact Ac)) ?_
    refine Bn <|Tn <|?_
    have aZ : w64 6 = 6 := by decide
    refine Fe [1, 2, 3, 24, 25] Aa (Ev (by simp only [go_sem, Ae, Int.reduceLT, Int.reduceAdd, Int.reduceSub, Nat.reduceMul, Nat.reduceGT, Nat.reduceLeDiff, decide_true, decide_false, Bool.false_eq_true, Int.reduceBEq, Int.reduceGT, Int.reduceLE, Int.reduceGE, beq_self_eq_true, aZ]; exact Ac)) ?_
    refine Un ?_
    refine Ug (m := 10) ?_
    refine Te [1, 2, 3, 24, 25, 26] Aa (Ev (by simp only [go_sem, Ae, Int.reduceLT, Int.reduceAdd, Int.reduceSub, Nat.reduceMul, Nat.reduceGT, Nat.reduceLeDiff, decide_true, decide_false, Bool.false_eq_true, Int.reduceBEq, Int.reduceGT, Int.reduceLE, Int.reduceGE, beq_self_eq_true]; exact Ac)) ?_
    refine Sq ?_
    refine Ct ?_
    refine Sk <|Tn <|Sq <|Sb <|?_
    have ak : InR 6 11 := by decide
    refine Te [1, 2, 3, 5, 24, 25] Aa (Ev (by simp only [go_sem, Ae, Int.reduceLT, Int.reduceAdd, Int.reduceSub, Nat.reduceMul, Nat.reduceGT, Nat.reduceLeDiff, decide_true, decide_false, Bool.false_eq_true, Int.reduceBEq, Int.reduceGT, Int.reduceLE, Int.reduceGE, beq_self_eq_true, ak, ak.2]; exact Ac)) ?_
    refine Bd fun bO a0 => ?_
    refine Ck fun a1 => ?_
    refine Lt fun u a2 => ?_
    refine Fe (fr' := [(1, _), (2, _), (3, .bs false 2 (u.length) 0 (u.length)), (24, _), (25, _)]) (σ' := [_, _, .buf 4 (L cApi_Value u) false, _, _, _, _, _, _, _]) [1, 2, 3, 24, 25] (o1 32 (Ax a0)) (Ev (by simp only [go_sem, Ae, Int.reduceLT, Int.reduceAdd, Int.reduceSub, Nat.reduceMul, Nat.reduceGT, Nat.reduceLeDiff, decide_true, decide_false, Bool.false_eq_true, Int.reduceBEq, Int.reduceGT, Int.reduceLE, Int.reduceGE, beq_self_eq_true, a1, a2]; exact Ac)) ?_
    refine Bn <|Tn <|?_
    have a3 : w64 7 = 7 := by decide
    refine Fe [1, 2, 3, 24, 25] Aa (Ev (by simp only [go_sem, Ae, Int.reduceLT, Int.reduceAdd, Int.reduceSub, Nat.reduceMul, Nat.reduceGT, Nat.reduceLeDiff, decide_true, decide_false, Bool.false_eq_true, Int.reduceBEq, Int.reduceGT, Int.reduceLE, Int.reduceGE, beq_self_eq_true, a3]; exact Ac)) ?_
    refine Un ?_
    refine Ug (m := 9) ?_
    refine Te [1, 2, 3, 24, 25, 26] Aa (Ev (by simp only [go_sem, Ae, Int.reduceLT, Int.reduceAdd, Int.reduceSub, Nat.reduceMul, Nat.reduceGT, Nat.reduceLeDiff, decide_true, decide_false, Bool.false_eq_true, Int.reduceBEq, Int.reduceGT, Int.reduceLE, Int.reduceGE, beq_self_eq_true]; exact Ac)) ?_
    refine Sq ?_
    refine Ct ?_
    refine Sk <|Tn <|Sq <|Sb <|?_
    have al : InR 7 11 := by decide
    refine Te [1, 2, 3, 5, 24, 25] Aa (Ev (by simp only [go_sem, Ae, Int.reduceLT, Int.reduceAdd, Int.reduceSub, Nat.reduceMul, Nat.reduceGT, Nat.reduceLeDiff, decide_true, decide_false, Bool.false_eq_true, Int.reduceBEq, Int.reduceGT, Int.reduceLE, Int.reduceGE, beq_self_eq_true, al, al.2]; exact Ac)) ?_
    refine Bd fun bP a4 => ?_
    refine Ck fun a5 => ?_
    refine Lt fun w a6 => ?_
    refine Fe (fr' := [(1, _), (2, _), (3, .bs false 2 (w.length) 0 (w.length)), (24, _), (25, _)]) (σ' := [_, _, .buf 4 (L cApi_Value w) false, _, _, _, _, _, _, _, _]) [1, 2, 3, 24, 25] (o1 32 (Ax a4)) (Ev (by simp only [go_sem, Ae, Int.reduceLT, Int.reduceAdd, Int.reduceSub, Nat.reduceMul, Nat.reduceGT, Nat.reduceLeDiff, decide_true, decide_false, Bool.false_eq_true, Int.reduceBEq, Int.reduceGT, Int.reduceLE, Int.reduceGE, beq_self_eq_true, a5, a6]; exact Ac)) ?_
    refine Bn <|Tn <|?_
    have a7 : w64 8 = 8 := by decide
    refine Fe [1, 2, 3, 24, 25] Aa (Ev (by simp only [go_sem, Ae, Int.reduceLT, Int.reduceAdd, Int.reduceSub, Nat.reduceMul, Nat.reduceGT, Nat.reduceLeDiff, decide_true, decide_false, Bool.false_eq_true, Int.reduceBEq, Int.reduceGT, Int.reduceLE, Int.reduceGE, beq_self_eq_true, a7]; exact Ac)) ?_
    refine Un ?_
    refine Ug (m := 8) ?_
    refine Te [1, 2, 3, 24, 25, 26] Aa (Ev (by simp only [go_sem, Ae, Int.reduceLT, Int.reduceAdd, Int.reduceSub, Nat.reduceMul, Nat.reduceGT, Nat.reduceLeDiff, decide_true, decide_false, Bool.false_eq_true, Int.reduceBEq, Int.reduceGT, Int.reduceLE, Int.reduceGE, beq_self_eq_true]; exact Ac)) ?_
    refine Sq ?_
    refine Ct ?_
    refine Sk <|Tn <|Sq <|Sb <|?_
    have am : InR 8 11 := by decide
    refine Te [1, 2, 3, 5, 24, 25] Aa (Ev (by simp only [go_sem, Ae, Int.reduceLT, Int.reduceAdd, Int.reduceSub, Nat.reduceMul, Nat.reduceGT, Nat.reduceLeDiff, decide_true, decide_false, Bool.false_eq_true, Int.reduceBEq, Int.reduceGT, Int.reduceLE, Int.reduceGE, beq_self_eq_true, am, am.2]; exact Ac)) ?_
    refine Bd fun bQ a8 => ?_
    refine Ck fun a9 => ?_
    refine Lt fun x ba => ?_
    refine Fe (fr' := [(1, _), (2, _), (3, .bs false 2 (x.length) 0 (x.length)), (24, _), (25, _)]) (σ' := [_, _, .buf 4 (L cApi_Value x) false, _, _, _, _, _, _, _, _, _]) [1, 2, 3, 24, 25] (o1 32 (Ax a8)) (Ev (by simp only [go_sem, Ae, Int.reduceLT, Int.reduceAdd, Int.reduceSub, Nat.reduceMul, Nat.reduceGT, Nat.reduceLeDiff, decide_true, decide_false, Bool.false_eq_true, Int.reduceBEq, Int.reduceGT, Int.reduceLE, Int.reduceGE, beq_self_eq_true, a9, ba]; exact Ac)) ?_
    refine Bn <|Tn <|?_
    have bb : w64 9 = 9 := by decide
    refine Fe [1, 2, 3, 24, 25] Aa (Ev (by simp only [go_sem, Ae, Int.reduceLT, Int.reduceAdd, Int.reduceSub, Nat.reduceMul, Nat.reduceGT, Nat.reduceLeDiff, decide_true, decide_false, Bool.false_eq_true, Int.reduceBEq, Int.reduceGT, Int.reduceLE, Int.reduceGE, beq_self_eq_true, bb]; exact Ac)) ?_
    refine Un ?_
    refine Ug (m := 7) ?_
    refine Te [1, 2, 3, 24, 25, 26] Aa (Ev (by simp only [go_sem, Ae, Int.reduceLT, Int.reduceAdd, Int.reduceSub, Nat.reduceMul, Nat.reduceGT, Nat.reduceLeDiff, decide_true, decide_false, Bool.false_eq_true, Int.reduceBEq, Int.reduceGT, Int.reduceLE, Int.reduceGE, beq_self_eq_true]; exact Ac)) ?_
    refine Sq ?_
    refine Ct ?_
    refine Sk <|Tn <|Sq <|Sb <|?_
    have an : InR 9 11 := by decide
    refine Te [1, 2, 3, 5, 24, 25] Aa (Ev (by simp only [go_sem, Ae, Int.reduceLT, Int.reduceAdd, Int.reduceSub, Nat.reduceMul, Nat.reduceGT, Nat.reduceLeDiff, decide_true, decide_false, Bool.false_eq_true, Int.reduceBEq, Int.reduceGT, Int.reduceLE, Int.reduceGE, beq_self_eq_true, an, an.2]; exact Ac)) ?_
    refine Bd fun bR bc => ?_
    refine Ck fun bd => ?_
    refine Lt fun y be => ?_
    refine Fe (fr' := [(1, _), (2, _), (3, .bs false 2 (y.length) 0 (y.length)), (24, _), (25, _)]) (σ' := [_, _, .buf 4 (L cApi_Value y) false, _, _, _, _, _, _, _, _, _, _]) [1, 2, 3, 24, 25] (o1 32 (Ax bc)) (Ev (by simp only [go_sem, Ae, Int.reduceLT, Int.reduceAdd, Int.reduceSub, Nat.reduceMul, Nat.reduceGT, Nat.reduceLeDiff, decide_true, decide_false, Bool.false_eq_true, Int.reduceBEq, Int.reduceGT, Int.reduceLE, Int.reduceGE, beq_self_eq_true, bd, be]; exact Ac)) ?_
    refine Bn <|Tn <|?_
    have bf : w64 10 = 10 := by decide
    refine Fe [1, 2, 3, 24, 25] Aa (Ev (by simp only [go_sem, Ae, Int.reduceLT, Int.reduceAdd, Int.reduceSub, Nat.reduceMul, Nat.reduceGT, Nat.reduceLeDiff, decide_true, decide_false, Bool.false_eq_true, Int.reduceBEq, Int.reduceGT, Int.reduceLE, Int.reduceGE, beq_self_eq_true, bf]; exact Ac)) ?_
    refine Un ?_
    refine Ug (m := 6) ?_
    refine Te [1, 2, 3, 24, 25, 26] Aa (Ev (by simp only [go_sem, Ae, Int.reduceLT, Int.reduceAdd, Int.reduceSub, Nat.reduceMul, Nat.reduceGT, Nat.reduceLeDiff, decide_true, decide_false, Bool.false_eq_true, Int.reduceBEq, Int.reduceGT, Int.reduceLE, Int.reduceGE, beq_self_eq_true]; exact Ac)) ?_
    refine Sq ?_
    refine Ct ?_
    refine Sk <|Tn <|Sq <|Sb <|?_
    have ao : InR 10 11 := by decide
    refine Te [1, 2, 3, 5, 24, 25] Aa (Ev (by simp only [go_sem, Ae, Int.reduceLT, Int.reduceAdd, Int.reduceSub, Nat.reduceMul, Nat.reduceGT, Nat.reduceLeDiff, decide_true, decide_false, Bool.false_eq_true, Int.reduceBEq, Int.reduceGT, Int.reduceLE, Int.reduceGE, beq_self_eq_true, ao, ao.2]; exact Ac)) ?_
    refine Bd fun bS bg => ?_
    refine Ck fun bh => ?_
    refine Lt fun z bi => ?_
    refine Fe (fr' := [(1, _), (2, _), (3, .bs false 2 (z.length) 0 (z.length)), (24, _), (25, _)]) (σ' := [_, _, .buf 4 (L cApi_Value z) false, _, _, _, _, _, _, _, _, _, _, _]) [1, 2, 3, 24, 25] (o1 32 (Ax bg)) (Ev (by simp only [go_sem, Ae, Int.reduceLT, Int.reduceAdd, Int.reduceSub, Nat.reduceMul, Nat.reduceGT, Nat.reduceLeDiff, decide_true, decide_false, Bool.false_eq_true, Int.reduceBEq, Int.reduceGT, Int.reduceLE, Int.reduceGE, beq_self_eq_true, bh, bi]; exact Ac)) ?_
    refine Bn <|Tn <|?_
    have bj : w64 11 = 11 := by decide
    refine Fe [1, 2, 3, 24, 25] Aa (Ev (by simp only [go_sem, Ae, Int.reduceLT, Int.reduceAdd, Int.reduceSub, Nat.reduceMul, Nat.reduceGT, Nat.reduceLeDiff, decide_true, decide_false, Bool.false_eq_true, Int.reduceBEq, Int.reduceGT, Int.reduceLE, Int.reduceGE, beq_self_eq_true, bj]; exact Ac)) ?_
    refine Un ?_
    refine Ug (m := 5) ?_
    refine Te [1, 2, 3, 24, 25, 26] Aa (Ev (by simp only [go_sem, Ae, Int.reduceLT, Int.reduceAdd, Int.reduceSub, Nat.reduceMul, Nat.reduceGT, Nat.reduceLeDiff, decide_true, decide_false, Bool.false_eq_true, Int.reduceBEq, Int.reduceGT, Int.reduceLE, Int.reduceGE, beq_self_eq_true]; exact Ac)) ?_
    refine Sq ?_
    refine Cf ?_
    refine Sx <|Tx <|Ux <|Bx <|?_
    exact Jm (ws [0, 1, 2])
  intro b
  refine Bd fun c bk => ?_
  refine Te [1, 2, 3, 6] (Aj (l := []) (m := [(36, 59, [.sl true (L cApi_Value ([]))], [.box [i64 a.Kind, i64 a.Ref.Railway, i64 a.Ref.No, i64 a.Wagon, i64 a.Place, i64 a.Other, i64 a.Number, i64 a.From, i64 a.To, i64 a.Code, i64 a.Dest, i64 a.Class, i64 a.Weight, i64 a.Amount, .str a.Text, .sl false (L Ab a.Parts)] false, .box [i64 0, i64 0, .sl true (L cU8 ([])), .sl true (L cApi_Value ([]))] false, .buf 4 (L cApi_Value b) false], _, _)]) trivial ⟨(wc (N6 bk) []), trivial⟩) Ev ?_
  refine Ja (fun d => ⟨Ao 70 [(1, .ref 0 0), (2, .ref 1 0), (3, .bs false 2 (b.length) 0 (b.length)), (6, .ref 3 0)], [.box [i64 a.Kind, i64 a.Ref.Railway, i64 a.Ref.No, i64 a.Wagon, i64 a.Place, i64 a.Other, i64 a.Number, i64 a.From, i64 a.To, i64 a.Code, i64 a.Dest, i64 a.Class, i64 a.Weight, i64 a.Amount, .str a.Text, .sl false (L Ab a.Parts)] false, .box [i64 0, i64 0, .sl true (L cU8 ([])), .sl true (L cApi_Value ([]))] false, .buf 4 (L cApi_Value b) false, .box [i64 c.Kind, i64 c.N, .sl true (L cU8 ([])), .bs false 4 (d.length) 0 (d.length)] false, .buf 4 (L cApi_Value d) false]⟩) ?_ ?_
  · intro bT
    refine T0 [1, 2, 3, 6, 38, 39, 40] ?_
    refine Sb ?_
    refine Lo (fun (v : Int × List Api_Value) => (⟨Ao 70 [(1, .ref 0 0), (2, .ref 1 0), (3, .bs false 2 (b.length) 0 (b.length)), (6, .ref 3 0), (38, .sl false (L Ab a.Parts)), (39, i64 ((a.Parts.length : Int))), (40, i64 v.1)], [.box [i64 a.Kind, i64 a.Ref.Railway, i64 a.Ref.No, i64 a.Wagon, i64 a.Place, i64 a.Other, i64 a.Number, i64 a.From, i64 a.To, i64 a.Code, i64 a.Dest, i64 a.Class, i64 a.Weight, i64 a.Amount, .str a.Text, .sl false (L Ab a.Parts)] false, .box [i64 0, i64 0, .sl true (L cU8 ([])), .sl true (L cApi_Value ([]))] false, .buf 4 (L cApi_Value b) false, .box [i64 c.Kind, i64 c.N, .sl true (L cU8 ([])), .bs false 4 (v.2.length) 0 (v.2.length)] false, .buf 4 (L cApi_Value v.2) false]⟩ : St)) ((H1 3 3 4 rfl rfl).trans (ws [0, 1, 2, 3, 4])) ?_
    rintro ⟨aa, e⟩ bU bl bm bn
    show Ed a aa e = some bl → _
    unfold Ed
    refine T0 [1, 2, 3, 6, 38, 39, 40, 41] ?_
    refine Sq ?_
    refine Cd ?_ ?_
    · refine Sk <|Tn <|Sq <|Sb <|?_
      refine Ck fun bo => ?_
      refine Lt fun g bp => ?_
      refine Lt fun i bq => ?_
      refine Lt fun j br => ?_
      refine Te (σ' := [_, _, _, _, _, .box [i64 g, i64 i, .bool j] false]) [1, 2, 3, 6, 8, 38, 39, 40] Aa (Ev (by simp only [go_sem, qR bo, bp, bq, br]; exact Ac)) ?_
      refine T0 [1, 2, 3, 6, 8, 9, 38, 39, 40] ?_
      refine Ja (fun ap => ⟨Ao 70 [(1, .ref 0 0), (2, .ref 1 0), (3, .bs false 2 (b.length) 0 (b.length)), (6, .ref 3 0), (8, .ref 4 0), (9, i64 ap), (38, .sl false (L Ab a.Parts)), (39, i64 ((a.Parts.length : Int))), (40, i64 aa)], [.box [i64 a.Kind, i64 a.Ref.Railway, i64 a.Ref.No, i64 a.Wagon, i64 a.Place, i64 a.Other, i64 a.Number, i64 a.From, i64 a.To, i64 a.Code, i64 a.Dest, i64 a.Class, i64 a.Weight, i64 a.Amount, .str a.Text, .sl false (L Ab a.Parts)] false, .box [i64 0, i64 0, .sl true (L cU8 ([])), .sl true (L cApi_Value ([]))] false, .buf 4 (L cApi_Value b) false, .box [i64 c.Kind, i64 c.N, .sl true (L cU8 ([])), .bs false 5 (e.length) 0 (e.length)] false, .box [i64 g, i64 i, .bool j] false, .buf 4 (L cApi_Value e) false]⟩) ?_ ?_
      · intro bV
        refine T0 [1, 2, 3, 6, 8, 9, 38, 39, 40, 45] ?_
        refine Cd ?_ ?_
        · refine F0 [1, 2, 3, 6, 8, 9, 38, 39, 40] ?_
          exact Jm (ws [0, 1, 2, 3, 5, 4])
        · refine Sk ?_
          exact Jm (ws [0, 1, 2, 3, 5, 4])
      intro ap
      refine Bd fun bt bu => ?_
      refine Bd fun bv bw => ?_
      refine Bd fun bx bz => ?_
      refine Bd fun ab bA => ?_
      refine Ck fun aq => ?_
      refine Lt fun ac ar => ?_
      intro h
      refine AcI hE mixed [[], [0], [], [2], [2, 3], [], [5], [2, 3, 4, 5, 6], [], [2, 3, 4, 5, 6, 7, 8], [2, 3, 4, 5, 6, 7, 8, 9], [2, 3, 4, 5, 6, 7, 8, 9, 10], [2, 3, 4, 5, 6, 7, 8, 9, 10, 11], [0, 1, 2, 3, 4, 5, 6, 7, 8, 9, 10, 11, 12], [0, 1, 2, 3, 4, 5, 6, 7, 8, 9, 10, 11, 12, 13], [0, 1, 2, 3, 4, 5, 6, 7, 8, 9, 10, 11, 12, 13, 14]] (by kernel_rfl) 11 [0, 1] [1, 2, 3, 6, 38, 39, 40, 46] (by kernel_rfl) (Dm Pu) (fr' := [(1, .ref 0 0), (2, .ref 1 0), (3, .bs false 2 (b.length) 0 (b.length)), (6, .ref 3 0), (38, .sl false (L Ab a.Parts)), (39, i64 ((a.Parts.length : Int))), (40, i64 aa), (46, .ref 3 3)]) (σ' := [.box [i64 a.Kind, i64 a.Ref.Railway, i64 a.Ref.No, i64 a.Wagon, i64 a.Place, i64 a.Other, i64 a.Number, i64 a.From, i64 a.To, i64 a.Code, i64 a.Dest, i64 a.Class, i64 a.Weight, i64 a.Amount, .str a.Text, .sl false (L Ab a.Parts)] false, .box [i64 0, i64 0, .sl true (L cU8 ([])), .sl true (L cApi_Value ([]))] false, .buf 4 (L cApi_Value b) false, .box [i64 c.Kind, i64 c.N, .sl true (L cU8 ([])), .bs false 5 (ac.length) 0 (ac.length)] false, .box [i64 g, i64 i, .bool j] false, .buf 4 (L cApi_Value ac) false, .buf 4 (L cApi_Value (([(Api_Value.mk ab.Kind ab.N ([]) ab.L)] : List Api_Value))) false]) ⟨_, _, _, _, _, _, _, rfl, ?_, (Aj (l := [(50, _, _, _), (53, _, _, _), (55, _, _, _)]) (m := [(57, 59, [.sl false (L cApi_Value (([bt, bv, bx] : List Api_Value)))], [.box [i64 a.Kind, i64 a.Ref.Railway, i64 a.Ref.No, i64 a.Wagon, i64 a.Place, i64 a.Other, i64 a.Number, i64 a.From, i64 a.To, i64 a.Code, i64 a.Dest, i64 a.Class, i64 a.Weight, i64 a.Amount, .str a.Text, .sl false (L Ab a.Parts)] false, .box [i64 0, i64 0, .sl true (L cU8 ([])), .sl true (L cApi_Value ([]))] false, .buf 4 (L cApi_Value b) false, .box [i64 c.Kind, i64 c.N, .sl true (L cU8 ([])), .bs false 5 (e.length) 0 (e.length)] false, .box [i64 g, i64 i, .bool j] false, .buf 4 (L cApi_Value e) false], _, _)]) ⟨Ax  bu, Ax  bw, Ax  bz, trivial⟩ ⟨(wc (I8 bA) []), trivial⟩), ?_⟩ ?_
      · subst ar; simp only [go_sem, aq]
      · subst ar; simp only [go_sem, aq]
      revert h
      refine Bn <|Tn <|F0 [1, 2, 3, 6, 38, 39, 40] ?_
      exact Ln (ws [0, 1, 2, 3, 5])
    · refine Sx <|Tx <|Ly bn bm <|Bx <|?_
      exact Jm ((ws (l' := [(1, .ref 0 0), (2, .ref 1 0), (3, .bs false 2 (b.length) 0 (b.length)), (6, .ref 3 0)]) (σ' := [.box [i64 a.Kind, i64 a.Ref.Railway, i64 a.Ref.No, i64 a.Wagon, i64 a.Place, i64 a.Other, i64 a.Number, i64 a.From, i64 a.To, i64 a.Code, i64 a.Dest, i64 a.Class, i64 a.Weight, i64 a.Amount, .str a.Text, .sl false (L Ab a.Parts)] false, .box [i64 0, i64 0, .sl true (L cU8 ([])), .sl true (L cApi_Value ([]))] false, .buf 4 (L cApi_Value b) false, .box [i64 c.Kind, i64 c.N, .sl true (L cU8 ([])), .bs false 4 (e.length) 0 (e.length)] false, .buf 4 (L cApi_Value e) false]) [0, 1, 2, 3, 4]).trans (ws [0, 1, 2, 3, 4]))
  intro d
  refine Rw (Kl 3 3 rfl rfl rfl gs gs) ?_
  refine Bd fun k bB => ?_
  refine Ck fun bC => ?_
  refine Bd fun au bD => ?_
  refine Lt fun ad bE => ?_
  refine De (σ' := [_, .box [i64 au.Kind, i64 au.N, .sl true (L cU8 ([])), .bs false 2 (ad.length) 0 (ad.length)] false, .buf 4 (L cApi_Value ad) false, _, _, _]) [[], [], [1], [1, 2], [], [1, 2, 3, 4], [0, 1, 2, 3, 4, 5], [0, 1, 2, 3, 4, 5, 6], [0, 1, 2, 3, 4, 5, 6, 7]] [2] (Aj (l := [(65, _, _, _)]) (m := [(69, 59, [.bs false 2 (((b ++ (([k, (Api_Value.mk c.Kind c.N ([]) d)] : List Api_Value)))).length) 0 (((b ++ (([k, (Api_Value.mk c.Kind c.N ([]) d)] : List Api_Value)))).length)], [.box [i64 a.Kind, i64 a.Ref.Railway, i64 a.Ref.No, i64 a.Wagon, i64 a.Place, i64 a.Other, i64 a.Number, i64 a.From, i64 a.To, i64 a.Code, i64 a.Dest, i64 a.Class, i64 a.Weight, i64 a.Amount, .str a.Text, .sl false (L Ab a.Parts)] false, .box [i64 0, i64 0, .sl true (L cU8 ([])), .sl true (L cApi_Value ([]))] false, .buf 4 (L cApi_Value ((b ++ (([k, (Api_Value.mk c.Kind c.N ([]) d)] : List Api_Value))))) false, .box [i64 c.Kind, i64 c.N, .sl true (L cU8 ([])), .sl false (L cApi_Value d)] false, .buf 4 (L cApi_Value d) true, .buf 4 (L cApi_Value (([k, (Api_Value.mk c.Kind c.N ([]) d)] : List Api_Value))) false], _, _)]) ⟨V1  bB, trivial⟩ ⟨(wc (O2 bD) [2]), trivial⟩) (Ev (by simp only [go_sem, bC, bE]; exact Ac)) ?_
  exact Sr <|Rr
theorem Lv {a : List UInt8} {b : List UInt8} {r : Int} (h : Hx a b = some r) : Con B 113 [.sl false (L cU8 a), .sl false (L cU8 b)] [] (fun r' σ' => r' = i64 r ∧ σ' = []) :=
  Zl Tryz.func113 (by decide +kernel) rfl (by kernel_rfl) (by kernel_rfl) h
theorem I0 {a r} (h : F8 a = some r) : Con B 112 [i64 a] [] (fun r' σ' => r' = .bool r ∧ σ' = []) := by
  refine Cw 6 [.tmp 2] Tryz.func112 (fun F hE => ?_) h
  unfold F8
  refine T0 [0] ?_
  refine T0 [2] ?_
  exact Sr <|Rr
theorem H8 {a b r} (h : D4 a b = some r) : Con B 74 [i64 a, i64 b] [] (fun r' σ' => r' = i64 r ∧ σ' = []) := by
  refine Cw 20 [.tmp 4] Tryz.func74 (fun F hE => ?_) h
  unfold D4
  refine T0 [0, 1] ?_
  refine Bd fun e c => ?_
  refine Te [0, 1, 5] (o1 8 (I0 c)) Ev ?_
  refine Bd fun f d => ?_
  refine Te [0, 1, 5, 6] (o1 10 (I0 d)) Ev ?_
  refine Sq <|T0 [0, 1, 6, 11] ?_
  refine Cd ?_ ?_
  · refine Sq <|T0 [12] ?_
    refine Cd ?_ ?_
    · refine T0 [4] ?_
      exact Sr <|Tr <|Tr <|Rr
    · refine Sk <|Tn <|T0 [4] ?_
      exact Sr <|Tr <|Rr
  · refine Sk <|Tn <|Sq <|T0 [0, 1, 13] ?_
    refine Cd ?_ ?_
    · refine T0 [4] ?_
      exact Sr <|Tr <|Rr
    · refine Sk <|Tn <|Sq <|T0 [0, 1, 16] ?_
      refine Cd ?_ ?_
      · refine T0 [4] ?_
        exact Sr <|Tr <|Rr
      · refine Sk <|Tn <|Sq <|T0 [19] ?_
        refine Cd ?_ ?_
        · refine T0 [4] ?_
          exact Sr <|Tr <|Rr
        · refine Sk <|Tn <|T0 [4] ?_
          exact Sr <|Rr
theorem Nw {a b r} (h : Fq a b = some r) : Con B 75 [.sl false (L cU8 a), .sl false (L cU8 b)] [] (fun r' σ' => r' = i64 r ∧ σ' = []) := by
  refine Cw 8 [.tmp 4] Tryz.func75 (fun F hE => ?_) h
  unfold Fq
  refine T0 [0, 1] ?_
  refine Bd fun d c => ?_
  refine Te [4] (o1 7 (Lv c)) Ev ?_
  exact Sr <|Rr
theorem Iv {f : Api_Value → Api_Value → Option (Int)} {s1_3072 : List Api_Value} {s2_3073 : List Api_Value} {b : Api_Value → Api_Value → Option (Int)} (h26 : ∀ {a0 : Api_Value} {a1 : Api_Value} {r : Int}, f a0 a1 = some r → Con B 26 [.agg [i64 a0.Kind, i64 a0.N, .sl false (L cU8 a0.B), .sl false (L cApi_Value a0.L)], .agg [i64 a1.Kind, i64 a1.N, .sl false (L cU8 a1.B), .sl false (L cApi_Value a1.L)]] [] (fun r' σ' => r' = i64 r ∧ σ' = [])) {a : Nat} (i : ∀ {a0 : Api_Value} {a1 : Api_Value} {r : Int}, b a0 a1 = some r → Con B a [.agg [i64 a0.Kind, i64 a0.N, .sl false (L cU8 a0.B), .sl false (L cApi_Value a0.L)], .agg [i64 a1.Kind, i64 a1.N, .sl false (L cU8 a1.B), .sl false (L cApi_Value a1.L)]] [] (fun r' σ' => r' = i64 r ∧ σ' = [])) {r : Int} (h : Cj f s1_3072 s2_3073 b = some r) : Con B 76 [.sl false (L cApi_Value s1_3072), .sl false (L cApi_Value s2_3073), .fn a []] [] (fun r' σ' => r' = i64 r ∧ σ' = []) := by
  refine K0 (N := 39) (rs := [.tmp 6]) ok Tryz.func76 rfl (by decide +kernel) rfl rfl (Nat.le_of_ble_eq_true rfl) (fun F => ?_)
  have hE := ok.env F
  unfold Cj at h
  show Run (B.env F) 0 _ ⟨Ao 39 [(0, .sl false (L cApi_Value s1_3072)), (1, .sl false (L cApi_Value s2_3073)), (2, .fn a [])], []⟩ _
  refine Md ?_
  revert h
  refine T0 [0, 1, 2] ?_
  refine Jo (fun _ => ⟨Ao 39 [(0, .sl false (L cApi_Value s1_3072)), (1, .sl false (L cApi_Value s2_3073))], []⟩) ?_ ?_
  · intro ae g
    refine T0 [0, 1, 2, 11, 12, 13] ?_
    refine Sb ?_
    refine Lo (fun c => ⟨Ao 39 [(0, .sl false (L cApi_Value s1_3072)), (1, .sl false (L cApi_Value s2_3073)), (2, .fn a []), (11, .sl false (L cApi_Value s1_3072)), (12, i64 ((s1_3072.length : Int))), (13, i64 c)], []⟩) (ws []) ?_
    rintro c af j d e
    show Bq s1_3072 s2_3073 b c = some j → _
    unfold Bq
    refine T0 [0, 1, 2, 11, 12, 13, 14] ?_
    refine Sq ?_
    refine Cd ?_ ?_
    · refine Sk <|Tn <|Sq <|Sb <|?_
      refine Ck fun k => ?_
      refine Lt fun l m => ?_
      refine Lt fun n o => ?_
      refine Lt fun p q => ?_
      refine Lt fun s t => ?_
      refine Te (σ' := [.box [i64 l, i64 n, .sl false (L cU8 p), .sl false (L cApi_Value s)] false]) [0, 1, 2, 7, 8, 11, 12, 13] Aa (Ev (by simp only [go_sem, qR k, m, o, q, t]; exact Ac)) ?_
      refine Sq <|T0 [0, 1, 2, 7, 8, 11, 12, 13, 21] ?_
      refine Cd ?_ ?_
      · refine T0 [6] ?_
        exact Sr <|Tr <|Br <|Tr <|Lr e d <|Br <|Jr g <|Rr
      · refine Sk <|Tn <|?_
        refine Ck fun u => ?_
        refine Lt fun v w => ?_
        refine Lt fun x y => ?_
        refine Lt fun z aa => ?_
        refine Lt fun ab ac => ?_
        refine Te (σ' := [_, .box [i64 v, i64 x, .sl false (L cU8 z), .sl false (L cApi_Value ab)] false]) [0, 1, 2, 8, 9, 11, 12, 13] Aa (Ev (by simp only [go_sem, qR u, w, y, aa, ac]; exact Ac)) ?_
        refine Bd fun ag ad => ?_
        refine Te [0, 1, 2, 10, 11, 12, 13] (o1 29 (i ad)) Ev ?_
        refine T0 [0, 1, 2, 10, 11, 12, 13, 31] ?_
        refine Cd ?_ ?_
        · refine T0 [6] ?_
          exact Sr <|Br <|Tr <|Lr e d <|Br <|Jr g <|Rr
        · refine Sk <|Bn <|Tn <|F0 [0, 1, 2, 11, 12, 13] ?_
          exact Ln (ws [])
    · refine Sx <|Tx <|Lx e d <|Bx <|?_
      exact Jn ((ws (l' := [(0, .sl false (L cApi_Value s1_3072)), (1, .sl false (L cApi_Value s2_3073))]) (σ' := []) []).trans (ws []))
  intro _
  refine Sq <|T0 [38] ?_
  refine Cd ?_ ?_
  · refine T0 [6] ?_
    exact Sr <|Tr <|Rr
  · refine Sk <|Tn <|T0 [6] ?_
    exact Sr <|Rr
theorem Mg {rec_ : Api_Value → Api_Value → Option (Int)} (hrec : ∀ {a : Api_Value} {b : Api_Value} {r : Int}, rec_ a b = some r → Con B 26 [.agg [i64 a.Kind, i64 a.N, .sl false (L cU8 a.B), .sl false (L cApi_Value a.L)], .agg [i64 b.Kind, i64 b.N, .sl false (L cU8 b.B), .sl false (L cApi_Value b.L)]] [] (fun r' σ' => r' = i64 r ∧ σ' = [])) {a : Api_Value} {b : Api_Value} {r : Int} (h : Eh rec_ a b = some r) : Con B 26 [.agg [i64 a.Kind, i64 a.N, .sl false (L cU8 a.B), .sl false (L cApi_Value a.L)], .agg [i64 b.Kind, i64 b.N, .sl false (L cU8 b.B), .sl false (L cApi_Value b.L)]] [] (fun r' σ' => r' = i64 r ∧ σ' = []) := by
  refine K0 (N := 37) (rs := [.tmp 4]) ok Tryz.func26 rfl (by decide +kernel) rfl rfl (Nat.le_of_ble_eq_true rfl) (fun F => ?_)
  have hE := ok.env F
  unfold Eh at h
  show Run (B.env F) 0 _ ⟨Ao 37 [(0, .agg [i64 a.Kind, i64 a.N, .sl false (L cU8 a.B), .sl false (L cApi_Value a.L)]), (1, .agg [i64 b.Kind, i64 b.N, .sl false (L cU8 b.B), .sl false (L cApi_Value b.L)])], []⟩ _
  refine Md ?_
  revert h
  refine T0 [2, 3] ?_
  refine Sq ?_
  refine Bd fun g c => ?_
  refine Te [2, 3, 5] (o1 10 (H8 c)) Ev ?_
  refine T0 [2, 3, 5, 12] ?_
  refine Cd ?_ ?_
  · refine T0 [4] ?_
    exact Sr <|Tr <|Rr
  · refine Sk <|Tn <|Sq <|T0 [2, 3, 15] ?_
    refine Sb <|T0 [2, 3, 15, 16] ?_
    refine Cd ?_ ?_
    · refine Bd fun i d => ?_
      refine Te [4] (o1 22 (H8 d)) Ev ?_
      exact Sr <|Br <|Tr <|Rr
    · refine T0 [2, 3, 15, 23] ?_
      refine Cd ?_ ?_
      · refine Bd fun j e => ?_
        refine Te [4] (o1 29 (Nw e)) Ev ?_
        exact Sr <|Br <|Tr <|Rr
      · refine T0 [2, 3, 30] ?_
        refine Cd ?_ ?_
        · refine Bd fun k f => ?_
          refine Te [4] (o1 36 (Iv (fun h => hrec h) (fun h => hrec h) f)) Ev ?_
          exact Sr <|Br <|Tr <|Rr
        · refine Sk <|Bn <|Tn <|T0 [4] ?_
          exact Sr <|Rr
theorem Mc (n : Nat) : ∀ {a : Api_Value} {b : Api_Value} {r : Int}, Ee n a b = some r → Con B 26 [.agg [i64 a.Kind, i64 a.N, .sl false (L cU8 a.B), .sl false (L cApi_Value a.L)], .agg [i64 b.Kind, i64 b.N, .sl false (L cU8 b.B), .sl false (L cApi_Value b.L)]] [] (fun r' σ' => r' = i64 r ∧ σ' = []) := by
  induction n with
  | zero => intro a b r h; cases h
  | succ n ih => intro a b r h; exact Mg ih h
theorem Dr {a : Api_Value} {b : Api_Value} {r : Int} (h : Fg a b = some r) : Con B 26 [.agg [i64 a.Kind, i64 a.N, .sl false (L cU8 a.B), .sl false (L cApi_Value a.L)], .agg [i64 b.Kind, i64 b.N, .sl false (L cU8 b.B), .sl false (L cApi_Value b.L)]] [] (fun r' σ' => r' = i64 r ∧ σ' = []) := Mc _ h
theorem Sf {rec_ : Api_Value → Api_Value → Option (Bool)} (hrec : ∀ {a : Api_Value} {b : Api_Value} {r : Bool}, rec_ a b = some r → Con B 79 [.agg [i64 a.Kind, i64 a.N, .sl false (L cU8 a.B), .sl false (L cApi_Value a.L)], .agg [i64 b.Kind, i64 b.N, .sl false (L cU8 b.B), .sl false (L cApi_Value b.L)]] [] (fun r' σ' => r' = .bool r ∧ σ' = [])) {a : Api_Value} {b : Api_Value} {r : Bool} (h : Nm rec_ a b = some r) : Con B 79 [.agg [i64 a.Kind, i64 a.N, .sl false (L cU8 a.B), .sl false (L cApi_Value a.L)], .agg [i64 b.Kind, i64 b.N, .sl false (L cU8 b.B), .sl false (L cApi_Value b.L)]] [] (fun r' σ' => r' = .bool r ∧ σ' = []) := by
  refine K0 (N := 61) (rs := [.tmp 4]) ok Tryz.func79 rfl (by decide +kernel) rfl rfl (Nat.le_of_ble_eq_true rfl) (fun F => ?_)
  have hE := ok.env F
  unfold Nm at h
  show Run (B.env F) 0 _ ⟨Ao 61 [(0, .agg [i64 a.Kind, i64 a.N, .sl false (L cU8 a.B), .sl false (L cApi_Value a.L)]), (1, .agg [i64 b.Kind, i64 b.N, .sl false (L cU8 b.B), .sl false (L cApi_Value b.L)])], []⟩ _
  refine Md ?_
  revert h
  refine T0 [2, 3] ?_
  refine Sq ?_
  refine Tw [2, 3, 41] (fun j => ⟨Ao 61 [(2, .ref 0 0), (3, .ref 1 0), (41, .bool j)], [.box [i64 a.Kind, i64 a.N, .sl false (L cU8 a.B), .sl false (L cApi_Value a.L)] false, .box [i64 b.Kind, i64 b.N, .sl false (L cU8 b.B), .sl false (L cApi_Value b.L)] false]⟩) ?_ ?_
  · intro _
    refine Sp (fun c => ?_) fun c => ?_
    · exact Lf Aa (Ev (by simp only [go_sem, c]; exact Ac)) (ws [0, 1])
    · refine Bd fun s e => ?_
      refine Sp (fun d => ?_) fun d => ?_
      · exact Lf (o1 14 (Dr e)) (Ev (by simp only [go_sem, c, d]; exact Ac)) (ws [0, 1])
      · refine Sp (fun f => ?_) fun f => ?_
        · exact Lf (o1 14 (Dr e)) (Ev (by simp only [go_sem, c, d, f]; exact Ac)) (ws [0, 1])
        · refine Sp (fun g => ?_) fun g => ?_
          · exact Lf (o1 14 (Dr e)) (Ev (by simp only [go_sem, c, d, f, g]; exact Ac)) (ws [0, 1])
          · exact Lf (o1 14 (Dr e)) (Ev (by simp only [go_sem, c, d, f, g]; exact Ac)) (ws [0, 1])
  intro j
  refine Cd ?_ ?_
  · refine T0 [4] ?_
    exact Sr <|Tr <|Rr
  · refine Sk <|Tn <|?_
    refine Jo (fun _ => ⟨Ao 61 [], []⟩) ?_ ?_
    · intro t m
      refine T0 [2, 3, 44, 45] ?_
      refine Sb ?_
      refine Lo (fun i => ⟨Ao 61 [(2, .ref 0 0), (3, .ref 1 0), (44, i64 ((a.L.length : Int))), (45, i64 i)], [.box [i64 a.Kind, i64 a.N, .sl false (L cU8 a.B), .sl false (L cApi_Value a.L)] false, .box [i64 b.Kind, i64 b.N, .sl false (L cU8 b.B), .sl false (L cApi_Value b.L)] false]⟩) (ws [0, 1]) ?_
      rintro i u n k l
      show Lw a b rec_ i = some n → _
      unfold Lw
      refine T0 [2, 3, 44, 45, 46] ?_
      refine Sq ?_
      refine Cd ?_ ?_
      · refine Sk <|Tn <|Sq <|Sb <|T0 [2, 3, 5, 44, 45] ?_
        refine Ck fun o => ?_
        refine Ck fun p => ?_
        refine Bd fun v q => ?_
        refine De [[], [0], [], [0, 1, 2], [0, 1, 2, 3], [], [5], [], [5, 6, 7], [5, 6, 7, 8], [0, 1, 2, 3, 4, 5, 6, 7, 8, 9], [0, 1, 2, 3, 4, 5, 6, 7, 8, 9, 10]] [2, 3, 44, 45, 59] (o1 58 (hrec q)) (Ev (by simp only [go_sem, qR o, qR p]; exact Ac)) ?_
        refine Cd ?_ ?_
        · refine T0 [4] ?_
          exact Sr <|Br <|Tr <|Lr l k <|Br <|Jr m <|Rr
        · refine Sk <|Bn <|Tn <|F0 [2, 3, 44, 45] ?_
          exact Ln (ws [0, 1])
      · refine Sx <|Tx <|Lx l k <|Bx <|?_
        exact Jn ((ws (l' := []) (σ' := []) []).trans (ws []))
    intro _
    refine T0 [4] ?_
    exact Sr <|Rr
theorem Se (n : Nat) : ∀ {a : Api_Value} {b : Api_Value} {r : Bool}, Nk n a b = some r → Con B 79 [.agg [i64 a.Kind, i64 a.N, .sl false (L cU8 a.B), .sl false (L cApi_Value a.L)], .agg [i64 b.Kind, i64 b.N, .sl false (L cU8 b.B), .sl false (L cApi_Value b.L)]] [] (fun r' σ' => r' = .bool r ∧ σ' = []) := by
  induction n with
  | zero => intro a b r h; cases h
  | succ n ih => intro a b r h; exact Sf ih h
theorem X4 {a : Api_Value} {b : Api_Value} {r : Bool} (h : Abf a b = some r) : Con B 79 [.agg [i64 a.Kind, i64 a.N, .sl false (L cU8 a.B), .sl false (L cApi_Value a.L)], .agg [i64 b.Kind, i64 b.N, .sl false (L cU8 b.B), .sl false (L cApi_Value b.L)]] [] (fun r' σ' => r' = .bool r ∧ σ' = []) := Se _ h
theorem Iz {a r} (h : Hl a = some r) : Con B 32 [.agg [i64 a.Kind, i64 a.N, .sl false (L cU8 a.B), .sl false (L cApi_Value a.L)]] [] (fun r' σ' => r' = .tup [.agg [i64 r.1.Kind, i64 r.1.Ref.Railway, i64 r.1.Ref.No, i64 r.1.Wagon, i64 r.1.Place, i64 r.1.Other, i64 r.1.Number, i64 r.1.From, i64 r.1.To, i64 r.1.Code, i64 r.1.Dest, i64 r.1.Class, i64 r.1.Weight, i64 r.1.Amount, .str r.1.Text, .sl false (L Ab r.1.Parts)], i64 r.2] ∧ σ' = []) := by
  refine Cw 114 [.cell 2 41, .tmp 3] Tryz.func32 (fun F hE => ?_) h
  unfold Hl
  refine T0 [1, 2] ?_
  refine Te [1, 2, 4] (Aj (l := []) (m := [(8, 51, [.ref 1 0], [.box [i64 a.Kind, i64 a.N, .sl false (L cU8 a.B), .sl false (L cApi_Value a.L)] false, .box [i64 0, i64 0, i64 0, i64 0, i64 0, i64 0, i64 0, i64 0, i64 0, i64 0, i64 0, i64 0, i64 0, i64 0, .str (([] : List UInt8)), .sl true (L Ab ([]))] false], .agg [.ref 1 3, .ref 1 4, .ref 1 5, .ref 1 6, .ref 1 7, .ref 1 8, .ref 1 9, .ref 1 10, .ref 1 11, .ref 1 12, .ref 1 13], [.box [i64 a.Kind, i64 a.N, .sl false (L cU8 a.B), .sl false (L cApi_Value a.L)] false, .box [i64 0, i64 0, i64 0, i64 0, i64 0, i64 0, i64 0, i64 0, i64 0, i64 0, i64 0, i64 0, i64 0, i64 0, .str (([] : List UInt8)), .sl true (L Ab ([]))] false])]) trivial ⟨A3, trivial⟩) Ev ?_
  refine Sq ?_
  refine Tw [1, 2, 4, 21] (fun i => ⟨Ao 114 [(1, .ref 0 0), (2, .ref 1 0), (4, .ref 2 0), (21, .bool i)], [.box [i64 a.Kind, i64 a.N, .sl false (L cU8 a.B), .sl false (L cApi_Value a.L)] false, .box [i64 0, i64 0, i64 0, i64 0, i64 0, i64 0, i64 0, i64 0, i64 0, i64 0, i64 0, i64 0, i64 0, i64 0, .str (([] : List UInt8)), .sl true (L Ab ([]))] false, .box [.ref 1 3, .ref 1 4, .ref 1 5, .ref 1 6, .ref 1 7, .ref 1 8, .ref 1 9, .ref 1 10, .ref 1 11, .ref 1 12, .ref 1 13] false]⟩) ?_ ?_
  · intro _
    refine Sp (fun f => ?_) fun f => ?_
    · exact Lf Aa (Ev (by simp only [go_sem, f]; exact Ac)) (ws [0, 1, 2])
    · refine Ck fun aa => ?_
      exact Lf Aa (Ev (by simp only [go_sem, f, qL aa]; exact Ac)) (ws [0, 1, 2])
  intro i
  refine Cd ?_ ?_
  · refine T0 [2, 3] ?_
    exact Sr <|Tr <|Rr
  · refine Sk <|Tn <|?_
    refine Ck fun ab => ?_
    refine Te [1, 2, 4] Aa (Ev (by simp only [go_sem, qL ab]; exact Ac)) ?_
    refine Ck fun ac => ?_
    refine Ck fun ad => ?_
    refine Ck fun ae => ?_
    refine Ck fun af => ?_
    refine Lt fun b ag => ?_
    refine Lt fun c ah => ?_
    refine De (σ' := [_, .box [i64 ((nth a.L 0).N), i64 b, i64 c, i64 0, i64 0, i64 0, i64 0, i64 0, i64 0, i64 0, i64 0, i64 0, i64 0, i64 0, .str (([] : List UInt8)), .sl true (L Ab ([]))] false, _]) [[], [0], [0, 1], [0, 1, 2], [0, 1, 2, 3], [0, 1, 2, 3, 4], [0, 1, 2, 3, 4, 5], [0, 1, 2, 3, 4, 5, 6], [], [8], [8, 9], [8, 9, 10], [8, 9, 10, 11], [8, 9, 10, 11, 12], [8, 9, 10, 11, 12, 13], [8, 9, 10, 11, 12, 13, 14], [0, 1, 2, 3, 4, 5, 6, 7, 8, 9, 10, 11, 12, 13, 14, 15], [0, 1, 2, 3, 4, 5, 6, 7, 8, 9, 10, 11, 12, 13, 14, 15, 16], [0, 1, 2, 3, 4, 5, 6, 7, 8, 9, 10, 11, 12, 13, 14, 15, 16, 17]] [1, 2, 4] Aa (Ev (by simp only [go_sem, qL ac, qL ad, qL ae, qL af, ag, ah]; exact Ac)) ?_
    refine Ja (fun _ => ⟨Ao 114 [(1, .ref 0 0), (2, .ref 1 0)], [.box [i64 a.Kind, i64 a.N, .sl false (L cU8 a.B), .sl false (L cApi_Value a.L)] false, .box [i64 ((nth a.L 0).N), i64 b, i64 c, i64 ((nth a.L 2).N), i64 ((nth a.L 3).N), i64 ((nth a.L 4).N), i64 ((nth a.L 5).N), i64 ((nth a.L 6).N), i64 ((nth a.L 7).N), i64 ((nth a.L 8).N), i64 ((nth a.L 9).N), i64 ((nth a.L 10).N), i64 ((nth a.L 11).N), i64 ((nth a.L 12).N), .str (([] : List UInt8)), .sl true (L Ab ([]))] false]⟩) ?_ ?_
    · intro bc
      refine T0 [1, 2, 4, 47] ?_
      refine Sb ?_
      refine Ul 17 ?_
      refine Ug (m := 16) ?_
      refine Te [1, 2, 4, 47, 48] Aa (Ev (by simp only [go_sem, Ae, Int.reduceLT, Int.reduceAdd, Int.reduceSub, Nat.reduceMul, Nat.reduceGT, Nat.reduceLeDiff, decide_true, decide_false, Bool.false_eq_true, Int.reduceBEq, Int.reduceGT, Int.reduceLE, Int.reduceGE, beq_self_eq_true]; exact Ac)) ?_
      refine Sq ?_
      refine Ct ?_
      refine Sk <|Tn <|Sq <|Sb <|?_
      refine Te [1, 2, 4, 5, 47] Aa (Ev (by simp only [go_sem, Ae, Int.reduceLT, Int.reduceAdd, Int.reduceSub, Nat.reduceMul, Nat.reduceGT, Nat.reduceLeDiff, decide_true, decide_false, Bool.false_eq_true, Int.reduceBEq, Int.reduceGT, Int.reduceLE, Int.reduceGE, beq_self_eq_true]; exact Ac)) ?_
      have j : InR 0 11 := by decide
      have ai : w64 2 = 2 := by decide
      refine Ck fun aj => ?_
      refine Ge [[], [0], [0, 1], [], [3], [], [5], [3, 4, 5, 6], [3, 4, 5, 6, 7], [3, 4, 5, 6, 7, 8], [0, 1, 2, 3, 4, 5, 6, 7, 8, 9], [0, 1, 2, 3, 4, 5, 6, 7, 8, 9, 10]] [1, 2, 4, 47] Aa (Ev (by simp only [go_sem, Ae, Int.reduceLT, Int.reduceAdd, Int.reduceSub, Nat.reduceMul, Nat.reduceGT, Nat.reduceLeDiff, decide_true, decide_false, Bool.false_eq_true, Int.reduceBEq, Int.reduceGT, Int.reduceLE, Int.reduceGE, beq_self_eq_true, j, j.2, ai, qL aj]; exact Ac)) ?_
      refine Bn <|Tn <|?_
      have ak : w64 1 = 1 := by decide
      refine Fe [1, 2, 4, 47] Aa (Ev (by simp only [go_sem, Ae, Int.reduceLT, Int.reduceAdd, Int.reduceSub, Nat.reduceMul, Nat.reduceGT, Nat.reduceLeDiff, decide_true, decide_false, Bool.false_eq_true, Int.reduceBEq, Int.reduceGT, Int.reduceLE, Int.reduceGE, beq_self_eq_true, ak]; exact Ac)) ?_
      refine Un ?_
      refine Ug (m := 15) ?_
      refine Te [1, 2, 4, 47, 48] Aa (Ev (by simp only [go_sem, Ae, Int.reduceLT, Int.reduceAdd, Int.reduceSub, Nat.reduceMul, Nat.reduceGT, Nat.reduceLeDiff, decide_true, decide_false, Bool.false_eq_true, Int.reduceBEq, Int.reduceGT, Int.reduceLE, Int.reduceGE, beq_self_eq_true]; exact Ac)) ?_
      refine Sq ?_
      refine Ct ?_
      refine Sk <|Tn <|Sq <|Sb <|?_
      refine Te [1, 2, 4, 5, 47] Aa (Ev (by simp only [go_sem, Ae, Int.reduceLT, Int.reduceAdd, Int.reduceSub, Nat.reduceMul, Nat.reduceGT, Nat.reduceLeDiff, decide_true, decide_false, Bool.false_eq_true, Int.reduceBEq, Int.reduceGT, Int.reduceLE, Int.reduceGE, beq_self_eq_true]; exact Ac)) ?_
      have k : InR 1 11 := by decide
      have al : w64 3 = 3 := by decide
      refine Ck fun am => ?_
      refine Ge [[], [0], [0, 1], [], [3], [], [5], [3, 4, 5, 6], [3, 4, 5, 6, 7], [3, 4, 5, 6, 7, 8], [0, 1, 2, 3, 4, 5, 6, 7, 8, 9], [0, 1, 2, 3, 4, 5, 6, 7, 8, 9, 10]] [1, 2, 4, 47] Aa (Ev (by simp only [go_sem, Ae, Int.reduceLT, Int.reduceAdd, Int.reduceSub, Nat.reduceMul, Nat.reduceGT, Nat.reduceLeDiff, decide_true, decide_false, Bool.false_eq_true, Int.reduceBEq, Int.reduceGT, Int.reduceLE, Int.reduceGE, beq_self_eq_true, k, k.2, al, qL am]; exact Ac)) ?_
      refine Bn <|Tn <|?_
      have an : w64 2 = 2 := by decide
      refine Fe [1, 2, 4, 47] Aa (Ev (by simp only [go_sem, Ae, Int.reduceLT, Int.reduceAdd, Int.reduceSub, Nat.reduceMul, Nat.reduceGT, Nat.reduceLeDiff, decide_true, decide_false, Bool.false_eq_true, Int.reduceBEq, Int.reduceGT, Int.reduceLE, Int.reduceGE, beq_self_eq_true, an]; exact Ac)) ?_
      refine Un ?_
      refine Ug (m := 14) ?_
      refine Te [1, 2, 4, 47, 48] Aa (Ev (by simp only [go_sem, Ae, Int.reduceLT, Int.reduceAdd, Int.reduceSub, Nat.reduceMul, Nat.reduceGT, Nat.reduceLeDiff, decide_true, decide_false, Bool.false_eq_true, Int.reduceBEq, Int.reduceGT, Int.reduceLE, Int.reduceGE, beq_self_eq_true]; exact Ac)) ?_
      refine Sq ?_
      refine Ct ?_
      refine Sk <|Tn <|Sq <|Sb <|?_
      refine Te [1, 2, 4, 5, 47] Aa (Ev (by simp only [go_sem, Ae, Int.reduceLT, Int.reduceAdd, Int.reduceSub, Nat.reduceMul, Nat.reduceGT, Nat.reduceLeDiff, decide_true, decide_false, Bool.false_eq_true, Int.reduceBEq, Int.reduceGT, Int.reduceLE, Int.reduceGE, beq_self_eq_true]; exact Ac)) ?_
      have n : InR 2 11 := by decide
      have ao : w64 4 = 4 := by decide
      refine Ck fun ap => ?_
      refine Ge [[], [0], [0, 1], [], [3], [], [5], [3, 4, 5, 6], [3, 4, 5, 6, 7], [3, 4, 5, 6, 7, 8], [0, 1, 2, 3, 4, 5, 6, 7, 8, 9], [0, 1, 2, 3, 4, 5, 6, 7, 8, 9, 10]] [1, 2, 4, 47] Aa (Ev (by simp only [go_sem, Ae, Int.reduceLT, Int.reduceAdd, Int.reduceSub, Nat.reduceMul, Nat.reduceGT, Nat.reduceLeDiff, decide_true, decide_false, Bool.false_eq_true, Int.reduceBEq, Int.reduceGT, Int.reduceLE, Int.reduceGE, beq_self_eq_true, n, n.2, ao, qL ap]; exact Ac)) ?_
      refine Bn <|Tn <|?_
      have aq : w64 3 = 3 := by decide
      refine Fe [1, 2, 4, 47] Aa (Ev (by simp only [go_sem, Ae, Int.reduceLT, Int.reduceAdd, Int.reduceSub, Nat.reduceMul, Nat.reduceGT, Nat.reduceLeDiff, decide_true, decide_false, Bool.false_eq_true, Int.reduceBEq, Int.reduceGT, Int.reduceLE, Int.reduceGE, beq_self_eq_true, aq]; exact Ac)) ?_
      refine Un ?_
      refine Ug (m := 13) ?_
      refine Te [1, 2, 4, 47, 48] Aa (Ev (by simp only [go_sem, Ae, Int.reduceLT, Int.reduceAdd, Int.reduceSub, Nat.reduceMul, Nat.reduceGT, Nat.reduceLeDiff, decide_true, decide_false, Bool.false_eq_true, Int.reduceBEq, Int.reduceGT, Int.reduceLE, Int.reduceGE, beq_self_eq_true]; exact Ac)) ?_
      refine Sq ?_
      refine Ct ?_
      refine Sk <|Tn <|Sq <|Sb <|?_
      refine Te [1, 2, 4, 5, 47] Aa (Ev (by simp only [go_sem, Ae, Int.reduceLT, Int.reduceAdd, Int.reduceSub, Nat.reduceMul, Nat.reduceGT, Nat.reduceLeDiff, decide_true, decide_false, Bool.false_eq_true, Int.reduceBEq, Int.reduceGT, Int.reduceLE, Int.reduceGE, beq_self_eq_true]; exact Ac)) ?_
      have o : InR 3 11 := by decide
      have ar : w64 5 = 5 := by decide
      refine Ck fun au => ?_
      refine Ge [[], [0], [0, 1], [], [3], [], [5], [3, 4, 5, 6], [3, 4, 5, 6, 7], [3, 4, 5, 6, 7, 8], [0, 1, 2, 3, 4, 5, 6, 7, 8, 9], [0, 1, 2, 3, 4, 5, 6, 7, 8, 9, 10]] [1, 2, 4, 47] Aa (Ev (by simp only [go_sem, Ae, Int.reduceLT, Int.reduceAdd, Int.reduceSub, Nat.reduceMul, Nat.reduceGT, Nat.reduceLeDiff, decide_true, decide_false, Bool.false_eq_true, Int.reduceBEq, Int.reduceGT, Int.reduceLE, Int.reduceGE, beq_self_eq_true, o, o.2, ar, qL au]; exact Ac)) ?_
      refine Bn <|Tn <|?_
      have av : w64 4 = 4 := by decide
      refine Fe [1, 2, 4, 47] Aa (Ev (by simp only [go_sem, Ae, Int.reduceLT, Int.reduceAdd, Int.reduceSub, Nat.reduceMul, Nat.reduceGT, Nat.reduceLeDiff, decide_true, decide_false, Bool.false_eq_true, Int.reduceBEq, Int.reduceGT, Int.reduceLE, Int.reduceGE, beq_self_eq_true, av]; exact Ac)) ?_
      refine Un ?_
      refine Ug (m := 12) ?_
      refine Te [1, 2, 4, 47, 48] Aa (Ev (by simp only [go_sem, Ae, Int.reduceLT, Int.reduceAdd, Int.reduceSub, Nat.reduceMul, Nat.reduceGT, Nat.reduceLeDiff, decide_true, decide_false, Bool.false_eq_true, Int.reduceBEq, Int.reduceGT, Int.reduceLE, Int.reduceGE, beq_self_eq_true]; exact Ac)) ?_
      refine Sq ?_
      refine Ct ?_
      refine Sk <|Tn <|Sq <|Sb <|?_
      refine Te [1, 2, 4, 5, 47] Aa (Ev (by simp only [go_sem, Ae, Int.reduceLT, Int.reduceAdd, Int.reduceSub, Nat.reduceMul, Nat.reduceGT, Nat.reduceLeDiff, decide_true, decide_false, Bool.false_eq_true, Int.reduceBEq, Int.reduceGT, Int.reduceLE, Int.reduceGE, beq_self_eq_true]; exact Ac)) ?_
      have p : InR 4 11 := by decide
      have aw : w64 6 = 6 := by decide
      refine Ck fun ax => ?_
      refine Ge [[], [0], [0, 1], [], [3], [], [5], [3, 4, 5, 6], [3, 4, 5, 6, 7], [3, 4, 5, 6, 7, 8], [0, 1, 2, 3, 4, 5, 6, 7, 8, 9], [0, 1, 2, 3, 4, 5, 6, 7, 8, 9, 10]] [1, 2, 4, 47] Aa (Ev (by simp only [go_sem, Ae, Int.reduceLT, Int.reduceAdd, Int.reduceSub, Nat.reduceMul, Nat.reduceGT, Nat.reduceLeDiff, decide_true, decide_false, Bool.false_eq_true, Int.reduceBEq, Int.reduceGT, Int.reduceLE, Int.reduceGE, beq_self_eq_true, p, p.2, aw, qL ax]; exact Ac)) ?_
      refine Bn <|Tn <|?_
      have ay : w64 5 = 5 := by decide
      refine Fe [1, 2, 4, 47] Aa (Ev (by simp only [go_sem, Ae, Int.reduceLT, Int.reduceAdd, Int.reduceSub, Nat.reduceMul, Nat.reduceGT, Nat.reduceLeDiff, decide_true, decide_false, Bool.false_eq_true, Int.reduceBEq, Int.reduceGT, Int.reduceLE, Int.reduceGE, beq_self_eq_true, ay]; exact Ac)) ?_
      refine Un ?_
      refine Ug (m := 11) ?_
      refine Te [1, 2, 4, 47, 48] Aa (Ev (by simp only [go_sem, Ae, Int.reduceLT, Int.reduceAdd, Int.reduceSub, Nat.reduceMul, Nat.reduceGT, Nat.reduceLeDiff, decide_true, decide_false, Bool.false_eq_true, Int.reduceBEq, Int.reduceGT, Int.reduceLE, Int.reduceGE, beq_self_eq_true]; exact Ac)) ?_
      refine Sq ?_
      refine Ct ?_
      refine Sk <|Tn <|Sq <|Sb <|?_
      refine Te [1, 2, 4, 5, 47] Aa (Ev (by simp only [go_sem, Ae, Int.reduceLT, Int.reduceAdd, Int.reduceSub, Nat.reduceMul, Nat.reduceGT, Nat.reduceLeDiff, decide_true, decide_false, Bool.false_eq_true, Int.reduceBEq, Int.reduceGT, Int.reduceLE, Int.reduceGE, beq_self_eq_true]; exact Ac)) ?_
      have q : InR 5 11 := by decide
      have az : w64 7 = 7 := by decide
      refine Ck fun aA => ?_
      refine Ge [[], [0], [0, 1], [], [3], [], [5], [3, 4, 5, 6], [3, 4, 5, 6, 7], [3, 4, 5, 6, 7, 8], [0, 1, 2, 3, 4, 5, 6, 7, 8, 9], [0, 1, 2, 3, 4, 5, 6, 7, 8, 9, 10]] [1, 2, 4, 47] Aa (Ev (by simp only [go_sem, Ae, Int.reduceLT, Int.reduceAdd, Int.reduceSub, Nat.reduceMul, Nat.reduceGT, Nat.reduceLeDiff, decide_true, decide_false, Bool.false_eq_true, Int.reduceBEq, Int.reduceGT, Int.reduceLE, Int.reduceGE, beq_self_eq_true, q, q.2, az, qL aA]; exact Ac)) ?_
      refine Bn <|Tn <|?_
      have aB : w64 6 = 6 := by decide
      refine Fe [1, 2, 4, 47] Aa (Ev (by simp only [go_sem, Ae, Int.reduceLT, Int.reduceAdd, Int.reduceSub, Nat.reduceMul, Nat.reduceGT, Nat.reduceLeDiff, decide_true, decide_false, Bool.false_eq_true, Int.reduceBEq, Int.reduceGT, Int.reduceLE, Int.reduceGE, beq_self_eq_true, aB]; exact Ac)) ?_
      refine Un ?_
      refine Ug (m := 10) ?_
      refine Te [1, 2, 4, 47, 48] Aa (Ev (by simp only [go_sem, Ae, Int.reduceLT, Int.reduceAdd, Int.reduceSub, Nat.reduceMul, Nat.reduceGT, Nat.reduceLeDiff, decide_true, decide_false, Bool.false_eq_true, Int.reduceBEq, Int.reduceGT, Int.reduceLE, Int.reduceGE, beq_self_eq_true]; exact Ac)) ?_
      refine Sq ?_
      refine Ct ?_
      refine Sk <|Tn <|Sq <|Sb <|?_
      refine Te [1, 2, 4, 5, 47] Aa (Ev (by simp only [go_sem, Ae, Int.reduceLT, Int.reduceAdd, Int.reduceSub, Nat.reduceMul, Nat.reduceGT, Nat.reduceLeDiff, decide_true, decide_false, Bool.false_eq_true, Int.reduceBEq, Int.reduceGT, Int.reduceLE, Int.reduceGE, beq_self_eq_true]; exact Ac)) ?_
      have s : InR 6 11 := by decide
      have aC : w64 8 = 8 := by decide
      refine Ck fun aD => ?_
      refine Ge [[], [0], [0, 1], [], [3], [], [5], [3, 4, 5, 6], [3, 4, 5, 6, 7], [3, 4, 5, 6, 7, 8], [0, 1, 2, 3, 4, 5, 6, 7, 8, 9], [0, 1, 2, 3, 4, 5, 6, 7, 8, 9, 10]] [1, 2, 4, 47] Aa (Ev (by simp only [go_sem, Ae, Int.reduceLT, Int.reduceAdd, Int.reduceSub, Nat.reduceMul, Nat.reduceGT, Nat.reduceLeDiff, decide_true, decide_false, Bool.false_eq_true, Int.reduceBEq, Int.reduceGT, Int.reduceLE, Int.reduceGE, beq_self_eq_true, s, s.2, aC, qL aD]; exact Ac)) ?_
      refine Bn <|Tn <|?_
      have aE : w64 7 = 7 := by decide
      refine Fe [1, 2, 4, 47] Aa (Ev (by simp only [go_sem, Ae, Int.reduceLT, Int.reduceAdd, Int.reduceSub, Nat.reduceMul, Nat.reduceGT, Nat.reduceLeDiff, decide_true, decide_false, Bool.false_eq_true, Int.reduceBEq, Int.reduceGT, Int.reduceLE, Int.reduceGE, beq_self_eq_true, aE]; exact Ac)) ?_
      refine Un ?_
      refine Ug (m := 9) ?_
      refine Te [1, 2, 4, 47, 48] Aa (Ev (by simp only [go_sem, Ae, Int.reduceLT, Int.reduceAdd, Int.reduceSub, Nat.reduceMul, Nat.reduceGT, Nat.reduceLeDiff, decide_true, decide_false, Bool.false_eq_true, Int.reduceBEq, Int.reduceGT, Int.reduceLE, Int.reduceGE, beq_self_eq_true]; exact Ac)) ?_
      refine Sq ?_
      refine Ct ?_
      refine Sk <|Tn <|Sq <|Sb <|?_
      refine Te [1, 2, 4, 5, 47] Aa (Ev (by simp only [go_sem, Ae, Int.reduceLT, Int.reduceAdd, Int.reduceSub, Nat.reduceMul, Nat.reduceGT, Nat.reduceLeDiff, decide_true, decide_false, Bool.false_eq_true, Int.reduceBEq, Int.reduceGT, Int.reduceLE, Int.reduceGE, beq_self_eq_true]; exact Ac)) ?_
      have t : InR 7 11 := by decide
      have aF : w64 9 = 9 := by decide
      refine Ck fun aG => ?_
      refine Ge [[], [0], [0, 1], [], [3], [], [5], [3, 4, 5, 6], [3, 4, 5, 6, 7], [3, 4, 5, 6, 7, 8], [0, 1, 2, 3, 4, 5, 6, 7, 8, 9], [0, 1, 2, 3, 4, 5, 6, 7, 8, 9, 10]] [1, 2, 4, 47] Aa (Ev (by simp only [go_sem, Ae, Int.reduceLT, Int.reduceAdd, Int.reduceSub, Nat.reduceMul, Nat.reduceGT, Nat.reduceLeDiff, decide_true, decide_false, Bool.false_eq_true, Int.reduceBEq, Int.reduceGT, Int.reduceLE, Int.reduceGE, beq_self_eq_true, t, t.2, aF, qL aG]; exact Ac)) ?_
      refine Bn <|Tn <|?_
      have aH : w64 8 = 8 := by decide
      refine Fe [1, 2, 4, 47] Aa (Ev (by simp only [go_sem, Ae, Int.reduceLT, Int.reduceAdd, Int.reduceSub, Nat.reduceMul, Nat.reduceGT, Nat.reduceLeDiff, decide_true, decide_false, Bool.false_eq_true, Int.reduceBEq, Int.reduceGT, Int.reduceLE, Int.reduceGE, beq_self_eq_true, aH]; exact Ac)) ?_
      refine Un ?_
      refine Ug (m := 8) ?_
      refine Te [1, 2, 4, 47, 48] Aa (Ev (by simp only [go_sem, Ae, Int.reduceLT, Int.reduceAdd, Int.reduceSub, Nat.reduceMul, Nat.reduceGT, Nat.reduceLeDiff, decide_true, decide_false, Bool.false_eq_true, Int.reduceBEq, Int.reduceGT, Int.reduceLE, Int.reduceGE, beq_self_eq_true]; exact Ac)) ?_
      refine Sq ?_
      refine Ct ?_
      refine Sk <|Tn <|Sq <|Sb <|?_
      refine Te [1, 2, 4, 5, 47] Aa (Ev (by simp only [go_sem, Ae, Int.reduceLT, Int.reduceAdd, Int.reduceSub, Nat.reduceMul, Nat.reduceGT, Nat.reduceLeDiff, decide_true, decide_false, Bool.false_eq_true, Int.reduceBEq, Int.reduceGT, Int.reduceLE, Int.reduceGE, beq_self_eq_true]; exact Ac)) ?_
      have u : InR 8 11 := by decide
      have aI : w64 10 = 10 := by decide
      refine Ck fun aJ => ?_
      refine Ge [[], [0], [0, 1], [], [3], [], [5], [3, 4, 5, 6], [3, 4, 5, 6, 7], [3, 4, 5, 6, 7, 8], [0, 1, 2, 3, 4, 5, 6, 7, 8, 9], [0, 1, 2, 3, 4, 5, 6, 7, 8, 9, 10]] [1, 2, 4, 47] Aa (Ev (by simp only [go_sem, Ae, Int.reduceLT, Int.reduceAdd, Int.reduceSub, Nat.reduceMul, Nat.reduceGT, Nat.reduceLeDiff, decide_true, decide_false, Bool.false_eq_true, Int.reduceBEq, Int.reduceGT, Int.reduceLE, Int.reduceGE, beq_self_eq_true, u, u.2, aI, qL aJ]; exact Ac)) ?_
      refine Bn <|Tn <|?_
      have aK : w64 9 = 9 := by decide
      refine Fe [1, 2, 4, 47] Aa (Ev (by simp only [go_sem, Ae, Int.reduceLT, Int.reduceAdd, Int.reduceSub, Nat.reduceMul, Nat.reduceGT, Nat.reduceLeDiff, decide_true, decide_false, Bool.false_eq_true, Int.reduceBEq, Int.reduceGT, Int.reduceLE, Int.reduceGE, beq_self_eq_true, aK]; exact Ac)) ?_
      refine Un ?_
      refine Ug (m := 7) ?_
      refine Te [1, 2, 4, 47, 48] Aa (Ev (by simp only [go_sem, Ae, Int.reduceLT, Int.reduceAdd, Int.reduceSub, Nat.reduceMul, Nat.reduceGT, Nat.reduceLeDiff, decide_true, decide_false, Bool.false_eq_true, Int.reduceBEq, Int.reduceGT, Int.reduceLE, Int.reduceGE, beq_self_eq_true]; exact Ac)) ?_
      refine Sq ?_
      refine Ct ?_
      refine Sk <|Tn <|Sq <|Sb <|?_
      refine Te [1, 2, 4, 5, 47] Aa (Ev (by simp only [go_sem, Ae, Int.reduceLT, Int.reduceAdd, Int.reduceSub, Nat.reduceMul, Nat.reduceGT, Nat.reduceLeDiff, decide_true, decide_false, Bool.false_eq_true, Int.reduceBEq, Int.reduceGT, Int.reduceLE, Int.reduceGE, beq_self_eq_true]; exact Ac)) ?_
      have w : InR 9 11 := by decide
      have aL : w64 11 = 11 := by decide
      refine Ck fun aM => ?_
      refine Ge [[], [0], [0, 1], [], [3], [], [5], [3, 4, 5, 6], [3, 4, 5, 6, 7], [3, 4, 5, 6, 7, 8], [0, 1, 2, 3, 4, 5, 6, 7, 8, 9], [0, 1, 2, 3, 4, 5, 6, 7, 8, 9, 10]] [1, 2, 4, 47] Aa (Ev (by simp only [go_sem, Ae, Int.reduceLT, Int.reduceAdd, Int.reduceSub, Nat.reduceMul, Nat.reduceGT, Nat.reduceLeDiff, decide_true, decide_false, Bool.false_eq_true, Int.reduceBEq, Int.reduceGT, Int.reduceLE, Int.reduceGE, beq_self_eq_true, w, w.2, aL, qL aM]; exact Ac)) ?_
      refine Bn <|Tn <|?_
      have aN : w64 10 = 10 := by decide
      refine Fe [1, 2, 4, 47] Aa (Ev (by simp only [go_sem, Ae, Int.reduceLT, Int.reduceAdd, Int.reduceSub, Nat.reduceMul, Nat.reduceGT, Nat.reduceLeDiff, decide_true, decide_false, Bool.false_eq_true, Int.reduceBEq, Int.reduceGT, Int.reduceLE, Int.reduceGE, beq_self_eq_true, aN]; exact Ac)) ?_
      refine Un ?_
      refine Ug (m := 6) ?_
      refine Te [1, 2, 4, 47, 48] Aa (Ev (by simp only [go_sem, Ae, Int.reduceLT, Int.reduceAdd, Int.reduceSub, Nat.reduceMul, Nat.reduceGT, Nat.reduceLeDiff, decide_true, decide_false, Bool.false_eq_true, Int.reduceBEq, Int.reduceGT, Int.reduceLE, Int.reduceGE, beq_self_eq_true]; exact Ac)) ?_
      refine Sq ?_
      refine Ct ?_
      refine Sk <|Tn <|Sq <|Sb <|?_
      refine Te [1, 2, 4, 5, 47] Aa (Ev (by simp only [go_sem, Ae, Int.reduceLT, Int.reduceAdd, Int.reduceSub, Nat.reduceMul, Nat.reduceGT, Nat.reduceLeDiff, decide_true, decide_false, Bool.false_eq_true, Int.reduceBEq, Int.reduceGT, Int.reduceLE, Int.reduceGE, beq_self_eq_true]; exact Ac)) ?_
      have x : InR 10 11 := by decide
      have aO : w64 12 = 12 := by decide
      refine Ck fun aP => ?_
      refine Ge [[], [0], [0, 1], [], [3], [], [5], [3, 4, 5, 6], [3, 4, 5, 6, 7], [3, 4, 5, 6, 7, 8], [0, 1, 2, 3, 4, 5, 6, 7, 8, 9], [0, 1, 2, 3, 4, 5, 6, 7, 8, 9, 10]] [1, 2, 4, 47] Aa (Ev (by simp only [go_sem, Ae, Int.reduceLT, Int.reduceAdd, Int.reduceSub, Nat.reduceMul, Nat.reduceGT, Nat.reduceLeDiff, decide_true, decide_false, Bool.false_eq_true, Int.reduceBEq, Int.reduceGT, Int.reduceLE, Int.reduceGE, beq_self_eq_true, x, x.2, aO, qL aP]; exact Ac)) ?_
      refine Bn <|Tn <|?_
      have aQ : w64 11 = 11 := by decide
      refine Fe [1, 2, 4, 47] Aa (Ev (by simp only [go_sem, Ae, Int.reduceLT, Int.reduceAdd, Int.reduceSub, Nat.reduceMul, Nat.reduceGT, Nat.reduceLeDiff, decide_true, decide_false, Bool.false_eq_true, Int.reduceBEq, Int.reduceGT, Int.reduceLE, Int.reduceGE, beq_self_eq_true, aQ]; exact Ac)) ?_
      refine Un ?_
      refine Ug (m := 5) ?_
      refine Te [1, 2, 4, 47, 48] Aa (Ev (by simp only [go_sem, Ae, Int.reduceLT, Int.reduceAdd, Int.reduceSub, Nat.reduceMul, Nat.reduceGT, Nat.reduceLeDiff, decide_true, decide_false, Bool.false_eq_true, Int.reduceBEq, Int.reduceGT, Int.reduceLE, Int.reduceGE, beq_self_eq_true]; exact Ac)) ?_
      refine Sq ?_
      refine Cf ?_
      refine Sx <|Tx <|Ux <|Bx <|?_
      exact Jm (ws [0, 1])
    intro _
    refine Ck fun aR => ?_
    refine Te [1, 2] Aa (Ev (by simp only [go_sem, qL aR]; exact Ac)) ?_
    refine Jo (fun d => ⟨Ao 114 [(1, .ref 0 0), (2, .ref 1 0)], [.box [i64 a.Kind, i64 a.N, .sl false (L cU8 a.B), .sl false (L cApi_Value a.L)] false, .box [i64 ((nth a.L 0).N), i64 b, i64 c, i64 ((nth a.L 2).N), i64 ((nth a.L 3).N), i64 ((nth a.L 4).N), i64 ((nth a.L 5).N), i64 ((nth a.L 6).N), i64 ((nth a.L 7).N), i64 ((nth a.L 8).N), i64 ((nth a.L 9).N), i64 ((nth a.L 10).N), i64 ((nth a.L 11).N), i64 ((nth a.L 12).N), .str ((nth a.L 13).B), .bs false 2 (d.length) 0 (d.length)] false, .buf 3 (L Ab d) false]⟩) ?_ ?_
    · intro bd aS
      refine Ck fun aT => ?_
      refine Te [1, 2, 73, 74, 75] Aa (Ev (by simp only [go_sem, qL aT]; exact Ac)) ?_
      refine Sb ?_
      refine Lo (fun (v : Int × List Api_Part) => (⟨Ao 114 [(1, .ref 0 0), (2, .ref 1 0), (73, .sl false (L cApi_Value ((nth a.L 14).L))), (74, i64 ((((nth a.L 14).L).length : Int))), (75, i64 v.1)], [.box [i64 a.Kind, i64 a.N, .sl false (L cU8 a.B), .sl false (L cApi_Value a.L)] false, .box [i64 ((nth a.L 0).N), i64 b, i64 c, i64 ((nth a.L 2).N), i64 ((nth a.L 3).N), i64 ((nth a.L 4).N), i64 ((nth a.L 5).N), i64 ((nth a.L 6).N), i64 ((nth a.L 7).N), i64 ((nth a.L 8).N), i64 ((nth a.L 9).N), i64 ((nth a.L 10).N), i64 ((nth a.L 11).N), i64 ((nth a.L 12).N), .str ((nth a.L 13).B), .bs false 2 (v.2.length) 0 (v.2.length)] false, .buf 3 (L Ab v.2) false]⟩ : St)) ((H1 1 15 3 rfl rfl).trans (ws [0, 1, 2])) ?_
      rintro ⟨aU, e⟩ be aV y z
      show G8 a aU e = some aV → _
      unfold G8
      refine T0 [1, 2, 73, 74, 75, 76] ?_
      refine Sq ?_
      refine Cd ?_ ?_
      · refine Sk <|Tn <|Sq <|Sb <|?_
        refine Ck fun aW => ?_
        refine Lt fun aX aY => ?_
        refine Lt fun aZ a0 => ?_
        refine Lt fun a1 a2 => ?_
        refine Lt fun a3 a4 => ?_
        refine Te (σ' := [_, _, _, .box [i64 aX, i64 aZ, .sl false (L cU8 a1), .sl false (L cApi_Value a3)] false]) [1, 2, 7, 73, 74, 75] Aa (Ev (by simp only [go_sem, qR aW, aY, a0, a2, a4]; exact Ac)) ?_
        refine Sq <|T0 [1, 2, 7, 73, 74, 75, 82] ?_
        refine Cd ?_ ?_
        · refine T0 [2, 3] ?_
          exact Sr <|Tr <|Br <|Tr <|Lr z y <|Br <|Jr aS <|Rr
        · refine Sk <|Tn <|?_
          refine Ck fun a5 => ?_
          refine Ck fun a6 => ?_
          refine Ck fun a7 => ?_
          refine Ck fun a8 => ?_
          refine Lt fun g a9 => ?_
          refine Ge (σ' := [_, .box [i64 ((nth a.L 0).N), i64 b, i64 c, i64 ((nth a.L 2).N), i64 ((nth a.L 3).N), i64 ((nth a.L 4).N), i64 ((nth a.L 5).N), i64 ((nth a.L 6).N), i64 ((nth a.L 7).N), i64 ((nth a.L 8).N), i64 ((nth a.L 9).N), i64 ((nth a.L 10).N), i64 ((nth a.L 11).N), i64 ((nth a.L 12).N), .str ((nth a.L 13).B), .bs false 2 (g.length) 0 (g.length)] false, .buf 3 (L Ab g) false, _, _]) [[], [0], [], [2], [2, 3], [2, 3, 4], [2, 3, 4, 5], [], [7], [7, 8], [7, 8, 9], [7, 8, 9, 10], [], [12], [12, 13], [12, 13, 14], [12, 13, 14, 15], [12, 13, 14, 15, 16], [2, 3, 4, 5, 6, 7, 8, 9, 10, 11, 12, 13, 14, 15, 16, 17], [2, 3, 4, 5, 6, 7, 8, 9, 10, 11, 12, 13, 14, 15, 16, 17, 18], [0, 1, 2, 3, 4, 5, 6, 7, 8, 9, 10, 11, 12, 13, 14, 15, 16, 17, 18, 19], [0, 1, 2, 3, 4, 5, 6, 7, 8, 9, 10, 11, 12, 13, 14, 15, 16, 17, 18, 19, 20], [0, 1, 2, 3, 4, 5, 6, 7, 8, 9, 10, 11, 12, 13, 14, 15, 16, 17, 18, 19, 20, 21]] [1, 2, 73, 74, 75] Aa (Ev (by simp only [go_sem, qL a5, qL a6, qL a7, a8, a9]; exact Ac)) ?_
          refine Bn <|Tn <|F0 [1, 2, 73, 74, 75] ?_
          exact Ln (ws [0, 1, 2])
      · refine Sx <|Tx <|Lx z y <|Bx <|?_
        exact Jn ((ws (l' := [(1, .ref 0 0), (2, .ref 1 0)]) (σ' := [.box [i64 a.Kind, i64 a.N, .sl false (L cU8 a.B), .sl false (L cApi_Value a.L)] false, .box [i64 ((nth a.L 0).N), i64 b, i64 c, i64 ((nth a.L 2).N), i64 ((nth a.L 3).N), i64 ((nth a.L 4).N), i64 ((nth a.L 5).N), i64 ((nth a.L 6).N), i64 ((nth a.L 7).N), i64 ((nth a.L 8).N), i64 ((nth a.L 9).N), i64 ((nth a.L 10).N), i64 ((nth a.L 11).N), i64 ((nth a.L 12).N), .str ((nth a.L 13).B), .bs false 2 (e.length) 0 (e.length)] false, .buf 3 (L Ab e) false]) [0, 1, 2]).trans (ws [0, 1, 2]))
    intro d
    refine Sq ?_
    refine Rw (Kl 1 15 rfl rfl rfl gs gs) ?_
    refine Bd fun bf ba => ?_
    refine Bd fun bg bb => ?_
    refine De [[], [0], [], [0, 1, 2], [0, 1, 2, 3]] [2, 111] (o2 108 (Hg ba) 110 (X4 bb)) Ev ?_
    refine Cd ?_ ?_
    · refine T0 [2, 3] ?_
      exact Sr <|Tr <|Rr
    · refine Sk <|Tn <|T0 [2, 3] ?_
      exact Sr <|Rr
theorem Ab1 {a b r} (h : Rh a b = some r) : Con B 28 [.str a, u8 b] [] (fun r' σ' => r' = .bool r ∧ σ' = []) := by
  refine Cw 17 [.tmp 4] Tryz.func28 (fun F hE => ?_) h
  unfold Rh
  refine T0 [0, 1] ?_
  refine Jo (fun _ => ⟨Ao 17 [], []⟩) ?_ ?_
  · intro j f
    refine T0 [0, 1, 5] ?_
    refine Sb ?_
    refine Lo (fun c => ⟨Ao 17 [(0, .str a), (1, u8 b), (5, i64 c)], []⟩) (ws []) ?_
    rintro c k g d e
    show Qp a b c = some g → _
    unfold Qp
    refine Sq <|T0 [0, 1, 5, 9] ?_
    refine Cd ?_ ?_
    · refine Sk <|Tn <|Sq <|Sb <|?_
      refine Ck fun i => ?_
      refine Te [0, 1, 5, 16] Aa (Ev (by simp only [go_sem, qR i]; exact Ac)) ?_
      refine Cd ?_ ?_
      · refine T0 [4] ?_
        exact Sr <|Br <|Tr <|Lr e d <|Br <|Jr f <|Rr
      · refine Sk <|Bn <|Tn <|F0 [0, 1, 5] ?_
        exact Ln (ws [])
    · refine Sx <|Tx <|Lx e d <|Bx <|?_
      exact Jn ((ws (l' := []) (σ' := []) []).trans (ws []))
  intro _
  refine T0 [4] ?_
  exact Sr <|Rr
theorem X0 {a b c r} (h : Mm a b c = some r) : Con B 29 [.agg [i64 a.Kind, i64 a.Ref.Railway, i64 a.Ref.No, i64 a.Wagon, i64 a.Place, i64 a.Other, i64 a.Number, i64 a.From, i64 a.To, i64 a.Code, i64 a.Dest, i64 a.Class, i64 a.Weight, i64 a.Amount, .str a.Text, .bs false 0 (a.Parts.length) 0 (a.Parts.length)], u8 b, i64 c] [.buf 3 (L Ab a.Parts) false] (fun r' σ' => r' = .agg [i64 r.Kind, i64 r.Ref.Railway, i64 r.Ref.No, i64 r.Wagon, i64 r.Place, i64 r.Other, i64 r.Number, i64 r.From, i64 r.To, i64 r.Code, i64 r.Dest, i64 r.Class, i64 r.Weight, i64 r.Amount, .str r.Text, .bs false 0 (r.Parts.length) 0 (r.Parts.length)] ∧ σ' = [.buf 3 (L Ab r.Parts) false]) := by
  refine Co 1 51 [.cell 6 41] Tryz.func29 (fun F hE => ?_) h
  unfold Mm
  refine T0 [1, 2, 3, 6] ?_
  refine Ja (fun ⟨d, e, f, g, i, j, k, l, m, n, o⟩ => ⟨Ao 51 [(3, .ref 1 0), (6, .ref 2 0)], [.buf 3 (L Ab a.Parts) false, .box [i64 a.Kind, i64 a.Ref.Railway, i64 a.Ref.No, i64 d, i64 e, i64 f, i64 g, i64 i, i64 j, i64 k, i64 l, i64 m, i64 n, i64 o, .str a.Text, .bs false 0 (a.Parts.length) 0 (a.Parts.length)] false, .box [i64 0, i64 0, i64 0, i64 0, i64 0, i64 0, i64 0, i64 0, i64 0, i64 0, i64 0, i64 0, i64 0, i64 0, .str (([] : List UInt8)), .sl true (L Ab ([]))] false]⟩) ?_ ?_
  · intro p
    refine T0 [2, 3, 6, 7] ?_
    refine Sb <|T0 [2, 3, 6, 7, 10] ?_
    refine Cd ?_ ?_
    · refine F0 [3, 6] ?_
      refine Bn ?_
      exact Jm (ws [0, 1, 2])
    · refine T0 [2, 3, 6, 7, 14] ?_
      refine Cd ?_ ?_
      · refine F0 [3, 6] ?_
        refine Bn ?_
        exact Jm (ws [0, 1, 2])
      · refine T0 [2, 3, 6, 7, 18] ?_
        refine Cd ?_ ?_
        · refine F0 [3, 6] ?_
          refine Bn ?_
          exact Jm (ws [0, 1, 2])
        · refine T0 [2, 3, 6, 7, 22] ?_
          refine Cd ?_ ?_
          · refine F0 [3, 6] ?_
            refine Bn ?_
            exact Jm (ws [0, 1, 2])
          · refine T0 [2, 3, 6, 7, 26] ?_
            refine Cd ?_ ?_
            · refine F0 [3, 6] ?_
              refine Bn ?_
              exact Jm (ws [0, 1, 2])
            · refine T0 [2, 3, 6, 7, 30] ?_
              refine Cd ?_ ?_
              · refine F0 [3, 6] ?_
                refine Bn ?_
                exact Jm (ws [0, 1, 2])
              · refine T0 [2, 3, 6, 7, 34] ?_
                refine Cd ?_ ?_
                · refine F0 [3, 6] ?_
                  refine Bn ?_
                  exact Jm (ws [0, 1, 2])
                · refine T0 [2, 3, 6, 7, 38] ?_
                  refine Cd ?_ ?_
                  · refine F0 [3, 6] ?_
                    refine Bn ?_
                    exact Jm (ws [0, 1, 2])
                  · refine T0 [2, 3, 6, 7, 42] ?_
                    refine Cd ?_ ?_
                    · refine F0 [3, 6] ?_
                      refine Bn ?_
                      exact Jm (ws [0, 1, 2])
                    · refine T0 [2, 3, 6, 46] ?_
                      refine Cd ?_ ?_
                      · refine F0 [3, 6] ?_
                        refine Bn ?_
                        exact Jm (ws [0, 1, 2])
                      · refine F0 [3, 6] ?_
                        refine Bn ?_
                        exact Jm (ws [0, 1, 2])
  rintro ⟨d, e, f, g, i, j, k, l, m, n, o⟩
  refine T0 [6] ?_
  exact Sr <|Ro [0]
theorem Ra {b r} (h : M9 b = some r) : Con B 70 [i64 b] [] (fun r' σ' => r' = .str r ∧ σ' = []) := by
  refine Cw 10 [.tmp 2] Tryz.func70 (fun F hE => ?_) h
  unfold M9
  refine T0 [0] ?_
  refine Lt fun a c => ?_
  refine Te (fr' := [(0, _), (3, .bs true 0 (a.length) 0 (a.length))]) (σ' := [.buf 1 (L J6 a) false]) [0, 3] Aa (Ev (by simp only [go_sem, c]; exact Ac)) ?_
  refine Ck fun d => ?_
  refine Te [2] Aa (Ev (by simp only [go_sem, qR d]; exact Ac)) ?_
  exact Sr <|Rr
theorem Jt {a b r} (h : Fy a b = some r) : Con B 72 [.agg [i64 a.Kind, i64 a.Ref.Railway, i64 a.Ref.No, i64 a.Wagon, i64 a.Place, i64 a.Other, i64 a.Number, i64 a.From, i64 a.To, i64 a.Code, i64 a.Dest, i64 a.Class, i64 a.Weight, i64 a.Amount, .str a.Text, .sl false (L Ab a.Parts)], u8 b] [] (fun r' σ' => r' = i64 r ∧ σ' = []) := by
  refine Cw 48 [.tmp 4] Tryz.func72 (fun F hE => ?_) h
  unfold Fy
  refine T0 [1, 2] ?_
  refine Sq <|T0 [2, 5] ?_
  refine Sb <|T0 [2, 5, 6] ?_
  refine Cd ?_ ?_
  · refine T0 [4] ?_
    exact Sr <|Br <|Tr <|Rr
  · refine T0 [2, 5, 10] ?_
    refine Cd ?_ ?_
    · refine T0 [4] ?_
      exact Sr <|Br <|Tr <|Rr
    · refine T0 [2, 5, 14] ?_
      refine Cd ?_ ?_
      · refine T0 [4] ?_
        exact Sr <|Br <|Tr <|Rr
      · refine T0 [2, 5, 18] ?_
        refine Cd ?_ ?_
        · refine T0 [4] ?_
          exact Sr <|Br <|Tr <|Rr
        · refine T0 [2, 5, 22] ?_
          refine Cd ?_ ?_
          · refine T0 [4] ?_
            exact Sr <|Br <|Tr <|Rr
          · refine T0 [2, 5, 26] ?_
            refine Cd ?_ ?_
            · refine T0 [4] ?_
              exact Sr <|Br <|Tr <|Rr
            · refine T0 [2, 5, 30] ?_
              refine Cd ?_ ?_
              · refine T0 [4] ?_
                exact Sr <|Br <|Tr <|Rr
              · refine T0 [2, 5, 34] ?_
                refine Cd ?_ ?_
                · refine T0 [4] ?_
                  exact Sr <|Br <|Tr <|Rr
                · refine T0 [2, 5, 38] ?_
                  refine Cd ?_ ?_
                  · refine T0 [4] ?_
                    exact Sr <|Br <|Tr <|Rr
                  · refine T0 [2, 42] ?_
                    refine Cd ?_ ?_
                    · refine T0 [4] ?_
                      exact Sr <|Br <|Tr <|Rr
                    · refine Sk <|Bn <|Tn <|T0 [4] ?_
                      exact Sr <|Rr
theorem Ny {rec_ : Int → Option (List UInt8)} (hrec : ∀ {a : Int} {r : List UInt8}, rec_ a = some r → Con B 101 [i64 a] [] (fun r' σ' => r' = .str r ∧ σ' = [])) {a : Int} {r : List UInt8} (h : Dz rec_ a = some r) : Con B 101 [i64 a] [] (fun r' σ' => r' = .str r ∧ σ' = []) := by
  refine K0 (N := 37) (rs := [.tmp 2]) ok Tryz.func101 rfl (by decide +kernel) rfl rfl (Nat.le_of_ble_eq_true rfl) (fun F => ?_)
  have hE := ok.env F
  unfold Dz at h
  show Run (B.env F) 0 _ ⟨Ao 37 [(0, i64 a)], []⟩ _
  refine Md ?_
  revert h
  refine T0 [0] ?_
  refine Sq ?_
  refine Tw [0, 8] (fun c => ⟨Ao 37 [(0, i64 a), (8, .bool c)], []⟩) ?_ ?_
  · intro _
    refine Sp (fun b => ?_) fun b => ?_
    · exact Lf Aa (Ev (by simp only [go_sem, b]; exact Ac)) (ws [])
    · exact Lf Aa (Ev (by simp only [go_sem, b]; exact Ac)) (ws [])
  intro c
  refine Cd ?_ ?_
  · refine Bd fun q d => ?_
    refine Ck fun e => ?_
    refine Te [2] (o1 11 (hrec d)) (Ev (by simp only [go_sem, e]; exact Ac)) ?_
    exact Sr <|Tr <|Rr
  · refine Sk <|Tn <|Sq <|T0 [0, 14] ?_
    refine Cd ?_ ?_
    · have f : ¬(10 : Int) = 0 := by decide
      refine Bd fun s g => ?_
      have i : ¬(10 : Int) = 0 := by decide
      refine Bd fun t j => ?_
      refine Ck fun k => ?_
      refine Te [2] (o2 17 (hrec g) 21 (hrec j)) (Ev (by simp only [go_sem, f, i, k]; exact Ac)) ?_
      exact Sr <|Tr <|Rr
    · refine Sk <|Tn <|Sq <|T0 [0, 24] ?_
      refine Cd ?_ ?_
      · refine T0 [2] ?_
        exact Sr <|Tr <|Rr
      · refine Sk <|Tn <|?_
        have l : ¬(10 : Int) = 0 := by decide
        refine Bd fun u m => ?_
        have n : ¬(10 : Int) = 0 := by decide
        refine Bd fun v o => ?_
        refine Ck fun p => ?_
        refine Te [2] (o2 32 (hrec m) 35 (hrec o)) (Ev (by simp only [go_sem, l, n, p]; exact Ac)) ?_
        exact Sr <|Rr
theorem Na (n : Nat) : ∀ {a : Int} {r : List UInt8}, Dw n a = some r → Con B 101 [i64 a] [] (fun r' σ' => r' = .str r ∧ σ' = []) := by
  induction n with
  | zero => intro a r h; cases h
  | succ n ih => intro a r h; exact Ny ih h
theorem Ef {a : Int} {r : List UInt8} (h : Dj a = some r) : Con B 101 [i64 a] [] (fun r' σ' => r' = .str r ∧ σ' = []) := Na _ h
theorem Vg {e r} (h : Jb e = some r) : Con B 142 [u8 e] [] (fun r' σ' => r' = .bool r ∧ σ' = []) := by
  refine Cw 21 [.tmp 2] Tryz.func142 (fun F hE => ?_) h
  unfold Jb
  refine T0 [0] ?_
  refine Tw [2] (fun f => ⟨Ao 21 [(2, .bool f)], []⟩) ?_ ?_
  · intro _
    refine Sp (fun a => ?_) fun a => ?_
    · refine Sp (fun b => ?_) fun b => ?_
      · refine Sp (fun c => ?_) fun c => ?_
        · refine Sp (fun d => ?_) fun d => ?_
          · exact Lf Aa (Ev (by simp only [go_sem, a, b, c, d]; exact Ac)) (ws [])
          · exact Lf Aa (Ev (by simp only [go_sem, a, b, c, d]; exact Ac)) (ws [])
        · exact Lf Aa (Ev (by simp only [go_sem, a, b, c]; exact Ac)) (ws [])
      · exact Lf Aa (Ev (by simp only [go_sem, a, b]; exact Ac)) (ws [])
    · exact Lf Aa (Ev (by simp only [go_sem, a]; exact Ac)) (ws [])
  intro f
  exact Sr <|Rr
theorem P7 {a r} (h : Gg a = some r) : Con B 102 [.str a] [] (fun r' σ' => r' = .str r ∧ σ' = []) := by
  refine Cw 37 [.tmp 2] Tryz.func102 (fun F hE => ?_) h
  unfold Gg
  refine T0 [0] ?_
  refine Lt fun g n => ?_
  refine Te (fr' := [(0, _), (3, .bs true 0 (g.length) 0 (g.length))]) (σ' := [.buf 1 (L cU8 g) false]) [0, 3] Aa (Ev (by simp only [go_sem, n]; exact Ac)) ?_
  refine Ja (fun b => ⟨Ao 37 [(3, .bs false 0 (b.length) 0 (b.length))], [.buf 1 (L cU8 b) false]⟩) ?_ ?_
  · intro ae
    refine T0 [0, 3, 4] ?_
    refine Sb ?_
    refine Lo (fun (v : Int × List UInt8) => (⟨Ao 37 [(0, .str a), (3, .bs false 0 (v.2.length) 0 (v.2.length)), (4, i64 v.1)], [.buf 1 (L cU8 v.2) false]⟩ : St)) (ws [0]) ?_
    rintro ⟨k, c⟩ af o p q
    show D6 a k c = some o → _
    unfold D6
    refine Sq <|T0 [0, 3, 4, 9] ?_
    refine Cd ?_ ?_
    · refine Sk <|Tn <|?_
      refine Ja (fun d => ⟨Ao 37 [(0, .str a), (3, .bs false 0 (d.length) 0 (d.length)), (4, i64 k)], [.buf 1 (L cU8 d) false]⟩) ?_ ?_
      · intro ag
        refine Sb ?_
        refine Ck fun s => ?_
        refine Bd fun ah t => ?_
        refine Te [0, 3, 4, 15] (o1 15 (Vg t)) (Ev (by simp only [go_sem, qR s]; exact Ac)) ?_
        refine Cd ?_ ?_
        · refine Ck fun u => ?_
          refine Ck fun w => ?_
          refine Lt fun i x => ?_
          refine Fe (fr' := [(0, _), (3, .bs false 0 (i.length) 0 (i.length)), (4, _)]) (σ' := [.buf 1 (L cU8 i) false, _]) [0, 3, 4] Aa (Ev (by simp only [go_sem, qR u, w, x]; exact Ac)) ?_
          refine Bn ?_
          exact Jm (ws [0])
        · refine Ck fun y => ?_
          have z : ¬(16 : UInt8) = 0 := by decide
          refine Ck fun l => ?_
          have e := l; simp only [List.cons_append, List.nil_append, List.length_append, List.length_cons, List.length_nil, Nat.zero_add, Nat.reduceAdd] at e
          refine Ck fun aa => ?_
          have ab : ¬(16 : UInt8) = 0 := by decide
          refine Ck fun m => ?_
          have f := m; simp only [List.cons_append, List.nil_append, List.length_append, List.length_cons, List.length_nil, Nat.zero_add, Nat.reduceAdd] at f
          refine Ck fun ac => ?_
          refine Lt fun j ad => ?_
          refine Ge (fr' := [(0, _), (3, .bs false 0 (j.length) 0 (j.length)), (4, _)]) (σ' := [.buf 1 (L cU8 j) false, _]) [[], [], [], [1, 2], [1, 2, 3], [1, 2, 3, 4], [], [], [6, 7], [6, 7, 8], [6, 7, 8, 9], [1, 2, 3, 4, 5, 6, 7, 8, 9, 10], [0, 1, 2, 3, 4, 5, 6, 7, 8, 9, 10, 11], [0, 1, 2, 3, 4, 5, 6, 7, 8, 9, 10, 11, 12]] [0, 3, 4] Aa (Ev (by simp only [go_sem, qR y, z, qN l, e, Ik e, AgG (Ik e), qR aa, ab, qN m, f, Ik f, AgG (Ik f), ac, ad]; exact Ac)) ?_
          refine Bn ?_
          exact Jm (ws [0])
      intro d
      refine F0 [0, 3, 4] ?_
      exact Ln (ws [0])
    · refine Sx <|Tx <|Ly q p <|Bx <|?_
      exact Jm ((ws (l' := [(3, .bs false 0 (c.length) 0 (c.length))]) (σ' := [.buf 1 (L cU8 c) false]) [0]).trans (ws [0]))
  intro b
  refine T0 [2] ?_
  exact Sr <|Rr
theorem Mn {b c r} (h : I5 b c = some r) : Con B 69 [.str b, u8 c] [] (fun r' σ' => r' = .sl false (L J6 r) ∧ σ' = []) := by
  refine Cw 35 [.tmp 4] Tryz.func69 (fun F hE => ?_) h
  unfold I5
  refine T0 [0, 1] ?_
  refine Lt fun f j => ?_
  refine Te (fr' := [(0, _), (1, _), (5, .bs true 0 (f.length) 0 (f.length))]) (σ' := [.buf 1 (L J6 f) false]) [0, 1, 5] Aa (Ev (by simp only [go_sem, j]; exact Ac)) ?_
  refine T0 [0, 1, 5, 6] ?_
  refine Ja (fun (v : Int × List (List UInt8)) => (⟨Ao 35 [(0, .str b), (5, .bs false 0 (v.2.length) 0 (v.2.length)), (6, i64 v.1)], [.buf 1 (L J6 v.2) false]⟩ : St)) ?_ ?_
  · intro x
    refine T0 [0, 1, 5, 6, 7] ?_
    refine Sb ?_
    refine Lo (fun ⟨d, e, a⟩ => ⟨Ao 35 [(0, .str b), (1, u8 c), (5, .bs false 0 (a.length) 0 (a.length)), (6, i64 d), (7, i64 e)], [.buf 1 (L J6 a) false]⟩) (ws [0]) ?_
    rintro ⟨d, e, a⟩ y k l m
    show E9 b c d e a = some k → _
    unfold E9
    refine Sq <|T0 [0, 1, 5, 6, 7, 12] ?_
    refine Cd ?_ ?_
    · refine Sk <|Tn <|?_
      refine Ja (fun (v : Int × List (List UInt8)) => (⟨Ao 35 [(0, .str b), (1, u8 c), (5, .bs false 0 (v.2.length) 0 (v.2.length)), (6, i64 v.1), (7, i64 e)], [.buf 1 (L J6 v.2) false]⟩ : St)) ?_ ?_
      · intro z
        refine Sb ?_
        refine Ck fun n => ?_
        refine Te [0, 1, 5, 6, 7, 19] Aa (Ev (by simp only [go_sem, qR n]; exact Ac)) ?_
        refine Cd ?_ ?_
        · refine Ck fun o => ?_
          refine Ck fun p => ?_
          refine Ck fun q => ?_
          refine Lt fun g s => ?_
          refine Te (fr' := [(0, _), (1, _), (5, .bs false 0 (g.length) 0 (g.length)), (7, _)]) (σ' := [.buf 1 (L J6 g) false, _]) [0, 1, 5, 7] Aa (Ev (by simp only [go_sem, o, p, q, s]; exact Ac)) ?_
          refine F0 [0, 1, 5, 6, 7] ?_
          refine Bn ?_
          exact Jm (ws [0])
        · refine Sk <|Bn <|?_
          exact Jm (ws [0])
      rintro ⟨aa, ab⟩
      refine F0 [0, 1, 5, 6, 7] ?_
      exact Ln (ws [0])
    · refine Sx <|Tx <|Ly m l <|Bx <|?_
      exact Jm ((ws (l' := [(0, .str b), (5, .bs false 0 (a.length) 0 (a.length)), (6, i64 d)]) (σ' := [.buf 1 (L J6 a) false]) [0]).trans (ws [0]))
  rintro ⟨ac, ad⟩
  refine Ck fun t => ?_
  refine Ck fun u => ?_
  refine Lt fun i w => ?_
  refine Te (fr' := [(4, .bs false 0 (i.length) 0 (i.length))]) (σ' := [.buf 1 (L J6 i) false, _]) [4] Aa (Ev (by simp only [go_sem, t, u, w]; exact Ac)) ?_
  exact Sr <|Rr
theorem Ea {a r} (h : Av a = some r) : Con B 110 [.str a] [] (fun r' σ' => r' = i64 r ∧ σ' = []) := by
  refine Cw 44 [.tmp 2] Tryz.func110 (fun F hE => ?_) h
  unfold Av
  refine T0 [0] ?_
  refine T0 [0, 3] ?_
  refine Tw [0, 3, 4] (fun c => ⟨Ao 44 [(0, .str a), (3, i64 0), (4, .bool c)], []⟩) ?_ ?_
  · intro _
    refine Sp (fun d => ?_) fun d => ?_
    · refine Ck fun k => ?_
      exact Lf Aa (Ev (by simp only [go_sem, d, qL k]; exact Ac)) (ws [])
    · exact Lf Aa (Ev (by simp only [go_sem, d]; exact Ac)) (ws [])
  intro c
  refine Ja (fun g => ⟨Ao 44 [(3, i64 g)], []⟩) ?_ ?_
  · intro w
    refine T0 [0, 3, 4, 5] ?_
    refine Sb ?_
    refine Lo (fun (v : Int × Int) => (⟨Ao 44 [(0, .str a), (3, i64 v.1), (4, .bool c), (5, i64 v.2)], []⟩ : St)) (ws []) ?_
    rintro ⟨e, f⟩ x l m n
    show Cg a c e f = some l → _
    unfold Cg
    refine Sq <|T0 [0, 3, 4, 5, 17] ?_
    refine Cd ?_ ?_
    · refine Sk <|Tn <|?_
      refine Ja (fun i => ⟨Ao 44 [(0, .str a), (3, i64 i), (4, .bool c), (5, i64 f)], []⟩) ?_ ?_
      · intro y
        refine Sb ?_
        refine Tw [0, 3, 4, 5, 24] (fun j => ⟨Ao 44 [(0, .str a), (3, i64 e), (4, .bool c), (5, i64 f), (24, .bool j)], []⟩) ?_ ?_
        · intro _
          refine Sp (fun b => ?_) fun b => ?_
          · exact Lf Aa (Ev (by simp only [go_sem, b]; exact Ac)) (ws [] (by simp only [go_sem, b]) (by simp only [go_sem, b]))
          · exact Lf Aa (Ev (by simp only [go_sem, b]; exact Ac)) (ws [] (by simp only [go_sem, b]) (by simp only [go_sem, b]))
        intro j
        refine Cd ?_ ?_
        · refine Ck fun o => ?_
          refine Lt fun p q => ?_
          refine Fe (fr' := [(0, _), (3, i64 p), (4, _), (5, _)]) [0, 3, 4, 5] Aa (Ev (by simp only [go_sem, qR o, q]; exact Ac)) ?_
          refine Bn ?_
          exact Jm (ws [])
        · refine T0 [0, 3, 4, 5, 34] ?_
          refine Cd ?_ ?_
          · refine Ck fun s => ?_
            refine Lt fun t u => ?_
            refine Fe (fr' := [(0, _), (3, i64 t), (4, _), (5, _)]) [0, 3, 4, 5] Aa (Ev (by simp only [go_sem, qR s, u]; exact Ac)) ?_
            refine Bn ?_
            exact Jm (ws [])
          · refine Sk <|Bn <|?_
            exact Jm (ws [])
      intro i
      refine F0 [0, 3, 4, 5] ?_
      exact Ln (ws [])
    · refine Sx <|Tx <|Ly n m <|Bx <|?_
      exact Jm ((ws (l' := [(3, i64 e)]) (σ' := []) []).trans (ws []))
  intro g
  refine T0 [2] ?_
  exact Sr <|Rr
theorem Rz {a r} (h : Gr a = some r) : Con B 151 [u8 a] [] (fun r' σ' => r' = u8 r ∧ σ' = []) := by
  refine Cw 20 [.tmp 2] Tryz.func151 (fun F hE => ?_) h
  unfold Gr
  refine T0 [0] ?_
  refine Sq ?_
  refine Tw [0, 8] (fun d => ⟨Ao 20 [(0, u8 a), (8, .bool d)], []⟩) ?_ ?_
  · intro _
    refine Sp (fun b => ?_) fun b => ?_
    · exact Lf Aa (Ev (by simp only [go_sem, b]; exact Ac)) (ws [])
    · exact Lf Aa (Ev (by simp only [go_sem, b]; exact Ac)) (ws [])
  intro d
  refine Cd ?_ ?_
  · refine T0 [2] ?_
    exact Sr <|Tr <|Rr
  · refine Sk <|Tn <|Sq <|?_
    refine Tw [0, 16] (fun e => ⟨Ao 20 [(0, u8 a), (16, .bool e)], []⟩) ?_ ?_
    · intro _
      refine Sp (fun c => ?_) fun c => ?_
      · exact Lf Aa (Ev (by simp only [go_sem, c]; exact Ac)) (ws [])
      · exact Lf Aa (Ev (by simp only [go_sem, c]; exact Ac)) (ws [])
    intro e
    refine Cd ?_ ?_
    · refine T0 [2] ?_
      exact Sr <|Tr <|Rr
    · refine Sk <|Tn <|T0 [2] ?_
      exact Sr <|Rr
theorem Wp {b r} (h : H4 b = some r) : Con B 111 [.str b] [] (fun r' σ' => r' = .str r ∧ σ' = []) := by
  refine Cw 48 [.tmp 2] Tryz.func111 (fun F hE => ?_) h
  unfold H4
  refine T0 [0] ?_
  refine Lt fun d l => ?_
  refine Te (fr' := [(0, _), (3, .bs true 0 (d.length) 0 (d.length))]) (σ' := [.buf 1 (L cU8 d) false]) [0, 3] Aa (Ev (by simp only [go_sem, l]; exact Ac)) ?_
  refine Ja (fun c => ⟨Ao 48 [(3, .bs false 0 (c.length) 0 (c.length))], [.buf 1 (L cU8 c) false]⟩) ?_ ?_
  · intro aa
    refine T0 [0, 3, 4] ?_
    refine Sb ?_
    refine Lo (fun (v : Int × List UInt8) => (⟨Ao 48 [(0, .str b), (3, .bs false 0 (v.2.length) 0 (v.2.length)), (4, i64 v.1)], [.buf 1 (L cU8 v.2) false]⟩ : St)) (ws [0]) ?_
    rintro ⟨i, a⟩ ab m n o
    show Dx b i a = some m → _
    unfold Dx
    refine Sq <|T0 [0, 3, 4, 9] ?_
    refine Cd ?_ ?_
    · refine Sk <|Tn <|?_
      refine Ja (fun (v : Int × List UInt8) => (⟨Ao 48 [(0, .str b), (3, .bs false 0 (v.2.length) 0 (v.2.length)), (4, i64 v.1)], [.buf 1 (L cU8 v.2) false]⟩ : St)) ?_ ?_
      · intro ac
        refine Sb ?_
        refine Tw [0, 3, 4, 22] (fun j => ⟨Ao 48 [(0, .str b), (3, .bs false 0 (a.length) 0 (a.length)), (4, i64 i), (22, .bool j)], [.buf 1 (L cU8 a) false]⟩) ?_ ?_
        · intro _
          refine Ck fun k => ?_
          refine Sp (fun e => ?_) fun e => ?_
          · exact Lf Aa (Ev (by simp only [go_sem, qR k, e]; exact Ac)) (ws [0])
          · exact Lf Aa (Ev (by simp only [go_sem, qR k, e]; exact Ac)) (ws [0])
        intro j
        refine Cd ?_ ?_
        · refine Ck fun p => ?_
          refine Bd fun ad q => ?_
          refine Ck fun s => ?_
          refine Bd fun ae t => ?_
          refine Ck fun u => ?_
          refine Lt fun f w => ?_
          refine De (fr' := [(0, _), (3, .bs false 0 (f.length) 0 (f.length)), (4, _)]) (σ' := [.buf 1 (L cU8 f) false, _]) [[], [], [], [2], [1, 2, 3], [1, 2, 3, 4], [1, 2, 3, 4, 5], [], [], [8], [7, 8, 9], [1, 2, 3, 4, 5, 7, 8, 9, 10], [1, 2, 3, 4, 5, 6, 7, 8, 9, 10, 11], [1, 2, 3, 4, 5, 6, 7, 8, 9, 10, 11, 12], [0, 1, 2, 3, 4, 5, 6, 7, 8, 9, 10, 11, 12, 13], [0, 1, 2, 3, 4, 5, 6, 7, 8, 9, 10, 11, 12, 13, 14]] [0, 3, 4] (o2 28 (Rz q) 34 (Rz t)) (Ev (by simp only [go_sem, qR p, qR s, u, w]; exact Ac)) ?_
          refine F0 [0, 3, 4] ?_
          refine Bn ?_
          exact Jm (ws [0])
        · refine Ck fun x => ?_
          refine Ck fun y => ?_
          refine Lt fun g z => ?_
          refine Fe (fr' := [(0, _), (3, .bs false 0 (g.length) 0 (g.length)), (4, _)]) (σ' := [.buf 1 (L cU8 g) false, _]) [0, 3, 4] Aa (Ev (by simp only [go_sem, qR x, y, z]; exact Ac)) ?_
          refine Bn ?_
          exact Jm (ws [0])
      rintro ⟨af, ag⟩
      refine F0 [0, 3, 4] ?_
      exact Ln (ws [0])
    · refine Sx <|Tx <|Ly o n <|Bx <|?_
      exact Jm ((ws (l' := [(3, .bs false 0 (a.length) 0 (a.length))]) (σ' := [.buf 1 (L cU8 a) false]) [0]).trans (ws [0]))
  intro c
  refine T0 [2] ?_
  exact Sr <|Rr
theorem Nd {a r} (h : F5 a = some r) : Con B 103 [.agg [i64 a.Kind, i64 a.Serial, .bool a.Fitted]] [] (fun r' σ' => r' = .str r ∧ σ' = []) := by
  refine Cw 18 [.tmp 2] Tryz.func103 (fun F hE => ?_) h
  unfold F5
  refine T0 [1] ?_
  refine Bd fun l d => ?_
  refine Ck fun e => ?_
  refine Bd fun m f => ?_
  refine Ck fun b => ?_
  have c := b; simp only [List.cons_append, List.nil_append, List.length_append, List.length_cons, List.length_nil, Nat.zero_add, Nat.reduceAdd] at c
  refine Lt fun g i => ?_
  refine De (fr' := [(1, _), (3, .str g)]) [[], [0], [0, 1], [0, 1, 2], [], [4], [0, 1, 2, 4, 5], [0, 1, 2, 3, 4, 5, 6], [0, 1, 2, 3, 4, 5, 6, 7]] [1, 3] (o2 6 (Ef d) 10 (Ef f)) (Ev (by simp only [go_sem, e, b, c, i]; exact Ac)) ?_
  refine Sq <|T0 [3, 13] ?_
  refine Cd ?_ ?_
  · refine Ck fun j => ?_
    refine Te [2] Aa (Ev (by simp only [go_sem, j]; exact Ac)) ?_
    exact Sr <|Tr <|Rr
  · refine Sk <|Tn <|?_
    refine Ck fun k => ?_
    refine Te [2] Aa (Ev (by simp only [go_sem, k]; exact Ac)) ?_
    exact Sr <|Rr
theorem P5 {a d r} (h : Bk a d = some r) : Con B 71 [.agg [i64 a.Kind, i64 a.Ref.Railway, i64 a.Ref.No, i64 a.Wagon, i64 a.Place, i64 a.Other, i64 a.Number, i64 a.From, i64 a.To, i64 a.Code, i64 a.Dest, i64 a.Class, i64 a.Weight, i64 a.Amount, .str a.Text, .bs false 0 (a.Parts.length) 0 (a.Parts.length)], .str d] [.buf 3 (L Ab a.Parts) false] (fun r' σ' => r' = .agg [i64 r.Kind, i64 r.Ref.Railway, i64 r.Ref.No, i64 r.Wagon, i64 r.Place, i64 r.Other, i64 r.Number, i64 r.From, i64 r.To, i64 r.Code, i64 r.Dest, i64 r.Class, i64 r.Weight, i64 r.Amount, .str r.Text, .bs false 0 (r.Parts.length) 0 (r.Parts.length)] ∧ σ' = [.buf 3 (L Ab r.Parts) false]) := by
  refine Co 1 72 [.cell 4 41] Tryz.func71 (fun F hE => ?_) h
  unfold Bk
  refine T0 [1, 2, 4] ?_
  refine Sq <|T0 [1, 2, 4, 7] ?_
  refine Cd ?_ ?_
  · refine T0 [4] ?_
    exact Sr <|Tr <|Ro [0]
  · refine Sk <|Tn <|?_
    refine Ck fun g => ?_
    refine Bd fun aj i => ?_
    refine Te [1, 2, 4, 5] (o1 11 (Mn i)) (Ev (by simp only [go_sem, g]; exact Ac)) ?_
    refine Sq ?_
    refine Ck fun j => ?_
    refine Te [1, 2, 4, 5, 13] Aa (Ev (by simp only [go_sem, qL j]; exact Ac)) ?_
    refine Sb <|T0 [1, 2, 4, 5, 13, 14] ?_
    refine Cd ?_ ?_
    · refine Ja (fun (v : Int × Int) => (⟨Ao 72 [(2, .ref 1 0), (4, .ref 2 0)], [.buf 3 (L Ab a.Parts) false, .box [i64 a.Kind, i64 v.1, i64 v.2, i64 a.Wagon, i64 a.Place, i64 a.Other, i64 a.Number, i64 a.From, i64 a.To, i64 a.Code, i64 a.Dest, i64 a.Class, i64 a.Weight, i64 a.Amount, .str a.Text, .bs false 0 (a.Parts.length) 0 (a.Parts.length)] false, .box [i64 0, i64 0, i64 0, i64 0, i64 0, i64 0, i64 0, i64 0, i64 0, i64 0, i64 0, i64 0, i64 0, i64 0, .str (([] : List UInt8)), .sl true (L Ab ([]))] false]⟩ : St)) ?_ ?_
      · intro ak
        refine T0 [2, 4, 5, 18] ?_
        refine Cd ?_ ?_
        · refine Ck fun k => ?_
          refine Bd fun al n => ?_
          refine Ck fun o => ?_
          refine Bd fun am p => ?_
          refine Ge [[], [0], [0, 1], [0, 1, 2], [], [4], [4, 5], [0, 1, 2, 3, 4, 5, 6], [0, 1, 2, 3, 4, 5, 6, 7], [0, 1, 2, 3, 4, 5, 6, 7, 8], [0, 1, 2, 3, 4, 5, 6, 7, 8, 9]] [2, 4] (o2 22 (Ea n) 26 (Ea p)) (Ev (by simp only [go_sem, qL k, qL o]; exact Ac)) ?_
          exact Jm (ws [0, 1, 2])
        · refine Sk ?_
          exact Jm (ws [0, 1, 2])
      rintro ⟨an, ao⟩
      refine T0 [4] ?_
      exact Sr <|Br <|Tr <|Ro [0]
    · refine T0 [1, 2, 4, 5, 13, 30] ?_
      refine Cd ?_ ?_
      · refine Ck fun q => ?_
        refine Bd fun ap s => ?_
        refine Te [2, 4] (o1 34 (Wp s)) (Ev (by simp only [go_sem, q]; exact Ac)) ?_
        refine T0 [4] ?_
        exact Sr <|Br <|Tr <|Ro [0]
      · refine T0 [1, 2, 4, 5, 37] ?_
        refine Cd ?_ ?_
        · refine Ja (fun c => ⟨Ao 72 [(2, .ref 1 0), (4, .ref 2 0)], [.buf 3 (L Ab c) false, .box [i64 a.Kind, i64 a.Ref.Railway, i64 a.Ref.No, i64 a.Wagon, i64 a.Place, i64 a.Other, i64 a.Number, i64 a.From, i64 a.To, i64 a.Code, i64 a.Dest, i64 a.Class, i64 a.Weight, i64 a.Amount, .str a.Text, .bs false 0 (c.length) 0 (c.length)] false, .box [i64 0, i64 0, i64 0, i64 0, i64 0, i64 0, i64 0, i64 0, i64 0, i64 0, i64 0, i64 0, i64 0, i64 0, .str (([] : List UInt8)), .sl true (L Ab ([]))] false]⟩) ?_ ?_
          · intro aq
            refine T0 [2, 4, 5, 41] ?_
            refine Cd ?_ ?_
            · refine Ck fun t => ?_
              refine Bd fun ar u => ?_
              refine Ck fun w => ?_
              refine Bd fun au x => ?_
              refine Ck fun y => ?_
              refine Ck fun z => ?_
              refine Lt fun e aa => ?_
              refine Ge (σ' := [.buf 3 (L Ab e) false, .box [i64 a.Kind, i64 a.Ref.Railway, i64 a.Ref.No, i64 a.Wagon, i64 a.Place, i64 a.Other, i64 a.Number, i64 a.From, i64 a.To, i64 a.Code, i64 a.Dest, i64 a.Class, i64 a.Weight, i64 a.Amount, .str a.Text, .bs false 0 (e.length) 0 (e.length)] false, _, _]) [[], [0], [], [2], [2, 3], [2, 3, 4], [], [6], [6, 7], [2, 3, 4, 5, 6, 7, 8], [], [10], [10, 11], [10, 11, 12], [2, 3, 4, 5, 6, 7, 8, 9, 10, 11, 12, 13], [2, 3, 4, 5, 6, 7, 8, 9, 10, 11, 12, 13, 14], [0, 1, 2, 3, 4, 5, 6, 7, 8, 9, 10, 11, 12, 13, 14, 15], [0, 1, 2, 3, 4, 5, 6, 7, 8, 9, 10, 11, 12, 13, 14, 15, 16], [0, 1, 2, 3, 4, 5, 6, 7, 8, 9, 10, 11, 12, 13, 14, 15, 16, 17]] [2, 4] (o2 47 (Ea u) 51 (Ea x)) (Ev (by simp only [go_sem, qL t, qL w, qL y, z, aa]; exact Ac)) ?_
              exact Jm (ws [0, 1, 2])
            · refine Sk ?_
              exact Jm (ws [0, 1, 2])
          intro c
          refine T0 [4] ?_
          exact Sr <|Br <|Tr <|Ro [0]
        · refine Sk <|Bn <|Tn <|Sq <|?_
          refine Ck fun ab => ?_
          refine Bd fun av ac => ?_
          refine Te [1, 2, 4, 63] (o1 63 (Ab1 ac)) (Ev (by simp only [go_sem, qL ab]; exact Ac)) ?_
          refine Cd ?_ ?_
          · refine Ck fun ad => ?_
            refine Ck fun ae => ?_
            refine Bd fun af ag => ?_
            refine Bd fun b ah => ?_
            refine Lt fun f ai => ?_
            refine De (σ' := [.buf 3 (L Ab f) false, _, .box [i64 b.Kind, i64 b.Ref.Railway, i64 b.Ref.No, i64 b.Wagon, i64 b.Place, i64 b.Other, i64 b.Number, i64 b.From, i64 b.To, i64 b.Code, i64 b.Dest, i64 b.Class, i64 b.Weight, i64 b.Amount, .str b.Text, .bs false 0 (f.length) 0 (f.length)] false]) [[], [], [1], [], [3], [3, 4], [0, 1, 2, 3, 4, 5], [0, 1, 2, 3, 4, 5, 6]] [4] (Aj (l := [(69, _, _, _)]) (m := [(70, 29, [.agg [i64 a.Kind, i64 a.Ref.Railway, i64 a.Ref.No, i64 a.Wagon, i64 a.Place, i64 a.Other, i64 a.Number, i64 a.From, i64 a.To, i64 a.Code, i64 a.Dest, i64 a.Class, i64 a.Weight, i64 a.Amount, .str a.Text, .bs false 0 (a.Parts.length) 0 (a.Parts.length)], u8 ((nth d 0)), i64 af], [.buf 3 (L Ab a.Parts) false, .box [i64 a.Kind, i64 a.Ref.Railway, i64 a.Ref.No, i64 a.Wagon, i64 a.Place, i64 a.Other, i64 a.Number, i64 a.From, i64 a.To, i64 a.Code, i64 a.Dest, i64 a.Class, i64 a.Weight, i64 a.Amount, .str a.Text, .bs false 0 (a.Parts.length) 0 (a.Parts.length)] false, .box [i64 0, i64 0, i64 0, i64 0, i64 0, i64 0, i64 0, i64 0, i64 0, i64 0, i64 0, i64 0, i64 0, i64 0, .str (([] : List UInt8)), .sl true (L Ab ([]))] false], _, _)]) ⟨Ea  ag, trivial⟩ ⟨(wc (X0 ah) [0]), trivial⟩) (Ev (by simp only [go_sem, qL ad, ae, ai]; exact Ac)) ?_
            exact Sr <|Tr <|Ro [0]
          · refine Sk <|Tn <|T0 [4] ?_
            exact Sr <|Ro [0]
theorem Qi {a r} (h : Dv a = some r) : Con B 56 [.agg [i64 a.Kind, i64 a.Ref.Railway, i64 a.Ref.No, i64 a.Wagon, i64 a.Place, i64 a.Other, i64 a.Number, i64 a.From, i64 a.To, i64 a.Code, i64 a.Dest, i64 a.Class, i64 a.Weight, i64 a.Amount, .str a.Text, .sl false (L Ab a.Parts)]] [] (fun r' σ' => r' = .str r ∧ σ' = []) := by
  refine Cw 74 [.tmp 2] Tryz.func56 (fun F hE => ?_) h
  unfold Dv
  refine T0 [1] ?_
  refine Bd fun aJ ae => ?_
  refine Te [1, 3] (o1 9 (Ra ae)) Ev ?_
  refine Ja (fun b => ⟨Ao 74 [(1, .ref 0 0), (3, .str b)], [.box [i64 a.Kind, i64 a.Ref.Railway, i64 a.Ref.No, i64 a.Wagon, i64 a.Place, i64 a.Other, i64 a.Number, i64 a.From, i64 a.To, i64 a.Code, i64 a.Dest, i64 a.Class, i64 a.Weight, i64 a.Amount, .str a.Text, .sl false (L Ab a.Parts)] false]⟩) ?_ ?_
  · intro aK
    refine T0 [1, 3, 13] ?_
    refine Cd ?_ ?_
    · refine Ck fun af => ?_
      refine Bd fun aL ag => ?_
      refine Ck fun c => ?_
      have d := c; simp only [List.cons_append, List.nil_append, List.length_append, List.length_cons, List.length_nil, Nat.zero_add, Nat.reduceAdd] at d
      refine Ck fun e => ?_
      have f := e; simp only [List.cons_append, List.nil_append, List.length_append, List.length_cons, List.length_nil, Nat.zero_add, Nat.reduceAdd] at f
      refine Bd fun aM ah => ?_
      refine Ck fun g => ?_
      have i := g; simp only [List.cons_append, List.nil_append, List.length_append, List.length_cons, List.length_nil, Nat.zero_add, Nat.reduceAdd] at i
      refine Lt fun ai aj => ?_
      refine Ge (fr' := [(1, _), (3, .str ai)]) [[], [0], [], [2], [2, 3], [2, 3, 4], [0, 1, 2, 3, 4, 5], [0, 1, 2, 3, 4, 5, 6], [], [8], [8, 9], [2, 3, 4, 5, 8, 9, 10], [0, 1, 2, 3, 4, 5, 6, 7, 8, 9, 10, 11], [0, 1, 2, 3, 4, 5, 6, 7, 8, 9, 10, 11, 12]] [1, 3] (o2 19 (Ef ag) 25 (Ef ah)) (Ev (by simp only [go_sem, af, c, d, e, f, g, i, aj]; exact Ac)) ?_
      exact Jm (ws [0])
    · refine Sk ?_
      exact Jm (ws [0])
  intro b
  refine Ja (fun j => ⟨Ao 74 [(1, .ref 0 0), (3, .str j)], [.box [i64 a.Kind, i64 a.Ref.Railway, i64 a.Ref.No, i64 a.Wagon, i64 a.Place, i64 a.Other, i64 a.Number, i64 a.From, i64 a.To, i64 a.Code, i64 a.Dest, i64 a.Class, i64 a.Weight, i64 a.Amount, .str a.Text, .sl false (L Ab a.Parts)] false]⟩) ?_ ?_
  · intro aN
    refine T0 [1, 3, 4] ?_
    refine Sb ?_
    refine Lo (fun (v : List UInt8 × Int) => (⟨Ao 74 [(1, .ref 0 0), (3, .str v.1), (4, i64 v.2)], [.box [i64 a.Kind, i64 a.Ref.Railway, i64 a.Ref.No, i64 a.Wagon, i64 a.Place, i64 a.Other, i64 a.Number, i64 a.From, i64 a.To, i64 a.Code, i64 a.Dest, i64 a.Class, i64 a.Weight, i64 a.Amount, .str a.Text, .sl false (L Ab a.Parts)] false]⟩ : St)) (ws [0]) ?_
    rintro ⟨k, l⟩ aO ak al am
    show Dg a k l = some ak → _
    unfold Dg
    refine Sq <|T0 [1, 3, 4, 28] ?_
    refine Cd ?_ ?_
    · refine Sk <|Tn <|?_
      refine Ja (fun m => ⟨Ao 74 [(1, .ref 0 0), (3, .str m), (4, i64 l)], [.box [i64 a.Kind, i64 a.Ref.Railway, i64 a.Ref.No, i64 a.Wagon, i64 a.Place, i64 a.Other, i64 a.Number, i64 a.From, i64 a.To, i64 a.Code, i64 a.Dest, i64 a.Class, i64 a.Weight, i64 a.Amount, .str a.Text, .sl false (L Ab a.Parts)] false]⟩) ?_ ?_
      · intro aP
        refine Sb ?_
        refine Ck fun n => ?_
        have o := n; simp only [List.cons_append, List.nil_append, List.length_append, List.length_cons, List.length_nil, Nat.zero_add, Nat.reduceAdd] at o
        refine Bd fun aQ an => ?_
        refine De [[], [], [1], [0, 1, 2], [0, 1, 2, 3]] [1, 3, 4, 5] (o1 34 (Jt an)) (Ev (by simp only [go_sem, qR n, o]; exact Ac)) ?_
        refine T0 [1, 3, 4, 5, 36] ?_
        refine Cd ?_ ?_
        · refine Ck fun ao => ?_
          refine Ck fun p => ?_
          have q := p; simp only [List.cons_append, List.nil_append, List.length_append, List.length_cons, List.length_nil, Nat.zero_add, Nat.reduceAdd] at q
          refine Ck fun ap => ?_
          refine Ck fun s => ?_
          have t := s; simp only [List.cons_append, List.nil_append, List.length_append, List.length_cons, List.length_nil, Nat.zero_add, Nat.reduceAdd] at t
          refine Bd fun aR aq => ?_
          refine Ck fun u => ?_
          have w := u; simp only [List.cons_append, List.nil_append, List.length_append, List.length_cons, List.length_nil, Nat.zero_add, Nat.reduceAdd] at w
          refine Lt fun ar au => ?_
          refine Ge (fr' := [(1, _), (3, .str ar), (4, _)]) [[], [0], [], [], [3], [2, 3, 4], [0, 1, 2, 3, 4, 5], [], [7], [0, 1, 2, 3, 4, 5, 6, 7, 8], [0, 1, 2, 3, 4, 5, 6, 7, 8, 9]] [1, 3, 4] (o1 45 (Ef aq)) (Ev (by simp only [go_sem, ao, p, q, ap, s, t, u, w, au]; exact Ac)) ?_
          refine Bn ?_
          exact Jm (ws [0])
        · refine Sk <|Bn <|?_
          exact Jm (ws [0])
      intro m
      refine F0 [1, 3, 4] ?_
      exact Ln (ws [0])
    · refine Sx <|Tx <|Ly am al <|Bx <|?_
      exact Jm ((ws (l' := [(1, .ref 0 0), (3, .str k)]) (σ' := [.box [i64 a.Kind, i64 a.Ref.Railway, i64 a.Ref.No, i64 a.Wagon, i64 a.Place, i64 a.Other, i64 a.Number, i64 a.From, i64 a.To, i64 a.Code, i64 a.Dest, i64 a.Class, i64 a.Weight, i64 a.Amount, .str a.Text, .sl false (L Ab a.Parts)] false]) [0]).trans (ws [0]))
  intro j
  refine Ja (fun x => ⟨Ao 74 [(1, .ref 0 0), (3, .str x)], [.box [i64 a.Kind, i64 a.Ref.Railway, i64 a.Ref.No, i64 a.Wagon, i64 a.Place, i64 a.Other, i64 a.Number, i64 a.From, i64 a.To, i64 a.Code, i64 a.Dest, i64 a.Class, i64 a.Weight, i64 a.Amount, .str a.Text, .sl false (L Ab a.Parts)] false]⟩) ?_ ?_
  · intro aS
    refine T0 [1, 3, 49] ?_
    refine Cd ?_ ?_
    · refine Ck fun av => ?_
      refine Bd fun aT aw => ?_
      refine Ck fun y => ?_
      have z := y; simp only [List.cons_append, List.nil_append, List.length_append, List.length_cons, List.length_nil, Nat.zero_add, Nat.reduceAdd] at z
      refine Lt fun ax ay => ?_
      refine Fe (fr' := [(1, _), (3, .str ax)]) [1, 3] (o1 54 (P7 aw)) (Ev (by simp only [go_sem, av, y, z, ay]; exact Ac)) ?_
      exact Jm (ws [0])
    · refine Sk ?_
      exact Jm (ws [0])
  intro x
  refine Ja (fun aa => ⟨Ao 74 [(3, .str aa)], []⟩) ?_ ?_
  · intro aU
    refine T0 [1, 3, 6] ?_
    refine Sb ?_
    refine Lo (fun (v : List UInt8 × Int) => (⟨Ao 74 [(1, .ref 0 0), (3, .str v.1), (6, i64 v.2)], [.box [i64 a.Kind, i64 a.Ref.Railway, i64 a.Ref.No, i64 a.Wagon, i64 a.Place, i64 a.Other, i64 a.Number, i64 a.From, i64 a.To, i64 a.Code, i64 a.Dest, i64 a.Class, i64 a.Weight, i64 a.Amount, .str a.Text, .sl false (L Ab a.Parts)] false]⟩ : St)) (ws [0]) ?_
    rintro ⟨ab, az⟩ aV aA aB aC
    show Dh a ab az = some aA → _
    unfold Dh
    refine Sq <|T0 [1, 3, 6, 60] ?_
    refine Cd ?_ ?_
    · refine Sk <|Tn <|Sq <|Sb <|?_
      refine Ck fun aD => ?_
      refine Ck fun aE => ?_
      refine Bd fun aW aF => ?_
      refine Ck fun ac => ?_
      have ad := ac; simp only [List.cons_append, List.nil_append, List.length_append, List.length_cons, List.length_nil, Nat.zero_add, Nat.reduceAdd] at ad
      refine Lt fun aG aH => ?_
      refine Fe (fr' := [(1, _), (3, .str aG), (6, _)]) [1, 3, 6] (o1 70 (Nd aF)) (Ev (by simp only [go_sem, aD, qR aE, ac, ad, aH]; exact Ac)) ?_
      refine Bn <|Tn <|F0 [1, 3, 6] ?_
      exact Ln (ws [0])
    · refine Sx <|Tx <|Ly aC aB <|Bx <|?_
      exact Jm ((ws (l' := [(3, .str ab)]) (σ' := []) []).trans (ws []))
  intro aa
  refine Ck fun aI => ?_
  refine Te [2] Aa (Ev (by simp only [go_sem, aI]; exact Ac)) ?_
  exact Sr <|Rr
theorem Nf {a b r} (h : Fs a b = some r) : Con B 73 [.sl false (L Ab a), .sl false (L Ab b)] [] (fun r' σ' => r' = .bool r ∧ σ' = []) := by
  refine Cw 26 [.tmp 4] Tryz.func73 (fun F hE => ?_) h
  unfold Fs
  refine T0 [0, 1] ?_
  refine Sq <|T0 [0, 1, 10] ?_
  refine Cd ?_ ?_
  · refine T0 [4] ?_
    exact Sr <|Tr <|Rr
  · refine Sk <|Tn <|?_
    refine Jo (fun _ => ⟨Ao 26 [], []⟩) ?_ ?_
    · intro m f
      refine T0 [0, 1, 5] ?_
      refine Sb ?_
      refine Lo (fun c => ⟨Ao 26 [(0, .sl false (L Ab a)), (1, .sl false (L Ab b)), (5, i64 c)], []⟩) (ws []) ?_
      rintro c n g d e
      show D2 a b c = some g → _
      unfold D2
      refine Sq <|T0 [0, 1, 5, 14] ?_
      refine Cd ?_ ?_
      · refine Sk <|Tn <|Sq <|Sb <|?_
        refine Ck fun i => ?_
        refine Ck fun j => ?_
        refine Lt fun k l => ?_
        refine De (fr' := [(0, _), (1, _), (5, _), (25, .bool k)]) [[], [], [0, 1], [0, 1, 2], [], [], [4, 5], [4, 5, 6], [0, 1, 2, 3, 4, 5, 6, 7]] [0, 1, 5, 25] Aa (Ev (by simp only [go_sem, qR i, qR j, l]; exact Ac)) ?_
        refine Cd ?_ ?_
        · refine T0 [4] ?_
          exact Sr <|Br <|Tr <|Lr e d <|Br <|Jr f <|Rr
        · refine Sk <|Bn <|Tn <|F0 [0, 1, 5] ?_
          exact Ln (ws [])
      · refine Sx <|Tx <|Lx e d <|Bx <|?_
        exact Jn ((ws (l' := []) (σ' := []) []).trans (ws []))
    intro _
    refine T0 [4] ?_
    exact Sr <|Rr
theorem Du {a b r} (h : Ez a b = some r) : Con B 25 [.agg [i64 a.Kind, i64 a.Ref.Railway, i64 a.Ref.No, i64 a.Wagon, i64 a.Place, i64 a.Other, i64 a.Number, i64 a.From, i64 a.To, i64 a.Code, i64 a.Dest, i64 a.Class, i64 a.Weight, i64 a.Amount, .str a.Text, .sl false (L Ab a.Parts)], .agg [i64 b.Kind, i64 b.Ref.Railway, i64 b.Ref.No, i64 b.Wagon, i64 b.Place, i64 b.Other, i64 b.Number, i64 b.From, i64 b.To, i64 b.Code, i64 b.Dest, i64 b.Class, i64 b.Weight, i64 b.Amount, .str b.Text, .sl false (L Ab b.Parts)]] [] (fun r' σ' => r' = .bool r ∧ σ' = []) := by
  refine Cw 45 [.tmp 4] Tryz.func25 (fun F hE => ?_) h
  unfold Ez
  refine T0 [2, 3] ?_
  refine Jo (fun _ => ⟨Ao 45 [(2, .ref 0 0), (3, .ref 1 0)], [.box [i64 a.Kind, i64 a.Ref.Railway, i64 a.Ref.No, i64 a.Wagon, i64 a.Place, i64 a.Other, i64 a.Number, i64 a.From, i64 a.To, i64 a.Code, i64 a.Dest, i64 a.Class, i64 a.Weight, i64 a.Amount, .str a.Text, .sl false (L Ab a.Parts)] false, .box [i64 b.Kind, i64 b.Ref.Railway, i64 b.Ref.No, i64 b.Wagon, i64 b.Place, i64 b.Other, i64 b.Number, i64 b.From, i64 b.To, i64 b.Code, i64 b.Dest, i64 b.Class, i64 b.Weight, i64 b.Amount, .str b.Text, .sl false (L Ab b.Parts)] false]⟩) ?_ ?_
  · intro u o
    refine T0 [2, 3, 5] ?_
    refine Sb ?_
    refine Lo (fun e => ⟨Ao 45 [(2, .ref 0 0), (3, .ref 1 0), (5, i64 e)], [.box [i64 a.Kind, i64 a.Ref.Railway, i64 a.Ref.No, i64 a.Wagon, i64 a.Place, i64 a.Other, i64 a.Number, i64 a.From, i64 a.To, i64 a.Code, i64 a.Dest, i64 a.Class, i64 a.Weight, i64 a.Amount, .str a.Text, .sl false (L Ab a.Parts)] false, .box [i64 b.Kind, i64 b.Ref.Railway, i64 b.Ref.No, i64 b.Wagon, i64 b.Place, i64 b.Other, i64 b.Number, i64 b.From, i64 b.To, i64 b.Code, i64 b.Dest, i64 b.Class, i64 b.Weight, i64 b.Amount, .str b.Text, .sl false (L Ab b.Parts)] false]⟩) (ws [0, 1]) ?_
    rintro e v p g i
    show Hs a b e = some p → _
    unfold Hs
    refine Sq <|T0 [2, 3, 5, 7] ?_
    refine Cd ?_ ?_
    · refine Sk <|Tn <|Sq <|Sb <|?_
      refine Ck fun j => ?_
      have k := j; simp only [List.cons_append, List.nil_append, List.length_append, List.length_cons, List.length_nil, Nat.zero_add, Nat.reduceAdd] at k
      refine Bd fun w q => ?_
      refine Ck fun l => ?_
      have m := l; simp only [List.cons_append, List.nil_append, List.length_append, List.length_cons, List.length_nil, Nat.zero_add, Nat.reduceAdd] at m
      refine Bd fun x s => ?_
      refine De [[], [], [1], [0, 1, 2], [], [], [5], [0, 1, 2, 3, 4, 5, 6], [0, 1, 2, 3, 4, 5, 6, 7]] [2, 3, 5, 18] (o2 13 (Jt q) 17 (Jt s)) (Ev (by simp only [go_sem, qR j, k, qR l, m]; exact Ac)) ?_
      refine Cd ?_ ?_
      · refine T0 [4] ?_
        exact Sr <|Br <|Tr <|Lr i g <|Br <|Jr o <|Rr
      · refine Sk <|Bn <|Tn <|F0 [2, 3, 5] ?_
        exact Ln (ws [0, 1])
    · refine Sx <|Tx <|Lx i g <|Bx <|?_
      exact Jn ((ws (l' := [(2, .ref 0 0), (3, .ref 1 0)]) (σ' := [.box [i64 a.Kind, i64 a.Ref.Railway, i64 a.Ref.No, i64 a.Wagon, i64 a.Place, i64 a.Other, i64 a.Number, i64 a.From, i64 a.To, i64 a.Code, i64 a.Dest, i64 a.Class, i64 a.Weight, i64 a.Amount, .str a.Text, .sl false (L Ab a.Parts)] false, .box [i64 b.Kind, i64 b.Ref.Railway, i64 b.Ref.No, i64 b.Wagon, i64 b.Place, i64 b.Other, i64 b.Number, i64 b.From, i64 b.To, i64 b.Code, i64 b.Dest, i64 b.Class, i64 b.Weight, i64 b.Amount, .str b.Text, .sl false (L Ab b.Parts)] false]) [0, 1]).trans (ws [0, 1]))
  intro _
  refine Tw [4] (fun n => ⟨Ao 45 [(4, .bool n)], []⟩) ?_ ?_
  · intro _
    refine Sp (fun c => ?_) fun c => ?_
    · refine Sp (fun d => ?_) fun d => ?_
      · refine Sp (fun f => ?_) fun f => ?_
        · refine Bd fun y t => ?_
          exact Lf (o1 43 (Nf t)) (Ev (by simp only [go_sem, c, d, f]; exact Ac)) (ws [])
        · exact Lf Aa (Ev (by simp only [go_sem, c, d, f]; exact Ac)) (ws [])
      · exact Lf Aa (Ev (by simp only [go_sem, c, d]; exact Ac)) (ws [])
    · exact Lf Aa (Ev (by simp only [go_sem, c]; exact Ac)) (ws [])
  intro n
  exact Sr <|Rr
theorem Tm {c r} (h : G2 c = some r) : Con B 24 [.str c] [] (fun r' σ' => r' = .tup [.agg [i64 r.1.Kind, i64 r.1.Ref.Railway, i64 r.1.Ref.No, i64 r.1.Wagon, i64 r.1.Place, i64 r.1.Other, i64 r.1.Number, i64 r.1.From, i64 r.1.To, i64 r.1.Code, i64 r.1.Dest, i64 r.1.Class, i64 r.1.Weight, i64 r.1.Amount, .str r.1.Text, .sl false (L Ab r.1.Parts)], i64 r.2] ∧ σ' = []) := by
  refine Cw 57 [.cell 2 41, .tmp 3] Tryz.func24 (fun F hE => ?_) h
  unfold G2
  refine T0 [0, 2] ?_
  refine Sq <|T0 [0, 2, 10] ?_
  refine Cd ?_ ?_
  · refine T0 [2, 3] ?_
    exact Sr <|Tr <|Rr
  · refine Sk <|Tn <|Sq <|T0 [0, 2, 13] ?_
    refine Cd ?_ ?_
    · refine T0 [2, 3] ?_
      exact Sr <|Tr <|Rr
    · refine Sk <|Tn <|?_
      refine Ck fun ay => ?_
      refine Bd fun d az => ?_
      refine Te [0, 2, 4] (o1 20 (Mn az)) (Ev (by simp only [go_sem, ay]; exact Ac)) ?_
      refine T0 [0, 2, 4, 5] ?_
      refine Ja (fun ar => ⟨Ao 57 [(0, .str c), (2, .ref 0 0), (4, .sl false (L J6 d)), (5, .ref 1 0)], [.box [i64 0, i64 0, i64 0, i64 0, i64 0, i64 0, i64 0, i64 0, i64 0, i64 0, i64 0, i64 0, i64 0, i64 0, .str (([] : List UInt8)), .sl true (L Ab ([]))] false, .box [i64 ar, i64 0, i64 0, i64 0, i64 0, i64 0, i64 0, i64 0, i64 0, i64 0, i64 0, i64 0, i64 0, i64 0, .str (([] : List UInt8)), .sl true (L Ab ([]))] false]⟩) ?_ ?_
      · intro aM
        refine T0 [0, 2, 4, 5, 6] ?_
        refine Sb ?_
        refine Lo (fun (v : Int × Int) => (⟨Ao 57 [(0, .str c), (2, .ref 0 0), (4, .sl false (L J6 d)), (5, .ref 1 0), (6, i64 v.1)], [.box [i64 0, i64 0, i64 0, i64 0, i64 0, i64 0, i64 0, i64 0, i64 0, i64 0, i64 0, i64 0, i64 0, i64 0, .str (([] : List UInt8)), .sl true (L Ab ([]))] false, .box [i64 v.2, i64 0, i64 0, i64 0, i64 0, i64 0, i64 0, i64 0, i64 0, i64 0, i64 0, i64 0, i64 0, i64 0, .str (([] : List UInt8)), .sl true (L Ab ([]))] false]⟩ : St)) (ws [0, 1]) ?_
        rintro ⟨au, av⟩ aN aA aB aC
        show Bp d au av = some aA → _
        unfold Bp
        refine Sq <|T0 [0, 2, 4, 5, 6, 23] ?_
        refine Cd ?_ ?_
        · refine Sk <|Tn <|?_
          refine Ja (fun aw => ⟨Ao 57 [(0, .str c), (2, .ref 0 0), (4, .sl false (L J6 d)), (5, .ref 1 0), (6, i64 au)], [.box [i64 0, i64 0, i64 0, i64 0, i64 0, i64 0, i64 0, i64 0, i64 0, i64 0, i64 0, i64 0, i64 0, i64 0, .str (([] : List UInt8)), .sl true (L Ab ([]))] false, .box [i64 aw, i64 0, i64 0, i64 0, i64 0, i64 0, i64 0, i64 0, i64 0, i64 0, i64 0, i64 0, i64 0, i64 0, .str (([] : List UInt8)), .sl true (L Ab ([]))] false]⟩) ?_ ?_
          · intro aO
            refine Sb ?_
            refine Bd fun aP aD => ?_
            refine Ck fun aE => ?_
            refine De [[], [0], [], [2], [2, 3], [0, 1, 2, 3, 4]] [0, 2, 4, 5, 6, 31] (o1 27 (Ra aD)) (Ev (by simp only [go_sem, qL aE]; exact Ac)) ?_
            refine Cd ?_ ?_
            · refine F0 [0, 2, 4, 5, 6] ?_
              refine Bn ?_
              exact Jm (ws [0, 1])
            · refine Sk <|Bn <|?_
              exact Jm (ws [0, 1])
          intro aw
          refine F0 [0, 2, 4, 5, 6] ?_
          exact Ln (ws [0, 1])
        · refine Sx <|Tx <|Ly aC aB <|Bx <|?_
          exact Jm ((ws (l' := [(0, .str c), (2, .ref 0 0), (4, .sl false (L J6 d)), (5, .ref 1 0)]) (σ' := [.box [i64 0, i64 0, i64 0, i64 0, i64 0, i64 0, i64 0, i64 0, i64 0, i64 0, i64 0, i64 0, i64 0, i64 0, .str (([] : List UInt8)), .sl true (L Ab ([]))] false, .box [i64 av, i64 0, i64 0, i64 0, i64 0, i64 0, i64 0, i64 0, i64 0, i64 0, i64 0, i64 0, i64 0, i64 0, .str (([] : List UInt8)), .sl true (L Ab ([]))] false]) [0, 1]).trans (ws [0, 1]))
      intro ar
      refine Ja (fun ⟨aa, ab, ac, ad, ae, af, ag, ah, ai, aj, ak, al, am, an, ao, e⟩ => ⟨Ao 57 [(0, .str c), (2, .ref 0 0), (5, .ref 1 0)], [.box [i64 0, i64 0, i64 0, i64 0, i64 0, i64 0, i64 0, i64 0, i64 0, i64 0, i64 0, i64 0, i64 0, i64 0, .str (([] : List UInt8)), .sl true (L Ab ([]))] false, .box [i64 aa, i64 ab, i64 ac, i64 ad, i64 ae, i64 af, i64 ag, i64 ah, i64 ai, i64 aj, i64 ak, i64 al, i64 am, i64 an, .str ao, .bs false 2 (e.length) 0 (e.length)] false, .buf 3 (L Ab e) false]⟩) ?_ ?_
      · intro aQ
        refine T0 [0, 2, 4, 5, 7] ?_
        refine Sb ?_
        refine Lo (fun ⟨z, f, g, i, j, k, n, o, p, q, s, t, u, w, x, y, b⟩ => ⟨Ao 57 [(0, .str c), (2, .ref 0 0), (4, .sl false (L J6 d)), (5, .ref 1 0), (7, i64 z)], [.box [i64 0, i64 0, i64 0, i64 0, i64 0, i64 0, i64 0, i64 0, i64 0, i64 0, i64 0, i64 0, i64 0, i64 0, .str (([] : List UInt8)), .sl true (L Ab ([]))] false, .box [i64 f, i64 g, i64 i, i64 j, i64 k, i64 n, i64 o, i64 p, i64 q, i64 s, i64 t, i64 u, i64 w, i64 x, .str y, .bs false 2 (b.length) 0 (b.length)] false, .buf 3 (L Ab b) false]⟩) ((H1 1 15 3 rfl rfl).trans (ws [0, 1, 2])) ?_
        rintro ⟨z, f, g, i, j, k, n, o, p, q, s, t, u, w, x, y, b⟩ aR aF aG aH
        show E8 d z f g i j k n o p q s t u w x y b = some aF → _
        unfold E8
        refine Sq <|T0 [0, 2, 4, 5, 7, 37] ?_
        refine Cd ?_ ?_
        · refine Sk <|Tn <|Sq <|Sb <|?_
          refine Ck fun aI => ?_
          refine Bd fun a aJ => ?_
          refine Lt fun ap aK => ?_
          refine Ge (σ' := [_, .box [i64 a.Kind, i64 a.Ref.Railway, i64 a.Ref.No, i64 a.Wagon, i64 a.Place, i64 a.Other, i64 a.Number, i64 a.From, i64 a.To, i64 a.Code, i64 a.Dest, i64 a.Class, i64 a.Weight, i64 a.Amount, .str a.Text, .bs false 2 (ap.length) 0 (ap.length)] false, .buf 3 (L Ab ap) false]) [[], [], [], [1, 2], [1, 2, 3], [0, 1, 2, 3, 4], [0, 1, 2, 3, 4, 5]] [0, 2, 4, 5, 7] (Aj (l := []) (m := [(45, 71, [.agg [i64 f, i64 g, i64 i, i64 j, i64 k, i64 n, i64 o, i64 p, i64 q, i64 s, i64 t, i64 u, i64 w, i64 x, .str y, .bs false 2 (b.length) 0 (b.length)], .str (nth d z.toNat)], [.box [i64 0, i64 0, i64 0, i64 0, i64 0, i64 0, i64 0, i64 0, i64 0, i64 0, i64 0, i64 0, i64 0, i64 0, .str (([] : List UInt8)), .sl true (L Ab ([]))] false, .box [i64 f, i64 g, i64 i, i64 j, i64 k, i64 n, i64 o, i64 p, i64 q, i64 s, i64 t, i64 u, i64 w, i64 x, .str y, .bs false 2 (b.length) 0 (b.length)] false, .buf 3 (L Ab b) false], _, _)]) trivial ⟨(wc (P5 aJ) [2]), trivial⟩) (Ev (by simp only [go_sem, qR aI, aK]; exact Ac)) ?_
          refine Bn <|Tn <|F0 [0, 2, 4, 5, 7] ?_
          exact Ln (ws [0, 1, 2])
        · refine Sx <|Tx <|Ly aH aG <|Bx <|?_
          exact Jm ((ws (l' := [(0, .str c), (2, .ref 0 0), (5, .ref 1 0)]) (σ' := [.box [i64 0, i64 0, i64 0, i64 0, i64 0, i64 0, i64 0, i64 0, i64 0, i64 0, i64 0, i64 0, i64 0, i64 0, .str (([] : List UInt8)), .sl true (L Ab ([]))] false, .box [i64 f, i64 g, i64 i, i64 j, i64 k, i64 n, i64 o, i64 p, i64 q, i64 s, i64 t, i64 u, i64 w, i64 x, .str y, .bs false 2 (b.length) 0 (b.length)] false, .buf 3 (L Ab b) false]) [0, 1, 2]).trans (ws [0, 1, 2]))
      rintro ⟨aa, ab, ac, ad, ae, af, ag, ah, ai, aj, ak, al, am, an, ao, e⟩
      refine Sq ?_
      refine Tw [2, 5, 54] (fun ax => ⟨Ao 57 [(2, .ref 0 0), (5, .ref 1 0), (54, .bool ax)], [.box [i64 0, i64 0, i64 0, i64 0, i64 0, i64 0, i64 0, i64 0, i64 0, i64 0, i64 0, i64 0, i64 0, i64 0, .str (([] : List UInt8)), .sl true (L Ab ([]))] false, .box [i64 aa, i64 ab, i64 ac, i64 ad, i64 ae, i64 af, i64 ag, i64 ah, i64 ai, i64 aj, i64 ak, i64 al, i64 am, i64 an, .str ao, .bs false 2 (e.length) 0 (e.length)] false, .buf 3 (L Ab e) false]⟩) ?_ ?_
      · intro _
        refine Sp (fun aq => ?_) fun aq => ?_
        · exact Lf Aa (Ev (by simp only [go_sem, aq]; exact Ac)) (ws [0, 1, 2])
        · refine Bd fun aS aL => ?_
          exact Lf (o1 51 (Qi aL)) (Ev (by simp only [go_sem, aq]; exact Ac)) (ws [0, 1, 2])
      intro ax
      refine Cd ?_ ?_
      · refine T0 [2, 3] ?_
        exact Sr <|Tr <|Rr
      · refine Sk <|Tn <|T0 [2, 3] ?_
        exact Sr <|Rr
end Go.Proofs.YtnfoiocigicdnaaGreatDoor
