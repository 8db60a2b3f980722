/-
  Part 41.
-/
import Derived.Test.YtnfoiocigicdnaaGreatDoorYA39
import Derived.Test.YtnfoiocigicdnaaGreatDoorYA40
import Derived.KernelRfl
namespace Go.Proofs.YtnfoiocigicdnaaGreatDoor
open Go.Rv
set_option linter.unusedVariables false
set_option linter.unusedSimpArgs false
set_option maxRecDepth 20000
set_option maxHeartbeats 4000000
theorem Uo {a t r} (h : Sj a t = some r) : Con B 68 [.ref 0 0, .str t] [.box [i64 a.Kind, i64 a.Ref.Railway, i64 a.Ref.No, i64 a.Wagon, i64 a.Place, i64 a.Other, i64 a.Number, i64 a.From, i64 a.To, i64 a.Code, i64 a.Dest, i64 a.Class, i64 a.Weight, i64 a.Amount, .str a.Text, .bs false 1 (a.Parts.length) 0 (a.Parts.length)] false, .buf 3 (L Ab a.Parts) false] (fun r' σ' => r' = .bool r.1 ∧ σ' = [.box [i64 r.2.Kind, i64 r.2.Ref.Railway, i64 r.2.Ref.No, i64 r.2.Wagon, i64 r.2.Place, i64 r.2.Other, i64 r.2.Number, i64 r.2.From, i64 r.2.To, i64 r.2.Code, i64 r.2.Dest, i64 r.2.Class, i64 r.2.Weight, i64 r.2.Amount, .str r.2.Text, .bs false 1 (r.2.Parts.length) 0 (r.2.Parts.length)] false, .buf 3 (L Ab r.2.Parts) false]) := by
  refine Co 2 96 [.tmp 4] Tryz.func68 (fun F hE => ?_) h
  unfold Sj
  refine Te [0, 1, 4] Aa (Ev (by simp only [go_sem, Ae, Int.reduceLT, Int.reduceAdd, Int.reduceSub, Nat.reduceMul, Nat.reduceGT, Nat.reduceLeDiff, decide_true, decide_false, Bool.false_eq_true, Int.reduceBEq, Int.reduceGT, Int.reduceLE, Int.reduceGE, beq_self_eq_true]; exact Ac)) ?_
  refine Sq ?_
  refine Te [0, 1, 4, 8] Aa (Ev (by simp only [go_sem, Ae, Int.reduceLT, Int.reduceAdd, Int.reduceSub, Nat.reduceMul, Nat.reduceGT, Nat.reduceLeDiff, decide_true, decide_false, Bool.false_eq_true, Int.reduceBEq, Int.reduceGT, Int.reduceLE, Int.reduceGE, beq_self_eq_true]; exact Ac)) ?_
  refine Cd ?_ ?_
  · refine Te [4] Aa (Ev (by simp only [go_sem, Ae, Int.reduceLT, Int.reduceAdd, Int.reduceSub, Nat.reduceMul, Nat.reduceGT, Nat.reduceLeDiff, decide_true, decide_false, Bool.false_eq_true, Int.reduceBEq, Int.reduceGT, Int.reduceLE, Int.reduceGE, beq_self_eq_true]; exact Ac)) ?_
    exact Sr <|Tr <|Ro [0, 1]
  · refine Sk <|Tn <|?_
    refine Te [0, 1, 4] Aa (Ev (by simp only [go_sem, Ae, Int.reduceLT, Int.reduceAdd, Int.reduceSub, Nat.reduceMul, Nat.reduceGT, Nat.reduceLeDiff, decide_true, decide_false, Bool.false_eq_true, Int.reduceBEq, Int.reduceGT, Int.reduceLE, Int.reduceGE, beq_self_eq_true]; exact Ac)) ?_
    refine Ja (fun ⟨u, v, w, x, y, z, aa, ab, ac, ad, ae, af, ag, ah, ai, c⟩ => ⟨As 96 [(4, .bool u)], [.box [i64 a.Kind, i64 v, i64 w, i64 x, i64 y, i64 z, i64 aa, i64 ab, i64 ac, i64 ad, i64 ae, i64 af, i64 ag, i64 ah, .str ai, .bs false 1 (c.length) 0 (c.length)] false, .buf 3 (L Ab c) false]⟩) ?_ ?_
    · intro bB
      refine Ck fun aH => ?_
      refine Bd fun bC aI => ?_
      refine Lt fun b aJ => ?_
      refine Te (fr' := [(0, _), (1, _), (4, _), (6, i64 b)]) [0, 1, 4, 6] (o1 11 (Ji aI)) (Ev (by simp only [go_sem, Ae, Int.reduceLT, Int.reduceAdd, Int.reduceSub, Nat.reduceMul, Nat.reduceGT, Nat.reduceLeDiff, decide_true, decide_false, Bool.false_eq_true, Int.reduceBEq, Int.reduceGT, Int.reduceLE, Int.reduceGE, beq_self_eq_true, qL aH, aJ]; exact Ac)) ?_
      refine Sp (fun aj => ?_) fun aj => ?_
      · obtain rfl : b = 0 := eq_of_beq aj
        refine Sb ?_
        refine Te [0, 1, 4, 6, 12] Aa (Ev (by simp only [go_sem, Ae, Int.reduceLT, Int.reduceAdd, Int.reduceSub, Nat.reduceMul, Nat.reduceGT, Nat.reduceLeDiff, decide_true, decide_false, Bool.false_eq_true, Int.reduceBEq, Int.reduceGT, Int.reduceLE, Int.reduceGE, beq_self_eq_true]; exact Ac)) ?_
        refine Ct ?_
        refine Ck fun aK => ?_
        refine Bd fun d aL => ?_
        refine Te [0, 4, 5, 6] (o1 18 (A3 aL)) (Ev (by simp only [go_sem, Ae, Int.reduceLT, Int.reduceAdd, Int.reduceSub, Nat.reduceMul, Nat.reduceGT, Nat.reduceLeDiff, decide_true, decide_false, Bool.false_eq_true, Int.reduceBEq, Int.reduceGT, Int.reduceLE, Int.reduceGE, beq_self_eq_true, aK]; exact Ac)) ?_
        refine Te [0, 4, 5, 6, 21] Aa (Ev (by simp only [go_sem, Ae, Int.reduceLT, Int.reduceAdd, Int.reduceSub, Nat.reduceMul, Nat.reduceGT, Nat.reduceLeDiff, decide_true, decide_false, Bool.false_eq_true, Int.reduceBEq, Int.reduceGT, Int.reduceLE, Int.reduceGE, beq_self_eq_true]; exact Ac)) ?_
        refine Cd ?_ ?_
        · have ak : InR 0 11 := by decide
          refine Ck fun aM => ?_
          intro h
          refine Cv hE mixed [[], [0], [], [0, 1, 2], [], [4], [4, 5], [0, 1, 2, 3, 4, 5, 6], [0, 1, 2, 3, 4, 5, 6, 7]] (by kernel_rfl) [26, 27] [4, 26, 27] (by kernel_rfl) (Cr Dy) (fr' := [(4, .bool d.2), (26, .sl false (L L1 d.1)), (27, .rp [i64 (nth d.1 0)])]) (σ' := [.box [i64 a.Kind, i64 a.Ref.Railway, i64 a.Ref.No, i64 (nth d.1 0), i64 a.Place, i64 a.Other, i64 a.Number, i64 a.From, i64 a.To, i64 a.Code, i64 a.Dest, i64 a.Class, i64 a.Weight, i64 a.Amount, .str a.Text, .bs false 1 (a.Parts.length) 0 (a.Parts.length)] false, .buf 3 (L Ab a.Parts) false]) ⟨rfl, rfl, trivial⟩ ⟨_, (Aj (l := []) (m := [(23, 51, [.ref 0 0], [.box [i64 a.Kind, i64 a.Ref.Railway, i64 a.Ref.No, i64 a.Wagon, i64 a.Place, i64 a.Other, i64 a.Number, i64 a.From, i64 a.To, i64 a.Code, i64 a.Dest, i64 a.Class, i64 a.Weight, i64 a.Amount, .str a.Text, .bs false 1 (a.Parts.length) 0 (a.Parts.length)] false, .buf 3 (L Ab a.Parts) false], .agg [.ref 0 3, .ref 0 4, .ref 0 5, .ref 0 6, .ref 0 7, .ref 0 8, .ref 0 9, .ref 0 10, .ref 0 11, .ref 0 12, .ref 0 13], [.box [i64 a.Kind, i64 a.Ref.Railway, i64 a.Ref.No, i64 a.Wagon, i64 a.Place, i64 a.Other, i64 a.Number, i64 a.From, i64 a.To, i64 a.Code, i64 a.Dest, i64 a.Class, i64 a.Weight, i64 a.Amount, .str a.Text, .bs false 1 (a.Parts.length) 0 (a.Parts.length)] false, .buf 3 (L Ab a.Parts) false])]) trivial ⟨A1, trivial⟩), ?_⟩ ?_
          · simp only [go_sem, Ae, Int.reduceLT, Int.reduceAdd, Int.reduceSub, Nat.reduceMul, Nat.reduceGT, Nat.reduceLeDiff, decide_true, decide_false, Bool.false_eq_true, Int.reduceBEq, Int.reduceGT, Int.reduceLE, Int.reduceGE, beq_self_eq_true, ak, ak.2, qL aM]
          revert h
          refine Bn ?_
          exact Jm (ws [0, 1])
        · refine Sk <|Bn <|?_
          exact Jm (ws [0, 1])
      · skip
        refine Sp (fun al => ?_) fun al => ?_
        · obtain rfl : b = 1 := eq_of_beq al
          refine Sb ?_
          refine Te [0, 1, 4, 6, 12] Aa (Ev (by simp only [go_sem, Ae, Int.reduceLT, Int.reduceAdd, Int.reduceSub, Nat.reduceMul, Nat.reduceGT, Nat.reduceLeDiff, decide_true, decide_false, Bool.false_eq_true, Int.reduceBEq, Int.reduceGT, Int.reduceLE, Int.reduceGE, beq_self_eq_true]; exact Ac)) ?_
          refine Ct ?_
          refine Ck fun aN => ?_
          refine Bd fun e aO => ?_
          refine Te [0, 4, 5, 6] (o1 18 (A3 aO)) (Ev (by simp only [go_sem, Ae, Int.reduceLT, Int.reduceAdd, Int.reduceSub, Nat.reduceMul, Nat.reduceGT, Nat.reduceLeDiff, decide_true, decide_false, Bool.false_eq_true, Int.reduceBEq, Int.reduceGT, Int.reduceLE, Int.reduceGE, beq_self_eq_true, aN]; exact Ac)) ?_
          refine Te [0, 4, 5, 6, 21] Aa (Ev (by simp only [go_sem, Ae, Int.reduceLT, Int.reduceAdd, Int.reduceSub, Nat.reduceMul, Nat.reduceGT, Nat.reduceLeDiff, decide_true, decide_false, Bool.false_eq_true, Int.reduceBEq, Int.reduceGT, Int.reduceLE, Int.reduceGE, beq_self_eq_true]; exact Ac)) ?_
          refine Cd ?_ ?_
          · have am : InR 1 11 := by decide
            refine Ck fun aP => ?_
            intro h
            refine Cv hE mixed [[], [0], [], [0, 1, 2], [], [4], [4, 5], [0, 1, 2, 3, 4, 5, 6], [0, 1, 2, 3, 4, 5, 6, 7]] (by kernel_rfl) [26, 27] [4, 26, 27] (by kernel_rfl) (Cr Dy) (fr' := [(4, .bool e.2), (26, .sl false (L L1 e.1)), (27, .rp [i64 (nth e.1 0)])]) (σ' := [.box [i64 a.Kind, i64 a.Ref.Railway, i64 a.Ref.No, i64 a.Wagon, i64 (nth e.1 0), i64 a.Other, i64 a.Number, i64 a.From, i64 a.To, i64 a.Code, i64 a.Dest, i64 a.Class, i64 a.Weight, i64 a.Amount, .str a.Text, .bs false 1 (a.Parts.length) 0 (a.Parts.length)] false, .buf 3 (L Ab a.Parts) false]) ⟨rfl, rfl, trivial⟩ ⟨_, (Aj (l := []) (m := [(23, 51, [.ref 0 0], [.box [i64 a.Kind, i64 a.Ref.Railway, i64 a.Ref.No, i64 a.Wagon, i64 a.Place, i64 a.Other, i64 a.Number, i64 a.From, i64 a.To, i64 a.Code, i64 a.Dest, i64 a.Class, i64 a.Weight, i64 a.Amount, .str a.Text, .bs false 1 (a.Parts.length) 0 (a.Parts.length)] false, .buf 3 (L Ab a.Parts) false], .agg [.ref 0 3, .ref 0 4, .ref 0 5, .ref 0 6, .ref 0 7, .ref 0 8, .ref 0 9, .ref 0 10, .ref 0 11, .ref 0 12, .ref 0 13], [.box [i64 a.Kind, i64 a.Ref.Railway, i64 a.Ref.No, i64 a.Wagon, i64 a.Place, i64 a.Other, i64 a.Number, i64 a.From, i64 a.To, i64 a.Code, i64 a.Dest, i64 a.Class, i64 a.Weight, i64 a.Amount, .str a.Text, .bs false 1 (a.Parts.length) 0 (a.Parts.length)] false, .buf 3 (L Ab a.Parts) false])]) trivial ⟨A1, trivial⟩), ?_⟩ ?_
            · simp only [go_sem, Ae, Int.reduceLT, Int.reduceAdd, Int.reduceSub, Nat.reduceMul, Nat.reduceGT, Nat.reduceLeDiff, decide_true, decide_false, Bool.false_eq_true, Int.reduceBEq, Int.reduceGT, Int.reduceLE, Int.reduceGE, beq_self_eq_true, am, am.2, qL aP]
            revert h
            refine Bn ?_
            exact Jm (ws [0, 1])
          · refine Sk <|Bn <|?_
            exact Jm (ws [0, 1])
        · skip
          refine Sp (fun an => ?_) fun an => ?_
          · obtain rfl : b = 2 := eq_of_beq an
            refine Sb ?_
            refine Te [0, 1, 4, 6, 12] Aa (Ev (by simp only [go_sem, Ae, Int.reduceLT, Int.reduceAdd, Int.reduceSub, Nat.reduceMul, Nat.reduceGT, Nat.reduceLeDiff, decide_true, decide_false, Bool.false_eq_true, Int.reduceBEq, Int.reduceGT, Int.reduceLE, Int.reduceGE, beq_self_eq_true]; exact Ac)) ?_
            refine Ct ?_
            refine Ck fun aQ => ?_
            refine Bd fun f aR => ?_
            refine Te [0, 4, 5, 6] (o1 18 (A3 aR)) (Ev (by simp only [go_sem, Ae, Int.reduceLT, Int.reduceAdd, Int.reduceSub, Nat.reduceMul, Nat.reduceGT, Nat.reduceLeDiff, decide_true, decide_false, Bool.false_eq_true, Int.reduceBEq, Int.reduceGT, Int.reduceLE, Int.reduceGE, beq_self_eq_true, aQ]; exact Ac)) ?_
            refine Te [0, 4, 5, 6, 21] Aa (Ev (by simp only [go_sem, Ae, Int.reduceLT, Int.reduceAdd, Int.reduceSub, Nat.reduceMul, Nat.reduceGT, Nat.reduceLeDiff, decide_true, decide_false, Bool.false_eq_true, Int.reduceBEq, Int.reduceGT, Int.reduceLE, Int.reduceGE, beq_self_eq_true]; exact Ac)) ?_
            refine Cd ?_ ?_
            · have ao : InR 2 11 := by decide
              refine Ck fun aS => ?_
              intro h
              refine Cv hE mixed [[], [0], [], [0, 1, 2], [], [4], [4, 5], [0, 1, 2, 3, 4, 5, 6], [0, 1, 2, 3, 4, 5, 6, 7]] (by kernel_rfl) [26, 27] [4, 26, 27] (by kernel_rfl) (Cr Dy) (fr' := [(4, .bool f.2), (26, .sl false (L L1 f.1)), (27, .rp [i64 (nth f.1 0)])]) (σ' := [.box [i64 a.Kind, i64 a.Ref.Railway, i64 a.Ref.No, i64 a.Wagon, i64 a.Place, i64 (nth f.1 0), i64 a.Number, i64 a.From, i64 a.To, i64 a.Code, i64 a.Dest, i64 a.Class, i64 a.Weight, i64 a.Amount, .str a.Text, .bs false 1 (a.Parts.length) 0 (a.Parts.length)] false, .buf 3 (L Ab a.Parts) false]) ⟨rfl, rfl, trivial⟩ ⟨_, (Aj (l := []) (m := [(23, 51, [.ref 0 0], [.box [i64 a.Kind, i64 a.Ref.Railway, i64 a.Ref.No, i64 a.Wagon, i64 a.Place, i64 a.Other, i64 a.Number, i64 a.From, i64 a.To, i64 a.Code, i64 a.Dest, i64 a.Class, i64 a.Weight, i64 a.Amount, .str a.Text, .bs false 1 (a.Parts.length) 0 (a.Parts.length)] false, .buf 3 (L Ab a.Parts) false], .agg [.ref 0 3, .ref 0 4, .ref 0 5, .ref 0 6, .ref 0 7, .ref 0 8, .ref 0 9, .ref 0 10, .ref 0 11, .ref 0 12, .ref 0 13], [.box [i64 a.Kind, i64 a.Ref.Railway, i64 a.Ref.No, i64 a.Wagon, i64 a.Place, i64 a.Other, i64 a.Number, i64 a.From, i64 a.To, i64 a.Code, i64 a.Dest, i64 a.Class, i64 a.Weight, i64 a.Amount, .str a.Text, .bs false 1 (a.Parts.length) 0 (a.Parts.length)] false, .buf 3 (L Ab a.Parts) false])]) trivial ⟨A1, trivial⟩), ?_⟩ ?_
              · simp only [go_sem, Ae, Int.reduceLT, Int.reduceAdd, Int.reduceSub, Nat.reduceMul, Nat.reduceGT, Nat.reduceLeDiff, decide_true, decide_false, Bool.false_eq_true, Int.reduceBEq, Int.reduceGT, Int.reduceLE, Int.reduceGE, beq_self_eq_true, ao, ao.2, qL aS]
              revert h
              refine Bn ?_
              exact Jm (ws [0, 1])
            · refine Sk <|Bn <|?_
              exact Jm (ws [0, 1])
          · skip
            refine Sp (fun ap => ?_) fun ap => ?_
            · obtain rfl : b = 3 := eq_of_beq ap
              refine Sb ?_
              refine Te [0, 1, 4, 6, 12] Aa (Ev (by simp only [go_sem, Ae, Int.reduceLT, Int.reduceAdd, Int.reduceSub, Nat.reduceMul, Nat.reduceGT, Nat.reduceLeDiff, decide_true, decide_false, Bool.false_eq_true, Int.reduceBEq, Int.reduceGT, Int.reduceLE, Int.reduceGE, beq_self_eq_true]; exact Ac)) ?_
              refine Ct ?_
              refine Ck fun aT => ?_
              refine Bd fun g aU => ?_
              refine Te [0, 4, 5, 6] (o1 18 (A3 aU)) (Ev (by simp only [go_sem, Ae, Int.reduceLT, Int.reduceAdd, Int.reduceSub, Nat.reduceMul, Nat.reduceGT, Nat.reduceLeDiff, decide_true, decide_false, Bool.false_eq_true, Int.reduceBEq, Int.reduceGT, Int.reduceLE, Int.reduceGE, beq_self_eq_true, aT]; exact Ac)) ?_
              refine Te [0, 4, 5, 6, 21] Aa (Ev (by simp only [go_sem, Ae, Int.reduceLT, Int.reduceAdd, Int.reduceSub, Nat.reduceMul, Nat.reduceGT, Nat.reduceLeDiff, decide_true, decide_false, Bool.false_eq_true, Int.reduceBEq, Int.reduceGT, Int.reduceLE, Int.reduceGE, beq_self_eq_true]; exact Ac)) ?_
              refine Cd ?_ ?_
              · have aq : InR 3 11 := by decide
                refine Ck fun aV => ?_
                intro h
                refine Cv hE mixed [[], [0], [], [0, 1, 2], [], [4], [4, 5], [0, 1, 2, 3, 4, 5, 6], [0, 1, 2, 3, 4, 5, 6, 7]] (by kernel_rfl) [26, 27] [4, 26, 27] (by kernel_rfl) (Cr Dy) (fr' := [(4, .bool g.2), (26, .sl false (L L1 g.1)), (27, .rp [i64 (nth g.1 0)])]) (σ' := [.box [i64 a.Kind, i64 a.Ref.Railway, i64 a.Ref.No, i64 a.Wagon, i64 a.Place, i64 a.Other, i64 (nth g.1 0), i64 a.From, i64 a.To, i64 a.Code, i64 a.Dest, i64 a.Class, i64 a.Weight, i64 a.Amount, .str a.Text, .bs false 1 (a.Parts.length) 0 (a.Parts.length)] false, .buf 3 (L Ab a.Parts) false]) ⟨rfl, rfl, trivial⟩ ⟨_, (Aj (l := []) (m := [(23, 51, [.ref 0 0], [.box [i64 a.Kind, i64 a.Ref.Railway, i64 a.Ref.No, i64 a.Wagon, i64 a.Place, i64 a.Other, i64 a.Number, i64 a.From, i64 a.To, i64 a.Code, i64 a.Dest, i64 a.Class, i64 a.Weight, i64 a.Amount, .str a.Text, .bs false 1 (a.Parts.length) 0 (a.Parts.length)] false, .buf 3 (L Ab a.Parts) false], .agg [.ref 0 3, .ref 0 4, .ref 0 5, .ref 0 6, .ref 0 7, .ref 0 8, .ref 0 9, .ref 0 10, .ref 0 11, .ref 0 12, .ref 0 13], [.box [i64 a.Kind, i64 a.Ref.Railway, i64 a.Ref.No, i64 a.Wagon, i64 a.Place, i64 a.Other, i64 a.Number, i64 a.From, i64 a.To, i64 a.Code, i64 a.Dest, i64 a.Class, i64 a.Weight, i64 a.Amount, .str a.Text, .bs false 1 (a.Parts.length) 0 (a.Parts.length)] false, .buf 3 (L Ab a.Parts) false])]) trivial ⟨A1, trivial⟩), ?_⟩ ?_
                · simp only [go_sem, Ae, Int.reduceLT, Int.reduceAdd, Int.reduceSub, Nat.reduceMul, Nat.reduceGT, Nat.reduceLeDiff, decide_true, decide_false, Bool.false_eq_true, Int.reduceBEq, Int.reduceGT, Int.reduceLE, Int.reduceGE, beq_self_eq_true, aq, aq.2, qL aV]
                revert h
                refine Bn ?_
                exact Jm (ws [0, 1])
              · refine Sk <|Bn <|?_
                exact Jm (ws [0, 1])
            · skip
              refine Sp (fun ar => ?_) fun ar => ?_
              · obtain rfl : b = 4 := eq_of_beq ar
                refine Sb ?_
                refine Te [0, 1, 4, 6, 12] Aa (Ev (by simp only [go_sem, Ae, Int.reduceLT, Int.reduceAdd, Int.reduceSub, Nat.reduceMul, Nat.reduceGT, Nat.reduceLeDiff, decide_true, decide_false, Bool.false_eq_true, Int.reduceBEq, Int.reduceGT, Int.reduceLE, Int.reduceGE, beq_self_eq_true]; exact Ac)) ?_
                refine Ct ?_
                refine Ck fun aW => ?_
                refine Bd fun i aX => ?_
                refine Te [0, 4, 5, 6] (o1 18 (A3 aX)) (Ev (by simp only [go_sem, Ae, Int.reduceLT, Int.reduceAdd, Int.reduceSub, Nat.reduceMul, Nat.reduceGT, Nat.reduceLeDiff, decide_true, decide_false, Bool.false_eq_true, Int.reduceBEq, Int.reduceGT, Int.reduceLE, Int.reduceGE, beq_self_eq_true, aW]; exact Ac)) ?_
                refine Te [0, 4, 5, 6, 21] Aa (Ev (by simp only [go_sem, Ae, Int.reduceLT, Int.reduceAdd, Int.reduceSub, Nat.reduceMul, Nat.reduceGT, Nat.reduceLeDiff, decide_true, decide_false, Bool.false_eq_true, Int.reduceBEq, Int.reduceGT, Int.reduceLE, Int.reduceGE, beq_self_eq_true]; exact Ac)) ?_
                refine Cd ?_ ?_
                · have au : InR 4 11 := by decide
                  refine Ck fun aY => ?_
                  intro h
                  refine Cv hE mixed [[], [0], [], [0, 1, 2], [], [4], [4, 5], [0, 1, 2, 3, 4, 5, 6], [0, 1, 2, 3, 4, 5, 6, 7]] (by kernel_rfl) [26, 27] [4, 26, 27] (by kernel_rfl) (Cr Dy) (fr' := [(4, .bool i.2), (26, .sl false (L L1 i.1)), (27, .rp [i64 (nth i.1 0)])]) (σ' := [.box [i64 a.Kind, i64 a.Ref.Railway, i64 a.Ref.No, i64 a.Wagon, i64 a.Place, i64 a.Other, i64 a.Number, i64 (nth i.1 0), i64 a.To, i64 a.Code, i64 a.Dest, i64 a.Class, i64 a.Weight, i64 a.Amount, .str a.Text, .bs false 1 (a.Parts.length) 0 (a.Parts.length)] false, .buf 3 (L Ab a.Parts) false]) ⟨rfl, rfl, trivial⟩ ⟨_, (Aj (l := []) (m := [(23, 51, [.ref 0 0], [.box [i64 a.Kind, i64 a.Ref.Railway, i64 a.Ref.No, i64 a.Wagon, i64 a.Place, i64 a.Other, i64 a.Number, i64 a.From, i64 a.To, i64 a.Code, i64 a.Dest, i64 a.Class, i64 a.Weight, i64 a.Amount, .str a.Text, .bs false 1 (a.Parts.length) 0 (a.Parts.length)] false, .buf 3 (L Ab a.Parts) false], .agg [.ref 0 3, .ref 0 4, .ref 0 5, .ref 0 6, .ref 0 7, .ref 0 8, .ref 0 9, .ref 0 10, .ref 0 11, .ref 0 12, .ref 0 13], [.box [i64 a.Kind, i64 a.Ref.Railway, i64 a.Ref.No, i64 a.Wagon, i64 a.Place, i64 a.Other, i64 a.Number, i64 a.From, i64 a.To, i64 a.Code, i64 a.Dest, i64 a.Class, i64 a.Weight, i64 a.Amount, .str a.Text, .bs false 1 (a.Parts.length) 0 (a.Parts.length)] false, .buf 3 (L Ab a.Parts) false])]) trivial ⟨A1, trivial⟩), ?_⟩ ?_
                  · simp only [go_sem, Ae, Int.reduceLT, Int.reduceAdd, Int.reduceSub, Nat.reduceMul, Nat.reduceGT, Nat.reduceLeDiff, decide_true, decide_false, Bool.false_eq_true, Int.reduceBEq, Int.reduceGT, Int.reduceLE, Int.reduceGE, beq_self_eq_true, au, au.2, qL aY]
                  revert h
                  refine Bn ?_
                  exact Jm (ws [0, 1])
                · refine Sk <|Bn <|?_
                  exact Jm (ws [0, 1])
              · skip
                refine Sp (fun av => ?_) fun av => ?_
                · obtain rfl : b = 5 := eq_of_beq av
                  refine Sb ?_
                  refine Te [0, 1, 4, 6, 12] Aa (Ev (by simp only [go_sem, Ae, Int.reduceLT, Int.reduceAdd, Int.reduceSub, Nat.reduceMul, Nat.reduceGT, Nat.reduceLeDiff, decide_true, decide_false, Bool.false_eq_true, Int.reduceBEq, Int.reduceGT, Int.reduceLE, Int.reduceGE, beq_self_eq_true]; exact Ac)) ?_
                  refine Ct ?_
                  refine Ck fun aZ => ?_
                  refine Bd fun j a0 => ?_
                  refine Te [0, 4, 5, 6] (o1 18 (A3 a0)) (Ev (by simp only [go_sem, Ae, Int.reduceLT, Int.reduceAdd, Int.reduceSub, Nat.reduceMul, Nat.reduceGT, Nat.reduceLeDiff, decide_true, decide_false, Bool.false_eq_true, Int.reduceBEq, Int.reduceGT, Int.reduceLE, Int.reduceGE, beq_self_eq_true, aZ]; exact Ac)) ?_
                  refine Te [0, 4, 5, 6, 21] Aa (Ev (by simp only [go_sem, Ae, Int.reduceLT, Int.reduceAdd, Int.reduceSub, Nat.reduceMul, Nat.reduceGT, Nat.reduceLeDiff, decide_true, decide_false, Bool.false_eq_true, Int.reduceBEq, Int.reduceGT, Int.reduceLE, Int.reduceGE, beq_self_eq_true]; exact Ac)) ?_
                  refine Cd ?_ ?_
                  · have aw : InR 5 11 := by decide
                    refine Ck fun a1 => ?_
                    intro h
                    refine Cv hE mixed [[], [0], [], [0, 1, 2], [], [4], [4, 5], [0, 1, 2, 3, 4, 5, 6], [0, 1, 2, 3, 4, 5, 6, 7]] (by kernel_rfl) [26, 27] [4, 26, 27] (by kernel_rfl) (Cr Dy) (fr' := [(4, .bool j.2), (26, .sl false (L L1 j.1)), (27, .rp [i64 (nth j.1 0)])]) (σ' := [.box [i64 a.Kind, i64 a.Ref.Railway, i64 a.Ref.No, i64 a.Wagon, i64 a.Place, i64 a.Other, i64 a.Number, i64 a.From, i64 (nth j.1 0), i64 a.Code, i64 a.Dest, i64 a.Class, i64 a.Weight, i64 a.Amount, .str a.Text, .bs false 1 (a.Parts.length) 0 (a.Parts.length)] false, .buf 3 (L Ab a.Parts) false]) ⟨rfl, rfl, trivial⟩ ⟨_, (Aj (l := []) (m := [(23, 51, [.ref 0 0], [.box [i64 a.Kind, i64 a.Ref.Railway, i64 a.Ref.No, i64 a.Wagon, i64 a.Place, i64 a.Other, i64 a.Number, i64 a.From, i64 a.To, i64 a.Code, i64 a.Dest, i64 a.Class, i64 a.Weight, i64 a.Amount, .str a.Text, .bs false 1 (a.Parts.length) 0 (a.Parts.length)] false, .buf 3 (L Ab a.Parts) false], .agg [.ref 0 3, .ref 0 4, .ref 0 5, .ref 0 6, .ref 0 7, .ref 0 8, .ref 0 9, .ref 0 10, .ref 0 11, .ref 0 12, .ref 0 13], [.box [i64 a.Kind, i64 a.Ref.Railway, i64 a.Ref.No, i64 a.Wagon, i64 a.Place, i64 a.Other, i64 a.Number, i64 a.From, i64 a.To, i64 a.Code, i64 a.Dest, i64 a.Class, i64 a.Weight, i64 a.Amount, .str a.Text, .bs false 1 (a.Parts.length) 0 (a.Parts.length)] false, .buf 3 (L Ab a.Parts) false])]) trivial ⟨A1, trivial⟩), ?_⟩ ?_
                    · simp only [go_sem, Ae, Int.reduceLT, Int.reduceAdd, Int.reduceSub, Nat.reduceMul, Nat.reduceGT, Nat.reduceLeDiff, decide_true, decide_false, Bool.false_eq_true, Int.reduceBEq, Int.reduceGT, Int.reduceLE, Int.reduceGE, beq_self_eq_true, aw, aw.2, qL a1]
                    revert h
                    refine Bn ?_
                    exact Jm (ws [0, 1])
                  · refine Sk <|Bn <|?_
                    exact Jm (ws [0, 1])
                · skip
                  refine Sp (fun ax => ?_) fun ax => ?_
                  · obtain rfl : b = 6 := eq_of_beq ax
                    refine Sb ?_
                    refine Te [0, 1, 4, 6, 12] Aa (Ev (by simp only [go_sem, Ae, Int.reduceLT, Int.reduceAdd, Int.reduceSub, Nat.reduceMul, Nat.reduceGT, Nat.reduceLeDiff, decide_true, decide_false, Bool.false_eq_true, Int.reduceBEq, Int.reduceGT, Int.reduceLE, Int.reduceGE, beq_self_eq_true]; exact Ac)) ?_
                    refine Ct ?_
                    refine Ck fun a2 => ?_
                    refine Bd fun k a3 => ?_
                    refine Te [0, 4, 5, 6] (o1 18 (A3 a3)) (Ev (by simp only [go_sem, Ae, Int.reduceLT, Int.reduceAdd, Int.reduceSub, Nat.reduceMul, Nat.reduceGT, Nat.reduceLeDiff, decide_true, decide_false, Bool.false_eq_true, Int.reduceBEq, Int.reduceGT, Int.reduceLE, Int.reduceGE, beq_self_eq_true, a2]; exact Ac)) ?_
                    refine Te [0, 4, 5, 6, 21] Aa (Ev (by simp only [go_sem, Ae, Int.reduceLT, Int.reduceAdd, Int.reduceSub, Nat.reduceMul, Nat.reduceGT, Nat.reduceLeDiff, decide_true, decide_false, Bool.false_eq_true, Int.reduceBEq, Int.reduceGT, Int.reduceLE, Int.reduceGE, beq_self_eq_true]; exact Ac)) ?_
                    refine Cd ?_ ?_
                    · have ay : InR 6 11 := by decide
                      refine Ck fun a4 => ?_
                      intro h
                      refine Cv hE mixed [[], [0], [], [0, 1, 2], [], [4], [4, 5], [0, 1, 2, 3, 4, 5, 6], [0, 1, 2, 3, 4, 5, 6, 7]] (by kernel_rfl) [26, 27] [4, 26, 27] (by kernel_rfl) (Cr Dy) (fr' := [(4, .bool k.2), (26, .sl false (L L1 k.1)), (27, .rp [i64 (nth k.1 0)])]) (σ' := [.box [i64 a.Kind, i64 a.Ref.Railway, i64 a.Ref.No, i64 a.Wagon, i64 a.Place, i64 a.Other, i64 a.Number, i64 a.From, i64 a.To, i64 (nth k.1 0), i64 a.Dest, i64 a.Class, i64 a.Weight, i64 a.Amount, .str a.Text, .bs false 1 (a.Parts.length) 0 (a.Parts.length)] false, .buf 3 (L Ab a.Parts) false]) ⟨rfl, rfl, trivial⟩ ⟨_, (Aj (l := []) (m := [(23, 51, [.ref 0 0], [.box [i64 a.Kind, i64 a.Ref.Railway, i64 a.Ref.No, i64 a.Wagon, i64 a.Place, i64 a.Other, i64 a.Number, i64 a.From, i64 a.To, i64 a.Code, i64 a.Dest, i64 a.Class, i64 a.Weight, i64 a.Amount, .str a.Text, .bs false 1 (a.Parts.length) 0 (a.Parts.length)] false, .buf 3 (L Ab a.Parts) false], .agg [.ref 0 3, .ref 0 4, .ref 0 5, .ref 0 6, .ref 0 7, .ref 0 8, .ref 0 9, .ref 0 10, .ref 0 11, .ref 0 12, .ref 0 13], [.box [i64 a.Kind, i64 a.Ref.Railway, i64 a.Ref.No, i64 a.Wagon, i64 a.Place, i64 a.Other, i64 a.Number, i64 a.From, i64 a.To, i64 a.Code, i64 a.Dest, i64 a.Class, i64 a.Weight, i64 a.Amount, .str a.Text, .bs false 1 (a.Parts.length) 0 (a.Parts.length)] false, .buf 3 (L Ab a.Parts) false])]) trivial ⟨A1, trivial⟩), ?_⟩ ?_
                      · simp only [go_sem, Ae, Int.reduceLT, Int.reduceAdd, Int.reduceSub, Nat.reduceMul, Nat.reduceGT, Nat.reduceLeDiff, decide_true, decide_false, Bool.false_eq_true, Int.reduceBEq, Int.reduceGT, Int.reduceLE, Int.reduceGE, beq_self_eq_true, ay, ay.2, qL a4]
                      revert h
                      refine Bn ?_
                      exact Jm (ws [0, 1])
                    · refine Sk <|Bn <|?_
                      exact Jm (ws [0, 1])
                  · skip
                    refine Sp (fun az => ?_) fun az => ?_
                    · obtain rfl : b = 7 := eq_of_beq az
                      refine Sb ?_
                      refine Te [0, 1, 4, 6, 12] Aa (Ev (by simp only [go_sem, Ae, Int.reduceLT, Int.reduceAdd, Int.reduceSub, Nat.reduceMul, Nat.reduceGT, Nat.reduceLeDiff, decide_true, decide_false, Bool.false_eq_true, Int.reduceBEq, Int.reduceGT, Int.reduceLE, Int.reduceGE, beq_self_eq_true]; exact Ac)) ?_
                      refine Ct ?_
                      refine Ck fun a5 => ?_
                      refine Bd fun n a6 => ?_
                      refine Te [0, 4, 5, 6] (o1 18 (A3 a6)) (Ev (by simp only [go_sem, Ae, Int.reduceLT, Int.reduceAdd, Int.reduceSub, Nat.reduceMul, Nat.reduceGT, Nat.reduceLeDiff, decide_true, decide_false, Bool.false_eq_true, Int.reduceBEq, Int.reduceGT, Int.reduceLE, Int.reduceGE, beq_self_eq_true, a5]; exact Ac)) ?_
                      refine Te [0, 4, 5, 6, 21] Aa (Ev (by simp only [go_sem, Ae, Int.reduceLT, Int.reduceAdd, Int.reduceSub, Nat.reduceMul, Nat.reduceGT, Nat.reduceLeDiff, decide_true, decide_false, Bool.false_eq_true, Int.reduceBEq, Int.reduceGT, Int.reduceLE, Int.reduceGE, beq_self_eq_true]; exact Ac)) ?_
                      refine Cd ?_ ?_
                      · have aA : InR 7 11 := by decide
                        refine Ck fun a7 => ?_
                        intro h
                        refine Cv hE mixed [[], [0], [], [0, 1, 2], [], [4], [4, 5], [0, 1, 2, 3, 4, 5, 6], [0, 1, 2, 3, 4, 5, 6, 7]] (by kernel_rfl) [26, 27] [4, 26, 27] (by kernel_rfl) (Cr Dy) (fr' := [(4, .bool n.2), (26, .sl false (L L1 n.1)), (27, .rp [i64 (nth n.1 0)])]) (σ' := [.box [i64 a.Kind, i64 a.Ref.Railway, i64 a.Ref.No, i64 a.Wagon, i64 a.Place, i64 a.Other, i64 a.Number, i64 a.From, i64 a.To, i64 a.Code, i64 (nth n.1 0), i64 a.Class, i64 a.Weight, i64 a.Amount, .str a.Text, .bs false 1 (a.Parts.length) 0 (a.Parts.length)] false, .buf 3 (L Ab a.Parts) false]) ⟨rfl, rfl, trivial⟩ ⟨_, (Aj (l := []) (m := [(23, 51, [.ref 0 0], [.box [i64 a.Kind, i64 a.Ref.Railway, i64 a.Ref.No, i64 a.Wagon, i64 a.Place, i64 a.Other, i64 a.Number, i64 a.From, i64 a.To, i64 a.Code, i64 a.Dest, i64 a.Class, i64 a.Weight, i64 a.Amount, .str a.Text, .bs false 1 (a.Parts.length) 0 (a.Parts.length)] false, .buf 3 (L Ab a.Parts) false], .agg [.ref 0 3, .ref 0 4, .ref 0 5, .ref 0 6, .ref 0 7, .ref 0 8, .ref 0 9, .ref 0 10, .ref 0 11, .ref 0 12, .ref 0 13], [.box [i64 a.Kind, i64 a.Ref.Railway, i64 a.Ref.No, i64 a.Wagon, i64 a.Place, i64 a.Other, i64 a.Number, i64 a.From, i64 a.To, i64 a.Code, i64 a.Dest, i64 a.Class, i64 a.Weight, i64 a.Amount, .str a.Text, .bs false 1 (a.Parts.length) 0 (a.Parts.length)] false, .buf 3 (L Ab a.Parts) false])]) trivial ⟨A1, trivial⟩), ?_⟩ ?_
                        · simp only [go_sem, Ae, Int.reduceLT, Int.reduceAdd, Int.reduceSub, Nat.reduceMul, Nat.reduceGT, Nat.reduceLeDiff, decide_true, decide_false, Bool.false_eq_true, Int.reduceBEq, Int.reduceGT, Int.reduceLE, Int.reduceGE, beq_self_eq_true, aA, aA.2, qL a7]
                        revert h
                        refine Bn ?_
                        exact Jm (ws [0, 1])
                      · refine Sk <|Bn <|?_
                        exact Jm (ws [0, 1])
                    · skip
                      refine Sp (fun aB => ?_) fun aB => ?_
                      · obtain rfl : b = 8 := eq_of_beq aB
                        refine Sb ?_
                        refine Te [0, 1, 4, 6, 12] Aa (Ev (by simp only [go_sem, Ae, Int.reduceLT, Int.reduceAdd, Int.reduceSub, Nat.reduceMul, Nat.reduceGT, Nat.reduceLeDiff, decide_true, decide_false, Bool.false_eq_true, Int.reduceBEq, Int.reduceGT, Int.reduceLE, Int.reduceGE, beq_self_eq_true]; exact Ac)) ?_
                        refine Ct ?_
                        refine Ck fun a8 => ?_
                        refine Bd fun o a9 => ?_
                        refine Te [0, 4, 5, 6] (o1 18 (A3 a9)) (Ev (by simp only [go_sem, Ae, Int.reduceLT, Int.reduceAdd, Int.reduceSub, Nat.reduceMul, Nat.reduceGT, Nat.reduceLeDiff, decide_true, decide_false, Bool.false_eq_true, Int.reduceBEq, Int.reduceGT, Int.reduceLE, Int.reduceGE, beq_self_eq_true, a8]; exact Ac)) ?_
                        refine Te [0, 4, 5, 6, 21] Aa (Ev (by simp only [go_sem, Ae, Int.reduceLT, Int.reduceAdd, Int.reduceSub, Nat.reduceMul, Nat.reduceGT, Nat.reduceLeDiff, decide_true, decide_false, Bool.false_eq_true, Int.reduceBEq, Int.reduceGT, Int.reduceLE, Int.reduceGE, beq_self_eq_true]; exact Ac)) ?_
                        refine Cd ?_ ?_
                        · have aC : InR 8 11 := by decide
                          refine Ck fun ba => ?_
                          intro h
                          refine Cv hE mixed [[], [0], [], [0, 1, 2], [], [4], [4, 5], [0, 1, 2, 3, 4, 5, 6], [0, 1, 2, 3, 4, 5, 6, 7]] (by kernel_rfl) [26, 27] [4, 26, 27] (by kernel_rfl) (Cr Dy) (fr' := [(4, .bool o.2), (26, .sl false (L L1 o.1)), (27, .rp [i64 (nth o.1 0)])]) (σ' := [.box [i64 a.Kind, i64 a.Ref.Railway, i64 a.Ref.No, i64 a.Wagon, i64 a.Place, i64 a.Other, i64 a.Number, i64 a.From, i64 a.To, i64 a.Code, i64 a.Dest, i64 (nth o.1 0), i64 a.Weight, i64 a.Amount, .str a.Text, .bs false 1 (a.Parts.length) 0 (a.Parts.length)] false, .buf 3 (L Ab a.Parts) false]) ⟨rfl, rfl, trivial⟩ ⟨_, (Aj (l := []) (m := [(23, 51, [.ref 0 0], [.box [i64 a.Kind, i64 a.Ref.Railway, i64 a.Ref.No, i64 a.Wagon, i64 a.Place, i64 a.Other, i64 a.Number, i64 a.From, i64 a.To, i64 a.Code, i64 a.Dest, i64 a.Class, i64 a.Weight, i64 a.Amount, .str a.Text, .bs false 1 (a.Parts.length) 0 (a.Parts.length)] false, .buf 3 (L Ab a.Parts) false], .agg [.ref 0 3, .ref 0 4, .ref 0 5, .ref 0 6, .ref 0 7, .ref 0 8, .ref 0 9, .ref 0 10, .ref 0 11, .ref 0 12, .ref 0 13], [.box [i64 a.Kind, i64 a.Ref.Railway, i64 a.Ref.No, i64 a.Wagon, i64 a.Place, i64 a.Other, i64 a.Number, i64 a.From, i64 a.To, i64 a.Code, i64 a.Dest, i64 a.Class, i64 a.Weight, i64 a.Amount, .str a.Text, .bs false 1 (a.Parts.length) 0 (a.Parts.length)] false, .buf 3 (L Ab a.Parts) false])]) trivial ⟨A1, trivial⟩), ?_⟩ ?_
                          · simp only [go_sem, Ae, Int.reduceLT, Int.reduceAdd, Int.reduceSub, Nat.reduceMul, Nat.reduceGT, Nat.reduceLeDiff, decide_true, decide_false, Bool.false_eq_true, Int.reduceBEq, Int.reduceGT, Int.reduceLE, Int.reduceGE, beq_self_eq_true, aC, aC.2, qL ba]
                          revert h
                          refine Bn ?_
                          exact Jm (ws [0, 1])
                        · refine Sk <|Bn <|?_
                          exact Jm (ws [0, 1])
                      · skip
                        refine Sp (fun aD => ?_) fun aD => ?_
                        · obtain rfl : b = 9 := eq_of_beq aD
                          refine Sb ?_
                          refine Te [0, 1, 4, 6, 12] Aa (Ev (by simp only [go_sem, Ae, Int.reduceLT, Int.reduceAdd, Int.reduceSub, Nat.reduceMul, Nat.reduceGT, Nat.reduceLeDiff, decide_true, decide_false, Bool.false_eq_true, Int.reduceBEq, Int.reduceGT, Int.reduceLE, Int.reduceGE, beq_self_eq_true]; exact Ac)) ?_
                          refine Ct ?_
                          refine Ck fun bb => ?_
                          refine Bd fun p bc => ?_
                          refine Te [0, 4, 5, 6] (o1 18 (A3 bc)) (Ev (by simp only [go_sem, Ae, Int.reduceLT, Int.reduceAdd, Int.reduceSub, Nat.reduceMul, Nat.reduceGT, Nat.reduceLeDiff, decide_true, decide_false, Bool.false_eq_true, Int.reduceBEq, Int.reduceGT, Int.reduceLE, Int.reduceGE, beq_self_eq_true, bb]; exact Ac)) ?_
                          refine Te [0, 4, 5, 6, 21] Aa (Ev (by simp only [go_sem, Ae, Int.reduceLT, Int.reduceAdd, Int.reduceSub, Nat.reduceMul, Nat.reduceGT, Nat.reduceLeDiff, decide_true, decide_false, Bool.false_eq_true, Int.reduceBEq, Int.reduceGT, Int.reduceLE, Int.reduceGE, beq_self_eq_true]; exact Ac)) ?_
                          refine Cd ?_ ?_
                          · have aE : InR 9 11 := by decide
                            refine Ck fun bd => ?_
                            intro h
                            refine Cv hE mixed [[], [0], [], [0, 1, 2], [], [4], [4, 5], [0, 1, 2, 3, 4, 5, 6], [0, 1, 2, 3, 4, 5, 6, 7]] (by kernel_rfl) [26, 27] [4, 26, 27] (by kernel_rfl) (Cr Dy) (fr' := [(4, .bool p.2), (26, .sl false (L L1 p.1)), (27, .rp [i64 (nth p.1 0)])]) (σ' := [.box [i64 a.Kind, i64 a.Ref.Railway, i64 a.Ref.No, i64 a.Wagon, i64 a.Place, i64 a.Other, i64 a.Number, i64 a.From, i64 a.To, i64 a.Code, i64 a.Dest, i64 a.Class, i64 (nth p.1 0), i64 a.Amount, .str a.Text, .bs false 1 (a.Parts.length) 0 (a.Parts.length)] false, .buf 3 (L Ab a.Parts) false]) ⟨rfl, rfl, trivial⟩ ⟨_, (Aj (l := []) (m := [(23, 51, [.ref 0 0], [.box [i64 a.Kind, i64 a.Ref.Railway, i64 a.Ref.No, i64 a.Wagon, i64 a.Place, i64 a.Other, i64 a.Number, i64 a.From, i64 a.To, i64 a.Code, i64 a.Dest, i64 a.Class, i64 a.Weight, i64 a.Amount, .str a.Text, .bs false 1 (a.Parts.length) 0 (a.Parts.length)] false, .buf 3 (L Ab a.Parts) false], .agg [.ref 0 3, .ref 0 4, .ref 0 5, .ref 0 6, .ref 0 7, .ref 0 8, .ref 0 9, .ref 0 10, .ref 0 11, .ref 0 12, .ref 0 13], [.box [i64 a.Kind, i64 a.Ref.Railway, i64 a.Ref.No, i64 a.Wagon, i64 a.Place, i64 a.Other, i64 a.Number, i64 a.From, i64 a.To, i64 a.Code, i64 a.Dest, i64 a.Class, i64 a.Weight, i64 a.Amount, .str a.Text, .bs false 1 (a.Parts.length) 0 (a.Parts.length)] false, .buf 3 (L Ab a.Parts) false])]) trivial ⟨A1, trivial⟩), ?_⟩ ?_
                            · simp only [go_sem, Ae, Int.reduceLT, Int.reduceAdd, Int.reduceSub, Nat.reduceMul, Nat.reduceGT, Nat.reduceLeDiff, decide_true, decide_false, Bool.false_eq_true, Int.reduceBEq, Int.reduceGT, Int.reduceLE, Int.reduceGE, beq_self_eq_true, aE, aE.2, qL bd]
                            revert h
                            refine Bn ?_
                            exact Jm (ws [0, 1])
                          · refine Sk <|Bn <|?_
                            exact Jm (ws [0, 1])
                        · skip
                          refine Sp (fun aF => ?_) fun aF => ?_
                          · obtain rfl : b = 10 := eq_of_beq aF
                            refine Sb ?_
                            refine Te [0, 1, 4, 6, 12] Aa (Ev (by simp only [go_sem, Ae, Int.reduceLT, Int.reduceAdd, Int.reduceSub, Nat.reduceMul, Nat.reduceGT, Nat.reduceLeDiff, decide_true, decide_false, Bool.false_eq_true, Int.reduceBEq, Int.reduceGT, Int.reduceLE, Int.reduceGE, beq_self_eq_true]; exact Ac)) ?_
                            refine Ct ?_
                            refine Ck fun be => ?_
                            refine Bd fun q bf => ?_
                            refine Te [0, 4, 5, 6] (o1 18 (A3 bf)) (Ev (by simp only [go_sem, Ae, Int.reduceLT, Int.reduceAdd, Int.reduceSub, Nat.reduceMul, Nat.reduceGT, Nat.reduceLeDiff, decide_true, decide_false, Bool.false_eq_true, Int.reduceBEq, Int.reduceGT, Int.reduceLE, Int.reduceGE, beq_self_eq_true, be]; exact Ac)) ?_
                            refine Te [0, 4, 5, 6, 21] Aa (Ev (by simp only [go_sem, Ae, Int.reduceLT, Int.reduceAdd, Int.reduceSub, Nat.reduceMul, Nat.reduceGT, Nat.reduceLeDiff, decide_true, decide_false, Bool.false_eq_true, Int.reduceBEq, Int.reduceGT, Int.reduceLE, Int.reduceGE, beq_self_eq_true]; exact Ac)) ?_
                            refine Cd ?_ ?_
                            · have aG : InR 10 11 := by decide
                              refine Ck fun bg => ?_
                              intro h
                              refine Cv hE mixed [[], [0], [], [0, 1, 2], [], [4], [4, 5], [0, 1, 2, 3, 4, 5, 6], [0, 1, 2, 3, 4, 5, 6, 7]] (by kernel_rfl) [26, 27] [4, 26, 27] (by kernel_rfl) (Cr Dy) (fr' := [(4, .bool q.2), (26, .sl false (L L1 q.1)), (27, .rp [i64 (nth q.1 0)])]) (σ' := [.box [i64 a.Kind, i64 a.Ref.Railway, i64 a.Ref.No, i64 a.Wagon, i64 a.Place, i64 a.Other, i64 a.Number, i64 a.From, i64 a.To, i64 a.Code, i64 a.Dest, i64 a.Class, i64 a.Weight, i64 (nth q.1 0), .str a.Text, .bs false 1 (a.Parts.length) 0 (a.Parts.length)] false, .buf 3 (L Ab a.Parts) false]) ⟨rfl, rfl, trivial⟩ ⟨_, (Aj (l := []) (m := [(23, 51, [.ref 0 0], [.box [i64 a.Kind, i64 a.Ref.Railway, i64 a.Ref.No, i64 a.Wagon, i64 a.Place, i64 a.Other, i64 a.Number, i64 a.From, i64 a.To, i64 a.Code, i64 a.Dest, i64 a.Class, i64 a.Weight, i64 a.Amount, .str a.Text, .bs false 1 (a.Parts.length) 0 (a.Parts.length)] false, .buf 3 (L Ab a.Parts) false], .agg [.ref 0 3, .ref 0 4, .ref 0 5, .ref 0 6, .ref 0 7, .ref 0 8, .ref 0 9, .ref 0 10, .ref 0 11, .ref 0 12, .ref 0 13], [.box [i64 a.Kind, i64 a.Ref.Railway, i64 a.Ref.No, i64 a.Wagon, i64 a.Place, i64 a.Other, i64 a.Number, i64 a.From, i64 a.To, i64 a.Code, i64 a.Dest, i64 a.Class, i64 a.Weight, i64 a.Amount, .str a.Text, .bs false 1 (a.Parts.length) 0 (a.Parts.length)] false, .buf 3 (L Ab a.Parts) false])]) trivial ⟨A1, trivial⟩), ?_⟩ ?_
                              · simp only [go_sem, Ae, Int.reduceLT, Int.reduceAdd, Int.reduceSub, Nat.reduceMul, Nat.reduceGT, Nat.reduceLeDiff, decide_true, decide_false, Bool.false_eq_true, Int.reduceBEq, Int.reduceGT, Int.reduceLE, Int.reduceGE, beq_self_eq_true, aG, aG.2, qL bg]
                              revert h
                              refine Bn ?_
                              exact Jm (ws [0, 1])
                            · refine Sk <|Bn <|?_
                              exact Jm (ws [0, 1])
                          · refine Sb ?_
                            refine Te [0, 1, 4, 6, 12] Aa (Ev (by simp only [go_sem, Ae, Int.reduceLT, Int.reduceAdd, Int.reduceSub, Nat.reduceMul, Nat.reduceGT, Nat.reduceLeDiff, decide_true, decide_false, Bool.false_eq_true, Int.reduceBEq, Int.reduceGT, Int.reduceLE, Int.reduceGE, beq_self_eq_true]; exact Ac)) ?_
                            refine Cd ?_ ?_
                            · refine Ck fun bh => ?_
                              refine Bd fun bD bi => ?_
                              refine Te [0, 4, 5, 6] (o1 18 (A3 bi)) (Ev (by simp only [go_sem, Ae, Int.reduceLT, Int.reduceAdd, Int.reduceSub, Nat.reduceMul, Nat.reduceGT, Nat.reduceLeDiff, decide_true, decide_false, Bool.false_eq_true, Int.reduceBEq, Int.reduceGT, Int.reduceLE, Int.reduceGE, beq_self_eq_true, bh]; exact Ac)) ?_
                              refine Te [0, 4, 5, 6, 21] Aa (Ev (by simp only [go_sem, Ae, Int.reduceLT, Int.reduceAdd, Int.reduceSub, Nat.reduceMul, Nat.reduceGT, Nat.reduceLeDiff, decide_true, decide_false, Bool.false_eq_true, Int.reduceBEq, Int.reduceGT, Int.reduceLE, Int.reduceGE, beq_self_eq_true]; exact Ac)) ?_
                              refine Cd ?_ ?_
                              · exact Rn
                              · refine Sk <|Bn <|?_
                                exact Jm (ws [0, 1])
                            · refine Ck fun bj => ?_
                              refine Te [0, 1, 4, 30] Aa (Ev (by simp only [go_sem, Ae, Int.reduceLT, Int.reduceAdd, Int.reduceSub, Nat.reduceMul, Nat.reduceGT, Nat.reduceLeDiff, decide_true, decide_false, Bool.false_eq_true, Int.reduceBEq, Int.reduceGT, Int.reduceLE, Int.reduceGE, beq_self_eq_true, qL bj]; exact Ac)) ?_
                              refine Cd ?_ ?_
                              · refine Ck fun bk => ?_
                                refine Bd fun bE bl => ?_
                                refine Te [0, 4, 5] (o1 37 (A3 bl)) (Ev (by simp only [go_sem, Ae, Int.reduceLT, Int.reduceAdd, Int.reduceSub, Nat.reduceMul, Nat.reduceGT, Nat.reduceLeDiff, decide_true, decide_false, Bool.false_eq_true, Int.reduceBEq, Int.reduceGT, Int.reduceLE, Int.reduceGE, beq_self_eq_true, bk]; exact Ac)) ?_
                                refine Te [0, 4, 5, 40] Aa (Ev (by simp only [go_sem, Ae, Int.reduceLT, Int.reduceAdd, Int.reduceSub, Nat.reduceMul, Nat.reduceGT, Nat.reduceLeDiff, decide_true, decide_false, Bool.false_eq_true, Int.reduceBEq, Int.reduceGT, Int.reduceLE, Int.reduceGE, beq_self_eq_true]; exact Ac)) ?_
                                refine Cd ?_ ?_
                                · refine Ck fun bm => ?_
                                  refine Ck fun bn => ?_
                                  refine Ge [[], [], [1], [1, 2], [], [4], [4, 5], [1, 2, 3, 4, 5, 6], [0, 1, 2, 3, 4, 5, 6, 7], [0, 1, 2, 3, 4, 5, 6, 7, 8], [0, 1, 2, 3, 4, 5, 6, 7, 8, 9]] [4] Aa (Ev (by simp only [go_sem, Ae, Int.reduceLT, Int.reduceAdd, Int.reduceSub, Nat.reduceMul, Nat.reduceGT, Nat.reduceLeDiff, decide_true, decide_false, Bool.false_eq_true, Int.reduceBEq, Int.reduceGT, Int.reduceLE, Int.reduceGE, beq_self_eq_true, qL bm, qL bn]; exact Ac)) ?_
                                  refine Bn ?_
                                  exact Jm (ws [0, 1])
                                · refine Sk <|Bn <|?_
                                  exact Jm (ws [0, 1])
                              · refine Ck fun bo => ?_
                                refine Te [0, 1, 4, 51] Aa (Ev (by simp only [go_sem, Ae, Int.reduceLT, Int.reduceAdd, Int.reduceSub, Nat.reduceMul, Nat.reduceGT, Nat.reduceLeDiff, decide_true, decide_false, Bool.false_eq_true, Int.reduceBEq, Int.reduceGT, Int.reduceLE, Int.reduceGE, beq_self_eq_true, qL bo]; exact Ac)) ?_
                                refine Cd ?_ ?_
                                · refine Ck fun bp => ?_
                                  refine Bd fun bF bq => ?_
                                  refine Fe [4] (o1 59 (Nm bq)) (Ev (by simp only [go_sem, Ae, Int.reduceLT, Int.reduceAdd, Int.reduceSub, Nat.reduceMul, Nat.reduceGT, Nat.reduceLeDiff, decide_true, decide_false, Bool.false_eq_true, Int.reduceBEq, Int.reduceGT, Int.reduceLE, Int.reduceGE, beq_self_eq_true, bp]; exact Ac)) ?_
                                  refine Bn ?_
                                  exact Jm (ws [0, 1])
                                · refine Ck fun br => ?_
                                  refine Te [0, 1, 4, 64] Aa (Ev (by simp only [go_sem, Ae, Int.reduceLT, Int.reduceAdd, Int.reduceSub, Nat.reduceMul, Nat.reduceGT, Nat.reduceLeDiff, decide_true, decide_false, Bool.false_eq_true, Int.reduceBEq, Int.reduceGT, Int.reduceLE, Int.reduceGE, beq_self_eq_true, qL br]; exact Ac)) ?_
                                  refine Cd ?_ ?_
                                  · refine Ck fun bt => ?_
                                    refine Bd fun bG bu => ?_
                                    refine Te [0, 4, 5] (o1 71 (A3 bu)) (Ev (by simp only [go_sem, Ae, Int.reduceLT, Int.reduceAdd, Int.reduceSub, Nat.reduceMul, Nat.reduceGT, Nat.reduceLeDiff, decide_true, decide_false, Bool.false_eq_true, Int.reduceBEq, Int.reduceGT, Int.reduceLE, Int.reduceGE, beq_self_eq_true, bt]; exact Ac)) ?_
                                    refine Te [0, 4, 5, 74] Aa (Ev (by simp only [go_sem, Ae, Int.reduceLT, Int.reduceAdd, Int.reduceSub, Nat.reduceMul, Nat.reduceGT, Nat.reduceLeDiff, decide_true, decide_false, Bool.false_eq_true, Int.reduceBEq, Int.reduceGT, Int.reduceLE, Int.reduceGE, beq_self_eq_true]; exact Ac)) ?_
                                    refine Cd ?_ ?_
                                    · refine Ck fun bv => ?_
                                      refine Ck fun bw => ?_
                                      refine Ck fun bx => ?_
                                      refine Ck fun bz => ?_
                                      refine Lt fun s bA => ?_
                                      refine Ge (σ' := [.box [i64 a.Kind, i64 a.Ref.Railway, i64 a.Ref.No, i64 a.Wagon, i64 a.Place, i64 a.Other, i64 a.Number, i64 a.From, i64 a.To, i64 a.Code, i64 a.Dest, i64 a.Class, i64 a.Weight, i64 a.Amount, .str a.Text, .bs false 1 (s.length) 0 (s.length)] false, .buf 3 (L Ab s) false, _]) [[], [], [1], [1, 2], [1, 2, 3], [], [5], [5, 6], [], [8], [8, 9], [], [11], [11, 12], [11, 12, 13], [5, 6, 7, 8, 9, 10, 11, 12, 13, 14], [5, 6, 7, 8, 9, 10, 11, 12, 13, 14, 15], [1, 2, 3, 4, 5, 6, 7, 8, 9, 10, 11, 12, 13, 14, 15, 16], [0, 1, 2, 3, 4, 5, 6, 7, 8, 9, 10, 11, 12, 13, 14, 15, 16, 17], [0, 1, 2, 3, 4, 5, 6, 7, 8, 9, 10, 11, 12, 13, 14, 15, 16, 17, 18], [0, 1, 2, 3, 4, 5, 6, 7, 8, 9, 10, 11, 12, 13, 14, 15, 16, 17, 18, 19]] [4] Aa (Ev (by simp only [go_sem, Ae, Int.reduceLT, Int.reduceAdd, Int.reduceSub, Nat.reduceMul, Nat.reduceGT, Nat.reduceLeDiff, decide_true, decide_false, Bool.false_eq_true, Int.reduceBEq, Int.reduceGT, Int.reduceLE, Int.reduceGE, beq_self_eq_true, qL bv, qL bw, qL bx, bz, bA]; exact Ac)) ?_
                                      refine Bn ?_
                                      exact Jm (ws [0, 1])
                                    · refine Sk <|Bn <|?_
                                      exact Jm (ws [0, 1])
                                  · refine Sk <|Bn <|?_
                                    exact Jm (ws [0, 1])
    rintro ⟨u, v, w, x, y, z, aa, ab, ac, ad, ae, af, ag, ah, ai, c⟩
    refine Te [4] Aa (Ev (by simp only [go_sem, Ae, Int.reduceLT, Int.reduceAdd, Int.reduceSub, Nat.reduceMul, Nat.reduceGT, Nat.reduceLeDiff, decide_true, decide_false, Bool.false_eq_true, Int.reduceBEq, Int.reduceGT, Int.reduceLE, Int.reduceGE, beq_self_eq_true]; exact Ac)) ?_
    exact Sr <|Ro [0, 1]
theorem L0 {d r} (h : Lp d = some r) : Con B 23 [.str d] [] (fun r' σ' => r' = .tup [.agg [i64 r.1.Kind, i64 r.1.Ref.Railway, i64 r.1.Ref.No, i64 r.1.Wagon, i64 r.1.Place, i64 r.1.Other, i64 r.1.Number, i64 r.1.From, i64 r.1.To, i64 r.1.Code, i64 r.1.Dest, i64 r.1.Class, i64 r.1.Weight, i64 r.1.Amount, .str r.1.Text, .sl false (L Ab r.1.Parts)], i64 r.2] ∧ σ' = []) := by
  refine Cw 54 [.cell 2 41, .tmp 3] Tryz.func23 (fun F hE => ?_) h
  unfold Lp
  refine T0 [0, 2] ?_
  refine Sq <|T0 [0, 2, 13] ?_
  refine Cd ?_ ?_
  · refine T0 [2, 3] ?_
    exact Sr <|Tr <|Rr
  · refine Sk <|Tn <|?_
    refine Bd fun aK aw => ?_
    refine Te [0, 2, 4] (o1 17 (Jh aw)) Ev ?_
    refine Bd fun e ax => ?_
    refine Te [0, 2, 6] (o1 21 (M5 ax)) Ev ?_
    refine Ck fun ay => ?_
    refine Bd fun aL az => ?_
    refine De [[], [], [1], [1, 2], [0, 1, 2, 3], [0, 1, 2, 3, 4], [0, 1, 2, 3, 4, 5]] [0, 2, 6] (o1 26 (Kr az)) (Ev (by simp only [go_sem, qL ay]; exact Ac)) ?_
    refine Jo (fun ⟨y, z, aa, ab, ac, ad, ae, af, ag, ah, ai, aj, ak, al, am, c⟩ => ⟨As 54 [(0, .str d), (2, .ref 0 0)], [.box [i64 y, i64 z, i64 aa, i64 ab, i64 ac, i64 ad, i64 ae, i64 af, i64 ag, i64 ah, i64 ai, i64 aj, i64 ak, i64 al, .str am, .bs false 1 (c.length) 0 (c.length)] false, .buf 3 (L Ab c) false]⟩) ?_ ?_
    · intro aM aA
      refine Ck fun aB => ?_
      refine Te [0, 2, 29, 30, 31] Aa (Ev (by simp only [go_sem, aB]; exact Ac)) ?_
      refine Sb ?_
      refine Lo (fun ⟨an, f, g, i, j, k, n, o, p, q, s, t, u, v, w, x, b⟩ => ⟨As 54 [(0, .str d), (2, .ref 0 0), (29, .sl false (L Py (((e.drop 1).take (e.length - 1))))), (30, i64 (((((e.drop 1).take (e.length - 1))).length : Int))), (31, i64 an)], [.box [i64 f, i64 g, i64 i, i64 j, i64 k, i64 n, i64 o, i64 p, i64 q, i64 s, i64 t, i64 u, i64 v, i64 w, .str x, .bs false 1 (b.length) 0 (b.length)] false, .buf 3 (L Ab b) false]⟩) ((I4 0 15 3 rfl rfl).trans (ws [0, 1])) ?_
      rintro ⟨an, f, g, i, j, k, n, o, p, q, s, t, u, v, w, x, b⟩ aN aC aq ar
      show Iv e an f g i j k n o p q s t u v w x b = some aC → _
      unfold Iv
      refine Lt fun aD aE => ?_
      refine Te (fr' := [(0, _), (2, _), (29, _), (30, _), (31, _), (32, .bool aD)]) [0, 2, 29, 30, 31, 32] Aa (Ev (by simp only [go_sem, aE]; exact Ac)) ?_
      refine Sq ?_
      refine Cd ?_ ?_
      · refine Sk <|Tn <|Sq <|Sb <|?_
        refine Ck fun aF => ?_
        refine Lt fun au aG => ?_
        refine Te (fr' := [(0, _), (2, _), (8, .str au), (29, _), (30, _), (31, _)]) [0, 2, 8, 29, 30, 31] Aa (Ev (by simp only [go_sem, qR aF, aG]; exact Ac)) ?_
        refine Bd fun a aH => ?_
        refine Lt fun ao aI => ?_
        refine Te (σ' := [.box [i64 a.2.Kind, i64 a.2.Ref.Railway, i64 a.2.Ref.No, i64 a.2.Wagon, i64 a.2.Place, i64 a.2.Other, i64 a.2.Number, i64 a.2.From, i64 a.2.To, i64 a.2.Code, i64 a.2.Dest, i64 a.2.Class, i64 a.2.Weight, i64 a.2.Amount, .str a.2.Text, .bs false 1 (ao.length) 0 (ao.length)] false, .buf 3 (L Ab ao) false]) [0, 2, 29, 30, 31, 37] (Aj (l := []) (m := [(36, 68, [.ref 0 0, .str au], [.box [i64 f, i64 g, i64 i, i64 j, i64 k, i64 n, i64 o, i64 p, i64 q, i64 s, i64 t, i64 u, i64 v, i64 w, .str x, .bs false 1 (b.length) 0 (b.length)] false, .buf 3 (L Ab b) false], _, _)]) trivial ⟨(wc (Uo aH) [0, 1]), trivial⟩) (Ev (by simp only [go_sem, aI]; exact Ac)) ?_
        refine Cd ?_ ?_
        · refine T0 [2, 3] ?_
          exact Sr <|Br <|Tr <|Lr ar aq <|Br <|Jr aA <|Rr
        · refine Sk <|Bn <|Tn <|F0 [0, 2, 29, 30, 31] ?_
          exact Ln (ws [0, 1])
      · refine Sx <|Tx <|Lx ar aq <|Bx <|?_
        exact Jn ((ws (l' := [(0, .str d), (2, .ref 0 0)]) (σ' := [.box [i64 f, i64 g, i64 i, i64 j, i64 k, i64 n, i64 o, i64 p, i64 q, i64 s, i64 t, i64 u, i64 v, i64 w, .str x, .bs false 1 (b.length) 0 (b.length)] false, .buf 3 (L Ab b) false]) [0, 1]).trans (ws [0, 1]))
    rintro ⟨y, z, aa, ab, ac, ad, ae, af, ag, ah, ai, aj, ak, al, am, c⟩
    refine Sq ?_
    refine Bd fun aO aJ => ?_
    refine Te [0, 2, 9, 10] (o1 42 (Fb aJ)) Ev ?_
    refine Tw [2, 51] (fun av => ⟨As 54 [(2, .ref 0 0), (51, .bool av)], [.box [i64 y, i64 z, i64 aa, i64 ab, i64 ac, i64 ad, i64 ae, i64 af, i64 ag, i64 ah, i64 ai, i64 aj, i64 ak, i64 al, .str am, .bs false 1 (c.length) 0 (c.length)] false, .buf 3 (L Ab c) false]⟩) ?_ ?_
    · intro _
      refine Sp (fun ap => ?_) fun ap => ?_
      · exact Lf Aa (Ev (by simp only [go_sem, ap]; exact Ac)) (ws [0, 1])
      · exact Lf Aa (Ev (by simp only [go_sem, ap]; exact Ac)) (ws [0, 1])
    intro av
    refine Cd ?_ ?_
    · refine T0 [2, 3] ?_
      exact Sr <|Tr <|Rr
    · refine Sk <|Tn <|T0 [2, 3] ?_
      exact Sr <|Rr
theorem Ol {a r} (h : F8 a = some r) : Con B 14 [.agg [i64 a.Kind, i64 a.Ref.Railway, i64 a.Ref.No, i64 a.Wagon, i64 a.Place, i64 a.Other, i64 a.Number, i64 a.From, i64 a.To, i64 a.Code, i64 a.Dest, i64 a.Class, i64 a.Weight, i64 a.Amount, .str a.Text, .sl false (L Ab a.Parts)]] [] (fun r' σ' => r' = .bool r ∧ σ' = []) := by
  refine Cw 13 [.tmp 2] Tryz.func14 (fun F hE => ?_) h
  unfold F8
  refine T0 [1] ?_
  refine Tw [2] (fun c => ⟨As 13 [(2, .bool c)], []⟩) ?_ ?_
  · intro _
    refine Sp (fun b => ?_) fun b => ?_
    · exact Lf Aa (Ev (by simp only [go_sem, b]; exact Ac)) (ws [])
    · exact Lf Aa (Ev (by simp only [go_sem, b]; exact Ac)) (ws [])
  intro c
  exact Sr <|Rr
theorem Aw {a r} (h : Ba a = some r) : Con B 58 [i64 a] [] (fun r' σ' => r' = .agg [i64 r.Kind, i64 r.N, .sl false (L cU8 r.B), .sl false (L cApi_Value r.L)] ∧ σ' = []) := by
  refine Cw 5 [.cell 2 55] Tryz.func58 (fun F hE => ?_) h
  unfold Ba
  refine T0 [0, 2] ?_
  refine T0 [2] ?_
  exact Sr <|Rr
theorem Vg {a r} (h : Ns a = some r) : Con B 60 [.str a] [] (fun r' σ' => r' = .agg [i64 r.Kind, i64 r.N, .sl false (L cU8 r.B), .sl false (L cApi_Value r.L)] ∧ σ' = []) := by
  refine Cw 6 [.cell 2 55] Tryz.func60 (fun F hE => ?_) h
  unfold Ns
  refine T0 [0, 2] ?_
  refine T0 [2] ?_
  exact Sr <|Rr
theorem Mz {r} (h : edi_list_cnil  = some r) : Con B 59 [.sl true (L cApi_Value ([]))] [] (fun r' σ' => r' = .agg [i64 r.Kind, i64 r.N, .sl true (L cU8 ([])), .sl true (L cApi_Value ([]))] ∧ σ' = []) := by
  refine Co 0 5 [.cell 2 55] Tryz.func59 (fun F hE => ?_) h
  unfold edi_list_cnil
  refine Te [0, 2] Aa (Ev (by simp only [go_sem, Ae, Int.reduceLT, Int.reduceAdd, Int.reduceSub, Nat.reduceMul, Nat.reduceGT, Nat.reduceLeDiff, decide_true, decide_false, Bool.false_eq_true, Int.reduceBEq, Int.reduceGT, Int.reduceLE, Int.reduceGE, beq_self_eq_true]; exact Ac)) ?_
  refine Te [2] Aa (Ev (by simp only [go_sem, Ae, Int.reduceLT, Int.reduceAdd, Int.reduceSub, Nat.reduceMul, Nat.reduceGT, Nat.reduceLeDiff, decide_true, decide_false, Bool.false_eq_true, Int.reduceBEq, Int.reduceGT, Int.reduceLE, Int.reduceGE, beq_self_eq_true]; exact Ac)) ?_
  exact Sr <|Ro []
theorem Nq {a r} (h : G8 a = some r) : Con B 59 [.bs false 0 (a.length) 0 (a.length)] [.buf 4 (L cApi_Value a) false] (fun r' σ' => r' = .agg [i64 r.Kind, i64 r.N, .sl true (L cU8 ([])), .bs false 0 (r.L.length) 0 (r.L.length)] ∧ σ' = [.buf 4 (L cApi_Value r.L) false]) := by
  refine Co 1 5 [.cell 2 55] Tryz.func59 (fun F hE => ?_) h
  unfold G8
  refine Te [0, 2] Aa (Ev (by simp only [go_sem, Ae, Int.reduceLT, Int.reduceAdd, Int.reduceSub, Nat.reduceMul, Nat.reduceGT, Nat.reduceLeDiff, decide_true, decide_false, Bool.false_eq_true, Int.reduceBEq, Int.reduceGT, Int.reduceLE, Int.reduceGE, beq_self_eq_true]; exact Ac)) ?_
  refine Te [2] Aa (Ev (by simp only [go_sem, Ae, Int.reduceLT, Int.reduceAdd, Int.reduceSub, Nat.reduceMul, Nat.reduceGT, Nat.reduceLeDiff, decide_true, decide_false, Bool.false_eq_true, Int.reduceBEq, Int.reduceGT, Int.reduceLE, Int.reduceGE, beq_self_eq_true]; exact Ac)) ?_
  exact Sr <|Ro [0]
theorem Hr {a r} (h : Dr a = some r) : Con B 59 [.sl false (L cApi_Value a)] [] (fun r' σ' => r' = .agg [i64 r.Kind, i64 r.N, .sl true (L cU8 ([])), .sl false (L cApi_Value r.L)] ∧ σ' = []) := by
  refine Co 0 5 [.cell 2 55] Tryz.func59 (fun F hE => ?_) h
  unfold Dr
  refine Te [0, 2] Aa (Ev (by simp only [go_sem, Ae, Int.reduceLT, Int.reduceAdd, Int.reduceSub, Nat.reduceMul, Nat.reduceGT, Nat.reduceLeDiff, decide_true, decide_false, Bool.false_eq_true, Int.reduceBEq, Int.reduceGT, Int.reduceLE, Int.reduceGE, beq_self_eq_true]; exact Ac)) ?_
  refine Te [2] Aa (Ev (by simp only [go_sem, Ae, Int.reduceLT, Int.reduceAdd, Int.reduceSub, Nat.reduceMul, Nat.reduceGT, Nat.reduceLeDiff, decide_true, decide_false, Bool.false_eq_true, Int.reduceBEq, Int.reduceGT, Int.reduceLE, Int.reduceGE, beq_self_eq_true]; exact Ac)) ?_
  exact Sr <|Ro []
theorem Ib {a r} (h : Gb a = some r) : Con B 21 [.agg [i64 a.Kind, i64 a.Ref.Railway, i64 a.Ref.No, i64 a.Wagon, i64 a.Place, i64 a.Other, i64 a.Number, i64 a.From, i64 a.To, i64 a.Code, i64 a.Dest, i64 a.Class, i64 a.Weight, i64 a.Amount, .str a.Text, .sl false (L Ab a.Parts)]] [] (fun r' σ' => r' = .agg [i64 r.Kind, i64 r.N, .sl false (L cU8 r.B), .sl false (L cApi_Value r.L)] ∧ σ' = []) := by
  refine Cw 70 [.cell 2 55] Tryz.func21 (fun F hE => ?_) h
  unfold Gb
  refine T0 [1, 2] ?_
  refine Bd fun bF av => ?_
  refine Bd fun aw ax => ?_
  refine Bd fun ay az => ?_
  refine Bd fun bG aA => ?_
  refine Lt fun f aB => ?_
  refine De (fr' := [(1, _), (2, _), (3, .bs true 2 (f.length) 0 (f.length))]) (σ' := [_, _, .buf 4 (L cApi_Value f) false]) [[], [0], [0, 1], [], [3], [3, 4], [0, 1, 2, 3, 4, 5], [], [7], [7, 8], [0, 1, 2, 3, 4, 5, 6, 7, 8, 9], [0, 1, 2, 3, 4, 5, 6, 7, 8, 9, 10], [0, 1, 2, 3, 4, 5, 6, 7, 8, 9, 10, 11], [0, 1, 2, 3, 4, 5, 6, 7, 8, 9, 10, 11, 12], [0, 1, 2, 3, 4, 5, 6, 7, 8, 9, 10, 11, 12, 13]] [1, 2, 3] (Aj (l := [(12, _, _, _), (16, _, _, _), (20, _, _, _)]) (m := [(22, 59, [.sl false (L cApi_Value (([aw, ay] : List Api_Value)))], [.box [i64 a.Kind, i64 a.Ref.Railway, i64 a.Ref.No, i64 a.Wagon, i64 a.Place, i64 a.Other, i64 a.Number, i64 a.From, i64 a.To, i64 a.Code, i64 a.Dest, i64 a.Class, i64 a.Weight, i64 a.Amount, .str a.Text, .sl false (L Ab a.Parts)] false, .box [i64 0, i64 0, .sl true (L cU8 ([])), .sl true (L cApi_Value ([]))] false], _, _)]) ⟨Aw  av, Aw  ax, Aw  az, trivial⟩ ⟨(wc (Hr aA) []), trivial⟩) (Ev (by simp only [go_sem, aB]; exact Ac)) ?_
  refine Ja (fun b => ⟨As 70 [(1, .ref 0 0), (2, .ref 1 0), (3, .bs false 2 (b.length) 0 (b.length))], [.box [i64 a.Kind, i64 a.Ref.Railway, i64 a.Ref.No, i64 a.Wagon, i64 a.Place, i64 a.Other, i64 a.Number, i64 a.From, i64 a.To, i64 a.Code, i64 a.Dest, i64 a.Class, i64 a.Weight, i64 a.Amount, .str a.Text, .sl false (L Ab a.Parts)] false, .box [i64 0, i64 0, .sl true (L cU8 ([])), .sl true (L cApi_Value ([]))] false, .buf 4 (L cApi_Value b) false]⟩) ?_ ?_
  · intro bH
    refine Te [1, 2, 3, 24, 25] (Aj (l := []) (m := [(24, 51, [.ref 0 0], [.box [i64 a.Kind, i64 a.Ref.Railway, i64 a.Ref.No, i64 a.Wagon, i64 a.Place, i64 a.Other, i64 a.Number, i64 a.From, i64 a.To, i64 a.Code, i64 a.Dest, i64 a.Class, i64 a.Weight, i64 a.Amount, .str a.Text, .sl false (L Ab a.Parts)] false, .box [i64 0, i64 0, .sl true (L cU8 ([])), .sl true (L cApi_Value ([]))] false, .buf 4 (L cApi_Value f) false], .agg [.ref 0 3, .ref 0 4, .ref 0 5, .ref 0 6, .ref 0 7, .ref 0 8, .ref 0 9, .ref 0 10, .ref 0 11, .ref 0 12, .ref 0 13], [.box [i64 a.Kind, i64 a.Ref.Railway, i64 a.Ref.No, i64 a.Wagon, i64 a.Place, i64 a.Other, i64 a.Number, i64 a.From, i64 a.To, i64 a.Code, i64 a.Dest, i64 a.Class, i64 a.Weight, i64 a.Amount, .str a.Text, .sl false (L Ab a.Parts)] false, .box [i64 0, i64 0, .sl true (L cU8 ([])), .sl true (L cApi_Value ([]))] false, .buf 4 (L cApi_Value f) false])]) trivial ⟨A1, trivial⟩) Ev ?_
    refine Sb ?_
    refine Ul 17 ?_
    refine Ug (m := 16) ?_
    refine Te [1, 2, 3, 24, 25, 26] Aa (Ev (by simp only [go_sem, Ae, Int.reduceLT, Int.reduceAdd, Int.reduceSub, Nat.reduceMul, Nat.reduceGT, Nat.reduceLeDiff, decide_true, decide_false, Bool.false_eq_true, Int.reduceBEq, Int.reduceGT, Int.reduceLE, Int.reduceGE, beq_self_eq_true]; exact Ac)) ?_
    refine Sq ?_
    refine Ct ?_
    refine Sk <|Tn <|Sq <|Sb <|?_
    have ae : InR 0 11 := by decide
    refine Te [1, 2, 3, 5, 24, 25] Aa (Ev (by simp only [go_sem, Ae, Int.reduceLT, Int.reduceAdd, Int.reduceSub, Nat.reduceMul, Nat.reduceGT, Nat.reduceLeDiff, decide_true, decide_false, Bool.false_eq_true, Int.reduceBEq, Int.reduceGT, Int.reduceLE, Int.reduceGE, beq_self_eq_true, ae, ae.2]; exact Ac)) ?_
    refine Bd fun bI aC => ?_
    refine Ck fun aD => ?_
    refine Lt fun n aE => ?_
    refine Fe (fr' := [(1, _), (2, _), (3, .bs false 2 (n.length) 0 (n.length)), (24, _), (25, _)]) (σ' := [_, _, .buf 4 (L cApi_Value n) false, _]) [1, 2, 3, 24, 25] (o1 32 (Aw aC)) (Ev (by simp only [go_sem, Ae, Int.reduceLT, Int.reduceAdd, Int.reduceSub, Nat.reduceMul, Nat.reduceGT, Nat.reduceLeDiff, decide_true, decide_false, Bool.false_eq_true, Int.reduceBEq, Int.reduceGT, Int.reduceLE, Int.reduceGE, beq_self_eq_true, aD, aE]; exact Ac)) ?_
    refine Bn <|Tn <|?_
    have aF : w64 1 = 1 := by decide
    refine Fe [1, 2, 3, 24, 25] Aa (Ev (by simp only [go_sem, Ae, Int.reduceLT, Int.reduceAdd, Int.reduceSub, Nat.reduceMul, Nat.reduceGT, Nat.reduceLeDiff, decide_true, decide_false, Bool.false_eq_true, Int.reduceBEq, Int.reduceGT, Int.reduceLE, Int.reduceGE, beq_self_eq_true, aF]; exact Ac)) ?_
    refine Un ?_
    refine Ug (m := 15) ?_
    refine Te [1, 2, 3, 24, 25, 26] Aa (Ev (by simp only [go_sem, Ae, Int.reduceLT, Int.reduceAdd, Int.reduceSub, Nat.reduceMul, Nat.reduceGT, Nat.reduceLeDiff, decide_true, decide_false, Bool.false_eq_true, Int.reduceBEq, Int.reduceGT, Int.reduceLE, Int.reduceGE, beq_self_eq_true]; exact Ac)) ?_
    refine Sq ?_
    refine Ct ?_
    refine Sk <|Tn <|Sq <|Sb <|?_
    have af : InR 1 11 := by decide
    refine Te [1, 2, 3, 5, 24, 25] Aa (Ev (by simp only [go_sem, Ae, Int.reduceLT, Int.reduceAdd, Int.reduceSub, Nat.reduceMul, Nat.reduceGT, Nat.reduceLeDiff, decide_true, decide_false, Bool.false_eq_true, Int.reduceBEq, Int.reduceGT, Int.reduceLE, Int.reduceGE, beq_self_eq_true, af, af.2]; exact Ac)) ?_
    refine Bd fun bJ aG => ?_
    refine Ck fun aH => ?_
    refine Lt fun o aI => ?_
    refine Fe (fr' := [(1, _), (2, _), (3, .bs false 2 (o.length) 0 (o.length)), (24, _), (25, _)]) (σ' := [_, _, .buf 4 (L cApi_Value o) false, _, _]) [1, 2, 3, 24, 25] (o1 32 (Aw aG)) (Ev (by simp only [go_sem, Ae, Int.reduceLT, Int.reduceAdd, Int.reduceSub, Nat.reduceMul, Nat.reduceGT, Nat.reduceLeDiff, decide_true, decide_false, Bool.false_eq_true, Int.reduceBEq, Int.reduceGT, Int.reduceLE, Int.reduceGE, beq_self_eq_true, aH, aI]; exact Ac)) ?_
    refine Bn <|Tn <|?_
    have aJ : w64 2 = 2 := by decide
    refine Fe [1, 2, 3, 24, 25] Aa (Ev (by simp only [go_sem, Ae, Int.reduceLT, Int.reduceAdd, Int.reduceSub, Nat.reduceMul, Nat.reduceGT, Nat.reduceLeDiff, decide_true, decide_false, Bool.false_eq_true, Int.reduceBEq, Int.reduceGT, Int.reduceLE, Int.reduceGE, beq_self_eq_true, aJ]; exact Ac)) ?_
    refine Un ?_
    refine Ug (m := 14) ?_
    refine Te [1, 2, 3, 24, 25, 26] Aa (Ev (by simp only [go_sem, Ae, Int.reduceLT, Int.reduceAdd, Int.reduceSub, Nat.reduceMul, Nat.reduceGT, Nat.reduceLeDiff, decide_true, decide_false, Bool.false_eq_true, Int.reduceBEq, Int.reduceGT, Int.reduceLE, Int.reduceGE, beq_self_eq_true]; exact Ac)) ?_
    refine Sq ?_
    refine Ct ?_
    refine Sk <|Tn <|Sq <|Sb <|?_
    have ag : InR 2 11 := by decide
    refine Te [1, 2, 3, 5, 24, 25] Aa (Ev (by simp only [go_sem, Ae, Int.reduceLT, Int.reduceAdd, Int.reduceSub, Nat.reduceMul, Nat.reduceGT, Nat.reduceLeDiff, decide_true, decide_false, Bool.false_eq_true, Int.reduceBEq, Int.reduceGT, Int.reduceLE, Int.reduceGE, beq_self_eq_true, ag, ag.2]; exact Ac)) ?_
    refine Bd fun bK aK => ?_
    refine Ck fun aL => ?_
    refine Lt fun p aM => ?_
    refine Fe (fr' := [(1, _), (2, _), (3, .bs false 2 (p.length) 0 (p.length)), (24, _), (25, _)]) (σ' := [_, _, .buf 4 (L cApi_Value p) false, _, _, _]) [1, 2, 3, 24, 25] (o1 32 (Aw aK)) (Ev (by simp only [go_sem, Ae, Int.reduceLT, Int.reduceAdd, Int.reduceSub, Nat.reduceMul, Nat.reduceGT, Nat.reduceLeDiff, decide_true, decide_false, Bool.false_eq_true, Int.reduceBEq, Int.reduceGT, Int.reduceLE, Int.reduceGE, beq_self_eq_true, aL, aM]; exact Ac)) ?_
    refine Bn <|Tn <|?_
    have aN : w64 3 = 3 := by decide
    refine Fe [1, 2, 3, 24, 25] Aa (Ev (by simp only [go_sem, Ae, Int.reduceLT, Int.reduceAdd, Int.reduceSub, Nat.reduceMul, Nat.reduceGT, Nat.reduceLeDiff, decide_true, decide_false, Bool.false_eq_true, Int.reduceBEq, Int.reduceGT, Int.reduceLE, Int.reduceGE, beq_self_eq_true, aN]; exact Ac)) ?_
    refine Un ?_
    refine Ug (m := 13) ?_
    refine Te [1, 2, 3, 24, 25, 26] Aa (Ev (by simp only [go_sem, Ae, Int.reduceLT, Int.reduceAdd, Int.reduceSub, Nat.reduceMul, Nat.reduceGT, Nat.reduceLeDiff, decide_true, decide_false, Bool.false_eq_true, Int.reduceBEq, Int.reduceGT, Int.reduceLE, Int.reduceGE, beq_self_eq_true]; exact Ac)) ?_
    refine Sq ?_
    refine Ct ?_
    refine Sk <|Tn <|Sq <|Sb <|?_
    have ah : InR 3 11 := by decide
    refine Te [1, 2, 3, 5, 24, 25] Aa (Ev (by simp only [go_sem, Ae, Int.reduceLT, Int.reduceAdd, Int.reduceSub, Nat.reduceMul, Nat.reduceGT, Nat.reduceLeDiff, decide_true, decide_false, Bool.false_eq_true, Int.reduceBEq, Int.reduceGT, Int.reduceLE, Int.reduceGE, beq_self_eq_true, ah, ah.2]; exact Ac)) ?_
    refine Bd fun bL aO => ?_
    refine Ck fun aP => ?_
    refine Lt fun q aQ => ?_
    refine Fe (fr' := [(1, _), (2, _), (3, .bs false 2 (q.length) 0 (q.length)), (24, _), (25, _)]) (σ' := [_, _, .buf 4 (L cApi_Value q) false, _, _, _, _]) [1, 2, 3, 24, 25] (o1 32 (Aw aO)) (Ev (by simp only [go_sem, Ae, Int.reduceLT, Int.reduceAdd, Int.reduceSub, Nat.reduceMul, Nat.reduceGT, Nat.reduceLeDiff, decide_true, decide_false, Bool.false_eq_true, Int.reduceBEq, Int.reduceGT, Int.reduceLE, Int.reduceGE, beq_self_eq_true, aP, aQ]; exact Ac)) ?_
    refine Bn <|Tn <|?_
    have aR : w64 4 = 4 := by decide
    refine Fe [1, 2, 3, 24, 25] Aa (Ev (by simp only [go_sem, Ae, Int.reduceLT, Int.reduceAdd, Int.reduceSub, Nat.reduceMul, Nat.reduceGT, Nat.reduceLeDiff, decide_true, decide_false, Bool.false_eq_true, Int.reduceBEq, Int.reduceGT, Int.reduceLE, Int.reduceGE, beq_self_eq_true, aR]; exact Ac)) ?_
    refine Un ?_
    refine Ug (m := 12) ?_
    refine Te [1, 2, 3, 24, 25, 26] Aa (Ev (by simp only [go_sem, Ae, Int.reduceLT, Int.reduceAdd, Int.reduceSub, Nat.reduceMul, Nat.reduceGT, Nat.reduceLeDiff, decide_true, decide_false, Bool.false_eq_true, Int.reduceBEq, Int.reduceGT, Int.reduceLE, Int.reduceGE, beq_self_eq_true]; exact Ac)) ?_
    refine Sq ?_
    refine Ct ?_
    refine Sk <|Tn <|Sq <|Sb <|?_
    have ai : InR 4 11 := by decide
    refine Te [1, 2, 3, 5, 24, 25] Aa (Ev (by simp only [go_sem, Ae, Int.reduceLT, Int.reduceAdd, Int.reduceSub, Nat.reduceMul, Nat.reduceGT, Nat.reduceLeDiff, decide_true, decide_false, Bool.false_eq_true, Int.reduceBEq, Int.reduceGT, Int.reduceLE, Int.reduceGE, beq_self_eq_true, ai, ai.2]; exact Ac)) ?_
    refine Bd fun bM aS => ?_
    refine Ck fun aT => ?_
    refine Lt fun s aU => ?_
    refine Fe (fr' := [(1, _), (2, _), (3, .bs false 2 (s.length) 0 (s.length)), (24, _), (25, _)]) (σ' := [_, _, .buf 4 (L cApi_Value s) false, _, _, _, _, _]) [1, 2, 3, 24, 25] (o1 32 (Aw aS)) (Ev (by simp only [go_sem, Ae, Int.reduceLT, Int.reduceAdd, Int.reduceSub, Nat.reduceMul, Nat.reduceGT, Nat.reduceLeDiff, decide_true, decide_false, Bool.false_eq_true, Int.reduceBEq, Int.reduceGT, Int.reduceLE, Int.reduceGE, beq_self_eq_true, aT, aU]; exact Ac)) ?_
    refine Bn <|Tn <|?_
    have aV : w64 5 = 5 := by decide
    refine Fe [1, 2, 3, 24, 25] Aa (Ev (by simp only [go_sem, Ae, Int.reduceLT, Int.reduceAdd, Int.reduceSub, Nat.reduceMul, Nat.reduceGT, Nat.reduceLeDiff, decide_true, decide_false, Bool.false_eq_true, Int.reduceBEq, Int.reduceGT, Int.reduceLE, Int.reduceGE, beq_self_eq_true, aV]; exact Ac)) ?_
    refine Un ?_
    refine Ug (m := 11) ?_
    refine Te [1, 2, 3, 24, 25, 26] Aa (Ev (by simp only [go_sem, Ae, Int.reduceLT, Int.reduceAdd, Int.reduceSub, Nat.reduceMul, Nat.reduceGT, Nat.reduceLeDiff, decide_true, decide_false, Bool.false_eq_true, Int.reduceBEq, Int.reduceGT, Int.reduceLE, Int.reduceGE, beq_self_eq_true]; exact Ac)) ?_
    refine Sq ?_
    refine Ct ?_
    refine Sk <|Tn <|Sq <|Sb <|?_
    have aj : InR 5 11 := by decide
    refine Te [1, 2, 3, 5, 24, 25] Aa (Ev (by simp only [go_sem, Ae, Int.reduceLT, Int.reduceAdd, Int.reduceSub, Nat.reduceMul, Nat.reduceGT, Nat.reduceLeDiff, decide_true, decide_false, Bool.false_eq_true, Int.reduceBEq, Int.reduceGT, Int.reduceLE, Int.reduceGE, beq_self_eq_true, aj, aj.2]; exact Ac)) ?_
    refine Bd fun bN aW => ?_
    refine Ck fun aX => ?_
    refine Lt fun t aY => ?_
    refine Fe (fr' := [(1, _), (2, _), (3, .bs false 2 (t.length) 0 (t.length)), (24, _), (25, _)]) (σ' := [_, _, .buf 4 (L cApi_Value t) false, _, _, _, _, _, _]) [1, 2, 3, 24, 25] (o1 32 (Aw aW)) (Ev (by simp only [go_sem, Ae, Int.reduceLT, Int.reduceAdd, Int.reduceSub, Nat.reduceMul, Nat.reduceGT, Nat.reduceLeDiff, decide_true, decide_false, Bool.false_eq_true, Int.reduceBEq, Int.reduceGT, Int.reduceLE, Int.reduceGE, beq_self_eq_true, aX, aY]; exact Ac)) ?_
    refine Bn <|Tn <|?_
    have aZ : w64 6 = 6 := by decide
    refine Fe [1, 2, 3, 24, 25] Aa (Ev (by simp only [go_sem, Ae, Int.reduceLT, Int.reduceAdd, Int.reduceSub, Nat.reduceMul, Nat.reduceGT, Nat.reduceLeDiff, decide_true, decide_false, Bool.false_eq_true, Int.reduceBEq, Int.reduceGT, Int.reduceLE, Int.reduceGE, beq_self_eq_true, aZ]; exact Ac)) ?_
    refine Un ?_
    refine Ug (m := 10) ?_
    refine Te [1, 2, 3, 24, 25, 26] Aa (Ev (by simp only [go_sem, Ae, Int.reduceLT, Int.reduceAdd, Int.reduceSub, Nat.reduceMul, Nat.reduceGT, Nat.reduceLeDiff, decide_true, decide_false, Bool.false_eq_true, Int.reduceBEq, Int.reduceGT, Int.reduceLE, Int.reduceGE, beq_self_eq_true]; exact Ac)) ?_
    refine Sq ?_
    refine Ct ?_
    refine Sk <|Tn <|Sq <|Sb <|?_
    have ak : InR 6 11 := by decide
    refine Te [1, 2, 3, 5, 24, 25] Aa (Ev (by simp only [go_sem, Ae, Int.reduceLT, Int.reduceAdd, Int.reduceSub, Nat.reduceMul, Nat.reduceGT, Nat.reduceLeDiff, decide_true, decide_false, Bool.false_eq_true, Int.reduceBEq, Int.reduceGT, Int.reduceLE, Int.reduceGE, beq_self_eq_true, ak, ak.2]; exact Ac)) ?_
    refine Bd fun bO a0 => ?_
    refine Ck fun a1 => ?_
    refine Lt fun u a2 => ?_
    refine Fe (fr' := [(1, _), (2, _), (3, .bs false 2 (u.length) 0 (u.length)), (24, _), (25, _)]) (σ' := [_, _, .buf 4 (L cApi_Value u) false, _, _, _, _, _, _, _]) [1, 2, 3, 24, 25] (o1 32 (Aw a0)) (Ev (by simp only [go_sem, Ae, Int.reduceLT, Int.reduceAdd, Int.reduceSub, Nat.reduceMul, Nat.reduceGT, Nat.reduceLeDiff, decide_true, decide_false, Bool.false_eq_true, Int.reduceBEq, Int.reduceGT, Int.reduceLE, Int.reduceGE, beq_self_eq_true, a1, a2]; exact Ac)) ?_
    refine Bn <|Tn <|?_
    have a3 : w64 7 = 7 := by decide
    refine Fe [1, 2, 3, 24, 25] Aa (Ev (by simp only [go_sem, Ae, Int.reduceLT, Int.reduceAdd, Int.reduceSub, Nat.reduceMul, Nat.reduceGT, Nat.reduceLeDiff, decide_true, decide_false, Bool.false_eq_true, Int.reduceBEq, Int.reduceGT, Int.reduceLE, Int.reduceGE, beq_self_eq_true, a3]; exact Ac)) ?_
    refine Un ?_
    refine Ug (m := 9) ?_
    refine Te [1, 2, 3, 24, 25, 26] Aa (Ev (by simp only [go_sem, Ae, Int.reduceLT, Int.reduceAdd, Int.reduceSub, Nat.reduceMul, Nat.reduceGT, Nat.reduceLeDiff, decide_true, decide_false, Bool.false_eq_true, Int.reduceBEq, Int.reduceGT, Int.reduceLE, Int.reduceGE, beq_self_eq_true]; exact Ac)) ?_
    refine Sq ?_
    refine Ct ?_
    refine Sk <|Tn <|Sq <|Sb <|?_
    have al : InR 7 11 := by decide
    refine Te [1, 2, 3, 5, 24, 25] Aa (Ev (by simp only [go_sem, Ae, Int.reduceLT, Int.reduceAdd, Int.reduceSub, Nat.reduceMul, Nat.reduceGT, Nat.reduceLeDiff, decide_true, decide_false, Bool.false_eq_true, Int.reduceBEq, Int.reduceGT, Int.reduceLE, Int.reduceGE, beq_self_eq_true, al, al.2]; exact Ac)) ?_
    refine Bd fun bP a4 => ?_
    refine Ck fun a5 => ?_
    refine Lt fun w a6 => ?_
    refine Fe (fr' := [(1, _), (2, _), (3, .bs false 2 (w.length) 0 (w.length)), (24, _), (25, _)]) (σ' := [_, _, .buf 4 (L cApi_Value w) false, _, _, _, _, _, _, _, _]) [1, 2, 3, 24, 25] (o1 32 (Aw a4)) (Ev (by simp only [go_sem, Ae, Int.reduceLT, Int.reduceAdd, Int.reduceSub, Nat.reduceMul, Nat.reduceGT, Nat.reduceLeDiff, decide_true, decide_false, Bool.false_eq_true, Int.reduceBEq, Int.reduceGT, Int.reduceLE, Int.reduceGE, beq_self_eq_true, a5, a6]; exact Ac)) ?_
    refine Bn <|Tn <|?_
    have a7 : w64 8 = 8 := by decide
    refine Fe [1, 2, 3, 24, 25] Aa (Ev (by simp only [go_sem, Ae, Int.reduceLT, Int.reduceAdd, Int.reduceSub, Nat.reduceMul, Nat.reduceGT, Nat.reduceLeDiff, decide_true, decide_false, Bool.false_eq_true, Int.reduceBEq, Int.reduceGT, Int.reduceLE, Int.reduceGE, beq_self_eq_true, a7]; exact Ac)) ?_
    refine Un ?_
    refine Ug (m := 8) ?_
    refine Te [1, 2, 3, 24, 25, 26] Aa (Ev (by simp only [go_sem, Ae, Int.reduceLT, Int.reduceAdd, Int.reduceSub, Nat.reduceMul, Nat.reduceGT, Nat.reduceLeDiff, decide_true, decide_false, Bool.false_eq_true, Int.reduceBEq, Int.reduceGT, Int.reduceLE, Int.reduceGE, beq_self_eq_true]; exact Ac)) ?_
    refine Sq ?_
    refine Ct ?_
    refine Sk <|Tn <|Sq <|Sb <|?_
    have am : InR 8 11 := by decide
    refine Te [1, 2, 3, 5, 24, 25] Aa (Ev (by simp only [go_sem, Ae, Int.reduceLT, Int.reduceAdd, Int.reduceSub, Nat.reduceMul, Nat.reduceGT, Nat.reduceLeDiff, decide_true, decide_false, Bool.false_eq_true, Int.reduceBEq, Int.reduceGT, Int.reduceLE, Int.reduceGE, beq_self_eq_true, am, am.2]; exact Ac)) ?_
    refine Bd fun bQ a8 => ?_
    refine Ck fun a9 => ?_
    refine Lt fun x ba => ?_
    refine Fe (fr' := [(1, _), (2, _), (3, .bs false 2 (x.length) 0 (x.length)), (24, _), (25, _)]) (σ' := [_, _, .buf 4 (L cApi_Value x) false, _, _, _, _, _, _, _, _, _]) [1, 2, 3, 24, 25] (o1 32 (Aw a8)) (Ev (by simp only [go_sem, Ae, Int.reduceLT, Int.reduceAdd, Int.reduceSub, Nat.reduceMul, Nat.reduceGT, Nat.reduceLeDiff, decide_true, decide_false, Bool.false_eq_true, Int.reduceBEq, Int.reduceGT, Int.reduceLE, Int.reduceGE, beq_self_eq_true, a9, ba]; exact Ac)) ?_
    refine Bn <|Tn <|?_
    have bb : w64 9 = 9 := by decide
    refine Fe [1, 2, 3, 24, 25] Aa (Ev (by simp only [go_sem, Ae, Int.reduceLT, Int.reduceAdd, Int.reduceSub, Nat.reduceMul, Nat.reduceGT, Nat.reduceLeDiff, decide_true, decide_false, Bool.false_eq_true, Int.reduceBEq, Int.reduceGT, Int.reduceLE, Int.reduceGE, beq_self_eq_true, bb]; exact Ac)) ?_
    refine Un ?_
    refine Ug (m := 7) ?_
    refine Te [1, 2, 3, 24, 25, 26] Aa (Ev (by simp only [go_sem, Ae, Int.reduceLT, Int.reduceAdd, Int.reduceSub, Nat.reduceMul, Nat.reduceGT, Nat.reduceLeDiff, decide_true, decide_false, Bool.false_eq_true, Int.reduceBEq, Int.reduceGT, Int.reduceLE, Int.reduceGE, beq_self_eq_true]; exact Ac)) ?_
    refine Sq ?_
    refine Ct ?_
    refine Sk <|Tn <|Sq <|Sb <|?_
    have an : InR 9 11 := by decide
    refine Te [1, 2, 3, 5, 24, 25] Aa (Ev (by simp only [go_sem, Ae, Int.reduceLT, Int.reduceAdd, Int.reduceSub, Nat.reduceMul, Nat.reduceGT, Nat.reduceLeDiff, decide_true, decide_false, Bool.false_eq_true, Int.reduceBEq, Int.reduceGT, Int.reduceLE, Int.reduceGE, beq_self_eq_true, an, an.2]; exact Ac)) ?_
    refine Bd fun bR bc => ?_
    refine Ck fun bd => ?_
    refine Lt fun y be => ?_
    refine Fe (fr' := [(1, _), (2, _), (3, .bs false 2 (y.length) 0 (y.length)), (24, _), (25, _)]) (σ' := [_, _, .buf 4 (L cApi_Value y) false, _, _, _, _, _, _, _, _, _, _]) [1, 2, 3, 24, 25] (o1 32 (Aw bc)) (Ev (by simp only [go_sem, Ae, Int.reduceLT, Int.reduceAdd, Int.reduceSub, Nat.reduceMul, Nat.reduceGT, Nat.reduceLeDiff, decide_true, decide_false, Bool.false_eq_true, Int.reduceBEq, Int.reduceGT, Int.reduceLE, Int.reduceGE, beq_self_eq_true, bd, be]; exact Ac)) ?_
    refine Bn <|Tn <|?_
    have bf : w64 10 = 10 := by decide
    refine Fe [1, 2, 3, 24, 25] Aa (Ev (by simp only [go_sem, Ae, Int.reduceLT, Int.reduceAdd, Int.reduceSub, Nat.reduceMul, Nat.reduceGT, Nat.reduceLeDiff, decide_true, decide_false, Bool.false_eq_true, Int.reduceBEq, Int.reduceGT, Int.reduceLE, Int.reduceGE, beq_self_eq_true, bf]; exact Ac)) ?_
    refine Un ?_
    refine Ug (m := 6) ?_
    refine Te [1, 2, 3, 24, 25, 26] Aa (Ev (by simp only [go_sem, Ae, Int.reduceLT, Int.reduceAdd, Int.reduceSub, Nat.reduceMul, Nat.reduceGT, Nat.reduceLeDiff, decide_true, decide_false, Bool.false_eq_true, Int.reduceBEq, Int.reduceGT, Int.reduceLE, Int.reduceGE, beq_self_eq_true]; exact Ac)) ?_
    refine Sq ?_
    refine Ct ?_
    refine Sk <|Tn <|Sq <|Sb <|?_
    have ao : InR 10 11 := by decide
    refine Te [1, 2, 3, 5, 24, 25] Aa (Ev (by simp only [go_sem, Ae, Int.reduceLT, Int.reduceAdd, Int.reduceSub, Nat.reduceMul, Nat.reduceGT, Nat.reduceLeDiff, decide_true, decide_false, Bool.false_eq_true, Int.reduceBEq, Int.reduceGT, Int.reduceLE, Int.reduceGE, beq_self_eq_true, ao, ao.2]; exact Ac)) ?_
    refine Bd fun bS bg => ?_
    refine Ck fun bh => ?_
    refine Lt fun z bi => ?_
    refine Fe (fr' := [(1, _), (2, _), (3, .bs false 2 (z.length) 0 (z.length)), (24, _), (25, _)]) (σ' := [_, _, .buf 4 (L cApi_Value z) false, _, _, _, _, _, _, _, _, _, _, _]) [1, 2, 3, 24, 25] (o1 32 (Aw bg)) (Ev (by simp only [go_sem, Ae, Int.reduceLT, Int.reduceAdd, Int.reduceSub, Nat.reduceMul, Nat.reduceGT, Nat.reduceLeDiff, decide_true, decide_false, Bool.false_eq_true, Int.reduceBEq, Int.reduceGT, Int.reduceLE, Int.reduceGE, beq_self_eq_true, bh, bi]; exact Ac)) ?_
    refine Bn <|Tn <|?_
    have bj : w64 11 = 11 := by decide
    refine Fe [1, 2, 3, 24, 25] Aa (Ev (by simp only [go_sem, Ae, Int.reduceLT, Int.reduceAdd, Int.reduceSub, Nat.reduceMul, Nat.reduceGT, Nat.reduceLeDiff, decide_true, decide_false, Bool.false_eq_true, Int.reduceBEq, Int.reduceGT, Int.reduceLE, Int.reduceGE, beq_self_eq_true, bj]; exact Ac)) ?_
    refine Un ?_
    refine Ug (m := 5) ?_
    refine Te [1, 2, 3, 24, 25, 26] Aa (Ev (by simp only [go_sem, Ae, Int.reduceLT, Int.reduceAdd, Int.reduceSub, Nat.reduceMul, Nat.reduceGT, Nat.reduceLeDiff, decide_true, decide_false, Bool.false_eq_true, Int.reduceBEq, Int.reduceGT, Int.reduceLE, Int.reduceGE, beq_self_eq_true]; exact Ac)) ?_
    refine Sq ?_
    refine Cf ?_
    refine Sx <|Tx <|Ux <|Bx <|?_
    exact Jm (ws [0, 1, 2])
  intro b
  refine Bd fun c bk => ?_
  refine Te [1, 2, 3, 6] (Aj (l := []) (m := [(36, 59, [.sl true (L cApi_Value ([]))], [.box [i64 a.Kind, i64 a.Ref.Railway, i64 a.Ref.No, i64 a.Wagon, i64 a.Place, i64 a.Other, i64 a.Number, i64 a.From, i64 a.To, i64 a.Code, i64 a.Dest, i64 a.Class, i64 a.Weight, i64 a.Amount, .str a.Text, .sl false (L Ab a.Parts)] false, .box [i64 0, i64 0, .sl true (L cU8 ([])), .sl true (L cApi_Value ([]))] false, .buf 4 (L cApi_Value b) false], _, _)]) trivial ⟨(wc (Mz bk) []), trivial⟩) Ev ?_
  refine Ja (fun d => ⟨As 70 [(1, .ref 0 0), (2, .ref 1 0), (3, .bs false 2 (b.length) 0 (b.length)), (6, .ref 3 0)], [.box [i64 a.Kind, i64 a.Ref.Railway, i64 a.Ref.No, i64 a.Wagon, i64 a.Place, i64 a.Other, i64 a.Number, i64 a.From, i64 a.To, i64 a.Code, i64 a.Dest, i64 a.Class, i64 a.Weight, i64 a.Amount, .str a.Text, .sl false (L Ab a.Parts)] false, .box [i64 0, i64 0, .sl true (L cU8 ([])), .sl true (L cApi_Value ([]))] false, .buf 4 (L cApi_Value b) false, .box [i64 c.Kind, i64 c.N, .sl true (L cU8 ([])), .bs false 4 (d.length) 0 (d.length)] false, .buf 4 (L cApi_Value d) false]⟩) ?_ ?_
  · intro bT
    refine T0 [1, 2, 3, 6, 38, 39, 40] ?_
    refine Sb ?_
    refine Lo (fun (v : Int × List Api_Value) => (⟨As 70 [(1, .ref 0 0), (2, .ref 1 0), (3, .bs false 2 (b.length) 0 (b.length)), (6, .ref 3 0), (38, .sl false (L Ab a.Parts)), (39, i64 ((a.Parts.length : Int))), (40, i64 v.1)], [.box [i64 a.Kind, i64 a.Ref.Railway, i64 a.Ref.No, i64 a.Wagon, i64 a.Place, i64 a.Other, i64 a.Number, i64 a.From, i64 a.To, i64 a.Code, i64 a.Dest, i64 a.Class, i64 a.Weight, i64 a.Amount, .str a.Text, .sl false (L Ab a.Parts)] false, .box [i64 0, i64 0, .sl true (L cU8 ([])), .sl true (L cApi_Value ([]))] false, .buf 4 (L cApi_Value b) false, .box [i64 c.Kind, i64 c.N, .sl true (L cU8 ([])), .bs false 4 (v.2.length) 0 (v.2.length)] false, .buf 4 (L cApi_Value v.2) false]⟩ : St)) ((I4 3 3 4 rfl rfl).trans (ws [0, 1, 2, 3, 4])) ?_
    rintro ⟨aa, e⟩ bU bl bm bn
    show Di a aa e = some bl → _
    unfold Di
    refine T0 [1, 2, 3, 6, 38, 39, 40, 41] ?_
    refine Sq ?_
    refine Cd ?_ ?_
    · refine Sk <|Tn <|Sq <|Sb <|?_
      refine Ck fun bo => ?_
      refine Lt fun g bp => ?_
      refine Lt fun i bq => ?_
      refine Lt fun j br => ?_
      refine Te (σ' := [_, _, _, _, _, .box [i64 g, i64 i, .bool j] false]) [1, 2, 3, 6, 8, 38, 39, 40] Aa (Ev (by simp only [go_sem, qR bo, bp, bq, br]; exact Ac)) ?_
      refine T0 [1, 2, 3, 6, 8, 9, 38, 39, 40] ?_
      refine Ja (fun ap => ⟨As 70 [(1, .ref 0 0), (2, .ref 1 0), (3, .bs false 2 (b.length) 0 (b.length)), (6, .ref 3 0), (8, .ref 4 0), (9, i64 ap), (38, .sl false (L Ab a.Parts)), (39, i64 ((a.Parts.length : Int))), (40, i64 aa)], [.box [i64 a.Kind, i64 a.Ref.Railway, i64 a.Ref.No, i64 a.Wagon, i64 a.Place, i64 a.Other, i64 a.Number, i64 a.From, i64 a.To, i64 a.Code, i64 a.Dest, i64 a.Class, i64 a.Weight, i64 a.Amount, .str a.Text, .sl false (L Ab a.Parts)] false, .box [i64 0, i64 0, .sl true (L cU8 ([])), .sl true (L cApi_Value ([]))] false, .buf 4 (L cApi_Value b) false, .box [i64 c.Kind, i64 c.N, .sl true (L cU8 ([])), .bs false 5 (e.length) 0 (e.length)] false, .box [i64 g, i64 i, .bool j] false, .buf 4 (L cApi_Value e) false]⟩) ?_ ?_
      · intro bV
        refine T0 [1, 2, 3, 6, 8, 9, 38, 39, 40, 45] ?_
        refine Cd ?_ ?_
        · refine F0 [1, 2, 3, 6, 8, 9, 38, 39, 40] ?_
          exact Jm (ws [0, 1, 2, 3, 5, 4])
        · refine Sk ?_
          exact Jm (ws [0, 1, 2, 3, 5, 4])
      intro ap
      refine Bd fun bt bu => ?_
      refine Bd fun bv bw => ?_
      refine Bd fun bx bz => ?_
      refine Bd fun ab bA => ?_
      refine Ck fun aq => ?_
      refine Lt fun ac ar => ?_
      intro h
      refine Aal hE mixed [[], [0], [], [2], [2, 3], [], [5], [2, 3, 4, 5, 6], [], [2, 3, 4, 5, 6, 7, 8], [2, 3, 4, 5, 6, 7, 8, 9], [2, 3, 4, 5, 6, 7, 8, 9, 10], [2, 3, 4, 5, 6, 7, 8, 9, 10, 11], [0, 1, 2, 3, 4, 5, 6, 7, 8, 9, 10, 11, 12], [0, 1, 2, 3, 4, 5, 6, 7, 8, 9, 10, 11, 12, 13], [0, 1, 2, 3, 4, 5, 6, 7, 8, 9, 10, 11, 12, 13, 14]] (by kernel_rfl) 11 [0, 1] [1, 2, 3, 6, 38, 39, 40, 46] (by kernel_rfl) (Cr Og) (fr' := [(1, .ref 0 0), (2, .ref 1 0), (3, .bs false 2 (b.length) 0 (b.length)), (6, .ref 3 0), (38, .sl false (L Ab a.Parts)), (39, i64 ((a.Parts.length : Int))), (40, i64 aa), (46, .ref 3 3)]) (σ' := [.box [i64 a.Kind, i64 a.Ref.Railway, i64 a.Ref.No, i64 a.Wagon, i64 a.Place, i64 a.Other, i64 a.Number, i64 a.From, i64 a.To, i64 a.Code, i64 a.Dest, i64 a.Class, i64 a.Weight, i64 a.Amount, .str a.Text, .sl false (L Ab a.Parts)] false, .box [i64 0, i64 0, .sl true (L cU8 ([])), .sl true (L cApi_Value ([]))] false, .buf 4 (L cApi_Value b) false, .box [i64 c.Kind, i64 c.N, .sl true (L cU8 ([])), .bs false 5 (ac.length) 0 (ac.length)] false, .box [i64 g, i64 i, .bool j] false, .buf 4 (L cApi_Value ac) false, .buf 4 (L cApi_Value (([(Api_Value.mk ab.Kind ab.N ([]) ab.L)] : List Api_Value))) false]) ⟨_, _, _, _, _, _, _, rfl, ?_, (Aj (l := [(50, _, _, _), (53, _, _, _), (55, _, _, _)]) (m := [(57, 59, [.sl false (L cApi_Value (([bt, bv, bx] : List Api_Value)))], [.box [i64 a.Kind, i64 a.Ref.Railway, i64 a.Ref.No, i64 a.Wagon, i64 a.Place, i64 a.Other, i64 a.Number, i64 a.From, i64 a.To, i64 a.Code, i64 a.Dest, i64 a.Class, i64 a.Weight, i64 a.Amount, .str a.Text, .sl false (L Ab a.Parts)] false, .box [i64 0, i64 0, .sl true (L cU8 ([])), .sl true (L cApi_Value ([]))] false, .buf 4 (L cApi_Value b) false, .box [i64 c.Kind, i64 c.N, .sl true (L cU8 ([])), .bs false 5 (e.length) 0 (e.length)] false, .box [i64 g, i64 i, .bool j] false, .buf 4 (L cApi_Value e) false], _, _)]) ⟨Aw  bu, Aw  bw, Aw  bz, trivial⟩ ⟨(wc (Hr bA) []), trivial⟩), ?_⟩ ?_
      · subst ar; simp only [go_sem, aq]
      · subst ar; simp only [go_sem, aq]
      revert h
      refine Bn <|Tn <|F0 [1, 2, 3, 6, 38, 39, 40] ?_
      exact Ln (ws [0, 1, 2, 3, 5])
    · refine Sx <|Tx <|Ly bn bm <|Bx <|?_
      exact Jm ((ws (l' := [(1, .ref 0 0), (2, .ref 1 0), (3, .bs false 2 (b.length) 0 (b.length)), (6, .ref 3 0)]) (σ' := [.box [i64 a.Kind, i64 a.Ref.Railway, i64 a.Ref.No, i64 a.Wagon, i64 a.Place, i64 a.Other, i64 a.Number, i64 a.From, i64 a.To, i64 a.Code, i64 a.Dest, i64 a.Class, i64 a.Weight, i64 a.Amount, .str a.Text, .sl false (L Ab a.Parts)] false, .box [i64 0, i64 0, .sl true (L cU8 ([])), .sl true (L cApi_Value ([]))] false, .buf 4 (L cApi_Value b) false, .box [i64 c.Kind, i64 c.N, .sl true (L cU8 ([])), .bs false 4 (e.length) 0 (e.length)] false, .buf 4 (L cApi_Value e) false]) [0, 1, 2, 3, 4]).trans (ws [0, 1, 2, 3, 4]))
  intro d
  refine Rw (Js 3 3 rfl rfl rfl gs gs) ?_
  refine Bd fun k bB => ?_
  refine Ck fun bC => ?_
  refine Bd fun au bD => ?_
  refine Lt fun ad bE => ?_
  refine De (σ' := [_, .box [i64 au.Kind, i64 au.N, .sl true (L cU8 ([])), .bs false 2 (ad.length) 0 (ad.length)] false, .buf 4 (L cApi_Value ad) false, _, _, _]) [[], [], [1], [1, 2], [], [1, 2, 3, 4], [0, 1, 2, 3, 4, 5], [0, 1, 2, 3, 4, 5, 6], [0, 1, 2, 3, 4, 5, 6, 7]] [2] (Aj (l := [(65, _, _, _)]) (m := [(69, 59, [.bs false 2 (((b ++ (([k, (Api_Value.mk c.Kind c.N ([]) d)] : List Api_Value)))).length) 0 (((b ++ (([k, (Api_Value.mk c.Kind c.N ([]) d)] : List Api_Value)))).length)], [.box [i64 a.Kind, i64 a.Ref.Railway, i64 a.Ref.No, i64 a.Wagon, i64 a.Place, i64 a.Other, i64 a.Number, i64 a.From, i64 a.To, i64 a.Code, i64 a.Dest, i64 a.Class, i64 a.Weight, i64 a.Amount, .str a.Text, .sl false (L Ab a.Parts)] false, .box [i64 0, i64 0, .sl true (L cU8 ([])), .sl true (L cApi_Value ([]))] false, .buf 4 (L cApi_Value ((b ++ (([k, (Api_Value.mk c.Kind c.N ([]) d)] : List Api_Value))))) false, .box [i64 c.Kind, i64 c.N, .sl true (L cU8 ([])), .sl false (L cApi_Value d)] false, .buf 4 (L cApi_Value d) true, .buf 4 (L cApi_Value (([k, (Api_Value.mk c.Kind c.N ([]) d)] : List Api_Value))) false], _, _)]) ⟨Vg  bB, trivial⟩ ⟨(wc (Nq bD) [2]), trivial⟩) (Ev (by simp only [go_sem, bC, bE]; exact Ac)) ?_
  exact Sr <|Rr
theorem Kx {a : List UInt8} {b : List UInt8} {r : Int} (h : Iu a b = some r) : Con B 113 [.sl false (L cU8 a), .sl false (L cU8 b)] [] (fun r' σ' => r' = i64 r ∧ σ' = []) :=
  Wp Tryz.func113 (by decide +kernel) rfl (by kernel_rfl) (by kernel_rfl) h
theorem Hw {a r} (h : Fz a = some r) : Con B 112 [i64 a] [] (fun r' σ' => r' = .bool r ∧ σ' = []) := by
  refine Cw 6 [.tmp 2] Tryz.func112 (fun F hE => ?_) h
  unfold Fz
  refine T0 [0] ?_
  refine T0 [2] ?_
  exact Sr <|Rr
theorem Gs {a b r} (h : E9 a b = some r) : Con B 74 [i64 a, i64 b] [] (fun r' σ' => r' = i64 r ∧ σ' = []) := by
  refine Cw 20 [.tmp 4] Tryz.func74 (fun F hE => ?_) h
  unfold E9
  refine T0 [0, 1] ?_
  refine Bd fun e c => ?_
  refine Te [0, 1, 5] (o1 8 (Hw c)) Ev ?_
  refine Bd fun f d => ?_
  refine Te [0, 1, 5, 6] (o1 10 (Hw d)) Ev ?_
  refine Sq <|T0 [0, 1, 6, 11] ?_
  refine Cd ?_ ?_
  · refine Sq <|T0 [12] ?_
    refine Cd ?_ ?_
    · refine T0 [4] ?_
      exact Sr <|Tr <|Tr <|Rr
    · refine Sk <|Tn <|T0 [4] ?_
      exact Sr <|Tr <|Rr
  · refine Sk <|Tn <|Sq <|T0 [0, 1, 13] ?_
    refine Cd ?_ ?_
    · refine T0 [4] ?_
      exact Sr <|Tr <|Rr
    · refine Sk <|Tn <|Sq <|T0 [0, 1, 16] ?_
      refine Cd ?_ ?_
      · refine T0 [4] ?_
        exact Sr <|Tr <|Rr
      · refine Sk <|Tn <|Sq <|T0 [19] ?_
        refine Cd ?_ ?_
        · refine T0 [4] ?_
          exact Sr <|Tr <|Rr
        · refine Sk <|Tn <|T0 [4] ?_
          exact Sr <|Rr
theorem Mo {a b r} (h : Im a b = some r) : Con B 75 [.sl false (L cU8 a), .sl false (L cU8 b)] [] (fun r' σ' => r' = i64 r ∧ σ' = []) := by
  refine Cw 8 [.tmp 4] Tryz.func75 (fun F hE => ?_) h
  unfold Im
  refine T0 [0, 1] ?_
  refine Bd fun d c => ?_
  refine Te [4] (o1 7 (Kx c)) Ev ?_
  exact Sr <|Rr
theorem Hk {f : Api_Value → Api_Value → Option (Int)} {s1_3072 : List Api_Value} {s2_3073 : List Api_Value} {b : Api_Value → Api_Value → Option (Int)} (h26 : ∀ {a0 : Api_Value} {a1 : Api_Value} {r : Int}, f a0 a1 = some r → Con B 26 [.agg [i64 a0.Kind, i64 a0.N, .sl false (L cU8 a0.B), .sl false (L cApi_Value a0.L)], .agg [i64 a1.Kind, i64 a1.N, .sl false (L cU8 a1.B), .sl false (L cApi_Value a1.L)]] [] (fun r' σ' => r' = i64 r ∧ σ' = [])) {a : Nat} (i : ∀ {a0 : Api_Value} {a1 : Api_Value} {r : Int}, b a0 a1 = some r → Con B a [.agg [i64 a0.Kind, i64 a0.N, .sl false (L cU8 a0.B), .sl false (L cApi_Value a0.L)], .agg [i64 a1.Kind, i64 a1.N, .sl false (L cU8 a1.B), .sl false (L cApi_Value a1.L)]] [] (fun r' σ' => r' = i64 r ∧ σ' = [])) {r : Int} (h : C9 f s1_3072 s2_3073 b = some r) : Con B 76 [.sl false (L cApi_Value s1_3072), .sl false (L cApi_Value s2_3073), .fn a []] [] (fun r' σ' => r' = i64 r ∧ σ' = []) := by
  refine Il (N := 39) (rs := [.tmp 6]) ok Tryz.func76 rfl (by decide +kernel) rfl rfl (Nat.le_of_ble_eq_true rfl) (fun F => ?_)
  have hE := ok.env F
  unfold C9 at h
  show Run (B.env F) 0 _ ⟨As 39 [(0, .sl false (L cApi_Value s1_3072)), (1, .sl false (L cApi_Value s2_3073)), (2, .fn a [])], []⟩ _
  refine I5 ?_
  revert h
  refine T0 [0, 1, 2] ?_
  refine Jo (fun _ => ⟨As 39 [(0, .sl false (L cApi_Value s1_3072)), (1, .sl false (L cApi_Value s2_3073))], []⟩) ?_ ?_
  · intro ae g
    refine T0 [0, 1, 2, 11, 12, 13] ?_
    refine Sb ?_
    refine Lo (fun c => ⟨As 39 [(0, .sl false (L cApi_Value s1_3072)), (1, .sl false (L cApi_Value s2_3073)), (2, .fn a []), (11, .sl false (L cApi_Value s1_3072)), (12, i64 ((s1_3072.length : Int))), (13, i64 c)], []⟩) (ws []) ?_
    rintro c af j d e
    show Cs s1_3072 s2_3073 b c = some j → _
    unfold Cs
    refine T0 [0, 1, 2, 11, 12, 13, 14] ?_
    refine Sq ?_
    refine Cd ?_ ?_
    · refine Sk <|Tn <|Sq <|Sb <|?_
      refine Ck fun k => ?_
      refine Lt fun l m => ?_
      refine Lt fun n o => ?_
      refine Lt fun p q => ?_
      refine Lt fun s t => ?_
      refine Te (σ' := [.box [i64 l, i64 n, .sl false (L cU8 p), .sl false (L cApi_Value s)] false]) [0, 1, 2, 7, 8, 11, 12, 13] Aa (Ev (by simp only [go_sem, qR k, m, o, q, t]; exact Ac)) ?_
      refine Sq <|T0 [0, 1, 2, 7, 8, 11, 12, 13, 21] ?_
      refine Cd ?_ ?_
      · refine T0 [6] ?_
        exact Sr <|Tr <|Br <|Tr <|Lr e d <|Br <|Jr g <|Rr
      · refine Sk <|Tn <|?_
        refine Ck fun u => ?_
        refine Lt fun v w => ?_
        refine Lt fun x y => ?_
        refine Lt fun z aa => ?_
        refine Lt fun ab ac => ?_
        refine Te (σ' := [_, .box [i64 v, i64 x, .sl false (L cU8 z), .sl false (L cApi_Value ab)] false]) [0, 1, 2, 8, 9, 11, 12, 13] Aa (Ev (by simp only [go_sem, qR u, w, y, aa, ac]; exact Ac)) ?_
        refine Bd fun ag ad => ?_
        refine Te [0, 1, 2, 10, 11, 12, 13] (o1 29 (i ad)) Ev ?_
        refine T0 [0, 1, 2, 10, 11, 12, 13, 31] ?_
        refine Cd ?_ ?_
        · refine T0 [6] ?_
          exact Sr <|Br <|Tr <|Lr e d <|Br <|Jr g <|Rr
        · refine Sk <|Bn <|Tn <|F0 [0, 1, 2, 11, 12, 13] ?_
          exact Ln (ws [])
    · refine Sx <|Tx <|Lx e d <|Bx <|?_
      exact Jn ((ws (l' := [(0, .sl false (L cApi_Value s1_3072)), (1, .sl false (L cApi_Value s2_3073))]) (σ' := []) []).trans (ws []))
  intro _
  refine Sq <|T0 [38] ?_
  refine Cd ?_ ?_
  · refine T0 [6] ?_
    exact Sr <|Tr <|Rr
  · refine Sk <|Tn <|T0 [6] ?_
    exact Sr <|Rr
theorem Kt {rec_ : Api_Value → Api_Value → Option (Int)} (hrec : ∀ {a : Api_Value} {b : Api_Value} {r : Int}, rec_ a b = some r → Con B 26 [.agg [i64 a.Kind, i64 a.N, .sl false (L cU8 a.B), .sl false (L cApi_Value a.L)], .agg [i64 b.Kind, i64 b.N, .sl false (L cU8 b.B), .sl false (L cApi_Value b.L)]] [] (fun r' σ' => r' = i64 r ∧ σ' = [])) {a : Api_Value} {b : Api_Value} {r : Int} (h : Gj rec_ a b = some r) : Con B 26 [.agg [i64 a.Kind, i64 a.N, .sl false (L cU8 a.B), .sl false (L cApi_Value a.L)], .agg [i64 b.Kind, i64 b.N, .sl false (L cU8 b.B), .sl false (L cApi_Value b.L)]] [] (fun r' σ' => r' = i64 r ∧ σ' = []) := by
  refine Il (N := 37) (rs := [.tmp 4]) ok Tryz.func26 rfl (by decide +kernel) rfl rfl (Nat.le_of_ble_eq_true rfl) (fun F => ?_)
  have hE := ok.env F
  unfold Gj at h
  show Run (B.env F) 0 _ ⟨As 37 [(0, .agg [i64 a.Kind, i64 a.N, .sl false (L cU8 a.B), .sl false (L cApi_Value a.L)]), (1, .agg [i64 b.Kind, i64 b.N, .sl false (L cU8 b.B), .sl false (L cApi_Value b.L)])], []⟩ _
  refine I5 ?_
  revert h
  refine T0 [2, 3] ?_
  refine Sq ?_
  refine Bd fun g c => ?_
  refine Te [2, 3, 5] (o1 10 (Gs c)) Ev ?_
  refine T0 [2, 3, 5, 12] ?_
  refine Cd ?_ ?_
  · refine T0 [4] ?_
    exact Sr <|Tr <|Rr
  · refine Sk <|Tn <|Sq <|T0 [2, 3, 15] ?_
    refine Sb <|T0 [2, 3, 15, 16] ?_
    refine Cd ?_ ?_
    · refine Bd fun i d => ?_
      refine Te [4] (o1 22 (Gs d)) Ev ?_
      exact Sr <|Br <|Tr <|Rr
    · refine T0 [2, 3, 15, 23] ?_
      refine Cd ?_ ?_
      · refine Bd fun j e => ?_
        refine Te [4] (o1 29 (Mo e)) Ev ?_
        exact Sr <|Br <|Tr <|Rr
      · refine T0 [2, 3, 30] ?_
        refine Cd ?_ ?_
        · refine Bd fun k f => ?_
          refine Te [4] (o1 36 (Hk (fun h => hrec h) (fun h => hrec h) f)) Ev ?_
          exact Sr <|Br <|Tr <|Rr
        · refine Sk <|Bn <|Tn <|T0 [4] ?_
          exact Sr <|Rr
theorem Kj (n : Nat) : ∀ {a : Api_Value} {b : Api_Value} {r : Int}, Gk n a b = some r → Con B 26 [.agg [i64 a.Kind, i64 a.N, .sl false (L cU8 a.B), .sl false (L cApi_Value a.L)], .agg [i64 b.Kind, i64 b.N, .sl false (L cU8 b.B), .sl false (L cApi_Value b.L)]] [] (fun r' σ' => r' = i64 r ∧ σ' = []) := by
  induction n with
  | zero => intro a b r h; cases h
  | succ n ih => intro a b r h; exact Kt ih h
theorem Dp {a : Api_Value} {b : Api_Value} {r : Int} (h : Lk a b = some r) : Con B 26 [.agg [i64 a.Kind, i64 a.N, .sl false (L cU8 a.B), .sl false (L cApi_Value a.L)], .agg [i64 b.Kind, i64 b.N, .sl false (L cU8 b.B), .sl false (L cApi_Value b.L)]] [] (fun r' σ' => r' = i64 r ∧ σ' = []) := Kj _ h
theorem P7 {rec_ : Api_Value → Api_Value → Option (Bool)} (hrec : ∀ {a : Api_Value} {b : Api_Value} {r : Bool}, rec_ a b = some r → Con B 79 [.agg [i64 a.Kind, i64 a.N, .sl false (L cU8 a.B), .sl false (L cApi_Value a.L)], .agg [i64 b.Kind, i64 b.N, .sl false (L cU8 b.B), .sl false (L cApi_Value b.L)]] [] (fun r' σ' => r' = .bool r ∧ σ' = [])) {a : Api_Value} {b : Api_Value} {r : Bool} (h : Mq rec_ a b = some r) : Con B 79 [.agg [i64 a.Kind, i64 a.N, .sl false (L cU8 a.B), .sl false (L cApi_Value a.L)], .agg [i64 b.Kind, i64 b.N, .sl false (L cU8 b.B), .sl false (L cApi_Value b.L)]] [] (fun r' σ' => r' = .bool r ∧ σ' = []) := by
  refine Il (N := 61) (rs := [.tmp 4]) ok Tryz.func79 rfl (by decide +kernel) rfl rfl (Nat.le_of_ble_eq_true rfl) (fun F => ?_)
  have hE := ok.env F
  unfold Mq at h
  show Run (B.env F) 0 _ ⟨As 61 [(0, .agg [i64 a.Kind, i64 a.N, .sl false (L cU8 a.B), .sl false (L cApi_Value a.L)]), (1, .agg [i64 b.Kind, i64 b.N, .sl false (L cU8 b.B), .sl false (L cApi_Value b.L)])], []⟩ _
  refine I5 ?_
  revert h
  refine T0 [2, 3] ?_
  refine Sq ?_
  refine Tw [2, 3, 41] (fun j => ⟨As 61 [(2, .ref 0 0), (3, .ref 1 0), (41, .bool j)], [.box [i64 a.Kind, i64 a.N, .sl false (L cU8 a.B), .sl false (L cApi_Value a.L)] false, .box [i64 b.Kind, i64 b.N, .sl false (L cU8 b.B), .sl false (L cApi_Value b.L)] false]⟩) ?_ ?_
  · intro _
    refine Sp (fun c => ?_) fun c => ?_
    · exact Lf Aa (Ev (by simp only [go_sem, c]; exact Ac)) (ws [0, 1])
    · refine Bd fun s e => ?_
      refine Sp (fun d => ?_) fun d => ?_
      · exact Lf (o1 14 (Dp e)) (Ev (by simp only [go_sem, c, d]; exact Ac)) (ws [0, 1])
      · refine Sp (fun f => ?_) fun f => ?_
        · exact Lf (o1 14 (Dp e)) (Ev (by simp only [go_sem, c, d, f]; exact Ac)) (ws [0, 1])
        · refine Sp (fun g => ?_) fun g => ?_
          · exact Lf (o1 14 (Dp e)) (Ev (by simp only [go_sem, c, d, f, g]; exact Ac)) (ws [0, 1])
          · exact Lf (o1 14 (Dp e)) (Ev (by simp only [go_sem, c, d, f, g]; exact Ac)) (ws [0, 1])
  intro j
  refine Cd ?_ ?_
  · refine T0 [4] ?_
    exact Sr <|Tr <|Rr
  · refine Sk <|Tn <|?_
    refine Jo (fun _ => ⟨As 61 [], []⟩) ?_ ?_
    · intro t m
      refine T0 [2, 3, 44, 45] ?_
      refine Sb ?_
      refine Lo (fun i => ⟨As 61 [(2, .ref 0 0), (3, .ref 1 0), (44, i64 ((a.L.length : Int))), (45, i64 i)], [.box [i64 a.Kind, i64 a.N, .sl false (L cU8 a.B), .sl false (L cApi_Value a.L)] false, .box [i64 b.Kind, i64 b.N, .sl false (L cU8 b.B), .sl false (L cApi_Value b.L)] false]⟩) (ws [0, 1]) ?_
      rintro i u n k l
      show Kw a b rec_ i = some n → _
      unfold Kw
      refine T0 [2, 3, 44, 45, 46] ?_
      refine Sq ?_
      refine Cd ?_ ?_
      · refine Sk <|Tn <|Sq <|Sb <|T0 [2, 3, 5, 44, 45] ?_
        refine Ck fun o => ?_
        refine Ck fun p => ?_
        refine Bd fun v q => ?_
        refine De [[], [0], [], [0, 1, 2], [0, 1, 2, 3], [], [5], [], [5, 6, 7], [5, 6, 7, 8], [0, 1, 2, 3, 4, 5, 6, 7, 8, 9], [0, 1, 2, 3, 4, 5, 6, 7, 8, 9, 10]] [2, 3, 44, 45, 59] (o1 58 (hrec q)) (Ev (by simp only [go_sem, qR o, qR p]; exact Ac)) ?_
        refine Cd ?_ ?_
        · refine T0 [4] ?_
          exact Sr <|Br <|Tr <|Lr l k <|Br <|Jr m <|Rr
        · refine Sk <|Bn <|Tn <|F0 [2, 3, 44, 45] ?_
          exact Ln (ws [0, 1])
      · refine Sx <|Tx <|Lx l k <|Bx <|?_
        exact Jn ((ws (l' := []) (σ' := []) []).trans (ws []))
    intro _
    refine T0 [4] ?_
    exact Sr <|Rr
theorem P3 (n : Nat) : ∀ {a : Api_Value} {b : Api_Value} {r : Bool}, Mc n a b = some r → Con B 79 [.agg [i64 a.Kind, i64 a.N, .sl false (L cU8 a.B), .sl false (L cApi_Value a.L)], .agg [i64 b.Kind, i64 b.N, .sl false (L cU8 b.B), .sl false (L cApi_Value b.L)]] [] (fun r' σ' => r' = .bool r ∧ σ' = []) := by
  induction n with
  | zero => intro a b r h; cases h
  | succ n ih => intro a b r h; exact P7 ih h
theorem Ud {a : Api_Value} {b : Api_Value} {r : Bool} (h : Zc a b = some r) : Con B 79 [.agg [i64 a.Kind, i64 a.N, .sl false (L cU8 a.B), .sl false (L cApi_Value a.L)], .agg [i64 b.Kind, i64 b.N, .sl false (L cU8 b.B), .sl false (L cApi_Value b.L)]] [] (fun r' σ' => r' = .bool r ∧ σ' = []) := P3 _ h
theorem Hv {a r} (h : Fy a = some r) : Con B 32 [.agg [i64 a.Kind, i64 a.N, .sl false (L cU8 a.B), .sl false (L cApi_Value a.L)]] [] (fun r' σ' => r' = .tup [.agg [i64 r.1.Kind, i64 r.1.Ref.Railway, i64 r.1.Ref.No, i64 r.1.Wagon, i64 r.1.Place, i64 r.1.Other, i64 r.1.Number, i64 r.1.From, i64 r.1.To, i64 r.1.Code, i64 r.1.Dest, i64 r.1.Class, i64 r.1.Weight, i64 r.1.Amount, .str r.1.Text, .sl false (L Ab r.1.Parts)], i64 r.2] ∧ σ' = []) := by
  refine Cw 114 [.cell 2 41, .tmp 3] Tryz.func32 (fun F hE => ?_) h
  unfold Fy
  refine T0 [1, 2] ?_
  refine Te [1, 2, 4] (Aj (l := []) (m := [(8, 51, [.ref 1 0], [.box [i64 a.Kind, i64 a.N, .sl false (L cU8 a.B), .sl false (L cApi_Value a.L)] false, .box [i64 0, i64 0, i64 0, i64 0, i64 0, i64 0, i64 0, i64 0, i64 0, i64 0, i64 0, i64 0, i64 0, i64 0, .str (([] : List UInt8)), .sl true (L Ab ([]))] false], .agg [.ref 1 3, .ref 1 4, .ref 1 5, .ref 1 6, .ref 1 7, .ref 1 8, .ref 1 9, .ref 1 10, .ref 1 11, .ref 1 12, .ref 1 13], [.box [i64 a.Kind, i64 a.N, .sl false (L cU8 a.B), .sl false (L cApi_Value a.L)] false, .box [i64 0, i64 0, i64 0, i64 0, i64 0, i64 0, i64 0, i64 0, i64 0, i64 0, i64 0, i64 0, i64 0, i64 0, .str (([] : List UInt8)), .sl true (L Ab ([]))] false])]) trivial ⟨A1, trivial⟩) Ev ?_
  refine Sq ?_
  refine Tw [1, 2, 4, 21] (fun i => ⟨As 114 [(1, .ref 0 0), (2, .ref 1 0), (4, .ref 2 0), (21, .bool i)], [.box [i64 a.Kind, i64 a.N, .sl false (L cU8 a.B), .sl false (L cApi_Value a.L)] false, .box [i64 0, i64 0, i64 0, i64 0, i64 0, i64 0, i64 0, i64 0, i64 0, i64 0, i64 0, i64 0, i64 0, i64 0, .str (([] : List UInt8)), .sl true (L Ab ([]))] false, .box [.ref 1 3, .ref 1 4, .ref 1 5, .ref 1 6, .ref 1 7, .ref 1 8, .ref 1 9, .ref 1 10, .ref 1 11, .ref 1 12, .ref 1 13] false]⟩) ?_ ?_
  · intro _
    refine Sp (fun f => ?_) fun f => ?_
    · exact Lf Aa (Ev (by simp only [go_sem, f]; exact Ac)) (ws [0, 1, 2])
    · refine Ck fun aa => ?_
      exact Lf Aa (Ev (by simp only [go_sem, f, qL aa]; exact Ac)) (ws [0, 1, 2])
  intro i
  refine Cd ?_ ?_
  · refine T0 [2, 3] ?_
    exact Sr <|Tr <|Rr
  · refine Sk <|Tn <|?_
    refine Ck fun ab => ?_
    refine Te [1, 2, 4] Aa (Ev (by simp only [go_sem, qL ab]; exact Ac)) ?_
    refine Ck fun ac => ?_
    refine Ck fun ad => ?_
    refine Ck fun ae => ?_
    refine Ck fun af => ?_
    refine Lt fun b ag => ?_
    refine Lt fun c ah => ?_
    refine De (σ' := [_, .box [i64 ((nth a.L 0).N), i64 b, i64 c, i64 0, i64 0, i64 0, i64 0, i64 0, i64 0, i64 0, i64 0, i64 0, i64 0, i64 0, .str (([] : List UInt8)), .sl true (L Ab ([]))] false, _]) [[], [0], [0, 1], [0, 1, 2], [0, 1, 2, 3], [0, 1, 2, 3, 4], [0, 1, 2, 3, 4, 5], [0, 1, 2, 3, 4, 5, 6], [], [8], [8, 9], [8, 9, 10], [8, 9, 10, 11], [8, 9, 10, 11, 12], [8, 9, 10, 11, 12, 13], [8, 9, 10, 11, 12, 13, 14], [0, 1, 2, 3, 4, 5, 6, 7, 8, 9, 10, 11, 12, 13, 14, 15], [0, 1, 2, 3, 4, 5, 6, 7, 8, 9, 10, 11, 12, 13, 14, 15, 16], [0, 1, 2, 3, 4, 5, 6, 7, 8, 9, 10, 11, 12, 13, 14, 15, 16, 17]] [1, 2, 4] Aa (Ev (by simp only [go_sem, qL ac, qL ad, qL ae, qL af, ag, ah]; exact Ac)) ?_
    refine Ja (fun _ => ⟨As 114 [(1, .ref 0 0), (2, .ref 1 0)], [.box [i64 a.Kind, i64 a.N, .sl false (L cU8 a.B), .sl false (L cApi_Value a.L)] false, .box [i64 ((nth a.L 0).N), i64 b, i64 c, i64 ((nth a.L 2).N), i64 ((nth a.L 3).N), i64 ((nth a.L 4).N), i64 ((nth a.L 5).N), i64 ((nth a.L 6).N), i64 ((nth a.L 7).N), i64 ((nth a.L 8).N), i64 ((nth a.L 9).N), i64 ((nth a.L 10).N), i64 ((nth a.L 11).N), i64 ((nth a.L 12).N), .str (([] : List UInt8)), .sl true (L Ab ([]))] false]⟩) ?_ ?_
    · intro bc
      refine T0 [1, 2, 4, 47] ?_
      refine Sb ?_
      refine Ul 17 ?_
      refine Ug (m := 16) ?_
      refine Te [1, 2, 4, 47, 48] Aa (Ev (by simp only [go_sem, Ae, Int.reduceLT, Int.reduceAdd, Int.reduceSub, Nat.reduceMul, Nat.reduceGT, Nat.reduceLeDiff, decide_true, decide_false, Bool.false_eq_true, Int.reduceBEq, Int.reduceGT, Int.reduceLE, Int.reduceGE, beq_self_eq_true]; exact Ac)) ?_
      refine Sq ?_
      refine Ct ?_
      refine Sk <|Tn <|Sq <|Sb <|?_
      refine Te [1, 2, 4, 5, 47] Aa (Ev (by simp only [go_sem, Ae, Int.reduceLT, Int.reduceAdd, Int.reduceSub, Nat.reduceMul, Nat.reduceGT, Nat.reduceLeDiff, decide_true, decide_false, Bool.false_eq_true, Int.reduceBEq, Int.reduceGT, Int.reduceLE, Int.reduceGE, beq_self_eq_true]; exact Ac)) ?_
      have j : InR 0 11 := by decide
      have ai : w64 2 = 2 := by decide
      refine Ck fun aj => ?_
      refine Ge [[], [0], [0, 1], [], [3], [], [5], [3, 4, 5, 6], [3, 4, 5, 6, 7], [3, 4, 5, 6, 7, 8], [0, 1, 2, 3, 4, 5, 6, 7, 8, 9], [0, 1, 2, 3, 4, 5, 6, 7, 8, 9, 10]] [1, 2, 4, 47] Aa (Ev (by simp only [go_sem, Ae, Int.reduceLT, Int.reduceAdd, Int.reduceSub, Nat.reduceMul, Nat.reduceGT, Nat.reduceLeDiff, decide_true, decide_false, Bool.false_eq_true, Int.reduceBEq, Int.reduceGT, Int.reduceLE, Int.reduceGE, beq_self_eq_true, j, j.2, ai, qL aj]; exact Ac)) ?_
      refine Bn <|Tn <|?_
      have ak : w64 1 = 1 := by decide
      refine Fe [1, 2, 4, 47] Aa (Ev (by simp only [go_sem, Ae, Int.reduceLT, Int.reduceAdd, Int.reduceSub, Nat.reduceMul, Nat.reduceGT, Nat.reduceLeDiff, decide_true, decide_false, Bool.false_eq_true, Int.reduceBEq, Int.reduceGT, Int.reduceLE, Int.reduceGE, beq_self_eq_true, ak]; exact Ac)) ?_
      refine Un ?_
      refine Ug (m := 15) ?_
      refine Te [1, 2, 4, 47, 48] Aa (Ev (by simp only [go_sem, Ae, Int.reduceLT, Int.reduceAdd, Int.reduceSub, Nat.reduceMul, Nat.reduceGT, Nat.reduceLeDiff, decide_true, decide_false, Bool.false_eq_true, Int.reduceBEq, Int.reduceGT, Int.reduceLE, Int.reduceGE, beq_self_eq_true]; exact Ac)) ?_
      refine Sq ?_
      refine Ct ?_
      refine Sk <|Tn <|Sq <|Sb <|?_
      refine Te [1, 2, 4, 5, 47] Aa (Ev (by simp only [go_sem, Ae, Int.reduceLT, Int.reduceAdd, Int.reduceSub, Nat.reduceMul, Nat.reduceGT, Nat.reduceLeDiff, decide_true, decide_false, Bool.false_eq_true, Int.reduceBEq, Int.reduceGT, Int.reduceLE, Int.reduceGE, beq_self_eq_true]; exact Ac)) ?_
      have k : InR 1 11 := by decide
      have al : w64 3 = 3 := by decide
      refine Ck fun am => ?_
      refine Ge [[], [0], [0, 1], [], [3], [], [5], [3, 4, 5, 6], [3, 4, 5, 6, 7], [3, 4, 5, 6, 7, 8], [0, 1, 2, 3, 4, 5, 6, 7, 8, 9], [0, 1, 2, 3, 4, 5, 6, 7, 8, 9, 10]] [1, 2, 4, 47] Aa (Ev (by simp only [go_sem, Ae, Int.reduceLT, Int.reduceAdd, Int.reduceSub, Nat.reduceMul, Nat.reduceGT, Nat.reduceLeDiff, decide_true, decide_false, Bool.false_eq_true, Int.reduceBEq, Int.reduceGT, Int.reduceLE, Int.reduceGE, beq_self_eq_true, k, k.2, al, qL am]; exact Ac)) ?_
      refine Bn <|Tn <|?_
      have an : w64 2 = 2 := by decide
      refine Fe [1, 2, 4, 47] Aa (Ev (by simp only [go_sem, Ae, Int.reduceLT, Int.reduceAdd, Int.reduceSub, Nat.reduceMul, Nat.reduceGT, Nat.reduceLeDiff, decide_true, decide_false, Bool.false_eq_true, Int.reduceBEq, Int.reduceGT, Int.reduceLE, Int.reduceGE, beq_self_eq_true, an]; exact Ac)) ?_
      refine Un ?_
      refine Ug (m := 14) ?_
      refine Te [1, 2, 4, 47, 48] Aa (Ev (by simp only [go_sem, Ae, Int.reduceLT, Int.reduceAdd, Int.reduceSub, Nat.reduceMul, Nat.reduceGT, Nat.reduceLeDiff, decide_true, decide_false, Bool.false_eq_true, Int.reduceBEq, Int.reduceGT, Int.reduceLE, Int.reduceGE, beq_self_eq_true]; exact Ac)) ?_
      refine Sq ?_
      refine Ct ?_
      refine Sk <|Tn <|Sq <|Sb <|?_
      refine Te [1, 2, 4, 5, 47] Aa (Ev (by simp only [go_sem, Ae, Int.reduceLT, Int.reduceAdd, Int.reduceSub, Nat.reduceMul, Nat.reduceGT, Nat.reduceLeDiff, decide_true, decide_false, Bool.false_eq_true, Int.reduceBEq, Int.reduceGT, Int.reduceLE, Int.reduceGE, beq_self_eq_true]; exact Ac)) ?_
      have n : InR 2 11 := by decide
      have ao : w64 4 = 4 := by decide
      refine Ck fun ap => ?_
      refine Ge [[], [0], [0, 1], [], [3], [], [5], [3, 4, 5, 6], [3, 4, 5, 6, 7], [3, 4, 5, 6, 7, 8], [0, 1, 2, 3, 4, 5, 6, 7, 8, 9], [0, 1, 2, 3, 4, 5, 6, 7, 8, 9, 10]] [1, 2, 4, 47] Aa (Ev (by simp only [go_sem, Ae, Int.reduceLT, Int.reduceAdd, Int.reduceSub, Nat.reduceMul, Nat.reduceGT, Nat.reduceLeDiff, decide_true, decide_false, Bool.false_eq_true, Int.reduceBEq, Int.reduceGT, Int.reduceLE, Int.reduceGE, beq_self_eq_true, n, n.2, ao, qL ap]; exact Ac)) ?_
      refine Bn <|Tn <|?_
      have aq : w64 3 = 3 := by decide
      refine Fe [1, 2, 4, 47] Aa (Ev (by simp only [go_sem, Ae, Int.reduceLT, Int.reduceAdd, Int.reduceSub, Nat.reduceMul, Nat.reduceGT, Nat.reduceLeDiff, decide_true, decide_false, Bool.false_eq_true, Int.reduceBEq, Int.reduceGT, Int.reduceLE, Int.reduceGE, beq_self_eq_true, aq]; exact Ac)) ?_
      refine Un ?_
      refine Ug (m := 13) ?_
      refine Te [1, 2, 4, 47, 48] Aa (Ev (by simp only [go_sem, Ae, Int.reduceLT, Int.reduceAdd, Int.reduceSub, Nat.reduceMul, Nat.reduceGT, Nat.reduceLeDiff, decide_true, decide_false, Bool.false_eq_true, Int.reduceBEq, Int.reduceGT, Int.reduceLE, Int.reduceGE, beq_self_eq_true]; exact Ac)) ?_
      refine Sq ?_
      refine Ct ?_
      refine Sk <|Tn <|Sq <|Sb <|?_
      refine Te [1, 2, 4, 5, 47] Aa (Ev (by simp only [go_sem, Ae, Int.reduceLT, Int.reduceAdd, Int.reduceSub, Nat.reduceMul, Nat.reduceGT, Nat.reduceLeDiff, decide_true, decide_false, Bool.false_eq_true, Int.reduceBEq, Int.reduceGT, Int.reduceLE, Int.reduceGE, beq_self_eq_true]; exact Ac)) ?_
      have o : InR 3 11 := by decide
      have ar : w64 5 = 5 := by decide
      refine Ck fun au => ?_
      refine Ge [[], [0], [0, 1], [], [3], [], [5], [3, 4, 5, 6], [3, 4, 5, 6, 7], [3, 4, 5, 6, 7, 8], [0, 1, 2, 3, 4, 5, 6, 7, 8, 9], [0, 1, 2, 3, 4, 5, 6, 7, 8, 9, 10]] [1, 2, 4, 47] Aa (Ev (by simp only [go_sem, Ae, Int.reduceLT, Int.reduceAdd, Int.reduceSub, Nat.reduceMul, Nat.reduceGT, Nat.reduceLeDiff, decide_true, decide_false, Bool.false_eq_true, Int.reduceBEq, Int.reduceGT, Int.reduceLE, Int.reduceGE, beq_self_eq_true, o, o.2, ar, qL au]; exact Ac)) ?_
      refine Bn <|Tn <|?_
      have av : w64 4 = 4 := by decide
      refine Fe [1, 2, 4, 47] Aa (Ev (by simp only [go_sem, Ae, Int.reduceLT, Int.reduceAdd, Int.reduceSub, Nat.reduceMul, Nat.reduceGT, Nat.reduceLeDiff, decide_true, decide_false, Bool.false_eq_true, Int.reduceBEq, Int.reduceGT, Int.reduceLE, Int.reduceGE, beq_self_eq_true, av]; exact Ac)) ?_
      refine Un ?_
      refine Ug (m := 12) ?_
      refine Te [1, 2, 4, 47, 48] Aa (Ev (by simp only [go_sem, Ae, Int.reduceLT, Int.reduceAdd, Int.reduceSub, Nat.reduceMul, Nat.reduceGT, Nat.reduceLeDiff, decide_true, decide_false, Bool.false_eq_true, Int.reduceBEq, Int.reduceGT, Int.reduceLE, Int.reduceGE, beq_self_eq_true]; exact Ac)) ?_
      refine Sq ?_
      refine Ct ?_
      refine Sk <|Tn <|Sq <|Sb <|?_
      refine Te [1, 2, 4, 5, 47] Aa (Ev (by simp only [go_sem, Ae, Int.reduceLT, Int.reduceAdd, Int.reduceSub, Nat.reduceMul, Nat.reduceGT, Nat.reduceLeDiff, decide_true, decide_false, Bool.false_eq_true, Int.reduceBEq, Int.reduceGT, Int.reduceLE, Int.reduceGE, beq_self_eq_true]; exact Ac)) ?_
      have p : InR 4 11 := by decide
      have aw : w64 6 = 6 := by decide
      refine Ck fun ax => ?_
      refine Ge [[], [0], [0, 1], [], [3], [], [5], [3, 4, 5, 6], [3, 4, 5, 6, 7], [3, 4, 5, 6, 7, 8], [0, 1, 2, 3, 4, 5, 6, 7, 8, 9], [0, 1, 2, 3, 4, 5, 6, 7, 8, 9, 10]] [1, 2, 4, 47] Aa (Ev (by simp only [go_sem, Ae, Int.reduceLT, Int.reduceAdd, Int.reduceSub, Nat.reduceMul, Nat.reduceGT, Nat.reduceLeDiff, decide_true, decide_false, Bool.false_eq_true, Int.reduceBEq, Int.reduceGT, Int.reduceLE, Int.reduceGE, beq_self_eq_true, p, p.2, aw, qL ax]; exact Ac)) ?_
      refine Bn <|Tn <|?_
      have ay : w64 5 = 5 := by decide
      refine Fe [1, 2, 4, 47] Aa (Ev (by simp only [go_sem, Ae, Int.reduceLT, Int.reduceAdd, Int.reduceSub, Nat.reduceMul, Nat.reduceGT, Nat.reduceLeDiff, decide_true, decide_false, Bool.false_eq_true, Int.reduceBEq, Int.reduceGT, Int.reduceLE, Int.reduceGE, beq_self_eq_true, ay]; exact Ac)) ?_
      refine Un ?_
      refine Ug (m := 11) ?_
      refine Te [1, 2, 4, 47, 48] Aa (Ev (by simp only [go_sem, Ae, Int.reduceLT, Int.reduceAdd, Int.reduceSub, Nat.reduceMul, Nat.reduceGT, Nat.reduceLeDiff, decide_true, decide_false, Bool.false_eq_true, Int.reduceBEq, Int.reduceGT, Int.reduceLE, Int.reduceGE, beq_self_eq_true]; exact Ac)) ?_
      refine Sq ?_
      refine Ct ?_
      refine Sk <|Tn <|Sq <|Sb <|?_
      refine Te [1, 2, 4, 5, 47] Aa (Ev (by simp only [go_sem, Ae, Int.reduceLT, Int.reduceAdd, Int.reduceSub, Nat.reduceMul, Nat.reduceGT, Nat.reduceLeDiff, decide_true, decide_false, Bool.false_eq_true, Int.reduceBEq, Int.reduceGT, Int.reduceLE, Int.reduceGE, beq_self_eq_true]; exact Ac)) ?_
      have q : InR 5 11 := by decide
      have az : w64 7 = 7 := by decide
      refine Ck fun aA => ?_
      refine Ge [[], [0], [0, 1], [], [3], [], [5], [3, 4, 5, 6], [3, 4, 5, 6, 7], [3, 4, 5, 6, 7, 8], [0, 1, 2, 3, 4, 5, 6, 7, 8, 9], [0, 1, 2, 3, 4, 5, 6, 7, 8, 9, 10]] [1, 2, 4, 47] Aa (Ev (by simp only [go_sem, Ae, Int.reduceLT, Int.reduceAdd, Int.reduceSub, Nat.reduceMul, Nat.reduceGT, Nat.reduceLeDiff, decide_true, decide_false, Bool.false_eq_true, Int.reduceBEq, Int.reduceGT, Int.reduceLE, Int.reduceGE, beq_self_eq_true, q, q.2, az, qL aA]; exact Ac)) ?_
      refine Bn <|Tn <|?_
      have aB : w64 6 = 6 := by decide
      refine Fe [1, 2, 4, 47] Aa (Ev (by simp only [go_sem, Ae, Int.reduceLT, Int.reduceAdd, Int.reduceSub, Nat.reduceMul, Nat.reduceGT, Nat.reduceLeDiff, decide_true, decide_false, Bool.false_eq_true, Int.reduceBEq, Int.reduceGT, Int.reduceLE, Int.reduceGE, beq_self_eq_true, aB]; exact Ac)) ?_
      refine Un ?_
      refine Ug (m := 10) ?_
      refine Te [1, 2, 4, 47, 48] Aa (Ev (by simp only [go_sem, Ae, Int.reduceLT, Int.reduceAdd, Int.reduceSub, Nat.reduceMul, Nat.reduceGT, Nat.reduceLeDiff, decide_true, decide_false, Bool.false_eq_true, Int.reduceBEq, Int.reduceGT, Int.reduceLE, Int.reduceGE, beq_self_eq_true]; exact Ac)) ?_
      refine Sq ?_
      refine Ct ?_
      refine Sk <|Tn <|Sq <|Sb <|?_
      refine Te [1, 2, 4, 5, 47] Aa (Ev (by simp only [go_sem, Ae, Int.reduceLT, Int.reduceAdd, Int.reduceSub, Nat.reduceMul, Nat.reduceGT, Nat.reduceLeDiff, decide_true, decide_false, Bool.false_eq_true, Int.reduceBEq, Int.reduceGT, Int.reduceLE, Int.reduceGE, beq_self_eq_true]; exact Ac)) ?_
      have s : InR 6 11 := by decide
      have aC : w64 8 = 8 := by decide
      refine Ck fun aD => ?_
      refine Ge [[], [0], [0, 1], [], [3], [], [5], [3, 4, 5, 6], [3, 4, 5, 6, 7], [3, 4, 5, 6, 7, 8], [0, 1, 2, 3, 4, 5, 6, 7, 8, 9], [0, 1, 2, 3, 4, 5, 6, 7, 8, 9, 10]] [1, 2, 4, 47] Aa (Ev (by simp only [go_sem, Ae, Int.reduceLT, Int.reduceAdd, Int.reduceSub, Nat.reduceMul, Nat.reduceGT, Nat.reduceLeDiff, decide_true, decide_false, Bool.false_eq_true, Int.reduceBEq, Int.reduceGT, Int.reduceLE, Int.reduceGE, beq_self_eq_true, s, s.2, aC, qL aD]; exact Ac)) ?_
      refine Bn <|Tn <|?_
      have aE : w64 7 = 7 := by decide
      refine Fe [1, 2, 4, 47] Aa (Ev (by simp only [go_sem, Ae, Int.reduceLT, Int.reduceAdd, Int.reduceSub, Nat.reduceMul, Nat.reduceGT, Nat.reduceLeDiff, decide_true, decide_false, Bool.false_eq_true, Int.reduceBEq, Int.reduceGT, Int.reduceLE, Int.reduceGE, beq_self_eq_true, aE]; exact Ac)) ?_
      refine Un ?_
      refine Ug (m := 9) ?_
      refine Te [1, 2, 4, 47, 48] Aa (Ev (by simp only [go_sem, Ae, Int.reduceLT, Int.reduceAdd, Int.reduceSub, Nat.reduceMul, Nat.reduceGT, Nat.reduceLeDiff, decide_true, decide_false, Bool.false_eq_true, Int.reduceBEq, Int.reduceGT, Int.reduceLE, Int.reduceGE, beq_self_eq_true]; exact Ac)) ?_
      refine Sq ?_
      refine Ct ?_
      refine Sk <|Tn <|Sq <|Sb <|?_
      refine Te [1, 2, 4, 5, 47] Aa (Ev (by simp only [go_sem, Ae, Int.reduceLT, Int.reduceAdd, Int.reduceSub, Nat.reduceMul, Nat.reduceGT, Nat.reduceLeDiff, decide_true, decide_false, Bool.false_eq_true, Int.reduceBEq, Int.reduceGT, Int.reduceLE, Int.reduceGE, beq_self_eq_true]; exact Ac)) ?_
      have t : InR 7 11 := by decide
      have aF : w64 9 = 9 := by decide
      refine Ck fun aG => ?_
      refine Ge [[], [0], [0, 1], [], [3], [], [5], [3, 4, 5, 6], [3, 4, 5, 6, 7], [3, 4, 5, 6, 7, 8], [0, 1, 2, 3, 4, 5, 6, 7, 8, 9], [0, 1, 2, 3, 4, 5, 6, 7, 8, 9, 10]] [1, 2, 4, 47] Aa (Ev (by simp only [go_sem, Ae, Int.reduceLT, Int.reduceAdd, Int.reduceSub, Nat.reduceMul, Nat.reduceGT, Nat.reduceLeDiff, decide_true, decide_false, Bool.false_eq_true, Int.reduceBEq, Int.reduceGT, Int.reduceLE, Int.reduceGE, beq_self_eq_true, t, t.2, aF, qL aG]; exact Ac)) ?_
      refine Bn <|Tn <|?_
      have aH : w64 8 = 8 := by decide
      refine Fe [1, 2, 4, 47] Aa (Ev (by simp only [go_sem, Ae, Int.reduceLT, Int.reduceAdd, Int.reduceSub, Nat.reduceMul, Nat.reduceGT, Nat.reduceLeDiff, decide_true, decide_false, Bool.false_eq_true, Int.reduceBEq, Int.reduceGT, Int.reduceLE, Int.reduceGE, beq_self_eq_true, aH]; exact Ac)) ?_
      refine Un ?_
      refine Ug (m := 8) ?_
      refine Te [1, 2, 4, 47, 48] Aa (Ev (by simp only [go_sem, Ae, Int.reduceLT, Int.reduceAdd, Int.reduceSub, Nat.reduceMul, Nat.reduceGT, Nat.reduceLeDiff, decide_true, decide_false, Bool.false_eq_true, Int.reduceBEq, Int.reduceGT, Int.reduceLE, Int.reduceGE, beq_self_eq_true]; exact Ac)) ?_
      refine Sq ?_
      refine Ct ?_
      refine Sk <|Tn <|Sq <|Sb <|?_
      refine Te [1, 2, 4, 5, 47] Aa (Ev (by simp only [go_sem, Ae, Int.reduceLT, Int.reduceAdd, Int.reduceSub, Nat.reduceMul, Nat.reduceGT, Nat.reduceLeDiff, decide_true, decide_false, Bool.false_eq_true, Int.reduceBEq, Int.reduceGT, Int.reduceLE, Int.reduceGE, beq_self_eq_true]; exact Ac)) ?_
      have u : InR 8 11 := by decide
      have aI : w64 10 = 10 := by decide
      refine Ck fun aJ => ?_
      refine Ge [[], [0], [0, 1], [], [3], [], [5], [3, 4, 5, 6], [3, 4, 5, 6, 7], [3, 4, 5, 6, 7, 8], [0, 1, 2, 3, 4, 5, 6, 7, 8, 9], [0, 1, 2, 3, 4, 5, 6, 7, 8, 9, 10]] [1, 2, 4, 47] Aa (Ev (by simp only [go_sem, Ae, Int.reduceLT, Int.reduceAdd, Int.reduceSub, Nat.reduceMul, Nat.reduceGT, Nat.reduceLeDiff, decide_true, decide_false, Bool.false_eq_true, Int.reduceBEq, Int.reduceGT, Int.reduceLE, Int.reduceGE, beq_self_eq_true, u, u.2, aI, qL aJ]; exact Ac)) ?_
      refine Bn <|Tn <|?_
      have aK : w64 9 = 9 := by decide
      refine Fe [1, 2, 4, 47] Aa (Ev (by simp only [go_sem, Ae, Int.reduceLT, Int.reduceAdd, Int.reduceSub, Nat.reduceMul, Nat.reduceGT, Nat.reduceLeDiff, decide_true, decide_false, Bool.false_eq_true, Int.reduceBEq, Int.reduceGT, Int.reduceLE, Int.reduceGE, beq_self_eq_true, aK]; exact Ac)) ?_
      refine Un ?_
      refine Ug (m := 7) ?_
      refine Te [1, 2, 4, 47, 48] Aa (Ev (by simp only [go_sem, Ae, Int.reduceLT, Int.reduceAdd, Int.reduceSub, Nat.reduceMul, Nat.reduceGT, Nat.reduceLeDiff, decide_true, decide_false, Bool.false_eq_true, Int.reduceBEq, Int.reduceGT, Int.reduceLE, Int.reduceGE, beq_self_eq_true]; exact Ac)) ?_
      refine Sq ?_
      refine Ct ?_
      refine Sk <|Tn <|Sq <|Sb <|?_
      refine Te [1, 2, 4, 5, 47] Aa (Ev (by simp only [go_sem, Ae, Int.reduceLT, Int.reduceAdd, Int.reduceSub, Nat.reduceMul, Nat.reduceGT, Nat.reduceLeDiff, decide_true, decide_false, Bool.false_eq_true, Int.reduceBEq, Int.reduceGT, Int.reduceLE, Int.reduceGE, beq_self_eq_true]; exact Ac)) ?_
      have w : InR 9 11 := by decide
      have aL : w64 11 = 11 := by decide
      refine Ck fun aM => ?_
      refine Ge [[], [0], [0, 1], [], [3], [], [5], [3, 4, 5, 6], [3, 4, 5, 6, 7], [3, 4, 5, 6, 7, 8], [0, 1, 2, 3, 4, 5, 6, 7, 8, 9], [0, 1, 2, 3, 4, 5, 6, 7, 8, 9, 10]] [1, 2, 4, 47] Aa (Ev (by simp only [go_sem, Ae, Int.reduceLT, Int.reduceAdd, Int.reduceSub, Nat.reduceMul, Nat.reduceGT, Nat.reduceLeDiff, decide_true, decide_false, Bool.false_eq_true, Int.reduceBEq, Int.reduceGT, Int.reduceLE, Int.reduceGE, beq_self_eq_true, w, w.2, aL, qL aM]; exact Ac)) ?_
      refine Bn <|Tn <|?_
      have aN : w64 10 = 10 := by decide
      refine Fe [1, 2, 4, 47] Aa (Ev (by simp only [go_sem, Ae, Int.reduceLT, Int.reduceAdd, Int.reduceSub, Nat.reduceMul, Nat.reduceGT, Nat.reduceLeDiff, decide_true, decide_false, Bool.false_eq_true, Int.reduceBEq, Int.reduceGT, Int.reduceLE, Int.reduceGE, beq_self_eq_true, aN]; exact Ac)) ?_
      refine Un ?_
      refine Ug (m := 6) ?_
      refine Te [1, 2, 4, 47, 48] Aa (Ev (by simp only [go_sem, Ae, Int.reduceLT, Int.reduceAdd, Int.reduceSub, Nat.reduceMul, Nat.reduceGT, Nat.reduceLeDiff, decide_true, decide_false, Bool.false_eq_true, Int.reduceBEq, Int.reduceGT, Int.reduceLE, Int.reduceGE, beq_self_eq_true]; exact Ac)) ?_
      refine Sq ?_
      refine Ct ?_
      refine Sk <|Tn <|Sq <|Sb <|?_
      refine Te [1, 2, 4, 5, 47] Aa (Ev (by simp only [go_sem, Ae, Int.reduceLT, Int.reduceAdd, Int.reduceSub, Nat.reduceMul, Nat.reduceGT, Nat.reduceLeDiff, decide_true, decide_false, Bool.false_eq_true, Int.reduceBEq, Int.reduceGT, Int.reduceLE, Int.reduceGE, beq_self_eq_true]; exact Ac)) ?_
      have x : InR 10 11 := by decide
      have aO : w64 12 = 12 := by decide
      refine Ck fun aP => ?_
      refine Ge [[], [0], [0, 1], [], [3], [], [5], [3, 4, 5, 6], [3, 4, 5, 6, 7], [3, 4, 5, 6, 7, 8], [0, 1, 2, 3, 4, 5, 6, 7, 8, 9], [0, 1, 2, 3, 4, 5, 6, 7, 8, 9, 10]] [1, 2, 4, 47] Aa (Ev (by simp only [go_sem, Ae, Int.reduceLT, Int.reduceAdd, Int.reduceSub, Nat.reduceMul, Nat.reduceGT, Nat.reduceLeDiff, decide_true, decide_false, Bool.false_eq_true, Int.reduceBEq, Int.reduceGT, Int.reduceLE, Int.reduceGE, beq_self_eq_true, x, x.2, aO, qL aP]; exact Ac)) ?_
      refine Bn <|Tn <|?_
      have aQ : w64 11 = 11 := by decide
      refine Fe [1, 2, 4, 47] Aa (Ev (by simp only [go_sem, Ae, Int.reduceLT, Int.reduceAdd, Int.reduceSub, Nat.reduceMul, Nat.reduceGT, Nat.reduceLeDiff, decide_true, decide_false, Bool.false_eq_true, Int.reduceBEq, Int.reduceGT, Int.reduceLE, Int.reduceGE, beq_self_eq_true, aQ]; exact Ac)) ?_
      refine Un ?_
      refine Ug (m := 5) ?_
      refine Te [1, 2, 4, 47, 48] Aa (Ev (by simp only [go_sem, Ae, Int.reduceLT, Int.reduceAdd, Int.reduceSub, Nat.reduceMul, Nat.reduceGT, Nat.reduceLeDiff, decide_true, decide_false, Bool.false_eq_true, Int.reduceBEq, Int.reduceGT, Int.reduceLE, Int.reduceGE, beq_self_eq_true]; exact Ac)) ?_
      refine Sq ?_
      refine Cf ?_
      refine Sx <|Tx <|Ux <|Bx <|?_
      exact Jm (ws [0, 1])
    intro _
    refine Ck fun aR => ?_
    refine Te [1, 2] Aa (Ev (by simp only [go_sem, qL aR]; exact Ac)) ?_
    refine Jo (fun d => ⟨As 114 [(1, .ref 0 0), (2, .ref 1 0)], [.box [i64 a.Kind, i64 a.N, .sl false (L cU8 a.B), .sl false (L cApi_Value a.L)] false, .box [i64 ((nth a.L 0).N), i64 b, i64 c, i64 ((nth a.L 2).N), i64 ((nth a.L 3).N), i64 ((nth a.L 4).N), i64 ((nth a.L 5).N), i64 ((nth a.L 6).N), i64 ((nth a.L 7).N), i64 ((nth a.L 8).N), i64 ((nth a.L 9).N), i64 ((nth a.L 10).N), i64 ((nth a.L 11).N), i64 ((nth a.L 12).N), .str ((nth a.L 13).B), .bs false 2 (d.length) 0 (d.length)] false, .buf 3 (L Ab d) false]⟩) ?_ ?_
    · intro bd aS
      refine Ck fun aT => ?_
      refine Te [1, 2, 73, 74, 75] Aa (Ev (by simp only [go_sem, qL aT]; exact Ac)) ?_
      refine Sb ?_
      refine Lo (fun (v : Int × List Api_Part) => (⟨As 114 [(1, .ref 0 0), (2, .ref 1 0), (73, .sl false (L cApi_Value ((nth a.L 14).L))), (74, i64 ((((nth a.L 14).L).length : Int))), (75, i64 v.1)], [.box [i64 a.Kind, i64 a.N, .sl false (L cU8 a.B), .sl false (L cApi_Value a.L)] false, .box [i64 ((nth a.L 0).N), i64 b, i64 c, i64 ((nth a.L 2).N), i64 ((nth a.L 3).N), i64 ((nth a.L 4).N), i64 ((nth a.L 5).N), i64 ((nth a.L 6).N), i64 ((nth a.L 7).N), i64 ((nth a.L 8).N), i64 ((nth a.L 9).N), i64 ((nth a.L 10).N), i64 ((nth a.L 11).N), i64 ((nth a.L 12).N), .str ((nth a.L 13).B), .bs false 2 (v.2.length) 0 (v.2.length)] false, .buf 3 (L Ab v.2) false]⟩ : St)) ((I4 1 15 3 rfl rfl).trans (ws [0, 1, 2])) ?_
      rintro ⟨aU, e⟩ be aV y z
      show Fi a aU e = some aV → _
      unfold Fi
      refine T0 [1, 2, 73, 74, 75, 76] ?_
      refine Sq ?_
      refine Cd ?_ ?_
      · refine Sk <|Tn <|Sq <|Sb <|?_
        refine Ck fun aW => ?_
        refine Lt fun aX aY => ?_
        refine Lt fun aZ a0 => ?_
        refine Lt fun a1 a2 => ?_
        refine Lt fun a3 a4 => ?_
        refine Te (σ' := [_, _, _, .box [i64 aX, i64 aZ, .sl false (L cU8 a1), .sl false (L cApi_Value a3)] false]) [1, 2, 7, 73, 74, 75] Aa (Ev (by simp only [go_sem, qR aW, aY, a0, a2, a4]; exact Ac)) ?_
        refine Sq <|T0 [1, 2, 7, 73, 74, 75, 82] ?_
        refine Cd ?_ ?_
        · refine T0 [2, 3] ?_
          exact Sr <|Tr <|Br <|Tr <|Lr z y <|Br <|Jr aS <|Rr
        · refine Sk <|Tn <|?_
          refine Ck fun a5 => ?_
          refine Ck fun a6 => ?_
          refine Ck fun a7 => ?_
          refine Ck fun a8 => ?_
          refine Lt fun g a9 => ?_
          refine Ge (σ' := [_, .box [i64 ((nth a.L 0).N), i64 b, i64 c, i64 ((nth a.L 2).N), i64 ((nth a.L 3).N), i64 ((nth a.L 4).N), i64 ((nth a.L 5).N), i64 ((nth a.L 6).N), i64 ((nth a.L 7).N), i64 ((nth a.L 8).N), i64 ((nth a.L 9).N), i64 ((nth a.L 10).N), i64 ((nth a.L 11).N), i64 ((nth a.L 12).N), .str ((nth a.L 13).B), .bs false 2 (g.length) 0 (g.length)] false, .buf 3 (L Ab g) false, _, _]) [[], [0], [], [2], [2, 3], [2, 3, 4], [2, 3, 4, 5], [], [7], [7, 8], [7, 8, 9], [7, 8, 9, 10], [], [12], [12, 13], [12, 13, 14], [12, 13, 14, 15], [12, 13, 14, 15, 16], [2, 3, 4, 5, 6, 7, 8, 9, 10, 11, 12, 13, 14, 15, 16, 17], [2, 3, 4, 5, 6, 7, 8, 9, 10, 11, 12, 13, 14, 15, 16, 17, 18], [0, 1, 2, 3, 4, 5, 6, 7, 8, 9, 10, 11, 12, 13, 14, 15, 16, 17, 18, 19], [0, 1, 2, 3, 4, 5, 6, 7, 8, 9, 10, 11, 12, 13, 14, 15, 16, 17, 18, 19, 20], [0, 1, 2, 3, 4, 5, 6, 7, 8, 9, 10, 11, 12, 13, 14, 15, 16, 17, 18, 19, 20, 21]] [1, 2, 73, 74, 75] Aa (Ev (by simp only [go_sem, qL a5, qL a6, qL a7, a8, a9]; exact Ac)) ?_
          refine Bn <|Tn <|F0 [1, 2, 73, 74, 75] ?_
          exact Ln (ws [0, 1, 2])
      · refine Sx <|Tx <|Lx z y <|Bx <|?_
        exact Jn ((ws (l' := [(1, .ref 0 0), (2, .ref 1 0)]) (σ' := [.box [i64 a.Kind, i64 a.N, .sl false (L cU8 a.B), .sl false (L cApi_Value a.L)] false, .box [i64 ((nth a.L 0).N), i64 b, i64 c, i64 ((nth a.L 2).N), i64 ((nth a.L 3).N), i64 ((nth a.L 4).N), i64 ((nth a.L 5).N), i64 ((nth a.L 6).N), i64 ((nth a.L 7).N), i64 ((nth a.L 8).N), i64 ((nth a.L 9).N), i64 ((nth a.L 10).N), i64 ((nth a.L 11).N), i64 ((nth a.L 12).N), .str ((nth a.L 13).B), .bs false 2 (e.length) 0 (e.length)] false, .buf 3 (L Ab e) false]) [0, 1, 2]).trans (ws [0, 1, 2]))
    intro d
    refine Sq ?_
    refine Rw (Js 1 15 rfl rfl rfl gs gs) ?_
    refine Bd fun bf ba => ?_
    refine Bd fun bg bb => ?_
    refine De [[], [0], [], [0, 1, 2], [0, 1, 2, 3]] [2, 111] (o2 108 (Ib ba) 110 (Ud bb)) Ev ?_
    refine Cd ?_ ?_
    · refine T0 [2, 3] ?_
      exact Sr <|Tr <|Rr
    · refine Sk <|Tn <|T0 [2, 3] ?_
      exact Sr <|Rr
theorem K3 {a b r} (h : H1 a b = some r) : Con B 104 [i64 a, i64 b] [] (fun r' σ' => r' = i64 r ∧ σ' = []) := by
  refine Cw 11 [.tmp 4] Tryz.func104 (fun F hE => ?_) h
  unfold H1
  refine T0 [0, 1] ?_
  refine Sq <|T0 [0, 1, 7] ?_
  refine Cd ?_ ?_
  · refine T0 [4] ?_
    exact Sr <|Tr <|Rr
  · refine Sk <|Tn <|Sq <|T0 [10] ?_
    refine Cd ?_ ?_
    · refine T0 [4] ?_
      exact Sr <|Tr <|Rr
    · refine Sk <|Tn <|T0 [4] ?_
      exact Sr <|Rr
theorem G1 {a b r} (h : Du a b = some r) : Con B 57 [.sl false (L cU8 a), .sl false (L cU8 b)] [] (fun r' σ' => r' = i64 r ∧ σ' = []) := by
  refine Cw 43 [.tmp 4] Tryz.func57 (fun F hE => ?_) h
  unfold Du
  refine T0 [0, 1] ?_
  refine Jo (fun _ => ⟨As 43 [(0, .sl false (L cU8 a)), (1, .sl false (L cU8 b))], []⟩) ?_ ?_
  · intro q i
    refine T0 [0, 1, 5] ?_
    refine Sb ?_
    refine Lo (fun c => ⟨As 43 [(0, .sl false (L cU8 a)), (1, .sl false (L cU8 b)), (5, i64 c)], []⟩) (ws []) ?_
    rintro c s j e f
    show B3 a b c = some j → _
    unfold B3
    refine Sq ?_
    refine Tw [0, 1, 5, 15] (fun g => ⟨As 43 [(0, .sl false (L cU8 a)), (1, .sl false (L cU8 b)), (5, i64 c), (15, .bool g)], []⟩) ?_ ?_
    · intro _
      refine Sp (fun d => ?_) fun d => ?_
      · exact Lf Aa (Ev (by simp only [go_sem, d]; exact Ac)) (ws [])
      · exact Lf Aa (Ev (by simp only [go_sem, d]; exact Ac)) (ws [])
    intro g
    refine Cd ?_ ?_
    · refine Sk <|Tn <|Sq <|Sb <|?_
      refine Ck fun k => ?_
      refine Ck fun l => ?_
      refine De [[], [], [0, 1], [0, 1, 2], [], [], [4, 5], [4, 5, 6], [0, 1, 2, 3, 4, 5, 6, 7]] [0, 1, 5, 26] Aa (Ev (by simp only [go_sem, qR k, qR l]; exact Ac)) ?_
      refine Cd ?_ ?_
      · refine Ck fun m => ?_
        refine Ck fun n => ?_
        refine Bd fun t o => ?_
        refine De [[], [], [0, 1], [0, 1, 2], [0, 1, 2, 3], [], [], [5, 6], [5, 6, 7], [5, 6, 7, 8], [0, 1, 2, 3, 4, 5, 6, 7, 8, 9], [0, 1, 2, 3, 4, 5, 6, 7, 8, 9, 10]] [4] (o1 37 (K3 o)) (Ev (by simp only [go_sem, qR m, qR n]; exact Ac)) ?_
        exact Sr <|Br <|Tr <|Lr f e <|Br <|Jr i <|Rr
      · refine Sk <|Bn <|Tn <|F0 [0, 1, 5] ?_
        exact Ln (ws [])
    · refine Sx <|Tx <|Lx f e <|Bx <|?_
      exact Jn ((ws (l' := [(0, .sl false (L cU8 a)), (1, .sl false (L cU8 b))]) (σ' := []) []).trans (ws []))
  intro _
  refine Bd fun u p => ?_
  refine Te [4] (o1 42 (K3 p)) Ev ?_
  exact Sr <|Rr
theorem Qd {rec_ : Api_Value → Api_Value → Option (Bool)} (hrec : ∀ {a : Api_Value} {b : Api_Value} {r : Bool}, rec_ a b = some r → Con B 20 [.agg [i64 a.Kind, i64 a.N, .sl false (L cU8 a.B), .sl false (L cApi_Value a.L)], .agg [i64 b.Kind, i64 b.N, .sl false (L cU8 b.B), .sl false (L cApi_Value b.L)]] [] (fun r' σ' => r' = .bool r ∧ σ' = [])) {a : Api_Value} {b : Api_Value} {r : Bool} (h : Hs rec_ a b = some r) : Con B 20 [.agg [i64 a.Kind, i64 a.N, .sl false (L cU8 a.B), .sl false (L cApi_Value a.L)], .agg [i64 b.Kind, i64 b.N, .sl false (L cU8 b.B), .sl false (L cApi_Value b.L)]] [] (fun r' σ' => r' = .bool r ∧ σ' = []) := by
  refine Il (N := 54) (rs := [.tmp 4]) ok Tryz.func20 rfl (by decide +kernel) rfl rfl (Nat.le_of_ble_eq_true rfl) (fun F => ?_)
  have hE := ok.env F
  unfold Hs at h
  show Run (B.env F) 0 _ ⟨As 54 [(0, .agg [i64 a.Kind, i64 a.N, .sl false (L cU8 a.B), .sl false (L cApi_Value a.L)]), (1, .agg [i64 b.Kind, i64 b.N, .sl false (L cU8 b.B), .sl false (L cApi_Value b.L)])], []⟩ _
  refine I5 ?_
  revert h
  refine T0 [2, 3] ?_
  refine Sq ?_
  refine Tw [2, 3, 34] (fun g => ⟨As 54 [(2, .ref 0 0), (3, .ref 1 0), (34, .bool g)], [.box [i64 a.Kind, i64 a.N, .sl false (L cU8 a.B), .sl false (L cApi_Value a.L)] false, .box [i64 b.Kind, i64 b.N, .sl false (L cU8 b.B), .sl false (L cApi_Value b.L)] false]⟩) ?_ ?_
  · intro _
    refine Sp (fun c => ?_) fun c => ?_
    · exact Lf Aa (Ev (by simp only [go_sem, c]; exact Ac)) (ws [0, 1])
    · refine Sp (fun d => ?_) fun d => ?_
      · exact Lf Aa (Ev (by simp only [go_sem, c, d]; exact Ac)) (ws [0, 1])
      · refine Bd fun q i => ?_
        refine Sp (fun e => ?_) fun e => ?_
        · exact Lf (o1 23 (G1 i)) (Ev (by simp only [go_sem, c, d, e]; exact Ac)) (ws [0, 1])
        · exact Lf (o1 23 (G1 i)) (Ev (by simp only [go_sem, c, d, e]; exact Ac)) (ws [0, 1])
  intro g
  refine Cd ?_ ?_
  · refine T0 [4] ?_
    exact Sr <|Tr <|Rr
  · refine Sk <|Tn <|?_
    refine Jo (fun _ => ⟨As 54 [], []⟩) ?_ ?_
    · intro s l
      refine T0 [2, 3, 5] ?_
      refine Sb ?_
      refine Lo (fun f => ⟨As 54 [(2, .ref 0 0), (3, .ref 1 0), (5, i64 f)], [.box [i64 a.Kind, i64 a.N, .sl false (L cU8 a.B), .sl false (L cApi_Value a.L)] false, .box [i64 b.Kind, i64 b.N, .sl false (L cU8 b.B), .sl false (L cApi_Value b.L)] false]⟩) (ws [0, 1]) ?_
      rintro f t m j k
      show E1 a b rec_ f = some m → _
      unfold E1
      refine Sq <|T0 [2, 3, 5, 39] ?_
      refine Cd ?_ ?_
      · refine Sk <|Tn <|Sq <|Sb <|?_
        refine Ck fun n => ?_
        refine Ck fun o => ?_
        refine Bd fun u p => ?_
        refine De [[], [0], [], [0, 1, 2], [0, 1, 2, 3], [], [5], [], [5, 6, 7], [5, 6, 7, 8], [0, 1, 2, 3, 4, 5, 6, 7, 8, 9], [0, 1, 2, 3, 4, 5, 6, 7, 8, 9, 10]] [2, 3, 5, 53] (o1 52 (hrec p)) (Ev (by simp only [go_sem, qR n, qR o]; exact Ac)) ?_
        refine Cd ?_ ?_
        · refine T0 [4] ?_
          exact Sr <|Br <|Tr <|Lr k j <|Br <|Jr l <|Rr
        · refine Sk <|Bn <|Tn <|F0 [2, 3, 5] ?_
          exact Ln (ws [0, 1])
      · refine Sx <|Tx <|Lx k j <|Bx <|?_
        exact Jn ((ws (l' := []) (σ' := []) []).trans (ws []))
    intro _
    refine T0 [4] ?_
    exact Sr <|Rr
theorem P2 (n : Nat) : ∀ {a : Api_Value} {b : Api_Value} {r : Bool}, Cu n a b = some r → Con B 20 [.agg [i64 a.Kind, i64 a.N, .sl false (L cU8 a.B), .sl false (L cApi_Value a.L)], .agg [i64 b.Kind, i64 b.N, .sl false (L cU8 b.B), .sl false (L cApi_Value b.L)]] [] (fun r' σ' => r' = .bool r ∧ σ' = []) := by
  induction n with
  | zero => intro a b r h; cases h
  | succ n ih => intro a b r h; exact Qd ih h
theorem Tc {a : Api_Value} {b : Api_Value} {r : Bool} (h : Qy a b = some r) : Con B 20 [.agg [i64 a.Kind, i64 a.N, .sl false (L cU8 a.B), .sl false (L cApi_Value a.L)], .agg [i64 b.Kind, i64 b.N, .sl false (L cU8 b.B), .sl false (L cApi_Value b.L)]] [] (fun r' σ' => r' = .bool r ∧ σ' = []) := P2 _ h
theorem Bi {a r} (h : Ca a = some r) : Con B 62 [i64 a] [] (fun r' σ' => r' = .agg [i64 r.Kind, i64 r.N, .sl false (L cU8 r.B), .sl false (L cApi_Value r.L)] ∧ σ' = []) := by
  refine Cw 5 [.cell 2 55] Tryz.func62 (fun F hE => ?_) h
  unfold Ca
  refine T0 [0, 2] ?_
  refine T0 [2] ?_
  exact Sr <|Rr
theorem T8 {a r} (h : N0 a = some r) : Con B 63 [.str a] [] (fun r' σ' => r' = .agg [i64 r.Kind, i64 r.N, .sl false (L cU8 r.B), .sl false (L cApi_Value r.L)] ∧ σ' = []) := by
  refine Cw 6 [.cell 2 55] Tryz.func63 (fun F hE => ?_) h
  unfold N0
  refine T0 [0, 2] ?_
  refine T0 [2] ?_
  exact Sr <|Rr
theorem Gu {a r} (h : Gq a = some r) : Con B 61 [.sl false (L cApi_Value a)] [] (fun r' σ' => r' = .agg [i64 r.Kind, i64 r.N, .sl false (L cU8 r.B), .sl false (L cApi_Value r.L)] ∧ σ' = []) := by
  refine Cw 5 [.cell 2 55] Tryz.func61 (fun F hE => ?_) h
  unfold Gq
  refine T0 [0, 2] ?_
  refine T0 [2] ?_
  exact Sr <|Rr
theorem T3 {a r} (h : Lv a = some r) : Con B 64 [.bool a] [] (fun r' σ' => r' = .agg [i64 r.Kind, i64 r.N, .sl false (L cU8 r.B), .sl false (L cApi_Value r.L)] ∧ σ' = []) := by
  refine Cw 6 [.cell 2 55] Tryz.func64 (fun F hE => ?_) h
  unfold Lv
  refine T0 [0, 2] ?_
  refine Sq <|T0 [2, 3] ?_
  refine Cd ?_ ?_
  · refine Bd fun d b => ?_
    refine Te [2] (o1 4 (Bi b)) Ev ?_
    exact Sr <|Tr <|Rr
  · refine Sk <|Tn <|?_
    refine Bd fun e c => ?_
    refine Te [2] (o1 5 (Bi c)) Ev ?_
    exact Sr <|Rr
theorem Pt {b c d r} (h : Ik b c d = some r) : Con B 55 [i64 b, i64 c, i64 d] [] (fun r' σ' => r' = .bool r ∧ σ' = []) := by
  refine Cw 15 [.tmp 6] Tryz.func55 (fun F hE => ?_) h
  unfold Ik
  refine T0 [0, 1, 2] ?_
  refine Tw [6] (fun e => ⟨As 15 [(6, .bool e)], []⟩) ?_ ?_
  · intro _
    refine Sp (fun a => ?_) fun a => ?_
    · exact Lf Aa (Ev (by simp only [go_sem, a]; exact Ac)) (ws [])
    · exact Lf Aa (Ev (by simp only [go_sem, a]; exact Ac)) (ws [])
  intro e
  exact Sr <|Rr
theorem Wv {b r} (h : Pv b = some r) : Con B 70 [i64 b] [] (fun r' σ' => r' = .str r ∧ σ' = []) := by
  refine Cw 10 [.tmp 2] Tryz.func70 (fun F hE => ?_) h
  unfold Pv
  refine T0 [0] ?_
  refine Lt fun a c => ?_
  refine Te (fr' := [(0, _), (3, .bs true 0 (a.length) 0 (a.length))]) (σ' := [.buf 1 (L Py a) false]) [0, 3] Aa (Ev (by simp only [go_sem, c]; exact Ac)) ?_
  refine Ck fun d => ?_
  refine Te [2] Aa (Ev (by simp only [go_sem, qR d]; exact Ac)) ?_
  exact Sr <|Rr
theorem Ia {a b r} (h : F9 a b = some r) : Con B 72 [.agg [i64 a.Kind, i64 a.Ref.Railway, i64 a.Ref.No, i64 a.Wagon, i64 a.Place, i64 a.Other, i64 a.Number, i64 a.From, i64 a.To, i64 a.Code, i64 a.Dest, i64 a.Class, i64 a.Weight, i64 a.Amount, .str a.Text, .sl false (L Ab a.Parts)], u8 b] [] (fun r' σ' => r' = i64 r ∧ σ' = []) := by
  refine Cw 48 [.tmp 4] Tryz.func72 (fun F hE => ?_) h
  unfold F9
  refine T0 [1, 2] ?_
  refine Sq <|T0 [2, 5] ?_
  refine Sb <|T0 [2, 5, 6] ?_
  refine Cd ?_ ?_
  · refine T0 [4] ?_
    exact Sr <|Br <|Tr <|Rr
  · refine T0 [2, 5, 10] ?_
    refine Cd ?_ ?_
    · refine T0 [4] ?_
      exact Sr <|Br <|Tr <|Rr
    · refine T0 [2, 5, 14] ?_
      refine Cd ?_ ?_
      · refine T0 [4] ?_
        exact Sr <|Br <|Tr <|Rr
      · refine T0 [2, 5, 18] ?_
        refine Cd ?_ ?_
        · refine T0 [4] ?_
          exact Sr <|Br <|Tr <|Rr
        · refine T0 [2, 5, 22] ?_
          refine Cd ?_ ?_
          · refine T0 [4] ?_
            exact Sr <|Br <|Tr <|Rr
          · refine T0 [2, 5, 26] ?_
            refine Cd ?_ ?_
            · refine T0 [4] ?_
              exact Sr <|Br <|Tr <|Rr
            · refine T0 [2, 5, 30] ?_
              refine Cd ?_ ?_
              · refine T0 [4] ?_
                exact Sr <|Br <|Tr <|Rr
              · refine T0 [2, 5, 34] ?_
                refine Cd ?_ ?_
                · refine T0 [4] ?_
                  exact Sr <|Br <|Tr <|Rr
                · refine T0 [2, 5, 38] ?_
                  refine Cd ?_ ?_
                  · refine T0 [4] ?_
                    exact Sr <|Br <|Tr <|Rr
                  · refine T0 [2, 42] ?_
                    refine Cd ?_ ?_
                    · refine T0 [4] ?_
                      exact Sr <|Br <|Tr <|Rr
                    · refine Sk <|Bn <|Tn <|T0 [4] ?_
                      exact Sr <|Rr
theorem Mb {rec_ : Int → Option (List UInt8)} (hrec : ∀ {a : Int} {r : List UInt8}, rec_ a = some r → Con B 101 [i64 a] [] (fun r' σ' => r' = .str r ∧ σ' = [])) {a : Int} {r : List UInt8} (h : Cz rec_ a = some r) : Con B 101 [i64 a] [] (fun r' σ' => r' = .str r ∧ σ' = []) := by
  refine Il (N := 37) (rs := [.tmp 2]) ok Tryz.func101 rfl (by decide +kernel) rfl rfl (Nat.le_of_ble_eq_true rfl) (fun F => ?_)
  have hE := ok.env F
  unfold Cz at h
  show Run (B.env F) 0 _ ⟨As 37 [(0, i64 a)], []⟩ _
  refine I5 ?_
  revert h
  refine T0 [0] ?_
  refine Sq ?_
  refine Tw [0, 8] (fun c => ⟨As 37 [(0, i64 a), (8, .bool c)], []⟩) ?_ ?_
  · intro _
    refine Sp (fun b => ?_) fun b => ?_
    · exact Lf Aa (Ev (by simp only [go_sem, b]; exact Ac)) (ws [])
    · exact Lf Aa (Ev (by simp only [go_sem, b]; exact Ac)) (ws [])
  intro c
  refine Cd ?_ ?_
  · refine Bd fun q d => ?_
    refine Ck fun e => ?_
    refine Te [2] (o1 11 (hrec d)) (Ev (by simp only [go_sem, e]; exact Ac)) ?_
    exact Sr <|Tr <|Rr
  · refine Sk <|Tn <|Sq <|T0 [0, 14] ?_
    refine Cd ?_ ?_
    · have f : ¬(10 : Int) = 0 := by decide
      refine Bd fun s g => ?_
      have i : ¬(10 : Int) = 0 := by decide
      refine Bd fun t j => ?_
      refine Ck fun k => ?_
      refine Te [2] (o2 17 (hrec g) 21 (hrec j)) (Ev (by simp only [go_sem, f, i, k]; exact Ac)) ?_
      exact Sr <|Tr <|Rr
    · refine Sk <|Tn <|Sq <|T0 [0, 24] ?_
      refine Cd ?_ ?_
      · refine T0 [2] ?_
        exact Sr <|Tr <|Rr
      · refine Sk <|Tn <|?_
        have l : ¬(10 : Int) = 0 := by decide
        refine Bd fun u m => ?_
        have n : ¬(10 : Int) = 0 := by decide
        refine Bd fun v o => ?_
        refine Ck fun p => ?_
        refine Te [2] (o2 32 (hrec m) 35 (hrec o)) (Ev (by simp only [go_sem, l, n, p]; exact Ac)) ?_
        exact Sr <|Rr
theorem L8 (n : Nat) : ∀ {a : Int} {r : List UInt8}, C0 n a = some r → Con B 101 [i64 a] [] (fun r' σ' => r' = .str r ∧ σ' = []) := by
  induction n with
  | zero => intro a r h; cases h
  | succ n ih => intro a r h; exact Mb ih h
theorem Dd {a : Int} {r : List UInt8} (h : Cj a = some r) : Con B 101 [i64 a] [] (fun r' σ' => r' = .str r ∧ σ' = []) := L8 _ h
theorem Sa {e r} (h : H2 e = some r) : Con B 142 [u8 e] [] (fun r' σ' => r' = .bool r ∧ σ' = []) := by
  refine Cw 21 [.tmp 2] Tryz.func142 (fun F hE => ?_) h
  unfold H2
  refine T0 [0] ?_
  refine Tw [2] (fun f => ⟨As 21 [(2, .bool f)], []⟩) ?_ ?_
  · intro _
    refine Sp (fun a => ?_) fun a => ?_
    · refine Sp (fun b => ?_) fun b => ?_
      · refine Sp (fun c => ?_) fun c => ?_
        · refine Sp (fun d => ?_) fun d => ?_
          · exact Lf Aa (Ev (by simp only [go_sem, a, b, c, d]; exact Ac)) (ws [])
          · exact Lf Aa (Ev (by simp only [go_sem, a, b, c, d]; exact Ac)) (ws [])
        · exact Lf Aa (Ev (by simp only [go_sem, a, b, c]; exact Ac)) (ws [])
      · exact Lf Aa (Ev (by simp only [go_sem, a, b]; exact Ac)) (ws [])
    · exact Lf Aa (Ev (by simp only [go_sem, a]; exact Ac)) (ws [])
  intro f
  exact Sr <|Rr
theorem Pb {a r} (h : E4 a = some r) : Con B 102 [.str a] [] (fun r' σ' => r' = .str r ∧ σ' = []) := by
  refine Cw 37 [.tmp 2] Tryz.func102 (fun F hE => ?_) h
  unfold E4
  refine T0 [0] ?_
  refine Lt fun g n => ?_
  refine Te (fr' := [(0, _), (3, .bs true 0 (g.length) 0 (g.length))]) (σ' := [.buf 1 (L cU8 g) false]) [0, 3] Aa (Ev (by simp only [go_sem, n]; exact Ac)) ?_
  refine Ja (fun b => ⟨As 37 [(3, .bs false 0 (b.length) 0 (b.length))], [.buf 1 (L cU8 b) false]⟩) ?_ ?_
  · intro ae
    refine T0 [0, 3, 4] ?_
    refine Sb ?_
    refine Lo (fun (v : Int × List UInt8) => (⟨As 37 [(0, .str a), (3, .bs false 0 (v.2.length) 0 (v.2.length)), (4, i64 v.1)], [.buf 1 (L cU8 v.2) false]⟩ : St)) (ws [0]) ?_
    rintro ⟨k, c⟩ af o p q
    show C7 a k c = some o → _
    unfold C7
    refine Sq <|T0 [0, 3, 4, 9] ?_
    refine Cd ?_ ?_
    · refine Sk <|Tn <|?_
      refine Ja (fun d => ⟨As 37 [(0, .str a), (3, .bs false 0 (d.length) 0 (d.length)), (4, i64 k)], [.buf 1 (L cU8 d) false]⟩) ?_ ?_
      · intro ag
        refine Sb ?_
        refine Ck fun s => ?_
        refine Bd fun ah t => ?_
        refine Te [0, 3, 4, 15] (o1 15 (Sa t)) (Ev (by simp only [go_sem, qR s]; exact Ac)) ?_
        refine Cd ?_ ?_
        · refine Ck fun u => ?_
          refine Ck fun w => ?_
          refine Lt fun i x => ?_
          refine Fe (fr' := [(0, _), (3, .bs false 0 (i.length) 0 (i.length)), (4, _)]) (σ' := [.buf 1 (L cU8 i) false, _]) [0, 3, 4] Aa (Ev (by simp only [go_sem, qR u, w, x]; exact Ac)) ?_
          refine Bn ?_
          exact Jm (ws [0])
        · refine Ck fun y => ?_
          have z : ¬(16 : UInt8) = 0 := by decide
          refine Ck fun l => ?_
          have e := l; simp only [List.cons_append, List.nil_append, List.length_append, List.length_cons, List.length_nil, Nat.zero_add, Nat.reduceAdd] at e
          refine Ck fun aa => ?_
          have ab : ¬(16 : UInt8) = 0 := by decide
          refine Ck fun m => ?_
          have f := m; simp only [List.cons_append, List.nil_append, List.length_append, List.length_cons, List.length_nil, Nat.zero_add, Nat.reduceAdd] at f
          refine Ck fun ac => ?_
          refine Lt fun j ad => ?_
          refine Ge (fr' := [(0, _), (3, .bs false 0 (j.length) 0 (j.length)), (4, _)]) (σ' := [.buf 1 (L cU8 j) false, _]) [[], [], [], [1, 2], [1, 2, 3], [1, 2, 3, 4], [], [], [6, 7], [6, 7, 8], [6, 7, 8, 9], [1, 2, 3, 4, 5, 6, 7, 8, 9, 10], [0, 1, 2, 3, 4, 5, 6, 7, 8, 9, 10, 11], [0, 1, 2, 3, 4, 5, 6, 7, 8, 9, 10, 11, 12]] [0, 3, 4] Aa (Ev (by simp only [go_sem, qR y, z, qN l, e, Hi e, AdN (Hi e), qR aa, ab, qN m, f, Hi f, AdN (Hi f), ac, ad]; exact Ac)) ?_
          refine Bn ?_
          exact Jm (ws [0])
      intro d
      refine F0 [0, 3, 4] ?_
      exact Ln (ws [0])
    · refine Sx <|Tx <|Ly q p <|Bx <|?_
      exact Jm ((ws (l' := [(3, .bs false 0 (c.length) 0 (c.length))]) (σ' := [.buf 1 (L cU8 c) false]) [0]).trans (ws [0]))
  intro b
  refine T0 [2] ?_
  exact Sr <|Rr
theorem Mg {a r} (h : Ef a = some r) : Con B 103 [.agg [i64 a.Kind, i64 a.Serial, .bool a.Fitted]] [] (fun r' σ' => r' = .str r ∧ σ' = []) := by
  refine Cw 18 [.tmp 2] Tryz.func103 (fun F hE => ?_) h
  unfold Ef
  refine T0 [1] ?_
  refine Bd fun l d => ?_
  refine Ck fun e => ?_
  refine Bd fun m f => ?_
  refine Ck fun b => ?_
  have c := b; simp only [List.cons_append, List.nil_append, List.length_append, List.length_cons, List.length_nil, Nat.zero_add, Nat.reduceAdd] at c
  refine Lt fun g i => ?_
  refine De (fr' := [(1, _), (3, .str g)]) [[], [0], [0, 1], [0, 1, 2], [], [4], [0, 1, 2, 4, 5], [0, 1, 2, 3, 4, 5, 6], [0, 1, 2, 3, 4, 5, 6, 7]] [1, 3] (o2 6 (Dd d) 10 (Dd f)) (Ev (by simp only [go_sem, e, b, c, i]; exact Ac)) ?_
  refine Sq <|T0 [3, 13] ?_
  refine Cd ?_ ?_
  · refine Ck fun j => ?_
    refine Te [2] Aa (Ev (by simp only [go_sem, j]; exact Ac)) ?_
    exact Sr <|Tr <|Rr
  · refine Sk <|Tn <|?_
    refine Ck fun k => ?_
    refine Te [2] Aa (Ev (by simp only [go_sem, k]; exact Ac)) ?_
    exact Sr <|Rr
theorem N4 {a r} (h : F7 a = some r) : Con B 56 [.agg [i64 a.Kind, i64 a.Ref.Railway, i64 a.Ref.No, i64 a.Wagon, i64 a.Place, i64 a.Other, i64 a.Number, i64 a.From, i64 a.To, i64 a.Code, i64 a.Dest, i64 a.Class, i64 a.Weight, i64 a.Amount, .str a.Text, .sl false (L Ab a.Parts)]] [] (fun r' σ' => r' = .str r ∧ σ' = []) := by
  refine Cw 74 [.tmp 2] Tryz.func56 (fun F hE => ?_) h
  unfold F7
  refine T0 [1] ?_
  refine Bd fun aJ ae => ?_
  refine Te [1, 3] (o1 9 (Wv ae)) Ev ?_
  refine Ja (fun b => ⟨As 74 [(1, .ref 0 0), (3, .str b)], [.box [i64 a.Kind, i64 a.Ref.Railway, i64 a.Ref.No, i64 a.Wagon, i64 a.Place, i64 a.Other, i64 a.Number, i64 a.From, i64 a.To, i64 a.Code, i64 a.Dest, i64 a.Class, i64 a.Weight, i64 a.Amount, .str a.Text, .sl false (L Ab a.Parts)] false]⟩) ?_ ?_
  · intro aK
    refine T0 [1, 3, 13] ?_
    refine Cd ?_ ?_
    · refine Ck fun af => ?_
      refine Bd fun aL ag => ?_
      refine Ck fun c => ?_
      have d := c; simp only [List.cons_append, List.nil_append, List.length_append, List.length_cons, List.length_nil, Nat.zero_add, Nat.reduceAdd] at d
      refine Ck fun e => ?_
      have f := e; simp only [List.cons_append, List.nil_append, List.length_append, List.length_cons, List.length_nil, Nat.zero_add, Nat.reduceAdd] at f
      refine Bd fun aM ah => ?_
      refine Ck fun g => ?_
      have i := g; simp only [List.cons_append, List.nil_append, List.length_append, List.length_cons, List.length_nil, Nat.zero_add, Nat.reduceAdd] at i
      refine Lt fun ai aj => ?_
      refine Ge (fr' := [(1, _), (3, .str ai)]) [[], [0], [], [2], [2, 3], [2, 3, 4], [0, 1, 2, 3, 4, 5], [0, 1, 2, 3, 4, 5, 6], [], [8], [8, 9], [2, 3, 4, 5, 8, 9, 10], [0, 1, 2, 3, 4, 5, 6, 7, 8, 9, 10, 11], [0, 1, 2, 3, 4, 5, 6, 7, 8, 9, 10, 11, 12]] [1, 3] (o2 19 (Dd ag) 25 (Dd ah)) (Ev (by simp only [go_sem, af, c, d, e, f, g, i, aj]; exact Ac)) ?_
      exact Jm (ws [0])
    · refine Sk ?_
      exact Jm (ws [0])
  intro b
  refine Ja (fun j => ⟨As 74 [(1, .ref 0 0), (3, .str j)], [.box [i64 a.Kind, i64 a.Ref.Railway, i64 a.Ref.No, i64 a.Wagon, i64 a.Place, i64 a.Other, i64 a.Number, i64 a.From, i64 a.To, i64 a.Code, i64 a.Dest, i64 a.Class, i64 a.Weight, i64 a.Amount, .str a.Text, .sl false (L Ab a.Parts)] false]⟩) ?_ ?_
  · intro aN
    refine T0 [1, 3, 4] ?_
    refine Sb ?_
    refine Lo (fun (v : List UInt8 × Int) => (⟨As 74 [(1, .ref 0 0), (3, .str v.1), (4, i64 v.2)], [.box [i64 a.Kind, i64 a.Ref.Railway, i64 a.Ref.No, i64 a.Wagon, i64 a.Place, i64 a.Other, i64 a.Number, i64 a.From, i64 a.To, i64 a.Code, i64 a.Dest, i64 a.Class, i64 a.Weight, i64 a.Amount, .str a.Text, .sl false (L Ab a.Parts)] false]⟩ : St)) (ws [0]) ?_
    rintro ⟨k, l⟩ aO ak al am
    show Cm a k l = some ak → _
    unfold Cm
    refine Sq <|T0 [1, 3, 4, 28] ?_
    refine Cd ?_ ?_
    · refine Sk <|Tn <|?_
      refine Ja (fun m => ⟨As 74 [(1, .ref 0 0), (3, .str m), (4, i64 l)], [.box [i64 a.Kind, i64 a.Ref.Railway, i64 a.Ref.No, i64 a.Wagon, i64 a.Place, i64 a.Other, i64 a.Number, i64 a.From, i64 a.To, i64 a.Code, i64 a.Dest, i64 a.Class, i64 a.Weight, i64 a.Amount, .str a.Text, .sl false (L Ab a.Parts)] false]⟩) ?_ ?_
      · intro aP
        refine Sb ?_
        refine Ck fun n => ?_
        have o := n; simp only [List.cons_append, List.nil_append, List.length_append, List.length_cons, List.length_nil, Nat.zero_add, Nat.reduceAdd] at o
        refine Bd fun aQ an => ?_
        refine De [[], [], [1], [0, 1, 2], [0, 1, 2, 3]] [1, 3, 4, 5] (o1 34 (Ia an)) (Ev (by simp only [go_sem, qR n, o]; exact Ac)) ?_
        refine T0 [1, 3, 4, 5, 36] ?_
        refine Cd ?_ ?_
        · refine Ck fun ao => ?_
          refine Ck fun p => ?_
          have q := p; simp only [List.cons_append, List.nil_append, List.length_append, List.length_cons, List.length_nil, Nat.zero_add, Nat.reduceAdd] at q
          refine Ck fun ap => ?_
          refine Ck fun s => ?_
          have t := s; simp only [List.cons_append, List.nil_append, List.length_append, List.length_cons, List.length_nil, Nat.zero_add, Nat.reduceAdd] at t
          refine Bd fun aR aq => ?_
          refine Ck fun u => ?_
          have w := u; simp only [List.cons_append, List.nil_append, List.length_append, List.length_cons, List.length_nil, Nat.zero_add, Nat.reduceAdd] at w
          refine Lt fun ar au => ?_
          refine Ge (fr' := [(1, _), (3, .str ar), (4, _)]) [[], [0], [], [], [3], [2, 3, 4], [0, 1, 2, 3, 4, 5], [], [7], [0, 1, 2, 3, 4, 5, 6, 7, 8], [0, 1, 2, 3, 4, 5, 6, 7, 8, 9]] [1, 3, 4] (o1 45 (Dd aq)) (Ev (by simp only [go_sem, ao, p, q, ap, s, t, u, w, au]; exact Ac)) ?_
          refine Bn ?_
          exact Jm (ws [0])
        · refine Sk <|Bn <|?_
          exact Jm (ws [0])
      intro m
      refine F0 [1, 3, 4] ?_
      exact Ln (ws [0])
    · refine Sx <|Tx <|Ly am al <|Bx <|?_
      exact Jm ((ws (l' := [(1, .ref 0 0), (3, .str k)]) (σ' := [.box [i64 a.Kind, i64 a.Ref.Railway, i64 a.Ref.No, i64 a.Wagon, i64 a.Place, i64 a.Other, i64 a.Number, i64 a.From, i64 a.To, i64 a.Code, i64 a.Dest, i64 a.Class, i64 a.Weight, i64 a.Amount, .str a.Text, .sl false (L Ab a.Parts)] false]) [0]).trans (ws [0]))
  intro j
  refine Ja (fun x => ⟨As 74 [(1, .ref 0 0), (3, .str x)], [.box [i64 a.Kind, i64 a.Ref.Railway, i64 a.Ref.No, i64 a.Wagon, i64 a.Place, i64 a.Other, i64 a.Number, i64 a.From, i64 a.To, i64 a.Code, i64 a.Dest, i64 a.Class, i64 a.Weight, i64 a.Amount, .str a.Text, .sl false (L Ab a.Parts)] false]⟩) ?_ ?_
  · intro aS
    refine T0 [1, 3, 49] ?_
    refine Cd ?_ ?_
    · refine Ck fun av => ?_
      refine Bd fun aT aw => ?_
      refine Ck fun y => ?_
      have z := y; simp only [List.cons_append, List.nil_append, List.length_append, List.length_cons, List.length_nil, Nat.zero_add, Nat.reduceAdd] at z
      refine Lt fun ax ay => ?_
      refine Fe (fr' := [(1, _), (3, .str ax)]) [1, 3] (o1 54 (Pb aw)) (Ev (by simp only [go_sem, av, y, z, ay]; exact Ac)) ?_
      exact Jm (ws [0])
    · refine Sk ?_
      exact Jm (ws [0])
  intro x
  refine Ja (fun aa => ⟨As 74 [(3, .str aa)], []⟩) ?_ ?_
  · intro aU
    refine T0 [1, 3, 6] ?_
    refine Sb ?_
    refine Lo (fun (v : List UInt8 × Int) => (⟨As 74 [(1, .ref 0 0), (3, .str v.1), (6, i64 v.2)], [.box [i64 a.Kind, i64 a.Ref.Railway, i64 a.Ref.No, i64 a.Wagon, i64 a.Place, i64 a.Other, i64 a.Number, i64 a.From, i64 a.To, i64 a.Code, i64 a.Dest, i64 a.Class, i64 a.Weight, i64 a.Amount, .str a.Text, .sl false (L Ab a.Parts)] false]⟩ : St)) (ws [0]) ?_
    rintro ⟨ab, az⟩ aV aA aB aC
    show Cl a ab az = some aA → _
    unfold Cl
    refine Sq <|T0 [1, 3, 6, 60] ?_
    refine Cd ?_ ?_
    · refine Sk <|Tn <|Sq <|Sb <|?_
      refine Ck fun aD => ?_
      refine Ck fun aE => ?_
      refine Bd fun aW aF => ?_
      refine Ck fun ac => ?_
      have ad := ac; simp only [List.cons_append, List.nil_append, List.length_append, List.length_cons, List.length_nil, Nat.zero_add, Nat.reduceAdd] at ad
      refine Lt fun aG aH => ?_
      refine Fe (fr' := [(1, _), (3, .str aG), (6, _)]) [1, 3, 6] (o1 70 (Mg aF)) (Ev (by simp only [go_sem, aD, qR aE, ac, ad, aH]; exact Ac)) ?_
      refine Bn <|Tn <|F0 [1, 3, 6] ?_
      exact Ln (ws [0])
    · refine Sx <|Tx <|Ly aC aB <|Bx <|?_
      exact Jm ((ws (l' := [(3, .str ab)]) (σ' := []) []).trans (ws []))
  intro aa
  refine Ck fun aI => ?_
  refine Te [2] Aa (Ev (by simp only [go_sem, aI]; exact Ac)) ?_
  exact Sr <|Rr
theorem Qf {a r} (h : Hz a = some r) : Con B 19 [.agg [i64 a.Kind, i64 a.Ref.Railway, i64 a.Ref.No, i64 a.Wagon, i64 a.Place, i64 a.Other, i64 a.Number, i64 a.From, i64 a.To, i64 a.Code, i64 a.Dest, i64 a.Class, i64 a.Weight, i64 a.Amount, .str a.Text, .sl false (L Ab a.Parts)]] [] (fun r' σ' => r' = .tup [.str r.1, i64 r.2] ∧ σ' = []) := by
  refine Cw 15 [.tmp 2, .tmp 3] Tryz.func19 (fun F hE => ?_) h
  unfold Hz
  refine T0 [1] ?_
  refine Sq ?_
  refine Bd fun d b => ?_
  refine Te [1, 8] (o1 7 (Pt b)) Ev ?_
  refine Cd ?_ ?_
  · refine T0 [2, 3] ?_
    exact Sr <|Tr <|Rr
  · refine Sk <|Tn <|?_
    refine Bd fun e c => ?_
    refine Te [4] (o1 10 (N4 c)) Ev ?_
    refine Sq <|T0 [4, 13] ?_
    refine Cd ?_ ?_
    · refine T0 [2, 3] ?_
      exact Sr <|Tr <|Rr
    · refine Sk <|Tn <|T0 [2, 3] ?_
      exact Sr <|Rr
theorem Ry {a r} (h : I0 a = some r) : Con B 22 [.agg [i64 a.Kind, i64 a.Ref.Railway, i64 a.Ref.No, i64 a.Wagon, i64 a.Place, i64 a.Other, i64 a.Number, i64 a.From, i64 a.To, i64 a.Code, i64 a.Dest, i64 a.Class, i64 a.Weight, i64 a.Amount, .str a.Text, .sl false (L Ab a.Parts)]] [] (fun r' σ' => r' = .agg [i64 r.Kind, i64 r.N, .sl false (L cU8 r.B), .sl false (L cApi_Value r.L)] ∧ σ' = []) := by
  refine Cw 92 [.cell 2 55] Tryz.func22 (fun F hE => ?_) h
  unfold I0
  refine T0 [1, 2] ?_
  refine Bd fun ay g => ?_
  refine Bd fun az i => ?_
  refine Bd fun aA j => ?_
  refine De [[], [0], [0, 1], [0, 1, 2], [], [4], [4, 5], [0, 1, 2, 3, 4, 5, 6], [0, 1, 2, 3, 4, 5, 6, 7], [0, 1, 2, 3, 4, 5, 6, 7, 8], [], [0, 1, 2, 3, 4, 5, 6, 7, 8, 9, 10]] [1, 2, 3] (Ds (l := [(11, _, _, _), (15, _, _, _), (17, _, _, _)]) ⟨Bi  g, Bi  i, Gu  j, trivial⟩) Ev ?_
  refine Bd fun aB k => ?_
  refine Bd fun aC m => ?_
  refine Bd fun aD n => ?_
  refine Bd fun aE o => ?_
  refine Bd fun aF p => ?_
  refine Bd fun aG q => ?_
  refine Bd fun aH s => ?_
  refine Bd fun aI t => ?_
  refine Bd fun aJ u => ?_
  refine Bd fun aK w => ?_
  refine Bd fun aL x => ?_
  refine Bd fun aM y => ?_
  refine Bd fun aN z => ?_
  refine Lt fun b aa => ?_
  refine De (fr' := [(1, _), (2, _), (4, .bs true 3 (b.length) 0 (b.length))]) (σ' := [_, _, _, .buf 4 (L cApi_Value b) false]) [[], [0], [0, 1], [], [], [4], [0, 1, 2, 4, 5], [], [7], [0, 1, 2, 4, 5, 6, 7, 8], [], [10], [0, 1, 2, 4, 5, 6, 7, 8, 9, 10, 11], [], [13], [0, 1, 2, 4, 5, 6, 7, 8, 9, 10, 11, 12, 13, 14], [], [16], [0, 1, 2, 4, 5, 6, 7, 8, 9, 10, 11, 12, 13, 14, 15, 16, 17], [], [19], [0, 1, 2, 4, 5, 6, 7, 8, 9, 10, 11, 12, 13, 14, 15, 16, 17, 18, 19, 20], [], [22], [0, 1, 2, 4, 5, 6, 7, 8, 9, 10, 11, 12, 13, 14, 15, 16, 17, 18, 19, 20, 21, 22, 23], [], [25], [0, 1, 2, 4, 5, 6, 7, 8, 9, 10, 11, 12, 13, 14, 15, 16, 17, 18, 19, 20, 21, 22, 23, 24, 25, 26], [], [28], [0, 1, 2, 4, 5, 6, 7, 8, 9, 10, 11, 12, 13, 14, 15, 16, 17, 18, 19, 20, 21, 22, 23, 24, 25, 26, 27, 28, 29], [], [31], [0, 1, 2, 4, 5, 6, 7, 8, 9, 10, 11, 12, 13, 14, 15, 16, 17, 18, 19, 20, 21, 22, 23, 24, 25, 26, 27, 28, 29, 30, 31, 32], [], [34], [0, 1, 2, 4, 5, 6, 7, 8, 9, 10, 11, 12, 13, 14, 15, 16, 17, 18, 19, 20, 21, 22, 23, 24, 25, 26, 27, 28, 29, 30, 31, 32, 33, 34, 35], [], [37], [0, 1, 2, 4, 5, 6, 7, 8, 9, 10, 11, 12, 13, 14, 15, 16, 17, 18, 19, 20, 21, 22, 23, 24, 25, 26, 27, 28, 29, 30, 31, 32, 33, 34, 35, 36, 37, 38], [0, 1, 2, 3, 4, 5, 6, 7, 8, 9, 10, 11, 12, 13, 14, 15, 16, 17, 18, 19, 20, 21, 22, 23, 24, 25, 26, 27, 28, 29, 30, 31, 32, 33, 34, 35, 36, 37, 38, 39], [0, 1, 2, 3, 4, 5, 6, 7, 8, 9, 10, 11, 12, 13, 14, 15, 16, 17, 18, 19, 20, 21, 22, 23, 24, 25, 26, 27, 28, 29, 30, 31, 32, 33, 34, 35, 36, 37, 38, 39, 40]] [1, 2, 4] (Ds (l := [(20, _, _, _), (24, _, _, _), (27, _, _, _), (30, _, _, _), (33, _, _, _), (36, _, _, _), (39, _, _, _), (42, _, _, _), (45, _, _, _), (48, _, _, _), (51, _, _, _), (54, _, _, _), (57, _, _, _)]) ⟨Bi  k, Bi  m, Bi  n, Bi  o, Bi  p, Bi  q, Bi  s, Bi  t, Bi  u, Bi  w, Bi  x, Bi  y, T8  z, trivial⟩) (Ev (by simp only [go_sem, aa]; exact Ac)) ?_
  refine Lt fun e ab => ?_
  refine Te (fr' := [(1, _), (2, _), (4, _), (5, .bs true 4 (e.length) 0 (e.length))]) (σ' := [_, _, _, _, .buf 4 (L cApi_Value e) false]) [1, 2, 4, 5] Aa (Ev (by simp only [go_sem, ab]; exact Ac)) ?_
  refine Ja (fun c => ⟨As 92 [(2, .ref 0 0), (4, .bs true 1 (b.length) 0 (b.length)), (5, .bs false 2 (c.length) 0 (c.length))], [.box [i64 0, i64 0, .sl true (L cU8 ([])), .sl true (L cApi_Value ([]))] false, .buf 4 (L cApi_Value b) false, .buf 4 (L cApi_Value c) false]⟩) ?_ ?_
  · intro aO
    refine T0 [1, 2, 4, 5, 6] ?_
    refine Sb ?_
    refine Lo (fun (v : Int × List Api_Value) => (⟨As 92 [(1, .ref 0 0), (2, .ref 1 0), (4, .bs true 2 (b.length) 0 (b.length)), (5, .bs false 3 (v.2.length) 0 (v.2.length)), (6, i64 v.1)], [.box [i64 a.Kind, i64 a.Ref.Railway, i64 a.Ref.No, i64 a.Wagon, i64 a.Place, i64 a.Other, i64 a.Number, i64 a.From, i64 a.To, i64 a.Code, i64 a.Dest, i64 a.Class, i64 a.Weight, i64 a.Amount, .str a.Text, .sl false (L Ab a.Parts)] false, .box [i64 0, i64 0, .sl true (L cU8 ([])), .sl true (L cApi_Value ([]))] false, .buf 4 (L cApi_Value b) false, .buf 4 (L cApi_Value v.2) false]⟩ : St)) (ws [0, 1, 3, 4]) ?_
    rintro ⟨ac, d⟩ aP ad ae af
    show Df a ac d = some ad → _
    unfold Df
    refine Sq <|T0 [1, 2, 4, 5, 6, 64] ?_
    refine Cd ?_ ?_
    · refine Sk <|Tn <|Sq <|Sb <|?_
      refine Ck fun ag => ?_
      refine Lt fun ah ai => ?_
      refine Lt fun aj ak => ?_
      refine Lt fun al am => ?_
      refine Te (σ' := [_, _, _, _, .box [i64 ah, i64 aj, .bool al] false]) [1, 2, 4, 5, 6, 7] Aa (Ev (by simp only [go_sem, qR ag, ai, ak, am]; exact Ac)) ?_
      refine Bd fun aQ an => ?_
      refine Bd fun aR ao => ?_
      refine Bd fun aS ap => ?_
      refine Bd fun aT aq => ?_
      refine Ck fun ar => ?_
      refine Lt fun f au => ?_
      refine Ge (fr' := [(1, _), (2, _), (4, _), (5, .bs false 3 (f.length) 0 (f.length)), (6, _)]) (σ' := [_, _, _, .buf 4 (L cApi_Value f) false, _, _]) [[], [], [1], [1, 2], [], [4], [1, 2, 3, 4, 5], [], [7], [1, 2, 3, 4, 5, 6, 7, 8], [1, 2, 3, 4, 5, 6, 7, 8, 9], [1, 2, 3, 4, 5, 6, 7, 8, 9, 10], [1, 2, 3, 4, 5, 6, 7, 8, 9, 10, 11], [0, 1, 2, 3, 4, 5, 6, 7, 8, 9, 10, 11, 12], [0, 1, 2, 3, 4, 5, 6, 7, 8, 9, 10, 11, 12, 13]] [1, 2, 4, 5, 6] (Ds (l := [(75, _, _, _), (78, _, _, _), (81, _, _, _), (83, _, _, _)]) ⟨Bi  an, Bi  ao, T3  ap, Gu  aq, trivial⟩) (Ev (by simp only [go_sem, ar, au]; exact Ac)) ?_
      refine Bn <|Tn <|F0 [1, 2, 4, 5, 6] ?_
      exact Ln (ws [0, 1, 2, 3])
    · refine Sx <|Tx <|Ly af ae <|Bx <|?_
      exact Jm ((ws (l' := [(2, .ref 0 0), (4, .bs true 1 (b.length) 0 (b.length)), (5, .bs false 2 (d.length) 0 (d.length))]) (σ' := [.box [i64 0, i64 0, .sl true (L cU8 ([])), .sl true (L cApi_Value ([]))] false, .buf 4 (L cApi_Value b) false, .buf 4 (L cApi_Value d) false]) [1, 2, 3]).trans (ws [0, 1, 2]))
  intro c
  refine Bd fun aU av => ?_
  refine Ck fun aw => ?_
  refine Bd fun aV ax => ?_
  refine Te [2] (o2 88 (Gu av) 91 (Gu ax)) (Ev (by simp only [go_sem, aw]; exact Ac)) ?_
  exact Sr <|Rr
theorem Mv {a b r} (h : H9 a b = some r) : Con B 73 [.sl false (L Ab a), .sl false (L Ab b)] [] (fun r' σ' => r' = .bool r ∧ σ' = []) := by
  refine Cw 26 [.tmp 4] Tryz.func73 (fun F hE => ?_) h
  unfold H9
  refine T0 [0, 1] ?_
  refine Sq <|T0 [0, 1, 10] ?_
  refine Cd ?_ ?_
  · refine T0 [4] ?_
    exact Sr <|Tr <|Rr
  · refine Sk <|Tn <|?_
    refine Jo (fun _ => ⟨As 26 [], []⟩) ?_ ?_
    · intro m f
      refine T0 [0, 1, 5] ?_
      refine Sb ?_
      refine Lo (fun c => ⟨As 26 [(0, .sl false (L Ab a)), (1, .sl false (L Ab b)), (5, i64 c)], []⟩) (ws []) ?_
      rintro c n g d e
      show Fs a b c = some g → _
      unfold Fs
      refine Sq <|T0 [0, 1, 5, 14] ?_
      refine Cd ?_ ?_
      · refine Sk <|Tn <|Sq <|Sb <|?_
        refine Ck fun i => ?_
        refine Ck fun j => ?_
        refine Lt fun k l => ?_
        refine De (fr' := [(0, _), (1, _), (5, _), (25, .bool k)]) [[], [], [0, 1], [0, 1, 2], [], [], [4, 5], [4, 5, 6], [0, 1, 2, 3, 4, 5, 6, 7]] [0, 1, 5, 25] Aa (Ev (by simp only [go_sem, qR i, qR j, l]; exact Ac)) ?_
        refine Cd ?_ ?_
        · refine T0 [4] ?_
          exact Sr <|Br <|Tr <|Lr e d <|Br <|Jr f <|Rr
        · refine Sk <|Bn <|Tn <|F0 [0, 1, 5] ?_
          exact Ln (ws [])
      · refine Sx <|Tx <|Lx e d <|Bx <|?_
        exact Jn ((ws (l' := []) (σ' := []) []).trans (ws []))
    intro _
    refine T0 [4] ?_
    exact Sr <|Rr
theorem Gp {a b r} (h : Lw a b = some r) : Con B 25 [.agg [i64 a.Kind, i64 a.Ref.Railway, i64 a.Ref.No, i64 a.Wagon, i64 a.Place, i64 a.Other, i64 a.Number, i64 a.From, i64 a.To, i64 a.Code, i64 a.Dest, i64 a.Class, i64 a.Weight, i64 a.Amount, .str a.Text, .sl false (L Ab a.Parts)], .agg [i64 b.Kind, i64 b.Ref.Railway, i64 b.Ref.No, i64 b.Wagon, i64 b.Place, i64 b.Other, i64 b.Number, i64 b.From, i64 b.To, i64 b.Code, i64 b.Dest, i64 b.Class, i64 b.Weight, i64 b.Amount, .str b.Text, .sl false (L Ab b.Parts)]] [] (fun r' σ' => r' = .bool r ∧ σ' = []) := by
  refine Cw 45 [.tmp 4] Tryz.func25 (fun F hE => ?_) h
  unfold Lw
  refine T0 [2, 3] ?_
  refine Jo (fun _ => ⟨As 45 [(2, .ref 0 0), (3, .ref 1 0)], [.box [i64 a.Kind, i64 a.Ref.Railway, i64 a.Ref.No, i64 a.Wagon, i64 a.Place, i64 a.Other, i64 a.Number, i64 a.From, i64 a.To, i64 a.Code, i64 a.Dest, i64 a.Class, i64 a.Weight, i64 a.Amount, .str a.Text, .sl false (L Ab a.Parts)] false, .box [i64 b.Kind, i64 b.Ref.Railway, i64 b.Ref.No, i64 b.Wagon, i64 b.Place, i64 b.Other, i64 b.Number, i64 b.From, i64 b.To, i64 b.Code, i64 b.Dest, i64 b.Class, i64 b.Weight, i64 b.Amount, .str b.Text, .sl false (L Ab b.Parts)] false]⟩) ?_ ?_
  · intro u o
    refine T0 [2, 3, 5] ?_
    refine Sb ?_
    refine Lo (fun e => ⟨As 45 [(2, .ref 0 0), (3, .ref 1 0), (5, i64 e)], [.box [i64 a.Kind, i64 a.Ref.Railway, i64 a.Ref.No, i64 a.Wagon, i64 a.Place, i64 a.Other, i64 a.Number, i64 a.From, i64 a.To, i64 a.Code, i64 a.Dest, i64 a.Class, i64 a.Weight, i64 a.Amount, .str a.Text, .sl false (L Ab a.Parts)] false, .box [i64 b.Kind, i64 b.Ref.Railway, i64 b.Ref.No, i64 b.Wagon, i64 b.Place, i64 b.Other, i64 b.Number, i64 b.From, i64 b.To, i64 b.Code, i64 b.Dest, i64 b.Class, i64 b.Weight, i64 b.Amount, .str b.Text, .sl false (L Ab b.Parts)] false]⟩) (ws [0, 1]) ?_
    rintro e v p g i
    show Kv a b e = some p → _
    unfold Kv
    refine Sq <|T0 [2, 3, 5, 7] ?_
    refine Cd ?_ ?_
    · refine Sk <|Tn <|Sq <|Sb <|?_
      refine Ck fun j => ?_
      have k := j; simp only [List.cons_append, List.nil_append, List.length_append, List.length_cons, List.length_nil, Nat.zero_add, Nat.reduceAdd] at k
      refine Bd fun w q => ?_
      refine Ck fun l => ?_
      have m := l; simp only [List.cons_append, List.nil_append, List.length_append, List.length_cons, List.length_nil, Nat.zero_add, Nat.reduceAdd] at m
      refine Bd fun x s => ?_
      refine De [[], [], [1], [0, 1, 2], [], [], [5], [0, 1, 2, 3, 4, 5, 6], [0, 1, 2, 3, 4, 5, 6, 7]] [2, 3, 5, 18] (o2 13 (Ia q) 17 (Ia s)) (Ev (by simp only [go_sem, qR j, k, qR l, m]; exact Ac)) ?_
      refine Cd ?_ ?_
      · refine T0 [4] ?_
        exact Sr <|Br <|Tr <|Lr i g <|Br <|Jr o <|Rr
      · refine Sk <|Bn <|Tn <|F0 [2, 3, 5] ?_
        exact Ln (ws [0, 1])
    · refine Sx <|Tx <|Lx i g <|Bx <|?_
      exact Jn ((ws (l' := [(2, .ref 0 0), (3, .ref 1 0)]) (σ' := [.box [i64 a.Kind, i64 a.Ref.Railway, i64 a.Ref.No, i64 a.Wagon, i64 a.Place, i64 a.Other, i64 a.Number, i64 a.From, i64 a.To, i64 a.Code, i64 a.Dest, i64 a.Class, i64 a.Weight, i64 a.Amount, .str a.Text, .sl false (L Ab a.Parts)] false, .box [i64 b.Kind, i64 b.Ref.Railway, i64 b.Ref.No, i64 b.Wagon, i64 b.Place, i64 b.Other, i64 b.Number, i64 b.From, i64 b.To, i64 b.Code, i64 b.Dest, i64 b.Class, i64 b.Weight, i64 b.Amount, .str b.Text, .sl false (L Ab b.Parts)] false]) [0, 1]).trans (ws [0, 1]))
  intro _
  refine Tw [4] (fun n => ⟨As 45 [(4, .bool n)], []⟩) ?_ ?_
  · intro _
    refine Sp (fun c => ?_) fun c => ?_
    · refine Sp (fun d => ?_) fun d => ?_
      · refine Sp (fun f => ?_) fun f => ?_
        · refine Bd fun y t => ?_
          exact Lf (o1 43 (Mv t)) (Ev (by simp only [go_sem, c, d, f]; exact Ac)) (ws [])
        · exact Lf Aa (Ev (by simp only [go_sem, c, d, f]; exact Ac)) (ws [])
      · exact Lf Aa (Ev (by simp only [go_sem, c, d]; exact Ac)) (ws [])
    · exact Lf Aa (Ev (by simp only [go_sem, c]; exact Ac)) (ws [])
  intro n
  exact Sr <|Rr
end Go.Proofs.YtnfoiocigicdnaaGreatDoor
