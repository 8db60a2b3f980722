/-
  Part 43.
-/
import Derived.Test.YtnfoiocigicdnaaGreatDoorYF40
import Derived.Test.YtnfoiocigicdnaaGreatDoorYF41
import Derived.Test.YtnfoiocigicdnaaGreatDoorYF42
import Derived.KernelRfl
namespace Go.Proofs.YtnfoiocigicdnaaGreatDoor
open Go.Rv
set_option linter.unusedVariables false
set_option linter.unusedSimpArgs false
set_option maxRecDepth 20000
set_option maxHeartbeats 4000000
theorem M2 {a b r} (h : E7 a b = some r) : Con B 73 [.sl false (L Ac a), .sl false (L Ac b)] [] (fun r' σ' => r' = .bool r ∧ σ' = []) := by
 refine Cw 26 [.tmp 4] Tryz.func73 (fun F hE => ?_) h
 unfold E7
 refine T0 [0, 1] ?_
 refine Sq <|T0 [0, 1, 10] ?_
 refine Cd ?_ ?_
 ·refine T0 [4] ?_
  exact Sr <|Tr <|Rr
 ·refine Sk <|Tn <|?_
  refine Jo (fun _ => ⟨Ap 26 [], []⟩) ?_ ?_
  ·intro m f
   refine T0 [0, 1, 5] ?_
   refine Sb ?_
   refine Lo (fun c => ⟨Ap 26 [(0, .sl false (L Ac a)), (1, .sl false (L Ac b)), (5, i64 c)], []⟩) (ws []) ?_
   rintro c n g d e
   show Dh a b c = some g → _
   unfold Dh
   refine Sq <|T0 [0, 1, 5, 14] ?_
   refine Cd ?_ ?_
   ·refine Sk <|Tn <|Sq <|Sb <|Ck fun i =>Ck fun j =>Lt fun k l =>De (fr' := [(0, _), (1, _), (5, _), (25, .bool k)]) [[], [], [0, 1], [0, 1, 2], [], [], [4, 5], [4, 5, 6], [0, 1, 2, 3, 4, 5, 6, 7]] [0, 1, 5, 25] Aa (Ev (by simp only [go_sem, qR i, qR j, l]; exact Ab)) ?_
    refine Cd ?_ ?_
    ·refine T0 [4] ?_
     exact Sr <|Br <|Tr <|Lr e d <|Br <|Jr f <|Rr
    ·refine Sk <|Bn <|Tn <|F0 [0, 1, 5] ?_
     exact Ln (ws [])
   ·refine Sx <|Tx <|Lx e d <|Bx <|?_
    exact Jn ((ws (l' := []) (σ' := []) []).trans (ws []))
  intro _
  refine T0 [4] ?_
  exact Sr <|Rr
theorem Fq {a b r} (h : Ga a b = some r) : Con B 25 [.agg [i64 a.Kind, i64 a.Ref.Railway, i64 a.Ref.No, i64 a.Wagon, i64 a.Place, i64 a.Other, i64 a.Number, i64 a.From, i64 a.To, i64 a.Code, i64 a.Dest, i64 a.Class, i64 a.Weight, i64 a.Amount, .str a.Text, .sl false (L Ac a.Parts)], .agg [i64 b.Kind, i64 b.Ref.Railway, i64 b.Ref.No, i64 b.Wagon, i64 b.Place, i64 b.Other, i64 b.Number, i64 b.From, i64 b.To, i64 b.Code, i64 b.Dest, i64 b.Class, i64 b.Weight, i64 b.Amount, .str b.Text, .sl false (L Ac b.Parts)]] [] (fun r' σ' => r' = .bool r ∧ σ' = []) := by
 refine Cw 45 [.tmp 4] Tryz.func25 (fun F hE => ?_) h
 unfold Ga
 refine T0 [2, 3] ?_
 refine Jo (fun _ => ⟨Ap 45 [(2, .ref 0 0), (3, .ref 1 0)], [.box [i64 a.Kind, i64 a.Ref.Railway, i64 a.Ref.No, i64 a.Wagon, i64 a.Place, i64 a.Other, i64 a.Number, i64 a.From, i64 a.To, i64 a.Code, i64 a.Dest, i64 a.Class, i64 a.Weight, i64 a.Amount, .str a.Text, .sl false (L Ac a.Parts)] false, .box [i64 b.Kind, i64 b.Ref.Railway, i64 b.Ref.No, i64 b.Wagon, i64 b.Place, i64 b.Other, i64 b.Number, i64 b.From, i64 b.To, i64 b.Code, i64 b.Dest, i64 b.Class, i64 b.Weight, i64 b.Amount, .str b.Text, .sl false (L Ac b.Parts)] false]⟩) ?_ ?_
 ·intro u o
  refine T0 [2, 3, 5] ?_
  refine Sb ?_
  refine Lo (fun e => ⟨Ap 45 [(2, .ref 0 0), (3, .ref 1 0), (5, i64 e)], [.box [i64 a.Kind, i64 a.Ref.Railway, i64 a.Ref.No, i64 a.Wagon, i64 a.Place, i64 a.Other, i64 a.Number, i64 a.From, i64 a.To, i64 a.Code, i64 a.Dest, i64 a.Class, i64 a.Weight, i64 a.Amount, .str a.Text, .sl false (L Ac a.Parts)] false, .box [i64 b.Kind, i64 b.Ref.Railway, i64 b.Ref.No, i64 b.Wagon, i64 b.Place, i64 b.Other, i64 b.Number, i64 b.From, i64 b.To, i64 b.Code, i64 b.Dest, i64 b.Class, i64 b.Weight, i64 b.Amount, .str b.Text, .sl false (L Ac b.Parts)] false]⟩) (ws [0, 1]) ?_
  rintro e v p g i
  show G7 a b e = some p → _
  unfold G7
  refine Sq <|T0 [2, 3, 5, 7] ?_
  refine Cd ?_ ?_
  ·refine Sk <|Tn <|Sq <|Sb <|Ck fun j =>?_
   have k := j; simp only [List.cons_append, List.nil_append, List.length_append, List.length_cons, List.length_nil, Nat.zero_add, Nat.reduceAdd] at k
   refine Bd fun w q =>Ck fun l =>?_
   have m := l; simp only [List.cons_append, List.nil_append, List.length_append, List.length_cons, List.length_nil, Nat.zero_add, Nat.reduceAdd] at m
   refine Bd fun x s =>De [[], [], [1], [0, 1, 2], [], [], [5], [0, 1, 2, 3, 4, 5, 6], [0, 1, 2, 3, 4, 5, 6, 7]] [2, 3, 5, 18] (o2 13 (Ll q) 17 (Ll s)) (Ev (by simp only [go_sem, qR j, k, qR l, m]; exact Ab)) ?_
   refine Cd ?_ ?_
   ·refine T0 [4] ?_
    exact Sr <|Br <|Tr <|Lr i g <|Br <|Jr o <|Rr
   ·refine Sk <|Bn <|Tn <|F0 [2, 3, 5] ?_
    exact Ln (ws [0, 1])
  ·refine Sx <|Tx <|Lx i g <|Bx <|?_
   exact Jn ((ws (l' := [(2, .ref 0 0), (3, .ref 1 0)]) (σ' := [.box [i64 a.Kind, i64 a.Ref.Railway, i64 a.Ref.No, i64 a.Wagon, i64 a.Place, i64 a.Other, i64 a.Number, i64 a.From, i64 a.To, i64 a.Code, i64 a.Dest, i64 a.Class, i64 a.Weight, i64 a.Amount, .str a.Text, .sl false (L Ac a.Parts)] false, .box [i64 b.Kind, i64 b.Ref.Railway, i64 b.Ref.No, i64 b.Wagon, i64 b.Place, i64 b.Other, i64 b.Number, i64 b.From, i64 b.To, i64 b.Code, i64 b.Dest, i64 b.Class, i64 b.Weight, i64 b.Amount, .str b.Text, .sl false (L Ac b.Parts)] false]) [0, 1]).trans (ws [0, 1]))
 intro _
 refine Tw [4] (fun n => ⟨Ap 45 [(4, .bool n)], []⟩) ?_ ?_
 ·intro _
  refine Sp (fun c => ?_) fun c => ?_
  ·refine Sp (fun d => ?_) fun d => ?_
   ·refine Sp (fun f => ?_) fun f => ?_
    ·refine Bd fun y t => ?_
     exact Lf (o1 43 (M2 t)) (Ev (by simp only [go_sem, c, d, f]; exact Ab)) (ws [])
    ·exact Lf Aa (Ev (by simp only [go_sem, c, d, f]; exact Ab)) (ws [])
   ·exact Lf Aa (Ev (by simp only [go_sem, c, d]; exact Ab)) (ws [])
  ·exact Lf Aa (Ev (by simp only [go_sem, c]; exact Ab)) (ws [])
 intro n
 exact Sr <|Rr
end Go.Proofs.YtnfoiocigicdnaaGreatDoor
