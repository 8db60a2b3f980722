/-
  Part 42.
-/
import Derived.Test.YtnfoiocigicdnaaGreatDoorYB26
import Derived.Test.YtnfoiocigicdnaaGreatDoorYB39
import Derived.Test.YtnfoiocigicdnaaGreatDoorYB40
import Derived.Test.YtnfoiocigicdnaaGreatDoorYB41
import Derived.KernelRfl
import Derived.Lib.Bytealg
import Derived.Lib.AtoiAllCases
namespace Go.Proofs.YtnfoiocigicdnaaGreatDoor
open Go.Rv
set_option linter.unusedVariables false
set_option linter.unusedSimpArgs false
set_option maxRecDepth 20000
set_option maxHeartbeats 4000000
theorem Nq {a r} (h : Ji a = some r) : Con B 87 [.agg [i64 a.Kind, i64 a.Railway, i64 a.Other]] [] (fun r' σ' => r' = .bool r ∧ σ' = []) := by
  refine Cw 42 [.tmp 2] Tryz.func87 (fun F hE => ?_) h
  unfold Ji
  refine T0 [1] ?_
  refine Sq ?_
  refine Tw [1, 20] (fun g => ⟨Ao 42 [(1, .ref 0 0), (20, .bool g)], [.box [i64 a.Kind, i64 a.Railway, i64 a.Other] false]⟩) ?_ ?_
  · intro _
    refine Sp (fun b => ?_) fun b => ?_
    · exact Lf Aa (Ev (by simp only [go_sem, b]; exact Ac)) (ws [0])
    · refine Sp (fun c => ?_) fun c => ?_
      · exact Lf Aa (Ev (by simp only [go_sem, b, c]; exact Ac)) (ws [0])
      · refine Sp (fun e => ?_) fun e => ?_
        · exact Lf Aa (Ev (by simp only [go_sem, b, c, e]; exact Ac)) (ws [0])
        · exact Lf Aa (Ev (by simp only [go_sem, b, c, e]; exact Ac)) (ws [0])
  intro g
  refine Cd ?_ ?_
  · refine T0 [2] ?_
    exact Sr <|Tr <|Rr
  · refine Sk <|Tn <|Sq <|T0 [1, 23] ?_
    refine Cd ?_ ?_
    · refine T0 [2] ?_
      exact Sr <|Tr <|Rr
    · refine Sk <|Tn <|?_
      refine Tw [2] (fun i => ⟨Ao 42 [(2, .bool i)], []⟩) ?_ ?_
      · intro _
        refine Sp (fun d => ?_) fun d => ?_
        · refine Sp (fun f => ?_) fun f => ?_
          · exact Lf Aa (Ev (by simp only [go_sem, d, f]; exact Ac)) (ws [])
          · exact Lf Aa (Ev (by simp only [go_sem, d, f]; exact Ac)) (ws [])
        · exact Lf Aa (Ev (by simp only [go_sem, d]; exact Ac)) (ws [])
      intro i
      exact Sr <|Rr
theorem Nj {a r} (h : Jl a = some r) : Con B 39 [.agg [.sl false (L Ah a.Places), .sl false (L Ap a.Edges)]] [] (fun r' σ' => r' = i64 r ∧ σ' = []) := by
  refine Cw 84 [.tmp 2] Tryz.func39 (fun F hE => ?_) h
  unfold Jl
  refine T0 [1] ?_
  refine Lt fun b i => ?_
  refine Te (fr' := [(1, _), (3, i64 b)]) [1, 3] Aa (Ev (by simp only [go_sem, i]; exact Ac)) ?_
  refine Sq ?_
  refine Tw [1, 3, 18] (fun e => ⟨Ao 84 [(1, .ref 0 0), (3, i64 b), (18, .bool e)], [.box [.sl false (L Ah a.Places), .sl false (L Ap a.Edges)] false]⟩) ?_ ?_
  · intro _
    refine Sp (fun c => ?_) fun c => ?_
    · exact Lf Aa (Ev (by simp only [go_sem, c]; exact Ac)) (ws [0])
    · exact Lf Aa (Ev (by simp only [go_sem, c]; exact Ac)) (ws [0])
  intro e
  refine Cd ?_ ?_
  · refine T0 [2] ?_
    exact Sr <|Tr <|Rr
  · refine Sk <|Tn <|?_
    refine Jo (fun _ => ⟨Ao 84 [(1, .ref 0 0), (3, i64 b)], [.box [.sl false (L Ah a.Places), .sl false (L Ap a.Edges)] false]⟩) ?_ ?_
    · intro ac j
      refine T0 [1, 3, 20, 21, 22] ?_
      refine Sb ?_
      refine Lo (fun d => ⟨Ao 84 [(1, .ref 0 0), (3, i64 b), (20, .sl false (L Ah a.Places)), (21, i64 ((a.Places.length : Int))), (22, i64 d)], [.box [.sl false (L Ah a.Places), .sl false (L Ap a.Edges)] false]⟩) (ws [0]) ?_
      rintro d ad k f g
      show G7 a d = some k → _
      unfold G7
      refine T0 [1, 3, 20, 21, 22, 23] ?_
      refine Sq ?_
      refine Cd ?_ ?_
      · refine Sk <|Tn <|Sq <|Sb <|?_
        refine Ck fun l => ?_
        refine Lt fun m n => ?_
        refine Lt fun o p => ?_
        refine Lt fun q s => ?_
        refine Te (σ' := [_, .box [i64 m, i64 o, i64 q] false]) [1, 3, 5, 20, 21, 22] Aa (Ev (by simp only [go_sem, qR l, n, p, s]; exact Ac)) ?_
        refine Bd fun ae t => ?_
        refine Te [1, 3, 20, 21, 22, 28] (o1 27 (Nq t)) Ev ?_
        refine Cd ?_ ?_
        · refine T0 [2] ?_
          exact Sr <|Br <|Tr <|Lr g f <|Br <|Jr j <|Rr
        · refine Sk <|Bn <|Tn <|F0 [1, 3, 20, 21, 22] ?_
          exact Ln (ws [0])
      · refine Sx <|Tx <|Lx g f <|Bx <|?_
        exact Jn ((ws (l' := [(1, .ref 0 0), (3, i64 b)]) (σ' := [.box [.sl false (L Ah a.Places), .sl false (L Ap a.Edges)] false]) [0]).trans (ws [0]))
    intro _
    refine Ja (fun _ => ⟨Ao 84 [], []⟩) ?_ ?_
    · intro af
      refine T0 [3, 31, 32, 33] ?_
      refine Sb ?_
      refine Lo (fun _ => ⟨Ao 84 [(3, i64 b), (31, .sl false (L Ap a.Edges)), (32, i64 ((a.Edges.length : Int))), (33, i64 0)], []⟩) (ws []) ?_
      rintro ⟨⟩ ag u v w
      show Hd a  = some u → _
      unfold Hd
      refine T0 [3, 31, 32, 33, 34] ?_
      refine Sq ?_
      refine Cd ?_ ?_
      · refine Sk <|Tn <|Sq <|Sb <|?_
        refine Ck fun x => ?_
        refine Lt fun y z => ?_
        refine Lt fun aa ab => ?_
        refine Te (σ' := [.box [i64 ((nth a.Edges 0).A), i64 ((nth a.Edges 0).B), i64 y, i64 aa, i64 ((nth a.Edges 0).Km)] false]) [3, 7, 31, 32, 33] Aa (Ev (by simp only [go_sem, qL x, z, ab]; exact Ac)) ?_
        exact Rn
      · refine Sx <|Tx <|Ly w v <|Bx <|?_
        exact Jm ((ws (l' := []) (σ' := []) []).trans (ws []))
    intro _
    refine T0 [2] ?_
    exact Sr <|Rr
theorem Cv {b c d r} (h : Hh b c d = some r) : Con B 41 [i64 b, i64 c, i64 d] [] (fun r' σ' => r' = .bool r ∧ σ' = []) := by
  refine Cw 15 [.tmp 6] Tryz.func41 (fun F hE => ?_) h
  unfold Hh
  refine T0 [0, 1, 2] ?_
  refine Tw [6] (fun e => ⟨Ao 15 [(6, .bool e)], []⟩) ?_ ?_
  · intro _
    refine Sp (fun a => ?_) fun a => ?_
    · exact Lf Aa (Ev (by simp only [go_sem, a]; exact Ac)) (ws [])
    · exact Lf Aa (Ev (by simp only [go_sem, a]; exact Ac)) (ws [])
  intro e
  exact Sr <|Rr
open Go.RowKit in
theorem U9 {w : World} {pr : Addr → Prop} {g : Gh} {v : Value} {f : Bool} {els : List (List AV)} (h : Rep w pr g v (.sl f els)) (h0 : els.length = 0) : ∃ a c, v = .slice a 0 c := by
  cases h with
  | sl _ a len cap _ _ k c hlen hcap hfull hnone hk hc hr =>
    have : len = 0 := by omega
    subst this
    exact ⟨a, cap, rfl⟩
open Go.RowKit in
theorem Q1 {f : Api_Fleet} {r : Int} (h : L8 f = some r) : Con B 40 [.agg [.sl false (L Ai f.Types), .sl false (L An f.Wagons), .sl false (L A8 f.Swaps), .sl false (L A6 f.Washes)]] [] (fun r' σ' => r' = i64 r ∧ σ' = []) := by
  unfold L8 at h
  split at h
  case isFalse => cases h
  rename_i hl
  obtain ⟨hl1, hl2, hl3, hl4⟩ := hl
  simp only [Option.some.injEq] at h
  subst h
  refine ⟨fun F w g vs hm ha => .inl ⟨⟨Tryz.f40, _, Tryz.func40, rfl, by decide +kernel⟩, ?_⟩⟩
  have hg : g = [] := List.length_eq_zero_iff.1 hm.len
  subst hg
  obtain ⟨vs⟩ := vs
  match vs, ha with
  | [u], ⟨h1, _⟩ =>
    cases h1 with
    | agg _ us _ hs ho hr =>
      obtain ⟨us⟩ := us
      match us, hs with
      | [v1, v2, v3, v4], _ =>
        obtain ⟨a1, c1, e1⟩ := U9 (hr 0 _ rfl) (by simpa [L] using hl1)
        obtain ⟨a2, c2, e2⟩ := U9 (hr 1 _ rfl) (by simpa [L] using hl2)
        obtain ⟨a3, c3, e3⟩ := U9 (hr 2 _ rfl) (by simpa [L] using hl3)
        obtain ⟨a4, c4, e4⟩ := U9 (hr 3 _ rfl) (by simpa [L] using hl4)
        have e1' : v1 = .slice a1 0 c1 := e1
        have e2' : v2 = .slice a2 0 c2 := e2
        have e3' : v3 = .slice a3 0 c3 := e3
        have e4' : v4 = .slice a4 0 c4 := e4
        subst e1' e2' e3' e4'
        refine (O6 a1 a2 a3 a4 c1 c2 c3 c4 w).mono ?_
        rintro e w' ⟨rfl, hb2⟩
        exact ⟨_, _, [], [], rfl, ⟨rfl, rfl⟩, I7 hm hb2, Hq hb2, .int _ _ _⟩
theorem L4 {a r} (h : Hw a = some r) : Con B 16 [.agg [.sl false (L Ah a.Network.Places), .sl false (L Ap a.Network.Edges), .sl false (L Ai a.Fleet.Types), .sl false (L An a.Fleet.Wagons), .sl false (L A8 a.Fleet.Swaps), .sl false (L A6 a.Fleet.Washes), .sl false (L Am a.Readers), .sl false (L Al a.Shippers), .sl false (L Af a.Railways)]] [] (fun r' σ' => r' = i64 r ∧ σ' = []) := by
  refine Cw 193 [.tmp 2] Tryz.func16 (fun F hE => ?_) h
  unfold Hw
  refine T0 [1] ?_
  refine Sq ?_
  refine Bd fun bX ao => ?_
  refine Te [1, 3] (o1 22 (Nj ao)) Ev ?_
  refine T0 [1, 3, 24] ?_
  refine Cd ?_ ?_
  · refine T0 [2] ?_
    exact Sr <|Tr <|Rr
  · refine Sk <|Tn <|Sq <|?_
    refine Bd fun bY ap => ?_
    refine Te [1, 4] (o1 28 (Q1 ap)) Ev ?_
    refine T0 [1, 4, 30] ?_
    refine Cd ?_ ?_
    · refine T0 [2] ?_
      exact Sr <|Tr <|Rr
    · refine Sk <|Tn <|Sq <|?_
      refine Tw [1, 47] (fun s => ⟨Ao 193 [(1, .ref 0 0), (47, .bool s)], [.box [.sl false (L Ah a.Network.Places), .sl false (L Ap a.Network.Edges), .sl false (L Ai a.Fleet.Types), .sl false (L An a.Fleet.Wagons), .sl false (L A8 a.Fleet.Swaps), .sl false (L A6 a.Fleet.Washes), .sl false (L Am a.Readers), .sl false (L Al a.Shippers), .sl false (L Af a.Railways)] false]⟩) ?_ ?_
      · intro _
        refine Sp (fun f => ?_) fun f => ?_
        · exact Lf Aa (Ev (by simp only [go_sem, f]; exact Ac)) (ws [0])
        · refine Sp (fun l => ?_) fun l => ?_
          · exact Lf Aa (Ev (by simp only [go_sem, f, l]; exact Ac)) (ws [0])
          · exact Lf Aa (Ev (by simp only [go_sem, f, l]; exact Ac)) (ws [0])
      intro s
      refine Cd ?_ ?_
      · refine T0 [2] ?_
        exact Sr <|Tr <|Rr
      · refine Sk <|Tn <|?_
        refine Lt fun b aq => ?_
        refine De (fr' := [(1, _), (5, _), (6, i64 b)]) [[], [0], [0, 1], [], [3], [3, 4], [0, 1, 2], [0, 1, 2, 3, 4, 5, 6]] [1, 5, 6] Aa (Ev (by simp only [go_sem, aq]; exact Ac)) ?_
        refine T0 [1, 5, 6, 7] ?_
        refine Ja (fun t => ⟨Ao 193 [(1, .ref 0 0), (5, .sl false (L Ah a.Network.Places)), (6, i64 b), (7, .bool t)], [.box [.sl false (L Ah a.Network.Places), .sl false (L Ap a.Network.Edges), .sl false (L Ai a.Fleet.Types), .sl false (L An a.Fleet.Wagons), .sl false (L A8 a.Fleet.Swaps), .sl false (L A6 a.Fleet.Washes), .sl false (L Am a.Readers), .sl false (L Al a.Shippers), .sl false (L Af a.Railways)] false]⟩) ?_ ?_
        · intro bZ
          refine T0 [1, 5, 6, 7, 57, 58, 59] ?_
          refine Sb ?_
          refine Lo (fun (v : Bool × Int) => (⟨Ao 193 [(1, .ref 0 0), (5, .sl false (L Ah a.Network.Places)), (6, i64 b), (7, .bool v.1), (57, .sl false (L Am a.Readers)), (58, i64 ((a.Readers.length : Int))), (59, i64 v.2)], [.box [.sl false (L Ah a.Network.Places), .sl false (L Ap a.Network.Edges), .sl false (L Ai a.Fleet.Types), .sl false (L An a.Fleet.Wagons), .sl false (L A8 a.Fleet.Swaps), .sl false (L A6 a.Fleet.Washes), .sl false (L Am a.Readers), .sl false (L Al a.Shippers), .sl false (L Af a.Railways)] false]⟩ : St)) (ws [0]) ?_
          rintro ⟨u, w⟩ b0 ar au av
          show Fk a u w = some ar → _
          unfold Fk
          refine T0 [1, 5, 6, 7, 57, 58, 59, 60] ?_
          refine Sq ?_
          refine Cd ?_ ?_
          · refine Sk <|Tn <|Sq <|Sb <|?_
            refine Ck fun aw => ?_
            refine Lt fun ax ay => ?_
            refine Lt fun az aA => ?_
            refine Lt fun aB aC => ?_
            refine Te (σ' := [_, .box [i64 ax, i64 az, i64 aB] false]) [1, 5, 6, 7, 9, 57, 58, 59] Aa (Ev (by simp only [go_sem, qR aw, ay, aA, aC]; exact Ac)) ?_
            refine Fw [1, 5, 6, 7, 57, 58, 59] (fun x => ⟨Ao 193 [(1, .ref 0 0), (5, .sl false (L Ah a.Network.Places)), (6, i64 b), (7, .bool x), (57, .sl false (L Am a.Readers)), (58, i64 ((a.Readers.length : Int))), (59, i64 w)], [.box [.sl false (L Ah a.Network.Places), .sl false (L Ap a.Network.Edges), .sl false (L Ai a.Fleet.Types), .sl false (L An a.Fleet.Wagons), .sl false (L A8 a.Fleet.Swaps), .sl false (L A6 a.Fleet.Washes), .sl false (L Am a.Readers), .sl false (L Al a.Shippers), .sl false (L Af a.Railways)] false]⟩) ?_ ?_
            · intro _
              refine Sp (fun c => ?_) fun c => ?_
              · exact Lf Aa (Ev (by simp only [go_sem, c]; exact Ac)) (ws [0])
              · refine Bd fun b1 g => ?_
                refine Sp (fun d => ?_) fun d => ?_
                · exact Lf (o1 70 (Cv g)) (Ev (by simp only [go_sem, c, d]; exact Ac)) (ws [0])
                · refine Sp (fun i => ?_) fun i => ?_
                  · exact Lf (o1 70 (Cv g)) (Ev (by simp only [go_sem, c, d, i]; exact Ac)) (ws [0])
                  · refine Sp (fun m => ?_) fun m => ?_
                    · exact Lf (o1 70 (Cv g)) (Ev (by simp only [go_sem, c, d, i, m]; exact Ac)) (ws [0])
                    · exact Lf (o1 70 (Cv g)) (Ev (by simp only [go_sem, c, d, i, m]; exact Ac)) (ws [0])
            intro x
            refine Bn <|Tn <|F0 [1, 5, 6, 7, 57, 58, 59] ?_
            exact Ln (ws [0])
          · refine Sx <|Tx <|Ly av au <|Bx <|?_
            exact Jm ((ws (l' := [(1, .ref 0 0), (5, .sl false (L Ah a.Network.Places)), (6, i64 b), (7, .bool u)]) (σ' := [.box [.sl false (L Ah a.Network.Places), .sl false (L Ap a.Network.Edges), .sl false (L Ai a.Fleet.Types), .sl false (L An a.Fleet.Wagons), .sl false (L A8 a.Fleet.Swaps), .sl false (L A6 a.Fleet.Washes), .sl false (L Am a.Readers), .sl false (L Al a.Shippers), .sl false (L Af a.Railways)] false]) [0]).trans (ws [0]))
        intro t
        refine Ja (fun y => ⟨Ao 193 [(1, .ref 0 0), (5, .sl false (L Ah a.Network.Places)), (6, i64 b), (7, .bool y)], [.box [.sl false (L Ah a.Network.Places), .sl false (L Ap a.Network.Edges), .sl false (L Ai a.Fleet.Types), .sl false (L An a.Fleet.Wagons), .sl false (L A8 a.Fleet.Swaps), .sl false (L A6 a.Fleet.Washes), .sl false (L Am a.Readers), .sl false (L Al a.Shippers), .sl false (L Af a.Railways)] false]⟩) ?_ ?_
        · intro b2
          refine T0 [1, 5, 6, 7, 92, 93, 94] ?_
          refine Sb ?_
          refine Lo (fun (v : Bool × Int) => (⟨Ao 193 [(1, .ref 0 0), (5, .sl false (L Ah a.Network.Places)), (6, i64 b), (7, .bool v.1), (92, .sl false (L Al a.Shippers)), (93, i64 ((a.Shippers.length : Int))), (94, i64 v.2)], [.box [.sl false (L Ah a.Network.Places), .sl false (L Ap a.Network.Edges), .sl false (L Ai a.Fleet.Types), .sl false (L An a.Fleet.Wagons), .sl false (L A8 a.Fleet.Swaps), .sl false (L A6 a.Fleet.Washes), .sl false (L Am a.Readers), .sl false (L Al a.Shippers), .sl false (L Af a.Railways)] false]⟩ : St)) (ws [0]) ?_
          rintro ⟨z, aa⟩ b3 aD aE aF
          show Fx a z aa = some aD → _
          unfold Fx
          refine T0 [1, 5, 6, 7, 92, 93, 94, 95] ?_
          refine Sq ?_
          refine Cd ?_ ?_
          · refine Sk <|Tn <|Sq <|Sb <|?_
            refine Ck fun aG => ?_
            refine Lt fun aH aI => ?_
            refine Te (σ' := [_, .box [i64 aH] false]) [1, 5, 6, 7, 11, 92, 93, 94] Aa (Ev (by simp only [go_sem, qR aG, aI]; exact Ac)) ?_
            refine Fw [1, 5, 6, 7, 92, 93, 94] (fun ab => ⟨Ao 193 [(1, .ref 0 0), (5, .sl false (L Ah a.Network.Places)), (6, i64 b), (7, .bool ab), (92, .sl false (L Al a.Shippers)), (93, i64 ((a.Shippers.length : Int))), (94, i64 aa)], [.box [.sl false (L Ah a.Network.Places), .sl false (L Ap a.Network.Edges), .sl false (L Ai a.Fleet.Types), .sl false (L An a.Fleet.Wagons), .sl false (L A8 a.Fleet.Swaps), .sl false (L A6 a.Fleet.Washes), .sl false (L Am a.Readers), .sl false (L Al a.Shippers), .sl false (L Af a.Railways)] false]⟩) ?_ ?_
            · intro _
              refine Sp (fun j => ?_) fun j => ?_
              · exact Lf Aa (Ev (by simp only [go_sem, j]; exact Ac)) (ws [0])
              · refine Bd fun b4 ac => ?_
                refine Sp (fun n => ?_) fun n => ?_
                · exact Lf (o1 105 (Cv ac)) (Ev (by simp only [go_sem, j, n]; exact Ac)) (ws [0])
                · refine Ck fun aJ => ?_
                  exact Lf (o1 105 (Cv ac)) (Ev (by simp only [go_sem, j, n, qR aJ]; exact Ac)) (ws [0])
            intro ab
            refine Bn <|Tn <|F0 [1, 5, 6, 7, 92, 93, 94] ?_
            exact Ln (ws [0])
          · refine Sx <|Tx <|Ly aF aE <|Bx <|?_
            exact Jm ((ws (l' := [(1, .ref 0 0), (5, .sl false (L Ah a.Network.Places)), (6, i64 b), (7, .bool z)]) (σ' := [.box [.sl false (L Ah a.Network.Places), .sl false (L Ap a.Network.Edges), .sl false (L Ai a.Fleet.Types), .sl false (L An a.Fleet.Wagons), .sl false (L A8 a.Fleet.Swaps), .sl false (L A6 a.Fleet.Washes), .sl false (L Am a.Readers), .sl false (L Al a.Shippers), .sl false (L Af a.Railways)] false]) [0]).trans (ws [0]))
        intro y
        refine Ja (fun ad => ⟨Ao 193 [(1, .ref 0 0), (5, .sl false (L Ah a.Network.Places)), (6, i64 b), (7, .bool ad)], [.box [.sl false (L Ah a.Network.Places), .sl false (L Ap a.Network.Edges), .sl false (L Ai a.Fleet.Types), .sl false (L An a.Fleet.Wagons), .sl false (L A8 a.Fleet.Swaps), .sl false (L A6 a.Fleet.Washes), .sl false (L Am a.Readers), .sl false (L Al a.Shippers), .sl false (L Af a.Railways)] false]⟩) ?_ ?_
        · intro b5
          refine T0 [1, 5, 6, 7, 120, 121, 122] ?_
          refine Sb ?_
          refine Lo (fun (v : Bool × Int) => (⟨Ao 193 [(1, .ref 0 0), (5, .sl false (L Ah a.Network.Places)), (6, i64 b), (7, .bool v.1), (120, .sl false (L An a.Fleet.Wagons)), (121, i64 ((a.Fleet.Wagons.length : Int))), (122, i64 v.2)], [.box [.sl false (L Ah a.Network.Places), .sl false (L Ap a.Network.Edges), .sl false (L Ai a.Fleet.Types), .sl false (L An a.Fleet.Wagons), .sl false (L A8 a.Fleet.Swaps), .sl false (L A6 a.Fleet.Washes), .sl false (L Am a.Readers), .sl false (L Al a.Shippers), .sl false (L Af a.Railways)] false]⟩ : St)) (ws [0]) ?_
          rintro ⟨ae, af⟩ b6 aK aL aM
          show F6 a ae af = some aK → _
          unfold F6
          refine T0 [1, 5, 6, 7, 120, 121, 122, 123] ?_
          refine Sq ?_
          refine Cd ?_ ?_
          · refine Sk <|Tn <|Sq <|Sb <|?_
            refine Ck fun aN => ?_
            refine Lt fun aO aP => ?_
            refine Lt fun aQ aR => ?_
            refine Lt fun aS aT => ?_
            refine Lt fun aU aV => ?_
            refine Lt fun aW aX => ?_
            refine Te (σ' := [_, .box [i64 aO, i64 aQ, i64 aS, i64 aU, i64 aW] false]) [1, 5, 6, 7, 13, 120, 121, 122] Aa (Ev (by simp only [go_sem, qR aN, aP, aR, aT, aV, aX]; exact Ac)) ?_
            refine Fw [1, 5, 6, 7, 120, 121, 122] (fun ag => ⟨Ao 193 [(1, .ref 0 0), (5, .sl false (L Ah a.Network.Places)), (6, i64 b), (7, .bool ag), (120, .sl false (L An a.Fleet.Wagons)), (121, i64 ((a.Fleet.Wagons.length : Int))), (122, i64 af)], [.box [.sl false (L Ah a.Network.Places), .sl false (L Ap a.Network.Edges), .sl false (L Ai a.Fleet.Types), .sl false (L An a.Fleet.Wagons), .sl false (L A8 a.Fleet.Swaps), .sl false (L A6 a.Fleet.Washes), .sl false (L Am a.Readers), .sl false (L Al a.Shippers), .sl false (L Af a.Railways)] false]⟩) ?_ ?_
            · intro _
              refine Sp (fun o => ?_) fun o => ?_
              · exact Lf Aa (Ev (by simp only [go_sem, o]; exact Ac)) (ws [0])
              · exact Lf Aa (Ev (by simp only [go_sem, o]; exact Ac)) (ws [0])
            intro ag
            refine Bn <|Tn <|F0 [1, 5, 6, 7, 120, 121, 122] ?_
            exact Ln (ws [0])
          · refine Sx <|Tx <|Ly aM aL <|Bx <|?_
            exact Jm ((ws (l' := [(1, .ref 0 0), (5, .sl false (L Ah a.Network.Places)), (6, i64 b), (7, .bool ae)]) (σ' := [.box [.sl false (L Ah a.Network.Places), .sl false (L Ap a.Network.Edges), .sl false (L Ai a.Fleet.Types), .sl false (L An a.Fleet.Wagons), .sl false (L A8 a.Fleet.Swaps), .sl false (L A6 a.Fleet.Washes), .sl false (L Am a.Readers), .sl false (L Al a.Shippers), .sl false (L Af a.Railways)] false]) [0]).trans (ws [0]))
        intro ad
        refine Ja (fun ah => ⟨Ao 193 [(1, .ref 0 0), (6, i64 b), (7, .bool ah)], [.box [.sl false (L Ah a.Network.Places), .sl false (L Ap a.Network.Edges), .sl false (L Ai a.Fleet.Types), .sl false (L An a.Fleet.Wagons), .sl false (L A8 a.Fleet.Swaps), .sl false (L A6 a.Fleet.Washes), .sl false (L Am a.Readers), .sl false (L Al a.Shippers), .sl false (L Af a.Railways)] false]⟩) ?_ ?_
        · intro b7
          refine T0 [1, 6, 7, 135, 136, 137] ?_
          refine Sb ?_
          refine Lo (fun (v : Bool × Int) => (⟨Ao 193 [(1, .ref 0 0), (6, i64 b), (7, .bool v.1), (135, .sl false (L Ah a.Network.Places)), (136, i64 ((a.Network.Places.length : Int))), (137, i64 v.2)], [.box [.sl false (L Ah a.Network.Places), .sl false (L Ap a.Network.Edges), .sl false (L Ai a.Fleet.Types), .sl false (L An a.Fleet.Wagons), .sl false (L A8 a.Fleet.Swaps), .sl false (L A6 a.Fleet.Washes), .sl false (L Am a.Readers), .sl false (L Al a.Shippers), .sl false (L Af a.Railways)] false]⟩ : St)) (ws [0]) ?_
          rintro ⟨ai, aj⟩ b8 aY aZ a0
          show Fu a b ai aj = some aY → _
          unfold Fu
          refine T0 [1, 6, 7, 135, 136, 137, 138] ?_
          refine Sq ?_
          refine Cd ?_ ?_
          · refine Sk <|Tn <|Sq <|Sb <|?_
            refine Ck fun a1 => ?_
            refine Lt fun a2 a3 => ?_
            refine Lt fun a4 a5 => ?_
            refine Lt fun a6 a7 => ?_
            refine Te (σ' := [_, .box [i64 a2, i64 a4, i64 a6] false]) [1, 6, 7, 15, 135, 136, 137] Aa (Ev (by simp only [go_sem, qR a1, a3, a5, a7]; exact Ac)) ?_
            refine Fw [1, 6, 7, 135, 136, 137] (fun ak => ⟨Ao 193 [(1, .ref 0 0), (6, i64 b), (7, .bool ak), (135, .sl false (L Ah a.Network.Places)), (136, i64 ((a.Network.Places.length : Int))), (137, i64 aj)], [.box [.sl false (L Ah a.Network.Places), .sl false (L Ap a.Network.Edges), .sl false (L Ai a.Fleet.Types), .sl false (L An a.Fleet.Wagons), .sl false (L A8 a.Fleet.Swaps), .sl false (L A6 a.Fleet.Washes), .sl false (L Am a.Readers), .sl false (L Al a.Shippers), .sl false (L Af a.Railways)] false]⟩) ?_ ?_
            · intro _
              refine Sp (fun k => ?_) fun k => ?_
              · exact Lf Aa (Ev (by simp only [go_sem, k]; exact Ac)) (ws [0])
              · refine Sp (fun p => ?_) fun p => ?_
                · exact Lf Aa (Ev (by simp only [go_sem, k, p]; exact Ac)) (ws [0])
                · exact Lf Aa (Ev (by simp only [go_sem, k, p]; exact Ac)) (ws [0])
            intro ak
            refine Bn <|Tn <|F0 [1, 6, 7, 135, 136, 137] ?_
            exact Ln (ws [0])
          · refine Sx <|Tx <|Ly a0 aZ <|Bx <|?_
            exact Jm ((ws (l' := [(1, .ref 0 0), (6, i64 b), (7, .bool ai)]) (σ' := [.box [.sl false (L Ah a.Network.Places), .sl false (L Ap a.Network.Edges), .sl false (L Ai a.Fleet.Types), .sl false (L An a.Fleet.Wagons), .sl false (L A8 a.Fleet.Swaps), .sl false (L A6 a.Fleet.Washes), .sl false (L Am a.Readers), .sl false (L Al a.Shippers), .sl false (L Af a.Railways)] false]) [0]).trans (ws [0]))
        intro ah
        refine Ja (fun e => ⟨Ao 193 [(1, .ref 0 0), (7, .bool e)], [.box [.sl false (L Ah a.Network.Places), .sl false (L Ap a.Network.Edges), .sl false (L Ai a.Fleet.Types), .sl false (L An a.Fleet.Wagons), .sl false (L A8 a.Fleet.Swaps), .sl false (L A6 a.Fleet.Washes), .sl false (L Am a.Readers), .sl false (L Al a.Shippers), .sl false (L Af a.Railways)] false]⟩) ?_ ?_
        · intro b9
          refine T0 [1, 6, 7, 157, 158, 159] ?_
          refine Sb ?_
          refine Lo (fun (v : Bool × Int) => (⟨Ao 193 [(1, .ref 0 0), (6, i64 b), (7, .bool v.1), (157, .sl false (L Ap a.Network.Edges)), (158, i64 ((a.Network.Edges.length : Int))), (159, i64 v.2)], [.box [.sl false (L Ah a.Network.Places), .sl false (L Ap a.Network.Edges), .sl false (L Ai a.Fleet.Types), .sl false (L An a.Fleet.Wagons), .sl false (L A8 a.Fleet.Swaps), .sl false (L A6 a.Fleet.Washes), .sl false (L Am a.Readers), .sl false (L Al a.Shippers), .sl false (L Af a.Railways)] false]⟩ : St)) (ws [0]) ?_
          rintro ⟨al, am⟩ ca a8 a9 ba
          show Fj a b al am = some a8 → _
          unfold Fj
          refine T0 [1, 6, 7, 157, 158, 159, 160] ?_
          refine Sq ?_
          refine Cd ?_ ?_
          · refine Sk <|Tn <|Sq <|Sb <|?_
            refine Ck fun bb => ?_
            refine Lt fun bc bd => ?_
            refine Lt fun be bf => ?_
            refine Lt fun bg bh => ?_
            refine Lt fun bi bj => ?_
            refine Lt fun bk bl => ?_
            refine Te (σ' := [_, .box [i64 bc, i64 be, i64 bg, i64 bi, i64 bk] false]) [1, 6, 7, 17, 157, 158, 159] Aa (Ev (by simp only [go_sem, qR bb, bd, bf, bh, bj, bl]; exact Ac)) ?_
            refine Fw [1, 6, 7, 157, 158, 159] (fun an => ⟨Ao 193 [(1, .ref 0 0), (6, i64 b), (7, .bool an), (157, .sl false (L Ap a.Network.Edges)), (158, i64 ((a.Network.Edges.length : Int))), (159, i64 am)], [.box [.sl false (L Ah a.Network.Places), .sl false (L Ap a.Network.Edges), .sl false (L Ai a.Fleet.Types), .sl false (L An a.Fleet.Wagons), .sl false (L A8 a.Fleet.Swaps), .sl false (L A6 a.Fleet.Washes), .sl false (L Am a.Readers), .sl false (L Al a.Shippers), .sl false (L Af a.Railways)] false]⟩) ?_ ?_
            · intro _
              refine Sp (fun q => ?_) fun q => ?_
              · exact Lf Aa (Ev (by simp only [go_sem, q]; exact Ac)) (ws [0])
              · exact Lf Aa (Ev (by simp only [go_sem, q]; exact Ac)) (ws [0])
            intro an
            refine Bn <|Tn <|F0 [1, 6, 7, 157, 158, 159] ?_
            exact Ln (ws [0])
          · refine Sx <|Tx <|Ly ba a9 <|Bx <|?_
            exact Jm ((ws (l' := [(1, .ref 0 0), (7, .bool al)]) (σ' := [.box [.sl false (L Ah a.Network.Places), .sl false (L Ap a.Network.Edges), .sl false (L Ai a.Fleet.Types), .sl false (L An a.Fleet.Wagons), .sl false (L A8 a.Fleet.Swaps), .sl false (L A6 a.Fleet.Washes), .sl false (L Am a.Readers), .sl false (L Al a.Shippers), .sl false (L Af a.Railways)] false]) [0]).trans (ws [0]))
        intro e
        refine Ja (fun _ => ⟨Ao 193 [(7, .bool e)], []⟩) ?_ ?_
        · intro cb
          refine T0 [7, 172, 173, 174] ?_
          refine Sb ?_
          refine Lo (fun _ => ⟨Ao 193 [(7, .bool e), (172, .sl false (L Af a.Railways)), (173, i64 ((a.Railways.length : Int))), (174, i64 0)], []⟩) (ws []) ?_
          rintro ⟨⟩ cc bm bn bo
          show Fd a  = some bm → _
          unfold Fd
          refine T0 [7, 172, 173, 174, 175] ?_
          refine Sq ?_
          refine Cd ?_ ?_
          · refine Sk <|Tn <|Sq <|Sb <|?_
            refine Ck fun bp => ?_
            refine Lt fun bq br => ?_
            refine Lt fun bs bt => ?_
            refine Lt fun bu bv => ?_
            refine Lt fun bw bx => ?_
            refine Lt fun bz bA => ?_
            refine Lt fun bB bC => ?_
            refine Lt fun bD bE => ?_
            refine Lt fun bF bG => ?_
            refine Lt fun bH bI => ?_
            refine Lt fun bJ bK => ?_
            refine Lt fun bL bM => ?_
            refine Lt fun bN bO => ?_
            refine Lt fun bP bQ => ?_
            refine Lt fun bR bS => ?_
            refine Lt fun bT bU => ?_
            refine Lt fun bV bW => ?_
            refine Te (σ' := [.box [u64 bq, i64 bs, i64 bu, i64 bw, i64 bz, i64 bB, i64 bD, i64 bF, i64 bH, i64 bJ, i64 bL, i64 bN, i64 bP, i64 bR, i64 bT, .sl false (L M8 bV)] false]) [7, 19, 172, 173, 174] Aa (Ev (by simp only [go_sem, qL bp, br, bt, bv, bx, bA, bC, bE, bG, bI, bK, bM, bO, bQ, bS, bU, bW]; exact Ac)) ?_
            exact Rn
          · refine Sx <|Tx <|Ly bo bn <|Bx <|?_
            exact Jm ((ws (l' := [(7, .bool e)]) (σ' := []) []).trans (ws []))
        intro _
        refine Sq <|T0 [192] ?_
        refine Cd ?_ ?_
        · refine T0 [2] ?_
          exact Sr <|Tr <|Rr
        · refine Sk <|Tn <|T0 [2] ?_
          exact Sr <|Rr
theorem Ts {b a r} (h : Qc b a = some r) : Con B 15 [.agg [.sl false (L Ah b.Network.Places), .sl false (L Ap b.Network.Edges), .sl false (L Ai b.Fleet.Types), .sl false (L An b.Fleet.Wagons), .sl false (L A8 b.Fleet.Swaps), .sl false (L A6 b.Fleet.Washes), .sl false (L Am b.Readers), .sl false (L Al b.Shippers), .sl false (L Af b.Railways)], .agg [i64 a.Kind, i64 a.Ref.Railway, i64 a.Ref.No, i64 a.Wagon, i64 a.Place, i64 a.Other, i64 a.Number, i64 a.From, i64 a.To, i64 a.Code, i64 a.Dest, i64 a.Class, i64 a.Weight, i64 a.Amount, .str a.Text, .sl false (L Ab a.Parts)]] [] (fun r' σ' => r' = i64 r ∧ σ' = []) := by
  refine Cw 19 [.tmp 4] Tryz.func15 (fun F hE => ?_) h
  unfold Qc
  refine T0 [2, 3] ?_
  refine Sq ?_
  refine Bd fun d c => ?_
  refine Te [2, 3, 4] (o1 6 (L4 c)) Ev ?_
  refine T0 [2, 3, 4, 8] ?_
  refine Cd ?_ ?_
  · refine T0 [4] ?_
    exact Sr <|Tr <|Rr
  · exact Sk <|Tn <|Sq <|Rn
theorem Bm {a e r} (h : Et a e = some r) : Con B 35 [.agg [i64 a.Kind, i64 a.Ref.Railway, i64 a.Ref.No, i64 a.Wagon, i64 a.Place, i64 a.Other, i64 a.Number, i64 a.From, i64 a.To, i64 a.Code, i64 a.Dest, i64 a.Class, i64 a.Weight, i64 a.Amount, .str a.Text, .sl false (L Ab a.Parts)], .str e] [] (fun r' σ' => r' = .bool r ∧ σ' = []) := by
  refine Cw 35 [.tmp 4] Tryz.func35 (fun F hE => ?_) h
  unfold Et
  refine T0 [1, 2] ?_
  refine Bd fun k g => ?_
  refine Te [1, 2, 5, 6] (o1 11 (Df g)) Ev ?_
  refine Bd fun l i => ?_
  refine Te [1, 2, 5, 6, 7, 8] (o1 16 (Fm i)) Ev ?_
  refine Tw [4] (fun f => ⟨Ao 35 [(4, .bool f)], []⟩) ?_ ?_
  · intro _
    refine Sp (fun b => ?_) fun b => ?_
    · refine Sp (fun c => ?_) fun c => ?_
      · refine Sp (fun d => ?_) fun d => ?_
        · refine Bd fun m j => ?_
          exact Lf (o1 33 (Du j)) (Ev (by simp only [go_sem, b, c, d]; exact Ac)) (ws [])
        · exact Lf Aa (Ev (by simp only [go_sem, b, c, d]; exact Ac)) (ws [])
      · exact Lf Aa (Ev (by simp only [go_sem, b, c]; exact Ac)) (ws [])
    · exact Lf Aa (Ev (by simp only [go_sem, b]; exact Ac)) (ws [])
  intro f
  exact Sr <|Rr
theorem Ag {b r} (h : Cq b = some r) : Con B 36 [.str b] [] (fun r' σ' => r' = .bool r ∧ σ' = []) := by
  refine Cw 17 [.tmp 2] Tryz.func36 (fun F hE => ?_) h
  unfold Cq
  refine T0 [0] ?_
  refine Bd fun f d => ?_
  refine Te [3, 4] (o1 7 (Fm d)) Ev ?_
  refine Tw [2] (fun c => ⟨Ao 17 [(2, .bool c)], []⟩) ?_ ?_
  · intro _
    refine Sp (fun a => ?_) fun a => ?_
    · refine Bd fun g e => ?_
      exact Lf (o1 15 (Du e)) (Ev (by simp only [go_sem, a]; exact Ac)) (ws [])
    · exact Lf Aa (Ev (by simp only [go_sem, a]; exact Ac)) (ws [])
  intro c
  exact Sr <|Rr
theorem Gu {r} (h : law11_sane  = some r) : Con B 12 [] [] (fun r' σ' => r' = .bool r ∧ σ' = []) := by
  refine Cw 91 [.tmp 0] Tryz.func12 (fun F hE => ?_) h
  unfold law11_sane
  refine T0 [] ?_
  refine Lt fun a ag => ?_
  refine Te (σ' := [.buf 3 (L Ab a) false, .box [i64 10, i64 0, i64 0, i64 0, i64 0, i64 0, i64 0, i64 0, i64 0, i64 0, i64 0, i64 0, i64 0, i64 0, .str (([] : List UInt8)), .bs true 0 (a.length) 0 (a.length)] false]) [1] Aa (Ev (by simp only [go_sem, ag]; exact Ac)) ?_
  refine Tw [1, 2] (fun v => ⟨Ao 91 [(1, .ref 0 0), (2, .bool v)], [.box [i64 10, i64 0, i64 0, i64 0, i64 0, i64 0, i64 0, i64 0, i64 0, i64 0, i64 0, i64 0, i64 0, i64 0, .str (([] : List UInt8)), .bs true 1 (a.length) 0 (a.length)] false, .buf 3 (L Ab a) false]⟩) ?_ ?_
  · intro _
    refine Bd fun aq p => ?_
    refine Sp (fun k => ?_) fun k => ?_
    · refine Bd fun ar w => ?_
      refine Sp (fun q => ?_) fun q => ?_
      · refine Bd fun au ab => ?_
        refine Sp (fun x => ?_) fun x => ?_
        · refine Bd fun av ah => ?_
          exact Lf (Gp (l := [(15, _, _, _), (19, _, _, _), (23, _, _, _), (27, _, _, _)]) ⟨Bm  p, Bm  w, Bm  ab, Bm  ah, trivial⟩) (Ev (by simp only [go_sem, k, q, x]; exact Ac)) (ws [1, 0])
        · exact Lf (Gp (l := [(15, _, _, _), (19, _, _, _), (23, _, _, _)]) ⟨Bm  p, Bm  w, Bm  ab, trivial⟩) (Ev (by simp only [go_sem, k, q, x]; exact Ac)) (ws [1, 0])
      · exact Lf (o2 15 (Bm p) 19 (Bm w)) (Ev (by simp only [go_sem, k, q]; exact Ac)) (ws [1, 0])
    · exact Lf (o1 15 (Bm p)) (Ev (by simp only [go_sem, k]; exact Ac)) (ws [1, 0])
  intro v
  refine Bd fun ai aj => ?_
  refine Te [1, 2, 4] (o1 31 (Df aj)) Ev ?_
  refine Bd fun ak al => ?_
  refine Te [1, 2, 4, 6] (o1 36 (Iz al)) Ev ?_
  refine Tw [1, 2, 4, 6, 7] (fun ac => ⟨Ao 91 [(1, .ref 0 0), (2, .bool v), (4, i64 ai.2), (6, i64 ak.2), (7, .bool ac)], [.box [i64 10, i64 0, i64 0, i64 0, i64 0, i64 0, i64 0, i64 0, i64 0, i64 0, i64 0, i64 0, i64 0, i64 0, .str (([] : List UInt8)), .bs true 1 (a.length) 0 (a.length)] false, .buf 3 (L Ab a) false]⟩) ?_ ?_
  · intro _
    refine Bd fun aw d => ?_
    refine Sp (fun b => ?_) fun b => ?_
    · refine Bd fun ax g => ?_
      refine Sp (fun e => ?_) fun e => ?_
      · refine Bd fun ay m => ?_
        refine Sp (fun i => ?_) fun i => ?_
        · refine Bd fun az s => ?_
          refine Sp (fun n => ?_) fun n => ?_
          · refine Bd fun aA y => ?_
            refine Sp (fun t => ?_) fun t => ?_
            · refine Bd fun aB ad => ?_
              refine Sp (fun z => ?_) fun z => ?_
              · refine Bd fun aC am => ?_
                exact Lf (Gp (l := [(39, _, _, _), (41, _, _, _), (44, _, _, _), (47, _, _, _), (50, _, _, _), (53, _, _, _), (56, _, _, _)]) ⟨Ag  d, Ag  g, Ag  m, Ag  s, Ag  y, Ag  ad, Ag  am, trivial⟩) (Ev (by simp only [go_sem, b, e, i, n, t, z]; exact Ac)) (ws [0, 1])
              · exact Lf (Gp (l := [(39, _, _, _), (41, _, _, _), (44, _, _, _), (47, _, _, _), (50, _, _, _), (53, _, _, _)]) ⟨Ag  d, Ag  g, Ag  m, Ag  s, Ag  y, Ag  ad, trivial⟩) (Ev (by simp only [go_sem, b, e, i, n, t, z]; exact Ac)) (ws [0, 1])
            · exact Lf (Gp (l := [(39, _, _, _), (41, _, _, _), (44, _, _, _), (47, _, _, _), (50, _, _, _)]) ⟨Ag  d, Ag  g, Ag  m, Ag  s, Ag  y, trivial⟩) (Ev (by simp only [go_sem, b, e, i, n, t]; exact Ac)) (ws [0, 1])
          · exact Lf (Gp (l := [(39, _, _, _), (41, _, _, _), (44, _, _, _), (47, _, _, _)]) ⟨Ag  d, Ag  g, Ag  m, Ag  s, trivial⟩) (Ev (by simp only [go_sem, b, e, i, n]; exact Ac)) (ws [0, 1])
        · exact Lf (Gp (l := [(39, _, _, _), (41, _, _, _), (44, _, _, _)]) ⟨Ag  d, Ag  g, Ag  m, trivial⟩) (Ev (by simp only [go_sem, b, e, i]; exact Ac)) (ws [0, 1])
      · exact Lf (o2 39 (Ag d) 41 (Ag g)) (Ev (by simp only [go_sem, b, e]; exact Ac)) (ws [0, 1])
    · exact Lf (o1 39 (Ag d)) (Ev (by simp only [go_sem, b]; exact Ac)) (ws [0, 1])
  intro ac
  refine Bd fun aD an => ?_
  refine Bd fun aE ao => ?_
  refine Te [1, 2, 4, 6, 7, 8, 9] (o2 60 (Hg an) 61 (Iz ao)) Ev ?_
  refine Tw [0] (fun ae => ⟨Ao 91 [(0, .bool ae)], []⟩) ?_ ?_
  · intro _
    refine Sp (fun c => ?_) fun c => ?_
    · refine Sp (fun f => ?_) fun f => ?_
      · refine Sp (fun j => ?_) fun j => ?_
        · refine Sp (fun o => ?_) fun o => ?_
          · refine Sp (fun u => ?_) fun u => ?_
            · refine Bd fun aF af => ?_
              refine Sp (fun aa => ?_) fun aa => ?_
              · refine Bd fun aG ap => ?_
                exact Lf (o2 83 (Du af) 88 (Ts ap)) (Ev (by simp only [go_sem, c, f, j, o, u, aa]; exact Ac)) (ws [])
              · exact Lf (o1 83 (Du af)) (Ev (by simp only [go_sem, c, f, j, o, u, aa]; exact Ac)) (ws [])
            · exact Lf Aa (Ev (by simp only [go_sem, c, f, j, o, u]; exact Ac)) (ws [])
          · exact Lf Aa (Ev (by simp only [go_sem, c, f, j, o]; exact Ac)) (ws [])
        · exact Lf Aa (Ev (by simp only [go_sem, c, f, j]; exact Ac)) (ws [])
      · exact Lf Aa (Ev (by simp only [go_sem, c, f]; exact Ac)) (ws [])
    · exact Lf Aa (Ev (by simp only [go_sem, c]; exact Ac)) (ws [])
  intro ae
  exact Sr <|Rr
theorem Fb {b r} (h : Bi b = some r) : Con B 5 [.str b] [] (fun r' σ' => r' = .bool r ∧ σ' = []) := by
  refine Cw 30 [.tmp 2] Tryz.func5 (fun F hE => ?_) h
  unfold Bi
  refine T0 [0] ?_
  refine Sq ?_
  refine Bd fun i d => ?_
  refine Te [0, 8] (o1 7 (Gu d)) Ev ?_
  refine Cd ?_ ?_
  · refine T0 [2] ?_
    exact Sr <|Tr <|Rr
  · refine Sk <|Tn <|Sq <|T0 [0, 11] ?_
    refine Cd ?_ ?_
    · refine T0 [2] ?_
      exact Sr <|Tr <|Rr
    · refine Sk <|Tn <|?_
      refine Bd fun j e => ?_
      refine Te [0, 3, 4] (o1 14 (Fm e)) Ev ?_
      refine Bd fun k f => ?_
      refine Te [3, 4, 5, 6] (o1 19 (Tm f)) Ev ?_
      refine Tw [2] (fun c => ⟨Ao 30 [(2, .bool c)], []⟩) ?_ ?_
      · intro _
        refine Sp (fun a => ?_) fun a => ?_
        · refine Bd fun l g => ?_
          exact Lf (o1 28 (Du g)) (Ev (by simp only [go_sem, a]; exact Ac)) (ws [])
        · exact Lf Aa (Ev (by simp only [go_sem, a]; exact Ac)) (ws [])
      intro c
      exact Sr <|Rr
theorem Jy {a r} (h : D9 a = some r) : Con B 6 [.agg [i64 a.Kind, i64 a.Ref.Railway, i64 a.Ref.No, i64 a.Wagon, i64 a.Place, i64 a.Other, i64 a.Number, i64 a.From, i64 a.To, i64 a.Code, i64 a.Dest, i64 a.Class, i64 a.Weight, i64 a.Amount, .str a.Text, .sl false (L Ab a.Parts)]] [] (fun r' σ' => r' = .bool r ∧ σ' = []) := by
  refine Cw 47 [.tmp 2] Tryz.func6 (fun F hE => ?_) h
  unfold D9
  refine T0 [1] ?_
  refine Sq ?_
  refine Bd fun p k => ?_
  refine Te [1, 8] (o1 7 (Gu k)) Ev ?_
  refine Cd ?_ ?_
  · refine T0 [2] ?_
    exact Sr <|Tr <|Rr
  · refine Sk <|Tn <|Sq <|?_
    refine Bd fun q l => ?_
    refine Te [1, 11] (o1 10 (Fv l)) Ev ?_
    refine Cd ?_ ?_
    · refine T0 [2] ?_
      exact Sr <|Tr <|Rr
    · refine Sk <|Tn <|?_
      refine Bd fun f m => ?_
      refine Te [1, 3, 4] (o1 14 (Df m)) Ev ?_
      refine Sq ?_
      refine Tw [1, 3, 4, 24] (fun g => ⟨Ao 47 [(1, .ref 0 0), (3, .str f.1), (4, i64 f.2), (24, .bool g)], [.box [i64 a.Kind, i64 a.Ref.Railway, i64 a.Ref.No, i64 a.Wagon, i64 a.Place, i64 a.Other, i64 a.Number, i64 a.From, i64 a.To, i64 a.Code, i64 a.Dest, i64 a.Class, i64 a.Weight, i64 a.Amount, .str a.Text, .sl false (L Ab a.Parts)] false]⟩) ?_ ?_
      · intro _
        refine Sp (fun c => ?_) fun c => ?_
        · exact Lf Aa (Ev (by simp only [go_sem, c]; exact Ac)) (ws [0])
        · exact Lf Aa (Ev (by simp only [go_sem, c]; exact Ac)) (ws [0])
      intro g
      refine Cd ?_ ?_
      · refine Tw [2] (fun i => ⟨Ao 47 [(2, .bool i)], []⟩) ?_ ?_
        · intro _
          refine Sp (fun d => ?_) fun d => ?_
          · exact Lf Aa (Ev (by simp only [go_sem, d]; exact Ac)) (ws [])
          · exact Lf Aa (Ev (by simp only [go_sem, d]; exact Ac)) (ws [])
        intro i
        exact Sr <|Tr <|Rr
      · refine Sk <|Tn <|?_
        refine Bd fun s n => ?_
        refine Te [1, 4, 5, 6] (o1 33 (Fm n)) Ev ?_
        refine Tw [2] (fun j => ⟨Ao 47 [(2, .bool j)], []⟩) ?_ ?_
        · intro _
          refine Sp (fun b => ?_) fun b => ?_
          · refine Sp (fun e => ?_) fun e => ?_
            · refine Bd fun t o => ?_
              exact Lf (o1 45 (Du o)) (Ev (by simp only [go_sem, b, e]; exact Ac)) (ws [])
            · exact Lf Aa (Ev (by simp only [go_sem, b, e]; exact Ac)) (ws [])
          · exact Lf Aa (Ev (by simp only [go_sem, b]; exact Ac)) (ws [])
        intro j
        exact Sr <|Rr
set_option maxRecDepth 100000
theorem C6 {b : UInt8} : ∀ {p : List UInt8}, b ∉ p → splitAtL b p = [p]
  | [], _ => rfl
  | c :: p, h => by
    have h1 : c ≠ b := fun e => h (by simp [e])
    have h2 : b ∉ p := fun e => h (by simp [e])
    rw [splitAtL, if_neg h1, C6 h2]
theorem Db {b : UInt8} {r : List UInt8} : ∀ {p : List UInt8}, b ∉ p → splitAtL b (p ++ b :: r) = p :: splitAtL b r
  | [], _ => by rw [List.nil_append, splitAtL, if_pos rfl]
  | c :: p, h => by
    have h1 : c ≠ b := fun e => h (by simp [e])
    have h2 : b ∉ p := fun e => h (by simp [e])
    rw [List.cons_append, splitAtL, if_neg h1, Db h2]
theorem M3 {b : UInt8} : ∀ (els : List (List UInt8)), (∀ e ∈ els, b ∉ e) → ∀ (p : List UInt8), b ∉ p → splitAtL b (p ++ els.flatMap (b :: ·)) = p :: els
  | [], _, p, hp => by rw [List.flatMap_nil, List.append_nil, C6 hp]
  | e :: els, h, p, hp => by
    rw [List.flatMap_cons, List.cons_append, Db hp, M3 els (fun x hx => h x (by simp [hx])) e (h e (by simp))]
def T2 (c : UInt8) (n : Int) : List (List UInt8) := if n = 0 then [] else [c :: Lib.itoa n]
def Ahd (r : Api_Ref) : List (List UInt8) := if r.Railway = 0 ∧ r.No = 0 then [] else [114 :: (Lib.itoa r.Railway ++ 46 :: Lib.itoa r.No)]
def V7 (t : List UInt8) : List (List UInt8) := if t = [] then [] else [120 :: esc t]
def Aff (b : Bool) : List UInt8 := if b then [49] else [48]
def Pt (x : Api_Part) : List UInt8 := 113 :: (Lib.itoa x.Kind ++ 46 :: (Lib.itoa x.Serial ++ 46 :: Aff x.Fitted))
def AeY (it : Api_Item) : List (List UInt8) := T2 119 it.Wagon ++ T2 112 it.Place ++ T2 111 it.Other ++ T2 110 it.Number ++ T2 102 it.From ++ T2 116 it.To ++ T2 99 it.Code ++ T2 100 it.Dest ++ T2 107 it.Class ++ T2 103 it.Weight ++ T2 97 it.Amount
def els (it : Api_Item) : List (List UInt8) := Ahd it.Ref ++ AeY it ++ V7 it.Text ++ it.Parts.map Pt
theorem AgA (c : UInt8) (n : Int) : num c n = (T2 c n).flatMap ((43 : UInt8) :: ·) := by
  unfold num T2
  split <;> simp
theorem Age (r : Api_Ref) : AbH r = (Ahd r).flatMap ((43 : UInt8) :: ·) := by
  unfold AbH Ahd
  split <;> simp
theorem Ac8 (t : List UInt8) : Rk t = (V7 t).flatMap ((43 : UInt8) :: ·) := by
  unfold Rk V7
  split <;> simp
theorem Ae5 (x : Api_Part) : Ha x = (43 : UInt8) :: Pt x := by
  unfold Ha Pt Aff
  cases x.Fitted <;> simp
theorem U6 (it : Api_Item) : Io it = glob0.get it.Kind.toNat ++ (els it).flatMap ((43 : UInt8) :: ·) := by
  unfold Io els AeY O4
  rw [Age, Ac8]
  have hp : it.Parts.flatMap Ha = (it.Parts.map Pt).flatMap ((43 : UInt8) :: ·) := by
    rw [List.flatMap_map]
    congr 1
    funext x
    exact Ae5 x
  rw [hp]
  simp only [AgA, List.flatMap_append, List.append_assoc]
theorem Sy {n : Int} {c : UInt8} (h : c ∈ Lib.itoa n) : c.toNat = 45 ∨ 48 ≤ c.toNat ∧ c.toNat ≤ 57 := by
  unfold Lib.itoa at h
  split at h
  · rcases List.mem_cons.1 h with rfl | h
    · exact .inl rfl
    · exact .inr (Ad7 _ _ h)
  · exact .inr (Ad7 _ _ h)
theorem AbS (c : UInt8) : ∀ d ∈ Ri c, 32 ≤ d.toNat ∧ d.toNat ≤ 126 ∧ d.toNat ≠ 43 ∧ d.toNat ≠ 39 :=
  Ju (p := fun c => ∀ d ∈ Ri c, 32 ≤ d.toNat ∧ d.toNat ≤ 126 ∧ d.toNat ≠ 43 ∧ d.toNat ≠ 39) (by decide +kernel) c
theorem Aeg {t : List UInt8} {d : UInt8} (h : d ∈ esc t) : 32 ≤ d.toNat ∧ d.toNat ≤ 126 ∧ d.toNat ≠ 43 ∧ d.toNat ≠ 39 := by
  obtain ⟨c, _, hc⟩ := List.mem_flatMap.1 h
  exact AbS c d hc
theorem P3 {it : Api_Item} {e : List UInt8} (h : e ∈ els it) : ∀ d ∈ e, 32 ≤ d.toNat ∧ d.toNat ≤ 126 ∧ d.toNat ≠ 43 ∧ d.toNat ≠ 39 := by
  have hi : ∀ (n : Int) (d : UInt8), d ∈ Lib.itoa n → 32 ≤ d.toNat ∧ d.toNat ≤ 126 ∧ d.toNat ≠ 43 ∧ d.toNat ≠ 39 := by
    intro n d hd
    have := Sy hd
    omega
  have hn : ∀ (c : UInt8) (n : Int), (32 ≤ c.toNat ∧ c.toNat ≤ 126 ∧ c.toNat ≠ 43 ∧ c.toNat ≠ 39) → e ∈ T2 c n → ∀ d ∈ e, 32 ≤ d.toNat ∧ d.toNat ≤ 126 ∧ d.toNat ≠ 43 ∧ d.toNat ≠ 39 := by
    intro c n hc he d hd
    unfold T2 at he
    split at he
    · simp at he
    · simp only [List.mem_singleton] at he
      subst he
      rcases List.mem_cons.1 hd with rfl | hd
      · exact hc
      · exact hi _ _ hd
  unfold els AeY at h
  simp only [List.mem_append] at h
  rcases h with ((h | h) | h) | h
  · unfold Ahd at h
    split at h
    · simp at h
    · simp only [List.mem_singleton] at h
      subst h
      intro d hd
      simp only [List.mem_cons, List.mem_append] at hd
      rcases hd with rfl | hd | rfl | hd
      · decide
      · exact hi _ _ hd
      · decide
      · exact hi _ _ hd
  · rcases h with (((((((((h | h) | h) | h) | h) | h) | h) | h) | h) | h) | h <;> exact hn _ _ (by decide) h
  · unfold V7 at h
    split at h
    · simp at h
    · simp only [List.mem_singleton] at h
      subst h
      intro d hd
      simp only [List.mem_cons] at hd
      rcases hd with rfl | hd
      · decide
      · exact Aeg hd
  · obtain ⟨x, _, rfl⟩ := List.mem_map.1 h
    intro d hd
    simp only [Pt, Aff, List.mem_cons, List.mem_append] at hd
    rcases hd with rfl | hd | rfl | hd | rfl | hd
    · decide
    · exact hi _ _ hd
    · decide
    · exact hi _ _ hd
    · decide
    · split at hd <;> · simp only [List.mem_singleton] at hd; subst hd; decide
theorem Py (k : Nat) : ∀ d ∈ glob0.get k, 65 ≤ d.toNat ∧ d.toNat ≤ 90 := by
  by_cases hk : k < 16
  · have h : ∀ k : Fin 16, ∀ d ∈ glob0.get k.val, 65 ≤ d.toNat ∧ d.toNat ≤ 90 := by decide +kernel
    exact h ⟨k, hk⟩
  · intro d hd
    exfalso
    have hn : glob0.get k = [] := by
      unfold Arr.get nth
      rw [List.getD_eq_getElem?_getD, List.getElem?_eq_none (by rw [glob0.h]; omega)]
      rfl
    rw [hn] at hd
    cases hd
theorem K8 (it : Api_Item) : splitAtL 43 (Io it) = glob0.get it.Kind.toNat :: els it := by
  rw [U6]
  refine M3 _ (fun e he hm => (P3 he _ hm).2.2.1 rfl) _ (fun hm => ?_)
  have := Py _ _ hm
  simp at this
theorem Adk (it : Api_Item) : (39 : UInt8) ∉ Io it := by
  intro h
  rw [U6] at h
  rcases List.mem_append.1 h with h | h
  · have := Py _ _ h
    simp at this
  · obtain ⟨e, he, hd⟩ := List.mem_flatMap.1 h
    rcases List.mem_cons.1 hd with hd | hd
    · revert hd; decide
    · exact (P3 he _ hd).2.2.2 rfl
theorem AcM (it : Api_Item) : ∀ d ∈ Io it, 32 ≤ d.toNat ∧ d.toNat ≤ 126 := by
  intro d h
  rw [U6] at h
  rcases List.mem_append.1 h with h | h
  · have := Py _ _ h
    omega
  · obtain ⟨e, he, hd⟩ := List.mem_flatMap.1 h
    rcases List.mem_cons.1 hd with hd | hd
    · subst hd; decide
    · have := P3 he _ hd; omega
theorem Ft (n : Int) : (46 : UInt8) ∉ Lib.itoa n := fun h => by
  have := Sy h
  simp at this
theorem And {n : Int} (h : I64 n) : atois (splitAtL 46 (Lib.itoa n)) = some [n] := by
  rw [C6 (Ft n)]
  simp [atois, Kn h.1 h.2]
theorem Ao1 {m n : Int} (h : I64 m) (h' : I64 n) : atois (splitAtL 46 (Lib.itoa m ++ 46 :: Lib.itoa n)) = some [m, n] := by
  rw [Db (Ft m), C6 (Ft n)]
  simp [atois, Kn h.1 h.2, Kn h'.1 h'.2]
theorem Aft (b : Bool) : Lib.atoiAll (Aff b) = .ok (if b then 1 else 0) := by
  cases b <;> decide +kernel
theorem Anz {m n : Int} {b : Bool} (h : I64 m) (h' : I64 n) : atois (splitAtL 46 (Lib.itoa m ++ 46 :: (Lib.itoa n ++ 46 :: Aff b))) = some [m, n, if b then 1 else 0] := by
  rw [Db (Ft m), Db (Ft n), C6 (by cases b <;> decide)]
  simp [atois, Kn h.1 h.2, Kn h'.1 h'.2, Aft]
theorem Gc (b : UInt8) : ∀ l : List UInt8, (splitAtL b l).length = l.count b + 1
  | [] => by simp [splitAtL]
  | c :: l => by
    have ih := Gc b l
    rw [splitAtL]
    by_cases h : c = b
    · rw [if_pos h, List.length_cons, ih, h, List.count_cons_self]
    · rw [if_neg h, List.count_cons_of_ne h]
      split
      · rename_i e; rw [e] at ih; simp at ih
      · rename_i p ps e; rw [e] at ih; simpa using ih
theorem Jq (b : UInt8) : ∀ l : List UInt8, (b ∉ l ∧ splitAtL b l = [l]) ∨ ∃ p r, l = p ++ b :: r ∧ b ∉ p ∧ splitAtL b l = p :: splitAtL b r
  | [] => .inl ⟨by simp, rfl⟩
  | c :: l => by
    by_cases h : c = b
    · subst h
      exact .inr ⟨[], l, rfl, by simp, by rw [splitAtL, if_pos rfl]⟩
    · rcases Jq b l with ⟨h1, h2⟩ | ⟨p, r, h1, h2, h3⟩
      · exact .inl ⟨by simp [h1, Ne.symm h], by rw [splitAtL, if_neg h, h2]⟩
      · exact .inr ⟨c :: p, r, by rw [h1]; rfl, by simp [h2, Ne.symm h], by rw [splitAtL, if_neg h, h3]⟩
theorem AdB {b : UInt8} {l : List UInt8} (h : (splitAtL b l).length = 1) : b ∉ l ∧ splitAtL b l = [l] := by
  rcases Jq b l with h1 | ⟨p, r, h1, h2, h3⟩
  · exact h1
  · rw [h3, List.length_cons, Gc] at h
    omega
theorem Acf {b : UInt8} {l : List UInt8} (h : (splitAtL b l).length ≠ 1) : ∃ p r, l = p ++ b :: r ∧ b ∉ p ∧ splitAtL b l = p :: splitAtL b r := by
  rcases Jq b l with ⟨h1, h2⟩ | h1
  · rw [h2] at h; simp at h
  · exact h1
theorem Lc {b : UInt8} : ∀ (n : Nat) (l : List UInt8), l.length ≤ n → ∀ p ∈ splitAtL b l, p.length ≤ l.length
  | n, l, hn, p, hp => by
    rcases Jq b l with ⟨h1, h2⟩ | ⟨q, r, h1, h2, h3⟩
    · rw [h2] at hp; simp only [List.mem_singleton] at hp; subst hp; exact Nat.le_refl _
    · rw [h3] at hp
      have hl : l.length = q.length + (r.length + 1) := by rw [h1]; simp
      rcases List.mem_cons.1 hp with rfl | hp
      · omega
      · match n with
        | 0 => omega
        | n + 1 =>
          have := Lc n r (by omega) p hp
          omega
theorem Xj (l : List UInt8) (c : UInt8) : AaT l c = Lib.indexByte l c := by
  unfold AaT
  rw [Lib.firstIdx_eq]
theorem Wy {c : UInt8} {r : List UInt8} : ∀ {p : List UInt8}, c ∉ p → Lib.indexByte (p ++ c :: r) c = p.length
  | [], _ => by simp [Lib.indexByte]
  | d :: p, h => by
    have h1 : d ≠ c := fun e => h (by simp [e])
    have h2 : c ∉ p := fun e => h (by simp [e])
    rw [List.cons_append, Lib.indexByte, if_neg (by simpa using h1), Wy h2, if_neg (by simp)]
    simp
theorem Ya {α : Type} {l : List α} {k : Nat} {p : α} {q : List α} (h : l.drop k = p :: q) : k < l.length ∧ l[k]? = some p ∧ l.drop (k + 1) = q := by
  have hl : k < l.length := by
    rcases Nat.lt_or_ge k l.length with h1 | h1
    · exact h1
    · rw [List.drop_eq_nil_of_le h1] at h; cases h
  refine ⟨hl, ?_, ?_⟩
  · rw [List.drop_eq_getElem_cons hl] at h
    rw [List.getElem?_eq_getElem hl, (List.cons.inj h).1]
  · rw [List.drop_eq_getElem_cons hl] at h
    exact (List.cons.inj h).2
theorem Abd {α : Type} {l : List α} {k : Nat} {p : α} (h : l[k]? = some p) : l.take (k + 1) = l.take k ++ [p] := by
  rw [List.take_add_one, h]; rfl
theorem Ak4 (l : List UInt8) (c : UInt8) : Es l [c] = if [c] = l then some 0 else some (Lib.indexByte l c) := by
  unfold Es Ej B0 Cn Vs
  by_cases h : [c] = l
  · rw [if_pos h, if_neg (by simp), Option.bind_some, if_pos (by simpa using h)]; rfl
  · rw [if_neg h, if_neg (by simp), Option.bind_some, if_neg (by simpa using h), if_pos (by simp), if_pos (by simp [InR]), Option.bind_some, Option.bind_some, Option.bind_some, Xj]
    rfl
theorem Af8 {p r : List UInt8} {c : UInt8} (h : c ∉ p) : Es (p ++ c :: r) [c] = some (p.length : Int) := by
  rw [Ak4]
  by_cases e : [c] = p ++ c :: r
  · rw [if_pos e]
    have : p.length = 0 := by have := congrArg List.length e; simp only [List.length_append, List.length_cons, List.length_nil] at this; omega
    rw [this]; rfl
  · rw [if_neg e, Wy h]
theorem mk16 {n : Int} (h0 : 0 ≤ n) (h : n ≤ 1000000) : Mk n n 16 := by
  refine ⟨h0, Int.le_refl _, ?_, ?_⟩
  · have : ((1000000 : Int)) ≤ (maxLen : Int) := by decide
    omega
  · have : n.toNat * 16 ≤ 1000000 * 16 := Nat.mul_le_mul_right 16 (by omega)
    exact Nat.le_trans this (by decide)
theorem AgO {s : List UInt8} {b : UInt8} (hs : s.length ≤ 500000) : Fl s [b] = some (splitAtL b s) := by
  have hc : s.count b ≤ s.length := List.count_le_length
  have hL := Gc b s
  generalize hcd : s.count b = cnt at hc hL
  unfold Fl E0
  rw [if_neg (by simp), if_neg (by simp), if_pos (by simp)]
  simp only [Hf, AeR]
  rw [if_pos (by omega), Option.bind_some, Option.bind_some, hcd]
  simp only [lt1]
  have hmn : Am2 (w64 ((cnt : Int) + 1)) (w64 ((s.length : Int) + 1)) = ((cnt + 1 : Nat) : Int) := by
    rw [Cr (by omega), Cr (by omega)]
    unfold Am2
    rw [if_neg (by omega)]
  rw [hmn, if_pos (mk16 (by omega) (by omega)), Int.toNat_natCast]
  generalize hLL : splitAtL b s = L at hL
  obtain ⟨x, hx, hq⟩ := Dq (f := fun (v : List UInt8 × Int × List (List UInt8)) => B8 [b] 0 ((cnt + 1 : Nat) : Int) v.1 v.2.1 v.2.2) cnt
    (fun k v => ∃ rest, v = (rest, (k : Int), L.take k ++ List.replicate (cnt + 1 - k) []) ∧ splitAtL b rest = L.drop k ∧ rest.length ≤ s.length)
    (fun x => ∃ rest, x = (rest, (cnt : Int), L.take cnt ++ [[]]) ∧ splitAtL b rest = L.drop cnt) (by omega) (by
      rintro k v hk ⟨rest, rfl, h1, h2⟩
      have hlen : (L.drop k).length ≠ 1 := by rw [List.length_drop]; omega
      obtain ⟨p, r, e1, e2, e3⟩ := Acf (b := b) (l := rest) (by rw [h1]; exact hlen)
      rw [h1] at e3
      obtain ⟨hkl, hkp, hkd⟩ := Ya e3
      have hpl : p.length < rest.length := by rw [e1]; simp
      refine ⟨_, ?_, r, rfl, hkd.symm, by have := congrArg List.length e1; simp at this; omega⟩
      unfold B8
      have hn : w64 (((cnt + 1 : Nat) : Int) - 1) = (cnt : Int) := by rw [C0 (by omega)]; omega
      have hm : w64 ((p.length : Int) + 0) = (p.length : Int) := by rw [C0 (by omega)]; omega
      have hm1 : w64 ((p.length : Int) + (([b] : List UInt8).length : Int)) = ((p.length + 1 : Nat) : Int) := by
        simp only [List.length_cons, List.length_nil]; rw [C0 (by omega)]; omega
      simp only [hn]
      rw [if_pos (decide_eq_true (by omega)), e1, Af8 e2, Option.bind_some, if_neg (by simp), hm, if_pos ⟨by omega, by simp⟩, if_pos ⟨by omega, by simp; omega⟩]
      simp only [lt1]
      rw [hm1, if_pos ⟨by omega, by simp⟩, Cr (by omega)]
      simp only [Int.toNat_natCast]
      have ea : (p ++ b :: r).take p.length = p := by simp
      have eb : ((p ++ b :: r).drop (p.length + 1)).take ((p ++ b :: r).length - (p.length + 1)) = r := by
        rw [← List.drop_drop, List.drop_left]
        exact List.take_of_length_le (by simp only [List.drop_succ_cons, List.drop_zero, List.length_append, List.length_cons]; omega)
      rw [ea, eb]
      have ec : (L.take k ++ List.replicate (cnt + 1 - k) []).set k p = L.take (k + 1) ++ List.replicate (cnt + 1 - (k + 1)) [] := by
        rw [Abd hkp, List.append_assoc, List.set_append_right _ _ (by simp; omega)]
        congr 1
        rw [List.length_take, Nat.min_eq_left (by omega), Nat.sub_self]
        rw [show cnt + 1 - k = (cnt + 1 - (k + 1)) + 1 by omega, List.replicate_succ]
        rfl
      rw [ec]) (by
      rintro v ⟨rest, rfl, h1, h2⟩
      refine ⟨_, ?_, rest, rfl, h1⟩
      unfold B8
      have hn : w64 (((cnt + 1 : Nat) : Int) - 1) = (cnt : Int) := by rw [C0 (by omega)]; omega
      simp only [hn]
      rw [if_neg (by simp), show cnt + 1 - cnt = 1 by omega]
      rfl) (v0 := (s, 0, List.replicate (cnt + 1) [])) ⟨s, by simp, by rw [hLL]; rfl, Nat.le_refl _⟩
  obtain ⟨rest, rfl, h1⟩ := hq
  rw [hx]
  simp only [Option.bind_some]
  have hone : (splitAtL b rest).length = 1 := by rw [h1, List.length_drop]; omega
  obtain ⟨_, h3⟩ := AdB hone
  rw [h3] at h1
  obtain ⟨hkl, hkp, hkd⟩ := Ya h1.symm
  rw [if_pos ⟨by omega, by simp; omega⟩, Cr (by omega)]
  have ec : (L.take cnt ++ [[]]).set (cnt : Int).toNat rest = L := by
    rw [Int.toNat_natCast, List.set_append_right _ _ (by simp; omega), List.length_take, Nat.min_eq_left (by omega), Nat.sub_self]
    show L.take cnt ++ [rest] = L
    rw [← Abd hkp, List.take_of_length_le (by omega)]
  rw [ec, if_pos ⟨by omega, by simp; omega⟩, Int.toNat_natCast, List.take_of_length_le (by omega)]
  rfl
theorem Aa6 {l : List UInt8} {k : Nat} (h : k < l.length) : l.drop k = nth l k :: l.drop (k + 1) := by
  rw [List.drop_eq_getElem_cons h]
  simp [nth, List.getElem?_eq_getElem h]
theorem Ahn {n : Nat} (h : n ≤ 1000000) : F9 n 16 := ⟨Nat.le_trans h (by decide), Nat.le_trans (Nat.mul_le_mul_right 16 h) (by decide)⟩
theorem Nn {s : List UInt8} {b : UInt8} (hs : s.length ≤ 500000) : I5 s b = some (splitAtL b s) := by
  unfold I5
  simp only [lt1]
  obtain ⟨x, hx, h⟩ := Dq (f := fun (v : Int × Int × List (List UInt8)) => E9 s b v.1 v.2.1 v.2.2) s.length
    (fun k v => ∃ (fr : Nat) (l : List (List UInt8)) (mid : List UInt8), v = ((fr : Int), (k : Int), l) ∧ fr ≤ k ∧ s.drop fr = mid ++ s.drop k ∧ mid.length = k - fr ∧ b ∉ mid ∧ l ++ splitAtL b (s.drop fr) = splitAtL b s ∧ l.length ≤ k)
    (fun x => ∃ (fr : Nat) (l : List (List UInt8)), x = ((fr : Int), l) ∧ fr ≤ s.length ∧ b ∉ s.drop fr ∧ l ++ splitAtL b (s.drop fr) = splitAtL b s ∧ l.length ≤ s.length) (by omega) (by
      rintro k v hk ⟨fr, l, mid, rfl, h1, h2, h3, h4, h5, h6⟩
      have hin : InR (k : Int) s.length := ⟨by omega, by simpa using hk⟩
      unfold E9
      simp only [Int.toNat_natCast]
      rw [if_pos (decide_eq_true (by omega)), if_pos hin]
      rw [Aa6 hk] at h2
      by_cases hb : nth s k = b
      · have e2 : s.drop fr = mid ++ b :: s.drop (k + 1) := by rw [h2, hb]
        have e3 : splitAtL b (s.drop fr) = mid :: splitAtL b (s.drop (k + 1)) := by rw [e2, Db h4]
        have e4 : (s.drop fr).take (k - fr) = mid := by rw [e2, ← h3, List.take_left']; rfl
        refine ⟨(((k + 1 : Nat) : Int), ((k + 1 : Nat) : Int), l ++ [mid]), ?_, k + 1, l ++ [mid], [], rfl, Nat.le_refl _, by simp, by simp, by simp, ?_, by simp; omega⟩
        · rw [if_pos (by simp [hb]), if_pos ⟨by omega, by simp; omega⟩, if_pos ⟨by omega, by simp; omega⟩, if_pos (Ahn (by omega))]
          simp only [lt1, Option.bind_some]
          rw [e4, Cr (by omega)]
        · rw [List.append_assoc, List.singleton_append, ← e3, h5]
      · refine ⟨((fr : Int), ((k + 1 : Nat) : Int), l), ?_, fr, l, mid ++ [nth s k], rfl, by omega, by rw [h2]; simp, by simp; omega, by simp [h4, Ne.symm hb], h5, by omega⟩
        rw [if_neg (by simpa using hb), Option.bind_some, Cr (by omega)]) (by
      rintro v ⟨fr, l, mid, rfl, h1, h2, h3, h4, h5, h6⟩
      refine ⟨((fr : Int), l), ?_, fr, l, rfl, h1, by rw [h2]; simpa using h4, h5, h6⟩
      unfold E9
      rw [if_neg (by simp)]) (v0 := (0, 0, [])) ⟨0, [], [], rfl, Nat.le_refl _, by simp, rfl, by simp, by simp, by simp⟩
  obtain ⟨fr, l, rfl, h1, h2, h3, h4⟩ := h
  rw [hx]
  simp only [Option.bind_some, Int.toNat_natCast]
  rw [if_pos ⟨by omega, by simp; omega⟩, if_pos (Ahn (by omega))]
  rw [C6 h2] at h3
  have e : (s.drop fr).take (s.length - fr) = s.drop fr := List.take_of_length_le (by rw [List.length_drop]; exact Nat.le_refl _)
  rw [e, h3]
def dv (l : List UInt8) : Int := l.foldl (fun a c => 10 * a + ((c.toNat : Int) - 48)) 0
theorem AdV (l : List UInt8) (c : UInt8) : dv (l ++ [c]) = 10 * dv l + ((c.toNat : Int) - 48) := by simp [dv]
theorem AdJ {l : List UInt8} {k : Nat} (hk : k < l.length) : dv (l.take (k + 1)) = 10 * dv (l.take k) + (((nth l k).toNat : Int) - 48) := by
  have h : l.take (k + 1) = l.take k ++ [nth l k] := by
    rw [List.take_add_one, List.getElem?_eq_getElem hk]
    simp [nth, List.getElem?_eq_getElem hk]
  rw [h, AdV]
theorem Ag9 : ∀ (u : Nat), dv (Lib.decDigits u) = (u : Int) := by
  intro u
  induction u using Nat.strongRecOn with
  | ind u ih =>
    by_cases hu : u < 10
    · rw [Lib.decDigits, dif_pos hu]
      show 10 * 0 + (((UInt8.ofNat (48 + u)).toNat : Int) - 48) = _
      rw [Eb hu]; omega
    · rw [Lib.decDigits, dif_neg hu, AdV, ih (u / 10) (by omega), Eb (Nat.mod_lt _ (by omega))]
      omega
theorem Jp (x : Int) : ∃ q : Int, w64 x = x - 18446744073709551616 * q ∧ -9223372036854775808 ≤ w64 x ∧ w64 x ≤ 9223372036854775807 := by
  refine ⟨(x + 9223372036854775808) / 18446744073709551616, ?_⟩
  unfold w64
  rw [IntKind.wrap_i64]
  omega
theorem Aa7 {x y : Int} (h : ∃ q : Int, x = y + 18446744073709551616 * q) : w64 x = w64 y := by
  obtain ⟨q, hq⟩ := h
  obtain ⟨a, ha, ha1, ha2⟩ := Jp x
  obtain ⟨b, hb, hb1, hb2⟩ := Jp y
  omega
theorem Yx (x : Int) : I64 (w64 x) := by
  obtain ⟨q, _, h⟩ := Jp x
  exact h
theorem Amz (a c : Int) : w64 (w64 (w64 (10 * w64 a) + c) - 48) = w64 (10 * a + (c - 48)) := by
  obtain ⟨p, hp, _⟩ := Jp a
  obtain ⟨q, hq, _⟩ := Jp (10 * w64 a)
  obtain ⟨r, hr, _⟩ := Jp (w64 (10 * w64 a) + c)
  refine Aa7 ⟨-(10 * p + q + r), ?_⟩
  omega
theorem Ame (a c : Int) : w64 (w64 (w64 (10 * w64 (-a)) - c) + 48) = w64 (-(10 * a + (c - 48))) := by
  obtain ⟨p, hp, _⟩ := Jp (-a)
  obtain ⟨q, hq, _⟩ := Jp (10 * w64 (-a))
  obtain ⟨r, hr, _⟩ := Jp (w64 (10 * w64 (-a)) - c)
  refine Aa7 ⟨-(10 * p + q + r), ?_⟩
  omega
theorem Z6 {s : List UInt8} (hs : s.length ≤ 500000) (h0 : s = [] ∨ nth s 0 ≠ 45) : Av s = some (w64 (dv s)) := by
  unfold Av
  have hneg : (if (decide ((s.length : Int) > 0)) = true then if InR 0 s.length then some (((nth s 0) == (45 : UInt8))) else none else some false : Option Bool) = some false := by
    by_cases he : s.length = 0
    · rw [if_neg (by simp [he])]
    · rw [if_pos (decide_eq_true (by omega)), if_pos ⟨by omega, by simp; omega⟩]
      rcases h0 with rfl | h0
      · simp at he
      · simp [h0]
  rw [hneg, Option.bind_some]
  obtain ⟨x, hx, rfl⟩ := Dq (f := fun (v : Int × Int) => Cg s false v.1 v.2) s.length (fun k v => v = (w64 (dv (s.take k)), (k : Int))) (fun x => x = w64 (dv s)) (by omega) (by
      rintro k v hk rfl
      refine ⟨_, ?_, rfl⟩
      unfold Cg
      rw [if_pos (decide_eq_true (by omega)), if_neg (by simp), Option.bind_some, if_neg (by simp), if_pos (by simp), if_pos ⟨by omega, by simpa using hk⟩]
      simp only [lt1, Option.bind_some, Int.toNat_natCast]
      rw [Amz, Cr (by omega), AdJ hk]) (by
      rintro v rfl
      refine ⟨_, ?_, rfl⟩
      unfold Cg
      rw [if_neg (by simp), List.take_length]) (v0 := (0, 0)) (by
      show ((0 : Int), (0 : Int)) = (w64 (dv []), _)
      rw [show dv [] = 0 from rfl, C0 (by omega)]; rfl)
  rw [hx]; rfl
theorem Aeq {r : List UInt8} (hs : r.length ≤ 500000) : Av (45 :: r) = some (w64 (-(dv r))) := by
  unfold Av
  have hneg : (if (decide ((((45 : UInt8) :: r).length : Int) > 0)) = true then if InR 0 ((45 : UInt8) :: r).length then some (((nth ((45 : UInt8) :: r) 0) == (45 : UInt8))) else none else some false : Option Bool) = some true := by
    rw [if_pos (decide_eq_true (by simp only [List.length_cons]; omega)), if_pos ⟨by omega, by simp⟩]
    rfl
  rw [hneg, Option.bind_some]
  obtain ⟨x, hx, rfl⟩ := Dq (f := fun (v : Int × Int) => Cg (45 :: r) true v.1 v.2) (r.length + 1) (fun k v => v = (w64 (-(dv (r.take (k - 1)))), (k : Int))) (fun x => x = w64 (-(dv r))) (by omega) (by
      rintro k v hk rfl
      refine ⟨_, ?_, rfl⟩
      unfold Cg
      rw [if_pos (decide_eq_true (by simp; omega)), if_pos rfl, Option.bind_some]
      by_cases h0 : k = 0
      · subst h0
        rw [if_neg (by simp), if_neg (by simp), Option.bind_some, Cr (by omega)]
      · obtain ⟨m, rfl⟩ : ∃ m, k = m + 1 := ⟨k - 1, by omega⟩
        have hm : m < r.length := by omega
        rw [if_pos (decide_eq_true (by omega)), if_pos ⟨by omega, by simp; omega⟩]
        simp only [lt1, Option.bind_some, Int.toNat_natCast, Nat.add_sub_cancel]
        have hn : nth ((45 : UInt8) :: r) (m + 1) = nth r m := by simp [nth]
        rw [hn, Ame, Cr (by omega), AdJ hm]) (by
      rintro v rfl
      refine ⟨_, ?_, rfl⟩
      unfold Cg
      rw [if_neg (by simp), Nat.add_sub_cancel, List.take_length]) (v0 := (0, 0)) (by
      show ((0 : Int), (0 : Int)) = (w64 (-(dv (r.take 0))), _)
      rw [List.take_zero, show dv [] = 0 from rfl, C0 (by omega)]; rfl)
  rw [hx]; rfl
theorem Ml {n : Int} (h : I64 n) : Av (Lib.itoa n) = some n := by
  have hl := Bz h.1 h.2
  unfold Lib.itoa at hl ⊢
  unfold I64 at h
  split
  · rename_i hn
    rw [if_pos hn] at hl
    rw [Aeq (by simp at hl; omega), Ag9, C0 (by omega)]
    congr 1; omega
  · rename_i hn
    rw [if_neg hn] at hl
    rw [Z6 (by omega) (.inr ?_), Ag9, C0 (by omega)]
    · congr 1; omega
    · obtain ⟨c, r, e, q1, q2⟩ := Vq n.toNat
      rw [e]
      intro e2
      have : c = 45 := e2
      rw [this] at q1
      simp at q1
theorem Mr {s : List UInt8} (hs : s.length ≤ 400000) : ∃ n, Av s = some n ∧ I64 n := by
  match s with
  | [] => exact ⟨_, Z6 (by simp) (.inl rfl), Yx _⟩
  | c :: r =>
    by_cases h : c = 45
    · subst h
      exact ⟨_, Aeq (by simp at hs; omega), Yx _⟩
    · exact ⟨_, Z6 (by omega) (.inr (by simpa [nth] using h)), Yx _⟩
theorem Xx (t : List UInt8) (k : Nat) (hk : k < t.length) : esc t = esc (t.take k) ++ (Ri (nth t k) ++ esc (t.drop (k + 1))) := by
  have h : t = t.take k ++ (nth t k :: t.drop (k + 1)) := by
    rw [← Aa6 hk, List.take_append_drop]
  have h2 : ∀ a b : List UInt8, esc (a ++ b) = esc a ++ esc b := fun a b => by simp [esc]
  have h3 : ∀ (c : UInt8) (b : List UInt8), esc (c :: b) = Ri c ++ esc b := fun c b => by simp [esc]
  calc esc t = esc (t.take k ++ (nth t k :: t.drop (k + 1))) := by rw [← h]
    _ = _ := by rw [h2, h3]
theorem Up {a r : List UInt8} {c : UInt8} : nth (a ++ c :: r) a.length = c := by simp [nth]
theorem Nb (c : UInt8) : (Ac7 c = false ∧ Ri c = [c] ∧ c ≠ 63) ∨ (Ac7 c = true ∧ ∃ h l, Ri c = [63, h, l] ∧ Cb [h, l] 16 8 = some (c.toUInt64, false) ∧ (∃ a b, Gr h = some a ∧ Gr l = some b ∧ (16 : UInt8) * a + b = c)) := by
  by_cases hb : Ac7 c = true
  · refine .inr ⟨hb, nth Ac3 (c.toNat / 16), nth Ac3 (c.toNat % 16), by simp [Ri, hb], ?_, ?_⟩
    · exact Ju (p := fun c => Cb [nth Ac3 (c.toNat / 16), nth Ac3 (c.toNat % 16)] 16 8 = some (c.toUInt64, false)) (by decide +kernel) c
    · have h : ((Gr (nth Ac3 (c.toNat / 16))).bind fun a => (Gr (nth Ac3 (c.toNat % 16))).bind fun b => some ((16 : UInt8) * a + b)) = some c :=
        Ju (p := fun c => ((Gr (nth Ac3 (c.toNat / 16))).bind fun a => (Gr (nth Ac3 (c.toNat % 16))).bind fun b => some ((16 : UInt8) * a + b)) = some c) (by decide +kernel) c
      obtain ⟨a, h1, h2⟩ := Option.bind_eq_some_iff.1 h
      obtain ⟨b, h3, h4⟩ := Option.bind_eq_some_iff.1 h2
      exact ⟨a, b, h1, h3, Option.some.inj h4⟩
  · have hb' : Ac7 c = false := by simpa using hb
    refine .inl ⟨hb', by simp [Ri, hb'], ?_⟩
    intro e
    subst e
    revert hb'
    decide
theorem Afd {k j : Nat} (h : k + j < 9223372036854775807) : w64 ((k : Int) + (j : Int)) = ((k + j : Nat) : Int) := by rw [C0 (by omega)]; omega
theorem AgD {t : List UInt8} (ht : t.length ≤ 100000) : C7 (esc t) = some (t, true) := by
  unfold C7
  by_cases he : t = []
  · subst he; rfl
  have hne : esc t ≠ [] := by
    match t, he with
    | c :: r, _ =>
      intro e
      have := congrArg List.length e
      simp only [esc, List.flatMap_cons, List.length_append, List.length_nil] at this
      rcases Nb c with ⟨_, h, _⟩ | ⟨_, h, l, h2, _⟩
      · rw [h] at this; simp at this
      · rw [h2] at this; simp at this
  rw [if_neg hne]
  unfold Ex
  have hel := Mf t
  obtain ⟨x, hx, rfl⟩ := Dq (f := fun (v : Int × List UInt8) => B3 (esc t) v.1 v.2) t.length (fun k v => v = (((esc (t.take k)).length : Int), t.take k)) (fun x => x = .inl t) (by omega) (by
      rintro k v hk rfl
      refine ⟨_, ?_, rfl⟩
      have e := Xx t k hk
      have ek := Pi t k hk
      have etk : t.take (k + 1) = t.take k ++ [nth t k] := by
        rw [List.take_add_one, List.getElem?_eq_getElem hk]
        simp [nth, List.getElem?_eq_getElem hk]
      rw [ek, etk]
      generalize hA : esc (t.take k) = A at e
      have hlt : (t.take k).length ≤ 100000 := by rw [List.length_take]; omega
      generalize t.take k = T at hlt
      generalize esc (t.drop (k + 1)) = Z at e
      rw [e] at hel
      unfold B3
      rw [e]
      rcases Nb (nth t k) with ⟨_, h1, h2⟩ | ⟨_, h, l, h1, h2, _⟩
      · rw [h1] at hel ⊢
        simp only [List.singleton_append, List.length_append, List.length_cons] at hel ⊢
        rw [if_pos (decide_eq_true (by omega)), if_pos ⟨by omega, by simp⟩]
        simp only [Int.toNat_natCast]
        rw [Up, if_neg (by simpa using h2), Option.bind_some]
        simp only
        rw [B1 (by omega), Option.bind_some]
        simp only [List.length_nil]
        rw [Cr (by omega)]
      · rw [h1] at hel ⊢
        simp only [List.cons_append, List.nil_append, List.length_append, List.length_cons] at hel ⊢
        have w1 := Afd (k := A.length) (j := 1) (by omega)
        have w2 := Afd (k := A.length) (j := 2) (by omega)
        have w3 := Afd (k := A.length) (j := 3) (by omega)
        rw [if_pos (decide_eq_true (by omega)), if_pos ⟨by omega, by simp⟩]
        simp only [Int.toNat_natCast]
        rw [Up, if_pos (by simp), show w64 ((A.length : Int) + 2) = ((A.length + 2 : Nat) : Int) from w2, show w64 ((A.length : Int) + 3) = ((A.length + 3 : Nat) : Int) from w3, show w64 ((A.length : Int) + 1) = ((A.length + 1 : Nat) : Int) from w1]
        rw [if_neg (by simp; omega), if_pos ⟨by omega, by simp; omega⟩, if_pos ⟨by omega, by simp; omega⟩]
        simp only [Int.toNat_natCast]
        have ed : ((A ++ 63 :: h :: l :: Z).drop (A.length + 1)).take (A.length + 3 - (A.length + 1)) = [h, l] := by
          rw [← List.drop_drop]; simp [show A.length + 3 - (A.length + 1) = 2 by omega]
        rw [ed, h2, Option.bind_some, if_neg (by simp), Option.bind_some]
        simp only
        rw [B1 (by omega), Option.bind_some]
        simp only [List.length_nil]
        rw [Cr (by omega)]
        simp [Nat.add_assoc]) (by
      rintro v rfl
      refine ⟨_, ?_, rfl⟩
      unfold B3
      rw [List.take_length, if_neg (by simp)]) (v0 := (0, [])) (by simp [esc])
  rw [hx]
  simp only [Option.bind_some]
  rw [if_pos (by simpa using he), if_pos (Qk (by omega))]
theorem Agz {t : List UInt8} (ht : t.length ≤ 100000) : H4 (esc t) = some t := by
  unfold H4
  simp only [lt1]
  have hel := Mf t
  obtain ⟨x, hx, rfl⟩ := Dq (f := fun (v : Int × List UInt8) => Dx (esc t) v.1 v.2) t.length (fun k v => v = (((esc (t.take k)).length : Int), t.take k)) (fun x => x = t) (by omega) (by
      rintro k v hk rfl
      refine ⟨_, ?_, rfl⟩
      have e := Xx t k hk
      have ek := Pi t k hk
      have etk : t.take (k + 1) = t.take k ++ [nth t k] := by
        rw [List.take_add_one, List.getElem?_eq_getElem hk]
        simp [nth, List.getElem?_eq_getElem hk]
      rw [ek, etk]
      generalize hA : esc (t.take k) = A at e
      have hlt : (t.take k).length ≤ 100000 := by rw [List.length_take]; omega
      generalize t.take k = T at hlt
      generalize esc (t.drop (k + 1)) = Z at e
      rw [e] at hel
      unfold Dx
      rw [e]
      rcases Nb (nth t k) with ⟨_, h1, h2⟩ | ⟨_, h, l, h1, _, a, b, h3, h4, h5⟩
      · rw [h1] at hel ⊢
        simp only [List.singleton_append, List.length_append, List.length_cons] at hel ⊢
        rw [if_pos (decide_eq_true (by omega)), if_pos ⟨by omega, by simp⟩]
        simp only [Int.toNat_natCast]
        simp only [Up]
        rw [if_neg (by simpa using h2), Option.bind_some, if_neg (by simp), if_pos ⟨by omega, by simp⟩, if_pos (Qk (by omega))]
        simp only [lt1, Option.bind_some, List.length_nil]
        rw [Cr (by omega)]
      · rw [h1] at hel ⊢
        simp only [List.cons_append, List.nil_append, List.length_append, List.length_cons] at hel ⊢
        have w1 := Afd (k := A.length) (j := 1) (by omega)
        have w2 := Afd (k := A.length) (j := 2) (by omega)
        rw [if_pos (decide_eq_true (by omega)), if_pos ⟨by omega, by simp⟩]
        simp only [Int.toNat_natCast]
        simp only [Up]
        rw [if_pos (by simp), show w64 ((A.length : Int) + 2) = ((A.length + 2 : Nat) : Int) from w2, show w64 ((A.length : Int) + 1) = ((A.length + 1 : Nat) : Int) from w1]
        rw [Option.bind_some, if_pos (decide_eq_true (by omega)), if_pos ⟨by omega, by simp⟩]
        simp only [Int.toNat_natCast]
        have n1 : nth (A ++ 63 :: h :: l :: Z) (A.length + 1) = h := by simp [nth, List.getD]
        have n2 : nth (A ++ 63 :: h :: l :: Z) (A.length + 2) = l := by simp [nth, List.getD]
        rw [n1, n2, h3, Option.bind_some, if_pos ⟨by omega, by simp; omega⟩, h4, Option.bind_some, if_pos (Qk (by omega))]
        simp only [lt1, Option.bind_some, List.length_nil]
        rw [h5, Cr (by omega)]) (by
      rintro v rfl
      refine ⟨_, ?_, rfl⟩
      unfold Dx
      rw [List.take_length, if_neg (by simp)]) (v0 := (0, [])) (by simp [esc])
  rw [hx]; rfl
def Vw (it : Api_Item) (k : Int) (n : Int) : Api_Item :=
  if k = 0 then { it with Wagon := n } else if k = 1 then { it with Place := n } else if k = 2 then { it with Other := n } else if k = 3 then { it with Number := n }
  else if k = 4 then { it with From := n } else if k = 5 then { it with To := n } else if k = 6 then { it with Code := n } else if k = 7 then { it with Dest := n }
  else if k = 8 then { it with Class := n } else if k = 9 then { it with Weight := n } else { it with Amount := n }
def Fa (c : UInt8) : Int := Lib.indexByte [119, 112, 111, 110, 102, 116, 99, 100, 107, 103, 97] c
theorem AbG (c : UInt8) : Fa c = -1 ∨ Fa c = 0 ∨ Fa c = 1 ∨ Fa c = 2 ∨ Fa c = 3 ∨ Fa c = 4 ∨ Fa c = 5 ∨ Fa c = 6 ∨ Fa c = 7 ∨ Fa c = 8 ∨ Fa c = 9 ∨ Fa c = 10 :=
  Ju (p := fun c => Fa c = -1 ∨ Fa c = 0 ∨ Fa c = 1 ∨ Fa c = 2 ∨ Fa c = 3 ∨ Fa c = 4 ∨ Fa c = 5 ∨ Fa c = 6 ∨ Fa c = 7 ∨ Fa c = 8 ∨ Fa c = 9 ∨ Fa c = 10) (by decide +kernel) c
theorem Hy (c : UInt8) : Ds [119, 112, 111, 110, 102, 116, 99, 100, 107, 103, 97] c = some (Fa c) := by
  unfold Ds B0 Cn Vs
  rw [Xj]; rfl
theorem L1 {s : List UInt8} {n : Int} (h : s.length ≤ 1048576) : Bh s n = some (match atois (splitAtL 46 s) with | some l => (l, (l.length : Int) == n) | none => ([], false)) := by
  unfold Bh Qv
  rw [if_pos h]
  rfl
theorem Sd (c : UInt8) (r : List UInt8) : ((c :: r).drop 1).take ((c :: r).length - 1) = r := by simp
theorem Aa1 {it : Api_Item} {c : UInt8} {r : List UInt8} (hr : r.length ≤ 1000000) (hk : Fa c ≠ -1) :
    Cp it (c :: r) = some (match atois (splitAtL 46 r) with | some [n] => (true, Vw it (Fa c) n) | _ => (false, it)) := by
  have hA : ∀ l : List Int, (((l.length : Int) == 1) = true → ∃ n, l = [n]) := by
    intro l h
    match l with
    | [] => simp at h
    | [n] => exact ⟨n, rfl⟩
    | _ :: _ :: _ => simp at h; omega
  unfold Cp
  rw [if_neg (by simp), if_pos ⟨by omega, by simp⟩, Hy, Option.bind_some]
  have e0 : nth (c :: r) 0 = c := rfl
  simp only [lt1, e0, Sd]
  have hb : InB 1 (c :: r).length := ⟨by omega, by simp⟩
  rcases AbG c with h | h | h | h | h | h | h | h | h | h | h | h
  · exact absurd h hk
  all_goals
    rw [h]
    simp only [beq_self_eq_true, if_true, if_pos hb, Int.reduceBEq, Bool.false_eq_true, if_false]
    rw [L1 (by omega), Option.bind_some]
    cases hat : atois (splitAtL 46 r) with
    | none => simp only [Bool.false_eq_true, if_false, Option.bind_some]
    | some l =>
      simp only
      by_cases hl : ((l.length : Int) == 1) = true
      · obtain ⟨n, rfl⟩ := hA l hl
        rw [if_pos hl, if_pos ⟨by omega, by simp⟩]
        rfl
      · rw [if_neg hl, Option.bind_some]
        match l, hl with
        | [], _ => rfl
        | [n], hl => exact absurd rfl hl
        | a :: b :: m, hl => rw [show (((a :: b :: m).length : Int) == 1) = false by simpa using hl]
theorem Aa3 {it : Api_Item} {r : List UInt8} (hr : r.length ≤ 1000000) :
    Cp it (114 :: r) = some (match atois (splitAtL 46 r) with | some [m, n] => (true, { it with Ref := ⟨m, n⟩ }) | _ => (false, it)) := by
  have hA : ∀ l : List Int, (((l.length : Int) == 2) = true → ∃ m n, l = [m, n]) := by
    intro l h
    match l with
    | [] => simp at h
    | [n] => simp at h
    | [m, n] => exact ⟨m, n, rfl⟩
    | _ :: _ :: _ :: _ => simp at h; omega
  unfold Cp
  rw [if_neg (by simp), if_pos ⟨by omega, by simp⟩, Hy, Option.bind_some]
  have e0 : nth ((114 : UInt8) :: r) 0 = 114 := rfl
  have hb : InB 1 ((114 : UInt8) :: r).length := ⟨by omega, by simp⟩
  have hb0 : InR 0 ((114 : UInt8) :: r).length := ⟨by omega, by simp⟩
  simp only [lt1, e0, Sd]
  rw [show Fa 114 = -1 by decide +kernel]
  simp only [Int.reduceBEq, Bool.false_eq_true, if_false, if_pos hb, if_pos hb0, beq_self_eq_true, if_true]
  rw [if_neg (by decide)]
  rw [L1 (by omega), Option.bind_some]
  cases hat : atois (splitAtL 46 r) with
  | none => simp only [Bool.false_eq_true, if_false, Option.bind_some]
  | some l =>
    simp only
    by_cases hl : ((l.length : Int) == 2) = true
    · obtain ⟨m, n, rfl⟩ := hA l hl
      rw [if_pos hl, if_pos ⟨by omega, by simp⟩, if_pos ⟨by omega, by simp⟩]
      rfl
    · rw [if_neg hl, Option.bind_some]
      match l, hl with
      | [], _ => rfl
      | [n], hl => rfl
      | [m, n], hl => exact absurd rfl hl
      | a :: b :: c :: m, hl => rw [show (((a :: b :: c :: m).length : Int) == 2) = false by simpa using hl]
theorem Ahf {n : Nat} (h : n ≤ 1000000) : F9 n 24 := ⟨Nat.le_trans h (by decide), Nat.le_trans (Nat.mul_le_mul_right 24 h) (by decide)⟩
theorem V0 {it : Api_Item} {r : List UInt8} (hr : r.length ≤ 1000000) (hp : it.Parts.length ≤ 500000) :
    Cp it (113 :: r) = some (match atois (splitAtL 46 r) with | some [a, b, f] => (true, { it with Parts := it.Parts ++ [⟨a, b, f == 1⟩] }) | _ => (false, it)) := by
  have hA : ∀ l : List Int, (((l.length : Int) == 3) = true → ∃ m n o, l = [m, n, o]) := by
    intro l h
    match l with
    | [] => simp at h
    | [n] => simp at h
    | [m, n] => simp at h
    | [m, n, o] => exact ⟨m, n, o, rfl⟩
    | _ :: _ :: _ :: _ :: _ => simp at h; omega
  unfold Cp
  rw [if_neg (by simp), if_pos ⟨by omega, by simp⟩, Hy, Option.bind_some]
  have e0 : nth ((113 : UInt8) :: r) 0 = 113 := rfl
  have hb : InB 1 ((113 : UInt8) :: r).length := ⟨by omega, by simp⟩
  have hb0 : InR 0 ((113 : UInt8) :: r).length := ⟨by omega, by simp⟩
  simp only [lt1, e0, Sd]
  rw [show Fa 113 = -1 by decide +kernel]
  simp only [Int.reduceBEq, Bool.false_eq_true, if_false, if_pos hb, if_pos hb0, beq_self_eq_true, if_true]
  rw [if_neg (by decide), if_neg (by decide), if_neg (by decide)]
  rw [L1 (by omega), Option.bind_some]
  cases hat : atois (splitAtL 46 r) with
  | none => simp only [Bool.false_eq_true, if_false, Option.bind_some]
  | some l =>
    simp only
    by_cases hl : ((l.length : Int) == 3) = true
    · obtain ⟨m, n, o, rfl⟩ := hA l hl
      rw [if_pos hl, if_pos ⟨by omega, by simp⟩, if_pos ⟨by omega, by simp⟩, if_pos ⟨by omega, by simp⟩, if_pos (Ahf (by omega))]
      rfl
    · rw [if_neg hl, Option.bind_some]
      match l, hl with
      | [], _ => rfl
      | [n], hl => rfl
      | [m, n], hl => rfl
      | [m, n, o], hl => exact absurd rfl hl
      | a :: b :: c :: d :: m, hl => rw [show (((a :: b :: c :: d :: m).length : Int) == 3) = false by simpa using hl]
theorem Xb {it : Api_Item} {r : List UInt8} : Cp it (120 :: r) = (C7 r).bind fun y => some (y.2, { it with Text := y.1 }) := by
  unfold Cp
  rw [if_neg (by simp), if_pos ⟨by omega, by simp⟩, Hy, Option.bind_some]
  have e0 : nth ((120 : UInt8) :: r) 0 = 120 := rfl
  have hb : InB 1 ((120 : UInt8) :: r).length := ⟨by omega, by simp⟩
  have hb0 : InR 0 ((120 : UInt8) :: r).length := ⟨by omega, by simp⟩
  simp only [lt1, e0, Sd]
  rw [show Fa 120 = -1 by decide +kernel]
  simp only [Int.reduceBEq, Bool.false_eq_true, if_false, if_pos hb, if_pos hb0, beq_self_eq_true, if_true]
  rw [if_neg (by decide), if_neg (by decide)]
  cases C7 r <;> rfl
theorem Aca {it : Api_Item} {c : UInt8} {r : List UInt8} (hk : Fa c = -1) (h1 : c ≠ 114) (h2 : c ≠ 120) (h3 : c ≠ 113) : Cp it (c :: r) = some (false, it) := by
  unfold Cp
  rw [if_neg (by simp), if_pos ⟨by omega, by simp⟩, Hy, Option.bind_some]
  have e0 : nth (c :: r) 0 = c := rfl
  have hb : InB 1 (c :: r).length := ⟨by omega, by simp⟩
  have hb0 : InR 0 (c :: r).length := ⟨by omega, by simp⟩
  simp only [lt1, e0, Sd]
  rw [hk]
  simp only [Int.reduceBEq, Bool.false_eq_true, if_false, if_pos hb, if_pos hb0]
  rw [if_neg (by decide), if_neg (by simpa using h1), if_neg (by simpa using h2), if_neg (by simpa using h3)]
  rfl
theorem Agy {it : Api_Item} : Cp it [] = some (false, it) := by
  unfold Cp
  rw [if_pos (by simp)]
theorem Aho (it : Api_Item) {c : UInt8} (n : Int) (hk : Fa c ≠ -1) : Mm it c n = some (Vw it (Fa c) n) ∧ Rh [119, 112, 111, 110, 102, 116, 99, 100, 107, 103, 97] c = some true ∧ c ≠ 114 ∧ c ≠ 120 ∧ c ≠ 113 := by
  have key : ∀ c : UInt8, Fa c ≠ -1 → c = 119 ∨ c = 112 ∨ c = 111 ∨ c = 110 ∨ c = 102 ∨ c = 116 ∨ c = 99 ∨ c = 100 ∨ c = 107 ∨ c = 103 ∨ c = 97 :=
    Ju (p := fun c => Fa c ≠ -1 → c = 119 ∨ c = 112 ∨ c = 111 ∨ c = 110 ∨ c = 102 ∨ c = 116 ∨ c = 99 ∨ c = 100 ∨ c = 107 ∨ c = 103 ∨ c = 97) (by decide +kernel)
  rcases key c hk with h | h | h | h | h | h | h | h | h | h | h <;> subst h <;> exact ⟨rfl, by decide +kernel, by decide, by decide, by decide⟩
def puOk (t : Int) (z : (UInt64 × Int) ⊕ (UInt64 ⊕ (UInt64 ⊕ (UInt64 × Int)))) : Prop := match z with | .inl v => v.2 = w64 (t + 1) | .inr (.inr (.inr y)) => y.2 = 1 ∨ y.2 = 2 | _ => True
theorem Ah5 (s : List UInt8) (c m n : UInt64) (t : Int) (ht : t < (s.length : Int)) (h0 : 0 ≤ t) :
    ∃ r, Bb s c m n t = some r ∧ puOk t r := by
  unfold Bb
  rw [if_pos (decide_eq_true ht), if_pos ⟨h0, by omega⟩]
  generalize nth s t.toNat = b
  have e1 : (if (b == (95 : UInt8)) = true then some () else some () : Option Unit) = some () := by split <;> rfl
  rw [e1, Option.bind_some]
  simp only [lt1, Ek, Option.bind_some]
  have hfin : ∀ d : UInt8, ∃ r, (Option.bind (if (decide (d ≥ (UInt8.ofInt 16))) = true then
          (((some (((0 : UInt64), (2 : Int)))).bind fun z_1878 => some (.inr z_1878)).bind fun z_1879 => some (.inr (.inr z_1879))).bind fun z_1880 => some (.inr z_1880)
        else
          if (decide (n ≥ c)) = true then
            (((some ((m, 1))).bind fun z_1881 => some (.inr z_1881)).bind fun z_1882 => some (.inr (.inr z_1882))).bind fun z_1883 => some (.inr z_1883)
          else
            (if (decide ((n * (UInt64.ofInt 16) + d.toUInt64) < n * (UInt64.ofInt 16))) = true then
              some true
            else
              some ((decide ((n * (UInt64.ofInt 16) + d.toUInt64) > m))) : Option (Bool)).bind fun t_1886 =>
            if t_1886 = true then
              (((some ((m, 1))).bind fun z_1889 => some (.inr z_1889)).bind fun z_1890 => some (.inr (.inr z_1890))).bind fun z_1891 => some (.inr z_1891)
            else
              some (.inl ((n * (UInt64.ofInt 16) + d.toUInt64))) : Option ((UInt64) ⊕ ((UInt64 × Int) ⊕ ((UInt64) ⊕ ((UInt64) ⊕ (UInt64 × Int)))))) fun x => match x with
    | .inl n_1825 =>
      some (.inl ((n_1825, (w64 (t + 1)))))
    | .inr z => some z) = some r ∧ puOk t r := by
    intro d
    by_cases h1 : (decide (d ≥ (UInt8.ofInt 16))) = true
    · rw [if_pos h1]; exact ⟨_, rfl, .inr rfl⟩
    · rw [if_neg h1]
      by_cases h2 : (decide (n ≥ c)) = true
      · rw [if_pos h2]; exact ⟨_, rfl, .inl rfl⟩
      · rw [if_neg h2]
        by_cases h3 : (decide ((n * (UInt64.ofInt 16) + d.toUInt64) < n * (UInt64.ofInt 16))) = true
        · rw [if_pos h3, Option.bind_some, if_pos rfl]; exact ⟨_, rfl, .inl rfl⟩
        · rw [if_neg h3, Option.bind_some]
          by_cases h4 : (decide ((n * (UInt64.ofInt 16) + d.toUInt64) > m)) = true
          · rw [if_pos h4]; exact ⟨_, rfl, .inl rfl⟩
          · rw [if_neg h4]; exact ⟨_, rfl, rfl⟩
  by_cases h1 : (if decide ((48 : UInt8) ≤ b) = true then some (decide (b ≤ (57 : UInt8))) else some false : Option Bool) = some true
  · rw [h1, Option.bind_some, if_pos rfl]
    exact hfin _
  · have h1' : (if decide ((48 : UInt8) ≤ b) = true then some (decide (b ≤ (57 : UInt8))) else some false : Option Bool) = some false := by
      revert h1
      cases decide ((48 : UInt8) ≤ b) <;> cases decide (b ≤ (57 : UInt8)) <;> simp
    rw [h1', Option.bind_some, if_neg (by simp)]
    by_cases h2 : (if decide ((97 : UInt8) ≤ b ||| 32) = true then some (decide (b ||| 32 ≤ (122 : UInt8))) else some false : Option Bool) = some true
    · rw [h2, Option.bind_some, if_pos rfl]
      exact hfin _
    · have h2' : (if decide ((97 : UInt8) ≤ b ||| 32) = true then some (decide (b ||| 32 ≤ (122 : UInt8))) else some false : Option Bool) = some false := by
        revert h2
        cases decide ((97 : UInt8) ≤ b ||| 32) <;> cases decide (b ||| 32 ≤ (122 : UInt8)) <;> simp
      rw [h2', Option.bind_some, if_neg (by simp)]
      exact ⟨_, rfl, .inr rfl⟩
theorem Aiw {s : List UInt8} (hs : s.length ≤ 1000000) : ∃ r, Cb s 16 8 = some r := by
  unfold Cb
  rw [if_pos ⟨rfl, rfl, by omega⟩]
  have h : ∃ r, B4 s = some r ∧ (r.2 = 0 ∨ r.2 = 1 ∨ r.2 = 2) := by
    unfold B4
    by_cases he : (s == ([] : List UInt8)) = true
    · rw [if_pos he]; exact ⟨_, rfl, .inr (.inr rfl)⟩
    · rw [if_neg he]
      simp only [lt1, Option.bind_some]
      obtain ⟨x, hx, hq⟩ := D8 (f := fun (v : UInt64 × Int) => Bb s (1152921504606846976 : UInt64) (AeK 1 (UInt64.ofInt 8).toNat - 1) v.1 v.2) (fun v => 0 ≤ v.2 ∧ v.2 ≤ (s.length : Int)) (fun v => s.length - v.2.toNat)
        (fun x => match x with | .inr (.inr y) => y.2 = 1 ∨ y.2 = 2 | _ => True) (by
        rintro ⟨n, t⟩ hv
        simp only at hv
        by_cases ht : t < (s.length : Int)
        · obtain ⟨r, hr, hk⟩ := Ah5 s (1152921504606846976 : UInt64) (AeK 1 (UInt64.ofInt 8).toNat - 1) n t ht hv.1
          rcases r with ⟨n', t'⟩ | z
          · refine .inl ⟨_, hr, ?_⟩
            have hk' : t' = w64 (t + 1) := hk
            simp only
            rw [hk', C0 (by omega)]
            omega
          · refine .inr ⟨_, hr, ?_⟩
            rcases z with z | z | z
            · trivial
            · trivial
            · exact hk
        · refine .inr ⟨.inl n, ?_, trivial⟩
          unfold Bb
          rw [if_neg (by simpa using ht)]) (v0 := ((0 : UInt64), 0)) ⟨by simp, by simp⟩ (by simp; omega)
      rw [hx]
      rcases x with x | x | x
      · exact ⟨_, rfl, .inl rfl⟩
      · exact ⟨_, rfl, .inl rfl⟩
      · exact ⟨_, rfl, .inr hq⟩
  obtain ⟨r, h1, h2⟩ := h
  rw [h1, Option.bind_some, if_pos h2]
  exact ⟨_, rfl⟩
theorem Acw {s : List UInt8} (hs : s.length ≤ 100000) : ∃ y, C7 s = some y ∧ y.1.length ≤ s.length := by
  unfold C7
  by_cases he : s = []
  · rw [if_pos he]; exact ⟨_, rfl, by simp⟩
  rw [if_neg he]
  have hpos : 0 < s.length := List.length_pos_iff.2 he
  unfold Ex
  obtain ⟨x, hx, hq⟩ := D8 (f := fun (v : Int × List UInt8) => B3 s v.1 v.2) (fun v => 0 ≤ v.1 ∧ v.1 ≤ (s.length : Int) ∧ (v.2.length : Int) ≤ v.1 ∧ (0 < v.1 → v.2 ≠ [])) (fun v => s.length - v.1.toNat)
    (fun x => match x with | .inl l => l ≠ [] ∧ l.length ≤ s.length | .inr (.inr y) => y = ([], false) | _ => False) (by
      rintro ⟨i, l⟩ ⟨h1, h2, h3, h4⟩
      simp only at h1 h2 h3 h4
      have hll : l.length ≤ 100000 := by omega
      by_cases hi : i < (s.length : Int)
      · unfold B3
        rw [if_pos (decide_eq_true hi), if_pos ⟨h1, by omega⟩]
        by_cases hc : (nth s i.toNat == (63 : UInt8)) = true
        · rw [if_pos hc]
          have w2 : w64 (i + 2) = i + 2 := C0 (by omega)
          have w3 : w64 (i + 3) = i + 3 := C0 (by omega)
          have w1 : w64 (i + 1) = i + 1 := C0 (by omega)
          rw [w2, w3, w1]
          by_cases h5 : i + 2 ≥ (s.length : Int)
          · rw [if_pos (decide_eq_true h5)]
            exact .inr ⟨_, rfl, rfl⟩
          · rw [if_neg (by simpa using h5), if_pos ⟨by omega, by omega⟩, if_pos ⟨by omega, by omega⟩]
            obtain ⟨r, hr⟩ := Aiw (s := (s.drop (i + 1).toNat).take ((i + 3).toNat - (i + 1).toNat)) (by rw [List.length_take]; omega)
            rw [hr, Option.bind_some]
            by_cases h6 : (!!r.2) = true
            · rw [if_pos h6]; exact .inr ⟨_, rfl, rfl⟩
            · rw [if_neg h6, Option.bind_some]
              simp only
              rw [B1 (by omega), Option.bind_some, C0 (by omega)]
              exact .inl ⟨_, rfl, ⟨by omega, by omega, by simp; omega, by simp⟩, by simp only; omega⟩
        · rw [if_neg hc, Option.bind_some]
          simp only
          rw [B1 (by omega), Option.bind_some, C0 (by omega)]
          exact .inl ⟨_, rfl, ⟨by omega, by omega, by simp; omega, by simp⟩, by simp only; omega⟩
      · refine .inr ⟨.inl l, ?_, h4 (by omega), by omega⟩
        unfold B3
        rw [if_neg (by simpa using hi)]) (v0 := (0, [])) ⟨by simp, by simp, by simp, by simp⟩ (by simp; omega)
  rw [hx]
  rcases x with l | l | y
  · simp only [Option.bind_some]
    have hq' : l ≠ [] ∧ l.length ≤ s.length := hq
    rw [if_pos hq'.1, if_pos (Qk (by omega))]
    exact ⟨_, rfl, hq'.2⟩
  · exact hq.elim
  · have hq' : y = ([], false) := hq
    subst hq'
    exact ⟨_, rfl, by simp⟩
theorem Abm (c : UInt8) : ∃ d, Gr c = some d := by
  have h : ∀ c : UInt8, (Gr c).isSome = true := fun c => Ju (p := fun c => (Gr c).isSome = true) (by decide +kernel) c
  exact Option.isSome_iff_exists.1 (h c)
theorem Ade {s : List UInt8} (hs : s.length ≤ 100000) : ∃ t, H4 s = some t ∧ t.length ≤ s.length := by
  unfold H4
  simp only [lt1]
  obtain ⟨x, hx, hq⟩ := D8 (f := fun (v : Int × List UInt8) => Dx s v.1 v.2) (fun v => 0 ≤ v.1 ∧ v.1 ≤ (s.length : Int) ∧ (v.2.length : Int) ≤ v.1) (fun v => s.length - v.1.toNat)
    (fun x => x.length ≤ s.length) (by
      rintro ⟨i, l⟩ ⟨h1, h2, h3⟩
      simp only at h1 h2 h3
      have hll : l.length ≤ 100000 := by omega
      by_cases hi : i < (s.length : Int)
      · unfold Dx
        have hin : InR i s.length := ⟨h1, by omega⟩
        have w2 : w64 (i + 2) = i + 2 := C0 (by omega)
        have w1 : w64 (i + 1) = i + 1 := C0 (by omega)
        rw [if_pos (decide_eq_true hi), if_pos hin, w2, w1]
        have hplain : ∃ v', ((if InR i s.length then if F9 (l.length + 1) 1 then lt1 (l ++ ([nth s i.toNat] : List UInt8)) fun (l_4595 : List UInt8) => some ((i, l_4595)) else none else none : Option (Int × List UInt8)).bind fun (x : Int × List UInt8) =>
            (some (.inl (((w64 (x.1 + 1)), x.2))) : Option ((Int × List UInt8) ⊕ (List UInt8)))) = some (.inl v') ∧ (0 ≤ v'.1 ∧ v'.1 ≤ (s.length : Int) ∧ (v'.2.length : Int) ≤ v'.1) ∧ s.length - v'.1.toNat < s.length - i.toNat := by
          rw [if_pos hin, if_pos (Qk (by omega))]
          simp only [lt1, Option.bind_some]
          rw [C0 (by omega)]
          exact ⟨_, rfl, ⟨by simp only; omega, by simp only; omega, by simp; omega⟩, by simp only; omega⟩
        by_cases hc : (nth s i.toNat == (63 : UInt8)) = true
        · rw [if_pos hc, Option.bind_some]
          by_cases h5 : i + 2 < (s.length : Int)
          · rw [if_pos (decide_eq_true h5), if_pos ⟨by omega, by omega⟩]
            obtain ⟨a, ha⟩ := Abm (nth s (i + 1).toNat)
            obtain ⟨b, hb⟩ := Abm (nth s (i + 2).toNat)
            rw [ha, Option.bind_some, if_pos ⟨by omega, by omega⟩, hb, Option.bind_some, if_pos (Qk (show l.length + 1 ≤ 1000000 by omega))]
            simp only [lt1, Option.bind_some]
            rw [C0 (by omega)]
            exact .inl ⟨_, rfl, ⟨by simp only; omega, by simp only; omega, by simp; omega⟩, by simp only; omega⟩
          · rw [if_neg (by simpa using h5)]
            exact .inl hplain
        · rw [if_neg hc, Option.bind_some, if_neg (by simp)]
          exact .inl hplain
      · refine .inr ⟨l, ?_, by omega⟩
        unfold Dx
        rw [if_neg (by simpa using hi)]) (v0 := (0, [])) ⟨by simp, by simp, by simp⟩ (by simp; omega)
  rw [hx]
  exact ⟨x, rfl, hq⟩
theorem Afv {s : List UInt8} {n : Int} (h : Lib.atoiAll s = .ok n) : I64 n := Lib.atoiAll_bounds h
theorem I9 : ∀ {ps : List (List UInt8)} {l : List Int}, atois ps = some l → ∀ n ∈ l, I64 n
  | [], l, h, n, hn => by cases h; cases hn
  | p :: ps, l, h, n, hn => by
    rw [atois] at h
    split at h
    · rename_i v hv
      obtain ⟨l', h1, rfl⟩ := Option.map_eq_some_iff.1 h
      rcases List.mem_cons.1 hn with rfl | hn
      · exact Afv hv
      · exact I9 h1 n hn
    · cases h
theorem Xd (it : Api_Item) (k n : Int) : (Vw it k n).Text = it.Text ∧ (Vw it k n).Parts = it.Parts ∧ (Vw it k n).Kind = it.Kind := by
  unfold Vw
  repeat' split
  all_goals exact ⟨rfl, rfl, rfl⟩
theorem Xn {it : Api_Item} (h : Ints it) (k : Int) {n : Int} (hn : I64 n) : Ints (Vw it k n) := by
  obtain ⟨h1, h2, h3, h4, h5, h6, h7, h8, h9, h10, h11⟩ := h.nums
  unfold Vw
  repeat' split
  all_goals exact ⟨h.kind, h.ref, by first | exact ⟨hn, h2, h3, h4, h5, h6, h7, h8, h9, h10, h11⟩ | exact ⟨h1, hn, h3, h4, h5, h6, h7, h8, h9, h10, h11⟩ | exact ⟨h1, h2, hn, h4, h5, h6, h7, h8, h9, h10, h11⟩ | exact ⟨h1, h2, h3, hn, h5, h6, h7, h8, h9, h10, h11⟩ | exact ⟨h1, h2, h3, h4, hn, h6, h7, h8, h9, h10, h11⟩ | exact ⟨h1, h2, h3, h4, h5, hn, h7, h8, h9, h10, h11⟩ | exact ⟨h1, h2, h3, h4, h5, h6, hn, h8, h9, h10, h11⟩ | exact ⟨h1, h2, h3, h4, h5, h6, h7, hn, h9, h10, h11⟩ | exact ⟨h1, h2, h3, h4, h5, h6, h7, h8, hn, h10, h11⟩ | exact ⟨h1, h2, h3, h4, h5, h6, h7, h8, h9, hn, h11⟩ | exact ⟨h1, h2, h3, h4, h5, h6, h7, h8, h9, h10, hn⟩, h.part⟩
structure Rg (it : Api_Item) (n : Nat) : Prop where
  ints : Ints it
  text : it.Text.length ≤ 70000
  parts : it.Parts.length ≤ n
theorem AdU {it : Api_Item} {s : List UInt8} {n : Nat} (hs : s.length ≤ 70000) (hr : Rg it n) (hn : n ≤ 70000) : ∃ y, Cp it s = some y ∧ Rg y.2 (n + 1) ∧ y.2.Kind = it.Kind := by
  have keep : Rg it (n + 1) := ⟨hr.ints, hr.text, by have := hr.parts; omega⟩
  match s with
  | [] => exact ⟨_, Agy, keep, rfl⟩
  | c :: r =>
    simp only [List.length_cons] at hs
    by_cases hk : Fa c = -1
    · by_cases h1 : c = 114
      · subst h1
        rw [Aa3 (by omega)]
        refine ⟨_, rfl, ?_⟩
        split
        · rename_i m k he
          exact ⟨⟨⟨hr.ints.kind, ⟨I9 he m (by simp), I9 he k (by simp)⟩, hr.ints.nums, hr.ints.part⟩, hr.text, keep.parts⟩, rfl⟩
        · exact ⟨keep, rfl⟩
      · by_cases h2 : c = 120
        · subst h2
          obtain ⟨y, hy, hl⟩ := Acw (s := r) (by omega)
          rw [Xb, hy]
          exact ⟨_, rfl, ⟨⟨hr.ints.kind, hr.ints.ref, hr.ints.nums, hr.ints.part⟩, by show y.1.length ≤ 70000; omega, keep.parts⟩, rfl⟩
        · by_cases h3 : c = 113
          · subst h3
            rw [V0 (by omega) (by have := hr.parts; omega)]
            refine ⟨_, rfl, ?_⟩
            split
            · rename_i a b f he
              refine ⟨⟨⟨hr.ints.kind, hr.ints.ref, hr.ints.nums, ?_⟩, hr.text, by simp; have := hr.parts; omega⟩, rfl⟩
              intro x hx
              rcases List.mem_append.1 hx with hx | hx
              · exact hr.ints.part x hx
              · simp only [List.mem_singleton] at hx
                subst hx
                exact ⟨I9 he a (by simp), I9 he b (by simp)⟩
            · exact ⟨keep, rfl⟩
          · exact ⟨_, Aca hk h1 h2 h3, keep, rfl⟩
    · rw [Aa1 (by omega) hk]
      refine ⟨_, rfl, ?_⟩
      split
      · rename_i m he
        obtain ⟨q1, q2, q3⟩ := Xd it (Fa c) m
        exact ⟨⟨Xn hr.ints _ (I9 he m (by simp)), by show (Vw it (Fa c) m).Text.length ≤ _; rw [q1]; exact hr.text, by show (Vw it (Fa c) m).Parts.length ≤ _; rw [q2]; exact keep.parts⟩, q3⟩
      · exact ⟨keep, rfl⟩
def Cy : Api_Item → List (List UInt8) → Option (Option Api_Item)
  | it, [] => some (some it)
  | it, e :: es => (Cp it e).bind fun y => if y.1 = true then Cy y.2 es else some none
theorem B9 {it it' : Api_Item} {a b : List (List UInt8)} (h : Cy it a = some (some it')) : Cy it (a ++ b) = Cy it' b := by
  induction a generalizing it with
  | nil => cases h; rfl
  | cons e es ih =>
    rw [Cy] at h
    obtain ⟨y, h1, h2⟩ := Option.bind_eq_some_iff.1 h
    rw [List.cons_append, Cy, h1, Option.bind_some]
    split at h2
    · rename_i hy
      rw [if_pos hy, ih h2]
    · cases h2
abbrev Un := Int × Int × Int × Int × Int × Int × Int × Int × Int × Int × Int × Int × Int × Int × List UInt8 × List Api_Part
def un (it : Api_Item) : Un := (it.Kind, it.Ref.Railway, it.Ref.No, it.Wagon, it.Place, it.Other, it.Number, it.From, it.To, it.Code, it.Dest, it.Class, it.Weight, it.Amount, it.Text, it.Parts)
def ent : Api_Item := { Kind := 0, Ref := { Railway := 0, No := 0 }, Wagon := 0, Place := 0, Other := 0, Number := 0, From := 0, To := 0, Code := 0, Dest := 0, Class := 0, Weight := 0, Amount := 0, Text := [], Parts := [] }
theorem AcR {L : List (List UInt8)} {e0 : List UInt8} {it0 : Api_Item} (hl : L.length ≤ 70000) (hL : ∀ e ∈ L, e.length ≤ 70000) (h0 : Rg it0 0) (hk : I64 it0.Kind) :
    ∃ R, Cy it0 L = some R ∧ Cx (fun (v : Int × Un) => E7 (e0 :: L) v.1 v.2.1 v.2.2.1 v.2.2.2.1 v.2.2.2.2.1 v.2.2.2.2.2.1 v.2.2.2.2.2.2.1 v.2.2.2.2.2.2.2.1 v.2.2.2.2.2.2.2.2.1 v.2.2.2.2.2.2.2.2.2.1 v.2.2.2.2.2.2.2.2.2.2.1 v.2.2.2.2.2.2.2.2.2.2.2.1 v.2.2.2.2.2.2.2.2.2.2.2.2.1 v.2.2.2.2.2.2.2.2.2.2.2.2.2.1 v.2.2.2.2.2.2.2.2.2.2.2.2.2.2.1 v.2.2.2.2.2.2.2.2.2.2.2.2.2.2.2.1 v.2.2.2.2.2.2.2.2.2.2.2.2.2.2.2.2) (0, un it0)
      = some (match R with | some it => .inl (un it) | none => .inr (.inr (ent, 4))) ∧ (∀ it, R = some it → Rg it L.length ∧ it.Kind = it0.Kind) := by
  have hd : ((e0 :: L).drop 1).take ((e0 :: L).length - 1) = L := by simp
  obtain ⟨x, hx, hq⟩ := D8 (f := fun (v : Int × Un) => E7 (e0 :: L) v.1 v.2.1 v.2.2.1 v.2.2.2.1 v.2.2.2.2.1 v.2.2.2.2.2.1 v.2.2.2.2.2.2.1 v.2.2.2.2.2.2.2.1 v.2.2.2.2.2.2.2.2.1 v.2.2.2.2.2.2.2.2.2.1 v.2.2.2.2.2.2.2.2.2.2.1 v.2.2.2.2.2.2.2.2.2.2.2.1 v.2.2.2.2.2.2.2.2.2.2.2.2.1 v.2.2.2.2.2.2.2.2.2.2.2.2.2.1 v.2.2.2.2.2.2.2.2.2.2.2.2.2.2.1 v.2.2.2.2.2.2.2.2.2.2.2.2.2.2.2.1 v.2.2.2.2.2.2.2.2.2.2.2.2.2.2.2.2)
    (fun v => ∃ (k : Nat) (it : Api_Item), v = ((k : Int), un it) ∧ k ≤ L.length ∧ Rg it k ∧ it.Kind = it0.Kind ∧ Cy it0 L = Cy it (L.drop k)) (fun v => L.length - v.1.toNat)
    (fun x => ∃ R, Cy it0 L = some R ∧ x = (match R with | some it => .inl (un it) | none => .inr (.inr (ent, 4))) ∧ (∀ it, R = some it → Rg it L.length ∧ it.Kind = it0.Kind)) (by
      rintro v ⟨k, it, rfl, hkl, hr, hki, hra⟩
      unfold E7
      simp only [hd, un]
      by_cases hlt : k < L.length
      · have hin : InR (k : Int) L.length := ⟨by omega, by simpa using hlt⟩
        have hdk : L.drop k = nth L k :: L.drop (k + 1) := by rw [List.drop_eq_getElem_cons hlt]; simp [nth, List.getElem?_eq_getElem hlt]
        obtain ⟨y, hy, hyr, hyk⟩ := AdU (it := it) (s := nth L k) (hL _ (Nt hlt)) hr (by omega)
        have hy' : Cp { Kind := it.Kind, Ref := { Railway := it.Ref.Railway, No := it.Ref.No }, Wagon := it.Wagon, Place := it.Place, Other := it.Other, Number := it.Number, From := it.From, To := it.To, Code := it.Code, Dest := it.Dest, Class := it.Class, Weight := it.Weight, Amount := it.Amount, Text := it.Text, Parts := it.Parts } (nth L k) = some y := hy
        simp only [lt1, Int.toNat_natCast]
        rw [if_pos (decide_eq_true (by omega)), if_pos hin, hy', Option.bind_some]
        rw [hdk, Cy, hy, Option.bind_some] at hra
        by_cases hb : y.1 = true
        · rw [hb, if_neg (by simp), Cr (by omega)]
          rw [if_pos hb] at hra
          refine .inl ⟨_, rfl, ⟨k + 1, y.2, rfl, by omega, hyr, hyk.trans hki, hra⟩, ?_⟩
          simp only [Int.toNat_natCast]; omega
        · rw [if_pos (by simpa using hb)]
          rw [if_neg hb] at hra
          exact .inr ⟨_, rfl, none, hra, rfl, by intro it h; cases h⟩
      · rw [lt1, if_neg (by simpa using hlt)]
        rw [List.drop_eq_nil_of_le (by omega), Cy] at hra
        refine .inr ⟨_, rfl, some it, hra, rfl, ?_⟩
        intro it' h
        cases h
        exact ⟨⟨hr.ints, hr.text, by have := hr.parts; omega⟩, hki⟩) (v0 := (0, un it0)) ⟨0, it0, rfl, Nat.zero_le _, h0, rfl, rfl⟩ (by simp; omega)
  obtain ⟨R, h1, h2, h3⟩ := hq
  exact ⟨R, h1, by rw [hx, h2], h3⟩
theorem Yv {it : Api_Item} : Bk it [] = some it := by
  unfold Bk
  rw [if_pos (by simp)]
theorem Qm {it : Api_Item} {r : List UInt8} (hr : r.length ≤ 400000) : Bk it (114 :: r) = match splitAtL 46 r with
    | [a, b] => (Av a).bind fun m => (Av b).bind fun k => some { it with Ref := ⟨m, k⟩ }
    | _ => some it := by
  unfold Bk
  rw [if_neg (by simp), if_pos ⟨by omega, by simp⟩, Sd, Nn (by omega), Option.bind_some, if_pos ⟨by omega, by simp⟩]
  have e0 : nth ((114 : UInt8) :: r) 0 = 114 := rfl
  rw [e0, if_pos (by decide)]
  generalize splitAtL 46 r = L
  match L with
  | [] => rfl
  | [a] => rfl
  | [a, b] =>
    have e1 : nth [a, b] 0 = a := rfl
    have e2 : nth [a, b] 1 = b := rfl
    show _ = (Av a).bind fun m => (Av b).bind fun k => some { it with Ref := ⟨m, k⟩ }
    rw [if_pos (by simp), if_pos ⟨by omega, by simp⟩, e1]
    cases Av a with
    | none => rfl
    | some m =>
      simp only [Option.bind_some]
      rw [if_pos ⟨by omega, by simp⟩, e2]
      cases Av b <;> rfl
  | a :: b :: c :: d =>
    rw [if_neg (by simp; omega)]
    rfl
theorem Oq {it : Api_Item} {r : List UInt8} (hr : r.length ≤ 400000) : Bk it (120 :: r) = (H4 r).bind fun t => some { it with Text := t } := by
  unfold Bk
  rw [if_neg (by simp), if_pos ⟨by omega, by simp⟩, Sd, Nn (by omega), Option.bind_some, if_pos ⟨by omega, by simp⟩]
  have e0 : nth ((120 : UInt8) :: r) 0 = 120 := rfl
  rw [e0, if_neg (by decide), if_pos (by decide), if_pos ⟨by omega, by simp⟩]
theorem Oz {it : Api_Item} {r : List UInt8} (hr : r.length ≤ 400000) (hp : it.Parts.length ≤ 500000) : Bk it (113 :: r) = match splitAtL 46 r with
    | [a, b, f] => (Av a).bind fun m => (Av b).bind fun k => some { it with Parts := it.Parts ++ [⟨m, k, f == [49]⟩] }
    | _ => some it := by
  unfold Bk
  rw [if_neg (by simp), if_pos ⟨by omega, by simp⟩, Sd, Nn (by omega), Option.bind_some, if_pos ⟨by omega, by simp⟩]
  have e0 : nth ((113 : UInt8) :: r) 0 = 113 := rfl
  rw [e0, if_neg (by decide), if_neg (by decide), if_pos (by decide)]
  generalize splitAtL 46 r = L
  match L with
  | [] => rfl
  | [a] => rfl
  | [a, b] => rfl
  | [a, b, f] =>
    have e1 : nth [a, b, f] 0 = a := rfl
    have e2 : nth [a, b, f] 1 = b := rfl
    have e3 : nth [a, b, f] 2 = f := rfl
    show _ = (Av a).bind fun m => (Av b).bind fun k => some { it with Parts := it.Parts ++ [(⟨m, k, f == [49]⟩ : Api_Part)] }
    rw [if_pos (by simp), if_pos ⟨by omega, by simp⟩, e1]
    cases Av a with
    | none => rfl
    | some m =>
      simp only [Option.bind_some]
      rw [if_pos ⟨by omega, by simp⟩, e2]
      cases Av b with
      | none => rfl
      | some k =>
        simp only [Option.bind_some]
        rw [if_pos ⟨by omega, by simp⟩, if_pos (Ahf (by omega)), e3]
        rfl
  | a :: b :: c :: d :: e =>
    rw [if_neg (by simp; omega)]
    rfl
theorem Q6 {it : Api_Item} {c : UInt8} {r : List UInt8} (hr : r.length ≤ 400000) (hk : Fa c ≠ -1) : Bk it (c :: r) = (Av r).bind fun n => some (Vw it (Fa c) n) := by
  obtain ⟨_, q2, q3, q4, q5⟩ := Aho it 0 hk
  unfold Bk
  rw [if_neg (by simp), if_pos ⟨by omega, by simp⟩, Sd, Nn (by omega), Option.bind_some, if_pos ⟨by omega, by simp⟩]
  have e0 : nth (c :: r) 0 = c := rfl
  rw [e0, if_neg (by simpa using q3), if_neg (by simpa using q4), if_neg (by simpa using q5), if_pos ⟨by omega, by simp⟩, q2, Option.bind_some, if_pos rfl, if_pos ⟨by omega, by simp⟩, if_pos ⟨by omega, by simp⟩]
  cases Av r with
  | none => rfl
  | some n =>
    simp only [Option.bind_some]
    have hw : Mm { Kind := it.Kind, Ref := it.Ref, Wagon := it.Wagon, Place := it.Place, Other := it.Other, Number := it.Number, From := it.From, To := it.To, Code := it.Code, Dest := it.Dest, Class := it.Class, Weight := it.Weight, Amount := it.Amount, Text := it.Text, Parts := it.Parts } c n = some (Vw it (Fa c) n) := (Aho it n hk).1
    rw [hw, Option.bind_some]
    rfl
theorem Vf {it : Api_Item} {c : UInt8} {r : List UInt8} (hr : r.length ≤ 400000) (hk : Fa c = -1) (h1 : c ≠ 114) (h2 : c ≠ 120) (h3 : c ≠ 113) : Bk it (c :: r) = some it := by
  have hin : Rh [119, 112, 111, 110, 102, 116, 99, 100, 107, 103, 97] c = some false := by
    have key : ∀ c : UInt8, Fa c = -1 → Rh [119, 112, 111, 110, 102, 116, 99, 100, 107, 103, 97] c = some false :=
      Ju (p := fun c => Fa c = -1 → Rh [119, 112, 111, 110, 102, 116, 99, 100, 107, 103, 97] c = some false) (by decide +kernel)
    exact key c hk
  unfold Bk
  rw [if_neg (by simp), if_pos ⟨by omega, by simp⟩, Sd, Nn (by omega), Option.bind_some, if_pos ⟨by omega, by simp⟩]
  have e0 : nth (c :: r) 0 = c := rfl
  rw [e0, if_neg (by simpa using h1), if_neg (by simpa using h2), if_neg (by simpa using h3), if_pos ⟨by omega, by simp⟩, hin, Option.bind_some, if_neg (by simp)]
theorem Vz {it : Api_Item} {s : List UInt8} {n : Nat} (hs : s.length ≤ 70000) (hr : Rg it n) (hn : n ≤ 70000) : ∃ y, Bk it s = some y ∧ Rg y (n + 1) ∧ y.Kind = it.Kind := by
  have keep : Rg it (n + 1) := ⟨hr.ints, hr.text, by have := hr.parts; omega⟩
  match s with
  | [] => exact ⟨_, Yv, keep, rfl⟩
  | c :: r =>
    simp only [List.length_cons] at hs
    have hsm : ∀ p ∈ splitAtL 46 r, p.length ≤ 400000 := fun p hp => by have := Lc _ r (Nat.le_refl _) p hp; omega
    by_cases hk : Fa c = -1
    · by_cases h1 : c = 114
      · subst h1
        rw [Qm (by omega)]
        revert hsm
        generalize splitAtL 46 r = L
        intro hsm
        match L with
        | [] => exact ⟨_, rfl, keep, rfl⟩
        | [a] => exact ⟨_, rfl, keep, rfl⟩
        | [a, b] =>
          obtain ⟨m, hm, hm1⟩ := Mr (s := a) (hsm a (by simp))
          obtain ⟨k, hk1, hk2⟩ := Mr (s := b) (hsm b (by simp))
          refine ⟨{ it with Ref := ⟨m, k⟩ }, by simp only [hm, hk1, Option.bind_some], ⟨⟨hr.ints.kind, ⟨hm1, hk2⟩, hr.ints.nums, hr.ints.part⟩, hr.text, keep.parts⟩, rfl⟩
        | a :: b :: d :: e => exact ⟨_, rfl, keep, rfl⟩
      · by_cases h2 : c = 120
        · subst h2
          obtain ⟨t, ht, hl⟩ := Ade (s := r) (by omega)
          rw [Oq (by omega), ht]
          exact ⟨_, rfl, ⟨⟨hr.ints.kind, hr.ints.ref, hr.ints.nums, hr.ints.part⟩, by show t.length ≤ 70000; omega, keep.parts⟩, rfl⟩
        · by_cases h3 : c = 113
          · subst h3
            rw [Oz (by omega) (by have := hr.parts; omega)]
            revert hsm
            generalize splitAtL 46 r = L
            intro hsm
            match L with
            | [] => exact ⟨_, rfl, keep, rfl⟩
            | [a] => exact ⟨_, rfl, keep, rfl⟩
            | [a, b] => exact ⟨_, rfl, keep, rfl⟩
            | [a, b, f] =>
              obtain ⟨m, hm, hm1⟩ := Mr (s := a) (hsm a (by simp))
              obtain ⟨k, hk1, hk2⟩ := Mr (s := b) (hsm b (by simp))
              refine ⟨{ it with Parts := it.Parts ++ [⟨m, k, f == [49]⟩] }, by simp only [hm, hk1, Option.bind_some], ⟨⟨hr.ints.kind, hr.ints.ref, hr.ints.nums, ?_⟩, hr.text, by simp; have := hr.parts; omega⟩, rfl⟩
              intro x hx
              rcases List.mem_append.1 hx with hx | hx
              · exact hr.ints.part x hx
              · simp only [List.mem_singleton] at hx
                subst hx
                exact ⟨hm1, hk2⟩
            | a :: b :: d :: e :: f => exact ⟨_, rfl, keep, rfl⟩
          · exact ⟨_, Vf (by omega) hk h1 h2 h3, keep, rfl⟩
    · obtain ⟨m, hm, hm1⟩ := Mr (s := r) (by omega)
      rw [Q6 (by omega) hk, hm]
      obtain ⟨q1, q2, q3⟩ := Xd it (Fa c) m
      exact ⟨_, rfl, ⟨Xn hr.ints _ hm1, by show (Vw it (Fa c) m).Text.length ≤ _; rw [q1]; exact hr.text, by show (Vw it (Fa c) m).Parts.length ≤ _; rw [q2]; exact keep.parts⟩, q3⟩
def C2 : Api_Item → List (List UInt8) → Option Api_Item
  | it, [] => some it
  | it, e :: es => (Bk it e).bind fun y => C2 y es
theorem B7 {it it' : Api_Item} {a b : List (List UInt8)} (h : C2 it a = some it') : C2 it (a ++ b) = C2 it' b := by
  induction a generalizing it with
  | nil => cases h; rfl
  | cons e es ih =>
    rw [C2] at h
    obtain ⟨y, h1, h2⟩ := Option.bind_eq_some_iff.1 h
    rw [List.cons_append, C2, h1, Option.bind_some, ih h2]
theorem V3 {L : List (List UInt8)} {e0 : List UInt8} {it0 : Api_Item} (hl : L.length ≤ 70000) (hL : ∀ e ∈ L, e.length ≤ 70000) (h0 : Rg it0 0) :
    ∃ R, C2 it0 L = some R ∧ Cx (fun (v : Int × Un) => E8 (e0 :: L) v.1 v.2.1 v.2.2.1 v.2.2.2.1 v.2.2.2.2.1 v.2.2.2.2.2.1 v.2.2.2.2.2.2.1 v.2.2.2.2.2.2.2.1 v.2.2.2.2.2.2.2.2.1 v.2.2.2.2.2.2.2.2.2.1 v.2.2.2.2.2.2.2.2.2.2.1 v.2.2.2.2.2.2.2.2.2.2.2.1 v.2.2.2.2.2.2.2.2.2.2.2.2.1 v.2.2.2.2.2.2.2.2.2.2.2.2.2.1 v.2.2.2.2.2.2.2.2.2.2.2.2.2.2.1 v.2.2.2.2.2.2.2.2.2.2.2.2.2.2.2.1 v.2.2.2.2.2.2.2.2.2.2.2.2.2.2.2.2) (1, un it0)
      = some (un R) ∧ Rg R L.length ∧ R.Kind = it0.Kind := by
  obtain ⟨x, hx, hq⟩ := D8 (f := fun (v : Int × Un) => E8 (e0 :: L) v.1 v.2.1 v.2.2.1 v.2.2.2.1 v.2.2.2.2.1 v.2.2.2.2.2.1 v.2.2.2.2.2.2.1 v.2.2.2.2.2.2.2.1 v.2.2.2.2.2.2.2.2.1 v.2.2.2.2.2.2.2.2.2.1 v.2.2.2.2.2.2.2.2.2.2.1 v.2.2.2.2.2.2.2.2.2.2.2.1 v.2.2.2.2.2.2.2.2.2.2.2.2.1 v.2.2.2.2.2.2.2.2.2.2.2.2.2.1 v.2.2.2.2.2.2.2.2.2.2.2.2.2.2.1 v.2.2.2.2.2.2.2.2.2.2.2.2.2.2.2.1 v.2.2.2.2.2.2.2.2.2.2.2.2.2.2.2.2)
    (fun v => ∃ (k : Nat) (it : Api_Item), v = (((k + 1 : Nat) : Int), un it) ∧ k ≤ L.length ∧ Rg it k ∧ it.Kind = it0.Kind ∧ C2 it0 L = C2 it (L.drop k)) (fun v => L.length + 1 - v.1.toNat)
    (fun x => ∃ R, C2 it0 L = some R ∧ x = un R ∧ Rg R L.length ∧ R.Kind = it0.Kind) (by
      rintro v ⟨k, it, rfl, hkl, hr, hki, hra⟩
      unfold E8
      simp only [un]
      by_cases hlt : k < L.length
      · have hin : InR ((k + 1 : Nat) : Int) (e0 :: L).length := ⟨by omega, by simpa using hlt⟩
        have hdk : L.drop k = nth L k :: L.drop (k + 1) := by rw [List.drop_eq_getElem_cons hlt]; simp [nth, List.getElem?_eq_getElem hlt]
        have hn : nth (e0 :: L) (k + 1) = nth L k := by simp [nth]
        obtain ⟨y, hy, hyr, hyk⟩ := Vz (it := it) (s := nth L k) (hL _ (Nt hlt)) hr (by omega)
        have hy' : Bk { Kind := it.Kind, Ref := { Railway := it.Ref.Railway, No := it.Ref.No }, Wagon := it.Wagon, Place := it.Place, Other := it.Other, Number := it.Number, From := it.From, To := it.To, Code := it.Code, Dest := it.Dest, Class := it.Class, Weight := it.Weight, Amount := it.Amount, Text := it.Text, Parts := it.Parts } (nth L k) = some y := hy
        rw [if_pos (decide_eq_true (by simp only [List.length_cons]; omega)), if_pos hin]
        simp only [lt1, Int.toNat_natCast]
        rw [hn, hy', Option.bind_some, Cr (by omega)]
        rw [hdk, C2, hy, Option.bind_some] at hra
        refine .inl ⟨_, rfl, ⟨k + 1, y, rfl, by omega, hyr, hyk.trans hki, hra⟩, ?_⟩
        simp only [Int.toNat_natCast]; omega
      · rw [if_neg (by simp only [List.length_cons]; simp; omega)]
        rw [List.drop_eq_nil_of_le (by omega), C2] at hra
        exact .inr ⟨_, rfl, it, hra, rfl, ⟨hr.ints, hr.text, by have := hr.parts; omega⟩, hki⟩) (v0 := (1, un it0)) ⟨0, it0, rfl, Nat.zero_le _, h0, rfl, rfl⟩ (by simp; omega)
  obtain ⟨R, h1, h2, h3⟩ := hq
  exact ⟨R, h1, by rw [hx, h2], h3⟩
theorem AkL : Fa 119 = 0 := by decide +kernel
theorem AjG : Fa 112 = 1 := by decide +kernel
theorem Akv : Fa 111 = 2 := by decide +kernel
theorem AlZ : Fa 110 = 3 := by decide +kernel
theorem Ami : Fa 102 = 4 := by decide +kernel
theorem AlE : Fa 116 = 5 := by decide +kernel
theorem AjR : Fa 99 = 6 := by decide +kernel
theorem AmA : Fa 100 = 7 := by decide +kernel
theorem AkZ : Fa 107 = 8 := by decide +kernel
theorem Ak7 : Fa 103 = 9 := by decide +kernel
theorem AkW : Fa 97 = 10 := by decide +kernel
theorem Fh {j : Api_Item} {c : UInt8} {k n : Int} (hk : Fa c = k) (hk1 : k ≠ -1) (h : I64 n) (hz : n = 0 → Vw j k n = j) : Cy j (T2 c n) = some (some (Vw j k n)) := by
  unfold T2
  by_cases h0 : n = 0
  · rw [if_pos h0, hz h0]; rfl
  · have hl := Bz h.1 h.2
    rw [if_neg h0, Cy, Aa1 (by omega) (by rw [hk]; exact hk1), And h, hk]
    rfl
theorem Fo {j : Api_Item} {c : UInt8} {k n : Int} (hk : Fa c = k) (hk1 : k ≠ -1) (h : I64 n) (hz : n = 0 → Vw j k n = j) : C2 j (T2 c n) = some (Vw j k n) := by
  unfold T2
  by_cases h0 : n = 0
  · rw [if_pos h0, hz h0]; rfl
  · have hl := Bz h.1 h.2
    rw [if_neg h0, C2, Q6 (by omega) (by rw [hk]; exact hk1), Ml h, hk]
    rfl
theorem Afs {j : Api_Item} {r : Api_Ref} (h : I64 r.Railway ∧ I64 r.No) (hj : j.Ref = ⟨0, 0⟩) : Cy j (Ahd r) = some (some { j with Ref := r }) := by
  unfold Ahd
  by_cases h0 : r.Railway = 0 ∧ r.No = 0
  · rw [if_pos h0]
    have : r = j.Ref := by rw [hj]; cases r; simp only at h0; rw [h0.1, h0.2]
    rw [this]; rfl
  · have q1 := Bz h.1.1 h.1.2
    have q2 := Bz h.2.1 h.2.2
    rw [if_neg h0, Cy, Aa3 (by simp; omega), Ao1 h.1 h.2]
    rfl
theorem Akq (m n : Int) : splitAtL 46 (Lib.itoa m ++ 46 :: Lib.itoa n) = [Lib.itoa m, Lib.itoa n] := by
  rw [Db (Ft m), C6 (Ft n)]
theorem Akk (m n : Int) (b : Bool) : splitAtL 46 (Lib.itoa m ++ 46 :: (Lib.itoa n ++ 46 :: Aff b)) = [Lib.itoa m, Lib.itoa n, Aff b] := by
  rw [Db (Ft m), Db (Ft n), C6 (by cases b <;> decide)]
theorem Af3 {j : Api_Item} {r : Api_Ref} (h : I64 r.Railway ∧ I64 r.No) (hj : j.Ref = ⟨0, 0⟩) : C2 j (Ahd r) = some { j with Ref := r } := by
  unfold Ahd
  by_cases h0 : r.Railway = 0 ∧ r.No = 0
  · rw [if_pos h0]
    have : r = j.Ref := by rw [hj]; cases r; simp only at h0; rw [h0.1, h0.2]
    rw [this]; rfl
  · have q1 := Bz h.1.1 h.1.2
    have q2 := Bz h.2.1 h.2.2
    rw [if_neg h0, C2, Qm (by simp; omega), Akq]
    simp only [Ml h.1, Ml h.2, Option.bind_some]
    rfl
theorem Ado {j : Api_Item} {t : List UInt8} (ht : t.length ≤ 70000) (hj : j.Text = []) : Cy j (V7 t) = some (some { j with Text := t }) := by
  unfold V7
  by_cases h0 : t = []
  · rw [if_pos h0, h0, ← hj]; rfl
  · rw [if_neg h0, Cy, Xb, AgD (by omega)]
    rfl
theorem AeT {j : Api_Item} {t : List UInt8} (ht : t.length ≤ 70000) (hj : j.Text = []) : C2 j (V7 t) = some { j with Text := t } := by
  have := Mf t
  unfold V7
  by_cases h0 : t = []
  · rw [if_pos h0, h0, ← hj]; rfl
  · rw [if_neg h0, C2, Oq (by omega), Agz (by omega)]
    rfl
theorem Aik (x : Api_Part) : (⟨x.Kind, x.Serial, (if x.Fitted = true then (1 : Int) else 0) == 1⟩ : Api_Part) = x := by
  rcases x with ⟨a, b, c⟩
  cases c <;> rfl
theorem Aen (x : Api_Part) : (⟨x.Kind, x.Serial, Aff x.Fitted == [49]⟩ : Api_Part) = x := by
  rcases x with ⟨a, b, c⟩
  cases c <;> rfl
theorem S1 : ∀ {ps : List Api_Part} {j : Api_Item}, (∀ x ∈ ps, I64 x.Kind ∧ I64 x.Serial) → j.Parts.length + ps.length ≤ 500000 → Cy j (ps.map Pt) = some (some { j with Parts := j.Parts ++ ps })
  | [], j, _, _ => by simp [Cy]
  | x :: ps, j, h, hl => by
    have hx := h x (by simp)
    have q1 := Bz hx.1.1 hx.1.2
    have q2 := Bz hx.2.1 hx.2.2
    simp only [List.length_cons] at hl
    have hf : (Aff x.Fitted).length = 1 := by cases x.Fitted <;> rfl
    have e : Cp j (Pt x) = some (true, { j with Parts := j.Parts ++ [x] }) := by
      unfold Pt
      rw [V0 (by simp only [List.length_append, List.length_cons]; omega) (by omega), Anz hx.1 hx.2]
      simp only
      rw [Aik]
    rw [List.map_cons, Cy, e, Option.bind_some, if_pos rfl, S1 (fun y hy => h y (by simp [hy])) (by simp; omega)]
    simp
theorem S3 : ∀ {ps : List Api_Part} {j : Api_Item}, (∀ x ∈ ps, I64 x.Kind ∧ I64 x.Serial) → j.Parts.length + ps.length ≤ 500000 → C2 j (ps.map Pt) = some { j with Parts := j.Parts ++ ps }
  | [], j, _, _ => by simp [C2]
  | x :: ps, j, h, hl => by
    have hx := h x (by simp)
    have q1 := Bz hx.1.1 hx.1.2
    have q2 := Bz hx.2.1 hx.2.2
    simp only [List.length_cons] at hl
    have hf : (Aff x.Fitted).length = 1 := by cases x.Fitted <;> rfl
    have e : Bk j (Pt x) = some { j with Parts := j.Parts ++ [x] } := by
      unfold Pt
      rw [Oz (by simp only [List.length_append, List.length_cons]; omega) (by omega), Akk]
      simp only [Ml hx.1, Ml hx.2, Option.bind_some]
      rw [Aen]
    rw [List.map_cons, C2, e, Option.bind_some, S3 (fun y hy => h y (by simp [hy])) (by simp; omega)]
    simp
def kit (k : Int) : Api_Item := { ent with Kind := k }
theorem ent_ints : Ints ent := by
  have z : I64 0 := ⟨by omega, by omega⟩
  exact ⟨z, ⟨z, z⟩, ⟨z, z, z, z, z, z, z, z, z, z, z⟩, fun x hx => by cases hx⟩
theorem Ahj {k : Int} (h : I64 k) : Rg (kit k) 0 := ⟨⟨h, ent_ints.ref, ent_ints.nums, ent_ints.part⟩, Nat.zero_le _, Nat.le_refl _⟩
theorem Agi {it : Api_Item} (h : Ints it) (ht : it.Text.length ≤ 70000) (hp : it.Parts.length ≤ 500000) : Cy (kit it.Kind) (els it) = some (some it) := by
  obtain ⟨h1, h2, h3, h4, h5, h6, h7, h8, h9, h10, h11⟩ := h.nums
  obtain ⟨k, r, w, p, o, nn, f, t, c, d, kl, g, a, tx, ps⟩ := it
  unfold els AeY
  simp only [List.append_assoc]
  refine (B9 (Afs (j := kit k) h.ref rfl)).trans ?_
  refine (B9 (Fh (j := ⟨k, r, 0, 0, 0, 0, 0, 0, 0, 0, 0, 0, 0, [], []⟩) AkL (by decide) h1 (fun e => by simp only at e; subst e; rfl))).trans ?_
  refine (B9 (Fh (j := ⟨k, r, w, 0, 0, 0, 0, 0, 0, 0, 0, 0, 0, [], []⟩) AjG (by decide) h2 (fun e => by simp only at e; subst e; rfl))).trans ?_
  refine (B9 (Fh (j := ⟨k, r, w, p, 0, 0, 0, 0, 0, 0, 0, 0, 0, [], []⟩) Akv (by decide) h3 (fun e => by simp only at e; subst e; rfl))).trans ?_
  refine (B9 (Fh (j := ⟨k, r, w, p, o, 0, 0, 0, 0, 0, 0, 0, 0, [], []⟩) AlZ (by decide) h4 (fun e => by simp only at e; subst e; rfl))).trans ?_
  refine (B9 (Fh (j := ⟨k, r, w, p, o, nn, 0, 0, 0, 0, 0, 0, 0, [], []⟩) Ami (by decide) h5 (fun e => by simp only at e; subst e; rfl))).trans ?_
  refine (B9 (Fh (j := ⟨k, r, w, p, o, nn, f, 0, 0, 0, 0, 0, 0, [], []⟩) AlE (by decide) h6 (fun e => by simp only at e; subst e; rfl))).trans ?_
  refine (B9 (Fh (j := ⟨k, r, w, p, o, nn, f, t, 0, 0, 0, 0, 0, [], []⟩) AjR (by decide) h7 (fun e => by simp only at e; subst e; rfl))).trans ?_
  refine (B9 (Fh (j := ⟨k, r, w, p, o, nn, f, t, c, 0, 0, 0, 0, [], []⟩) AmA (by decide) h8 (fun e => by simp only at e; subst e; rfl))).trans ?_
  refine (B9 (Fh (j := ⟨k, r, w, p, o, nn, f, t, c, d, 0, 0, 0, [], []⟩) AkZ (by decide) h9 (fun e => by simp only at e; subst e; rfl))).trans ?_
  refine (B9 (Fh (j := ⟨k, r, w, p, o, nn, f, t, c, d, kl, 0, 0, [], []⟩) Ak7 (by decide) h10 (fun e => by simp only at e; subst e; rfl))).trans ?_
  refine (B9 (Fh (j := ⟨k, r, w, p, o, nn, f, t, c, d, kl, g, 0, [], []⟩) AkW (by decide) h11 (fun e => by simp only at e; subst e; rfl))).trans ?_
  refine (B9 (Ado (j := ⟨k, r, w, p, o, nn, f, t, c, d, kl, g, a, [], []⟩) ht rfl)).trans ?_
  exact S1 (j := ⟨k, r, w, p, o, nn, f, t, c, d, kl, g, a, tx, []⟩) h.part (by simpa using hp)
theorem AfW {it : Api_Item} (h : Ints it) (ht : it.Text.length ≤ 70000) (hp : it.Parts.length ≤ 500000) : C2 (kit it.Kind) (els it) = some it := by
  obtain ⟨h1, h2, h3, h4, h5, h6, h7, h8, h9, h10, h11⟩ := h.nums
  obtain ⟨k, r, w, p, o, nn, f, t, c, d, kl, g, a, tx, ps⟩ := it
  unfold els AeY
  simp only [List.append_assoc]
  refine (B7 (Af3 (j := kit k) h.ref rfl)).trans ?_
  refine (B7 (Fo (j := ⟨k, r, 0, 0, 0, 0, 0, 0, 0, 0, 0, 0, 0, [], []⟩) AkL (by decide) h1 (fun e => by simp only at e; subst e; rfl))).trans ?_
  refine (B7 (Fo (j := ⟨k, r, w, 0, 0, 0, 0, 0, 0, 0, 0, 0, 0, [], []⟩) AjG (by decide) h2 (fun e => by simp only at e; subst e; rfl))).trans ?_
  refine (B7 (Fo (j := ⟨k, r, w, p, 0, 0, 0, 0, 0, 0, 0, 0, 0, [], []⟩) Akv (by decide) h3 (fun e => by simp only at e; subst e; rfl))).trans ?_
  refine (B7 (Fo (j := ⟨k, r, w, p, o, 0, 0, 0, 0, 0, 0, 0, 0, [], []⟩) AlZ (by decide) h4 (fun e => by simp only at e; subst e; rfl))).trans ?_
  refine (B7 (Fo (j := ⟨k, r, w, p, o, nn, 0, 0, 0, 0, 0, 0, 0, [], []⟩) Ami (by decide) h5 (fun e => by simp only at e; subst e; rfl))).trans ?_
  refine (B7 (Fo (j := ⟨k, r, w, p, o, nn, f, 0, 0, 0, 0, 0, 0, [], []⟩) AlE (by decide) h6 (fun e => by simp only at e; subst e; rfl))).trans ?_
  refine (B7 (Fo (j := ⟨k, r, w, p, o, nn, f, t, 0, 0, 0, 0, 0, [], []⟩) AjR (by decide) h7 (fun e => by simp only at e; subst e; rfl))).trans ?_
  refine (B7 (Fo (j := ⟨k, r, w, p, o, nn, f, t, c, 0, 0, 0, 0, [], []⟩) AmA (by decide) h8 (fun e => by simp only at e; subst e; rfl))).trans ?_
  refine (B7 (Fo (j := ⟨k, r, w, p, o, nn, f, t, c, d, 0, 0, 0, [], []⟩) AkZ (by decide) h9 (fun e => by simp only at e; subst e; rfl))).trans ?_
  refine (B7 (Fo (j := ⟨k, r, w, p, o, nn, f, t, c, d, kl, 0, 0, [], []⟩) Ak7 (by decide) h10 (fun e => by simp only at e; subst e; rfl))).trans ?_
  refine (B7 (Fo (j := ⟨k, r, w, p, o, nn, f, t, c, d, kl, g, 0, [], []⟩) AkW (by decide) h11 (fun e => by simp only at e; subst e; rfl))).trans ?_
  refine (B7 (AeT (j := ⟨k, r, w, p, o, nn, f, t, c, d, kl, g, a, [], []⟩) ht rfl)).trans ?_
  exact S3 (j := ⟨k, r, w, p, o, nn, f, t, c, d, kl, g, a, tx, []⟩) h.part (by simpa using hp)
theorem AbJ (x : List UInt8) : ∃ i, Ch glob0.l x = some i ∧ -1 ≤ i ∧ i ≤ 15 := by
  have hl : glob0.l.length = 16 := glob0.h
  unfold Ch
  obtain ⟨z, hz, hq⟩ := D8 (f := fun (v : Int) => Da glob0.l x v) (fun v => 0 ≤ v ∧ v ≤ 16) (fun v => 16 - v.toNat) (fun z => match z with | .inl () => True | .inr (.inl ()) => True | .inr (.inr i) => 0 ≤ i ∧ i ≤ 15) (by
    rintro v ⟨h1, h2⟩
    unfold Da
    rw [hl]
    by_cases hv : v < 16
    · rw [if_pos (decide_eq_true (by omega)), if_pos ⟨h1, by omega⟩]
      by_cases hx : (x == nth glob0.l v.toNat) = true
      · rw [if_pos hx]
        exact .inr ⟨_, rfl, by omega, by omega⟩
      · rw [if_neg hx, C0 (by omega)]
        exact .inl ⟨_, rfl, ⟨by omega, by omega⟩, by omega⟩
    · rw [if_neg (by simp; omega)]
      exact .inr ⟨_, rfl, trivial⟩) (v0 := 0) ⟨by omega, by omega⟩ (by simp)
  rw [hz]
  rcases z with ⟨⟩ | ⟨⟨⟩ | i⟩
  · exact ⟨-1, rfl, by omega, by omega⟩
  · exact ⟨-1, rfl, by omega, by omega⟩
  · exact ⟨i, rfl, by have := hq.1; omega, hq.2⟩
theorem Ut : ∀ k : Fin 16, Ch glob0.l (glob0.get k.val) = some (k.val : Int) := by decide +kernel
theorem AeH {k : Int} (h1 : 1 ≤ k) (h2 : k ≤ 15) : Ch glob0.l (glob0.get k.toNat) = some k := by
  have := Ut ⟨k.toNat, by omega⟩
  simp only at this
  rw [this, show ((k.toNat : Nat) : Int) = k by omega]
theorem AdT (x : List UInt8) (L : List (List UInt8)) (k f : Int) : Bp (x :: L) k f = Bp [x] k f := by
  unfold Bp
  have e1 : InR 0 (x :: L).length := ⟨by omega, by simp⟩
  have e2 : InR 0 [x].length := ⟨by omega, by simp⟩
  have e3 : nth (x :: L) 0 = nth [x] 0 := rfl
  simp only [e1, e2, e3, if_true]
theorem Adp (x : List UInt8) (L : List (List UInt8)) : Cx (fun (v : Int × Int) => Bp (x :: L) v.1 v.2) (1, 0) = Cx (fun (v : Int × Int) => Bp [x] v.1 v.2) (1, 0) := by
  have h : (fun (v : Int × Int) => Bp (x :: L) v.1 v.2) = (fun (v : Int × Int) => Bp [x] v.1 v.2) := funext fun v => AdT x L v.1 v.2
  rw [h]
theorem Adf (x : List UInt8) : ∃ k, Cx (fun (v : Int × Int) => Bp [x] v.1 v.2) (1, 0) = some k ∧ 0 ≤ k ∧ k ≤ 15 := by
  obtain ⟨z, hz, hq⟩ := D8 (f := fun (v : Int × Int) => Bp [x] v.1 v.2) (fun v => 1 ≤ v.1 ∧ v.1 ≤ 16 ∧ 0 ≤ v.2 ∧ v.2 ≤ 15) (fun v => 16 - v.1.toNat) (fun k => 0 ≤ k ∧ k ≤ 15) (by
    rintro ⟨v, f⟩ ⟨h1, h2, h3, h4⟩
    simp only at h1 h2 h3 h4
    unfold Bp
    by_cases hv : v ≤ 15
    · simp only
      rw [if_pos (decide_eq_true hv), Ahc h1 hv, Option.bind_some, if_pos ⟨by omega, by simp⟩, C0 (by omega)]
      split
      · exact .inl ⟨_, rfl, ⟨by simp only; omega, by simp only; omega, by simp only; omega, by simp only; omega⟩, by simp only; omega⟩
      · exact .inl ⟨_, rfl, ⟨by simp only; omega, by simp only; omega, by simp only; omega, by simp only; omega⟩, by simp only; omega⟩
    · simp only
      rw [if_neg (by simp; omega)]
      exact .inr ⟨_, rfl, h3, h4⟩) (v0 := (1, 0)) ⟨by simp, by simp, by simp, by simp⟩ (by simp)
  exact ⟨z, hz, hq⟩
theorem Xs : ∀ k : Fin 16, 1 ≤ k.val → Cx (fun (v : Int × Int) => Bp [glob0.get k.val] v.1 v.2) (1, 0) = some (k.val : Int) := by decide +kernel
theorem Afq {k : Int} (h1 : 1 ≤ k) (h2 : k ≤ 15) : Cx (fun (v : Int × Int) => Bp [glob0.get k.toNat] v.1 v.2) (1, 0) = some k := by
  have := Xs ⟨k.toNat, by omega⟩ (by simp only; omega)
  simp only at this
  rw [this, show ((k.toNat : Nat) : Int) = k by omega]
def cut (s : List UInt8) : List UInt8 := if (s.drop (s.length - 1)) = [39] then s.take (s.length - 1) else s
theorem AjZ {s : List UInt8} (hs : s.length ≤ 100000) : Do s [39] = some (cut s, decide (s.drop (s.length - 1) = [39])) := by
  unfold Do C9 C8 cut
  by_cases h0 : s = []
  · subst h0; rfl
  · have hp : 0 < s.length := List.length_pos_iff.2 h0
    have hw : w64 ((s.length : Int) - (([39] : List UInt8).length : Int)) = ((s.length - 1 : Nat) : Int) := by
      simp only [List.length_cons, List.length_nil]
      rw [C0 (by omega)]; omega
    have hc : (decide ((s.length : Int) ≥ (([39] : List UInt8).length : Int))) = true := decide_eq_true (by simp only [List.length_cons, List.length_nil]; omega)
    rw [if_pos hc, hw, if_pos ⟨by omega, by simp⟩]
    simp only [Int.toNat_natCast, Option.bind_some]
    rw [List.take_of_length_le (by rw [List.length_drop]; exact Nat.le_refl _)]
    by_cases hq : s.drop (s.length - 1) = [39]
    · rw [if_neg (by simp [hq]), if_pos ⟨by omega, by simp⟩]
      simp only [lt1, Option.bind_some, hq, if_true, decide_true]
    · rw [if_pos (by simpa using hq)]
      simp only [Option.bind_some, hq, if_false, decide_false]
theorem AdM (it : Api_Item) : cut (msg it) = Io it := by
  unfold cut msg
  rw [List.length_append, List.length_singleton, Nat.add_sub_cancel, List.drop_left, if_pos rfl, List.take_left']
  rfl
theorem AeN (s : List UInt8) : (cut s).length ≤ s.length := by
  unfold cut
  split
  · rw [List.length_take]; omega
  · exact Nat.le_refl _
theorem AhC (it : Api_Item) : B6 ({ Kind := it.Kind, Ref := { Railway := it.Ref.Railway, No := it.Ref.No }, Wagon := it.Wagon, Place := it.Place, Other := it.Other, Number := it.Number, From := it.From, To := it.To, Code := it.Code, Dest := it.Dest, Class := it.Class, Weight := it.Weight, Amount := it.Amount, Text := it.Text, Parts := it.Parts } : Api_Item) = B6 it := rfl
theorem Ah8 (it : Api_Item) : Dv ({ Kind := it.Kind, Ref := { Railway := it.Ref.Railway, No := it.Ref.No }, Wagon := it.Wagon, Place := it.Place, Other := it.Other, Number := it.Number, From := it.From, To := it.To, Code := it.Code, Dest := it.Dest, Class := it.Class, Weight := it.Weight, Amount := it.Amount, Text := it.Text, Parts := it.Parts } : Api_Item) = Dv it := rfl
theorem AaX {s : List UInt8} (hs : s.length ≤ 65536) : ∃ k R, Ch glob0.l ((splitAtL 43 (cut s)).headD []) = some k ∧ -1 ≤ k ∧ k ≤ 15 ∧ Cy (kit k) (splitAtL 43 (cut s)).tail = some R ∧
    (∀ it, R = some it → Rg it (splitAtL 43 (cut s)).tail.length ∧ it.Kind = k) ∧
    D0 s = match R with
      | none => some (ent, 4)
      | some it => (B6 it).bind fun y => if (y.2 != 0 || !(y.1 == s)) = true then some (ent, 4) else some (it, 0) := by
  have hcl := AeN s
  have hsl := Gc 43 (cut s)
  have hcnt : (cut s).count 43 ≤ (cut s).length := List.count_le_length
  have hsm : ∀ p ∈ splitAtL 43 (cut s), p.length ≤ 70000 := fun p hp => by have := Lc _ _ (Nat.le_refl _) p hp; omega
  unfold D0
  rw [if_neg (by simp; omega), AjZ (by omega), Option.bind_some]
  simp only
  rw [AgO (by omega), Option.bind_some]
  revert hsl hsm
  generalize splitAtL 43 (cut s) = L
  intro hsl hsm
  match L with
  | [] => simp at hsl
  | e0 :: L =>
    obtain ⟨k, hk1, hk2, hk3⟩ := AbJ e0
    have hkI : I64 k := ⟨by omega, by omega⟩
    simp only [List.length_cons] at hsl
    obtain ⟨R, hR, hloop, hin⟩ := AcR (L := L) (e0 := e0) (it0 := kit k) (by omega) (fun e he => hsm e (by simp [he])) (Ahj hkI) hkI
    refine ⟨k, R, hk1, hk2, hk3, hR, hin, ?_⟩
    have e1 : nth (e0 :: L) 0 = e0 := rfl
    rw [if_pos ⟨by omega, by simp⟩, e1, hk1, Option.bind_some, if_pos ⟨by omega, by simp⟩]
    have hloop' := hloop
    unfold un kit ent at hloop'
    rw [hloop']
    match R with
    | none => rfl
    | some it =>
      simp only [Option.bind_some]
      rw [AhC]
      cases B6 it with
      | none => rfl
      | some y =>
        simp only [Option.bind_some]
        by_cases h1 : (y.2 != 0) = true
        · rw [if_pos h1, h1]; rfl
        · have h1' : (y.2 != 0) = false := by simpa using h1
          rw [if_neg h1, h1']
          simp only [Option.bind_some, Bool.false_or]
          rfl
theorem Qn {s : List UInt8} (hs : s.length ≤ 2000) : D0 s = some (ent, 4) ∨ ∃ it, OkItem it ∧ Ints it ∧ 1 ≤ it.Kind ∧ it.Kind ≤ 15 ∧ msg it = s ∧ D0 s = some (it, 0) := by
  obtain ⟨k, R, h1, h2, h3, h4, h5, h6⟩ := AaX (s := s) (by omega)
  rw [h6]
  match R with
  | none => exact .inl rfl
  | some it =>
    obtain ⟨q1, q2⟩ := h5 it rfl
    have hcl := AeN s
    have hsl := Gc 43 (cut s)
    have hcnt : (cut s).count 43 ≤ (cut s).length := List.count_le_length
    have hok : OkItem it := ⟨q1.ints.kind, q1.ints.ref, q1.ints.nums, q1.text, by have := q1.parts; rw [List.length_tail] at this; omega, q1.ints.part⟩
    simp only
    rw [Kr hok, Option.bind_some]
    by_cases hk : 1 ≤ it.Kind ∧ it.Kind ≤ 15
    · rw [if_pos hk]
      by_cases hb : (msg it).length > 65536
      · rw [if_pos hb]; exact .inl rfl
      · rw [if_neg hb]
        by_cases he : msg it = s
        · refine .inr ⟨it, hok, q1.ints, hk.1, hk.2, he, ?_⟩
          rw [if_neg (by simp [he])]
        · rw [if_pos (by simp [he])]; exact .inl rfl
    · rw [if_neg hk]; exact .inl rfl
theorem M4 {it : Api_Item} (hi : OkItem it) (h : Ints it) (h1 : 1 ≤ it.Kind) (h2 : it.Kind ≤ 15) (hl : (msg it).length ≤ 65536) : D0 (msg it) = some (it, 0) := by
  obtain ⟨k, R, q1, _, _, q4, q5, q6⟩ := AaX hl
  rw [AdM, K8, List.headD_cons] at q1
  rw [AeH h1 h2] at q1
  obtain rfl := Option.some.inj q1
  rw [AdM, K8, List.tail_cons, Agi h hi.text (by have := hi.parts; omega)] at q4
  obtain rfl := Option.some.inj q4
  rw [q6]
  simp only
  rw [Kr hi, if_pos ⟨h1, h2⟩, if_neg (by omega), Option.bind_some, if_neg (by simp)]
theorem Sn {s : List UInt8} (hs : s.length ≤ 65536) (h0 : s ≠ []) : ∃ k R, Cx (fun (v : Int × Int) => Bp [(splitAtL 43 (s.take (s.length - 1))).headD []] v.1 v.2) (1, 0) = some k ∧ 0 ≤ k ∧ k ≤ 15 ∧ C2 (kit k) (splitAtL 43 (s.take (s.length - 1))).tail = some R ∧
    Rg R (splitAtL 43 (s.take (s.length - 1))).tail.length ∧ R.Kind = k ∧
    G2 s = if k = 0 then some (ent, 4) else (Dv R).bind fun y => if (!(y == s)) = true then some (ent, 4) else some (R, 0) := by
  have hp : 0 < s.length := List.length_pos_iff.2 h0
  have hcl : (s.take (s.length - 1)).length ≤ s.length := by rw [List.length_take]; omega
  have hsl := Gc 43 (s.take (s.length - 1))
  have hcnt : (s.take (s.length - 1)).count 43 ≤ (s.take (s.length - 1)).length := List.count_le_length
  have hsm : ∀ p ∈ splitAtL 43 (s.take (s.length - 1)), p.length ≤ 70000 := fun p hp => by have := Lc _ _ (Nat.le_refl _) p hp; omega
  have hw : w64 ((s.length : Int) - 1) = ((s.length - 1 : Nat) : Int) := by rw [C0 (by omega)]; omega
  unfold G2
  rw [if_neg (by simp; omega), if_neg (by simpa using h0), hw, if_pos ⟨by omega, by simp⟩]
  simp only [Int.toNat_natCast]
  rw [Nn (by omega), Option.bind_some]
  revert hsl hsm
  generalize splitAtL 43 (s.take (s.length - 1)) = L
  intro hsl hsm
  match L with
  | [] => simp at hsl
  | e0 :: L =>
    obtain ⟨k, hk1, hk2, hk3⟩ := Adf e0
    have hkI : I64 k := ⟨by omega, by omega⟩
    simp only [List.length_cons] at hsl
    obtain ⟨R, hR, hloop, hin, hkk⟩ := V3 (L := L) (e0 := e0) (it0 := kit k) (by omega) (fun e he => hsm e (by simp [he])) (Ahj hkI)
    refine ⟨k, R, hk1, hk2, hk3, hR, hin, hkk, ?_⟩
    rw [Adp, hk1, Option.bind_some, Option.bind_some]
    have hloop' := hloop
    unfold un kit ent at hloop'
    rw [hloop', Option.bind_some, Option.bind_some]
    have hkk' : R.Kind = k := hkk
    subst hkk'
    simp only
    by_cases hz : R.Kind = 0
    · rw [if_pos (by simpa using hz), if_pos hz]; rfl
    · rw [if_neg (by simpa using hz), if_neg hz, Ah8]
      cases Dv R with
      | none => rfl
      | some y => rfl
theorem Uc {s : List UInt8} (hs : s.length ≤ 2000) : G2 s = some (ent, 4) ∨ ∃ it, OkItem it ∧ Ints it ∧ 1 ≤ it.Kind ∧ it.Kind ≤ 15 ∧ msg it = s ∧ G2 s = some (it, 0) := by
  by_cases h0 : s = []
  · subst h0; exact .inl rfl
  obtain ⟨k, R, h1, h2, h3, h4, h5, h5', h6⟩ := Sn (s := s) (by omega) h0
  rw [h6]
  have hcl : (s.take (s.length - 1)).length ≤ s.length := by rw [List.length_take]; omega
  have hsl := Gc 43 (s.take (s.length - 1))
  have hcnt : (s.take (s.length - 1)).count 43 ≤ (s.take (s.length - 1)).length := List.count_le_length
  have hok : OkItem R := ⟨h5.ints.kind, h5.ints.ref, h5.ints.nums, h5.text, by have := h5.parts; rw [List.length_tail] at this; omega, h5.ints.part⟩
  by_cases hz : k = 0
  · rw [if_pos hz]; exact .inl rfl
  · rw [if_neg hz, (S9 hok (by omega) (by omega)).1, Option.bind_some]
    by_cases he : msg R = s
    · refine .inr ⟨R, hok, h5.ints, by omega, by omega, he, ?_⟩
      rw [if_neg (by simp [he])]
    · rw [if_pos (by simp [he])]; exact .inl rfl
theorem Y9 {it : Api_Item} (hi : OkItem it) (h : Ints it) (h1 : 1 ≤ it.Kind) (h2 : it.Kind ≤ 15) (hl : (msg it).length ≤ 65536) : G2 (msg it) = some (it, 0) := by
  have hne : msg it ≠ [] := by unfold msg; simp
  obtain ⟨k, R, q1, _, _, q4, _, _, q6⟩ := Sn hl hne
  have hb : (msg it).take ((msg it).length - 1) = Io it := by
    unfold msg
    rw [List.length_append, List.length_singleton, Nat.add_sub_cancel, List.take_left']
    rfl
  rw [hb, K8, List.headD_cons, Afq h1 h2] at q1
  obtain rfl := Option.some.inj q1
  rw [hb, K8, List.tail_cons, AfW h hi.text (by have := hi.parts; omega)] at q4
  obtain rfl := Option.some.inj q4
  rw [q6, if_neg (by omega), (S9 hi h1 h2).1, Option.bind_some, if_neg (by simp)]
theorem Aei (x y : Api_Part) : (!((x.Kind == y.Kind) && ((x.Serial == y.Serial) && (x.Fitted == y.Fitted)))) = decide (x ≠ y) := by
  by_cases h : x = y
  · subst h; simp
  · rw [decide_eq_true h]
    rcases x with ⟨a, b, c⟩
    rcases y with ⟨d, e, f⟩
    simp only [Api_Part.mk.injEq, not_and] at h
    simp only [Bool.not_eq_true', Bool.and_eq_false_iff, beq_eq_false_iff_ne, ne_eq]
    by_cases h1 : a = d
    · by_cases h2 : b = e
      · exact .inr (.inr (by simpa using h h1 h2))
      · exact .inr (.inl h2)
    · exact .inl h1
theorem Aco {a b : List Api_Part} (ha : a.length ≤ 1000000) : Fs a b = some (decide (a = b)) := by
  unfold Fs
  by_cases hl : a.length = b.length
  · rw [if_neg (by simp [hl])]
    obtain ⟨z, hz, hq⟩ := D8 (f := fun (v : Int) => D2 a b v) (fun v => ∃ k : Nat, v = (k : Int) ∧ k ≤ a.length ∧ a.take k = b.take k) (fun v => a.length - v.toNat)
      (fun z => match z with | .inl () => a = b | .inr (.inl ()) => False | .inr (.inr t) => t = false ∧ a ≠ b) (by
      rintro v ⟨k, rfl, hk, ht⟩
      unfold D2
      by_cases hlt : k < a.length
      · have hlb : k < b.length := by omega
        rw [if_pos (decide_eq_true (by omega)), if_pos ⟨by omega, by simpa using hlt⟩, if_pos ⟨by omega, by simpa using hlb⟩]
        simp only [lt1, Int.toNat_natCast]
        have ea : a.take (k + 1) = a.take k ++ [nth a k] := by rw [List.take_add_one, List.getElem?_eq_getElem hlt]; simp [nth, List.getElem?_eq_getElem hlt]
        have eb : b.take (k + 1) = b.take k ++ [nth b k] := by rw [List.take_add_one, List.getElem?_eq_getElem hlb]; simp [nth, List.getElem?_eq_getElem hlb]
        by_cases he : nth a k = nth b k
        · rw [if_neg (by rw [Aei]; simp [he]), Cr (by omega)]
          refine .inl ⟨_, rfl, ⟨k + 1, rfl, by omega, by rw [ea, eb, ht, he]⟩, ?_⟩
          simp only [Int.toNat_natCast]; omega
        · rw [if_pos (by rw [Aei]; simpa using he)]
          exact .inr ⟨_, rfl, rfl, fun h => he (by rw [h])⟩
      · rw [if_neg (by simpa using hlt)]
        refine .inr ⟨_, rfl, ?_⟩
        rw [List.take_of_length_le (by omega), List.take_of_length_le (by omega)] at ht
        exact ht) (v0 := 0) ⟨0, rfl, Nat.zero_le _, rfl⟩ (by simp; omega)
    rw [hz]
    rcases z with ⟨⟩ | ⟨⟨⟩ | t⟩
    · have : a = b := hq
      rw [decide_eq_true this]; rfl
    · exact hq.elim
    · obtain ⟨rfl, h2⟩ := hq
      rw [decide_eq_false h2]; rfl
  · rw [if_pos (by simp; omega), decide_eq_false (fun h => hl (by rw [h]))]
theorem AfJ {a b : Api_Item} (h : Ga a = Ga b) (hk : a.Kind = b.Kind) (hr1 : a.Ref.Railway = b.Ref.Railway) (hr2 : a.Ref.No = b.Ref.No) (ht : a.Text = b.Text) (hp : a.Parts = b.Parts) : a = b := by
  rcases a with ⟨k, ⟨r, n⟩, a1, a2, a3, a4, a5, a6, a7, a8, a9, a10, a11, t, p⟩
  rcases b with ⟨k', ⟨r', n'⟩, b1, b2, b3, b4, b5, b6, b7, b8, b9, b10, b11, t', p'⟩
  simp only [Ga, List.cons.injEq, Prod.mk.injEq, true_and, and_true] at h
  obtain ⟨rfl, rfl, rfl, rfl, rfl, rfl, rfl, rfl, rfl, rfl, rfl⟩ := h
  simp only at hk hr1 hr2 ht hp
  subst hk hr1 hr2 ht hp
  rfl
theorem AeC {a b : Api_Item} (ha : OkItem a) (hb : OkItem b) : Ez a b = some (decide (a = b)) := by
  unfold Ez
  have l11 : ∀ it : Api_Item, (Ga it).length = 11 := fun _ => rfl
  obtain ⟨z, hz, hq⟩ := D8 (f := fun (v : Int) => Hs a b v) (fun v => ∃ k : Nat, v = (k : Int) ∧ k ≤ 11 ∧ (Ga a).take k = (Ga b).take k) (fun v => 11 - v.toNat)
    (fun z => match z with | .inl () => Ga a = Ga b | .inr (.inl ()) => False | .inr (.inr t) => t = false ∧ a ≠ b) (by
    rintro v ⟨k, rfl, hk, ht⟩
    unfold Hs
    by_cases hlt : k < 11
    · obtain ⟨c, n, f1, f2, f3, f4⟩ := Uh ha hlt
      obtain ⟨c', n', g1, g2, g3, g4⟩ := Uh hb hlt
      have hc : c = c' := by
        rw [f4] at g4
        exact (List.cons.inj g4).1
      subst hc
      have f3' : Fy a (nth [119, 112, 111, 110, 102, 116, 99, 100, 107, 103, 97] k) = some n := f3
      have g3' : Fy b (nth [119, 112, 111, 110, 102, 116, 99, 100, 107, 103, 97] k) = some n' := g3
      have hin : InR (k : Int) ([119, 112, 111, 110, 102, 116, 99, 100, 107, 103, 97] : List UInt8).length := ⟨by omega, by simpa using hlt⟩
      rw [if_pos (decide_eq_true (by omega)), if_pos hin]
      simp only [Int.toNat_natCast]
      rw [f3', Option.bind_some, if_pos hin, g3', Option.bind_some]
      have ea : (Ga a).take (k + 1) = (Ga a).take k ++ [(c, n)] := by rw [List.take_add_one, f1]; rfl
      have eb : (Ga b).take (k + 1) = (Ga b).take k ++ [(c, n')] := by rw [List.take_add_one, g1]; rfl
      by_cases he : n = n'
      · rw [if_neg (by simp [he]), Cr (by omega)]
        refine .inl ⟨_, rfl, ⟨k + 1, rfl, by omega, by rw [ea, eb, ht, he]⟩, ?_⟩
        simp only [Int.toNat_natCast]; omega
      · rw [if_pos (by simpa using he)]
        refine .inr ⟨_, rfl, rfl, fun h => he ?_⟩
        rw [h, g1] at f1
        exact (Prod.mk.inj (Option.some.inj f1)).2.symm
    · rw [if_neg (by simp; omega)]
      refine .inr ⟨_, rfl, ?_⟩
      rw [List.take_of_length_le (by rw [l11]; omega), List.take_of_length_le (by rw [l11]; omega)] at ht
      exact ht) (v0 := 0) ⟨0, rfl, Nat.zero_le _, rfl⟩ (by simp)
  rw [hz]
  have hpl := ha.parts
  rcases z with ⟨⟩ | ⟨⟨⟩ | t⟩
  · have hn : Ga a = Ga b := hq
    simp only [Option.bind_some]
    by_cases h1 : a.Kind = b.Kind
    · by_cases h2 : a.Ref.Railway = b.Ref.Railway
      · by_cases h3 : a.Ref.No = b.Ref.No
        · by_cases h4 : a.Text = b.Text
          · rw [if_pos (by simpa using h1), if_pos (by simp [h2, h3]), if_pos (by simpa using h4), Aco (by omega)]
            by_cases h5 : a.Parts = b.Parts
            · rw [decide_eq_true h5, decide_eq_true (AfJ hn h1 h2 h3 h4 h5)]; rfl
            · rw [decide_eq_false h5, decide_eq_false (fun h => h5 (by rw [h]))]; rfl
          · rw [if_pos (by simpa using h1), if_pos (by simp [h2, h3]), if_neg (by simpa using h4), decide_eq_false (fun h => h4 (by rw [h]))]; rfl
        · rw [if_pos (by simpa using h1), if_neg (by simp [h3]), decide_eq_false (fun h => h3 (by rw [h]))]; rfl
      · rw [if_pos (by simpa using h1), if_neg (by simp [h2]), decide_eq_false (fun h => h2 (by rw [h]))]; rfl
    · rw [if_neg (by simpa using h1), decide_eq_false (fun h => h1 (by rw [h]))]; rfl
  · exact hq.elim
  · obtain ⟨rfl, h2⟩ := hq
    rw [decide_eq_false h2]; rfl
theorem M6 {a : Api_Item} (ha : OkItem a) : Ez a a = some true := by rw [AeC ha ha, decide_eq_true rfl]
theorem Aha : OkItem ent := ⟨ent_ints.kind, ent_ints.ref, ent_ints.nums, Nat.zero_le _, Nat.zero_le _, ent_ints.part⟩
theorem Ae7 (s : List UInt8) : Bi s = some true := by
  unfold Bi
  rw [Tj, Option.bind_some, if_neg (by simp)]
  by_cases hs : s.length ≤ 2000
  · rw [if_neg (by simp; omega)]
    rcases Qn hs with h | ⟨it, hok, hi, h1, h2, hm, h⟩
    · rcases Uc hs with h' | ⟨it, hok, hi, h1, h2, hm, h'⟩
      · rw [h, h', Option.bind_some, Option.bind_some, if_pos (by simp), M6 Aha]; rfl
      · have := M4 hok hi h1 h2 (by rw [hm]; omega)
        rw [hm, h] at this
        simp at this
    · have := Y9 hok hi h1 h2 (by rw [hm]; omega)
      rw [hm] at this
      rw [h, this, Option.bind_some, Option.bind_some, if_pos (by simp), M6 hok]; rfl
  · rw [if_pos (by simp; omega)]
theorem Ais {it : Api_Item} (hi : OkItem it) (ht : it.Text.length ≤ 2000) (hp : it.Parts.length ≤ 20) (h1 : 1 ≤ it.Kind) (h2 : it.Kind ≤ 15) : (msg it).length ≤ 65536 := by
  have q1 := Aaq ⟨it.Kind.toNat, by omega⟩
  have q2 := Zf hi.ref
  have q3 := Pn hi
  have q4 := Uw (t := it.Text)
  have q5 := Kb hi.part
  simp only at q1
  unfold msg Io
  simp only [List.length_append, List.length_singleton]
  omega
theorem Ae3 {it : Api_Item} (h : Ints it) : D9 it = some true := by
  unfold D9
  rw [Tj, Option.bind_some, if_neg (by simp), T3, Option.bind_some]
  by_cases hs : it.Text.length ≤ 2000 ∧ it.Parts.length ≤ 20
  · have hok := h.ok hs.1 hs.2
    rw [if_neg (by simp [hs]), Kr hok, Option.bind_some]
    by_cases h1 : it.Kind < 1
    · have e : (if 1 ≤ it.Kind ∧ it.Kind ≤ 15 then (if (msg it).length > 65536 then (([] : List UInt8), (2 : Int)) else (msg it, 0)) else ([], 110)) = ([], 110) := if_neg (by omega)
      rw [e, if_pos (decide_eq_true h1)]; rfl
    · by_cases h2 : it.Kind > 15
      · have e : (if 1 ≤ it.Kind ∧ it.Kind ≤ 15 then (if (msg it).length > 65536 then (([] : List UInt8), (2 : Int)) else (msg it, 0)) else ([], 110)) = ([], 110) := if_neg (by omega)
        rw [e, if_neg (by simpa using h1), Option.bind_some, decide_eq_true h2]; rfl
      · have hl := Ais hok hs.1 hs.2 (by omega) (by omega)
        have hp := M4 hok h (by omega) (by omega) hl
        have e : (if 1 ≤ it.Kind ∧ it.Kind ≤ 15 then (if (msg it).length > 65536 then (([] : List UInt8), (2 : Int)) else (msg it, 0)) else ([], 110)) = (msg it, 0) := by rw [if_pos (by omega), if_neg (by omega)]
        rw [e, if_neg (by simpa using h1), Option.bind_some, decide_eq_false h2, if_neg (by simp), hp, Option.bind_some, if_pos (by simp), if_pos (by simp), M6 hok]
        rfl
  · rw [if_pos (by simp; omega)]
theorem Ae2 (s : List UInt8) : Bw s = some true := by
  unfold Bw
  rw [Tj, Option.bind_some, if_neg (by simp)]
  by_cases hs : s.length ≤ 2000
  · rw [if_neg (by simp; omega)]
    rcases Qn hs with h | ⟨it, hok, hi, h1, h2, hm, h⟩
    · rw [h, Option.bind_some, if_pos (by simp), if_pos (by simp)]
      have := M6 Aha
      unfold ent at this ⊢
      rw [this]; rfl
    · rw [h, Option.bind_some, if_neg (by simp)]
      have hlen : s.length = (Io it).length + 1 := by rw [← hm]; simp [msg]
      obtain ⟨z, hz, rfl⟩ := Dq (f := fun (v : Int) => Bf s v) s.length (fun k v => v = (k : Int)) (fun z => z = .inl ()) (by omega) (by
        rintro k v hk rfl
        refine ⟨_, ?_, rfl⟩
        have hin : InR (k : Int) s.length := ⟨by omega, by simpa using hk⟩
        have hw : w64 ((s.length : Int) - 1) = (((Io it).length : Nat) : Int) := by rw [C0 (by omega)]; omega
        have key : ¬ (nth s k < 32) ∧ ¬ (nth s k > 126) ∧ ((nth s k == 39) = decide (k = (Io it).length)) := by
          by_cases hkl : k < (Io it).length
          · have e : nth s k = nth (Io it) k := by rw [← hm]; simp [msg, nth, List.getD, List.getElem?_append_left hkl]
            have hmem := Nt hkl
            have hp := AcM it _ hmem
            have h39 : nth (Io it) k ≠ 39 := fun h => Adk it (h ▸ hmem)
            rw [e]
            refine ⟨fun h => ?_, fun h => ?_, ?_⟩
            · have : (nth (Io it) k).toNat < 32 := h
              omega
            · have : (126 : UInt8).toNat < (nth (Io it) k).toNat := h
              have e126 : (126 : UInt8).toNat = 126 := rfl
              omega
            · rw [decide_eq_false (by omega)]; simpa using h39
          · have hke : k = (Io it).length := by omega
            have e : nth s k = 39 := by rw [← hm, hke]; simp [msg, nth, List.getD]
            rw [e, decide_eq_true hke]
            exact ⟨by decide, by decide, by decide⟩
        have hki : ((k : Int) == (((Io it).length : Nat) : Int)) = decide (k = (Io it).length) := by
          by_cases h : k = (Io it).length
          · simp [h]
          · rw [decide_eq_false h]; simp; omega
        unfold Bf
        rw [if_pos (decide_eq_true (by omega)), if_pos hin]
        simp only [Int.toNat_natCast]
        rw [if_neg (by simpa using key.1), if_pos hin, if_neg (by simpa using key.2.1), if_pos hin, hw, hki, key.2.2, Option.bind_some, if_neg (by simp), Cr (by omega)]) (by
        rintro v rfl
        refine ⟨_, ?_, rfl⟩
        unfold Bf
        rw [if_neg (by simp)]) (v0 := 0) rfl
      rw [hz]
      simp only [Option.bind_some]
      rw [Kr hok, if_pos ⟨h1, h2⟩, if_neg (by rw [hm]; omega), Option.bind_some, if_pos (by simp), hm]
      simp
  · rw [if_pos (by simp; omega)]
theorem AbT {s : List UInt8} (_ : s.length ≤ maxLen) : Bi s = some true := Ae7 s
theorem Acx {s : List UInt8} (_ : s.length ≤ maxLen) : Bw s = some true := Ae2 s
set_option maxRecDepth 20000
theorem G5 {b r} (h : Bw b = some r) : Con B 7 [.str b] [] (fun r' σ' => r' = .bool r ∧ σ' = []) := by
  refine Cw 67 [.tmp 2] Tryz.func7 (fun F hE => ?_) h
  unfold Bw
  refine T0 [0] ?_
  refine Sq ?_
  refine Bd fun x p => ?_
  refine Te [0, 9] (o1 8 (Gu p)) Ev ?_
  refine Cd ?_ ?_
  · refine T0 [2] ?_
    exact Sr <|Tr <|Rr
  · refine Sk <|Tn <|Sq <|T0 [0, 12] ?_
    refine Cd ?_ ?_
    · refine T0 [2] ?_
      exact Sr <|Tr <|Rr
    · refine Sk <|Tn <|?_
      refine Bd fun a q => ?_
      refine Te [0, 3, 4] (o1 15 (Fm q)) Ev ?_
      refine Sq <|T0 [0, 3, 4, 19] ?_
      refine Cd ?_ ?_
      · refine Tw [2] (fun j => ⟨Ao 67 [(2, .bool j)], []⟩) ?_ ?_
        · intro _
          refine Sp (fun e => ?_) fun e => ?_
          · refine Bd fun y s => ?_
            exact Lf (o1 25 (Du s)) (Ev (by simp only [go_sem, e]; exact Ac)) (ws [])
          · exact Lf Aa (Ev (by simp only [go_sem, e]; exact Ac)) (ws [])
        intro j
        exact Sr <|Tr <|Rr
      · refine Sk <|Tn <|?_
        refine Jo (fun _ => ⟨Ao 67 [(0, .str b), (3, .ref 0 0)], [.box [i64 a.1.Kind, i64 a.1.Ref.Railway, i64 a.1.Ref.No, i64 a.1.Wagon, i64 a.1.Place, i64 a.1.Other, i64 a.1.Number, i64 a.1.From, i64 a.1.To, i64 a.1.Code, i64 a.1.Dest, i64 a.1.Class, i64 a.1.Weight, i64 a.1.Amount, .str a.1.Text, .sl false (L Ab a.1.Parts)] false]⟩) ?_ ?_
        · intro z t
          refine T0 [0, 3, 5] ?_
          refine Sb ?_
          refine Lo (fun c => ⟨Ao 67 [(0, .str b), (3, .ref 0 0), (5, i64 c)], [.box [i64 a.1.Kind, i64 a.1.Ref.Railway, i64 a.1.Ref.No, i64 a.1.Wagon, i64 a.1.Place, i64 a.1.Other, i64 a.1.Number, i64 a.1.From, i64 a.1.To, i64 a.1.Code, i64 a.1.Dest, i64 a.1.Class, i64 a.1.Weight, i64 a.1.Amount, .str a.1.Text, .sl false (L Ab a.1.Parts)] false]⟩) (ws [0]) ?_
          rintro c aa u k l
          show Bf b c = some u → _
          unfold Bf
          refine Sq <|T0 [0, 3, 5, 30] ?_
          refine Cd ?_ ?_
          · refine Sk <|Tn <|Sq <|Sb <|?_
            refine Tw [0, 3, 5, 54] (fun m => ⟨Ao 67 [(0, .str b), (3, .ref 0 0), (5, i64 c), (54, .bool m)], [.box [i64 a.1.Kind, i64 a.1.Ref.Railway, i64 a.1.Ref.No, i64 a.1.Wagon, i64 a.1.Place, i64 a.1.Other, i64 a.1.Number, i64 a.1.From, i64 a.1.To, i64 a.1.Code, i64 a.1.Dest, i64 a.1.Class, i64 a.1.Weight, i64 a.1.Amount, .str a.1.Text, .sl false (L Ab a.1.Parts)] false]⟩) ?_ ?_
            · intro _
              refine Ck fun f => ?_
              refine Sp (fun d => ?_) fun d => ?_
              · exact Lf Aa (Ev (by simp only [go_sem, qR f, d]; exact Ac)) (ws [0])
              · refine Ck fun n => ?_
                refine Sp (fun g => ?_) fun g => ?_
                · exact Lf Aa (Ev (by simp only [go_sem, qR f, d, qR n, g]; exact Ac)) (ws [0])
                · refine Ck fun v => ?_
                  exact Lf Aa (Ev (by simp only [go_sem, qR f, d, qR n, g, qR v]; exact Ac)) (ws [0])
            intro m
            refine Cd ?_ ?_
            · refine T0 [2] ?_
              exact Sr <|Br <|Tr <|Lr l k <|Br <|Jr t <|Rr
            · refine Sk <|Bn <|Tn <|F0 [0, 3, 5] ?_
              exact Ln (ws [0])
          · refine Sx <|Tx <|Lx l k <|Bx <|?_
            exact Jn ((ws (l' := [(0, .str b), (3, .ref 0 0)]) (σ' := [.box [i64 a.1.Kind, i64 a.1.Ref.Railway, i64 a.1.Ref.No, i64 a.1.Wagon, i64 a.1.Place, i64 a.1.Other, i64 a.1.Number, i64 a.1.From, i64 a.1.To, i64 a.1.Code, i64 a.1.Dest, i64 a.1.Class, i64 a.1.Weight, i64 a.1.Amount, .str a.1.Text, .sl false (L Ab a.1.Parts)] false]) [0]).trans (ws [0]))
        intro _
        refine Bd fun ab w => ?_
        refine Te [0, 6, 7] (o1 57 (Df w)) Ev ?_
        refine Tw [2] (fun o => ⟨Ao 67 [(2, .bool o)], []⟩) ?_ ?_
        · intro _
          refine Sp (fun i => ?_) fun i => ?_
          · exact Lf Aa (Ev (by simp only [go_sem, i]; exact Ac)) (ws [])
          · exact Lf Aa (Ev (by simp only [go_sem, i]; exact Ac)) (ws [])
        intro o
        exact Sr <|Rr
theorem M7 {a b r} (h : Gs a b = some r) : Con B 8 [.agg [i64 a.Kind, i64 a.Ref.Railway, i64 a.Ref.No, i64 a.Wagon, i64 a.Place, i64 a.Other, i64 a.Number, i64 a.From, i64 a.To, i64 a.Code, i64 a.Dest, i64 a.Class, i64 a.Weight, i64 a.Amount, .str a.Text, .sl false (L Ab a.Parts)], .agg [i64 b.Kind, i64 b.Ref.Railway, i64 b.Ref.No, i64 b.Wagon, i64 b.Place, i64 b.Other, i64 b.Number, i64 b.From, i64 b.To, i64 b.Code, i64 b.Dest, i64 b.Class, i64 b.Weight, i64 b.Amount, .str b.Text, .sl false (L Ab b.Parts)]] [] (fun r' σ' => r' = .bool r ∧ σ' = []) := by
  refine Cw 54 [.tmp 4] Tryz.func8 (fun F hE => ?_) h
  unfold Gs
  refine T0 [2, 3] ?_
  refine Sq ?_
  refine Bd fun t j => ?_
  refine Te [2, 3, 11] (o1 10 (Gu j)) Ev ?_
  refine Cd ?_ ?_
  · refine T0 [4] ?_
    exact Sr <|Tr <|Rr
  · refine Sk <|Tn <|Sq <|?_
    refine Tw [2, 3, 19] (fun f => ⟨Ao 54 [(2, .ref 0 0), (3, .ref 1 0), (19, .bool f)], [.box [i64 a.Kind, i64 a.Ref.Railway, i64 a.Ref.No, i64 a.Wagon, i64 a.Place, i64 a.Other, i64 a.Number, i64 a.From, i64 a.To, i64 a.Code, i64 a.Dest, i64 a.Class, i64 a.Weight, i64 a.Amount, .str a.Text, .sl false (L Ab a.Parts)] false, .box [i64 b.Kind, i64 b.Ref.Railway, i64 b.Ref.No, i64 b.Wagon, i64 b.Place, i64 b.Other, i64 b.Number, i64 b.From, i64 b.To, i64 b.Code, i64 b.Dest, i64 b.Class, i64 b.Weight, i64 b.Amount, .str b.Text, .sl false (L Ab b.Parts)] false]⟩) ?_ ?_
    · intro _
      refine Bd fun u g => ?_
      refine Sp (fun d => ?_) fun d => ?_
      · exact Lf (o1 13 (Fv g)) (Ev (by simp only [go_sem, d]; exact Ac)) (ws [0, 1])
      · refine Bd fun v k => ?_
        exact Lf (o2 13 (Fv g) 17 (Fv k)) (Ev (by simp only [go_sem, d]; exact Ac)) (ws [0, 1])
    intro f
    refine Cd ?_ ?_
    · refine T0 [4] ?_
      exact Sr <|Tr <|Rr
    · refine Sk <|Tn <|?_
      refine Bd fun w m => ?_
      refine Te [2, 3, 5] (o1 22 (Du m)) Ev ?_
      refine Bd fun x n => ?_
      refine Te [2, 3, 5, 6, 7] (o1 25 (Df n)) Ev ?_
      refine Bd fun y o => ?_
      refine Te [2, 3, 5, 6, 7, 8, 9] (o1 30 (Df o)) Ev ?_
      refine Sq ?_
      refine Bd fun z p => ?_
      refine Bd fun aa q => ?_
      refine Bd fun ab s => ?_
      refine De [[], [0], [], [0, 1, 2], [0, 1, 2, 3], [0, 1, 2, 3, 4], [], [0, 1, 2, 3, 4, 5, 6]] [5, 6, 7, 8, 9, 40] (Gp (l := [(34, _, _, _), (36, _, _, _), (37, _, _, _)]) ⟨Hg  p, Hg  q, Dr  s, trivial⟩) Ev ?_
      refine Cd ?_ ?_
      · refine T0 [4] ?_
        exact Sr <|Tr <|Rr
      · refine Sk <|Tn <|?_
        refine Tw [4] (fun i => ⟨Ao 54 [(4, .bool i)], []⟩) ?_ ?_
        · intro _
          refine Sp (fun c => ?_) fun c => ?_
          · exact Lf Aa (Ev (by simp only [go_sem, c]; exact Ac)) (ws [])
          · refine Sp (fun e => ?_) fun e => ?_
            · exact Lf Aa (Ev (by simp only [go_sem, c, e]; exact Ac)) (ws [])
            · exact Lf Aa (Ev (by simp only [go_sem, c, e]; exact Ac)) (ws [])
        intro i
        exact Sr <|Rr
end Go.Proofs.YtnfoiocigicdnaaGreatDoor
namespace Go.Proofs.YtnfoiocigicdnaaGreatDoor.Kc
open Go.Rv
set_option linter.unusedVariables false
set_option linter.unusedSimpArgs false
theorem Iw {α β : Type} {o : Option α} {a : α} {f : α → Option β} (h : o = some a) : o.bind f = f a := by rw [h]; rfl
theorem AjO {k : Nat} (h : k < 9223372036854775807) : w64 ((k : Int) + 1) = ((k + 1 : Nat) : Int) := by
  rw [C0 (by omega)]; rfl
theorem Xl (x : Api_Value) : Api_Value.mk x.Kind x.N x.B x.L = x := by cases x; rfl
mutual
def szV : Api_Value → Nat
  | .mk _ _ b l => b.length + 1 + szVs l
def szVs : List Api_Value → Nat
  | [] => 0
  | x :: l => szV x + szVs l
end
theorem Aiu (x : Api_Value) : 0 < szV x := by
  cases x with
  | mk k n b l => simp only [szV]; omega
theorem AaK {l : List Api_Value} {x : Api_Value} (h : x ∈ l) : szV x ≤ szVs l := by
  induction l with
  | nil => cases h
  | cons y l ih =>
    simp only [szVs]
    rcases List.mem_cons.1 h with rfl | h
    · omega
    · have := ih h; omega
theorem AfU (l : List Api_Value) : l.length ≤ szVs l := by
  induction l with
  | nil => simp [szVs]
  | cons y l ih =>
    have := Aiu y
    simp only [szVs, List.length_cons]; omega
theorem Ajy (x : Api_Value) : szV x = x.B.length + 1 + szVs x.L := by
  cases x with
  | mk k n b l => rfl
def nbF : Nat → Nat → Nat
  | 0, _ => 0
  | f + 1, u => if u = 0 then 0 else nbF f (u / 256) + 1
def nb (u : Nat) : Nat := nbF 8 u
theorem AjP (f u : Nat) : nbF f u ≤ f := by
  induction f generalizing u with
  | zero => exact Nat.le_refl _
  | succ f ih =>
    unfold nbF
    split
    · omega
    · have := ih (u / 256); omega
theorem Apr (u : Nat) : nb u ≤ 8 := AjP 8 u
def nbI (n : Int) : Nat := if n < 0 then nb (~~~(UInt64.ofInt n)).toNat else nb (UInt64.ofInt n).toNat
def tagI (n : Int) : UInt8 := if n < 0 then UInt8.ofInt (31 - (nbI n : Int)) else UInt8.ofInt (32 + (nbI n : Int))
def Ank (n : Int) (k i : Nat) : UInt8 := (AnN (UInt64.ofInt n) (8 * (k - 1 - i))).toUInt8
def AnU (n : Int) : List UInt8 := tagI n :: (List.range (nbI n)).map (Ank n (nbI n))
theorem Alg (n : Int) : nbI n ≤ 8 := by unfold nbI; split <;> exact Apr _
theorem AgW (n : Int) : (AnU n).length = nbI n + 1 := by simp [AnU]
mutual
def AgZ : Api_Value → Int × Bool
  | .mk k n b l =>
    if k = 1 then (0, b.length == 0 && l.length == 0)
    else if k = 2 then (0, n == 0 && l.length == 0)
    else if k = 3 then (if n = 0 ∧ b.length = 0 then Aju 0 l else (0, false))
    else (0, false)
def Aju (d : Int) : List Api_Value → Int × Bool
  | [] => (d + 1, true)
  | x :: l => if (AgZ x).2 = true then Aju (Ajt d (AgZ x).1) l else (0, false)
end
mutual
theorem Ait : ∀ v : Api_Value, 0 ≤ (AgZ v).1 ∧ (AgZ v).1 ≤ szV v
  | .mk k n b l => by
    have h := AeX 0 l
    unfold AgZ szV
    split
    · simp; omega
    · split
      · simp; omega
      · split
        · split
          · omega
          · simp; omega
        · simp; omega
theorem AeX : ∀ (d : Int) (l : List Api_Value), 0 ≤ d → 0 ≤ (Aju d l).1 ∧ (Aju d l).1 ≤ max d (szVs l) + 1
  | d, [] => by intro h; simp [Aju, szVs]; omega
  | d, x :: l => by
    intro h
    have h1 := Ait x
    have hm : 0 ≤ Ajt d (AgZ x).1 ∧ Ajt d (AgZ x).1 ≤ max d (szV x) := by unfold Ajt; split <;> omega
    have h2 := AeX (Ajt d (AgZ x).1) l hm.1
    unfold Aju szVs
    split
    · omega
    · simp; omega
end
theorem Nt {l : List Api_Value} {k : Nat} (h : k < l.length) : nth l k = l[k] := by simp [nth, List.getD_eq_getElem?_getD, h]
def Ri : List UInt8 → List UInt8
  | [] => []
  | c :: l => if c = 0 then 0 :: 255 :: Ri l else c :: Ri l
theorem Ud (a : List UInt8) : (Ri a).length ≤ 2 * a.length := by
  induction a with
  | nil => simp [Ri]
  | cons c a ih => simp only [Ri]; split <;> simp only [List.length_cons] <;> omega
mutual
def An5 : Api_Value → List UInt8
  | .mk k n b l => if k = 1 then AnU n else if k = 2 then 48 :: (Ri b ++ [0, 0]) else 64 :: (Al0 l ++ [0])
def Al0 : List Api_Value → List UInt8
  | [] => []
  | x :: l => An5 x ++ Al0 l
end
mutual
theorem AfL : ∀ v : Api_Value, (An5 v).length ≤ 9 * szV v
  | .mk k n b l => by
    have h := Aa5 l
    have h1 := AgW n
    have h2 := Alg n
    have h3 := Ud b
    unfold An5 szV
    split
    · omega
    · split
      · simp only [List.length_cons, List.length_append, List.length_nil]; omega
      · simp only [List.length_cons, List.length_append, List.length_nil]; omega
theorem Aa5 : ∀ l : List Api_Value, (Al0 l).length ≤ 9 * szVs l
  | [] => by simp [Al0]
  | x :: l => by
    have h1 := AfL x
    have h2 := Aa5 l
    unfold Al0 szVs
    simp only [List.length_append]; omega
end
def R2 (a b : Int) : Int := if a < b then -1 else if b < a then 1 else 0
def cmpB : List UInt8 → List UInt8 → Int
  | [], [] => 0
  | [], _ :: _ => -1
  | _ :: _, [] => 1
  | x :: l, y :: m => if x = y then cmpB l m else if x < y then -1 else 1
mutual
def cmpV : Api_Value → Api_Value → Int
  | .mk k n b l, w => if k ≠ w.Kind then R2 k w.Kind else if k = 1 then R2 n w.N else if k = 2 then cmpB b w.B else if k = 3 then cmpL l w.L else 0
def cmpL : List Api_Value → List Api_Value → Int
  | [], [] => 0
  | [], _ :: _ => -1
  | _ :: _, [] => 1
  | x :: l, y :: m => if cmpV x y ≠ 0 then cmpV x y else cmpL l m
end
theorem cmpV_eq (v w : Api_Value) : cmpV v w = if v.Kind ≠ w.Kind then R2 v.Kind w.Kind else if v.Kind = 1 then R2 v.N w.N else if v.Kind = 2 then cmpB v.B w.B else if v.Kind = 3 then cmpL v.L w.L else 0 := by
  cases v with
  | mk k n b l => rw [cmpV]; rfl
theorem Sm {α : Type} [Inhabited α] {l : List α} {k : Nat} (h : k < l.length) : nth l k = l[k] := by simp [nth, List.getD_eq_getElem?_getD, h]
theorem AdY {a b : List UInt8} {k : Nat} (ha : k < a.length) (hb : k < b.length) : cmpB (a.drop k) (b.drop k) = if nth a k = nth b k then cmpB (a.drop (k + 1)) (b.drop (k + 1)) else if nth a k < nth b k then -1 else 1 := by
  rw [List.drop_eq_getElem_cons ha, List.drop_eq_getElem_cons hb, Sm ha, Sm hb, cmpB]
theorem AgK {a b : List UInt8} {k : Nat} (hk : k ≤ a.length) (hk' : k ≤ b.length) (h : ¬ (k < a.length ∧ k < b.length)) : cmpB (a.drop k) (b.drop k) = R2 (a.length : Int) (b.length : Int) := by
  unfold R2
  rcases Nat.lt_trichotomy a.length b.length with hl | hl | hl
  · have hka : k = a.length := by omega
    rw [if_pos (by omega), hka, List.drop_length, List.drop_eq_getElem_cons (by omega)]
    rfl
  · have hka : k = a.length := by omega
    rw [if_neg (by omega), if_neg (by omega), hka, List.drop_length, hl, List.drop_length]
    rfl
  · have hkb : k = b.length := by omega
    rw [if_neg (by omega), if_pos (by omega), hkb, List.drop_length, List.drop_eq_getElem_cons (by omega)]
    rfl
theorem Abr {l : List UInt8} {i : Nat} (h : i < l.length) : (⟨l.toArray⟩ : ByteArray)[i]! = nth l i := by
  rw [Sm h]
  have h2 : i < (⟨l.toArray⟩ : ByteArray).size := by simpa [ByteArray.size] using h
  rw [getElem!_pos (⟨l.toArray⟩ : ByteArray) i h2]
  show l.toArray[i] = _
  simp
theorem AaB (a b : List UInt8) : ∀ (m k : Nat), k + m = min a.length b.length →
    (match (List.range' k m).find? fun i => (⟨a.toArray⟩ : ByteArray)[i]! != (⟨b.toArray⟩ : ByteArray)[i]! with
      | some i => if (⟨a.toArray⟩ : ByteArray)[i]! < (⟨b.toArray⟩ : ByteArray)[i]! then -1 else 1
      | none => if (⟨a.toArray⟩ : ByteArray).size < (⟨b.toArray⟩ : ByteArray).size then (-1 : Int) else if (⟨a.toArray⟩ : ByteArray).size > (⟨b.toArray⟩ : ByteArray).size then 1 else 0) = cmpB (a.drop k) (b.drop k)
  | 0, k, h => by
    rw [List.range'_zero, List.find?_nil, AgK (by omega) (by omega) (by omega)]
    have e : ∀ l : List UInt8, (⟨l.toArray⟩ : ByteArray).size = l.length := fun l => by simp [ByteArray.size]
    simp only [e, R2, Int.ofNat_lt, gt_iff_lt]
  | m + 1, k, h => by
    have ha : k < a.length := by omega
    have hb : k < b.length := by omega
    rw [List.range'_succ, List.find?_cons, AdY ha hb, Abr ha, Abr hb]
    by_cases he : nth a k = nth b k
    · have : (nth a k != nth b k) = false := by simp [he]
      rw [this, if_pos he]
      exact AaB a b m (k + 1) (by omega)
    · have : (nth a k != nth b k) = true := by simp [he]
      rw [this, if_neg he]
      show (if (⟨a.toArray⟩ : ByteArray)[k]! < (⟨b.toArray⟩ : ByteArray)[k]! then (-1 : Int) else 1) = _
      rw [Abr ha, Abr hb]
theorem Zt (a b : List UInt8) : Pg a b = cmpB a b := by
  have h := AaB a b (min a.length b.length) 0 (by omega)
  rw [← List.range_eq_range'] at h
  unfold Pg Extern.BytealgCompare.cmp
  have e : ∀ l : List UInt8, (⟨l.toArray⟩ : ByteArray).size = l.length := fun l => by simp [ByteArray.size]
  rw [e, e]
  rw [e, e] at h
  exact h
theorem Qb (a b : List UInt8) : Fq a b = some (cmpB a b) := by
  unfold Fq Hx Re
  rw [Zt]; rfl
theorem Wh (a b : Int) : D4 a b = some (R2 a b) := by
  unfold D4 F8 R2
  by_cases h : a < b
  · simp [h]
  · by_cases h2 : b < a <;> simp [h, h2]
theorem AeV {a b : List Api_Value} {k : Nat} (ha : k < a.length) (hb : k < b.length) : cmpL (a.drop k) (b.drop k) = if cmpV (nth a k) (nth b k) ≠ 0 then cmpV (nth a k) (nth b k) else cmpL (a.drop (k + 1)) (b.drop (k + 1)) := by
  rw [List.drop_eq_getElem_cons ha, List.drop_eq_getElem_cons hb, Sm ha, Sm hb, cmpL]
theorem Abk {a b : List Api_Value} {k : Nat} (hk : k ≤ a.length) (hk' : k ≤ b.length) (h : ¬ (k < a.length ∧ k < b.length)) : cmpL (a.drop k) (b.drop k) = R2 (a.length : Int) (b.length : Int) := by
  unfold R2
  rcases Nat.lt_trichotomy a.length b.length with hl | hl | hl
  · have hka : k = a.length := by omega
    rw [if_pos (by omega), hka, List.drop_length, List.drop_eq_getElem_cons (by omega), cmpL]
  · have hka : k = a.length := by omega
    rw [if_neg (by omega), if_neg (by omega), hka, List.drop_length, hl, List.drop_length, cmpL]
  · have hkb : k = b.length := by omega
    rw [if_neg (by omega), if_pos (by omega), hkb, List.drop_length, List.drop_eq_getElem_cons (by omega), cmpL]
theorem R5 (a b : List Api_Value) (f : Api_Value → Api_Value → Option Int) (hf : ∀ x ∈ a, ∀ y, f x y = some (cmpV x y)) (ha : a.length ≤ 9223372036854775807) : Cj f a b f = some (cmpL a b) := by
  have key : ∃ x, Cx (fun (v : Int) => Bq a b f v) 0 = some x ∧ ((x = .inl () ∧ a.length ≤ b.length ∧ cmpL a b = R2 (a.length : Int) (b.length : Int)) ∨ (x = .inr (.inr (cmpL a b)))) := by
    refine D8 (f := fun (v : Int) => Bq a b f v) (fun i => ∃ k : Nat, i = (k : Int) ∧ k ≤ a.length ∧ k ≤ b.length ∧ cmpL a b = cmpL (a.drop k) (b.drop k)) (fun i => a.length - i.toNat) _ ?_ ⟨0, rfl, by simp, by simp, rfl⟩ (by omega)
    rintro _ ⟨k, rfl, hka, hkb, he⟩
    show _ ∨ _
    unfold Bq
    by_cases h1 : k < a.length
    · have r1 : InR (k : Int) a.length := ⟨by omega, by omega⟩
      rw [if_pos (by simp; omega), if_pos r1]
      simp only [lt1, Int.toNat_natCast]
      by_cases h2 : k < b.length
      · have r2 : InR (k : Int) b.length := ⟨by omega, by omega⟩
        rw [if_neg (by simp; omega), if_pos r2]
        rw [Xl, Xl, hf _ (by rw [Sm h1]; exact List.getElem_mem h1)]
        rw [AeV h1 h2] at he
        by_cases hz : cmpV (nth a k) (nth b k) = 0
        · left
          rw [if_neg (by simpa using hz)] at he
          refine ⟨_, (Iw rfl).trans ?_, ⟨k + 1, rfl, by omega, by omega, he⟩, ?_⟩
          · rw [if_neg (by simp [hz]), AjO (by omega)]
          · simp only [Int.toNat_natCast]; omega
        · right
          rw [if_pos hz] at he
          refine ⟨_, (Iw rfl).trans ?_, .inr rfl⟩
          rw [if_pos (by simpa using hz), he]; rfl
      · right
        rw [if_pos (by simp; omega)]
        refine ⟨_, rfl, .inr ?_⟩
        rw [he, Abk hka hkb (by omega)]
        unfold R2
        rw [if_neg (by omega), if_pos (by omega)]
    · right
      rw [if_neg (by simp; omega)]
      exact ⟨_, rfl, .inl ⟨rfl, by omega, by rw [he]; exact Abk hka hkb (by omega)⟩⟩
  obtain ⟨x, hx, hq⟩ := key
  unfold Cj
  rcases hq with ⟨rfl, hl, he⟩ | rfl
  · refine (Iw (a := .inl ()) ((Iw hx).trans rfl)).trans ?_
    rw [he]
    unfold R2
    by_cases h : (a.length : Int) < (b.length : Int)
    · simp [h]
    · have : ¬ (b.length : Int) < (a.length : Int) := by omega
      simp [h, this]
  · exact (Iw (a := .inr (cmpL a b)) ((Iw hx).trans rfl)).trans rfl
theorem Wc : ∀ (n : Nat) (a b : Api_Value), szV a < n → szV a ≤ 1099511627776 → Ee n a b = some (cmpV a b)
  | 0, a, b, h, _ => absurd h (Nat.not_lt_zero _)
  | n + 1, a, b, h, hs => by
    show Eh (Ee n) a b = _
    have hsz := Ajy a
    have hlen := AfU a.L
    unfold Eh
    rw [cmpV_eq]
    refine (Iw (Wh _ _)).trans ?_
    by_cases hk : a.Kind = b.Kind
    · have hz : R2 a.Kind b.Kind = 0 := by unfold R2; simp [hk]
      rw [if_neg (show ¬ (R2 a.Kind b.Kind != 0) = true by simp [hz]), if_neg (show ¬ (a.Kind ≠ b.Kind) by simpa using hk)]
      by_cases h1 : a.Kind = 1
      · rw [if_pos (show (a.Kind == 1) = true by simp [h1]), if_pos h1]; exact Iw (Wh _ _)
      · rw [if_neg (show ¬ (a.Kind == 1) = true by simp [h1]), if_neg h1]
        by_cases h2 : a.Kind = 2
        · rw [if_pos (show (a.Kind == 2) = true by simp [h2]), if_pos h2]; exact Iw (Qb _ _)
        · rw [if_neg (show ¬ (a.Kind == 2) = true by simp [h2]), if_neg h2]
          by_cases h3 : a.Kind = 3
          · rw [if_pos (show (a.Kind == 3) = true by simp [h3]), if_pos h3]
            exact Iw (R5 _ _ _ (fun x hx y => Wc n x y (by have := AaK hx; omega) (by have := AaK hx; omega)) (by omega))
          · rw [if_neg (show ¬ (a.Kind == 3) = true by simp [h3]), if_neg h3]
    · have hz : R2 a.Kind b.Kind ≠ 0 := by
        unfold R2
        rcases Int.lt_trichotomy a.Kind b.Kind with h | h | h
        · rw [if_pos h]; decide
        · exact (hk h).elim
        · rw [if_neg (by omega), if_pos h]; decide
      rw [if_pos (show (R2 a.Kind b.Kind != 0) = true by simpa using hz), if_pos (show a.Kind ≠ b.Kind from hk)]
theorem compare_eq (a b : Api_Value) (h : szV a ≤ 100000000000) : Fg a b = some (cmpV a b) := Wc _ a b (by omega) (by omega)
theorem cmpI_zero {a b : Int} : R2 a b = 0 ↔ a = b := by
  unfold R2
  by_cases h : a < b
  · rw [if_pos h]; constructor
    · intro h; cases h
    · intro h; omega
  · rw [if_neg h]
    by_cases h2 : b < a
    · rw [if_pos h2]; constructor
      · intro h; cases h
      · intro h; omega
    · rw [if_neg h2]; constructor <;> intros <;> omega
end Go.Proofs.YtnfoiocigicdnaaGreatDoor.Kc
namespace Go.Proofs.YtnfoiocigicdnaaGreatDoor
open Go.Rv
set_option linter.unusedVariables false
set_option maxRecDepth 100000
theorem cI {x y : Int} : Kc.cmpV (iV x) (iV y) = 0 ↔ x = y := by
  rw [Kc.cmpV_eq, if_neg (by simp [iV, Api_Value.Kind]), if_pos (by simp [iV, Api_Value.Kind]), Kc.cmpI_zero]
  exact Iff.rfl
theorem AdF : ∀ {s t : List UInt8}, Kc.cmpB s t = 0 ↔ s = t
  | [], [] => by simp [Kc.cmpB]
  | [], _ :: _ => by simp [Kc.cmpB]
  | _ :: _, [] => by simp [Kc.cmpB]
  | x :: s, y :: t => by
    rw [Kc.cmpB]
    by_cases h : x = y
    · rw [if_pos h, AdF (s := s) (t := t), h]; simp
    · rw [if_neg h]
      constructor
      · intro h2; split at h2 <;> simp at h2
      · intro h2; exact absurd (List.cons.inj h2).1 h
theorem cT {s t : List UInt8} : Kc.cmpV (tV s) (tV t) = 0 ↔ s = t := by
  rw [Kc.cmpV_eq, if_neg (by simp [tV, Api_Value.Kind]), if_neg (by simp [tV, Api_Value.Kind]), if_pos (by simp [tV, Api_Value.Kind])]
  exact AdF
theorem cL {l m : List Api_Value} : Kc.cmpV (lV l) (lV m) = 0 ↔ Kc.cmpL l m = 0 := by
  rw [Kc.cmpV_eq, if_neg (by simp [lV, Api_Value.Kind]), if_neg (by simp [lV, Api_Value.Kind]), if_neg (by simp [lV, Api_Value.Kind]), if_pos (by simp [lV, Api_Value.Kind])]
  exact Iff.rfl
theorem Qf {x y : Api_Value} {l m : List Api_Value} : Kc.cmpL (x :: l) (y :: m) = 0 ↔ Kc.cmpV x y = 0 ∧ Kc.cmpL l m = 0 := by
  rw [Kc.cmpL]
  by_cases h : Kc.cmpV x y = 0
  · rw [if_neg (by simpa using h)]; simp [h]
  · rw [if_pos h]; simp [h]
theorem Ag5 : Kc.cmpL [] [] = 0 ↔ True := by simp [Kc.cmpL]
theorem cP {x y : Api_Part} : Kc.cmpV (Q4 x) (Q4 y) = 0 ↔ x = y := by
  rcases x with ⟨a, b, c⟩
  rcases y with ⟨d, e, f⟩
  unfold Q4
  rw [cL, Qf, Qf, Qf, Ag5, cI, cI, cI]
  simp only [Api_Part.mk.injEq, and_true]
  cases c <;> cases f <;> simp
theorem cPs : ∀ {ps qs : List Api_Part}, Kc.cmpL (ps.map Q4) (qs.map Q4) = 0 ↔ ps = qs
  | [], [] => by simp [Kc.cmpL]
  | [], _ :: _ => by simp [Kc.cmpL]
  | _ :: _, [] => by simp [Kc.cmpL]
  | x :: ps, y :: qs => by
    rw [List.map_cons, List.map_cons, Qf, cP, cPs (ps := ps) (qs := qs), List.cons.injEq]
theorem val_zero {a b : Api_Item} : Kc.cmpV (val a) (val b) = 0 ↔ a = b := by
  rcases a with ⟨k, ⟨r, n⟩, a1, a2, a3, a4, a5, a6, a7, a8, a9, a10, a11, t, p⟩
  rcases b with ⟨k', ⟨r', n'⟩, b1, b2, b3, b4, b5, b6, b7, b8, b9, b10, b11, t', p'⟩
  unfold val AiF
  rw [cL]
  simp only [List.cons_append, List.nil_append, Qf, Ag5, cI, cT, cL, cPs, and_true, Api_Item.mk.injEq, Api_Ref.mk.injEq, and_assoc]
theorem Abs : ∀ ps : List Api_Part, Kc.szVs (ps.map Q4) = 4 * ps.length
  | [] => rfl
  | x :: ps => by
    rw [List.map_cons, Kc.szVs, Abs ps]
    simp only [Q4, lV, iV, Kc.szV, Kc.szVs, List.length_nil, List.length_cons]
    omega
theorem AkQ (it : Api_Item) : Kc.szV (val it) = 18 + it.Text.length + 4 * it.Parts.length := by
  unfold val AiF
  simp only [lV, iV, tV, List.cons_append, List.nil_append, Kc.szV, Kc.szVs, List.length_nil, Abs]
  omega
theorem Qe {it : Api_Item} (hi : OkItem it) : ∃ y, B6 it = some y ∧ (y.2 = 0 → 1 ≤ it.Kind ∧ it.Kind ≤ 15 ∧ (msg it).length ≤ 65536 ∧ y.1 = msg it) := by
  rw [Kr hi]
  refine ⟨_, rfl, ?_⟩
  by_cases hk : 1 ≤ it.Kind ∧ it.Kind ≤ 15
  · rw [if_pos hk]
    by_cases hb : (msg it).length > 65536
    · rw [if_pos hb]; intro h; cases h
    · rw [if_neg hb]; intro _; exact ⟨hk.1, hk.2, by omega, rfl⟩
  · rw [if_neg hk]; intro h; cases h
theorem AiH {a b : Api_Item} (ha : OkItem a) (hia : Ints a) (hb : OkItem b) (hib : Ints b) (a1 : 1 ≤ a.Kind) (a2 : a.Kind ≤ 15) (a3 : (msg a).length ≤ 65536) (b1 : 1 ≤ b.Kind) (b2 : b.Kind ≤ 15) (b3 : (msg b).length ≤ 65536) (h : msg a = msg b) : a = b := by
  have h1 := M4 ha hia a1 a2 a3
  have h2 := M4 hb hib b1 b2 b3
  rw [h, h2] at h1
  exact (Prod.mk.inj (Option.some.inj h1)).1.symm
theorem Aev {a b : Api_Item} (ha : Ints a) (hb : Ints b) : Gs a b = some true := by
  unfold Gs
  rw [Tj, Option.bind_some, if_neg (by simp), T3, T3, Option.bind_some]
  by_cases hsa : a.Text.length ≤ 2000 ∧ a.Parts.length ≤ 20
  · by_cases hsb : b.Text.length ≤ 2000 ∧ b.Parts.length ≤ 20
    · have hoa := ha.ok hsa.1 hsa.2
      have hob := hb.ok hsb.1 hsb.2
      obtain ⟨ya, fa, qa⟩ := Qe hoa
      obtain ⟨yb, fb, qb⟩ := Qe hob
      have hcmp : Fg (val a) (val b) = some (Kc.cmpV (val a) (val b)) := Kc.compare_eq _ _ (by rw [AkQ]; omega)
      have hz : (Kc.cmpV (val a) (val b) == 0) = decide (a = b) := by
        by_cases h : a = b
        · rw [decide_eq_true h]; simpa using val_zero.2 h
        · rw [decide_eq_false h]; simpa using fun hh => h (val_zero.1 hh)
      rw [if_neg (by simp [hsa]), Option.bind_some, Option.bind_some, if_neg (by simp [hsb]), AeC hoa hob, Option.bind_some, fa, Option.bind_some, fb, Option.bind_some, Abi (by omega), Option.bind_some, Abi (by omega), Option.bind_some, hcmp, Option.bind_some, hz, if_neg (by simp)]
      by_cases h1 : ya.2 = 0
      · by_cases h2 : yb.2 = 0
        · obtain ⟨a1, a2, a3, a4⟩ := qa h1
          obtain ⟨b1, b2, b3, b4⟩ := qb h2
          rw [if_neg (by simp [h1]), if_neg (by simp [h2]), a4, b4]
          have : (msg a == msg b) = decide (a = b) := by
            by_cases h : a = b
            · rw [decide_eq_true h, h]; simp
            · rw [decide_eq_false h]; simpa using fun hh => h (AiH hoa ha hob hb a1 a2 a3 b1 b2 b3 hh)
          rw [this]; simp
        · rw [if_neg (by simp [h1]), if_pos (by simpa using h2)]; rfl
      · rw [if_pos (by simpa using h1)]; rfl
    · rw [if_neg (by simp [hsa]), Option.bind_some, Option.bind_some, if_pos (by simp; omega)]
  · rw [if_pos (by simp; omega), Option.bind_some, if_pos rfl]
end Go.Proofs.YtnfoiocigicdnaaGreatDoor
