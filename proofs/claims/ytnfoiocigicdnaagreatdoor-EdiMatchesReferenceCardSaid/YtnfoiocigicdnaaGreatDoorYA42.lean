/-
  Part 42.
-/
import Derived.Test.YtnfoiocigicdnaaGreatDoorYA39
import Derived.Test.YtnfoiocigicdnaaGreatDoorYA40
import Derived.Test.YtnfoiocigicdnaaGreatDoorYA41
import Derived.KernelRfl
namespace Go.Proofs.YtnfoiocigicdnaaGreatDoor
open Go.Rv
set_option linter.unusedVariables false
set_option linter.unusedSimpArgs false
set_option maxRecDepth 20000
set_option maxHeartbeats 4000000
theorem Mr {a r} (h : Ij a = some r) : Con B 87 [.agg [i64 a.Kind, i64 a.Railway, i64 a.Other]] [] (fun r' σ' => r' = .bool r ∧ σ' = []) := by
  refine Cw 42 [.tmp 2] Tryz.func87 (fun F hE => ?_) h
  unfold Ij
  refine T0 [1] ?_
  refine Sq ?_
  refine Tw [1, 20] (fun g => ⟨As 42 [(1, .ref 0 0), (20, .bool g)], [.box [i64 a.Kind, i64 a.Railway, i64 a.Other] false]⟩) ?_ ?_
  · intro _
    refine Sp (fun b => ?_) fun b => ?_
    · exact Lf Aa (Ev (by simp only [go_sem, b]; exact Ac)) (ws [0])
    · refine Sp (fun c => ?_) fun c => ?_
      · exact Lf Aa (Ev (by simp only [go_sem, b, c]; exact Ac)) (ws [0])
      · refine Sp (fun e => ?_) fun e => ?_
        · exact Lf Aa (Ev (by simp only [go_sem, b, c, e]; exact Ac)) (ws [0])
        · exact Lf Aa (Ev (by simp only [go_sem, b, c, e]; exact Ac)) (ws [0])
  intro g
  refine Cd ?_ ?_
  · refine T0 [2] ?_
    exact Sr <|Tr <|Rr
  · refine Sk <|Tn <|Sq <|T0 [1, 23] ?_
    refine Cd ?_ ?_
    · refine T0 [2] ?_
      exact Sr <|Tr <|Rr
    · refine Sk <|Tn <|?_
      refine Tw [2] (fun i => ⟨As 42 [(2, .bool i)], []⟩) ?_ ?_
      · intro _
        refine Sp (fun d => ?_) fun d => ?_
        · refine Sp (fun f => ?_) fun f => ?_
          · exact Lf Aa (Ev (by simp only [go_sem, d, f]; exact Ac)) (ws [])
          · exact Lf Aa (Ev (by simp only [go_sem, d, f]; exact Ac)) (ws [])
        · exact Lf Aa (Ev (by simp only [go_sem, d]; exact Ac)) (ws [])
      intro i
      exact Sr <|Rr
theorem M1 {a r} (h : Ic a = some r) : Con B 39 [.agg [.sl false (L Ah a.Places), .sl false (L Ao a.Edges)]] [] (fun r' σ' => r' = i64 r ∧ σ' = []) := by
  refine Cw 84 [.tmp 2] Tryz.func39 (fun F hE => ?_) h
  unfold Ic
  refine T0 [1] ?_
  refine Lt fun b i => ?_
  refine Te (fr' := [(1, _), (3, i64 b)]) [1, 3] Aa (Ev (by simp only [go_sem, i]; exact Ac)) ?_
  refine Sq ?_
  refine Tw [1, 3, 18] (fun e => ⟨As 84 [(1, .ref 0 0), (3, i64 b), (18, .bool e)], [.box [.sl false (L Ah a.Places), .sl false (L Ao a.Edges)] false]⟩) ?_ ?_
  · intro _
    refine Sp (fun c => ?_) fun c => ?_
    · exact Lf Aa (Ev (by simp only [go_sem, c]; exact Ac)) (ws [0])
    · exact Lf Aa (Ev (by simp only [go_sem, c]; exact Ac)) (ws [0])
  intro e
  refine Cd ?_ ?_
  · refine T0 [2] ?_
    exact Sr <|Tr <|Rr
  · refine Sk <|Tn <|?_
    refine Jo (fun _ => ⟨As 84 [(1, .ref 0 0), (3, i64 b)], [.box [.sl false (L Ah a.Places), .sl false (L Ao a.Edges)] false]⟩) ?_ ?_
    · intro ac j
      refine T0 [1, 3, 20, 21, 22] ?_
      refine Sb ?_
      refine Lo (fun d => ⟨As 84 [(1, .ref 0 0), (3, i64 b), (20, .sl false (L Ah a.Places)), (21, i64 ((a.Places.length : Int))), (22, i64 d)], [.box [.sl false (L Ah a.Places), .sl false (L Ao a.Edges)] false]⟩) (ws [0]) ?_
      rintro d ad k f g
      show Fl a d = some k → _
      unfold Fl
      refine T0 [1, 3, 20, 21, 22, 23] ?_
      refine Sq ?_
      refine Cd ?_ ?_
      · refine Sk <|Tn <|Sq <|Sb <|?_
        refine Ck fun l => ?_
        refine Lt fun m n => ?_
        refine Lt fun o p => ?_
        refine Lt fun q s => ?_
        refine Te (σ' := [_, .box [i64 m, i64 o, i64 q] false]) [1, 3, 5, 20, 21, 22] Aa (Ev (by simp only [go_sem, qR l, n, p, s]; exact Ac)) ?_
        refine Bd fun ae t => ?_
        refine Te [1, 3, 20, 21, 22, 28] (o1 27 (Mr t)) Ev ?_
        refine Cd ?_ ?_
        · refine T0 [2] ?_
          exact Sr <|Br <|Tr <|Lr g f <|Br <|Jr j <|Rr
        · refine Sk <|Bn <|Tn <|F0 [1, 3, 20, 21, 22] ?_
          exact Ln (ws [0])
      · refine Sx <|Tx <|Lx g f <|Bx <|?_
        exact Jn ((ws (l' := [(1, .ref 0 0), (3, i64 b)]) (σ' := [.box [.sl false (L Ah a.Places), .sl false (L Ao a.Edges)] false]) [0]).trans (ws [0]))
    intro _
    refine Ja (fun _ => ⟨As 84 [], []⟩) ?_ ?_
    · intro af
      refine T0 [3, 31, 32, 33] ?_
      refine Sb ?_
      refine Lo (fun _ => ⟨As 84 [(3, i64 b), (31, .sl false (L Ao a.Edges)), (32, i64 ((a.Edges.length : Int))), (33, i64 0)], []⟩) (ws []) ?_
      rintro ⟨⟩ ag u v w
      show Fq a  = some u → _
      unfold Fq
      refine T0 [3, 31, 32, 33, 34] ?_
      refine Sq ?_
      refine Cd ?_ ?_
      · refine Sk <|Tn <|Sq <|Sb <|?_
        refine Ck fun x => ?_
        refine Lt fun y z => ?_
        refine Lt fun aa ab => ?_
        refine Te (σ' := [.box [i64 ((nth a.Edges 0).A), i64 ((nth a.Edges 0).B), i64 y, i64 aa, i64 ((nth a.Edges 0).Km)] false]) [3, 7, 31, 32, 33] Aa (Ev (by simp only [go_sem, qL x, z, ab]; exact Ac)) ?_
        exact Rn
      · refine Sx <|Tx <|Ly w v <|Bx <|?_
        exact Jm ((ws (l' := []) (σ' := []) []).trans (ws []))
    intro _
    refine T0 [2] ?_
    exact Sr <|Rr
theorem B4 {b c d r} (h : Fv b c d = some r) : Con B 41 [i64 b, i64 c, i64 d] [] (fun r' σ' => r' = .bool r ∧ σ' = []) := by
  refine Cw 15 [.tmp 6] Tryz.func41 (fun F hE => ?_) h
  unfold Fv
  refine T0 [0, 1, 2] ?_
  refine Tw [6] (fun e => ⟨As 15 [(6, .bool e)], []⟩) ?_ ?_
  · intro _
    refine Sp (fun a => ?_) fun a => ?_
    · exact Lf Aa (Ev (by simp only [go_sem, a]; exact Ac)) (ws [])
    · exact Lf Aa (Ev (by simp only [go_sem, a]; exact Ac)) (ws [])
  intro e
  exact Sr <|Rr
open Go.RowKit in
theorem Sw {w : World} {pr : Addr → Prop} {g : Gh} {v : Value} {f : Bool} {els : List (List AV)} (h : Rep w pr g v (.sl f els)) (h0 : els.length = 0) : ∃ a c, v = .slice a 0 c := by
  cases h with
  | sl _ a len cap _ _ k c hlen hcap hfull hnone hk hc hr =>
    have : len = 0 := by omega
    subst this
    exact ⟨a, cap, rfl⟩
open Go.RowKit in
theorem Of {f : Api_Fleet} {r : Int} (h : Kk f = some r) : Con B 40 [.agg [.sl false (L Ai f.Types), .sl false (L An f.Wagons), .sl false (L A5 f.Swaps), .sl false (L A4 f.Washes)]] [] (fun r' σ' => r' = i64 r ∧ σ' = []) := by
  unfold Kk at h
  split at h
  case isFalse => cases h
  rename_i hl
  obtain ⟨hl1, hl2, hl3, hl4⟩ := hl
  simp only [Option.some.injEq] at h
  subst h
  refine ⟨fun F w g vs hm ha => .inl ⟨⟨Tryz.f40, _, Tryz.func40, rfl, by decide +kernel⟩, ?_⟩⟩
  have hg : g = [] := List.length_eq_zero_iff.1 hm.len
  subst hg
  obtain ⟨vs⟩ := vs
  match vs, ha with
  | [u], ⟨h1, _⟩ =>
    cases h1 with
    | agg _ us _ hs ho hr =>
      obtain ⟨us⟩ := us
      match us, hs with
      | [v1, v2, v3, v4], _ =>
        obtain ⟨a1, c1, e1⟩ := Sw (hr 0 _ rfl) (by simpa [L] using hl1)
        obtain ⟨a2, c2, e2⟩ := Sw (hr 1 _ rfl) (by simpa [L] using hl2)
        obtain ⟨a3, c3, e3⟩ := Sw (hr 2 _ rfl) (by simpa [L] using hl3)
        obtain ⟨a4, c4, e4⟩ := Sw (hr 3 _ rfl) (by simpa [L] using hl4)
        have e1' : v1 = .slice a1 0 c1 := e1
        have e2' : v2 = .slice a2 0 c2 := e2
        have e3' : v3 = .slice a3 0 c3 := e3
        have e4' : v4 = .slice a4 0 c4 := e4
        subst e1' e2' e3' e4'
        refine (Ni a1 a2 a3 a4 c1 c2 c3 c4 w).mono ?_
        rintro e w' ⟨rfl, hb2⟩
        exact ⟨_, _, [], [], rfl, ⟨rfl, rfl⟩, Hn hm hb2, Gd hb2, .int _ _ _⟩
theorem Ks {a r} (h : Ga a = some r) : Con B 16 [.agg [.sl false (L Ah a.Network.Places), .sl false (L Ao a.Network.Edges), .sl false (L Ai a.Fleet.Types), .sl false (L An a.Fleet.Wagons), .sl false (L A5 a.Fleet.Swaps), .sl false (L A4 a.Fleet.Washes), .sl false (L Am a.Readers), .sl false (L Al a.Shippers), .sl false (L Af a.Railways)]] [] (fun r' σ' => r' = i64 r ∧ σ' = []) := by
  refine Cw 193 [.tmp 2] Tryz.func16 (fun F hE => ?_) h
  unfold Ga
  refine T0 [1] ?_
  refine Sq ?_
  refine Bd fun bX ao => ?_
  refine Te [1, 3] (o1 22 (M1 ao)) Ev ?_
  refine T0 [1, 3, 24] ?_
  refine Cd ?_ ?_
  · refine T0 [2] ?_
    exact Sr <|Tr <|Rr
  · refine Sk <|Tn <|Sq <|?_
    refine Bd fun bY ap => ?_
    refine Te [1, 4] (o1 28 (Of ap)) Ev ?_
    refine T0 [1, 4, 30] ?_
    refine Cd ?_ ?_
    · refine T0 [2] ?_
      exact Sr <|Tr <|Rr
    · refine Sk <|Tn <|Sq <|?_
      refine Tw [1, 47] (fun s => ⟨As 193 [(1, .ref 0 0), (47, .bool s)], [.box [.sl false (L Ah a.Network.Places), .sl false (L Ao a.Network.Edges), .sl false (L Ai a.Fleet.Types), .sl false (L An a.Fleet.Wagons), .sl false (L A5 a.Fleet.Swaps), .sl false (L A4 a.Fleet.Washes), .sl false (L Am a.Readers), .sl false (L Al a.Shippers), .sl false (L Af a.Railways)] false]⟩) ?_ ?_
      · intro _
        refine Sp (fun f => ?_) fun f => ?_
        · exact Lf Aa (Ev (by simp only [go_sem, f]; exact Ac)) (ws [0])
        · refine Sp (fun l => ?_) fun l => ?_
          · exact Lf Aa (Ev (by simp only [go_sem, f, l]; exact Ac)) (ws [0])
          · exact Lf Aa (Ev (by simp only [go_sem, f, l]; exact Ac)) (ws [0])
      intro s
      refine Cd ?_ ?_
      · refine T0 [2] ?_
        exact Sr <|Tr <|Rr
      · refine Sk <|Tn <|?_
        refine Lt fun b aq => ?_
        refine De (fr' := [(1, _), (5, _), (6, i64 b)]) [[], [0], [0, 1], [], [3], [3, 4], [0, 1, 2], [0, 1, 2, 3, 4, 5, 6]] [1, 5, 6] Aa (Ev (by simp only [go_sem, aq]; exact Ac)) ?_
        refine T0 [1, 5, 6, 7] ?_
        refine Ja (fun t => ⟨As 193 [(1, .ref 0 0), (5, .sl false (L Ah a.Network.Places)), (6, i64 b), (7, .bool t)], [.box [.sl false (L Ah a.Network.Places), .sl false (L Ao a.Network.Edges), .sl false (L Ai a.Fleet.Types), .sl false (L An a.Fleet.Wagons), .sl false (L A5 a.Fleet.Swaps), .sl false (L A4 a.Fleet.Washes), .sl false (L Am a.Readers), .sl false (L Al a.Shippers), .sl false (L Af a.Railways)] false]⟩) ?_ ?_
        · intro bZ
          refine T0 [1, 5, 6, 7, 57, 58, 59] ?_
          refine Sb ?_
          refine Lo (fun (v : Bool × Int) => (⟨As 193 [(1, .ref 0 0), (5, .sl false (L Ah a.Network.Places)), (6, i64 b), (7, .bool v.1), (57, .sl false (L Am a.Readers)), (58, i64 ((a.Readers.length : Int))), (59, i64 v.2)], [.box [.sl false (L Ah a.Network.Places), .sl false (L Ao a.Network.Edges), .sl false (L Ai a.Fleet.Types), .sl false (L An a.Fleet.Wagons), .sl false (L A5 a.Fleet.Swaps), .sl false (L A4 a.Fleet.Washes), .sl false (L Am a.Readers), .sl false (L Al a.Shippers), .sl false (L Af a.Railways)] false]⟩ : St)) (ws [0]) ?_
          rintro ⟨u, w⟩ b0 ar au av
          show Ea a u w = some ar → _
          unfold Ea
          refine T0 [1, 5, 6, 7, 57, 58, 59, 60] ?_
          refine Sq ?_
          refine Cd ?_ ?_
          · refine Sk <|Tn <|Sq <|Sb <|?_
            refine Ck fun aw => ?_
            refine Lt fun ax ay => ?_
            refine Lt fun az aA => ?_
            refine Lt fun aB aC => ?_
            refine Te (σ' := [_, .box [i64 ax, i64 az, i64 aB] false]) [1, 5, 6, 7, 9, 57, 58, 59] Aa (Ev (by simp only [go_sem, qR aw, ay, aA, aC]; exact Ac)) ?_
            refine Fw [1, 5, 6, 7, 57, 58, 59] (fun x => ⟨As 193 [(1, .ref 0 0), (5, .sl false (L Ah a.Network.Places)), (6, i64 b), (7, .bool x), (57, .sl false (L Am a.Readers)), (58, i64 ((a.Readers.length : Int))), (59, i64 w)], [.box [.sl false (L Ah a.Network.Places), .sl false (L Ao a.Network.Edges), .sl false (L Ai a.Fleet.Types), .sl false (L An a.Fleet.Wagons), .sl false (L A5 a.Fleet.Swaps), .sl false (L A4 a.Fleet.Washes), .sl false (L Am a.Readers), .sl false (L Al a.Shippers), .sl false (L Af a.Railways)] false]⟩) ?_ ?_
            · intro _
              refine Sp (fun c => ?_) fun c => ?_
              · exact Lf Aa (Ev (by simp only [go_sem, c]; exact Ac)) (ws [0])
              · refine Bd fun b1 g => ?_
                refine Sp (fun d => ?_) fun d => ?_
                · exact Lf (o1 70 (B4 g)) (Ev (by simp only [go_sem, c, d]; exact Ac)) (ws [0])
                · refine Sp (fun i => ?_) fun i => ?_
                  · exact Lf (o1 70 (B4 g)) (Ev (by simp only [go_sem, c, d, i]; exact Ac)) (ws [0])
                  · refine Sp (fun m => ?_) fun m => ?_
                    · exact Lf (o1 70 (B4 g)) (Ev (by simp only [go_sem, c, d, i, m]; exact Ac)) (ws [0])
                    · exact Lf (o1 70 (B4 g)) (Ev (by simp only [go_sem, c, d, i, m]; exact Ac)) (ws [0])
            intro x
            refine Bn <|Tn <|F0 [1, 5, 6, 7, 57, 58, 59] ?_
            exact Ln (ws [0])
          · refine Sx <|Tx <|Ly av au <|Bx <|?_
            exact Jm ((ws (l' := [(1, .ref 0 0), (5, .sl false (L Ah a.Network.Places)), (6, i64 b), (7, .bool u)]) (σ' := [.box [.sl false (L Ah a.Network.Places), .sl false (L Ao a.Network.Edges), .sl false (L Ai a.Fleet.Types), .sl false (L An a.Fleet.Wagons), .sl false (L A5 a.Fleet.Swaps), .sl false (L A4 a.Fleet.Washes), .sl false (L Am a.Readers), .sl false (L Al a.Shippers), .sl false (L Af a.Railways)] false]) [0]).trans (ws [0]))
        intro t
        refine Ja (fun y => ⟨As 193 [(1, .ref 0 0), (5, .sl false (L Ah a.Network.Places)), (6, i64 b), (7, .bool y)], [.box [.sl false (L Ah a.Network.Places), .sl false (L Ao a.Network.Edges), .sl false (L Ai a.Fleet.Types), .sl false (L An a.Fleet.Wagons), .sl false (L A5 a.Fleet.Swaps), .sl false (L A4 a.Fleet.Washes), .sl false (L Am a.Readers), .sl false (L Al a.Shippers), .sl false (L Af a.Railways)] false]⟩) ?_ ?_
        · intro b2
          refine T0 [1, 5, 6, 7, 92, 93, 94] ?_
          refine Sb ?_
          refine Lo (fun (v : Bool × Int) => (⟨As 193 [(1, .ref 0 0), (5, .sl false (L Ah a.Network.Places)), (6, i64 b), (7, .bool v.1), (92, .sl false (L Al a.Shippers)), (93, i64 ((a.Shippers.length : Int))), (94, i64 v.2)], [.box [.sl false (L Ah a.Network.Places), .sl false (L Ao a.Network.Edges), .sl false (L Ai a.Fleet.Types), .sl false (L An a.Fleet.Wagons), .sl false (L A5 a.Fleet.Swaps), .sl false (L A4 a.Fleet.Washes), .sl false (L Am a.Readers), .sl false (L Al a.Shippers), .sl false (L Af a.Railways)] false]⟩ : St)) (ws [0]) ?_
          rintro ⟨z, aa⟩ b3 aD aE aF
          show Ej a z aa = some aD → _
          unfold Ej
          refine T0 [1, 5, 6, 7, 92, 93, 94, 95] ?_
          refine Sq ?_
          refine Cd ?_ ?_
          · refine Sk <|Tn <|Sq <|Sb <|?_
            refine Ck fun aG => ?_
            refine Lt fun aH aI => ?_
            refine Te (σ' := [_, .box [i64 aH] false]) [1, 5, 6, 7, 11, 92, 93, 94] Aa (Ev (by simp only [go_sem, qR aG, aI]; exact Ac)) ?_
            refine Fw [1, 5, 6, 7, 92, 93, 94] (fun ab => ⟨As 193 [(1, .ref 0 0), (5, .sl false (L Ah a.Network.Places)), (6, i64 b), (7, .bool ab), (92, .sl false (L Al a.Shippers)), (93, i64 ((a.Shippers.length : Int))), (94, i64 aa)], [.box [.sl false (L Ah a.Network.Places), .sl false (L Ao a.Network.Edges), .sl false (L Ai a.Fleet.Types), .sl false (L An a.Fleet.Wagons), .sl false (L A5 a.Fleet.Swaps), .sl false (L A4 a.Fleet.Washes), .sl false (L Am a.Readers), .sl false (L Al a.Shippers), .sl false (L Af a.Railways)] false]⟩) ?_ ?_
            · intro _
              refine Sp (fun j => ?_) fun j => ?_
              · exact Lf Aa (Ev (by simp only [go_sem, j]; exact Ac)) (ws [0])
              · refine Bd fun b4 ac => ?_
                refine Sp (fun n => ?_) fun n => ?_
                · exact Lf (o1 105 (B4 ac)) (Ev (by simp only [go_sem, j, n]; exact Ac)) (ws [0])
                · refine Ck fun aJ => ?_
                  exact Lf (o1 105 (B4 ac)) (Ev (by simp only [go_sem, j, n, qR aJ]; exact Ac)) (ws [0])
            intro ab
            refine Bn <|Tn <|F0 [1, 5, 6, 7, 92, 93, 94] ?_
            exact Ln (ws [0])
          · refine Sx <|Tx <|Ly aF aE <|Bx <|?_
            exact Jm ((ws (l' := [(1, .ref 0 0), (5, .sl false (L Ah a.Network.Places)), (6, i64 b), (7, .bool z)]) (σ' := [.box [.sl false (L Ah a.Network.Places), .sl false (L Ao a.Network.Edges), .sl false (L Ai a.Fleet.Types), .sl false (L An a.Fleet.Wagons), .sl false (L A5 a.Fleet.Swaps), .sl false (L A4 a.Fleet.Washes), .sl false (L Am a.Readers), .sl false (L Al a.Shippers), .sl false (L Af a.Railways)] false]) [0]).trans (ws [0]))
        intro y
        refine Ja (fun ad => ⟨As 193 [(1, .ref 0 0), (5, .sl false (L Ah a.Network.Places)), (6, i64 b), (7, .bool ad)], [.box [.sl false (L Ah a.Network.Places), .sl false (L Ao a.Network.Edges), .sl false (L Ai a.Fleet.Types), .sl false (L An a.Fleet.Wagons), .sl false (L A5 a.Fleet.Swaps), .sl false (L A4 a.Fleet.Washes), .sl false (L Am a.Readers), .sl false (L Al a.Shippers), .sl false (L Af a.Railways)] false]⟩) ?_ ?_
        · intro b5
          refine T0 [1, 5, 6, 7, 120, 121, 122] ?_
          refine Sb ?_
          refine Lo (fun (v : Bool × Int) => (⟨As 193 [(1, .ref 0 0), (5, .sl false (L Ah a.Network.Places)), (6, i64 b), (7, .bool v.1), (120, .sl false (L An a.Fleet.Wagons)), (121, i64 ((a.Fleet.Wagons.length : Int))), (122, i64 v.2)], [.box [.sl false (L Ah a.Network.Places), .sl false (L Ao a.Network.Edges), .sl false (L Ai a.Fleet.Types), .sl false (L An a.Fleet.Wagons), .sl false (L A5 a.Fleet.Swaps), .sl false (L A4 a.Fleet.Washes), .sl false (L Am a.Readers), .sl false (L Al a.Shippers), .sl false (L Af a.Railways)] false]⟩ : St)) (ws [0]) ?_
          rintro ⟨ae, af⟩ b6 aK aL aM
          show Eh a ae af = some aK → _
          unfold Eh
          refine T0 [1, 5, 6, 7, 120, 121, 122, 123] ?_
          refine Sq ?_
          refine Cd ?_ ?_
          · refine Sk <|Tn <|Sq <|Sb <|?_
            refine Ck fun aN => ?_
            refine Lt fun aO aP => ?_
            refine Lt fun aQ aR => ?_
            refine Lt fun aS aT => ?_
            refine Lt fun aU aV => ?_
            refine Lt fun aW aX => ?_
            refine Te (σ' := [_, .box [i64 aO, i64 aQ, i64 aS, i64 aU, i64 aW] false]) [1, 5, 6, 7, 13, 120, 121, 122] Aa (Ev (by simp only [go_sem, qR aN, aP, aR, aT, aV, aX]; exact Ac)) ?_
            refine Fw [1, 5, 6, 7, 120, 121, 122] (fun ag => ⟨As 193 [(1, .ref 0 0), (5, .sl false (L Ah a.Network.Places)), (6, i64 b), (7, .bool ag), (120, .sl false (L An a.Fleet.Wagons)), (121, i64 ((a.Fleet.Wagons.length : Int))), (122, i64 af)], [.box [.sl false (L Ah a.Network.Places), .sl false (L Ao a.Network.Edges), .sl false (L Ai a.Fleet.Types), .sl false (L An a.Fleet.Wagons), .sl false (L A5 a.Fleet.Swaps), .sl false (L A4 a.Fleet.Washes), .sl false (L Am a.Readers), .sl false (L Al a.Shippers), .sl false (L Af a.Railways)] false]⟩) ?_ ?_
            · intro _
              refine Sp (fun o => ?_) fun o => ?_
              · exact Lf Aa (Ev (by simp only [go_sem, o]; exact Ac)) (ws [0])
              · exact Lf Aa (Ev (by simp only [go_sem, o]; exact Ac)) (ws [0])
            intro ag
            refine Bn <|Tn <|F0 [1, 5, 6, 7, 120, 121, 122] ?_
            exact Ln (ws [0])
          · refine Sx <|Tx <|Ly aM aL <|Bx <|?_
            exact Jm ((ws (l' := [(1, .ref 0 0), (5, .sl false (L Ah a.Network.Places)), (6, i64 b), (7, .bool ae)]) (σ' := [.box [.sl false (L Ah a.Network.Places), .sl false (L Ao a.Network.Edges), .sl false (L Ai a.Fleet.Types), .sl false (L An a.Fleet.Wagons), .sl false (L A5 a.Fleet.Swaps), .sl false (L A4 a.Fleet.Washes), .sl false (L Am a.Readers), .sl false (L Al a.Shippers), .sl false (L Af a.Railways)] false]) [0]).trans (ws [0]))
        intro ad
        refine Ja (fun ah => ⟨As 193 [(1, .ref 0 0), (6, i64 b), (7, .bool ah)], [.box [.sl false (L Ah a.Network.Places), .sl false (L Ao a.Network.Edges), .sl false (L Ai a.Fleet.Types), .sl false (L An a.Fleet.Wagons), .sl false (L A5 a.Fleet.Swaps), .sl false (L A4 a.Fleet.Washes), .sl false (L Am a.Readers), .sl false (L Al a.Shippers), .sl false (L Af a.Railways)] false]⟩) ?_ ?_
        · intro b7
          refine T0 [1, 6, 7, 135, 136, 137] ?_
          refine Sb ?_
          refine Lo (fun (v : Bool × Int) => (⟨As 193 [(1, .ref 0 0), (6, i64 b), (7, .bool v.1), (135, .sl false (L Ah a.Network.Places)), (136, i64 ((a.Network.Places.length : Int))), (137, i64 v.2)], [.box [.sl false (L Ah a.Network.Places), .sl false (L Ao a.Network.Edges), .sl false (L Ai a.Fleet.Types), .sl false (L An a.Fleet.Wagons), .sl false (L A5 a.Fleet.Swaps), .sl false (L A4 a.Fleet.Washes), .sl false (L Am a.Readers), .sl false (L Al a.Shippers), .sl false (L Af a.Railways)] false]⟩ : St)) (ws [0]) ?_
          rintro ⟨ai, aj⟩ b8 aY aZ a0
          show Eg a b ai aj = some aY → _
          unfold Eg
          refine T0 [1, 6, 7, 135, 136, 137, 138] ?_
          refine Sq ?_
          refine Cd ?_ ?_
          · refine Sk <|Tn <|Sq <|Sb <|?_
            refine Ck fun a1 => ?_
            refine Lt fun a2 a3 => ?_
            refine Lt fun a4 a5 => ?_
            refine Lt fun a6 a7 => ?_
            refine Te (σ' := [_, .box [i64 a2, i64 a4, i64 a6] false]) [1, 6, 7, 15, 135, 136, 137] Aa (Ev (by simp only [go_sem, qR a1, a3, a5, a7]; exact Ac)) ?_
            refine Fw [1, 6, 7, 135, 136, 137] (fun ak => ⟨As 193 [(1, .ref 0 0), (6, i64 b), (7, .bool ak), (135, .sl false (L Ah a.Network.Places)), (136, i64 ((a.Network.Places.length : Int))), (137, i64 aj)], [.box [.sl false (L Ah a.Network.Places), .sl false (L Ao a.Network.Edges), .sl false (L Ai a.Fleet.Types), .sl false (L An a.Fleet.Wagons), .sl false (L A5 a.Fleet.Swaps), .sl false (L A4 a.Fleet.Washes), .sl false (L Am a.Readers), .sl false (L Al a.Shippers), .sl false (L Af a.Railways)] false]⟩) ?_ ?_
            · intro _
              refine Sp (fun k => ?_) fun k => ?_
              · exact Lf Aa (Ev (by simp only [go_sem, k]; exact Ac)) (ws [0])
              · refine Sp (fun p => ?_) fun p => ?_
                · exact Lf Aa (Ev (by simp only [go_sem, k, p]; exact Ac)) (ws [0])
                · exact Lf Aa (Ev (by simp only [go_sem, k, p]; exact Ac)) (ws [0])
            intro ak
            refine Bn <|Tn <|F0 [1, 6, 7, 135, 136, 137] ?_
            exact Ln (ws [0])
          · refine Sx <|Tx <|Ly a0 aZ <|Bx <|?_
            exact Jm ((ws (l' := [(1, .ref 0 0), (6, i64 b), (7, .bool ai)]) (σ' := [.box [.sl false (L Ah a.Network.Places), .sl false (L Ao a.Network.Edges), .sl false (L Ai a.Fleet.Types), .sl false (L An a.Fleet.Wagons), .sl false (L A5 a.Fleet.Swaps), .sl false (L A4 a.Fleet.Washes), .sl false (L Am a.Readers), .sl false (L Al a.Shippers), .sl false (L Af a.Railways)] false]) [0]).trans (ws [0]))
        intro ah
        refine Ja (fun e => ⟨As 193 [(1, .ref 0 0), (7, .bool e)], [.box [.sl false (L Ah a.Network.Places), .sl false (L Ao a.Network.Edges), .sl false (L Ai a.Fleet.Types), .sl false (L An a.Fleet.Wagons), .sl false (L A5 a.Fleet.Swaps), .sl false (L A4 a.Fleet.Washes), .sl false (L Am a.Readers), .sl false (L Al a.Shippers), .sl false (L Af a.Railways)] false]⟩) ?_ ?_
        · intro b9
          refine T0 [1, 6, 7, 157, 158, 159] ?_
          refine Sb ?_
          refine Lo (fun (v : Bool × Int) => (⟨As 193 [(1, .ref 0 0), (6, i64 b), (7, .bool v.1), (157, .sl false (L Ao a.Network.Edges)), (158, i64 ((a.Network.Edges.length : Int))), (159, i64 v.2)], [.box [.sl false (L Ah a.Network.Places), .sl false (L Ao a.Network.Edges), .sl false (L Ai a.Fleet.Types), .sl false (L An a.Fleet.Wagons), .sl false (L A5 a.Fleet.Swaps), .sl false (L A4 a.Fleet.Washes), .sl false (L Am a.Readers), .sl false (L Al a.Shippers), .sl false (L Af a.Railways)] false]⟩ : St)) (ws [0]) ?_
          rintro ⟨al, am⟩ ca a8 a9 ba
          show D8 a b al am = some a8 → _
          unfold D8
          refine T0 [1, 6, 7, 157, 158, 159, 160] ?_
          refine Sq ?_
          refine Cd ?_ ?_
          · refine Sk <|Tn <|Sq <|Sb <|?_
            refine Ck fun bb => ?_
            refine Lt fun bc bd => ?_
            refine Lt fun be bf => ?_
            refine Lt fun bg bh => ?_
            refine Lt fun bi bj => ?_
            refine Lt fun bk bl => ?_
            refine Te (σ' := [_, .box [i64 bc, i64 be, i64 bg, i64 bi, i64 bk] false]) [1, 6, 7, 17, 157, 158, 159] Aa (Ev (by simp only [go_sem, qR bb, bd, bf, bh, bj, bl]; exact Ac)) ?_
            refine Fw [1, 6, 7, 157, 158, 159] (fun an => ⟨As 193 [(1, .ref 0 0), (6, i64 b), (7, .bool an), (157, .sl false (L Ao a.Network.Edges)), (158, i64 ((a.Network.Edges.length : Int))), (159, i64 am)], [.box [.sl false (L Ah a.Network.Places), .sl false (L Ao a.Network.Edges), .sl false (L Ai a.Fleet.Types), .sl false (L An a.Fleet.Wagons), .sl false (L A5 a.Fleet.Swaps), .sl false (L A4 a.Fleet.Washes), .sl false (L Am a.Readers), .sl false (L Al a.Shippers), .sl false (L Af a.Railways)] false]⟩) ?_ ?_
            · intro _
              refine Sp (fun q => ?_) fun q => ?_
              · exact Lf Aa (Ev (by simp only [go_sem, q]; exact Ac)) (ws [0])
              · exact Lf Aa (Ev (by simp only [go_sem, q]; exact Ac)) (ws [0])
            intro an
            refine Bn <|Tn <|F0 [1, 6, 7, 157, 158, 159] ?_
            exact Ln (ws [0])
          · refine Sx <|Tx <|Ly ba a9 <|Bx <|?_
            exact Jm ((ws (l' := [(1, .ref 0 0), (7, .bool al)]) (σ' := [.box [.sl false (L Ah a.Network.Places), .sl false (L Ao a.Network.Edges), .sl false (L Ai a.Fleet.Types), .sl false (L An a.Fleet.Wagons), .sl false (L A5 a.Fleet.Swaps), .sl false (L A4 a.Fleet.Washes), .sl false (L Am a.Readers), .sl false (L Al a.Shippers), .sl false (L Af a.Railways)] false]) [0]).trans (ws [0]))
        intro e
        refine Ja (fun _ => ⟨As 193 [(7, .bool e)], []⟩) ?_ ?_
        · intro cb
          refine T0 [7, 172, 173, 174] ?_
          refine Sb ?_
          refine Lo (fun _ => ⟨As 193 [(7, .bool e), (172, .sl false (L Af a.Railways)), (173, i64 ((a.Railways.length : Int))), (174, i64 0)], []⟩) (ws []) ?_
          rintro ⟨⟩ cc bm bn bo
          show Eo a  = some bm → _
          unfold Eo
          refine T0 [7, 172, 173, 174, 175] ?_
          refine Sq ?_
          refine Cd ?_ ?_
          · refine Sk <|Tn <|Sq <|Sb <|?_
            refine Ck fun bp => ?_
            refine Lt fun bq br => ?_
            refine Lt fun bs bt => ?_
            refine Lt fun bu bv => ?_
            refine Lt fun bw bx => ?_
            refine Lt fun bz bA => ?_
            refine Lt fun bB bC => ?_
            refine Lt fun bD bE => ?_
            refine Lt fun bF bG => ?_
            refine Lt fun bH bI => ?_
            refine Lt fun bJ bK => ?_
            refine Lt fun bL bM => ?_
            refine Lt fun bN bO => ?_
            refine Lt fun bP bQ => ?_
            refine Lt fun bR bS => ?_
            refine Lt fun bT bU => ?_
            refine Lt fun bV bW => ?_
            refine Te (σ' := [.box [u64 bq, i64 bs, i64 bu, i64 bw, i64 bz, i64 bB, i64 bD, i64 bF, i64 bH, i64 bJ, i64 bL, i64 bN, i64 bP, i64 bR, i64 bT, .sl false (L L1 bV)] false]) [7, 19, 172, 173, 174] Aa (Ev (by simp only [go_sem, qL bp, br, bt, bv, bx, bA, bC, bE, bG, bI, bK, bM, bO, bQ, bS, bU, bW]; exact Ac)) ?_
            exact Rn
          · refine Sx <|Tx <|Ly bo bn <|Bx <|?_
            exact Jm ((ws (l' := [(7, .bool e)]) (σ' := []) []).trans (ws []))
        intro _
        refine Sq <|T0 [192] ?_
        refine Cd ?_ ?_
        · refine T0 [2] ?_
          exact Sr <|Tr <|Rr
        · refine Sk <|Tn <|T0 [2] ?_
          exact Sr <|Rr
theorem R0 {b a r} (h : Oc b a = some r) : Con B 15 [.agg [.sl false (L Ah b.Network.Places), .sl false (L Ao b.Network.Edges), .sl false (L Ai b.Fleet.Types), .sl false (L An b.Fleet.Wagons), .sl false (L A5 b.Fleet.Swaps), .sl false (L A4 b.Fleet.Washes), .sl false (L Am b.Readers), .sl false (L Al b.Shippers), .sl false (L Af b.Railways)], .agg [i64 a.Kind, i64 a.Ref.Railway, i64 a.Ref.No, i64 a.Wagon, i64 a.Place, i64 a.Other, i64 a.Number, i64 a.From, i64 a.To, i64 a.Code, i64 a.Dest, i64 a.Class, i64 a.Weight, i64 a.Amount, .str a.Text, .sl false (L Ab a.Parts)]] [] (fun r' σ' => r' = i64 r ∧ σ' = []) := by
  refine Cw 19 [.tmp 4] Tryz.func15 (fun F hE => ?_) h
  unfold Oc
  refine T0 [2, 3] ?_
  refine Sq ?_
  refine Bd fun d c => ?_
  refine Te [2, 3, 4] (o1 6 (Ks c)) Ev ?_
  refine T0 [2, 3, 4, 8] ?_
  refine Cd ?_ ?_
  · refine T0 [4] ?_
    exact Sr <|Tr <|Rr
  · exact Sk <|Tn <|Sq <|Rn
theorem Bf {a e r} (h : Do a e = some r) : Con B 35 [.agg [i64 a.Kind, i64 a.Ref.Railway, i64 a.Ref.No, i64 a.Wagon, i64 a.Place, i64 a.Other, i64 a.Number, i64 a.From, i64 a.To, i64 a.Code, i64 a.Dest, i64 a.Class, i64 a.Weight, i64 a.Amount, .str a.Text, .sl false (L Ab a.Parts)], .str e] [] (fun r' σ' => r' = .bool r ∧ σ' = []) := by
  refine Cw 35 [.tmp 4] Tryz.func35 (fun F hE => ?_) h
  unfold Do
  refine T0 [1, 2] ?_
  refine Bd fun k g => ?_
  refine Te [1, 2, 5, 6] (o1 11 (Fb g)) Ev ?_
  refine Bd fun l i => ?_
  refine Te [1, 2, 5, 6, 7, 8] (o1 16 (L0 i)) Ev ?_
  refine Tw [4] (fun f => ⟨As 35 [(4, .bool f)], []⟩) ?_ ?_
  · intro _
    refine Sp (fun b => ?_) fun b => ?_
    · refine Sp (fun c => ?_) fun c => ?_
      · refine Sp (fun d => ?_) fun d => ?_
        · refine Bd fun m j => ?_
          exact Lf (o1 33 (Gp j)) (Ev (by simp only [go_sem, b, c, d]; exact Ac)) (ws [])
        · exact Lf Aa (Ev (by simp only [go_sem, b, c, d]; exact Ac)) (ws [])
      · exact Lf Aa (Ev (by simp only [go_sem, b, c]; exact Ac)) (ws [])
    · exact Lf Aa (Ev (by simp only [go_sem, b]; exact Ac)) (ws [])
  intro f
  exact Sr <|Rr
theorem Ag {b r} (h : B1 b = some r) : Con B 36 [.str b] [] (fun r' σ' => r' = .bool r ∧ σ' = []) := by
  refine Cw 17 [.tmp 2] Tryz.func36 (fun F hE => ?_) h
  unfold B1
  refine T0 [0] ?_
  refine Bd fun f d => ?_
  refine Te [3, 4] (o1 7 (L0 d)) Ev ?_
  refine Tw [2] (fun c => ⟨As 17 [(2, .bool c)], []⟩) ?_ ?_
  · intro _
    refine Sp (fun a => ?_) fun a => ?_
    · refine Bd fun g e => ?_
      exact Lf (o1 15 (Gp e)) (Ev (by simp only [go_sem, a]; exact Ac)) (ws [])
    · exact Lf Aa (Ev (by simp only [go_sem, a]; exact Ac)) (ws [])
  intro c
  exact Sr <|Rr
theorem P5 {r} (h : law11_sane  = some r) : Con B 12 [] [] (fun r' σ' => r' = .bool r ∧ σ' = []) := by
  refine Cw 91 [.tmp 0] Tryz.func12 (fun F hE => ?_) h
  unfold law11_sane
  refine T0 [] ?_
  refine Lt fun a ag => ?_
  refine Te (σ' := [.buf 3 (L Ab a) false, .box [i64 10, i64 0, i64 0, i64 0, i64 0, i64 0, i64 0, i64 0, i64 0, i64 0, i64 0, i64 0, i64 0, i64 0, .str (([] : List UInt8)), .bs true 0 (a.length) 0 (a.length)] false]) [1] Aa (Ev (by simp only [go_sem, ag]; exact Ac)) ?_
  refine Tw [1, 2] (fun v => ⟨As 91 [(1, .ref 0 0), (2, .bool v)], [.box [i64 10, i64 0, i64 0, i64 0, i64 0, i64 0, i64 0, i64 0, i64 0, i64 0, i64 0, i64 0, i64 0, i64 0, .str (([] : List UInt8)), .bs true 1 (a.length) 0 (a.length)] false, .buf 3 (L Ab a) false]⟩) ?_ ?_
  · intro _
    refine Bd fun aq p => ?_
    refine Sp (fun k => ?_) fun k => ?_
    · refine Bd fun ar w => ?_
      refine Sp (fun q => ?_) fun q => ?_
      · refine Bd fun au ab => ?_
        refine Sp (fun x => ?_) fun x => ?_
        · refine Bd fun av ah => ?_
          exact Lf (Ds (l := [(15, _, _, _), (19, _, _, _), (23, _, _, _), (27, _, _, _)]) ⟨Bf  p, Bf  w, Bf  ab, Bf  ah, trivial⟩) (Ev (by simp only [go_sem, k, q, x]; exact Ac)) (ws [1, 0])
        · exact Lf (Ds (l := [(15, _, _, _), (19, _, _, _), (23, _, _, _)]) ⟨Bf  p, Bf  w, Bf  ab, trivial⟩) (Ev (by simp only [go_sem, k, q, x]; exact Ac)) (ws [1, 0])
      · exact Lf (o2 15 (Bf p) 19 (Bf w)) (Ev (by simp only [go_sem, k, q]; exact Ac)) (ws [1, 0])
    · exact Lf (o1 15 (Bf p)) (Ev (by simp only [go_sem, k]; exact Ac)) (ws [1, 0])
  intro v
  refine Bd fun ai aj => ?_
  refine Te [1, 2, 4] (o1 31 (Fb aj)) Ev ?_
  refine Bd fun ak al => ?_
  refine Te [1, 2, 4, 6] (o1 36 (Hv al)) Ev ?_
  refine Tw [1, 2, 4, 6, 7] (fun ac => ⟨As 91 [(1, .ref 0 0), (2, .bool v), (4, i64 ai.2), (6, i64 ak.2), (7, .bool ac)], [.box [i64 10, i64 0, i64 0, i64 0, i64 0, i64 0, i64 0, i64 0, i64 0, i64 0, i64 0, i64 0, i64 0, i64 0, .str (([] : List UInt8)), .bs true 1 (a.length) 0 (a.length)] false, .buf 3 (L Ab a) false]⟩) ?_ ?_
  · intro _
    refine Bd fun aw d => ?_
    refine Sp (fun b => ?_) fun b => ?_
    · refine Bd fun ax g => ?_
      refine Sp (fun e => ?_) fun e => ?_
      · refine Bd fun ay m => ?_
        refine Sp (fun i => ?_) fun i => ?_
        · refine Bd fun az s => ?_
          refine Sp (fun n => ?_) fun n => ?_
          · refine Bd fun aA y => ?_
            refine Sp (fun t => ?_) fun t => ?_
            · refine Bd fun aB ad => ?_
              refine Sp (fun z => ?_) fun z => ?_
              · refine Bd fun aC am => ?_
                exact Lf (Ds (l := [(39, _, _, _), (41, _, _, _), (44, _, _, _), (47, _, _, _), (50, _, _, _), (53, _, _, _), (56, _, _, _)]) ⟨Ag  d, Ag  g, Ag  m, Ag  s, Ag  y, Ag  ad, Ag  am, trivial⟩) (Ev (by simp only [go_sem, b, e, i, n, t, z]; exact Ac)) (ws [0, 1])
              · exact Lf (Ds (l := [(39, _, _, _), (41, _, _, _), (44, _, _, _), (47, _, _, _), (50, _, _, _), (53, _, _, _)]) ⟨Ag  d, Ag  g, Ag  m, Ag  s, Ag  y, Ag  ad, trivial⟩) (Ev (by simp only [go_sem, b, e, i, n, t, z]; exact Ac)) (ws [0, 1])
            · exact Lf (Ds (l := [(39, _, _, _), (41, _, _, _), (44, _, _, _), (47, _, _, _), (50, _, _, _)]) ⟨Ag  d, Ag  g, Ag  m, Ag  s, Ag  y, trivial⟩) (Ev (by simp only [go_sem, b, e, i, n, t]; exact Ac)) (ws [0, 1])
          · exact Lf (Ds (l := [(39, _, _, _), (41, _, _, _), (44, _, _, _), (47, _, _, _)]) ⟨Ag  d, Ag  g, Ag  m, Ag  s, trivial⟩) (Ev (by simp only [go_sem, b, e, i, n]; exact Ac)) (ws [0, 1])
        · exact Lf (Ds (l := [(39, _, _, _), (41, _, _, _), (44, _, _, _)]) ⟨Ag  d, Ag  g, Ag  m, trivial⟩) (Ev (by simp only [go_sem, b, e, i]; exact Ac)) (ws [0, 1])
      · exact Lf (o2 39 (Ag d) 41 (Ag g)) (Ev (by simp only [go_sem, b, e]; exact Ac)) (ws [0, 1])
    · exact Lf (o1 39 (Ag d)) (Ev (by simp only [go_sem, b]; exact Ac)) (ws [0, 1])
  intro ac
  refine Bd fun aD an => ?_
  refine Bd fun aE ao => ?_
  refine Te [1, 2, 4, 6, 7, 8, 9] (o2 60 (Ib an) 61 (Hv ao)) Ev ?_
  refine Tw [0] (fun ae => ⟨As 91 [(0, .bool ae)], []⟩) ?_ ?_
  · intro _
    refine Sp (fun c => ?_) fun c => ?_
    · refine Sp (fun f => ?_) fun f => ?_
      · refine Sp (fun j => ?_) fun j => ?_
        · refine Sp (fun o => ?_) fun o => ?_
          · refine Sp (fun u => ?_) fun u => ?_
            · refine Bd fun aF af => ?_
              refine Sp (fun aa => ?_) fun aa => ?_
              · refine Bd fun aG ap => ?_
                exact Lf (o2 83 (Gp af) 88 (R0 ap)) (Ev (by simp only [go_sem, c, f, j, o, u, aa]; exact Ac)) (ws [])
              · exact Lf (o1 83 (Gp af)) (Ev (by simp only [go_sem, c, f, j, o, u, aa]; exact Ac)) (ws [])
            · exact Lf Aa (Ev (by simp only [go_sem, c, f, j, o, u]; exact Ac)) (ws [])
          · exact Lf Aa (Ev (by simp only [go_sem, c, f, j, o]; exact Ac)) (ws [])
        · exact Lf Aa (Ev (by simp only [go_sem, c, f, j]; exact Ac)) (ws [])
      · exact Lf Aa (Ev (by simp only [go_sem, c, f]; exact Ac)) (ws [])
    · exact Lf Aa (Ev (by simp only [go_sem, c]; exact Ac)) (ws [])
  intro ae
  exact Sr <|Rr
theorem Fh {a r} (h : Bt a = some r) : Con B 4 [.agg [i64 a.Kind, i64 a.Ref.Railway, i64 a.Ref.No, i64 a.Wagon, i64 a.Place, i64 a.Other, i64 a.Number, i64 a.From, i64 a.To, i64 a.Code, i64 a.Dest, i64 a.Class, i64 a.Weight, i64 a.Amount, .str a.Text, .sl false (L Ab a.Parts)]] [] (fun r' σ' => r' = .bool r ∧ σ' = []) := by
  refine Cw 37 [.tmp 2] Tryz.func4 (fun F hE => ?_) h
  unfold Bt
  refine T0 [1] ?_
  refine Sq ?_
  refine Bd fun n e => ?_
  refine Te [1, 8] (o1 7 (P5 e)) Ev ?_
  refine Cd ?_ ?_
  · refine T0 [2] ?_
    exact Sr <|Tr <|Rr
  · refine Sk <|Tn <|Sq <|?_
    refine Bd fun o f => ?_
    refine Te [1, 11] (o1 10 (Ol f)) Ev ?_
    refine Cd ?_ ?_
    · refine T0 [2] ?_
      exact Sr <|Tr <|Rr
    · refine Sk <|Tn <|?_
      refine Bd fun p g => ?_
      refine Te [1, 3, 4] (o1 14 (Fb g)) Ev ?_
      refine Bd fun q i => ?_
      refine Te [1, 3, 4, 5, 6] (o1 19 (Qf i)) Ev ?_
      refine Dw [[], [], [0, 1], [0, 1, 2], [0, 1, 2, 3], [0, 1, 2, 3], [0, 1, 2, 3, 4, 5], [0, 1, 2, 3, 4, 5, 6], [0, 1, 2, 3, 4, 5, 6, 7], [0, 1, 2, 3, 4, 5, 6, 7, 8], [0, 1, 2, 3, 4, 5, 6, 7, 8, 9], [0, 1, 2, 3, 4, 5, 6, 7, 8], [0, 1, 2, 3, 4, 5, 6, 7, 8, 9, 10, 11], [0, 1, 2, 3, 4, 5, 6, 7, 8, 9, 10, 11, 12], [0, 1, 2, 3, 4, 5, 6, 7, 8, 9, 10, 11, 12, 13], [0, 1, 2, 3, 4, 5, 6, 7, 8, 9, 10, 11, 12, 13, 14]] [2] (fun d => ⟨As 37 [(2, .bool d)], []⟩) ?_ ?_
      · intro _
        refine Sp (fun b => ?_) fun b => ?_
        · refine Sp (fun c => ?_) fun c => ?_
          · refine Bd fun s j => ?_
            refine Bd fun t k => ?_
            refine Bd fun u m => ?_
            exact Lf (Ds (l := [(32, _, _, _), (34, _, _, _), (35, _, _, _)]) ⟨Ib  j, Ry  k, Tc  m, trivial⟩) (Ev (by simp only [go_sem, b, c]; exact Ac)) (ws [])
          · exact Lf Aa (Ev (by simp only [go_sem, b, c]; exact Ac)) (ws [])
        · exact Lf Aa (Ev (by simp only [go_sem, b]; exact Ac)) (ws [])
      intro d
      exact Sr <|Rr
end Go.Proofs.YtnfoiocigicdnaaGreatDoor
