/-
  Part 47.
-/
import Derived.Test.YtnfoiocigicdnaaGreatDoorYV43
import Derived.Test.YtnfoiocigicdnaaGreatDoorYV44
import Derived.Test.YtnfoiocigicdnaaGreatDoorYV45
import Derived.Test.YtnfoiocigicdnaaGreatDoorYV46
import Derived.KernelRfl
namespace Go.Proofs.YtnfoiocigicdnaaGreatDoor
open Go.Rv
set_option linter.unusedVariables false
set_option linter.unusedSimpArgs false
set_option maxRecDepth 20000
set_option maxHeartbeats 4000000
theorem N4 {a r} (h : J8 a = some r) : Con B 87 [.agg [i64 a.Kind, i64 a.Railway, i64 a.Other]] [] (fun r' σ' => r' = .bool r ∧ σ' = []) := by
 refine Cw 42 [.tmp 2] Tryz.func87 (fun F hE => ?_) h
 unfold J8
 refine T0 [1] ?_
 refine Sq ?_
 refine Tw [1, 20] (fun g => ⟨Am 42 [(1, .ref 0 0), (20, .bool g)], [.box [i64 a.Kind, i64 a.Railway, i64 a.Other] false]⟩) ?_ ?_
 ·intro _
  refine Sp (fun b => ?_) fun b => ?_
  ·exact Lf Aa (Ev (by simp only [go_sem, b]; exact Ad)) (ws [0])
  ·refine Sp (fun c => ?_) fun c => ?_
   ·exact Lf Aa (Ev (by simp only [go_sem, b, c]; exact Ad)) (ws [0])
   ·refine Sp (fun e => ?_) fun e => ?_
    ·exact Lf Aa (Ev (by simp only [go_sem, b, c, e]; exact Ad)) (ws [0])
    ·exact Lf Aa (Ev (by simp only [go_sem, b, c, e]; exact Ad)) (ws [0])
 intro g
 refine Cd ?_ ?_
 ·refine T0 [2] ?_
  exact Sr <|Tr <|Rr
 ·refine Sk <|Tn <|Sq <|T0 [1, 23] ?_
  refine Cd ?_ ?_
  ·refine T0 [2] ?_
   exact Sr <|Tr <|Rr
  ·refine Sk <|Tn <|?_
   refine Tw [2] (fun i => ⟨Am 42 [(2, .bool i)], []⟩) ?_ ?_
   ·intro _
    refine Sp (fun d => ?_) fun d => ?_
    ·refine Sp (fun f => ?_) fun f => ?_
     ·exact Lf Aa (Ev (by simp only [go_sem, d, f]; exact Ad)) (ws [])
     ·exact Lf Aa (Ev (by simp only [go_sem, d, f]; exact Ad)) (ws [])
    ·exact Lf Aa (Ev (by simp only [go_sem, d]; exact Ad)) (ws [])
   intro i
   exact Sr <|Rr
theorem N7 {a r} (h : Jv a = some r) : Con B 39 [.agg [.sl false (L Ai a.Places), .sl false (L Ay a.Edges)]] [] (fun r' σ' => r' = i64 r ∧ σ' = []) := by
 refine Cw 84 [.tmp 2] Tryz.func39 (fun F hE => ?_) h
 unfold Jv
 refine T0 [1] ?_
 refine Lt fun b i =>Te (fr' := [(1, _), (3, i64 b)]) [1, 3] Aa (Ev (by simp only [go_sem, i]; exact Ad)) ?_
 refine Sq ?_
 refine Tw [1, 3, 18] (fun e => ⟨Am 84 [(1, .ref 0 0), (3, i64 b), (18, .bool e)], [.box [.sl false (L Ai a.Places), .sl false (L Ay a.Edges)] false]⟩) ?_ ?_
 ·intro _
  refine Sp (fun c => ?_) fun c => ?_
  ·exact Lf Aa (Ev (by simp only [go_sem, c]; exact Ad)) (ws [0])
  ·exact Lf Aa (Ev (by simp only [go_sem, c]; exact Ad)) (ws [0])
 intro e
 refine Cd ?_ ?_
 ·refine T0 [2] ?_
  exact Sr <|Tr <|Rr
 ·refine Sk <|Tn <|?_
  refine Jo (fun _ => ⟨Am 84 [(1, .ref 0 0), (3, i64 b)], [.box [.sl false (L Ai a.Places), .sl false (L Ay a.Edges)] false]⟩) ?_ ?_
  ·intro ac j
   refine T0 [1, 3, 20, 21, 22] ?_
   refine Sb ?_
   refine Lo (fun d => ⟨Am 84 [(1, .ref 0 0), (3, i64 b), (20, .sl false (L Ai a.Places)), (21, i64 (a.Places.length : Int)), (22, i64 d)], [.box [.sl false (L Ai a.Places), .sl false (L Ay a.Edges)] false]⟩) (ws [0]) ?_
   rintro d ad k f g
   show Gy a d = some k → _
   unfold Gy
   refine T0 [1, 3, 20, 21, 22, 23] ?_
   refine Sq <|Cd ?_ ?_
   ·refine Sk <|Tn <|Sq <|Sb <|Ck fun l =>Lt fun m n =>Lt fun o p =>Lt fun q s =>Te (σ' := [_, .box [i64 m, i64 o, i64 q] false]) [1, 3, 5, 20, 21, 22] Aa (Ev (by simp only [go_sem, qR l, n, p, s]; exact Ad)) ?_
    refine Bd fun ae t =>Te [1, 3, 20, 21, 22, 28] (o1 27 (N4 t)) Ev ?_
    refine Cd ?_ ?_
    ·refine T0 [2] ?_
     exact Sr <|Br <|Tr <|Lr g f <|Br <|Jr j <|Rr
    ·refine Sk <|Bn <|Tn <|F0 [1, 3, 20, 21, 22] ?_
     exact Ln (ws [0])
   ·refine Sx <|Tx <|Lx g f <|Bx <|?_
    exact Jn ((ws (l' := [(1, .ref 0 0), (3, i64 b)]) (σ' := [.box [.sl false (L Ai a.Places), .sl false (L Ay a.Edges)] false]) [0]).trans (ws [0]))
  intro _
  refine Ja (fun _ => ⟨Am 84 [], []⟩) ?_ ?_
  ·intro af
   refine T0 [3, 31, 32, 33] ?_
   refine Sb ?_
   refine Lo (fun _ => ⟨Am 84 [(3, i64 b), (31, .sl false (L Ay a.Edges)), (32, i64 (a.Edges.length : Int)), (33, i64 0)], []⟩) (ws []) ?_
   rintro ⟨⟩ ag u v w
   show Gv a  = some u → _
   unfold Gv
   refine T0 [3, 31, 32, 33, 34] ?_
   refine Sq <|Cd ?_ ?_
   ·refine Sk <|Tn <|Sq <|Sb <|Ck fun x =>Lt fun y z =>Lt fun aa ab =>Te (σ' := [.box [i64 ((nth a.Edges 0).A), i64 ((nth a.Edges 0).B), i64 y, i64 aa, i64 ((nth a.Edges 0).Km)] false]) [3, 7, 31, 32, 33] Aa (Ev (by simp only [go_sem, qL x, z, ab]; exact Ad)) ?_
    exact Rn
   ·refine Sx <|Tx <|Ly w v <|Bx <|?_
    exact Jm ((ws (l' := []) (σ' := []) []).trans (ws []))
  intro _
  refine T0 [2] ?_
  exact Sr <|Rr
theorem Cz {b c d r} (h : G8 b c d = some r) : Con B 41 [i64 b, i64 c, i64 d] [] (fun r' σ' => r' = .bool r ∧ σ' = []) := by
 refine Cw 15 [.tmp 6] Tryz.func41 (fun F hE => ?_) h
 unfold G8
 refine T0 [0, 1, 2] ?_
 refine Tw [6] (fun e => ⟨Am 15 [(6, .bool e)], []⟩) ?_ ?_
 ·intro _
  refine Sp (fun a => ?_) fun a => ?_
  ·exact Lf Aa (Ev (by simp only [go_sem, a]; exact Ad)) (ws [])
  ·exact Lf Aa (Ev (by simp only [go_sem, a]; exact Ad)) (ws [])
 intro e
 exact Sr <|Rr
open Go.RowKit in
theorem U0 {w : World} {pr : Addr → Prop} {g : Gh} {v : Value} {f : Bool} {els : List (List AV)} (h : Rep w pr g v (.sl f els)) (h0 : els.length = 0) : ∃ a c, v = .slice a 0 c := by
  cases h with
  | sl _ a len cap _ _ k c hlen hcap hfull hnone hk hc hr =>
    have : len = 0 := by omega
    subst this
    exact ⟨a, cap, rfl⟩
open Go.RowKit in
theorem R0 {f : Api_Fleet} {r : Int} (h : Mn f = some r) : Con B 40 [.agg [.sl false (L Aj f.Types), .sl false (L Av f.Wagons), .sl false (L Bf f.Swaps), .sl false (L Bg f.Washes)]] [] (fun r' σ' => r' = i64 r ∧ σ' = []) := by
  unfold Mn at h
  split at h
  case isFalse => cases h
  rename_i hl
  obtain ⟨hl1, hl2, hl3, hl4⟩ := hl
  simp only [Option.some.injEq] at h
  subst h
  refine ⟨fun F w g vs hm ha => .inl ⟨⟨Tryz.f40, _, Tryz.func40, rfl, by decide +kernel⟩, ?_⟩⟩
  have hg : g = [] := List.length_eq_zero_iff.1 hm.len
  subst hg
  obtain ⟨vs⟩ := vs
  match vs, ha with
  | [u], ⟨h1, _⟩ =>
    cases h1 with
    | agg _ us _ hs ho hr =>
      obtain ⟨us⟩ := us
      match us, hs with
      | [v1, v2, v3, v4], _ =>
        obtain ⟨a1, c1, e1⟩ := U0 (hr 0 _ rfl) (by simpa [L] using hl1)
        obtain ⟨a2, c2, e2⟩ := U0 (hr 1 _ rfl) (by simpa [L] using hl2)
        obtain ⟨a3, c3, e3⟩ := U0 (hr 2 _ rfl) (by simpa [L] using hl3)
        obtain ⟨a4, c4, e4⟩ := U0 (hr 3 _ rfl) (by simpa [L] using hl4)
        have e1' : v1 = .slice a1 0 c1 := e1
        have e2' : v2 = .slice a2 0 c2 := e2
        have e3' : v3 = .slice a3 0 c3 := e3
        have e4' : v4 = .slice a4 0 c4 := e4
        subst e1' e2' e3' e4'
        refine (Ps a1 a2 a3 a4 c1 c2 c3 c4 w).mono ?_
        rintro e w' ⟨rfl, hb2⟩
        exact ⟨_, _, [], [], rfl, ⟨rfl, rfl⟩, I4 hm hb2, Hx hb2, .int _ _ _⟩
theorem Mj {a r} (h : Hs a = some r) : Con B 16 [.agg [.sl false (L Ai a.Network.Places), .sl false (L Ay a.Network.Edges), .sl false (L Aj a.Fleet.Types), .sl false (L Av a.Fleet.Wagons), .sl false (L Bf a.Fleet.Swaps), .sl false (L Bg a.Fleet.Washes), .sl false (L Aq a.Readers), .sl false (L Al a.Shippers), .sl false (L Af a.Railways)]] [] (fun r' σ' => r' = i64 r ∧ σ' = []) := by
 refine Cw 193 [.tmp 2] Tryz.func16 (fun F hE => ?_) h
 unfold Hs
 refine T0 [1] ?_
 refine Sq <|Bd fun bX ao =>Te [1, 3] (o1 22 (N7 ao)) Ev ?_
 refine T0 [1, 3, 24] ?_
 refine Cd ?_ ?_
 ·refine T0 [2] ?_
  exact Sr <|Tr <|Rr
 ·refine Sk <|Tn <|Sq <|Bd fun bY ap =>Te [1, 4] (o1 28 (R0 ap)) Ev ?_
  refine T0 [1, 4, 30] ?_
  refine Cd ?_ ?_
  ·refine T0 [2] ?_
   exact Sr <|Tr <|Rr
  ·refine Sk <|Tn <|Sq <|?_
   refine Tw [1, 47] (fun s => ⟨Am 193 [(1, .ref 0 0), (47, .bool s)], [.box [.sl false (L Ai a.Network.Places), .sl false (L Ay a.Network.Edges), .sl false (L Aj a.Fleet.Types), .sl false (L Av a.Fleet.Wagons), .sl false (L Bf a.Fleet.Swaps), .sl false (L Bg a.Fleet.Washes), .sl false (L Aq a.Readers), .sl false (L Al a.Shippers), .sl false (L Af a.Railways)] false]⟩) ?_ ?_
   ·intro _
    refine Sp (fun f => ?_) fun f => ?_
    ·exact Lf Aa (Ev (by simp only [go_sem, f]; exact Ad)) (ws [0])
    ·refine Sp (fun l => ?_) fun l => ?_
     ·exact Lf Aa (Ev (by simp only [go_sem, f, l]; exact Ad)) (ws [0])
     ·exact Lf Aa (Ev (by simp only [go_sem, f, l]; exact Ad)) (ws [0])
   intro s
   refine Cd ?_ ?_
   ·refine T0 [2] ?_
    exact Sr <|Tr <|Rr
   ·refine Sk <|Tn <|Lt fun b aq =>De (fr' := [(1, _), (5, _), (6, i64 b)]) [[], [0], [0, 1], [], [3], [3, 4], [0, 1, 2], [0, 1, 2, 3, 4, 5, 6]] [1, 5, 6] Aa (Ev (by simp only [go_sem, aq]; exact Ad)) ?_
    refine T0 [1, 5, 6, 7] ?_
    refine Ja (fun t => ⟨Am 193 [(1, .ref 0 0), (5, .sl false (L Ai a.Network.Places)), (6, i64 b), (7, .bool t)], [.box [.sl false (L Ai a.Network.Places), .sl false (L Ay a.Network.Edges), .sl false (L Aj a.Fleet.Types), .sl false (L Av a.Fleet.Wagons), .sl false (L Bf a.Fleet.Swaps), .sl false (L Bg a.Fleet.Washes), .sl false (L Aq a.Readers), .sl false (L Al a.Shippers), .sl false (L Af a.Railways)] false]⟩) ?_ ?_
    ·intro bZ
     refine T0 [1, 5, 6, 7, 57, 58, 59] ?_
     refine Sb ?_
     refine Lo (fun (v : Bool × Int) => (⟨Am 193 [(1, .ref 0 0), (5, .sl false (L Ai a.Network.Places)), (6, i64 b), (7, .bool v.1), (57, .sl false (L Aq a.Readers)), (58, i64 (a.Readers.length : Int)), (59, i64 v.2)], [.box [.sl false (L Ai a.Network.Places), .sl false (L Ay a.Network.Edges), .sl false (L Aj a.Fleet.Types), .sl false (L Av a.Fleet.Wagons), .sl false (L Bf a.Fleet.Swaps), .sl false (L Bg a.Fleet.Washes), .sl false (L Aq a.Readers), .sl false (L Al a.Shippers), .sl false (L Af a.Railways)] false]⟩ : St)) (ws [0]) ?_
     rintro ⟨u, w⟩ b0 ar au av
     show E9 a u w = some ar → _
     unfold E9
     refine T0 [1, 5, 6, 7, 57, 58, 59, 60] ?_
     refine Sq <|Cd ?_ ?_
     ·refine Sk <|Tn <|Sq <|Sb <|Ck fun aw =>Lt fun ax ay =>Lt fun az aA =>Lt fun aB aC =>Te (σ' := [_, .box [i64 ax, i64 az, i64 aB] false]) [1, 5, 6, 7, 9, 57, 58, 59] Aa (Ev (by simp only [go_sem, qR aw, ay, aA, aC]; exact Ad)) ?_
      refine Fw [1, 5, 6, 7, 57, 58, 59] (fun x => ⟨Am 193 [(1, .ref 0 0), (5, .sl false (L Ai a.Network.Places)), (6, i64 b), (7, .bool x), (57, .sl false (L Aq a.Readers)), (58, i64 (a.Readers.length : Int)), (59, i64 w)], [.box [.sl false (L Ai a.Network.Places), .sl false (L Ay a.Network.Edges), .sl false (L Aj a.Fleet.Types), .sl false (L Av a.Fleet.Wagons), .sl false (L Bf a.Fleet.Swaps), .sl false (L Bg a.Fleet.Washes), .sl false (L Aq a.Readers), .sl false (L Al a.Shippers), .sl false (L Af a.Railways)] false]⟩) ?_ ?_
      ·intro _
       refine Sp (fun c => ?_) fun c => ?_
       ·exact Lf Aa (Ev (by simp only [go_sem, c]; exact Ad)) (ws [0])
       ·refine Bd fun b1 g => ?_
        refine Sp (fun d => ?_) fun d => ?_
        ·exact Lf (o1 70 (Cz g)) (Ev (by simp only [go_sem, c, d]; exact Ad)) (ws [0])
        ·refine Sp (fun i => ?_) fun i => ?_
         ·exact Lf (o1 70 (Cz g)) (Ev (by simp only [go_sem, c, d, i]; exact Ad)) (ws [0])
         ·refine Sp (fun m => ?_) fun m => ?_
          ·exact Lf (o1 70 (Cz g)) (Ev (by simp only [go_sem, c, d, i, m]; exact Ad)) (ws [0])
          ·exact Lf (o1 70 (Cz g)) (Ev (by simp only [go_sem, c, d, i, m]; exact Ad)) (ws [0])
      intro x
      refine Bn <|Tn <|F0 [1, 5, 6, 7, 57, 58, 59] ?_
      exact Ln (ws [0])
     ·refine Sx <|Tx <|Ly av au <|Bx <|?_
      exact Jm ((ws (l' := [(1, .ref 0 0), (5, .sl false (L Ai a.Network.Places)), (6, i64 b), (7, .bool u)]) (σ' := [.box [.sl false (L Ai a.Network.Places), .sl false (L Ay a.Network.Edges), .sl false (L Aj a.Fleet.Types), .sl false (L Av a.Fleet.Wagons), .sl false (L Bf a.Fleet.Swaps), .sl false (L Bg a.Fleet.Washes), .sl false (L Aq a.Readers), .sl false (L Al a.Shippers), .sl false (L Af a.Railways)] false]) [0]).trans (ws [0]))
    intro t
    refine Ja (fun y => ⟨Am 193 [(1, .ref 0 0), (5, .sl false (L Ai a.Network.Places)), (6, i64 b), (7, .bool y)], [.box [.sl false (L Ai a.Network.Places), .sl false (L Ay a.Network.Edges), .sl false (L Aj a.Fleet.Types), .sl false (L Av a.Fleet.Wagons), .sl false (L Bf a.Fleet.Swaps), .sl false (L Bg a.Fleet.Washes), .sl false (L Aq a.Readers), .sl false (L Al a.Shippers), .sl false (L Af a.Railways)] false]⟩) ?_ ?_
    ·intro b2
     refine T0 [1, 5, 6, 7, 92, 93, 94] ?_
     refine Sb ?_
     refine Lo (fun (v : Bool × Int) => (⟨Am 193 [(1, .ref 0 0), (5, .sl false (L Ai a.Network.Places)), (6, i64 b), (7, .bool v.1), (92, .sl false (L Al a.Shippers)), (93, i64 (a.Shippers.length : Int)), (94, i64 v.2)], [.box [.sl false (L Ai a.Network.Places), .sl false (L Ay a.Network.Edges), .sl false (L Aj a.Fleet.Types), .sl false (L Av a.Fleet.Wagons), .sl false (L Bf a.Fleet.Swaps), .sl false (L Bg a.Fleet.Washes), .sl false (L Aq a.Readers), .sl false (L Al a.Shippers), .sl false (L Af a.Railways)] false]⟩ : St)) (ws [0]) ?_
     rintro ⟨z, aa⟩ b3 aD aE aF
     show Fg a z aa = some aD → _
     unfold Fg
     refine T0 [1, 5, 6, 7, 92, 93, 94, 95] ?_
     refine Sq <|Cd ?_ ?_
     ·refine Sk <|Tn <|Sq <|Sb <|Ck fun aG =>Lt fun aH aI =>Te (σ' := [_, .box [i64 aH] false]) [1, 5, 6, 7, 11, 92, 93, 94] Aa (Ev (by simp only [go_sem, qR aG, aI]; exact Ad)) ?_
      refine Fw [1, 5, 6, 7, 92, 93, 94] (fun ab => ⟨Am 193 [(1, .ref 0 0), (5, .sl false (L Ai a.Network.Places)), (6, i64 b), (7, .bool ab), (92, .sl false (L Al a.Shippers)), (93, i64 (a.Shippers.length : Int)), (94, i64 aa)], [.box [.sl false (L Ai a.Network.Places), .sl false (L Ay a.Network.Edges), .sl false (L Aj a.Fleet.Types), .sl false (L Av a.Fleet.Wagons), .sl false (L Bf a.Fleet.Swaps), .sl false (L Bg a.Fleet.Washes), .sl false (L Aq a.Readers), .sl false (L Al a.Shippers), .sl false (L Af a.Railways)] false]⟩) ?_ ?_
      ·intro _
       refine Sp (fun j => ?_) fun j => ?_
       ·exact Lf Aa (Ev (by simp only [go_sem, j]; exact Ad)) (ws [0])
       ·refine Bd fun b4 ac => ?_
        refine Sp (fun n => ?_) fun n => ?_
        ·exact Lf (o1 105 (Cz ac)) (Ev (by simp only [go_sem, j, n]; exact Ad)) (ws [0])
        ·refine Ck fun aJ => ?_
         exact Lf (o1 105 (Cz ac)) (Ev (by simp only [go_sem, j, n, qR aJ]; exact Ad)) (ws [0])
      intro ab
      refine Bn <|Tn <|F0 [1, 5, 6, 7, 92, 93, 94] ?_
      exact Ln (ws [0])
     ·refine Sx <|Tx <|Ly aF aE <|Bx <|?_
      exact Jm ((ws (l' := [(1, .ref 0 0), (5, .sl false (L Ai a.Network.Places)), (6, i64 b), (7, .bool z)]) (σ' := [.box [.sl false (L Ai a.Network.Places), .sl false (L Ay a.Network.Edges), .sl false (L Aj a.Fleet.Types), .sl false (L Av a.Fleet.Wagons), .sl false (L Bf a.Fleet.Swaps), .sl false (L Bg a.Fleet.Washes), .sl false (L Aq a.Readers), .sl false (L Al a.Shippers), .sl false (L Af a.Railways)] false]) [0]).trans (ws [0]))
    intro y
    refine Ja (fun ad => ⟨Am 193 [(1, .ref 0 0), (5, .sl false (L Ai a.Network.Places)), (6, i64 b), (7, .bool ad)], [.box [.sl false (L Ai a.Network.Places), .sl false (L Ay a.Network.Edges), .sl false (L Aj a.Fleet.Types), .sl false (L Av a.Fleet.Wagons), .sl false (L Bf a.Fleet.Swaps), .sl false (L Bg a.Fleet.Washes), .sl false (L Aq a.Readers), .sl false (L Al a.Shippers), .sl false (L Af a.Railways)] false]⟩) ?_ ?_
    ·intro b5
     refine T0 [1, 5, 6, 7, 120, 121, 122] ?_
     refine Sb ?_
     refine Lo (fun (v : Bool × Int) => (⟨Am 193 [(1, .ref 0 0), (5, .sl false (L Ai a.Network.Places)), (6, i64 b), (7, .bool v.1), (120, .sl false (L Av a.Fleet.Wagons)), (121, i64 (a.Fleet.Wagons.length : Int)), (122, i64 v.2)], [.box [.sl false (L Ai a.Network.Places), .sl false (L Ay a.Network.Edges), .sl false (L Aj a.Fleet.Types), .sl false (L Av a.Fleet.Wagons), .sl false (L Bf a.Fleet.Swaps), .sl false (L Bg a.Fleet.Washes), .sl false (L Aq a.Readers), .sl false (L Al a.Shippers), .sl false (L Af a.Railways)] false]⟩ : St)) (ws [0]) ?_
     rintro ⟨ae, af⟩ b6 aK aL aM
     show Fd a ae af = some aK → _
     unfold Fd
     refine T0 [1, 5, 6, 7, 120, 121, 122, 123] ?_
     refine Sq <|Cd ?_ ?_
     ·refine Sk <|Tn <|Sq <|Sb <|Ck fun aN =>Lt fun aO aP =>Lt fun aQ aR =>Lt fun aS aT =>Lt fun aU aV =>Lt fun aW aX =>Te (σ' := [_, .box [i64 aO, i64 aQ, i64 aS, i64 aU, i64 aW] false]) [1, 5, 6, 7, 13, 120, 121, 122] Aa (Ev (by simp only [go_sem, qR aN, aP, aR, aT, aV, aX]; exact Ad)) ?_
      refine Fw [1, 5, 6, 7, 120, 121, 122] (fun ag => ⟨Am 193 [(1, .ref 0 0), (5, .sl false (L Ai a.Network.Places)), (6, i64 b), (7, .bool ag), (120, .sl false (L Av a.Fleet.Wagons)), (121, i64 (a.Fleet.Wagons.length : Int)), (122, i64 af)], [.box [.sl false (L Ai a.Network.Places), .sl false (L Ay a.Network.Edges), .sl false (L Aj a.Fleet.Types), .sl false (L Av a.Fleet.Wagons), .sl false (L Bf a.Fleet.Swaps), .sl false (L Bg a.Fleet.Washes), .sl false (L Aq a.Readers), .sl false (L Al a.Shippers), .sl false (L Af a.Railways)] false]⟩) ?_ ?_
      ·intro _
       refine Sp (fun o => ?_) fun o => ?_
       ·exact Lf Aa (Ev (by simp only [go_sem, o]; exact Ad)) (ws [0])
       ·exact Lf Aa (Ev (by simp only [go_sem, o]; exact Ad)) (ws [0])
      intro ag
      refine Bn <|Tn <|F0 [1, 5, 6, 7, 120, 121, 122] ?_
      exact Ln (ws [0])
     ·refine Sx <|Tx <|Ly aM aL <|Bx <|?_
      exact Jm ((ws (l' := [(1, .ref 0 0), (5, .sl false (L Ai a.Network.Places)), (6, i64 b), (7, .bool ae)]) (σ' := [.box [.sl false (L Ai a.Network.Places), .sl false (L Ay a.Network.Edges), .sl false (L Aj a.Fleet.Types), .sl false (L Av a.Fleet.Wagons), .sl false (L Bf a.Fleet.Swaps), .sl false (L Bg a.Fleet.Washes), .sl false (L Aq a.Readers), .sl false (L Al a.Shippers), .sl false (L Af a.Railways)] false]) [0]).trans (ws [0]))
    intro ad
    refine Ja (fun ah => ⟨Am 193 [(1, .ref 0 0), (6, i64 b), (7, .bool ah)], [.box [.sl false (L Ai a.Network.Places), .sl false (L Ay a.Network.Edges), .sl false (L Aj a.Fleet.Types), .sl false (L Av a.Fleet.Wagons), .sl false (L Bf a.Fleet.Swaps), .sl false (L Bg a.Fleet.Washes), .sl false (L Aq a.Readers), .sl false (L Al a.Shippers), .sl false (L Af a.Railways)] false]⟩) ?_ ?_
    ·intro b7
     refine T0 [1, 6, 7, 135, 136, 137] ?_
     refine Sb ?_
     refine Lo (fun (v : Bool × Int) => (⟨Am 193 [(1, .ref 0 0), (6, i64 b), (7, .bool v.1), (135, .sl false (L Ai a.Network.Places)), (136, i64 (a.Network.Places.length : Int)), (137, i64 v.2)], [.box [.sl false (L Ai a.Network.Places), .sl false (L Ay a.Network.Edges), .sl false (L Aj a.Fleet.Types), .sl false (L Av a.Fleet.Wagons), .sl false (L Bf a.Fleet.Swaps), .sl false (L Bg a.Fleet.Washes), .sl false (L Aq a.Readers), .sl false (L Al a.Shippers), .sl false (L Af a.Railways)] false]⟩ : St)) (ws [0]) ?_
     rintro ⟨ai, aj⟩ b8 aY aZ a0
     show E7 a b ai aj = some aY → _
     unfold E7
     refine T0 [1, 6, 7, 135, 136, 137, 138] ?_
     refine Sq <|Cd ?_ ?_
     ·refine Sk <|Tn <|Sq <|Sb <|Ck fun a1 =>Lt fun a2 a3 =>Lt fun a4 a5 =>Lt fun a6 a7 =>Te (σ' := [_, .box [i64 a2, i64 a4, i64 a6] false]) [1, 6, 7, 15, 135, 136, 137] Aa (Ev (by simp only [go_sem, qR a1, a3, a5, a7]; exact Ad)) ?_
      refine Fw [1, 6, 7, 135, 136, 137] (fun ak => ⟨Am 193 [(1, .ref 0 0), (6, i64 b), (7, .bool ak), (135, .sl false (L Ai a.Network.Places)), (136, i64 (a.Network.Places.length : Int)), (137, i64 aj)], [.box [.sl false (L Ai a.Network.Places), .sl false (L Ay a.Network.Edges), .sl false (L Aj a.Fleet.Types), .sl false (L Av a.Fleet.Wagons), .sl false (L Bf a.Fleet.Swaps), .sl false (L Bg a.Fleet.Washes), .sl false (L Aq a.Readers), .sl false (L Al a.Shippers), .sl false (L Af a.Railways)] false]⟩) ?_ ?_
      ·intro _
       refine Sp (fun k => ?_) fun k => ?_
       ·exact Lf Aa (Ev (by simp only [go_sem, k]; exact Ad)) (ws [0])
       ·refine Sp (fun p => ?_) fun p => ?_
        ·exact Lf Aa (Ev (by simp only [go_sem, k, p]; exact Ad)) (ws [0])
        ·exact Lf Aa (Ev (by simp only [go_sem, k, p]; exact Ad)) (ws [0])
      intro ak
      refine Bn <|Tn <|F0 [1, 6, 7, 135, 136, 137] ?_
      exact Ln (ws [0])
     ·refine Sx <|Tx <|Ly a0 aZ <|Bx <|?_
      exact Jm ((ws (l' := [(1, .ref 0 0), (6, i64 b), (7, .bool ai)]) (σ' := [.box [.sl false (L Ai a.Network.Places), .sl false (L Ay a.Network.Edges), .sl false (L Aj a.Fleet.Types), .sl false (L Av a.Fleet.Wagons), .sl false (L Bf a.Fleet.Swaps), .sl false (L Bg a.Fleet.Washes), .sl false (L Aq a.Readers), .sl false (L Al a.Shippers), .sl false (L Af a.Railways)] false]) [0]).trans (ws [0]))
    intro ah
    refine Ja (fun e => ⟨Am 193 [(1, .ref 0 0), (7, .bool e)], [.box [.sl false (L Ai a.Network.Places), .sl false (L Ay a.Network.Edges), .sl false (L Aj a.Fleet.Types), .sl false (L Av a.Fleet.Wagons), .sl false (L Bf a.Fleet.Swaps), .sl false (L Bg a.Fleet.Washes), .sl false (L Aq a.Readers), .sl false (L Al a.Shippers), .sl false (L Af a.Railways)] false]⟩) ?_ ?_
    ·intro b9
     refine T0 [1, 6, 7, 157, 158, 159] ?_
     refine Sb ?_
     refine Lo (fun (v : Bool × Int) => (⟨Am 193 [(1, .ref 0 0), (6, i64 b), (7, .bool v.1), (157, .sl false (L Ay a.Network.Edges)), (158, i64 (a.Network.Edges.length : Int)), (159, i64 v.2)], [.box [.sl false (L Ai a.Network.Places), .sl false (L Ay a.Network.Edges), .sl false (L Aj a.Fleet.Types), .sl false (L Av a.Fleet.Wagons), .sl false (L Bf a.Fleet.Swaps), .sl false (L Bg a.Fleet.Washes), .sl false (L Aq a.Readers), .sl false (L Al a.Shippers), .sl false (L Af a.Railways)] false]⟩ : St)) (ws [0]) ?_
     rintro ⟨al, am⟩ ca a8 a9 ba
     show Fk a b al am = some a8 → _
     unfold Fk
     refine T0 [1, 6, 7, 157, 158, 159, 160] ?_
     refine Sq <|Cd ?_ ?_
     ·refine Sk <|Tn <|Sq <|Sb <|Ck fun bb =>Lt fun bc bd =>Lt fun be bf =>Lt fun bg bh =>Lt fun bi bj =>Lt fun bk bl =>Te (σ' := [_, .box [i64 bc, i64 be, i64 bg, i64 bi, i64 bk] false]) [1, 6, 7, 17, 157, 158, 159] Aa (Ev (by simp only [go_sem, qR bb, bd, bf, bh, bj, bl]; exact Ad)) ?_
      refine Fw [1, 6, 7, 157, 158, 159] (fun an => ⟨Am 193 [(1, .ref 0 0), (6, i64 b), (7, .bool an), (157, .sl false (L Ay a.Network.Edges)), (158, i64 (a.Network.Edges.length : Int)), (159, i64 am)], [.box [.sl false (L Ai a.Network.Places), .sl false (L Ay a.Network.Edges), .sl false (L Aj a.Fleet.Types), .sl false (L Av a.Fleet.Wagons), .sl false (L Bf a.Fleet.Swaps), .sl false (L Bg a.Fleet.Washes), .sl false (L Aq a.Readers), .sl false (L Al a.Shippers), .sl false (L Af a.Railways)] false]⟩) ?_ ?_
      ·intro _
       refine Sp (fun q => ?_) fun q => ?_
       ·exact Lf Aa (Ev (by simp only [go_sem, q]; exact Ad)) (ws [0])
       ·exact Lf Aa (Ev (by simp only [go_sem, q]; exact Ad)) (ws [0])
      intro an
      refine Bn <|Tn <|F0 [1, 6, 7, 157, 158, 159] ?_
      exact Ln (ws [0])
     ·refine Sx <|Tx <|Ly ba a9 <|Bx <|?_
      exact Jm ((ws (l' := [(1, .ref 0 0), (7, .bool al)]) (σ' := [.box [.sl false (L Ai a.Network.Places), .sl false (L Ay a.Network.Edges), .sl false (L Aj a.Fleet.Types), .sl false (L Av a.Fleet.Wagons), .sl false (L Bf a.Fleet.Swaps), .sl false (L Bg a.Fleet.Washes), .sl false (L Aq a.Readers), .sl false (L Al a.Shippers), .sl false (L Af a.Railways)] false]) [0]).trans (ws [0]))
    intro e
    refine Ja (fun _ => ⟨Am 193 [(7, .bool e)], []⟩) ?_ ?_
    ·intro cb
     refine T0 [7, 172, 173, 174] ?_
     refine Sb ?_
     refine Lo (fun _ => ⟨Am 193 [(7, .bool e), (172, .sl false (L Af a.Railways)), (173, i64 (a.Railways.length : Int)), (174, i64 0)], []⟩) (ws []) ?_
     rintro ⟨⟩ cc bm bn bo
     show Fb a  = some bm → _
     unfold Fb
     refine T0 [7, 172, 173, 174, 175] ?_
     refine Sq <|Cd ?_ ?_
     ·refine Sk <|Tn <|Sq <|Sb <|Ck fun bp =>Lt fun bq br =>Lt fun bs bt =>Lt fun bu bv =>Lt fun bw bx =>Lt fun bz bA =>Lt fun bB bC =>Lt fun bD bE =>Lt fun bF bG =>Lt fun bH bI =>Lt fun bJ bK =>Lt fun bL bM =>Lt fun bN bO =>Lt fun bP bQ =>Lt fun bR bS =>Lt fun bT bU =>Lt fun bV bW =>Te (σ' := [.box [u64 bq, i64 bs, i64 bu, i64 bw, i64 bz, i64 bB, i64 bD, i64 bF, i64 bH, i64 bJ, i64 bL, i64 bN, i64 bP, i64 bR, i64 bT, .sl false (L Nc bV)] false]) [7, 19, 172, 173, 174] Aa (Ev (by simp only [go_sem, qL bp, br, bt, bv, bx, bA, bC, bE, bG, bI, bK, bM, bO, bQ, bS, bU, bW]; exact Ad)) ?_
      exact Rn
     ·refine Sx <|Tx <|Ly bo bn <|Bx <|?_
      exact Jm ((ws (l' := [(7, .bool e)]) (σ' := []) []).trans (ws []))
    intro _
    refine Sq <|T0 [192] ?_
    refine Cd ?_ ?_
    ·refine T0 [2] ?_
     exact Sr <|Tr <|Rr
    ·refine Sk <|Tn <|T0 [2] ?_
     exact Sr <|Rr
theorem Vf {b a r} (h : Rp b a = some r) : Con B 15 [.agg [.sl false (L Ai b.Network.Places), .sl false (L Ay b.Network.Edges), .sl false (L Aj b.Fleet.Types), .sl false (L Av b.Fleet.Wagons), .sl false (L Bf b.Fleet.Swaps), .sl false (L Bg b.Fleet.Washes), .sl false (L Aq b.Readers), .sl false (L Al b.Shippers), .sl false (L Af b.Railways)], .agg [i64 a.Kind, i64 a.Ref.Railway, i64 a.Ref.No, i64 a.Wagon, i64 a.Place, i64 a.Other, i64 a.Number, i64 a.From, i64 a.To, i64 a.Code, i64 a.Dest, i64 a.Class, i64 a.Weight, i64 a.Amount, .str a.Text, .sl false (L Ac a.Parts)]] [] (fun r' σ' => r' = i64 r ∧ σ' = []) := by
 refine Cw 19 [.tmp 4] Tryz.func15 (fun F hE => ?_) h
 unfold Rp
 refine T0 [2, 3] ?_
 refine Sq <|Bd fun d c =>Te [2, 3, 4] (o1 6 (Mj c)) Ev ?_
 refine T0 [2, 3, 4, 8] ?_
 refine Cd ?_ ?_
 ·refine T0 [4] ?_
  exact Sr <|Tr <|Rr
 ·exact Sk <|Tn <|Sq <|Rn
theorem Bu {a e r} (h : Ee a e = some r) : Con B 35 [.agg [i64 a.Kind, i64 a.Ref.Railway, i64 a.Ref.No, i64 a.Wagon, i64 a.Place, i64 a.Other, i64 a.Number, i64 a.From, i64 a.To, i64 a.Code, i64 a.Dest, i64 a.Class, i64 a.Weight, i64 a.Amount, .str a.Text, .sl false (L Ac a.Parts)], .str e] [] (fun r' σ' => r' = .bool r ∧ σ' = []) := by
 refine Cw 35 [.tmp 4] Tryz.func35 (fun F hE => ?_) h
 unfold Ee
 refine T0 [1, 2] ?_
 refine Bd fun k g =>Te [1, 2, 5, 6] (o1 11 (Iy g)) Ev ?_
 refine Bd fun l i =>Te [1, 2, 5, 6, 7, 8] (o1 16 (Mx i)) Ev ?_
 refine Tw [4] (fun f => ⟨Am 35 [(4, .bool f)], []⟩) ?_ ?_
 ·intro _
  refine Sp (fun b => ?_) fun b => ?_
  ·refine Sp (fun c => ?_) fun c => ?_
   ·refine Sp (fun d => ?_) fun d => ?_
    ·refine Bd fun m j => ?_
     exact Lf (o1 33 (Cj j)) (Ev (by simp only [go_sem, b, c, d]; exact Ad)) (ws [])
    ·exact Lf Aa (Ev (by simp only [go_sem, b, c, d]; exact Ad)) (ws [])
   ·exact Lf Aa (Ev (by simp only [go_sem, b, c]; exact Ad)) (ws [])
  ·exact Lf Aa (Ev (by simp only [go_sem, b]; exact Ad)) (ws [])
 intro f
 exact Sr <|Rr
theorem Ah {b r} (h : Cx b = some r) : Con B 36 [.str b] [] (fun r' σ' => r' = .bool r ∧ σ' = []) := by
 refine Cw 17 [.tmp 2] Tryz.func36 (fun F hE => ?_) h
 unfold Cx
 refine T0 [0] ?_
 refine Bd fun f d =>Te [3, 4] (o1 7 (Mx d)) Ev ?_
 refine Tw [2] (fun c => ⟨Am 17 [(2, .bool c)], []⟩) ?_ ?_
 ·intro _
  refine Sp (fun a => ?_) fun a => ?_
  ·refine Bd fun g e => ?_
   exact Lf (o1 15 (Cj e)) (Ev (by simp only [go_sem, a]; exact Ad)) (ws [])
  ·exact Lf Aa (Ev (by simp only [go_sem, a]; exact Ad)) (ws [])
 intro c
 exact Sr <|Rr
theorem Tb {r} (h : law11_sane  = some r) : Con B 12 [] [] (fun r' σ' => r' = .bool r ∧ σ' = []) := by
 refine Cw 91 [.tmp 0] Tryz.func12 (fun F hE => ?_) h
 unfold law11_sane
 refine T0 [] ?_
 refine Lt fun a ag =>Te (σ' := [.buf 3 (L Ac a) false, .box [i64 10, i64 0, i64 0, i64 0, i64 0, i64 0, i64 0, i64 0, i64 0, i64 0, i64 0, i64 0, i64 0, i64 0, .str ([] : List UInt8), .bs true 0 (a.length) 0 (a.length)] false]) [1] Aa (Ev (by simp only [go_sem, ag]; exact Ad)) ?_
 refine Tw [1, 2] (fun v => ⟨Am 91 [(1, .ref 0 0), (2, .bool v)], [.box [i64 10, i64 0, i64 0, i64 0, i64 0, i64 0, i64 0, i64 0, i64 0, i64 0, i64 0, i64 0, i64 0, i64 0, .str ([] : List UInt8), .bs true 1 (a.length) 0 (a.length)] false, .buf 3 (L Ac a) false]⟩) ?_ ?_
 ·intro _
  refine Bd fun aq p => ?_
  refine Sp (fun k => ?_) fun k => ?_
  ·refine Bd fun ar w => ?_
   refine Sp (fun q => ?_) fun q => ?_
   ·refine Bd fun au ab => ?_
    refine Sp (fun x => ?_) fun x => ?_
    ·refine Bd fun av ah => ?_
     exact Lf (Gz (l := [(15, _, _, _), (19, _, _, _), (23, _, _, _), (27, _, _, _)]) ⟨Bu  p, Bu  w, Bu  ab, Bu  ah, trivial⟩) (Ev (by simp only [go_sem, k, q, x]; exact Ad)) (ws [1, 0])
    ·exact Lf (Gz (l := [(15, _, _, _), (19, _, _, _), (23, _, _, _)]) ⟨Bu  p, Bu  w, Bu  ab, trivial⟩) (Ev (by simp only [go_sem, k, q, x]; exact Ad)) (ws [1, 0])
   ·exact Lf (o2 15 (Bu p) 19 (Bu w)) (Ev (by simp only [go_sem, k, q]; exact Ad)) (ws [1, 0])
  ·exact Lf (o1 15 (Bu p)) (Ev (by simp only [go_sem, k]; exact Ad)) (ws [1, 0])
 intro v
 refine Bd fun ai aj =>Te [1, 2, 4] (o1 31 (Iy aj)) Ev ?_
 refine Bd fun ak al =>Te [1, 2, 4, 6] (o1 36 (Dk al)) Ev ?_
 refine Tw [1, 2, 4, 6, 7] (fun ac => ⟨Am 91 [(1, .ref 0 0), (2, .bool v), (4, i64 ai.2), (6, i64 ak.2), (7, .bool ac)], [.box [i64 10, i64 0, i64 0, i64 0, i64 0, i64 0, i64 0, i64 0, i64 0, i64 0, i64 0, i64 0, i64 0, i64 0, .str ([] : List UInt8), .bs true 1 (a.length) 0 (a.length)] false, .buf 3 (L Ac a) false]⟩) ?_ ?_
 ·intro _
  refine Bd fun aw d => ?_
  refine Sp (fun b => ?_) fun b => ?_
  ·refine Bd fun ax g => ?_
   refine Sp (fun e => ?_) fun e => ?_
   ·refine Bd fun ay m => ?_
    refine Sp (fun i => ?_) fun i => ?_
    ·refine Bd fun az s => ?_
     refine Sp (fun n => ?_) fun n => ?_
     ·refine Bd fun aA y => ?_
      refine Sp (fun t => ?_) fun t => ?_
      ·refine Bd fun aB ad => ?_
       refine Sp (fun z => ?_) fun z => ?_
       ·refine Bd fun aC am => ?_
        exact Lf (Gz (l := [(39, _, _, _), (41, _, _, _), (44, _, _, _), (47, _, _, _), (50, _, _, _), (53, _, _, _), (56, _, _, _)]) ⟨Ah  d, Ah  g, Ah  m, Ah  s, Ah  y, Ah  ad, Ah  am, trivial⟩) (Ev (by simp only [go_sem, b, e, i, n, t, z]; exact Ad)) (ws [0, 1])
       ·exact Lf (Gz (l := [(39, _, _, _), (41, _, _, _), (44, _, _, _), (47, _, _, _), (50, _, _, _), (53, _, _, _)]) ⟨Ah  d, Ah  g, Ah  m, Ah  s, Ah  y, Ah  ad, trivial⟩) (Ev (by simp only [go_sem, b, e, i, n, t, z]; exact Ad)) (ws [0, 1])
      ·exact Lf (Gz (l := [(39, _, _, _), (41, _, _, _), (44, _, _, _), (47, _, _, _), (50, _, _, _)]) ⟨Ah  d, Ah  g, Ah  m, Ah  s, Ah  y, trivial⟩) (Ev (by simp only [go_sem, b, e, i, n, t]; exact Ad)) (ws [0, 1])
     ·exact Lf (Gz (l := [(39, _, _, _), (41, _, _, _), (44, _, _, _), (47, _, _, _)]) ⟨Ah  d, Ah  g, Ah  m, Ah  s, trivial⟩) (Ev (by simp only [go_sem, b, e, i, n]; exact Ad)) (ws [0, 1])
    ·exact Lf (Gz (l := [(39, _, _, _), (41, _, _, _), (44, _, _, _)]) ⟨Ah  d, Ah  g, Ah  m, trivial⟩) (Ev (by simp only [go_sem, b, e, i]; exact Ad)) (ws [0, 1])
   ·exact Lf (o2 39 (Ah d) 41 (Ah g)) (Ev (by simp only [go_sem, b, e]; exact Ad)) (ws [0, 1])
  ·exact Lf (o1 39 (Ah d)) (Ev (by simp only [go_sem, b]; exact Ad)) (ws [0, 1])
 intro ac
 refine Bd fun aD an =>Bd fun aE ao =>Te [1, 2, 4, 6, 7, 8, 9] (o2 60 (Fi an) 61 (Dk ao)) Ev ?_
 refine Tw [0] (fun ae => ⟨Am 91 [(0, .bool ae)], []⟩) ?_ ?_
 ·intro _
  refine Sp (fun c => ?_) fun c => ?_
  ·refine Sp (fun f => ?_) fun f => ?_
   ·refine Sp (fun j => ?_) fun j => ?_
    ·refine Sp (fun o => ?_) fun o => ?_
     ·refine Sp (fun u => ?_) fun u => ?_
      ·refine Bd fun aF af => ?_
       refine Sp (fun aa => ?_) fun aa => ?_
       ·refine Bd fun aG ap => ?_
        exact Lf (o2 83 (Cj af) 88 (Vf ap)) (Ev (by simp only [go_sem, c, f, j, o, u, aa]; exact Ad)) (ws [])
       ·exact Lf (o1 83 (Cj af)) (Ev (by simp only [go_sem, c, f, j, o, u, aa]; exact Ad)) (ws [])
      ·exact Lf Aa (Ev (by simp only [go_sem, c, f, j, o, u]; exact Ad)) (ws [])
     ·exact Lf Aa (Ev (by simp only [go_sem, c, f, j, o]; exact Ad)) (ws [])
    ·exact Lf Aa (Ev (by simp only [go_sem, c, f, j]; exact Ad)) (ws [])
   ·exact Lf Aa (Ev (by simp only [go_sem, c, f]; exact Ad)) (ws [])
  ·exact Lf Aa (Ev (by simp only [go_sem, c]; exact Ad)) (ws [])
 intro ae
 exact Sr <|Rr
theorem Mh {a b r} (h : Fm a b = some r) : Con B 11 [.agg [i64 a.Kind, i64 a.Ref.Railway, i64 a.Ref.No, i64 a.Wagon, i64 a.Place, i64 a.Other, i64 a.Number, i64 a.From, i64 a.To, i64 a.Code, i64 a.Dest, i64 a.Class, i64 a.Weight, i64 a.Amount, .str a.Text, .sl false (L Ac a.Parts)], .agg [i64 b.Kind, i64 b.N, .sl false (L cU8 b.B), .sl false (L cApi_Value b.L)]] [] (fun r' σ' => r' = .bool r ∧ σ' = []) := by
 refine Cw 86 [.tmp 4] Tryz.func11 (fun F hE => ?_) h
 unfold Fm
 refine T0 [2, 3] ?_
 refine Sq <|Bd fun aa m =>Te [2, 3, 16] (o1 15 (Tb m)) Ev ?_
 refine Cd ?_ ?_
 ·refine T0 [4] ?_
  exact Sr <|Tr <|Rr
 ·refine Sk <|Tn <|Sq <|Bd fun ab n =>Te [2, 3, 19] (o1 18 (Ru n)) Ev ?_
  refine Cd ?_ ?_
  ·refine T0 [4] ?_
   exact Sr <|Tr <|Rr
  ·refine Sk <|Tn <|Bd fun ac o =>Bd fun ad p =>Te [2, 3, 5, 6] (o2 22 (Fi o) 23 (Dk p)) Ev ?_
   refine Bd fun ae q =>Bd fun af s =>Te [2, 3, 5, 6, 7, 8] (o2 28 (Fi q) 29 (Pf s)) Ev ?_
   refine Bd fun ag t =>Te [2, 3, 5, 6, 8, 9, 10] (o1 34 (Pn t)) Ev ?_
   refine Bd fun ah u =>Te [2, 3, 5, 6, 8, 10, 11, 12] (o1 39 (Dk u)) Ev ?_
   refine Sq ?_
   refine Tw [3, 67] (fun k => ⟨Am 86 [(3, .ref 0 0), (67, .bool k)], [.box [i64 b.Kind, i64 b.N, .sl false (L cU8 b.B), .sl false (L cApi_Value b.L)] false]⟩) ?_ ?_
   ·intro _
    refine Sp (fun c => ?_) fun c => ?_
    ·exact Lf Aa (Ev (by simp only [go_sem, c]; exact Ad)) (ws [1])
    ·refine Bd fun ai e => ?_
     refine Sp (fun d => ?_) fun d => ?_
     ·exact Lf (o1 47 (Cj e)) (Ev (by simp only [go_sem, c, d]; exact Ad)) (ws [1])
     ·refine Sp (fun f => ?_) fun f => ?_
      ·exact Lf (o1 47 (Cj e)) (Ev (by simp only [go_sem, c, d, f]; exact Ad)) (ws [1])
      ·refine Sp (fun g => ?_) fun g => ?_
       ·exact Lf (o1 47 (Cj e)) (Ev (by simp only [go_sem, c, d, f, g]; exact Ad)) (ws [1])
       ·refine Sp (fun i => ?_) fun i => ?_
        ·exact Lf (o1 47 (Cj e)) (Ev (by simp only [go_sem, c, d, f, g, i]; exact Ad)) (ws [1])
        ·refine Bd fun aj v => ?_
         exact Lf (o2 47 (Cj e) 65 (Cj v)) (Ev (by simp only [go_sem, c, d, f, g, i]; exact Ad)) (ws [1])
   intro k
   refine Cd ?_ ?_
   ·refine T0 [4] ?_
    exact Sr <|Tr <|Rr
   ·refine Sk <|Tn <|Bd fun ak w =>Te [3, 13, 14] (o1 70 (Dk w)) Ev ?_
    refine Sq <|T0 [3, 13, 14, 74] ?_
    refine Cd ?_ ?_
    ·refine Tw [4] (fun l => ⟨Am 86 [(4, .bool l)], []⟩) ?_ ?_
     ·intro _
      refine Sp (fun j => ?_) fun j => ?_
      ·refine Bd fun al x => ?_
       exact Lf (o1 80 (Cj x)) (Ev (by simp only [go_sem, j]; exact Ad)) (ws [])
      ·exact Lf Aa (Ev (by simp only [go_sem, j]; exact Ad)) (ws [])
     intro l
     exact Sr <|Tr <|Rr
    ·refine Sk <|Tn <|Bd fun am y =>Bd fun an z =>De [[], [0], [], [0, 1, 2], [0, 1, 2, 3]] [4] (o2 83 (Fi y) 85 (Ye z)) Ev ?_
     exact Sr <|Rr
set_option maxRecDepth 100000
def Aec (c : UInt8) (n : Int) : List (List UInt8) := if n = 0 then [] else [c :: Lib.itoa n]
def refE (r : Api_Ref) : List (List UInt8) := if r.Railway = 0 ∧ r.No = 0 then [] else [114 :: (Lib.itoa r.Railway ++ 46 :: Lib.itoa r.No)]
def AnP (t : List UInt8) : List (List UInt8) := if t = [] then [] else [120 :: esc t]
def fitE (b : Bool) : List UInt8 := if b then [49] else [48]
def Aom (x : Api_Part) : List UInt8 := 113 :: (Lib.itoa x.Kind ++ 46 :: (Lib.itoa x.Serial ++ 46 :: fitE x.Fitted))
def Apl (it : Api_Item) : List (List UInt8) := Aec 119 it.Wagon ++ Aec 112 it.Place ++ Aec 111 it.Other ++ Aec 110 it.Number ++ Aec 102 it.From ++ Aec 116 it.To ++ Aec 99 it.Code ++ Aec 100 it.Dest ++ Aec 107 it.Class ++ Aec 103 it.Weight ++ Aec 97 it.Amount
def els (it : Api_Item) : List (List UInt8) := refE it.Ref ++ Apl it ++ AnP it.Text ++ it.Parts.map Aom
end Go.Proofs.YtnfoiocigicdnaaGreatDoor
