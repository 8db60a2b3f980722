/-
  Part 46.
-/
import Derived.Test.YtnfoiocigicdnaaGreatDoorYV43
import Derived.Test.YtnfoiocigicdnaaGreatDoorYV44
import Derived.Test.YtnfoiocigicdnaaGreatDoorYV45
import Derived.KernelRfl
namespace Go.Proofs.YtnfoiocigicdnaaGreatDoor
open Go.Rv
set_option linter.unusedVariables false
set_option linter.unusedSimpArgs false
set_option maxRecDepth 20000
set_option maxHeartbeats 4000000
theorem Nw {a b r} (h : Fa a b = some r) : Con B 73 [.sl false (L Ac a), .sl false (L Ac b)] [] (fun r' σ' => r' = .bool r ∧ σ' = []) := by
 refine Cw 26 [.tmp 4] Tryz.func73 (fun F hE => ?_) h
 unfold Fa
 refine T0 [0, 1] ?_
 refine Sq <|T0 [0, 1, 10] ?_
 refine Cd ?_ ?_
 ·refine T0 [4] ?_
  exact Sr <|Tr <|Rr
 ·refine Sk <|Tn <|?_
  refine Jo (fun _ => ⟨Am 26 [], []⟩) ?_ ?_
  ·intro m f
   refine T0 [0, 1, 5] ?_
   refine Sb ?_
   refine Lo (fun c => ⟨Am 26 [(0, .sl false (L Ac a)), (1, .sl false (L Ac b)), (5, i64 c)], []⟩) (ws []) ?_
   rintro c n g d e
   show Dq a b c = some g → _
   unfold Dq
   refine Sq <|T0 [0, 1, 5, 14] ?_
   refine Cd ?_ ?_
   ·refine Sk <|Tn <|Sq <|Sb <|Ck fun i =>Ck fun j =>Lt fun k l =>De (fr' := [(0, _), (1, _), (5, _), (25, .bool k)]) [[], [], [0, 1], [0, 1, 2], [], [], [4, 5], [4, 5, 6], [0, 1, 2, 3, 4, 5, 6, 7]] [0, 1, 5, 25] Aa (Ev (by simp only [go_sem, qR i, qR j, l]; exact Ad)) ?_
    refine Cd ?_ ?_
    ·refine T0 [4] ?_
     exact Sr <|Br <|Tr <|Lr e d <|Br <|Jr f <|Rr
    ·refine Sk <|Bn <|Tn <|F0 [0, 1, 5] ?_
     exact Ln (ws [])
   ·refine Sx <|Tx <|Lx e d <|Bx <|?_
    exact Jn ((ws (l' := []) (σ' := []) []).trans (ws []))
  intro _
  refine T0 [4] ?_
  exact Sr <|Rr
theorem Cj {a b r} (h : Fs a b = some r) : Con B 25 [.agg [i64 a.Kind, i64 a.Ref.Railway, i64 a.Ref.No, i64 a.Wagon, i64 a.Place, i64 a.Other, i64 a.Number, i64 a.From, i64 a.To, i64 a.Code, i64 a.Dest, i64 a.Class, i64 a.Weight, i64 a.Amount, .str a.Text, .sl false (L Ac a.Parts)], .agg [i64 b.Kind, i64 b.Ref.Railway, i64 b.Ref.No, i64 b.Wagon, i64 b.Place, i64 b.Other, i64 b.Number, i64 b.From, i64 b.To, i64 b.Code, i64 b.Dest, i64 b.Class, i64 b.Weight, i64 b.Amount, .str b.Text, .sl false (L Ac b.Parts)]] [] (fun r' σ' => r' = .bool r ∧ σ' = []) := by
 refine Cw 45 [.tmp 4] Tryz.func25 (fun F hE => ?_) h
 unfold Fs
 refine T0 [2, 3] ?_
 refine Jo (fun _ => ⟨Am 45 [(2, .ref 0 0), (3, .ref 1 0)], [.box [i64 a.Kind, i64 a.Ref.Railway, i64 a.Ref.No, i64 a.Wagon, i64 a.Place, i64 a.Other, i64 a.Number, i64 a.From, i64 a.To, i64 a.Code, i64 a.Dest, i64 a.Class, i64 a.Weight, i64 a.Amount, .str a.Text, .sl false (L Ac a.Parts)] false, .box [i64 b.Kind, i64 b.Ref.Railway, i64 b.Ref.No, i64 b.Wagon, i64 b.Place, i64 b.Other, i64 b.Number, i64 b.From, i64 b.To, i64 b.Code, i64 b.Dest, i64 b.Class, i64 b.Weight, i64 b.Amount, .str b.Text, .sl false (L Ac b.Parts)] false]⟩) ?_ ?_
 ·intro u o
  refine T0 [2, 3, 5] ?_
  refine Sb ?_
  refine Lo (fun e => ⟨Am 45 [(2, .ref 0 0), (3, .ref 1 0), (5, i64 e)], [.box [i64 a.Kind, i64 a.Ref.Railway, i64 a.Ref.No, i64 a.Wagon, i64 a.Place, i64 a.Other, i64 a.Number, i64 a.From, i64 a.To, i64 a.Code, i64 a.Dest, i64 a.Class, i64 a.Weight, i64 a.Amount, .str a.Text, .sl false (L Ac a.Parts)] false, .box [i64 b.Kind, i64 b.Ref.Railway, i64 b.Ref.No, i64 b.Wagon, i64 b.Place, i64 b.Other, i64 b.Number, i64 b.From, i64 b.To, i64 b.Code, i64 b.Dest, i64 b.Class, i64 b.Weight, i64 b.Amount, .str b.Text, .sl false (L Ac b.Parts)] false]⟩) (ws [0, 1]) ?_
  rintro e v p g i
  show Hf a b e = some p → _
  unfold Hf
  refine Sq <|T0 [2, 3, 5, 7] ?_
  refine Cd ?_ ?_
  ·refine Sk <|Tn <|Sq <|Sb <|Ck fun j =>?_
   have k := j; simp only [List.cons_append, List.nil_append, List.length_append, List.length_cons, List.length_nil, Nat.zero_add, Nat.reduceAdd] at k
   refine Bd fun w q =>Ck fun l =>?_
   have m := l; simp only [List.cons_append, List.nil_append, List.length_append, List.length_cons, List.length_nil, Nat.zero_add, Nat.reduceAdd] at m
   refine Bd fun x s =>De [[], [], [1], [0, 1, 2], [], [], [5], [0, 1, 2, 3, 4, 5, 6], [0, 1, 2, 3, 4, 5, 6, 7]] [2, 3, 5, 18] (o2 13 (Nk q) 17 (Nk s)) (Ev (by simp only [go_sem, qR j, k, qR l, m]; exact Ad)) ?_
   refine Cd ?_ ?_
   ·refine T0 [4] ?_
    exact Sr <|Br <|Tr <|Lr i g <|Br <|Jr o <|Rr
   ·refine Sk <|Bn <|Tn <|F0 [2, 3, 5] ?_
    exact Ln (ws [0, 1])
  ·refine Sx <|Tx <|Lx i g <|Bx <|?_
   exact Jn ((ws (l' := [(2, .ref 0 0), (3, .ref 1 0)]) (σ' := [.box [i64 a.Kind, i64 a.Ref.Railway, i64 a.Ref.No, i64 a.Wagon, i64 a.Place, i64 a.Other, i64 a.Number, i64 a.From, i64 a.To, i64 a.Code, i64 a.Dest, i64 a.Class, i64 a.Weight, i64 a.Amount, .str a.Text, .sl false (L Ac a.Parts)] false, .box [i64 b.Kind, i64 b.Ref.Railway, i64 b.Ref.No, i64 b.Wagon, i64 b.Place, i64 b.Other, i64 b.Number, i64 b.From, i64 b.To, i64 b.Code, i64 b.Dest, i64 b.Class, i64 b.Weight, i64 b.Amount, .str b.Text, .sl false (L Ac b.Parts)] false]) [0, 1]).trans (ws [0, 1]))
 intro _
 refine Tw [4] (fun n => ⟨Am 45 [(4, .bool n)], []⟩) ?_ ?_
 ·intro _
  refine Sp (fun c => ?_) fun c => ?_
  ·refine Sp (fun d => ?_) fun d => ?_
   ·refine Sp (fun f => ?_) fun f => ?_
    ·refine Bd fun y t => ?_
     exact Lf (o1 43 (Nw t)) (Ev (by simp only [go_sem, c, d, f]; exact Ad)) (ws [])
    ·exact Lf Aa (Ev (by simp only [go_sem, c, d, f]; exact Ad)) (ws [])
   ·exact Lf Aa (Ev (by simp only [go_sem, c, d]; exact Ad)) (ws [])
  ·exact Lf Aa (Ev (by simp only [go_sem, c]; exact Ad)) (ws [])
 intro n
 exact Sr <|Rr
theorem Gr {a r} (h : Ce a = some r) : Con B 152 [u64 a] [] (fun r' σ' => r' = i64 r ∧ σ' = []) := by
 refine Cw 10 [.tmp 2] Tryz.func152 (fun F hE => ?_) h
 unfold Ce
 refine T0 [0, 2] ?_
 refine Ja (fun b => ⟨Am 10 [(2, i64 b)], []⟩) ?_ ?_
 ·intro k
  refine Sb ?_
  refine Lo (fun (v : UInt64 × Int) => (⟨Am 10 [(0, u64 v.1), (2, i64 v.2)], []⟩ : St)) (ws []) ?_
  rintro ⟨d, c⟩ l e f g
  show Bz d c = some e → _
  unfold Bz
  refine Sq <|T0 [0, 2, 4] ?_
  refine Cd ?_ ?_
  ·refine Sk <|Tn <|Sq <|Sb <|F0 [0, 2] ?_
   refine Bn <|Tn <|Lt fun i j =>Fe (fr' := [(0, u64 i), (2, _)]) [0, 2] Aa (Ev (by simp only [go_sem, j]; exact Ad)) ?_
   exact Ln (ws [])
  ·refine Sx <|Tx <|Ly g f <|Bx <|?_
   exact Jm ((ws (l' := [(2, i64 c)]) (σ' := []) []).trans (ws []))
 intro b
 refine T0 [2] ?_
 exact Sr <|Rr
theorem Mc {a b r} (h : D0 a b = some r) : Con B 116 [.bs false 0 (a.length) 0 (a.length), i64 b] [.buf 1 (L cU8 a) false] (fun r' σ' => r' = .bs false 0 (r.length) 0 (r.length) ∧ σ' = [.buf 1 (L cU8 r) false]) := by
 refine Co 1 48 [.tmp 4] Tryz.func116 (fun F hE => ?_) h
 unfold D0
 refine T0 [0, 1] ?_
 refine T0 [0, 1, 5] ?_
 refine Bd fun z i =>Te [0, 1, 5, 6] (o1 12 (Gr i)) Ev ?_
 refine Lt fun j k =>Te (fr' := [(0, _), (1, _), (5, _), (6, _), (7, u8 j)]) [0, 1, 5, 6, 7] Aa (Ev (by simp only [go_sem, k]; exact Ad)) ?_
 refine Ja (fun (v : Int × UInt8) => (⟨Am 48 [(0, .bs false 0 (a.length) 0 (a.length)), (1, i64 b), (6, i64 v.1), (7, u8 v.2)], [.buf 1 (L cU8 a) false]⟩ : St)) ?_ ?_
 ·intro aa
  refine T0 [0, 1, 5, 6, 7, 17] ?_
  refine Cd ?_ ?_
  ·refine Bd fun ab l =>Te [0, 1, 6] (o1 22 (Gr l)) Ev ?_
   refine Lt fun m n =>Fe (fr' := [(0, _), (1, _), (6, _), (7, u8 m)]) [0, 1, 6, 7] Aa (Ev (by simp only [go_sem, n]; exact Ad)) ?_
   exact Jm (ws [0])
  ·exact Sk <|Jm (ws [0])
 rintro ⟨e, ac⟩
 refine Ck fun o =>Lt fun f p =>Te (fr' := [(0, .bs false 0 (f.length) 0 (f.length)), (1, _), (6, _)]) (σ' := [.buf 1 (L cU8 f) false, _]) [0, 1, 6] Aa (Ev (by simp only [go_sem, o, p]; exact Ad)) ?_
 refine Ja (fun c => ⟨Am 48 [(0, .bs false 0 (c.length) 0 (c.length))], [.buf 1 (L cU8 c) false]⟩) ?_ ?_
 ·intro ad
  refine T0 [0, 1, 6, 30, 31] ?_
  refine Sb ?_
  refine Lo (fun (v : Int × List UInt8) => (⟨Am 48 [(0, .bs false 0 (v.2.length) 0 (v.2.length)), (1, i64 b), (6, i64 e), (30, i64 e), (31, i64 v.1)], [.buf 1 (L cU8 v.2) false]⟩ : St)) (ws [0]) ?_
  rintro ⟨q, d⟩ ae s t u
  show B0 b e q d = some s → _
  unfold B0
  refine T0 [0, 1, 6, 30, 31, 32] ?_
  refine Sq <|Cd ?_ ?_
  ·refine Sk <|Tn <|Sq <|Sb <|T0 [0, 1, 6, 8, 30, 31] ?_
   refine Ck fun w =>Ck fun x =>Lt fun g y =>Fe (fr' := [(0, .bs false 0 (g.length) 0 (g.length)), (1, _), (6, _), (30, _), (31, _)]) (σ' := [.buf 1 (L cU8 g) false, _]) [0, 1, 6, 30, 31] Aa (Ev (by simp only [go_sem, w, x, y]; exact Ad)) ?_
   refine Bn <|Tn <|F0 [0, 1, 6, 30, 31] ?_
   exact Ln (ws [0])
  ·refine Sx <|Tx <|Ly u t <|Bx <|?_
   exact Jm ((ws (l' := [(0, .bs false 0 (d.length) 0 (d.length))]) (σ' := [.buf 1 (L cU8 d) false]) [0]).trans (ws [0]))
 intro c
 refine T0 [4] ?_
 exact Sr <|Ro [0]
theorem Jl {rec_ : (List UInt8) → Api_Value → Option (List UInt8)} (hrec : ∀ {b : List UInt8} {a : Api_Value} {r : List UInt8}, rec_ b a = some r → Con B 81 [.bs false 0 (b.length) 0 (b.length), .agg [i64 a.Kind, i64 a.N, .sl false (L cU8 a.B), .sl false (L cApi_Value a.L)]] [.buf 1 (L cU8 b) false] (fun r' σ' => r' = .bs false 0 (r.length) 0 (r.length) ∧ σ' = [.buf 1 (L cU8 r) false])) {b : List UInt8} {a : Api_Value} {r : List UInt8} (h : C4 rec_ b a = some r) : Con B 81 [.bs false 0 (b.length) 0 (b.length), .agg [i64 a.Kind, i64 a.N, .sl false (L cU8 a.B), .sl false (L cApi_Value a.L)]] [.buf 1 (L cU8 b) false] (fun r' σ' => r' = .bs false 0 (r.length) 0 (r.length) ∧ σ' = [.buf 1 (L cU8 r) false]) := by
 refine O4 (N := 59) (rs := [.tmp 4]) 1 rfl ok Tryz.func81 rfl (by decide +kernel) rfl rfl (Nat.le_of_ble_eq_true rfl) (fun F => ?_)
 have hE := ok.env F
 unfold C4 at h
 show Run (B.env F) 1 _ ⟨Am 59 [(0, .bs false 0 (b.length) 0 (b.length)), (1, .agg [i64 a.Kind, i64 a.N, .sl false (L cU8 a.B), .sl false (L cApi_Value a.L)])], [.buf 1 (L cU8 b) false]⟩ _
 refine Js ?_
 revert h
 refine T0 [0, 3] ?_
 refine Jo (fun _ => ⟨Am 59 [(0, .bs false 0 (b.length) 0 (b.length)), (3, .ref 1 0)], [.buf 1 (L cU8 b) false, .box [i64 a.Kind, i64 a.N, .sl false (L cU8 a.B), .sl false (L cApi_Value a.L)] false]⟩) ?_ ?_
 ·intro aB w
  refine T0 [0, 3, 10] ?_
  refine Sb <|T0 [0, 3, 10, 11] ?_
  refine Cd ?_ ?_
  ·refine Bd fun aC y =>Te [4] (Ag (l := []) (m := [(16, 116, [.bs false 0 (b.length) 0 (b.length), i64 a.N], [.buf 1 (L cU8 b) false, .box [i64 a.Kind, i64 a.N, .sl false (L cU8 a.B), .sl false (L cApi_Value a.L)] false], _, _)]) trivial ⟨(wc (Mc y) [0]), trivial⟩) Ev ?_
   exact Sr <|Br <|Jr w <|Ro [0]
  ·refine T0 [0, 3, 17] ?_
   refine Cd ?_ ?_
   ·refine Ck fun z =>Lt fun i aa =>Te (fr' := [(0, .bs false 0 (i.length) 0 (i.length)), (3, _)]) (σ' := [.buf 1 (L cU8 i) false, _, _]) [0, 3] Aa (Ev (by simp only [go_sem, z, aa]; exact Ad)) ?_
    refine Ja (fun d => ⟨Am 59 [(0, .bs false 0 (d.length) 0 (d.length))], [.buf 1 (L cU8 d) false]⟩) ?_ ?_
    ·intro aD
     refine T0 [0, 23, 24, 25] ?_
     refine Sb ?_
     refine Lo (fun (v : Int × List UInt8) => (⟨Am 59 [(0, .bs false 0 (v.2.length) 0 (v.2.length)), (23, .sl false (L cU8 a.B)), (24, i64 (a.B.length : Int)), (25, i64 v.1)], [.buf 1 (L cU8 v.2) false]⟩ : St)) (ws [0]) ?_
     rintro ⟨x, e⟩ aE ab ac ad
     show Bk a x e = some ab → _
     unfold Bk
     refine T0 [0, 23, 24, 25, 26] ?_
     refine Sq <|Cd ?_ ?_
     ·refine Sk <|Tn <|?_
      refine Ja (fun f => ⟨Am 59 [(0, .bs false 0 (f.length) 0 (f.length)), (23, .sl false (L cU8 a.B)), (24, i64 (a.B.length : Int)), (25, i64 x)], [.buf 1 (L cU8 f) false]⟩) ?_ ?_
      ·intro aF
       refine Sb <|Ck fun ae =>Te [0, 6, 23, 24, 25] Aa (Ev (by simp only [go_sem, qR ae]; exact Ad)) ?_
       refine Ck fun af =>Lt fun j ag =>Te (fr' := [(0, .bs false 0 (j.length) 0 (j.length)), (6, _), (23, _), (24, _), (25, _)]) (σ' := [.buf 1 (L cU8 j) false, _]) [0, 6, 23, 24, 25] Aa (Ev (by simp only [go_sem, af, ag]; exact Ad)) ?_
       refine T0 [0, 23, 24, 25, 34] ?_
       refine Cd ?_ ?_
       ·refine Ck fun ah =>Lt fun k ai =>Fe (fr' := [(0, .bs false 0 (k.length) 0 (k.length)), (23, _), (24, _), (25, _)]) (σ' := [.buf 1 (L cU8 k) false, _, _]) [0, 23, 24, 25] Aa (Ev (by simp only [go_sem, ah, ai]; exact Ad)) ?_
        exact Bn <|Jm (ws [0])
       ·exact Sk <|Bn <|Jm (ws [0])
      intro f
      refine F0 [0, 23, 24, 25] ?_
      exact Ln (ws [0])
     ·refine Sx <|Tx <|Ly ad ac <|Bx <|?_
      exact Jm ((ws (l' := [(0, .bs false 0 (e.length) 0 (e.length))]) (σ' := [.buf 1 (L cU8 e) false]) [0]).trans (ws [0]))
    intro d
    refine Ck fun aj =>Lt fun n ak =>Te (fr' := [(4, .bs false 0 (n.length) 0 (n.length))]) (σ' := [.buf 1 (L cU8 n) false, _]) [4] Aa (Ev (by simp only [go_sem, aj, ak]; exact Ad)) ?_
    exact Sr <|Br <|Jr w <|Ro [0]
   ·exact Sk <|Bn <|Jn (ws [0, 1])
 intro _
 refine Ck fun al =>Lt fun o am =>Te (fr' := [(0, .bs false 0 (o.length) 0 (o.length)), (3, _)]) (σ' := [.buf 1 (L cU8 o) false, _, _]) [0, 3] Aa (Ev (by simp only [go_sem, al, am]; exact Ad)) ?_
 refine Ja (fun g => ⟨Am 59 [(0, .bs false 0 (g.length) 0 (g.length))], [.buf 1 (L cU8 g) false]⟩) ?_ ?_
 ·intro aG
  refine T0 [0, 46, 47, 48] ?_
  refine Sb ?_
  refine Lo (fun (v : Int × List UInt8) => (⟨Am 59 [(0, .bs false 0 (v.2.length) 0 (v.2.length)), (46, .sl false (L cApi_Value a.L)), (47, i64 (a.L.length : Int)), (48, i64 v.1)], [.buf 1 (L cU8 v.2) false]⟩ : St)) (ws [0]) ?_
  rintro ⟨an, c⟩ aH ao ap aq
  show Bj a rec_ an c = some ao → _
  unfold Bj
  refine T0 [0, 46, 47, 48, 49] ?_
  refine Sq <|Cd ?_ ?_
  ·refine Sk <|Tn <|Sq <|Sb <|Ck fun ar =>Lt fun p au =>Lt fun q av =>Lt fun s aw =>Lt fun t ax =>Te (σ' := [_, .box [i64 p, i64 q, .sl false (L cU8 s), .sl false (L cApi_Value t)] false]) [0, 8, 46, 47, 48] Aa (Ev (by simp only [go_sem, qR ar, au, av, aw, ax]; exact Ad)) ?_
   refine Bd fun aI ay =>Fe [0, 46, 47, 48] (Ag (l := []) (m := [(54, 81, [.bs false 0 (c.length) 0 (c.length), .agg [i64 p, i64 q, .sl false (L cU8 s), .sl false (L cApi_Value t)]], [.buf 1 (L cU8 c) false, .box [i64 p, i64 q, .sl false (L cU8 s), .sl false (L cApi_Value t)] false], _, _)]) trivial ⟨(wc (hrec ay) [0]), trivial⟩) Ev ?_
   refine Bn <|Tn <|F0 [0, 46, 47, 48] ?_
   exact Ln (ws [0])
  ·refine Sx <|Tx <|Ly aq ap <|Bx <|?_
   exact Jm ((ws (l' := [(0, .bs false 0 (c.length) 0 (c.length))]) (σ' := [.buf 1 (L cU8 c) false]) [0]).trans (ws [0]))
 intro g
 refine Ck fun az =>Lt fun u aA =>Te (fr' := [(4, .bs false 0 (u.length) 0 (u.length))]) (σ' := [.buf 1 (L cU8 u) false, _]) [4] Aa (Ev (by simp only [go_sem, az, aA]; exact Ad)) ?_
 exact Sr <|Ro [0]
theorem J3 (n : Nat) : ∀ {b : List UInt8} {a : Api_Value} {r : List UInt8}, Cc n b a = some r → Con B 81 [.bs false 0 (b.length) 0 (b.length), .agg [i64 a.Kind, i64 a.N, .sl false (L cU8 a.B), .sl false (L cApi_Value a.L)]] [.buf 1 (L cU8 b) false] (fun r' σ' => r' = .bs false 0 (r.length) 0 (r.length) ∧ σ' = [.buf 1 (L cU8 r) false]) := by
  induction n with
  | zero => intro b a r h; cases h
  | succ n ih => intro b a r h; exact Jl ih h
theorem Ko {b : List UInt8} {a : Api_Value} {r : List UInt8} (h : Gb b a = some r) : Con B 81 [.bs false 0 (b.length) 0 (b.length), .agg [i64 a.Kind, i64 a.N, .sl false (L cU8 a.B), .sl false (L cApi_Value a.L)]] [.buf 1 (L cU8 b) false] (fun r' σ' => r' = .bs false 0 (r.length) 0 (r.length) ∧ σ' = [.buf 1 (L cU8 r) false]) := J3 _ h
theorem N1 {rec_ : Api_Value → Option (Int × Bool)} (hrec : ∀ {a : Api_Value} {r : Int × Bool}, rec_ a = some r → Con B 80 [.agg [i64 a.Kind, i64 a.N, .sl false (L cU8 a.B), .sl false (L cApi_Value a.L)]] [] (fun r' σ' => r' = .tup [i64 r.1, .bool r.2] ∧ σ' = [])) {a : Api_Value} {r : Int × Bool} (h : Ft rec_ a = some r) : Con B 80 [.agg [i64 a.Kind, i64 a.N, .sl false (L cU8 a.B), .sl false (L cApi_Value a.L)]] [] (fun r' σ' => r' = .tup [i64 r.1, .bool r.2] ∧ σ' = []) := by
 refine Ji (N := 64) (rs := [.tmp 2, .tmp 3]) ok Tryz.func80 rfl (by decide +kernel) rfl rfl (Nat.le_of_ble_eq_true rfl) (fun F => ?_)
 have hE := ok.env F
 unfold Ft at h
 show Run (B.env F) 0 _ ⟨Am 64 [(0, .agg [i64 a.Kind, i64 a.N, .sl false (L cU8 a.B), .sl false (L cApi_Value a.L)])], []⟩ _
 refine Js ?_
 revert h
 refine T0 [1, 2] ?_
 refine Jo (fun _ => ⟨Am 64 [], []⟩) ?_ ?_
 ·intro ac b
  refine T0 [1, 2, 9] ?_
  refine Sb <|T0 [1, 2, 9, 10] ?_
  refine Cd ?_ ?_
  ·refine Dw [[], [0], [0, 1], [0, 1, 2], [0, 1, 2, 3], [0, 1, 2, 3, 4], [0, 1, 2, 3, 4, 5], [0, 1, 2, 3, 4, 5, 6], [0, 1, 2, 3, 4, 5, 6, 7], [0, 1, 2, 3, 4, 5, 6, 7, 8], [0, 1, 2, 3, 4], [0, 1, 2, 3, 4, 5, 6, 7, 8, 9, 10]] [2, 3] (fun f => ⟨Am 64 [(2, i64 0), (3, .bool f)], []⟩) ?_ ?_
   ·intro _
    refine Sp (fun c => ?_) fun c => ?_
    ·exact Lf Aa (Ev (by simp only [go_sem, c]; exact Ad)) (ws [])
    ·exact Lf Aa (Ev (by simp only [go_sem, c]; exact Ad)) (ws [])
   intro f
   exact Sr <|Br <|Jr b <|Rr
  ·refine T0 [1, 2, 9, 22] ?_
   refine Cd ?_ ?_
   ·refine Dw [[], [0], [0, 1], [0, 1, 2], [0, 1, 2, 3], [0, 1, 2, 3, 4], [0, 1, 2, 3, 4, 5], [0, 1, 2, 3, 4, 5, 6], [0, 1, 2, 3, 4, 5, 6, 7], [0, 1, 2, 3], [0, 1, 2, 3, 4, 5, 6, 7, 8, 9]] [2, 3] (fun g => ⟨Am 64 [(2, i64 0), (3, .bool g)], []⟩) ?_ ?_
    ·intro _
     refine Sp (fun d => ?_) fun d => ?_
     ·exact Lf Aa (Ev (by simp only [go_sem, d]; exact Ad)) (ws [])
     ·exact Lf Aa (Ev (by simp only [go_sem, d]; exact Ad)) (ws [])
    intro g
    exact Sr <|Br <|Jr b <|Rr
   ·refine T0 [1, 2, 33] ?_
    refine Cd ?_ ?_
    ·refine Sq ?_
     refine Tw [1, 2, 43] (fun i => ⟨Am 64 [(1, .ref 0 0), (2, i64 0), (43, .bool i)], [.box [i64 a.Kind, i64 a.N, .sl false (L cU8 a.B), .sl false (L cApi_Value a.L)] false]⟩) ?_ ?_
     ·intro _
      refine Sp (fun e => ?_) fun e => ?_
      ·exact Lf Aa (Ev (by simp only [go_sem, e]; exact Ad)) (ws [0])
      ·exact Lf Aa (Ev (by simp only [go_sem, e]; exact Ad)) (ws [0])
     intro i
     refine Cd ?_ ?_
     ·refine T0 [2, 3] ?_
      exact Sr <|Tr <|Br <|Jr b <|Rr
     ·refine Sk <|Tn <|?_
      refine Jo (fun j => ⟨Am 64 [(2, i64 j)], []⟩) ?_ ?_
      ·intro ad n
       refine T0 [2, 45, 46, 47] ?_
       refine Sb ?_
       refine Lo (fun (v : Int × Int) => (⟨Am 64 [(2, i64 v.1), (45, .sl false (L cApi_Value a.L)), (46, i64 (a.L.length : Int)), (47, i64 v.2)], []⟩ : St)) (ws []) ?_
       rintro ⟨k, o⟩ ae p l m
       show Ci a rec_ k o = some p → _
       unfold Ci
       refine T0 [2, 45, 46, 47, 48] ?_
       refine Sq <|Cd ?_ ?_
       ·refine Sk <|Tn <|Sq <|Sb <|Ck fun q =>Lt fun s t =>Lt fun u w =>Lt fun x y =>Lt fun z aa =>Te (σ' := [.box [i64 s, i64 u, .sl false (L cU8 x), .sl false (L cApi_Value z)] false]) [2, 5, 45, 46, 47] Aa (Ev (by simp only [go_sem, qR q, t, w, y, aa]; exact Ad)) ?_
        refine Bd fun af ab =>Te [2, 6, 7, 45, 46, 47] (o1 53 (hrec ab)) Ev ?_
        refine Sq <|T0 [2, 6, 45, 46, 47, 57] ?_
        refine Cd ?_ ?_
        ·refine T0 [2, 3] ?_
         exact Sr <|Tr <|Br <|Tr <|Lr m l <|Br <|Jr n <|Br <|Jr b <|Rr
        ·refine Sk <|Tn <|F0 [2, 45, 46, 47] ?_
         refine Bn <|Tn <|F0 [2, 45, 46, 47] ?_
         exact Ln (ws [])
       ·refine Sx <|Tx <|Lx m l <|Bx <|?_
        exact Jn ((ws (l' := [(2, i64 k)]) (σ' := []) []).trans (ws []))
      intro j
      refine T0 [2, 3] ?_
      exact Sr <|Br <|Jr b <|Rr
    ·exact Sk <|Bn <|Jn (ws [])
 intro _
 refine T0 [2, 3] ?_
 exact Sr <|Rr
theorem Ob (n : Nat) : ∀ {a : Api_Value} {r : Int × Bool}, Ea n a = some r → Con B 80 [.agg [i64 a.Kind, i64 a.N, .sl false (L cU8 a.B), .sl false (L cApi_Value a.L)]] [] (fun r' σ' => r' = .tup [i64 r.1, .bool r.2] ∧ σ' = []) := by
  induction n with
  | zero => intro a r h; cases h
  | succ n ih => intro a r h; exact N1 ih h
theorem Ki {a : Api_Value} {r : Int × Bool} (h : Gf a = some r) : Con B 80 [.agg [i64 a.Kind, i64 a.N, .sl false (L cU8 a.B), .sl false (L cApi_Value a.L)]] [] (fun r' σ' => r' = .tup [i64 r.1, .bool r.2] ∧ σ' = []) := Ob _ h
theorem Pf {a r} (h : Ex a = some r) : Con B 33 [.agg [i64 a.Kind, i64 a.N, .sl false (L cU8 a.B), .sl false (L cApi_Value a.L)]] [] (fun r' σ' => r' = .tup [.sl false (L cU8 r.1), i64 r.2] ∧ σ' = []) := by
 refine Cw 22 [.tmp 2, .tmp 3] Tryz.func33 (fun F hE => ?_) h
 unfold Ex
 refine T0 [1] ?_
 refine Bd fun d b =>Te [1, 4, 5] (o1 9 (Ki b)) Ev ?_
 refine Sq <|T0 [1, 4, 13] ?_
 refine Cd ?_ ?_
 ·refine T0 [2, 3] ?_
  exact Sr <|Tr <|Rr
 ·refine Sk <|Tn <|Sq <|T0 [1, 15] ?_
  refine Cd ?_ ?_
  ·refine T0 [2, 3] ?_
   exact Sr <|Tr <|Rr
  ·refine Sk <|Tn <|Bd fun e c =>Te [6] (Ag (l := []) (m := [(17, 81, [.sl true (L cU8 ([])), .agg [i64 a.Kind, i64 a.N, .sl false (L cU8 a.B), .sl false (L cApi_Value a.L)]], [.box [i64 a.Kind, i64 a.N, .sl false (L cU8 a.B), .sl false (L cApi_Value a.L)] false], _, _)]) trivial ⟨(Ahv 1 (args' := [.bs true 1 0 0 0, .agg [i64 a.Kind, i64 a.N, .sl false (L cU8 a.B), .sl false (L cApi_Value a.L)]]) gs (wc (Ko c) [1])), trivial⟩) Ev ?_
   refine Sq <|T0 [6, 20] ?_
   refine Cd ?_ ?_
   ·refine T0 [2, 3] ?_
    exact Sr <|Tr <|Rr
   ·refine Sk <|Tn <|T0 [2, 3] ?_
    exact Sr <|Rr
theorem Ao {a : Codec_decoder} {r : (UInt8 × Codec_decoder) ⊕ (Int × Codec_decoder)} (h : A1 a = some r) : PCon B 84 [.ref 0 0] [.box [.sl false (L cU8 a.b)] false] (Ka r) := by
 refine H5 (N := 26) (rs := [.tmp 2]) 1 rfl ok Tryz.func84 rfl (by decide +kernel) rfl rfl (Nat.le_of_ble_eq_true rfl) (fun F => ?_)
 have hE := ok.env F
 unfold A1 at h
 show Run (B.env F) 1 _ ⟨Am 26 [(0, .ref 0 0)], [.box [.sl false (L cU8 a.b)] false]⟩ _
 revert h
 refine T0 [0] ?_
 refine Sq <|T0 [0, 9] ?_
 refine Cd ?_ ?_
 ·intro h
  refine I2 hE [] 1 _ (v := .iface 150 (.int .i64 5)) (σ2 := [.box [.sl false (L cU8 a.b)] false]) (vals := []) rfl rfl ⟨_, [], Aa, trivial, ?_⟩ (fun fr_ hlen_ hfr_ => ?_)
  ·simp only [go_sem]
  refine Q4 ?_
  obtain rfl := Option.some.inj h
  refine Ef rfl [0] (by decide) rfl ?_
  simp only [go_sem]
 ·refine Sk <|Tn <|Ck fun c =>Te [0, 3] Aa (Ev (by simp only [go_sem, qL c]; exact Ad)) ?_
  refine Ck fun d =>Lt fun e f =>Te (σ' := [.box [.sl false (L cU8 e)] false]) [3] Aa (Ev (by simp only [go_sem, d, f]; exact Ad)) ?_
  refine T0 [2] ?_
  refine Sr ?_
  intro h
  obtain rfl := Option.some.inj h
  refine Mt rfl (R9 (.inr rfl) ?_ rfl ?_)
  ·simp only [go_sem]
  ·show Kb [0] _ [0] _; simp only [go_sem]
theorem Cg {n : Codec_decoder} {c : Int} {a : UInt8} {r : (Api_Value × Codec_decoder) ⊕ (Int × Codec_decoder)} (h : B8 n c a = some r) : PCon B 117 [.ref 0 0, i64 c, u8 a] [.box [.sl false (L cU8 n.b)] false] (Iw r) := by
 refine H5 (N := 46) (rs := [.cell 6 55]) 1 rfl ok Tryz.func117 rfl (by decide +kernel) rfl rfl (Nat.le_of_ble_eq_true rfl) (fun F => ?_)
 have hE := ok.env F
 unfold B8 at h
 show Run (B.env F) 1 _ ⟨Am 46 [(0, .ref 0 0), (1, i64 c), (2, u8 a)], [.box [.sl false (L cU8 n.b)] false]⟩ _
 revert h
 refine T0 [0, 1, 2, 6] ?_
 refine T0 [0, 1, 2, 6, 7] ?_
 refine Jo (fun (v : UInt64 × List UInt8) => (⟨Am 46 [(2, u8 a), (6, .ref 1 0), (7, u64 v.1)], [.box [.sl false (L cU8 v.2)] false, .box [i64 0, i64 0, .sl true (L cU8 ([])), .sl true (L cApi_Value ([]))] false]⟩ : St)) ?_ ?_
 ·intro ac s
  refine T0 [0, 1, 2, 6, 7, 10, 11] ?_
  refine Sb ?_
  refine Lo (fun ⟨d, e, f⟩ => ⟨Am 46 [(0, .ref 0 0), (1, i64 c), (2, u8 a), (6, .ref 1 0), (7, u64 d), (10, i64 c), (11, i64 e)], [.box [.sl false (L cU8 f)] false, .box [i64 0, i64 0, .sl true (L cU8 ([])), .sl true (L cApi_Value ([]))] false]⟩) (ws [0, 1]) ?_
  rintro ⟨d, e, f⟩ ad x o p
  show Aw c a d e f = some x → _
  unfold Aw
  refine T0 [0, 1, 2, 6, 7, 10, 11, 12] ?_
  refine Sq <|Cd ?_ ?_
  ·refine Sk <|Tn <|Sq <|Sb <|T0 [0, 1, 2, 6, 7, 8, 10, 11] ?_
   intro h
   replace h := Az h; obtain ⟨y, t, h⟩ := h
   rcases y with g | j
   rotate_left
   ·dsimp only at h
    refine G7 hE [] 1 _ (v := .iface 150 (.int .i64 j.1)) (σ2 := [.box [.sl false (L cU8 j.2.b)] false, .box [i64 0, i64 0, .sl true (L cU8 ([])), .sl true (L cApi_Value ([]))] false]) (vals := []) rfl rfl ⟨_, [(15, 84, [.ref 0 0], [.box [.sl false (L cU8 f)] false, .box [i64 0, i64 0, .sl true (L cU8 ([])), .sl true (L cApi_Value ([]))] false], .val (.iface 150 (.int .i64 j.1)), [.box [.sl false (L cU8 j.2.b)] false, .box [i64 0, i64 0, .sl true (L cU8 ([])), .sl true (L cApi_Value ([]))] false])], Aa, ⟨fun v hv => by cases hv; exact Dz (PCon.pan (Ao t) rfl) [0] (by decide) gs gs gs gs, trivial⟩, ?_⟩ (fun fr_ hlen_ hfr_ => ?_)
    ·simp only [go_sem]
    refine Cr ?_
    refine Q4 ?_
    refine Aa2 ?_
    replace h := Az h; obtain ⟨ae, h, e_z_6909⟩ := h
    obtain rfl := Option.some.inj e_z_6909
    have ex_z_6909 := p _ rfl
    subst ex_z_6909
    obtain rfl := Option.some.inj o
    refine Cr ?_
    refine Ho ?_
    replace h := Az h; obtain ⟨af, h, e_z_6908⟩ := h
    obtain rfl := Option.some.inj e_z_6908
    obtain rfl := Option.some.inj s
    obtain rfl := Option.some.inj h
    refine Ef rfl [0] (by decide) rfl ?_
    simp only [go_sem]
   dsimp only at h
   refine Ca hE [0, 1, 2, 6, 7, 8, 9, 10, 11] (fr' := [(0, .ref 0 0), (1, i64 c), (2, u8 a), (6, .ref 1 0), (7, u64 d), (8, i64 e), (9, u8 (g.1 ^^^ a)), (10, i64 c), (11, i64 e)]) (σ' := [.box [.sl false (L cU8 g.2.b)] false, .box [i64 0, i64 0, .sl true (L cU8 ([])), .sl true (L cApi_Value ([]))] false]) ⟨_, (Ag (l := []) (m := [(15, 84, [.ref 0 0], [.box [.sl false (L cU8 f)] false, .box [i64 0, i64 0, .sl true (L cU8 ([])), .sl true (L cApi_Value ([]))] false], _, _)]) trivial ⟨(wc (PCon.to (Ao t) rfl) [0]), trivial⟩), ?_⟩ ?_
   ·simp only [go_sem]
   revert h
   refine Sq ?_
   refine Tw [0, 1, 2, 6, 7, 9, 10, 11, 31] (fun u => ⟨Am 46 [(0, .ref 0 0), (1, i64 c), (2, u8 a), (6, .ref 1 0), (7, u64 d), (9, u8 (g.1 ^^^ a)), (10, i64 c), (11, i64 e), (31, .bool u)], [.box [.sl false (L cU8 g.2.b)] false, .box [i64 0, i64 0, .sl true (L cU8 ([])), .sl true (L cApi_Value ([]))] false]⟩) ?_ ?_
   ·intro _
    refine Sp (fun i => ?_) fun i => ?_
    ·refine Sp (fun k => ?_) fun k => ?_
     ·exact Lf Aa (Ev (by simp only [go_sem, i, k]; exact Ad)) (ws [0, 1])
     ·refine Sp (fun q => ?_) fun q => ?_
      ·exact Lf Aa (Ev (by simp only [go_sem, i, k, q]; exact Ad)) (ws [0, 1])
      ·exact Lf Aa (Ev (by simp only [go_sem, i, k, q]; exact Ad)) (ws [0, 1])
    ·exact Lf Aa (Ev (by simp only [go_sem, i]; exact Ad)) (ws [0, 1])
   intro u
   refine Cd ?_ ?_
   ·intro h
    refine I2 hE [] 1 _ (v := .iface 150 (.int .i64 4)) (σ2 := [.box [.sl false (L cU8 g.2.b)] false, .box [i64 0, i64 0, .sl true (L cU8 ([])), .sl true (L cApi_Value ([]))] false]) (vals := []) rfl rfl ⟨_, [], Aa, trivial, ?_⟩ (fun fr_ hlen_ hfr_ => ?_)
    ·simp only [go_sem]
    refine Q4 ?_
    refine Cr ?_
    refine Q4 ?_
    refine Aa2 ?_
    replace h := Az h; obtain ⟨ag, h, e_z_6916⟩ := h
    obtain rfl := Option.some.inj e_z_6916
    have ex_z_6916 := p _ rfl
    subst ex_z_6916
    obtain rfl := Option.some.inj o
    refine Cr ?_
    refine Ho ?_
    replace h := Az h; obtain ⟨ah, h, e_z_6915⟩ := h
    obtain rfl := Option.some.inj e_z_6915
    obtain rfl := Option.some.inj s
    obtain rfl := Option.some.inj h
    refine Ef rfl [0] (by decide) rfl ?_
    simp only [go_sem]
   ·refine Sk <|Tn <|Lt fun z aa =>Fe (fr' := [(0, _), (1, _), (2, _), (6, _), (7, u64 z), (10, _), (11, _)]) [0, 1, 2, 6, 7, 10, 11] Aa (Ev (by simp only [go_sem, aa]; exact Ad)) ?_
    refine Bn <|Tn <|F0 [0, 1, 2, 6, 7, 10, 11] ?_
    exact Ln (ws [0, 1])
  ·refine Sx <|Tx <|Lx p o <|Bx <|?_
   exact Jn ((ws (l' := [(2, u8 a), (6, .ref 1 0), (7, u64 d)]) (σ' := [.box [.sl false (L cU8 f)] false, .box [i64 0, i64 0, .sl true (L cU8 ([])), .sl true (L cApi_Value ([]))] false]) [0, 1]).trans (ws [0, 1]))
 rintro ⟨ai, ab⟩
 refine Ja (fun w => ⟨Am 46 [(6, .ref 1 0), (7, u64 w)], [.box [.sl false (L cU8 ab)] false, .box [i64 0, i64 0, .sl true (L cU8 ([])), .sl true (L cApi_Value ([]))] false]⟩) ?_ ?_
 ·intro aj
  refine T0 [6, 7, 40] ?_
  refine Cd ?_ ?_
  ·refine F0 [6, 7] ?_
   exact Jm (ws [0, 1])
  ·exact Sk <|Jm (ws [0, 1])
 intro w
 refine T0 [6] ?_
 refine Sr ?_
 intro h
 obtain rfl := Option.some.inj h
 refine Mt rfl (R9 (.inr rfl) ?_ rfl ?_)
 ·simp only [go_sem]
 ·show Kb [0] _ [0] _; simp only [go_sem]
theorem Fz {i : Codec_decoder} {r : (Api_Value × Codec_decoder) ⊕ (Int × Codec_decoder)} (h : Dy i = some r) : PCon B 118 [.ref 0 0] [.box [.sl false (L cU8 i.b)] false] (Kf r) := by
 refine H5 (N := 29) (rs := [.cell 2 55]) 1 rfl ok Tryz.func118 rfl (by decide +kernel) rfl rfl (Nat.le_of_ble_eq_true rfl) (fun F => ?_)
 have hE := ok.env F
 unfold Dy at h
 show Run (B.env F) 1 _ ⟨Am 29 [(0, .ref 0 0)], [.box [.sl false (L cU8 i.b)] false]⟩ _
 revert h
 refine T0 [0, 2] ?_
 refine T0 [0, 2, 3] ?_
 refine Sb ?_
 refine Lo (fun (v : List UInt8 × List UInt8) => (⟨Am 29 [(0, .ref 0 0), (2, .ref 1 0), (3, .ref 2 0)], [.box [.sl false (L cU8 v.1)] false, .box [i64 0, i64 0, .sl true (L cU8 ([])), .sl true (L cApi_Value ([]))] false, .box [i64 2, i64 0, .bs false 3 (v.2.length) 0 (v.2.length), .sl true (L cApi_Value ([]))] false, .buf 1 (L cU8 v.2) false]⟩ : St)) ((Gp 2 2 1 rfl rfl).trans (ws [0, 1, 2, 3])) ?_
 rintro ⟨j, a⟩ aa s c d
 show An j a = some s → _
 unfold An
 refine Sb ?_
 intro h
 replace h := Az h; obtain ⟨t, p, h⟩ := h
 rcases t with e | f
 rotate_left
 ·dsimp only at h
  refine G7 hE [] 1 _ (v := .iface 150 (.int .i64 f.1)) (σ2 := [.box [.sl false (L cU8 f.2.b)] false, .box [i64 0, i64 0, .sl true (L cU8 ([])), .sl true (L cApi_Value ([]))] false, .box [i64 2, i64 0, .bs false 3 (a.length) 0 (a.length), .sl true (L cApi_Value ([]))] false, .buf 1 (L cU8 a) false]) (vals := []) rfl rfl ⟨_, [(7, 84, [.ref 0 0], [.box [.sl false (L cU8 j)] false, .box [i64 0, i64 0, .sl true (L cU8 ([])), .sl true (L cApi_Value ([]))] false, .box [i64 2, i64 0, .bs false 3 (a.length) 0 (a.length), .sl true (L cApi_Value ([]))] false, .buf 1 (L cU8 a) false], .val (.iface 150 (.int .i64 f.1)), [.box [.sl false (L cU8 f.2.b)] false, .box [i64 0, i64 0, .sl true (L cU8 ([])), .sl true (L cApi_Value ([]))] false, .box [i64 2, i64 0, .bs false 3 (a.length) 0 (a.length), .sl true (L cApi_Value ([]))] false, .buf 1 (L cU8 a) false])], Aa, ⟨fun v hv => by cases hv; exact Dz (PCon.pan (Ao p) rfl) [0] (by decide) gs gs gs gs, trivial⟩, ?_⟩ (fun fr_ hlen_ hfr_ => ?_)
  ·simp only [go_sem]
  refine Cr ?_
  refine Aa2 ?_
  replace h := Az h; obtain ⟨ab, h, e_z_6971⟩ := h
  obtain rfl := Option.some.inj e_z_6971
  have ex_z_6971 := d _ rfl
  subst ex_z_6971
  obtain rfl := Option.some.inj c
  refine Cr ?_
  obtain rfl := Option.some.inj h
  refine Ef rfl [0] (by decide) rfl ?_
  simp only [go_sem]
 dsimp only at h
 refine Ca hE [0, 2, 3, 4] (fr' := [(0, .ref 0 0), (2, .ref 1 0), (3, .ref 2 0), (4, u8 e.1)]) (σ' := [.box [.sl false (L cU8 e.2.b)] false, .box [i64 0, i64 0, .sl true (L cU8 ([])), .sl true (L cApi_Value ([]))] false, .box [i64 2, i64 0, .bs false 3 (a.length) 0 (a.length), .sl true (L cApi_Value ([]))] false, .buf 1 (L cU8 a) false]) ⟨_, (Ag (l := []) (m := [(7, 84, [.ref 0 0], [.box [.sl false (L cU8 j)] false, .box [i64 0, i64 0, .sl true (L cU8 ([])), .sl true (L cApi_Value ([]))] false, .box [i64 2, i64 0, .bs false 3 (a.length) 0 (a.length), .sl true (L cApi_Value ([]))] false, .buf 1 (L cU8 a) false], _, _)]) trivial ⟨(wc (PCon.to (Ao p) rfl) [0]), trivial⟩), ?_⟩ ?_
 ·simp only [go_sem]
 revert h
 refine Sq <|T0 [0, 2, 3, 4, 9] ?_
 refine Cd ?_ ?_
 ·refine Ck fun u =>Lt fun k w =>Te (σ' := [_, _, .box [i64 2, i64 0, .bs false 3 (k.length) 0 (k.length), .sl true (L cApi_Value ([]))] false, .buf 1 (L cU8 k) false, _]) [0, 2, 3] Aa (Ev (by simp only [go_sem, u, w]; exact Ad)) ?_
  exact Sx <|Tx <|Bx <|Ln (ws [0, 1, 2, 3])
 ·refine Sk <|Tn <|?_
  intro h
  replace h := Az h; obtain ⟨x, q, h⟩ := h
  rcases x with n | g
  rotate_left
  ·dsimp only at h
   refine G7 hE [] 1 _ (v := .iface 150 (.int .i64 g.1)) (σ2 := [.box [.sl false (L cU8 g.2.b)] false, .box [i64 0, i64 0, .sl true (L cU8 ([])), .sl true (L cApi_Value ([]))] false, .box [i64 2, i64 0, .bs false 3 (a.length) 0 (a.length), .sl true (L cApi_Value ([]))] false, .buf 1 (L cU8 a) false]) (vals := []) rfl rfl ⟨_, [(17, 84, [.ref 0 0], [.box [.sl false (L cU8 e.2.b)] false, .box [i64 0, i64 0, .sl true (L cU8 ([])), .sl true (L cApi_Value ([]))] false, .box [i64 2, i64 0, .bs false 3 (a.length) 0 (a.length), .sl true (L cApi_Value ([]))] false, .buf 1 (L cU8 a) false], .val (.iface 150 (.int .i64 g.1)), [.box [.sl false (L cU8 g.2.b)] false, .box [i64 0, i64 0, .sl true (L cU8 ([])), .sl true (L cApi_Value ([]))] false, .box [i64 2, i64 0, .bs false 3 (a.length) 0 (a.length), .sl true (L cApi_Value ([]))] false, .buf 1 (L cU8 a) false])], Aa, ⟨fun v hv => by cases hv; exact Dz (PCon.pan (Ao q) rfl) [0] (by decide) gs gs gs gs, trivial⟩, ?_⟩ (fun fr_ hlen_ hfr_ => ?_)
   ·simp only [go_sem]
   refine Cr ?_
   refine Aa2 ?_
   replace h := Az h; obtain ⟨ac, h, e_z_6979⟩ := h
   obtain rfl := Option.some.inj e_z_6979
   have ex_z_6979 := d _ rfl
   subst ex_z_6979
   obtain rfl := Option.some.inj c
   refine Cr ?_
   obtain rfl := Option.some.inj h
   refine Ef rfl [0] (by decide) rfl ?_
   simp only [go_sem]
  dsimp only at h
  refine Ca hE [0, 2, 3, 17] (fr' := [(0, .ref 0 0), (2, .ref 1 0), (3, .ref 2 0), (17, u8 n.1)]) (σ' := [.box [.sl false (L cU8 n.2.b)] false, .box [i64 0, i64 0, .sl true (L cU8 ([])), .sl true (L cApi_Value ([]))] false, .box [i64 2, i64 0, .bs false 3 (a.length) 0 (a.length), .sl true (L cApi_Value ([]))] false, .buf 1 (L cU8 a) false]) ⟨_, (Ag (l := []) (m := [(17, 84, [.ref 0 0], [.box [.sl false (L cU8 e.2.b)] false, .box [i64 0, i64 0, .sl true (L cU8 ([])), .sl true (L cApi_Value ([]))] false, .box [i64 2, i64 0, .bs false 3 (a.length) 0 (a.length), .sl true (L cApi_Value ([]))] false, .buf 1 (L cU8 a) false], _, _)]) trivial ⟨(wc (PCon.to (Ao q) rfl) [0]), trivial⟩), ?_⟩ ?_
  ·simp only [go_sem]
  revert h
  refine Sb <|T0 [0, 2, 3, 17, 19] ?_
  refine Cd ?_ ?_
  ·refine T0 [2] ?_
   refine Sr <|Br <|Br <|Ls d c <|Br <|?_
   intro h
   obtain rfl := Option.some.inj h
   refine Mt rfl (R9 (.inr rfl) ?_ rfl ?_)
   ·simp only [go_sem]
   ·show Kb [0] _ [0] _; simp only [go_sem]
  ·refine T0 [0, 2, 3, 22] ?_
   refine Cd ?_ ?_
   ·refine Ck fun y =>Lt fun o z =>Fe (σ' := [_, _, .box [i64 2, i64 0, .bs false 3 (o.length) 0 (o.length), .sl true (L cApi_Value ([]))] false, .buf 1 (L cU8 o) false, _]) [0, 2, 3] Aa (Ev (by simp only [go_sem, y, z]; exact Ad)) ?_
    exact Bn <|Bn <|Ln (ws [0, 1, 2, 3])
   ·intro h
    refine I2 hE [] 1 _ (v := .iface 150 (.int .i64 4)) (σ2 := [.box [.sl false (L cU8 n.2.b)] false, .box [i64 0, i64 0, .sl true (L cU8 ([])), .sl true (L cApi_Value ([]))] false, .box [i64 2, i64 0, .bs false 3 (a.length) 0 (a.length), .sl true (L cApi_Value ([]))] false, .buf 1 (L cU8 a) false]) (vals := []) rfl rfl ⟨_, [], Aa, trivial, ?_⟩ (fun fr_ hlen_ hfr_ => ?_)
    ·simp only [go_sem]
    refine Cr ?_
    refine Cr ?_
    refine Aa2 ?_
    replace h := Az h; obtain ⟨ad, h, e_z_6984⟩ := h
    obtain rfl := Option.some.inj e_z_6984
    have ex_z_6984 := d _ rfl
    subst ex_z_6984
    obtain rfl := Option.some.inj c
    refine Cr ?_
    obtain rfl := Option.some.inj h
    refine Ef rfl [0] (by decide) rfl ?_
    simp only [go_sem]
theorem Im {rec_ : Codec_decoder → UInt8 → Option ((Api_Value × Codec_decoder) ⊕ (Int × Codec_decoder))} (hrec : ∀ {c : Codec_decoder} {e : UInt8} {r : (Api_Value × Codec_decoder) ⊕ (Int × Codec_decoder)}, rec_ c e = some r → PCon B 83 [.ref 0 0, u8 e] [.box [.sl false (L cU8 c.b)] false] (Cv r)) {c : Codec_decoder} {e : UInt8} {r : (Api_Value × Codec_decoder) ⊕ (Int × Codec_decoder)} (h : A3 rec_ c e = some r) : PCon B 83 [.ref 0 0, u8 e] [.box [.sl false (L cU8 c.b)] false] (Cv r) := by
 refine H5 (N := 56) (rs := [.cell 4 55]) 1 rfl ok Tryz.func83 rfl (by decide +kernel) rfl rfl (Nat.le_of_ble_eq_true rfl) (fun F => ?_)
 have hE := ok.env F
 unfold A3 at h
 show Run (B.env F) 1 _ ⟨Am 56 [(0, .ref 0 0), (1, u8 e)], [.box [.sl false (L cU8 c.b)] false]⟩ _
 revert h
 refine T0 [0, 1, 4] ?_
 refine Jo (fun _ => ⟨Am 56 [(4, .ref 1 0)], [.box [.sl false (L cU8 c.b)] false, .box [i64 0, i64 0, .sl true (L cU8 ([])), .sl true (L cApi_Value ([]))] false]⟩) ?_ ?_
 ·intro ax f
  refine Sb ?_
  refine Tw [0, 1, 4, 7] (fun ac => ⟨Am 56 [(0, .ref 0 0), (1, u8 e), (4, .ref 1 0), (7, .bool ac)], [.box [.sl false (L cU8 c.b)] false, .box [i64 0, i64 0, .sl true (L cU8 ([])), .sl true (L cApi_Value ([]))] false]⟩) ?_ ?_
  ·intro _
   refine Sp (fun x => ?_) fun x => ?_
   ·exact Lf Aa (Ev (by simp only [go_sem, x]; exact Ad)) (ws [0, 1])
   ·exact Lf Aa (Ev (by simp only [go_sem, x]; exact Ad)) (ws [0, 1])
  intro ac
  refine Cd ?_ ?_
  ·intro h
   replace h := Az h; obtain ⟨ao, ad, h⟩ := h
   rcases ao with j | p
   rotate_left
   ·dsimp only at h
    refine G7 hE [] 4 _ (v := .iface 150 (.int .i64 p.1)) (σ2 := [.box [.sl false (L cU8 p.2.b)] false, .box [i64 0, i64 0, .sl true (L cU8 ([])), .sl true (L cApi_Value ([]))] false]) (vals := []) rfl rfl ⟨_, [(18, 117, [.ref 0 0, i64 ((e - (32 : UInt8)).toNat : Int), u8 (0 : UInt8)], [.box [.sl false (L cU8 c.b)] false, .box [i64 0, i64 0, .sl true (L cU8 ([])), .sl true (L cApi_Value ([]))] false], .val (.iface 150 (.int .i64 p.1)), [.box [.sl false (L cU8 p.2.b)] false, .box [i64 0, i64 0, .sl true (L cU8 ([])), .sl true (L cApi_Value ([]))] false])], Aa, ⟨fun v hv => by cases hv; exact Dz (PCon.pan (Cg ad) rfl) [0] (by decide) gs gs gs gs, trivial⟩, ?_⟩ (fun fr_ hlen_ hfr_ => ?_)
    ·simp only [go_sem]
    refine Cr ?_
    refine Ho ?_
    replace h := Az h; obtain ⟨ay, h, e_z_7161⟩ := h
    obtain rfl := Option.some.inj e_z_7161
    obtain rfl := Option.some.inj f
    obtain rfl := Option.some.inj h
    refine Ef rfl [0] (by decide) rfl ?_
    simp only [go_sem]
   dsimp only at h
   refine Ca hE [4] (fr' := [(4, .ref 1 0)]) (σ' := [.box [.sl false (L cU8 j.2.b)] false, .box [i64 j.1.Kind, i64 j.1.N, .sl false (L cU8 j.1.B), .sl false (L cApi_Value j.1.L)] false]) ⟨_, (Ag (l := []) (m := [(18, 117, [.ref 0 0, i64 ((e - (32 : UInt8)).toNat : Int), u8 (0 : UInt8)], [.box [.sl false (L cU8 c.b)] false, .box [i64 0, i64 0, .sl true (L cU8 ([])), .sl true (L cApi_Value ([]))] false], _, _)]) trivial ⟨(wc (PCon.to (Cg ad) rfl) [0]), trivial⟩), ?_⟩ ?_
   ·simp only [go_sem]
   revert h
   refine Sr <|Br <|Jr f <|?_
   intro h
   obtain rfl := Option.some.inj h
   refine Mt rfl (R9 (.inr rfl) ?_ rfl ?_)
   ·simp only [go_sem]
   ·show Kb [0] _ [0] _; simp only [go_sem]
  ·refine Tw [0, 1, 4, 19] (fun ae => ⟨Am 56 [(0, .ref 0 0), (1, u8 e), (4, .ref 1 0), (19, .bool ae)], [.box [.sl false (L cU8 c.b)] false, .box [i64 0, i64 0, .sl true (L cU8 ([])), .sl true (L cApi_Value ([]))] false]⟩) ?_ ?_
   ·intro _
    refine Sp (fun y => ?_) fun y => ?_
    ·exact Lf Aa (Ev (by simp only [go_sem, y]; exact Ad)) (ws [0, 1])
    ·exact Lf Aa (Ev (by simp only [go_sem, y]; exact Ad)) (ws [0, 1])
   intro ae
   refine Cd ?_ ?_
   ·intro h
    replace h := Az h; obtain ⟨ap, af, h⟩ := h
    rcases ap with k | q
    rotate_left
    ·dsimp only at h
     refine G7 hE [] 4 _ (v := .iface 150 (.int .i64 q.1)) (σ2 := [.box [.sl false (L cU8 q.2.b)] false, .box [i64 0, i64 0, .sl true (L cU8 ([])), .sl true (L cApi_Value ([]))] false]) (vals := []) rfl rfl ⟨_, [(30, 117, [.ref 0 0, i64 (((31 : UInt8) - e).toNat : Int), u8 (255 : UInt8)], [.box [.sl false (L cU8 c.b)] false, .box [i64 0, i64 0, .sl true (L cU8 ([])), .sl true (L cApi_Value ([]))] false], .val (.iface 150 (.int .i64 q.1)), [.box [.sl false (L cU8 q.2.b)] false, .box [i64 0, i64 0, .sl true (L cU8 ([])), .sl true (L cApi_Value ([]))] false])], Aa, ⟨fun v hv => by cases hv; exact Dz (PCon.pan (Cg af) rfl) [0] (by decide) gs gs gs gs, trivial⟩, ?_⟩ (fun fr_ hlen_ hfr_ => ?_)
     ·simp only [go_sem]
     refine Cr ?_
     refine Ho ?_
     replace h := Az h; obtain ⟨az, h, e_z_7170⟩ := h
     obtain rfl := Option.some.inj e_z_7170
     obtain rfl := Option.some.inj f
     obtain rfl := Option.some.inj h
     refine Ef rfl [0] (by decide) rfl ?_
     simp only [go_sem]
    dsimp only at h
    refine Ca hE [4] (fr' := [(4, .ref 1 0)]) (σ' := [.box [.sl false (L cU8 k.2.b)] false, .box [i64 k.1.Kind, i64 k.1.N, .sl false (L cU8 k.1.B), .sl false (L cApi_Value k.1.L)] false]) ⟨_, (Ag (l := []) (m := [(30, 117, [.ref 0 0, i64 (((31 : UInt8) - e).toNat : Int), u8 (255 : UInt8)], [.box [.sl false (L cU8 c.b)] false, .box [i64 0, i64 0, .sl true (L cU8 ([])), .sl true (L cApi_Value ([]))] false], _, _)]) trivial ⟨(wc (PCon.to (Cg af) rfl) [0]), trivial⟩), ?_⟩ ?_
    ·simp only [go_sem]
    revert h
    refine Sr <|Br <|Jr f <|?_
    intro h
    obtain rfl := Option.some.inj h
    refine Mt rfl (R9 (.inr rfl) ?_ rfl ?_)
    ·simp only [go_sem]
    ·show Kb [0] _ [0] _; simp only [go_sem]
   ·refine T0 [0, 1, 4, 31] ?_
    refine Cd ?_ ?_
    ·intro h
     replace h := Az h; obtain ⟨aq, ag, h⟩ := h
     rcases aq with n | s
     rotate_left
     ·dsimp only at h
      refine G7 hE [] 1 _ (v := .iface 150 (.int .i64 s.1)) (σ2 := [.box [.sl false (L cU8 s.2.b)] false, .box [i64 0, i64 0, .sl true (L cU8 ([])), .sl true (L cApi_Value ([]))] false]) (vals := []) rfl rfl ⟨_, [(35, 118, [.ref 0 0], [.box [.sl false (L cU8 c.b)] false, .box [i64 0, i64 0, .sl true (L cU8 ([])), .sl true (L cApi_Value ([]))] false], .val (.iface 150 (.int .i64 s.1)), [.box [.sl false (L cU8 s.2.b)] false, .box [i64 0, i64 0, .sl true (L cU8 ([])), .sl true (L cApi_Value ([]))] false])], Aa, ⟨fun v hv => by cases hv; exact Dz (PCon.pan (Fz ag) rfl) [0] (by decide) gs gs gs gs, trivial⟩, ?_⟩ (fun fr_ hlen_ hfr_ => ?_)
      ·simp only [go_sem]
      refine Cr ?_
      refine Ho ?_
      replace h := Az h; obtain ⟨aA, h, e_z_7176⟩ := h
      obtain rfl := Option.some.inj e_z_7176
      obtain rfl := Option.some.inj f
      obtain rfl := Option.some.inj h
      refine Ef rfl [0] (by decide) rfl ?_
      simp only [go_sem]
     dsimp only at h
     refine Ca hE [4] (fr' := [(4, .ref 1 0)]) (σ' := [.box [.sl false (L cU8 n.2.b)] false, .box [i64 n.1.Kind, i64 n.1.N, .sl false (L cU8 n.1.B), .sl false (L cApi_Value n.1.L)] false]) ⟨_, (Ag (l := []) (m := [(35, 118, [.ref 0 0], [.box [.sl false (L cU8 c.b)] false, .box [i64 0, i64 0, .sl true (L cU8 ([])), .sl true (L cApi_Value ([]))] false], _, _)]) trivial ⟨(wc (PCon.to (Fz ag) rfl) [0]), trivial⟩), ?_⟩ ?_
     ·simp only [go_sem]
     revert h
     refine Sr <|Br <|Jr f <|?_
     intro h
     obtain rfl := Option.some.inj h
     refine Mt rfl (R9 (.inr rfl) ?_ rfl ?_)
     ·simp only [go_sem]
     ·show Kb [0] _ [0] _; simp only [go_sem]
    ·refine T0 [0, 4, 36] ?_
     refine Cd ?_ ?_
     ·refine T0 [0, 4, 5] ?_
      refine Jo (fun (v : List UInt8 × List Api_Value) => (⟨Am 56 [(4, .ref 1 0), (5, .ref 2 0)], [.box [.sl false (L cU8 v.1)] false, .box [i64 0, i64 0, .sl true (L cU8 ([])), .sl true (L cApi_Value ([]))] false, .box [i64 3, i64 0, .sl true (L cU8 ([])), .bs false 3 (v.2.length) 0 (v.2.length)] false, .buf 4 (L cApi_Value v.2) false]⟩ : St)) ?_ ?_
      ·intro aB z
       intro h
       replace h := Az h; obtain ⟨ar, ah, h⟩ := h
       rcases ar with ai | t
       rotate_left
       ·dsimp only at h
        refine G7 hE [] 1 _ (v := .iface 150 (.int .i64 t.1)) (σ2 := [.box [.sl false (L cU8 t.2.b)] false, .box [i64 0, i64 0, .sl true (L cU8 ([])), .sl true (L cApi_Value ([]))] false, .box [i64 3, i64 0, .sl true (L cU8 ([])), .sl true (L cApi_Value ([]))] false]) (vals := []) rfl rfl ⟨_, [(41, 84, [.ref 0 0], [.box [.sl false (L cU8 c.b)] false, .box [i64 0, i64 0, .sl true (L cU8 ([])), .sl true (L cApi_Value ([]))] false, .box [i64 3, i64 0, .sl true (L cU8 ([])), .sl true (L cApi_Value ([]))] false], .val (.iface 150 (.int .i64 t.1)), [.box [.sl false (L cU8 t.2.b)] false, .box [i64 0, i64 0, .sl true (L cU8 ([])), .sl true (L cApi_Value ([]))] false, .box [i64 3, i64 0, .sl true (L cU8 ([])), .sl true (L cApi_Value ([]))] false])], Aa, ⟨fun v hv => by cases hv; exact Dz (PCon.pan (Ao ah) rfl) [0] (by decide) gs gs gs gs, trivial⟩, ?_⟩ (fun fr_ hlen_ hfr_ => ?_)
        ·simp only [go_sem]
        refine Ho ?_
        replace h := Az h; obtain ⟨aC, h, e_z_7255⟩ := h
        obtain rfl := Option.some.inj e_z_7255
        obtain rfl := Option.some.inj z
        refine Cr ?_
        refine Ho ?_
        replace h := Az h; obtain ⟨aD, h, e_z_7254⟩ := h
        obtain rfl := Option.some.inj e_z_7254
        obtain rfl := Option.some.inj f
        obtain rfl := Option.some.inj h
        refine Ef rfl [0] (by decide) rfl ?_
        simp only [go_sem]
       dsimp only at h
       refine Ca hE [0, 4, 5, 6] (fr' := [(0, .ref 0 0), (4, .ref 1 0), (5, .ref 2 0), (6, u8 ai.1)]) (σ' := [.box [.sl false (L cU8 ai.2.b)] false, .box [i64 0, i64 0, .sl true (L cU8 ([])), .sl true (L cApi_Value ([]))] false, .box [i64 3, i64 0, .sl true (L cU8 ([])), .sl true (L cApi_Value ([]))] false]) ⟨_, (Ag (l := []) (m := [(41, 84, [.ref 0 0], [.box [.sl false (L cU8 c.b)] false, .box [i64 0, i64 0, .sl true (L cU8 ([])), .sl true (L cApi_Value ([]))] false, .box [i64 3, i64 0, .sl true (L cU8 ([])), .sl true (L cApi_Value ([]))] false], _, _)]) trivial ⟨(wc (PCon.to (Ao ah) rfl) [0]), trivial⟩), ?_⟩ ?_
       ·simp only [go_sem]
       revert h
       refine Sb ?_
       refine Lo (fun ⟨o, i, a⟩ => ⟨Am 56 [(0, .ref 0 0), (4, .ref 1 0), (5, .ref 2 0), (6, u8 o)], [.box [.sl false (L cU8 i)] false, .box [i64 0, i64 0, .sl true (L cU8 ([])), .sl true (L cApi_Value ([]))] false, .box [i64 3, i64 0, .sl true (L cU8 ([])), .bs false 3 (a.length) 0 (a.length)] false, .buf 4 (L cApi_Value a) false]⟩) ((Gp 2 3 4 rfl rfl).trans (ws [0, 1, 2, 3])) ?_
       rintro ⟨o, i, a⟩ aE au aa ab
       show Bc rec_ o i a = some au → _
       unfold Bc
       refine Sq <|T0 [0, 4, 5, 6, 43] ?_
       refine Cd ?_ ?_
       ·refine Sk <|Tn <|Sq <|Sb <|?_
        intro h
        replace h := Az h; obtain ⟨av, aj, h⟩ := h
        rcases av with g | u
        rotate_left
        ·dsimp only at h
         refine Ad1 hE mixed [] rfl [[], [0], [], [], [2, 3], [2, 3, 4], [0, 1, 2, 3, 4, 5], [0, 1, 2, 3, 4, 5, 6], [0, 1, 2, 3, 4, 5, 6, 7]] (by kernel_rfl) 4 (by kernel_rfl) (by kernel_rfl) _ (v := .iface 150 (.int .i64 u.1)) (σ2 := [.box [.sl false (L cU8 u.2.b)] false, .box [i64 0, i64 0, .sl true (L cU8 ([])), .sl true (L cApi_Value ([]))] false, .box [i64 3, i64 0, .sl true (L cU8 ([])), .bs false 3 (a.length) 0 (a.length)] false, .buf 4 (L cApi_Value a) false]) (vals := []) rfl rfl ⟨_, [(50, 83, [.ref 0 0, u8 o], [.box [.sl false (L cU8 i)] false, .box [i64 0, i64 0, .sl true (L cU8 ([])), .sl true (L cApi_Value ([]))] false, .box [i64 3, i64 0, .sl true (L cU8 ([])), .bs false 3 (a.length) 0 (a.length)] false, .buf 4 (L cApi_Value a) false], .val (.iface 150 (.int .i64 u.1)), [.box [.sl false (L cU8 u.2.b)] false, .box [i64 0, i64 0, .sl true (L cU8 ([])), .sl true (L cApi_Value ([]))] false, .box [i64 3, i64 0, .sl true (L cU8 ([])), .bs false 3 (a.length) 0 (a.length)] false, .buf 4 (L cApi_Value a) false])], Aa, ⟨fun v hv => by cases hv; exact Dz (PCon.pan (hrec aj) rfl) [0] (by decide) gs gs gs gs, trivial⟩, ?_⟩ (fun fr_ hlen_ hfr_ => ?_)
         ·simp only [go_sem]
         refine Cr ?_
         refine Q4 ?_
         refine Aa2 ?_
         replace h := Az h; obtain ⟨aF, h, e_z_7306⟩ := h
         obtain rfl := Option.some.inj e_z_7306
         have ex_z_7306 := ab _ rfl
         subst ex_z_7306
         obtain rfl := Option.some.inj aa
         refine Cr ?_
         refine Ho ?_
         replace h := Az h; obtain ⟨aG, h, e_z_7305⟩ := h
         obtain rfl := Option.some.inj e_z_7305
         obtain rfl := Option.some.inj z
         refine Cr ?_
         refine Ho ?_
         replace h := Az h; obtain ⟨aH, h, e_z_7304⟩ := h
         obtain rfl := Option.some.inj e_z_7304
         obtain rfl := Option.some.inj f
         obtain rfl := Option.some.inj h
         refine Ef rfl [0] (by decide) rfl ?_
         simp only [go_sem]
        dsimp only at h
        replace h := Vv h; obtain ⟨ak, h⟩ := h
        replace h := AgH h; obtain ⟨d, al, h⟩ := h
        refine Ue hE mixed [[], [0], [], [], [2, 3], [2, 3, 4], [0, 1, 2, 3, 4, 5], [0, 1, 2, 3, 4, 5, 6], [0, 1, 2, 3, 4, 5, 6, 7]] (by kernel_rfl) 4 [0, 1] [0, 4, 5, 46] (by kernel_rfl) (Da N6) (fr' := [(0, .ref 0 0), (4, .ref 1 0), (5, .ref 2 0), (46, .ref 2 3)]) (σ' := [.box [.sl false (L cU8 g.2.b)] false, .box [i64 0, i64 0, .sl true (L cU8 ([])), .sl true (L cApi_Value ([]))] false, .box [i64 3, i64 0, .sl true (L cU8 ([])), .bs false 3 (d.length) 0 (d.length)] false, .buf 4 (L cApi_Value d) false, .buf 4 (L cApi_Value ([g.1] : List Api_Value)) false]) ⟨_, _, _, _, _, _, _, rfl, ?_, (Ag (l := []) (m := [(50, 83, [.ref 0 0, u8 o], [.box [.sl false (L cU8 i)] false, .box [i64 0, i64 0, .sl true (L cU8 ([])), .sl true (L cApi_Value ([]))] false, .box [i64 3, i64 0, .sl true (L cU8 ([])), .bs false 3 (a.length) 0 (a.length)] false, .buf 4 (L cApi_Value a) false], _, _)]) trivial ⟨(wc (PCon.to (hrec aj) rfl) [0]), trivial⟩), ?_⟩ ?_
        ·subst al; simp only [go_sem, ak]
        ·subst al; simp only [go_sem, ak]
        revert h
        refine Bn <|Tn <|?_
        intro h
        replace h := Az h; obtain ⟨aw, am, h⟩ := h
        rcases aw with an | w
        rotate_left
        ·dsimp only at h
         refine I2 hE [] 1 _ (v := .iface 150 (.int .i64 w.1)) (σ2 := [.box [.sl false (L cU8 w.2.b)] false, .box [i64 0, i64 0, .sl true (L cU8 ([])), .sl true (L cApi_Value ([]))] false, .box [i64 3, i64 0, .sl true (L cU8 ([])), .bs false 3 (d.length) 0 (d.length)] false, .buf 4 (L cApi_Value d) false, .buf 4 (L cApi_Value ([g.1] : List Api_Value)) false]) (vals := []) rfl rfl ⟨_, [(45, 84, [.ref 0 0], [.box [.sl false (L cU8 g.2.b)] false, .box [i64 0, i64 0, .sl true (L cU8 ([])), .sl true (L cApi_Value ([]))] false, .box [i64 3, i64 0, .sl true (L cU8 ([])), .bs false 3 (d.length) 0 (d.length)] false, .buf 4 (L cApi_Value d) false, .buf 4 (L cApi_Value ([g.1] : List Api_Value)) false], .val (.iface 150 (.int .i64 w.1)), [.box [.sl false (L cU8 w.2.b)] false, .box [i64 0, i64 0, .sl true (L cU8 ([])), .sl true (L cApi_Value ([]))] false, .box [i64 3, i64 0, .sl true (L cU8 ([])), .bs false 3 (d.length) 0 (d.length)] false, .buf 4 (L cApi_Value d) false, .buf 4 (L cApi_Value ([g.1] : List Api_Value)) false])], Aa, ⟨fun v hv => by cases hv; exact Dz (PCon.pan (Ao am) rfl) [0] (by decide) gs gs gs gs, trivial⟩, ?_⟩ (fun fr_ hlen_ hfr_ => ?_)
         ·simp only [go_sem]
         refine Aa2 ?_
         replace h := Az h; obtain ⟨aI, h, e_z_7316⟩ := h
         obtain rfl := Option.some.inj e_z_7316
         have ex_z_7316 := ab _ rfl
         subst ex_z_7316
         obtain rfl := Option.some.inj aa
         refine Cr ?_
         refine Ho ?_
         replace h := Az h; obtain ⟨aJ, h, e_z_7315⟩ := h
         obtain rfl := Option.some.inj e_z_7315
         obtain rfl := Option.some.inj z
         refine Cr ?_
         refine Ho ?_
         replace h := Az h; obtain ⟨aK, h, e_z_7314⟩ := h
         obtain rfl := Option.some.inj e_z_7314
         obtain rfl := Option.some.inj f
         obtain rfl := Option.some.inj h
         refine Ef rfl [0] (by decide) rfl ?_
         simp only [go_sem]
        dsimp only at h
        refine Lk hE Aee [0, 4, 5, 6] (fr' := [(0, .ref 0 0), (4, .ref 1 0), (5, .ref 2 0), (6, u8 an.1)]) (σ' := [.box [.sl false (L cU8 an.2.b)] false, .box [i64 0, i64 0, .sl true (L cU8 ([])), .sl true (L cApi_Value ([]))] false, .box [i64 3, i64 0, .sl true (L cU8 ([])), .bs false 3 (d.length) 0 (d.length)] false, .buf 4 (L cApi_Value d) false, .buf 4 (L cApi_Value ([g.1] : List Api_Value)) false]) ⟨_, (Ag (l := []) (m := [(45, 84, [.ref 0 0], [.box [.sl false (L cU8 g.2.b)] false, .box [i64 0, i64 0, .sl true (L cU8 ([])), .sl true (L cApi_Value ([]))] false, .box [i64 3, i64 0, .sl true (L cU8 ([])), .bs false 3 (d.length) 0 (d.length)] false, .buf 4 (L cApi_Value d) false, .buf 4 (L cApi_Value ([g.1] : List Api_Value)) false], _, _)]) trivial ⟨(wc (PCon.to (Ao am) rfl) [0]), trivial⟩), ?_⟩ ?_
        ·simp only [go_sem]
        revert h
        exact Ln (ws [0, 1, 2, 3])
       ·refine Sx <|Tx <|Lx ab aa <|Bx <|?_
        exact Jn ((ws (l' := [(4, .ref 1 0), (5, .ref 2 0)]) (σ' := [.box [.sl false (L cU8 i)] false, .box [i64 0, i64 0, .sl true (L cU8 ([])), .sl true (L cApi_Value ([]))] false, .box [i64 3, i64 0, .sl true (L cU8 ([])), .bs false 3 (a.length) 0 (a.length)] false, .buf 4 (L cApi_Value a) false]) [0, 1, 2, 3]).trans (ws [0, 1, 2, 3]))
      rintro ⟨aL, aM⟩
      refine T0 [4] ?_
      refine Sr <|Br <|Jr f <|?_
      intro h
      obtain rfl := Option.some.inj h
      refine Mt rfl (R9 (.inr rfl) ?_ rfl ?_)
      ·simp only [go_sem]
      ·show Kb [0] _ [0] _; simp only [go_sem]
     ·exact Sk <|Bn <|Jn (ws [0, 1])
 intro _
 intro h
 refine I2 hE [] 1 _ (v := .iface 150 (.int .i64 4)) (σ2 := [.box [.sl false (L cU8 c.b)] false, .box [i64 0, i64 0, .sl true (L cU8 ([])), .sl true (L cApi_Value ([]))] false]) (vals := []) rfl rfl ⟨_, [], Aa, trivial, ?_⟩ (fun fr_ hlen_ hfr_ => ?_)
 ·simp only [go_sem]
 obtain rfl := Option.some.inj h
 refine Ef rfl [0] (by decide) rfl ?_
 simp only [go_sem]
theorem Ii (n : Nat) : ∀ {a : Codec_decoder} {c : UInt8} {r : (Api_Value × Codec_decoder) ⊕ (Int × Codec_decoder)}, Ax n a c = some r → PCon B 83 [.ref 0 0, u8 c] [.box [.sl false (L cU8 a.b)] false] (Cv r) := by
  induction n with
  | zero => intro a c r h; cases h
  | succ n ih => intro a c r h; exact Im ih h
theorem Fj {a : Codec_decoder} {c : UInt8} {r : (Api_Value × Codec_decoder) ⊕ (Int × Codec_decoder)} (h : Do a c = some r) : PCon B 83 [.ref 0 0, u8 c] [.box [.sl false (L cU8 a.b)] false] (Cv r) := Ii _ h
theorem Ic {a0 : AV} {a1 : AV} {a2 : AV} {a3 : AV} {b0 : AV} {x_ : Int} : App B 82 (G3 2) [.box [a0, a1, a2, a3] false, .box [b0] false] (.panicking (Abs (.iface 150 (.int .i64 x_)))) (.panicking [{ v := (.iface 150 (.int .i64 x_)), recovered := true }]) [.box [i64 0, i64 0, .sl true (L cU8 ([])), .sl true (L cApi_Value ([]))] false, .box [i64 x_] false] := by
  intro F w g vs hm ha
  have hE := ok.env F
  obtain ⟨vs⟩ := vs
  match vs, ha with
  | [p_, q_], ⟨hp, hq, _⟩ =>
    refine callsD_of_wpS Tryz.func82 rfl fun c₀ cs hu => ?_
    refine wpS_seq (wpS_region ?_)
    show wpOpsS B.P _ _ [0, 1, 2, 3, 4, 5, 6] _ _ _
    refine AaQ _ (.iface 150 (.int .i64 x_)) [] ⟨#[p_, q_, undef, undef, undef, (.iface 150 (.int .i64 x_)), undef, undef, undef, undef, undef, undef], []⟩ rfl rfl rfl hu rfl ?_
    refine Ep (w' := w) _ (.tuple #[.int .i64 x_, .bool true]) ⟨#[p_, q_, undef, undef, undef, (.iface 150 (.int .i64 x_)), (.tuple #[.int .i64 x_, .bool true]), undef, undef, undef, undef, undef], []⟩ rfl rfl ?_ rfl ?_
    · show ((Instr.typeAssert (.iface 150 (.int .i64 x_)) 20 150 true).run B.P w).andThen (fun v w => Result.ok (Next.value v) w) = _
      have h2 : (Instr.typeAssert (.iface 150 (.int .i64 x_)) 20 150 true).run B.P w = _ := Sz hE (Ajr F) (.int .i64 x_) 20 w
      rw [h2]; rfl
    refine Ep (w' := w) _ (.tuple #[.int .i64 x_, .bool true]) ⟨#[p_, q_, undef, undef, (.tuple #[.int .i64 x_, .bool true]), (.iface 150 (.int .i64 x_)), (.tuple #[.int .i64 x_, .bool true]), undef, undef, undef, undef, undef], []⟩ rfl rfl rfl rfl ?_
    refine Ep (w' := w) _ (.int .i64 x_) ⟨#[p_, q_, undef, undef, (.tuple #[.int .i64 x_, .bool true]), (.iface 150 (.int .i64 x_)), (.tuple #[.int .i64 x_, .bool true]), (.int .i64 x_), undef, undef, undef, undef], []⟩ rfl rfl rfl rfl ?_
    refine Ep (w' := w) _ (.bool true) ⟨#[p_, q_, undef, undef, (.tuple #[.int .i64 x_, .bool true]), (.iface 150 (.int .i64 x_)), (.tuple #[.int .i64 x_, .bool true]), (.int .i64 x_), (.bool true), undef, undef, undef], []⟩ rfl rfl rfl rfl ?_
    refine Ep (w' := w) _ (.int .i64 x_) ⟨#[p_, q_, (.int .i64 x_), undef, (.tuple #[.int .i64 x_, .bool true]), (.iface 150 (.int .i64 x_)), (.tuple #[.int .i64 x_, .bool true]), (.int .i64 x_), (.bool true), undef, undef, undef], []⟩ rfl rfl rfl rfl ?_
    refine Ep (w' := w) _ (.bool true) ⟨#[p_, q_, (.int .i64 x_), (.bool true), (.tuple #[.int .i64 x_, .bool true]), (.iface 150 (.int .i64 x_)), (.tuple #[.int .i64 x_, .bool true]), (.int .i64 x_), (.bool true), undef, undef, undef], []⟩ rfl rfl rfl rfl ?_
    refine Aa9 ?_
    refine X5 (B := B) (F := F) (g := g) (w := w) (fn := Tryz.f82) (c₀ := c₀) (a := ⟨#[p_, q_, (.int .i64 x_), (.bool true), (.tuple #[.int .i64 x_, .bool true]), (.iface 150 (.int .i64 x_)), (.tuple #[.int .i64 x_, .bool true]), (.int .i64 x_), (.bool true), undef, undef, undef], []⟩) (n := 2) (N := 12) (l := [(0, .ref 0 0), (1, .ref 1 0), (2, i64 x_), (3, .bool true)]) rfl rfl rfl rfl hm ?_ ?_
    · intro p h
      simp only [List.mem_cons, List.not_mem_nil, or_false] at h
      rcases h with rfl | rfl | rfl | rfl
      · exact hp
      · exact hq
      · exact .int _ _ _
      · exact .bool _ _
    · refine Ca hE [0, 1, 2, 3, 9] (fr' := [(0, .ref 0 0), (1, .ref 1 0), (2, i64 x_), (3, .bool true), (9, .bool true)]) (σ' := [.box [a0, a1, a2, a3] false, .box [b0] false]) ⟨_, Aa, by simp only [go_sem]⟩ ?_
      refine Hl (b := true) rfl (by decide) (fun hb => ?_) (fun hb => ?_)
      · refine AfA hE [] (fr' := []) (σ' := [.box [i64 0, i64 0, .sl true (L cU8 ([])), .sl true (L cApi_Value ([]))] false, .box [i64 x_] false]) ⟨_, Aa, by simp only [go_sem]⟩ (fun _ => ⟨rfl, rfl⟩)
      · cases hb
theorem Dp {a0 : AV} {a1 : AV} {a2 : AV} {a3 : AV} {b0 : AV} : App B 82 (G3 2) [.box [a0, a1, a2, a3] false, .box [b0] false] .returning .returning [.box [a0, a1, a2, a3] false, .box [b0] false] := by
  intro F w g vs hm ha
  have hE := ok.env F
  obtain ⟨vs⟩ := vs
  match vs, ha with
  | [p_, q_], ⟨hp, hq, _⟩ =>
    refine callsD_of_wpS Tryz.func82 rfl fun c₀ cs hu => ?_
    refine wpS_seq (wpS_region ?_)
    show wpOpsS B.P _ _ [0, 1, 2, 3, 4, 5, 6] _ _ _
    obtain ⟨u_, hu_⟩ := Sh hE (Ajr F) 20 w
    refine AeM _ ⟨#[p_, q_, undef, undef, undef, .nilIface, undef, undef, undef, undef, undef, undef], []⟩ rfl rfl rfl hu rfl ?_
    refine Ep (w' := w) _ (.tuple #[u_, .bool false]) ⟨#[p_, q_, undef, undef, undef, .nilIface, (.tuple #[u_, .bool false]), undef, undef, undef, undef, undef], []⟩ rfl rfl ?_ rfl ?_
    · show ((Instr.typeAssert .nilIface 20 150 true).run B.P w).andThen (fun v w => Result.ok (Next.value v) w) = _
      have h2 : (Instr.typeAssert .nilIface 20 150 true).run B.P w = _ := hu_
      rw [h2]; rfl
    refine Ep (w' := w) _ (.tuple #[u_, .bool false]) ⟨#[p_, q_, undef, undef, (.tuple #[u_, .bool false]), .nilIface, (.tuple #[u_, .bool false]), undef, undef, undef, undef, undef], []⟩ rfl rfl rfl rfl ?_
    refine Ep (w' := w) _ u_ ⟨#[p_, q_, undef, undef, (.tuple #[u_, .bool false]), .nilIface, (.tuple #[u_, .bool false]), u_, undef, undef, undef, undef], []⟩ rfl rfl rfl rfl ?_
    refine Ep (w' := w) _ (.bool false) ⟨#[p_, q_, undef, undef, (.tuple #[u_, .bool false]), .nilIface, (.tuple #[u_, .bool false]), u_, (.bool false), undef, undef, undef], []⟩ rfl rfl rfl rfl ?_
    refine Ep (w' := w) _ u_ ⟨#[p_, q_, u_, undef, (.tuple #[u_, .bool false]), .nilIface, (.tuple #[u_, .bool false]), u_, (.bool false), undef, undef, undef], []⟩ rfl rfl rfl rfl ?_
    refine Ep (w' := w) _ (.bool false) ⟨#[p_, q_, u_, (.bool false), (.tuple #[u_, .bool false]), .nilIface, (.tuple #[u_, .bool false]), u_, (.bool false), undef, undef, undef], []⟩ rfl rfl rfl rfl ?_
    refine Aa9 ?_
    refine X5 (B := B) (F := F) (g := g) (w := w) (fn := Tryz.f82) (c₀ := c₀) (a := ⟨#[p_, q_, u_, (.bool false), (.tuple #[u_, .bool false]), .nilIface, (.tuple #[u_, .bool false]), u_, (.bool false), undef, undef, undef], []⟩) (n := 2) (N := 12) (l := [(0, .ref 0 0), (1, .ref 1 0), (3, .bool false)]) rfl rfl rfl rfl hm ?_ ?_
    · intro p h
      simp only [List.mem_cons, List.not_mem_nil, or_false] at h
      rcases h with rfl | rfl | rfl
      · exact hp
      · exact hq
      · exact .bool _ _
    · refine Ca hE [0, 1, 3, 9] (fr' := [(0, .ref 0 0), (1, .ref 1 0), (3, .bool false), (9, .bool false)]) (σ' := [.box [a0, a1, a2, a3] false, .box [b0] false]) ⟨_, Aa, by simp only [go_sem]⟩ ?_
      refine Hl (b := false) rfl (by decide) (fun hb => ?_) (fun hb => ?_)
      · cases hb
      · exact Wg ⟨rfl, rfl⟩
theorem Pn {c : List UInt8} {r : Api_Value × Int} (h : Cy c = some r) : Con B 34 [.sl false (L cU8 c)] [] (fun r' σ' => r' = .tup [.agg [i64 r.1.Kind, i64 r.1.N, .sl false (L cU8 r.1.B), .sl false (L cApi_Value r.1.L)], i64 r.2] ∧ σ' = []) := by
 refine Adz (cf := 82) (rs := [.cell 2 55, .cell 3 45]) (N := 35) (t7 := 7) (m := 2) (rfr := [(2, .ref 0 0), (3, .ref 1 0)]) (fr1 := [(3, .ref 1 0), (2, .ref 0 0), (0, .sl false (L cU8 c))]) (σ1 := [.box [i64 0, i64 0, .sl true (L cU8 ([])), .sl true (L cApi_Value ([]))] false, .box [i64 0] false]) ok Tryz.func34 rfl (by decide +kernel) rfl rfl (Nat.le_of_ble_eq_true rfl) rfl rfl rfl rfl rfl rfl (by decide) (fun F => ?_) rfl ?_ rfl Tryz.func82 rfl (by decide +kernel) (fun F D => ?_)
 ·have hE := ok.env F; refine (M3 _ _).symm.trans ?_; simp only [go_sem]; rfl
 ·simp only [go_sem]; rfl
 have hE : ({ B.env F with D := D } : Env).Ok := ⟨(ok.env F).desc, (ok.env F).info⟩
 unfold Cy at h
 refine Fp (Hy _ _ [0, 2, 3] _ _) ?_
 show Run _ 2 _ ⟨Am 35 [(0, .sl false (L cU8 c)), (2, .ref 0 0), (3, .ref 1 0)], [.box [i64 0, i64 0, .sl true (L cU8 ([])), .sl true (L cApi_Value ([]))] false, .box [i64 0] false]⟩ _
 revert h
 refine Sq <|T0 [0, 2, 3, 10] ?_
 refine Cd ?_ ?_
 ·refine T0 [2, 3] ?_
  refine Sr <|Tr <|?_
  intro h
  obtain rfl := Option.some.inj h
  refine ⟨_, [.box [i64 0, i64 0, .sl false (L cU8 ([])), .sl false (L cApi_Value ([]))] false, .box [i64 2] false], _, [.box [i64 0, i64 0, .sl false (L cU8 ([])), .sl false (L cApi_Value ([]))] false, .box [i64 2] false], [.agg [i64 0, i64 0, .sl false (L cU8 ([])), .sl false (L cApi_Value ([]))], i64 2], Jp _ _, .inl ⟨.inr rfl, rfl⟩, ?_, Dp, rfl, ?_, Aj8 ?_, ?_⟩
  ·show Kb [0, 1] _ [0, 1] _; simp only [go_sem]
  ·simp only [go_sem]
  ·simp only [go_sem]
  ·simp only [go_sem]
 ·refine Sk <|Tn <|T0 [2, 3, 4] ?_
  intro h
  replace h := Az h; obtain ⟨j, g, h⟩ := h
  rcases j with f | d
  rotate_left
  ·dsimp only at h
   refine G7 hE [2, 3] 2 _ (v := .iface 150 (.int .i64 d.1)) (σ2 := [.box [i64 0, i64 0, .sl true (L cU8 ([])), .sl true (L cApi_Value ([]))] false, .box [i64 0] false, .box [.sl false (L cU8 d.2.b)] false]) (vals := [.ref 0 0, .ref 1 0]) rfl rfl ⟨_, [(17, 84, [.ref 2 0], [.box [i64 0, i64 0, .sl true (L cU8 ([])), .sl true (L cApi_Value ([]))] false, .box [i64 0] false, .box [.sl false (L cU8 c)] false], .val (.iface 150 (.int .i64 d.1)), [.box [i64 0, i64 0, .sl true (L cU8 ([])), .sl true (L cApi_Value ([]))] false, .box [i64 0] false, .box [.sl false (L cU8 d.2.b)] false])], Aa, ⟨fun v hv => by cases hv; exact Dz (PCon.pan (Ao g) rfl) [2] (by decide) gs gs gs gs, trivial⟩, ?_⟩ (fun fr_ hlen_ hfr_ => ?_)
   ·simp only [go_sem]
   obtain rfl := Option.some.inj h
   refine ⟨_, [.box [i64 0, i64 0, .sl false (L cU8 ([])), .sl false (L cApi_Value ([]))] false, .box [i64 0] false], _, [.box [i64 0, i64 0, .sl true (L cU8 ([])), .sl true (L cApi_Value ([]))] false, .box [i64 d.1] false], [.agg [i64 0, i64 0, .sl true (L cU8 ([])), .sl true (L cApi_Value ([]))], i64 d.1], hlen_, .inr ⟨_, rfl, rfl⟩, ?_, Ic, rfl, ?_, Aj8 ?_, ?_⟩
   ·show Kb [0, 1] _ [0, 1] _; simp only [go_sem]
   ·simp only [List.map_cons, List.map_nil, List.cons.injEq] at hfr_; exact ⟨hfr_.1, hfr_.2.1, trivial⟩
   ·simp only [go_sem]
   ·simp only [go_sem]
  dsimp only at h
  replace h := Az h; obtain ⟨k, i, h⟩ := h
  rcases k with a | e
  rotate_left
  ·dsimp only at h
   refine G7 hE [2, 3] 3 _ (v := .iface 150 (.int .i64 e.1)) (σ2 := [.box [i64 0, i64 0, .sl true (L cU8 ([])), .sl true (L cApi_Value ([]))] false, .box [i64 0] false, .box [.sl false (L cU8 e.2.b)] false]) (vals := [.ref 0 0, .ref 1 0]) rfl rfl ⟨_, [(18, 83, [.ref 2 0, u8 f.1], [.box [i64 0, i64 0, .sl true (L cU8 ([])), .sl true (L cApi_Value ([]))] false, .box [i64 0] false, .box [.sl false (L cU8 f.2.b)] false], .val (.iface 150 (.int .i64 e.1)), [.box [i64 0, i64 0, .sl true (L cU8 ([])), .sl true (L cApi_Value ([]))] false, .box [i64 0] false, .box [.sl false (L cU8 e.2.b)] false])], (Ag (l := []) (m := [(17, 84, [.ref 2 0], [.box [i64 0, i64 0, .sl true (L cU8 ([])), .sl true (L cApi_Value ([]))] false, .box [i64 0] false, .box [.sl false (L cU8 c)] false], _, _)]) trivial ⟨(wc (PCon.to (Ao g) rfl) [2]), trivial⟩), ⟨fun v hv => by cases hv; exact Dz (PCon.pan (Fj i) rfl) [2] (by decide) gs gs gs gs, trivial⟩, ?_⟩ (fun fr_ hlen_ hfr_ => ?_)
   ·simp only [go_sem]
   obtain rfl := Option.some.inj h
   refine ⟨_, [.box [i64 0, i64 0, .sl false (L cU8 ([])), .sl false (L cApi_Value ([]))] false, .box [i64 0] false], _, [.box [i64 0, i64 0, .sl true (L cU8 ([])), .sl true (L cApi_Value ([]))] false, .box [i64 e.1] false], [.agg [i64 0, i64 0, .sl true (L cU8 ([])), .sl true (L cApi_Value ([]))], i64 e.1], hlen_, .inr ⟨_, rfl, rfl⟩, ?_, Ic, rfl, ?_, Aj8 ?_, ?_⟩
   ·show Kb [0, 1] _ [0, 1] _; simp only [go_sem]
   ·simp only [List.map_cons, List.map_nil, List.cons.injEq] at hfr_; exact ⟨hfr_.1, hfr_.2.1, trivial⟩
   ·simp only [go_sem]
   ·simp only [go_sem]
  dsimp only at h
  refine Ca hE [2, 3, 4] (fr' := [(2, .ref 0 0), (3, .ref 1 0), (4, .ref 2 0)]) (σ' := [.box [i64 a.1.Kind, i64 a.1.N, .sl false (L cU8 a.1.B), .sl false (L cApi_Value a.1.L)] false, .box [i64 0] false, .box [.sl false (L cU8 a.2.b)] false]) ⟨_, (Ag (l := []) (m := [(17, 84, [.ref 2 0], [.box [i64 0, i64 0, .sl true (L cU8 ([])), .sl true (L cApi_Value ([]))] false, .box [i64 0] false, .box [.sl false (L cU8 c)] false], _, _), (18, 83, [.ref 2 0, u8 f.1], [.box [i64 0, i64 0, .sl true (L cU8 ([])), .sl true (L cApi_Value ([]))] false, .box [i64 0] false, .box [.sl false (L cU8 f.2.b)] false], _, _)]) trivial ⟨(wc (PCon.to (Ao g) rfl) [2]), (wc (PCon.to (Fj i) rfl) [2]), trivial⟩), ?_⟩ ?_
  ·simp only [go_sem]
  revert h
  refine Sq <|T0 [2, 3, 24] ?_
  refine Cd ?_ ?_
  ·refine T0 [2, 3] ?_
   refine Sr <|Tr <|?_
   intro h
   obtain rfl := Option.some.inj h
   refine ⟨_, [.box [i64 0, i64 0, .sl false (L cU8 ([])), .sl false (L cApi_Value ([]))] false, .box [i64 4] false], _, [.box [i64 0, i64 0, .sl false (L cU8 ([])), .sl false (L cApi_Value ([]))] false, .box [i64 4] false], [.agg [i64 0, i64 0, .sl false (L cU8 ([])), .sl false (L cApi_Value ([]))], i64 4], Jp _ _, .inl ⟨.inr rfl, rfl⟩, ?_, Dp, rfl, ?_, Aj8 ?_, ?_⟩
   ·show Kb [0, 1] _ [0, 1] _; simp only [go_sem]
   ·simp only [go_sem]
   ·simp only [go_sem]
   ·simp only [go_sem]
  ·refine Sk <|Tn <|Sq <|Bd fun o n =>Te [2, 3, 5] (o1 28 (Ki n)) Ev ?_
   refine T0 [2, 3, 32] ?_
   refine Cd ?_ ?_
   ·refine T0 [2, 3] ?_
    refine Sr <|Tr <|?_
    intro h
    obtain rfl := Option.some.inj h
    refine ⟨_, [.box [i64 0, i64 0, .sl false (L cU8 ([])), .sl false (L cApi_Value ([]))] false, .box [i64 2] false], _, [.box [i64 0, i64 0, .sl false (L cU8 ([])), .sl false (L cApi_Value ([]))] false, .box [i64 2] false], [.agg [i64 0, i64 0, .sl false (L cU8 ([])), .sl false (L cApi_Value ([]))], i64 2], Jp _ _, .inl ⟨.inr rfl, rfl⟩, ?_, Dp, rfl, ?_, Aj8 ?_, ?_⟩
    ·show Kb [0, 1] _ [0, 1] _; simp only [go_sem]
    ·simp only [go_sem]
    ·simp only [go_sem]
    ·simp only [go_sem]
   ·refine Sk <|Tn <|T0 [2, 3] ?_
    refine Sr ?_
    intro h
    obtain rfl := Option.some.inj h
    refine ⟨_, [.box [i64 a.1.Kind, i64 a.1.N, .sl false (L cU8 a.1.B), .sl false (L cApi_Value a.1.L)] false, .box [i64 0] false], _, [.box [i64 a.1.Kind, i64 a.1.N, .sl false (L cU8 a.1.B), .sl false (L cApi_Value a.1.L)] false, .box [i64 0] false], [.agg [i64 a.1.Kind, i64 a.1.N, .sl false (L cU8 a.1.B), .sl false (L cApi_Value a.1.L)], i64 0], Jp _ _, .inl ⟨.inr rfl, rfl⟩, ?_, Dp, rfl, ?_, Aj8 ?_, ?_⟩
    ·show Kb [0, 1] _ [0, 1] _; simp only [go_sem]
    ·simp only [go_sem]
    ·simp only [go_sem]
    ·simp only [go_sem]
end Go.Proofs.YtnfoiocigicdnaaGreatDoor
