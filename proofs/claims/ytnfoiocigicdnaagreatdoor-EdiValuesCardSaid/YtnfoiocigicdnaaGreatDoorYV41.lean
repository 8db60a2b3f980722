/-
  Part 41.
-/
import Derived.Test.YtnfoiocigicdnaaGreatDoorYV40
import Derived.Lib.AtoiAllCases
import Derived.Lib.UnsafeStr
namespace Go.Rv
open Go.RowKit
set_option linter.unusedVariables false
set_option linter.unusedSimpArgs false
theorem Ae9 {B : Base} {f : FuncId} {fn : Func} {c : Code} {args : List AV} {σ : Ab} {r0 : AV} {rs : List ResultVar} {N : Nat} (n : Nat) (hn0 : σ.length = n) (hB : B.Ok) (hf : B.P.funcs[f]? = some fn) (hb : fn.body = some c) (hn : (fn.name == "runtime.NumGoroutine") = false) (hN : fn.ntmps = N) (hrs : fn.results.toList = rs)
    (hlen : args.length ≤ N) (hr : r0.under n = true) (h : ∀ F, Run (B.env F) n c ⟨Am N (S2 0 args), σ⟩ (fun ex st => (ex = .normal ∨ ex = .ret) ∧ ∃ xs bs, Eh (B.env F) st.σ st.fr rs = some xs ∧ Hq xs = r0 ∧ st.σ = σ ++ bs)) : ∀ F, Wv (B.env F) f args σ r0 σ := by
  subst hn0
  have h0 : Con B f args σ (fun r σ' => r = r0 ∧ ∃ bs, σ' = σ ++ bs) := by
    refine Ab0 hB hf hb hn (fun F => ?_)
    subst hN hrs
    rw [Hd fn.ntmps args hlen (S2 0 args) (fun t _ => Hz args 0 t (Nat.zero_le _))]
    refine G9 (h F) ?_
    rintro ex st ⟨h1, xs, bs, h2, h3, h4⟩
    exact ⟨h1, xs, h2, h3, bs, h4⟩
  intro F w g vs hm ha
  refine (h0.call F w g vs hm ha).mono ?_
  rintro e w' ⟨v, r, σ', g', rfl, ⟨rfl, bs, rfl⟩, h3, h4, h5⟩
  have hlg : g.length = σ.length := hm.len
  have ht : (σ ++ bs).take σ.length = σ := by simp
  have m1 := Abt h3 σ.length (by rw [ht]; exact Yb hm)
  rw [ht] at m1
  refine ⟨v, g'.take σ.length, rfl, m1, ?_, ?_, ?_⟩
  · intro id b hb
    have hid : id < σ.length := by rw [← hlg]; exact (List.getElem?_eq_some_iff.1 hb).1
    obtain ⟨b', hb', hs⟩ := h4.ids id hid b hb
    exact ⟨b', H7 hb' hid, hs⟩
  · exact ⟨h4.os, h4.tape, h4.output, h4.size, fun a u hc hp => ⟨(h4.cells a u hc hp).1, Kz (h4.cells a u hc hp).2⟩, fun β hβ hn => ⟨(h4.blocks β hβ hn).1, fun h => (h4.blocks β hβ hn).2 (Kj h)⟩, fun id hid => absurd hid (Nat.not_lt_zero _)⟩
  · exact (AbB h5 hr).mono (fun a u hc hp => ⟨hc, Kz hp⟩) (GLe.refl _)
section
variable {E : Env} {w w' : World} {g : Gh} {σ : Ab}
theorem AgS (hm : Mem E w g σ) {id j : Nat} {cs : List AV} {ro : Bool} (hσ : σ[id]? = some (.box cs ro)) : Mem E w g (σ.set id (.box (cs.set j .junk) ro)) := by
  have hl : id < σ.length := (List.getElem?_eq_some_iff.1 hσ).1
  refine ⟨by rw [List.length_set]; exact hm.len, fun i b ab h1 h2 => ?_, hm.inj, hm.foreign, hm.glob, hm.maps, hm.whole⟩
  by_cases e : i = id
  · subst e
    rw [List.getElem?_set_self hl] at h2
    cases h2
    obtain ⟨k1, k2, k3, k4, k5, β, arr, t, fz, k6, k7, k8, k9, k10⟩ := hm.blk i b (.box cs ro) h1 hσ
    refine ⟨k1, k2, k3, by simpa using k4, k5, β, arr, t, fz, k6, k7, by simpa using k8, k9, fun j' x hj => ?_⟩
    rw [List.getElem?_set] at hj
    by_cases e2 : j = j'
    · subst e2
      rw [if_pos rfl] at hj
      split at hj
      case isFalse => cases hj
      rename_i hjl
      cases hj
      exact ⟨.junk _ _, (k10 j _ (List.getElem?_eq_getElem hjl)).2⟩
    · rw [if_neg e2] at hj
      exact k10 j' x hj
  · rw [List.getElem?_set_ne (fun e2 => e e2.symm)] at h2
    exact hm.blk i b ab h1 h2
end
section
variable {E : Env}
theorem AaH {w : World} {g : Gh} {σ : Ab} (hr : Mem E w g σ) (id j k : Nat) {cs : List AV} {ro : Bool} (hσ : σ[id]? = some (.box cs ro)) (h : cs[j]? = some (.sl true [])) :
    Mem E w (g ++ [⟨none, 0, k, 0, 0, false, false⟩]) (σ.set id (.box (cs.set j (.bs true σ.length 0 0 0)) ro) ++ [.buf k [] false]) := by
  have hm := (Ey hr k).1
  have hid : id < σ.length := (List.getElem?_eq_some_iff.1 hσ).1
  refine ⟨by simp [hr.len], ?_, hm.inj, hm.foreign, hm.glob, hm.maps, hm.whole⟩
  intro id' b ab h1 h2
  by_cases e : id' = id
  · subst e
    rw [List.getElem?_append_left (by simpa using hid), List.getElem?_set_self hid] at h2
    cases h2
    obtain ⟨k1, k2, k3, k4, k5, β, arr, t, fz, k6, k7, k8, k9, k10⟩ := hm.blk id' b (.box cs ro) h1 (by rw [List.getElem?_append_left hid]; exact hσ)
    refine ⟨k1, k2, k3, by simpa using k4, k5, β, arr, t, fz, k6, k7, by simpa using k8, k9, fun j' x hj => ?_⟩
    rw [List.getElem?_set] at hj
    by_cases e2 : j = j'
    · subst e2
      rw [if_pos rfl] at hj
      split at hj
      case isFalse => cases hj
      cases hj
      refine ⟨?_, (k10 j _ h).2⟩
      have hb0 : g[id']? = some b := by
        rw [List.getElem?_append_left (by rw [hr.len]; exact hid)] at h1; exact h1
      obtain ⟨_, _, _, _, _, β0, arr0, t0, fz0, k60, k70, _, _, k100⟩ := hr.blk id' b (.box cs ro) hb0 hσ
      rw [k6] at k60; cases k60
      rw [k7] at k70; obtain ⟨rfl, _, _⟩ := Obj.cells.inj (Option.some.inj k70)
      rw [← hr.len]
      exact K9 (k100 j _ h).1 k
    · rw [if_neg e2] at hj
      exact k10 j' x hj
  · refine hm.blk id' b ab h1 ?_
    rcases Nat.lt_or_ge id' σ.length with hl | hl
    · rw [List.getElem?_append_left (by simpa using hl), List.getElem?_set_ne (fun e2 => e e2.symm)] at h2
      rw [List.getElem?_append_left hl]; exact h2
    · rw [List.getElem?_append_right (by simpa using hl)] at h2
      rw [List.getElem?_append_right hl]; simpa using h2
theorem R4 {n N : Nat} {l : Fr} {σ : Ab} (id j : Nat) (T : TypeId) {cs : List AV} {ro : Bool} (hσ : σ[id]? = some (.box cs ro)) (h : cs[j]? = some (.sl true [])) :
    Weak E n ⟨Am N l, σ⟩ ⟨Am N l, σ.set id (.box (cs.set j (.bs true σ.length 0 0 0)) ro) ++ [.tb T []]⟩ := by
  refine Hi fun a w g hr => ⟨_, ⟨?_, ?_, ?_, hr.defers⟩, Ku hr.mem n 1⟩
  · have := hr.size; simpa [Am] using this
  · intro s x hx
    exact (hr.slot s x hx).mono (fun a u hc hpr => ⟨hc, (Ey hr.mem 1).2.1 a hpr⟩) (GLe.append _ _)
  · have hm := AaH hr.mem id j 1 hσ h
    have hl : (σ.set id (.box (cs.set j (.bs true σ.length 0 0 0)) ro) ++ [ABlk.buf 1 [] false])[σ.length]? = some (.buf 1 [] false) := by
      rw [List.getElem?_append_right (by simp)]; simp
    have h3 := N3 (ab' := .tb T []) hm hl (fun b hb => by
      have hbn : b = ⟨none, 0, 1, 0, 0, false, false⟩ := by
        rw [List.getElem?_append_right (by rw [hr.mem.len]; exact Nat.le_refl _), hr.mem.len] at hb
        simpa using hb.symm
      subst hbn
      exact ⟨⟨rfl, rfl, rfl, rfl, fun i cs hi => by simp [G1] at hi, fun _ => ⟨.inl rfl, rfl⟩, fun β hβ => by cases hβ⟩, fun β hβ => by cases hβ⟩)
    have e : (σ.set id (.box (cs.set j (.bs true σ.length 0 0 0)) ro) ++ [ABlk.buf 1 [] false]).set σ.length (.tb T []) = σ.set id (.box (cs.set j (.bs true σ.length 0 0 0)) ro) ++ [.tb T []] := by
      rw [List.set_append_right _ _ (by simp)]; simp
    rw [e] at h3
    exact h3
theorem Zp {w w' : World} {g : Gh} {σ : Ab} (hm : Mem E w g σ) {id : Nat} {T : TypeId} {l : List UInt8} (hσ : σ[id]? = some (.tb T l)) {b : GB} (hb : g[id]? = some b) (hos : w'.os = w.os) (htp : w'.tape = w.tape) (hou : w'.output = w.output) (hsz : w.heap.size ≤ w'.heap.size)
    (hc : ∀ a u, w.cell? a = some u → w'.cell? a = some u) (hB : ∀ β, β < w.heap.size → b.blk ≠ some β → w'.heap[β]? = w.heap[β]?) :
    ∃ g', Mem E w' g' (σ.set id (Acq l.length)) ∧ GLe g g' ∧ Evo E 0 w g w' g' := by
  have hl : id < σ.length := (List.getElem?_eq_some_iff.1 hσ).1
  have hgl : id < g.length := (List.getElem?_eq_some_iff.1 hb).1
  have hk := hm.blk id b _ hb hσ
  have hbl : b.len = l.length := by rw [hk.1.2.2.2.1]; simp [G1]
  have hget : ∀ (i : Nat) (c : GB), (g.set id (Wc l.length))[i]? = some c → (i = id ∧ c = Wc l.length) ∨ (i ≠ id ∧ g[i]? = some c) := by
    intro i c h
    by_cases e : id = i
    · subst e; rw [List.getElem?_set_self hgl] at h; cases h; exact .inl ⟨rfl, rfl⟩
    · rw [List.getElem?_set_ne e] at h; exact .inr ⟨fun e2 => e e2.symm, h⟩
  have hp2 : ∀ a, A2 E g a → A2 E (g.set id (Wc l.length)) a := fun a h => ⟨h.1, fun i c hc hβ => by
    rcases hget i c hc with ⟨_, rfl⟩ | ⟨_, h2⟩
    · cases hβ
    · exact h.2 i c h2 hβ⟩
  have hm2 : ∀ β, Gu (g.set id (Wc l.length)) β → Gu g β := by
    rintro β ⟨i, c, hc, hβ⟩
    rcases hget i c hc with ⟨_, rfl⟩ | ⟨_, h2⟩
    · cases hβ
    · exact ⟨i, c, h2, hβ⟩
  have hgl2 : GLe g (g.set id (Wc l.length)) := by
    intro i c hc
    by_cases e : id = i
    · subst e
      rw [hb] at hc; cases hc
      exact ⟨_, List.getElem?_set_self hgl, .inr ⟨hk.1.1, rfl, by show b.len < l.length + 1; omega⟩⟩
    · exact ⟨c, by rw [List.getElem?_set_ne e]; exact hc, GB.step.refl c⟩
  have hnb : ∀ (i : Nat) (c : GB) (β : Nat), i ≠ id → g[i]? = some c → c.blk = some β → b.blk ≠ some β := fun i c β hne h1 h2 h3 => hne (hm.inj i id c b β h1 hb h2 h3)
  have hcells : ∀ a u, w.cell? a = some u → A2 E g a → w'.cell? a = some u ∧ A2 E (g.set id (Wc l.length)) a := fun a u h hpr => ⟨hc a u h, hp2 a hpr⟩
  have hmb : ∀ β, β < w.heap.size → ¬ Gu g β → w'.heap[β]? = w.heap[β]? ∧ ¬ Gu (g.set id (Wc l.length)) β := fun β hβ hnm => ⟨hB β hβ (fun h => hnm ⟨id, b, hb, h⟩), fun h => hnm (hm2 β h)⟩
  refine ⟨g.set id (Wc l.length), ⟨by rw [List.length_set, List.length_set]; exact hm.len, ?_, ?_, Dg hm hsz (fun β hβ h => (hmb β hβ h).2), Fh hm hsz hcells (fun β hβ h => (hmb β hβ h).2), ?_, Dt hm hmb⟩, hgl2, ⟨hos, htp, hou, hsz, hcells, hmb, fun _ h => absurd h (Nat.not_lt_zero _)⟩⟩
  · intro i c ab h1 h2
    rcases hget i c h1 with ⟨rfl, rfl⟩ | ⟨hne, h3⟩
    · rw [List.getElem?_set_self hl] at h2
      cases h2
      exact ⟨rfl, rfl, rfl, by simp [Wc], fun j cs hj => by rw [(List.mem_replicate.1 (List.mem_of_getElem? hj)).2]; rfl, fun _ => ⟨.inr rfl, rfl⟩, fun β hβ => by cases hβ⟩
    · rw [List.getElem?_set_ne (fun e => hne e.symm)] at h2
      exact (hm.blk i c ab h3 h2).mono hcells hgl2 (fun β hβ => hB β (Dr hm h3 hβ) (hnb i c β hne h3 hβ))
  · intro i i' c c' β h1 h2 e1 e2
    rcases hget i c h1 with ⟨_, rfl⟩ | ⟨_, h3⟩
    · cases e1
    · rcases hget i' c' h2 with ⟨_, rfl⟩ | ⟨_, h4⟩
      · cases e2
      · exact hm.inj i i' c c' β h3 h4 e1 e2
  · refine Gn hm (fun r es cl hr => ?_)
    have hlt : r < w.heap.size := (Array.getElem?_eq_some_iff.1 hr).1
    by_cases hbr : b.blk = some r
    · obtain ⟨arr, fz, h1⟩ := hk.2 r hbr
      rw [h1] at hr; cases hr
    · exact (hB r hlt hbr).trans hr
theorem Agx {sel : List Nat} {T T' : TypeId} {l l' : List UInt8} : Acn sel (.tb T l) (.tb T' l') = (T = T' ∧ l = l') := rfl
theorem Afc {sel : List Nat} {o o' : Obj} : Acn sel (.obj o) (.obj o') = (o = o') := rfl
attribute [go_sem] Afc
theorem Y1 : Gd [] = some [] := rfl
theorem Tl (x : UInt8) (l : List (List AV)) : Gd ([u8 x] :: l) = (Gd l).map (x :: ·) := by
  show (if (x.toNat : Int) = ((UInt8.ofNat ((x.toNat : Int)).toNat).toNat : Int) then (Gd l).map (UInt8.ofNat ((x.toNat : Int)).toNat :: ·) else none) = _
  rw [Int.toNat_natCast, UInt8.ofNat_toNat, if_pos rfl]
theorem W1 : ∀ (l : List UInt8), Gd (L cU8 l) = some l
  | [] => rfl
  | x :: l => by
    show Gd ([u8 x] :: L cU8 l) = _
    rw [Tl, W1 l]; rfl
attribute [go_sem] Agx Y1 Tl W1 Aax
theorem Alb {σ : Ab} {v : Value} : fz σ (.val v) = some (.val v) := rfl
theorem Amw {σ : Ab} {t : TypeId} {c : Int} : fz σ (.iface t (i64 c)) = some (.iface t (i64 c)) := by simp [fz, B5, i64, AV.closed]
theorem Ak1 {σ : Ab} {t : TypeId} {b : Bool} : fz σ (Adv t b) = some (Adv t b) := by cases b <;> simp [fz, B5, Adv, AV.closed]
attribute [go_sem] Alb Amw Ak1
attribute [go_sem] ite_self
theorem AnS {t : TypeId} {c : Int} : (erA t c).flatAgg = false := by unfold erA; split <;> rfl
theorem Aor {t : TypeId} {c : Int} : Ch (erA t c) = [] := by unfold erA; split <;> rfl
theorem Ao5 {σ : Ab} {t : TypeId} {c : Int} : fz σ (erA t c) = some (erA t c) := by unfold erA; split <;> simp [fz, B5, AV.closed, i64]
attribute [go_sem] AnS Aor Ao5
theorem AaZ {α : Type} {c : α → AV} {n : Nat} {a : Arr α n} : List.take n (List.map (fun x => [x]) (C1 c a.l)) = a.l.map fun y => [c y] := by
  simp only [C1, List.map_map, Function.comp_def]
  rw [List.take_of_length_le (by simp [a.h])]
theorem Anq : (((1 : Nat) != 1) = true) = False := by decide
section
variable {sel : List Nat} {N : Nat}
theorem Ajo {x : AV} (h : x.closed = true) (h2 : Tf sel N x = match x.closed with | true => x | false => .junk) : Tf sel N x = x := by rw [h2, h]
theorem Wt (v : Value) : Tf sel N (.val v) = .val v := Ajo (by simp [AV.closed]) rfl
theorem Agv (v : Value) : AcV sel N (.val v) = .val v := Wt (sel := sel) (N := N) v
theorem Ags (v : Value) : AbE sel N (.val v) = .val v := Wt (sel := sel) (N := N) v
attribute [go_sem] Anq Wt Agv Ags
end
end
section
variable {P : Program} (w : World)
theorem Pi {e : TypeId} (hc : P.cellsOf e = 1) (count off n : Nat) (hn : off + n ≤ count) : liesAt P P.depth e count off e n = true := by
  have hd : P.depth = (2 * (P.types.size + Made.depth) + 1) + 1 := rfl
  rw [hd]
  simp only [liesAt, Bool.or_eq_true]
  left
  rw [hd]
  simp [rowAt, hc, hn, sameLayout, Nat.mod_one]
theorem Lw (pt it ty e : TypeId) (hp : P.underlying pt = some (.pointer e)) (hc : P.cellsOf e = 1) (g off cells : Nat) (hsh : w.shape? g = some (e, cells)) (l : List UInt8) (h0 : l ≠ []) (hn : off + l.length ≤ cells) (h63 : l.length ≤ 9223372036854775807)
    (hcell : ∀ j x, l[j]? = some x → w.cell? ((⟨g, off, none⟩ : Addr).add j) = some (.int .u8 x.toNat)) :
    (Builtin.unsafeString_ #[pt, it] ty #[.pointer (some ⟨g, off, none⟩), .int .i64 l.length]).run P w = .ok (.string ⟨l.toArray⟩) (w.freeze ⟨g, off, none⟩ l.length) := by
  have hl : l.length ≠ 0 := by simpa using h0
  have hlb := Lib.run_loadBytes (P := P) w l ⟨g, off, none⟩ .empty hcell
  have hlies := Pi (P := P) hc (cells / P.cellsOf e) off l.length (by rw [hc]; simpa using hn)
  have h63' : ¬ (9223372036854775807 : Int) < (l.length : Int) := by omega
  have hdef : Builtin.unsafeString_ #[pt, it] ty #[.pointer (some ⟨g, off, none⟩), .int .i64 l.length] =
      (do
        let n ← asInt (.int .i64 l.length)
        if n < 0 then runtimePanic (.error "unsafe.String: len out of range")
        if n > IntKind.i64.max then unsupported (.unsafePointer "String: a length above the largest int")
        if n = 0 then pure (.string .empty)
        else if ← variablesAt ⟨g, off, none⟩ (← elemOf pt) n.toNat then do
          let s ← loadBytes ⟨g, off, none⟩ .empty n.toNat
          freeze ⟨g, off, none⟩ n.toNat
          pure (.string s)
        else unsupported (.unsafePointer "String: not so many bytes at ptr")) := rfl
  rw [hdef]
  have hmax : IntKind.i64.max = 9223372036854775807 := rfl
  have hneg : ¬ (l.length : Int) < 0 := by omega
  simp [asInt, asIntOf, hmax, h63', hneg, hl, variablesAt, hsh, elemOf, run_underlying hp, hlies, hlb]
end
def splitAtL (b : UInt8) : List UInt8 → List (List UInt8)
  | [] => [[]]
  | c :: l => if c = b then [] :: splitAtL b l else match splitAtL b l with
    | [] => [[c]]
    | p :: ps => (c :: p) :: ps
def atois : List (List UInt8) → Option (List Int)
  | [] => some []
  | p :: ps => match Lib.atoiAll p with
    | .ok v => (atois ps).map (v :: ·)
    | _ => none
def Xc (s : List UInt8) (n : Int) : Option (List Int × Bool) :=
  if s.length ≤ 1048576 then some (match atois (splitAtL 46 s) with
    | some l => (l, (l.length : Int) == n)
    | none => ([], false)) else none
def AhD (s sep : List UInt8) : Option Int := match sep with
  | [c] => if s.length ≤ 9223372036854775806 then some (s.count c : Int) else none
  | _ => none
end Go.Rv
