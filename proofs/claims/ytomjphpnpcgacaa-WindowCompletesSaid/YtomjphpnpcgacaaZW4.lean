/-
  WindowCompletes. No condition.
-/
import Derived.Test.YtomjphpnpcgacaaZW3
/-
  Accept, of both sides, is one function on peers and packets (the second half).
-/
namespace Go.Proofs.Ytomjphpnpcgacaa
open Go.Rv
set_option linter.unusedVariables false
set_option linter.unusedSimpArgs false

/-- The packet that is kept early. -/
def newE (k : Pk) : Pk := { Epoch := 0, To := 0, Seq := k.Seq, Ack := 0, Data := k.Data }

/-- What is dz from the early packets: the next number, the messages, the packets that stay. -/
def runS : Int → List Pk → Int × List (List UInt8) × List Pk
  | n, [] => (n, [], [])
  | n, e :: r => if e.Seq = n then ((runS (n + 1) r).1, e.Data :: (runS (n + 1) r).2.1, (runS (n + 1) r).2.2) else (n, [], e :: r)

def resetS (p : Pe) (k : Pk) : Pe :=
  if k.Epoch > p.Other then { Epoch := p.Epoch, Other := k.Epoch, First := 0, Queue := [], Next := 0, Early := [], SentAt := -1 } else p
def ackS (p : Pe) (k : Pk) : Pe :=
  if p.First < k.Ack ∧ k.Ack ≤ p.First + (p.Queue.length : Int) then { p with First := k.Ack, Queue := p.Queue.drop (k.Ack - p.First).toNat, SentAt := -1 } else p
def keepS (p : Pe) (k : Pk) : Pe :=
  if p.Next < k.Seq ∧ k.Seq < p.Next + 64 then { p with Early := insS p.Early (newE k) } else p
def delS (p : Pe) (k : Pk) : Pe × List (List UInt8) :=
  if k.Seq = p.Next then ({ p with Next := (runS (p.Next + 1) p.Early).1, Early := (runS (p.Next + 1) p.Early).2.2 }, k.Data :: (runS (p.Next + 1) p.Early).2.1) else (p, [])

def vPk (k : Pk) : Bool := bt k.Epoch 0 1073741824 && bt k.Seq (-1) 1099511627775 && bt k.Ack 0 1099511627776 && decide ((k.Data.length : Int) ≤ 8000)
def okA (p : Pe) (k : Pk) : Bool := vPk k && validS p && !decide (k.Epoch < p.Other)
def stepS (q : Pe) (k : Pk) : Pe × List (List UInt8) := if k.To = q.Epoch then delS (keepS (ackS q k) k) k else (q, [])
def accS (p : Pe) (k : Pk) : Pe × List (List UInt8) × Bool :=
  if okA p k = true then ((stepS (resetS p k) k).1, (stepS (resetS p k) k).2, decide (k.Epoch > p.Other)) else (p, [], false)

structure VK (k : Pk) : Prop where
  e0 : 0 ≤ k.Epoch
  s0 : -1 ≤ k.Seq
  s1 : k.Seq ≤ 1099511627775
  a0 : 0 ≤ k.Ack
  a1 : k.Ack ≤ 1099511627776
  d : k.Data.length ≤ 8000
theorem vk_of {k : Pk} (h : vPk k = true) : VK k := by
  unfold vPk bt at h
  simp only [Bool.and_eq_true, decide_eq_true_eq] at h
  obtain ⟨⟨⟨⟨h1, _⟩, h2, h3⟩, h4, h5⟩, h6⟩ := h
  exact ⟨h1, h2, h3, h4, h5, by omega⟩

/-- Less than a valid side: enough for what is done with it. -/
structure Vm (p : Pe) : Prop where
  f0 : 0 ≤ p.First
  f1 : p.First ≤ 1099511627776
  n0 : 0 ≤ p.Next
  n1 : p.Next ≤ 1099511627776
  q : p.Queue.length ≤ 256
  es : p.Early.length ≤ 1000
  el : ∀ e ∈ p.Early, e.Seq ≤ 1099511627775 ∧ e.Data.length ≤ 8000

theorem Vd.m {p : Pe} (h : Vd p) : Vm p := ⟨h.f0, h.f1, h.n0, h.n1, h.q, h.es, fun e he => by have := eok_mem h.early e he; exact ⟨by omega, this.2.2.2⟩⟩

theorem reset_vd {p : Pe} {k : Pk} (h : Vd p) : Vd (resetS p k) := by
  unfold resetS
  split
  · exact ⟨by simp, by simp, by simp, by simp, by simp, trivial, by simp⟩
  · exact h
theorem ack_vd {p : Pe} {k : Pk} (h : Vd p) (hk : VK k) : Vd (ackS p k) := by
  unfold ackS
  split
  · exact ⟨hk.a0, hk.a1, h.n0, h.n1, by have := h.q; simp; omega, h.early, h.es⟩
  · exact h
theorem insS_len (l : List Pk) (x : Pk) : (insS l x).length ≤ l.length + 1 := by
  induction l with
  | nil => simp [insS]
  | cons e r ih => unfold insS; split <;> (try split) <;> simp <;> omega
theorem insS_mem (l : List Pk) (x : Pk) : ∀ e ∈ insS l x, e = x ∨ e ∈ l := by
  induction l with
  | nil => intro e he; simp [insS] at he; exact .inl he
  | cons a r ih =>
    intro e he
    unfold insS at he
    split at he
    · rcases List.mem_cons.1 he with rfl | he
      · exact .inr (by simp)
      · rcases ih e he with h | h
        · exact .inl h
        · exact .inr (by simp [h])
    · split at he
      · exact .inr he
      · rcases List.mem_cons.1 he with rfl | he
        · exact .inl rfl
        · exact .inr he

theorem keep_vm {p : Pe} {k : Pk} (h : Vd p) (hl : p.Early.length ≤ 999) (hk : VK k) : Vm (keepS p k) := by
  unfold keepS
  split
  · refine ⟨h.f0, h.f1, h.n0, h.n1, h.q, by have := insS_len p.Early (newE k); simp only; omega, fun e he => ?_⟩
    rcases insS_mem _ _ e he with rfl | he
    · exact ⟨hk.s1, hk.d⟩
    · exact h.m.el e he
  · exact h.m

/-! ### The window's steps -/
theorem ack_w {q : Pe} {k : Pk} (h : Vm q) (hk : VK k) (d : List (List UInt8)) : window_side_acknowledge ⟨q, d⟩ k = some ⟨ackS q k, d⟩ := by
  have := h.f0; have := h.f1; have := hk.a0; have := hk.a1; have := h.q
  unfold window_side_acknowledge ackS
  simp only [lt1]
  rw [w64_id (x := k.Ack - q.First) (by omega)]
  by_cases h1 : q.First < k.Ack
  · rw [if_pos (by simp; omega), Option.bind_some]
    by_cases h2 : k.Ack ≤ q.First + (q.Queue.length : Int)
    · rw [if_pos (by simp; omega), if_pos (by unfold InB; omega), if_pos ⟨h1, h2⟩, List.take_of_length_le (by simp)]
    · rw [if_neg (by simp; omega), if_neg (fun hh => h2 hh.2)]
  · rw [if_neg (by simp; omega), Option.bind_some, if_neg (by simp), if_neg (fun hh => h1 hh.1)]

theorem keep_w {q : Pe} {k : Pk} (h : Vd q) (hl : q.Early.length ≤ 999) (hk : VK k) (d : List (List UInt8)) : window_side_keep ⟨q, d⟩ k = some ⟨keepS q k, d⟩ := by
  have := h.n0; have := h.n1; have := hk.s0; have := hk.s1; have := hk.d
  unfold window_side_keep keepS
  simp only
  rw [w64_id (x := q.Next + 64) (by omega)]
  by_cases h1 : k.Seq ≤ q.Next
  · rw [if_pos (by simpa using h1), Option.bind_some, if_pos rfl, if_neg (by omega)]
  rw [if_neg (by simpa using h1), Option.bind_some]
  by_cases h2 : k.Seq ≥ q.Next + 64
  · rw [if_pos (by simpa using h2), if_neg (by omega)]
  rw [if_neg (by simpa using h2), if_pos (by omega), search_eq h.early h.es (by omega) (by omega), Option.bind_some]
  obtain ⟨c1, _, _⟩ := cnt_spec (t := k.Seq) h.early
  by_cases hf : cnt k.Seq q.Early < q.Early.length ∧ (nth q.Early (cnt k.Seq q.Early)).Seq = k.Seq
  · rw [if_neg (by simp [hf]), insS_old (x := newE k) h.early hf]
  · rw [if_pos (by simp only [hf]; rfl)]
    unfold slices_Clone_59 slices_Insert_58 insertO
    rw [if_pos (fits56 (by omega)), own_eq (by omega)]
    simp only [lt1, Option.bind_some, List.nil_append]
    rw [if_pos ⟨by unfold InB; omega, rfl, fits56 (by omega)⟩, Option.bind_some, Int.toNat_natCast]
    have := insS_new (x := newE k) h.early hf
    rw [← this]
    rfl

theorem take_w {q : Pe} {d : List (List UInt8)} {b : List UInt8} (hb : b.length ≤ 100000) (hd : d.length ≤ 99999) (h0 : 0 ≤ q.Next ∧ q.Next ≤ 1099511627776) : window_side_take ⟨q, d⟩ b = some ⟨{ q with Next := q.Next + 1 }, d ++ [b]⟩ := by
  unfold window_side_take
  rw [own_eq hb, Option.bind_some, if_pos (fits24 (by show d.length + 1 ≤ _; omega))]
  simp only [lt1]
  rw [w64_id (by omega)]

theorem del_w {q : Pe} {k : Pk} (h : Vm q) (hk : VK k) {d : List (List UInt8)} (hd : d.length ≤ 1000) : window_side_deliver ⟨q, d⟩ k = some ⟨(delS q k).1, d ++ (delS q k).2⟩ := by
  unfold window_side_deliver delS
  simp only
  by_cases h1 : k.Seq = q.Next
  case neg =>
    rw [if_pos (by simpa using h1), if_neg h1]; simp
  rw [if_neg (by simpa using h1), if_pos h1, take_w (by have := hk.d; omega) (by omega) ⟨h.n0, h.n1⟩, Option.bind_some]
  simp only [lt1]
  have hn1 : q.Next ≤ 1099511627775 := by have := hk.s1; omega
  obtain ⟨x, hx, rfl⟩ := loopO_rule (f := fun v : Int × Int × Int × List (List UInt8) × Int × List Pk × Int × List (List UInt8) => window_side_deliver_b1 v.1 v.2.1 v.2.2.1 v.2.2.2.1 v.2.2.2.2.1 v.2.2.2.2.2.1 v.2.2.2.2.2.2.1 v.2.2.2.2.2.2.2)
    (fun v => ∃ n l out, v = (q.Epoch, q.Other, q.First, q.Queue, n, l, q.SentAt, out) ∧ 0 ≤ n ∧ n ≤ 1099511627776 ∧ (∀ e ∈ l, e.Seq ≤ 1099511627775 ∧ e.Data.length ≤ 8000) ∧ out.length + l.length ≤ 3000 ∧ (runS n l).1 = (runS (q.Next + 1) q.Early).1 ∧ (runS n l).2.2 = (runS (q.Next + 1) q.Early).2.2 ∧ out ++ (runS n l).2.1 = d ++ [k.Data] ++ (runS (q.Next + 1) q.Early).2.1)
    (fun v => v.2.2.2.2.2.1.length)
    (fun x => x = (q.Epoch, q.Other, q.First, q.Queue, (runS (q.Next + 1) q.Early).1, (runS (q.Next + 1) q.Early).2.2, q.SentAt, d ++ [k.Data] ++ (runS (q.Next + 1) q.Early).2.1)) (by
      rintro v ⟨n, l, out, rfl, a1, a2, a3, a4, a5, a6, a7⟩
      show (∃ v', window_side_deliver_b1 q.Epoch q.Other q.First q.Queue n l q.SentAt out = some (.inl v') ∧ _) ∨ (∃ x, window_side_deliver_b1 q.Epoch q.Other q.First q.Queue n l q.SentAt out = some (.inr x) ∧ _)
      cases l with
      | nil =>
        right
        refine ⟨(q.Epoch, q.Other, q.First, q.Queue, n, [], q.SentAt, out), ?_, ?_⟩
        · rfl
        · rw [← a5, ← a6, ← a7]; simp [runS]
      | cons e r =>
        obtain ⟨b1, b2⟩ := a3 e (by simp)
        have hi0 : InR 0 (e :: r).length := by unfold InR; simp
        by_cases he : e.Seq = n
        · left
          have hs : window_side_deliver_b1 q.Epoch q.Other q.First q.Queue n (e :: r) q.SentAt out = some (.inl (q.Epoch, q.Other, q.First, q.Queue, n + 1, r, q.SentAt, out ++ [e.Data])) := by
            unfold window_side_deliver_b1
            rw [if_pos (by simp)]
            simp only [hi0, if_true, Option.bind_some]
            rw [if_pos (by show (e.Seq == n) = true; simpa using he), take_w (by show e.Data.length ≤ _; omega) (by simp at a4; omega) ⟨a1, a2⟩, Option.bind_some]
            simp only [lt1]
            rw [if_pos (by unfold InB; simp)]
            have : ((e :: r).drop 1).take ((e :: r).length - 1) = r := by simp
            simp only [this]
            rfl
          refine ⟨_, hs, ⟨n + 1, r, out ++ [e.Data], rfl, by omega, by omega, fun e' he' => a3 e' (by simp [he']), by simp at a4 ⊢; omega, ?_, ?_, ?_⟩, by simp⟩
          · rw [← a5, runS, if_pos he]
          · rw [← a6, runS, if_pos he]
          · rw [← a7]
            simp [runS, he]
        · right
          refine ⟨(q.Epoch, q.Other, q.First, q.Queue, n, e :: r, q.SentAt, out), ?_, ?_⟩
          · unfold window_side_deliver_b1
            rw [if_pos (by simp)]
            simp only [hi0, if_true, Option.bind_some]
            rw [if_neg (by show ¬ (e.Seq == n) = true; simpa using he)]
          · rw [← a5, ← a6, ← a7]; simp [runS, he]) (v0 := (q.Epoch, q.Other, q.First, q.Queue, q.Next + 1, q.Early, q.SentAt, d ++ [k.Data]))
      ⟨q.Next + 1, q.Early, d ++ [k.Data], rfl, by have := h.n0; omega, by omega, h.el, by have := h.es; simp; omega, rfl, rfl, rfl⟩ (by have := h.es; simp; omega)
  rw [hx, Option.bind_some]
  simp

theorem acc_w (p : Pe) (k : Pk) (hs : p.Early.length ≤ 900) : window_Accept p k = some (accS p k) := by
  unfold window_Accept accS
  simp only [between_eq, Option.bind_some]
  have hf : (if bt k.Epoch 0 1073741824 = true then if bt k.Seq (-1) 1099511627775 = true then if bt k.Ack 0 1099511627776 = true then some (decide ((k.Data.length : Int) ≤ 8000)) else some false else some false else some false) = some (vPk k) := by
    unfold vPk
    cases bt k.Epoch 0 1073741824 <;> cases bt k.Seq (-1) 1099511627775 <;> cases bt k.Ack 0 1099511627776 <;> simp
  rw [hf, Option.bind_some, valid_eq p (by omega)]
  have hg : (if (!vPk k) = true then some true else (some (validS p)).bind fun y => if (!y) = true then some true else some (decide (k.Epoch < p.Other))) = some (!okA p k) := by
    unfold okA
    cases vPk k <;> cases validS p <;> cases decide (k.Epoch < p.Other) <;> rfl
  rw [hg, Option.bind_some]
  cases ho : okA p k
  case false => rfl
  have ho' := ho
  unfold okA at ho'
  simp only [Bool.and_eq_true, Bool.not_eq_true'] at ho'
  have hk := vk_of ho'.1.1
  have hv := reset_vd (k := k) (vd_of ho'.1.2 (by omega))
  have hE : (resetS p k).Epoch = p.Epoch := by unfold resetS; split <;> rfl
  have hl : (resetS p k).Early.length ≤ 900 := by unfold resetS; split <;> first | (simp; done) | exact hs
  simp only [Bool.not_true, Bool.false_eq_true, if_false, if_true, lt1]
  have hq : (if decide (k.Epoch > p.Other) = true then some (k.Epoch, (0 : Int), ([] : List (List UInt8)), (0 : Int), ([] : List Pk), (-1 : Int)) else some (p.Other, p.First, p.Queue, p.Next, p.Early, p.SentAt)) =
      some ((resetS p k).Other, (resetS p k).First, (resetS p k).Queue, (resetS p k).Next, (resetS p k).Early, (resetS p k).SentAt) := by
    unfold resetS
    by_cases h : k.Epoch > p.Other
    · rw [if_pos (by simpa using h), if_pos h]
    · rw [if_neg (by simpa using h), if_neg h]
  rw [hq, ← hE]
  generalize resetS p k = q at *
  simp only [Option.bind_some]
  unfold stepS
  by_cases ht : k.To = q.Epoch
  case neg => rw [if_neg (by simpa using ht), if_neg ht]; rfl
  rw [if_pos (by simpa using ht), if_pos ht]
  have ha := ack_vd hv hk
  have hal : (ackS q k).Early.length ≤ 900 := by unfold ackS; split <;> exact hl
  rw [show ({ Peer := { Epoch := q.Epoch, Other := q.Other, First := q.First, Queue := q.Queue, Next := q.Next, Early := q.Early, SentAt := q.SentAt }, dz := [] } : Window_side) = ⟨q, []⟩ from rfl, ack_w hv.m hk, Option.bind_some]
  simp only []
  rw [keep_w ha (by omega) hk, Option.bind_some]
  simp only []
  rw [del_w (keep_vm ha (by omega) hk) hk (by simp), Option.bind_some]
  rfl

end Go.Proofs.Ytomjphpnpcgacaa
/-
  Valid sides, and what is done to them; two sides that talk to each other.
-/
namespace Go.Proofs.Ytomjphpnpcgacaa
open Go.Rv
set_option linter.unusedVariables false
set_option linter.unusedSimpArgs false

/-- A valid side, in words. -/
structure VS (p : Pe) : Prop where
  e0 : 0 ≤ p.Epoch
  e1 : p.Epoch ≤ 1073741824
  o0 : -1 ≤ p.Other
  o1 : p.Other ≤ 1073741824
  t0 : -1 ≤ p.SentAt
  t1 : p.SentAt ≤ 1073741824
  f0 : 0 ≤ p.First
  n0 : 0 ≤ p.Next
  n1 : p.Next ≤ 1099511627776
  q : p.Queue.length ≤ 256
  fq : p.First + (p.Queue.length : Int) ≤ 1099511627776
  qd : ∀ m ∈ p.Queue, m.length ≤ 8000
  early : EOk p.Next p.Next p.Early

theorem nth_mem {α : Type} [Inhabited α] {l : List α} {k : Nat} (h : k < l.length) : nth l k ∈ l := by
  unfold nth
  rw [List.getD_eq_getElem?_getD, List.getElem?_eq_getElem h]
  exact List.getElem_mem h

theorem VS.valid {p : Pe} (h : VS p) : validS p = true := by
  have h1 : okEs p = true := by
    unfold okEs
    rw [List.all_eq_true]
    intro k hk
    have := (eok_of (next := p.Next) ⟨h.n0, h.n1⟩ p.Early p.Next).2 h.early k (List.mem_range.1 hk)
    rw [Bool.not_eq_true']
    cases k <;> exact this
  have h2 : (List.range p.Queue.length).all (okQ p) = true := by
    rw [List.all_eq_true]
    intro k hk
    have := h.qd _ (nth_mem (List.mem_range.1 hk))
    simpa [okQ] using this
  have h3 : okH p = true := by
    have := h.f0; have := h.fq; have := h.e0; have := h.e1; have := h.o0; have := h.o1; have := h.t0; have := h.t1; have := h.n0; have := h.n1; have := h.q
    unfold okH bt
    rw [w64_id (by omega)]
    simp only [Bool.and_eq_true, decide_eq_true_eq, Bool.not_eq_true', decide_eq_false_iff_not]
    omega
  unfold validS
  rw [h1, h2, h3]
  rfl

theorem eok_ins {next : Int} {x : Pk} (hx : x.Seq < next + 64 ∧ x.Seq < 1099511627776 ∧ x.Data.length ≤ 8000 ∧ x.Epoch = 0 ∧ x.To = 0 ∧ x.Ack = 0) : ∀ {l : List Pk} {last : Int}, EOk next last l → last < x.Seq → EOk next last (insS l x)
  | [], last, _, h => ⟨⟨h, hx⟩, trivial⟩
  | e :: r, last, h, hl => by
    unfold insS
    by_cases h1 : e.Seq < x.Seq
    · rw [if_pos h1]
      exact ⟨h.1, eok_ins hx h.2 h1⟩
    · rw [if_neg h1]
      by_cases h2 : e.Seq = x.Seq
      · rw [if_pos h2]; exact h
      · rw [if_neg h2]
        exact ⟨⟨hl, hx⟩, ⟨by omega, h.1.2⟩, h.2⟩

theorem eok_next {next next' : Int} (hn : next ≤ next') : ∀ {l : List Pk} {last : Int}, EOk next last l → EOk next' last l
  | [], _, _ => trivial
  | e :: r, last, h => ⟨⟨h.1.1, by have := h.1.2.1; omega, h.1.2.2⟩, eok_next hn h.2⟩

theorem eok_len {next : Int} : ∀ {l : List Pk} {last : Int}, EOk next last l → (l.length : Int) ≤ max 0 (next + 63 - last)
  | [], _, _ => by simp; omega
  | e :: r, last, h => by
    have := eok_len h.2
    have := h.1.1
    have := h.1.2.1
    simp only [List.length_cons]
    omega

theorem VS.es {p : Pe} (h : VS p) : p.Early.length ≤ 63 := by
  have := eok_len h.early
  omega

theorem runS_ge (l : List Pk) : ∀ n, n ≤ (runS n l).1 := by
  induction l with
  | nil => intro n; exact Int.le_refl _
  | cons e r ih =>
    intro n
    unfold runS
    split
    · have := ih (n + 1); simp only; omega
    · exact Int.le_refl _

theorem runS_eok {next : Int} : ∀ (l : List Pk) (n last : Int), EOk next last l → n - 1 ≤ last → next ≤ n → n ≤ 1099511627776 → EOk (runS n l).1 (runS n l).1 (runS n l).2.2 ∧ (runS n l).1 ≤ 1099511627776
  | [], n, last, _, _, _, hn => ⟨trivial, hn⟩
  | e :: r, n, last, h, h1, h2, hn => by
    have ha := h.1.1
    have hb := h.1.2.2.1
    unfold runS
    by_cases he : e.Seq = n
    · rw [if_pos he]
      exact runS_eok r (n + 1) e.Seq h.2 (by omega) (by omega) (by omega)
    · rw [if_neg he]
      refine ⟨eok_next h2 ⟨⟨by omega, h.1.2⟩, h.2⟩, hn⟩

theorem ack_vs {p : Pe} {k : Pk} (h : VS p) (hk : VK k) : VS (ackS p k) := by
  unfold ackS
  by_cases hc : p.First < k.Ack ∧ k.Ack ≤ p.First + (p.Queue.length : Int)
  · rw [if_pos hc]
    have := h.fq; have := h.q; have := h.f0
    exact ⟨h.e0, h.e1, h.o0, h.o1, by simp, by simp, hk.a0, h.n0, h.n1, by simp; omega, by simp; omega, fun m hm => h.qd m (List.mem_of_mem_drop hm), h.early⟩
  · rw [if_neg hc]; exact h

theorem keep_vs {p : Pe} {k : Pk} (h : VS p) (hk : VK k) : VS (keepS p k) := by
  unfold keepS
  by_cases hc : p.Next < k.Seq ∧ k.Seq < p.Next + 64
  · rw [if_pos hc]
    have := hk.s1
    exact ⟨h.e0, h.e1, h.o0, h.o1, h.t0, h.t1, h.f0, h.n0, h.n1, h.q, h.fq, h.qd, eok_ins (x := newE k) ⟨hc.2, by show k.Seq < _; omega, hk.d, rfl, rfl, rfl⟩ h.early hc.1⟩
  · rw [if_neg hc]; exact h

theorem del_vs {p : Pe} {k : Pk} (h : VS p) (hk : VK k) : VS (delS p k).1 := by
  unfold delS
  by_cases hc : k.Seq = p.Next
  · rw [if_pos hc]
    have := hk.s1; have := h.n0
    have hr := runS_eok p.Early (p.Next + 1) p.Next h.early (by omega) (by omega) (by omega)
    have hg := runS_ge p.Early (p.Next + 1)
    exact ⟨h.e0, h.e1, h.o0, h.o1, h.t0, h.t1, h.f0, by show 0 ≤ (runS (p.Next + 1) p.Early).1; omega, hr.2, h.q, h.fq, h.qd, hr.1⟩
  · rw [if_neg hc]; exact h

theorem reset_vs {p : Pe} {k : Pk} (h : VS p) (he : 0 ≤ k.Epoch ∧ k.Epoch ≤ 1073741824) : VS (resetS p k) := by
  unfold resetS
  split
  · exact ⟨h.e0, h.e1, by simp; omega, he.2, by simp, by simp, by simp, by simp, by simp, by simp, by simp, by simp, trivial⟩
  · exact h

theorem vk_e {k : Pk} (h : vPk k = true) : 0 ≤ k.Epoch ∧ k.Epoch ≤ 1073741824 := by
  unfold vPk bt at h
  simp only [Bool.and_eq_true, decide_eq_true_eq] at h
  exact h.1.1.1

/-! ### New, Offer, Emit -/
def newS (e : Int) : Pe := { Epoch := e, Other := -1, First := 0, Queue := [], Next := 0, Early := [], SentAt := -1 }

theorem new_w (e : Int) : ∃ r, window_New e = some r ∧ (r.2 = 0 → r.1 = newS e ∧ 0 ≤ e ∧ e ≤ 1073741824) := by
  unfold window_New
  simp only [between_eq, Option.bind_some]
  cases hb : bt e 0 1073741824
  · exact ⟨_, rfl, fun h => by cases h⟩
  · refine ⟨_, rfl, fun _ => ⟨rfl, ?_⟩⟩
    simpa [bt] using hb

theorem new_vs {e : Int} (h : 0 ≤ e ∧ e ≤ 1073741824) : VS (newS e) :=
  ⟨h.1, h.2, by simp [newS], by simp [newS], by simp [newS], by simp [newS], by simp [newS], by simp [newS], by simp [newS], by simp [newS], by simp [newS], by simp [newS], trivial⟩

theorem offer_w {p : Pe} (h : VS p) (d : List UInt8) : ∃ r, window_Offer p d = some r ∧ (r.2 = 0 → r.1 = { p with Queue := p.Queue ++ [d] } ∧ d.length ≤ 8000 ∧ p.Queue.length < 256 ∧ p.First + (p.Queue.length : Int) < 1099511627776) := by
  have hq := h.q; have hf := h.f0; have hfq := h.fq; have hes := h.es
  unfold window_Offer
  rw [valid_eq p (by omega), h.valid, Option.bind_some]
  simp only [Bool.not_true, Bool.not_false, Bool.false_eq_true, if_false, if_true, Option.bind_some]
  cases h1 : decide ((d.length : Int) > 8000)
  case true => exact ⟨_, rfl, fun h => by cases h⟩
  simp only [Bool.not_true, Bool.not_false, Bool.false_eq_true, if_false, if_true, Option.bind_some]
  have hE : (if ((p.Queue.length : Int) == 256) = true then some true else some (w64 (p.First + (p.Queue.length : Int)) == 1099511627776)) = some ((p.Queue.length : Int) == 256 || w64 (p.First + (p.Queue.length : Int)) == 1099511627776) := by
    cases ((p.Queue.length : Int) == 256) <;> rfl
  simp only [hE, Option.bind_some]
  cases h2 : ((p.Queue.length : Int) == 256 || w64 (p.First + (p.Queue.length : Int)) == 1099511627776)
  case true => exact ⟨_, rfl, fun h => by cases h⟩
  rw [w64_id (by omega)] at h2
  simp only [decide_eq_false_iff_not, Bool.or_eq_false_iff, beq_eq_false_iff_ne] at h1 h2
  have hd : d.length ≤ 8000 := by omega
  simp only [Bool.not_true, Bool.not_false, Bool.false_eq_true, if_false, if_true, Option.bind_some]
  unfold slices_Clone_38
  rw [if_pos (fits24 (by omega)), own_eq (by omega)]
  simp only [lt1, Option.bind_some, List.nil_append]
  rw [if_pos (fits24 (by omega))]
  exact ⟨_, rfl, fun _ => ⟨rfl, hd, by omega, by omega⟩⟩

def headP (p : Pe) : Pk := { Epoch := p.Epoch, To := p.Other, Seq := -1, Ack := p.Next, Data := [] }
/-- Is it time to send again? -/
def dueS (p : Pe) (now : Int) : Prop := p.SentAt < 0 ∨ p.SentAt > now ∨ now - p.SentAt ≥ 10
instance (p : Pe) (now : Int) : Decidable (dueS p now) := inferInstanceAs (Decidable (_ ∨ _))
def emitS (p : Pe) (now : Int) : Pe × List Pk :=
  if p.Queue.length = 0 ∨ ¬ dueS p now then (p, [headP p]) else ({ p with SentAt := now }, (List.range (min 16 p.Queue.length)).map (pk p))

theorem emit_w {p : Pe} (h : VS p) (now : Int) (hn' : 0 ≤ now ∧ now ≤ 1073741824) : window_Emit p now = some (emitS p now) := by
  have hq := h.q; have hes := h.es; have t1 := h.t0; have t2 := h.t1
  have hd : ∀ k, k < p.Queue.length → (nth p.Queue k).length ≤ 8000 := fun k hk => h.qd _ (nth_mem hk)
  unfold window_Emit
  rw [valid_eq p (by omega), h.valid, Option.bind_some]
  simp only [between_eq, Option.bind_some]
  have hb : bt now 0 1073741824 = true := by simpa [bt] using hn'
  rw [hb]
  simp only [Bool.not_true, Bool.not_false, Bool.false_eq_true, if_false, if_true, Option.bind_some]
  have hdue : (if decide (p.SentAt < 0) = true then some true else if decide (p.SentAt > now) = true then some true else some (decide (w64 (now - p.SentAt) ≥ 10))) = some (decide (dueS p now)) := by
    unfold dueS
    rw [w64_id (by omega)]
    by_cases h1 : p.SentAt < 0 <;> by_cases h2 : p.SentAt > now <;> by_cases h3 : now - p.SentAt ≥ 10 <;> simp [h1, h2, h3]
  simp only [hdue, Option.bind_some]
  by_cases h0 : p.Queue.length = 0
  · have h0' : ((p.Queue.length : Int) == 0) = true := by simp [h0]
    have he : emitS p now = (p, [headP p]) := by unfold emitS; rw [if_pos (.inl h0)]
    rw [h0', he]
    rfl
  have h0' : ((p.Queue.length : Int) == 0) = false := by rw [beq_eq_false_iff_ne]; omega
  rw [h0']
  by_cases hdd : dueS p now
  case neg =>
    have he : emitS p now = (p, [headP p]) := by unfold emitS; rw [if_pos (.inr hdd)]
    rw [he]
    simp only [hdd, decide_false, Bool.not_true, Bool.not_false, Bool.false_eq_true, if_false, if_true, Option.bind_some]
    rfl
  have he : emitS p now = ({ p with SentAt := now }, (List.range (min 16 p.Queue.length)).map (pk p)) := by unfold emitS; rw [if_neg (by intro hh; rcases hh with hh | hh; exact h0 hh; exact hh hdd)]
  rw [he]
  have hmn : mn64 16 (p.Queue.length : Int) = ((min 16 p.Queue.length : Nat) : Int) := by unfold mn64; split <;> omega
  simp only [hdd, decide_true, Bool.not_true, Bool.not_false, Bool.false_eq_true, if_false, if_true, Option.bind_some]
  rw [hmn, if_pos (by unfold InB; omega), Int.toNat_natCast]
  simp only [lt1]
  have hl : (p.Queue.take (min 16 p.Queue.length)).length = min 16 p.Queue.length := by simp
  rw [hl, emit_loop p hq hd _ rfl]
  rfl

theorem emit_vs {p : Pe} (h : VS p) {now : Int} (hn : 0 ≤ now ∧ now ≤ 1073741824) : VS (emitS p now).1 := by
  unfold emitS
  split
  · exact h
  · exact ⟨h.e0, h.e1, h.o0, h.o1, by simp; omega, hn.2, h.f0, h.n0, h.n1, h.q, h.fq, h.qd, h.early⟩
end Go.Proofs.Ytomjphpnpcgacaa
/-
  What holds of two sides, of the packets under way and of what was oz and dz.
-/
namespace Go.Proofs.Ytomjphpnpcgacaa
open Go.Rv
set_option linter.unusedVariables false
set_option linter.unusedSimpArgs false

/-- A packet of B's session that is going on. -/
def PkOk (B : Pe) (off : List (List UInt8)) (k : Pk) : Prop :=
  k.Ack ≤ B.Next ∧ (0 ≤ k.Seq → ∃ n : Nat, k.Seq = (n : Int) ∧ n < off.length ∧ k.Data = nth off n)
def EOf (off : List (List UInt8)) (e : Pk) : Prop := ∃ m : Nat, e.Seq = (m : Int) ∧ m < off.length ∧ e.Data = nth off m
def Good (A B : Pe) (off del : List (List UInt8)) : Prop :=
  ∃ n : Nat, A.Next = (n : Int) ∧ n ≤ off.length ∧ del = off.take n ∧ (∀ e ∈ A.Early, EOf off e) ∧ A.First ≤ B.Next
def Fresh (A : Pe) (del : List (List UInt8)) : Prop := A.Next = 0 ∧ del = [] ∧ A.Early = [] ∧ A.First = 0

/-- Of the messages from B to A: w the packets under way to A, off what B was oz, del what A has dz. -/
structure J (A B : Pe) (w : List Pk) (off del : List (List UInt8)) : Prop where
  pk : ∀ k ∈ w, k.Epoch ≤ B.Epoch ∧ (k.Epoch = B.Epoch → k.To ≤ B.Other ∧ (k.To = B.Other → PkOk B off k))
  oth : A.Other ≤ B.Epoch
  snd : ∃ f : Nat, B.First = (f : Int) ∧ f ≤ off.length ∧ B.Queue = off.drop f
  rcv : A.Other = B.Epoch → (B.Other = A.Epoch → Good A B off del) ∧ (B.Other ≠ A.Epoch → Fresh A del)

theorem J.sub {A B : Pe} {w w' : List Pk} {off del : List (List UInt8)} (h : J A B w off del) (hw : ∀ k ∈ w', k ∈ w) : J A B w' off del :=
  ⟨fun k hk => h.pk k (hw k hk), h.oth, h.snd, h.rcv⟩

theorem J.sender {A B B' : Pe} {w : List Pk} {off del : List (List UInt8)} (h : J A B w off del) (he : B'.Epoch = B.Epoch) (ho : B'.Other = B.Other) (hn : B.Next ≤ B'.Next)
    (hs : ∃ f : Nat, B'.First = (f : Int) ∧ f ≤ off.length ∧ B'.Queue = off.drop f) : J A B' w off del := by
  refine ⟨fun k hk => ?_, by rw [he]; exact h.oth, hs, fun hh => ?_⟩
  · obtain ⟨h1, h2⟩ := h.pk k hk
    refine ⟨by rw [he]; exact h1, fun h3 => ?_⟩
    rw [he] at h3
    obtain ⟨h4, h5⟩ := h2 h3
    refine ⟨by rw [ho]; exact h4, fun h6 => ?_⟩
    rw [ho] at h6
    obtain ⟨h7, h8⟩ := h5 h6
    exact ⟨by omega, h8⟩
  · rw [he] at hh
    obtain ⟨h1, h2⟩ := h.rcv hh
    rw [ho]
    refine ⟨fun h3 => ?_, h2⟩
    obtain ⟨n, q1, q2, q3, q4, q5⟩ := h1 h3
    exact ⟨n, q1, q2, q3, q4, by omega⟩

theorem nth_app {l r : List (List UInt8)} {n : Nat} (h : n < l.length) : nth (l ++ r) n = nth l n := by
  unfold nth
  rw [List.getD_eq_getElem?_getD, List.getD_eq_getElem?_getD, List.getElem?_append_left h]

/-- B is oz a message. -/
theorem J.offer {A B : Pe} {w : List Pk} {off del : List (List UInt8)} (h : J A B w off del) (d : List UInt8) : J A { B with Queue := B.Queue ++ [d] } w (off ++ [d]) del := by
  have hE : ∀ e, EOf off e → EOf (off ++ [d]) e := fun e ⟨m, h1, h2, h3⟩ => ⟨m, h1, by simp; omega, by rw [nth_app h2]; exact h3⟩
  refine ⟨fun k hk => ?_, h.oth, ?_, fun hh => ?_⟩
  · obtain ⟨h1, h2⟩ := h.pk k hk
    refine ⟨h1, fun h3 => ?_⟩
    obtain ⟨h4, h5⟩ := h2 h3
    refine ⟨h4, fun h6 => ?_⟩
    obtain ⟨h7, h8⟩ := h5 h6
    refine ⟨h7, fun h9 => ?_⟩
    obtain ⟨n, q1, q2, q3⟩ := h8 h9
    exact ⟨n, q1, by simp; omega, by rw [nth_app q2]; exact q3⟩
  · obtain ⟨f, q1, q2, q3⟩ := h.snd
    refine ⟨f, q1, by simp; omega, ?_⟩
    show B.Queue ++ [d] = _
    rw [q3, List.drop_append_of_le_length q2]
  · obtain ⟨h1, h2⟩ := h.rcv hh
    refine ⟨fun h3 => ?_, h2⟩
    obtain ⟨n, q1, q2, q3, q4, q5⟩ := h1 h3
    exact ⟨n, q1, by simp; omega, by rw [List.take_append_of_le_length q2]; exact q3, fun e he => hE e (q4 e he), q5⟩

/-- A is oz a message. -/
theorem J.oz {A B : Pe} {w : List Pk} {off del : List (List UInt8)} (h : J A B w off del) (q : List (List UInt8)) : J { A with Queue := q } B w off del := ⟨h.pk, h.oth, h.snd, h.rcv⟩

theorem emit_pk {B : Pe} {off : List (List UInt8)} (hv : VS B) (hs : ∃ f : Nat, B.First = (f : Int) ∧ f ≤ off.length ∧ B.Queue = off.drop f) (now : Int) :
    ∀ k ∈ (emitS B now).2, k.Epoch = B.Epoch ∧ k.To = B.Other ∧ PkOk B off k := by
  intro k hk
  unfold emitS at hk
  split at hk
  · rw [List.mem_singleton] at hk
    subst hk
    exact ⟨rfl, rfl, Int.le_refl _, fun h => absurd h (by simp [headP])⟩
  · rw [List.mem_map] at hk
    obtain ⟨i, hi, rfl⟩ := hk
    rw [List.mem_range] at hi
    have hq : i < B.Queue.length := by omega
    refine ⟨rfl, rfl, Int.le_refl _, fun _ => ?_⟩
    obtain ⟨f, h1, h2, h3⟩ := hs
    have := hv.fq; have := hv.f0
    refine ⟨f + i, ?_, ?_, ?_⟩
    · show w64 (B.First + (i : Int)) = _
      rw [w64_id (by omega), h1]; omega
    · rw [h3, List.length_drop] at hq; omega
    · show nth B.Queue i = _
      rw [h3]
      unfold nth
      rw [List.getD_eq_getElem?_getD, List.getD_eq_getElem?_getD, List.getElem?_drop]

/-- B emits. -/
theorem J.emit {A B : Pe} {w : List Pk} {off del : List (List UInt8)} (h : J A B w off del) (hv : VS B) (now : Int) : J A (emitS B now).1 (w ++ (emitS B now).2) off del := by
  have hpk := emit_pk hv h.snd now
  have h1 : J A B (w ++ (emitS B now).2) off del := by
    refine ⟨fun k hk => ?_, h.oth, h.snd, h.rcv⟩
    rcases List.mem_append.1 hk with hk | hk
    · exact h.pk k hk
    · obtain ⟨q1, q2, q3⟩ := hpk k hk
      exact ⟨by omega, fun _ => ⟨by omega, fun _ => q3⟩⟩
  generalize (emitS B now).2 = l at h1
  unfold emitS
  split
  · exact h1
  · exact ⟨h1.pk, h1.oth, h1.snd, h1.rcv⟩
/-- A emits. -/
theorem J.emitted {A B : Pe} {w : List Pk} {off del : List (List UInt8)} (h : J A B w off del) (now : Int) : J (emitS A now).1 B w off del := by
  unfold emitS
  split
  · exact h
  · exact ⟨h.pk, h.oth, h.snd, h.rcv⟩

/-- A starts again. -/
theorem J.restart {A B : Pe} {w : List Pk} {off del : List (List UInt8)} (h : J A B w off del) (hB : VS B) (e : Int) : J (newS e) B w off [] := by
  have := hB.e0
  refine ⟨h.pk, by show -1 ≤ B.Epoch; omega, h.snd, fun hh => ?_⟩
  have : (-1 : Int) = B.Epoch := hh
  omega
/-- B starts again. -/
theorem J.restarted {A B : Pe} {w : List Pk} {off del : List (List UInt8)} (h : J A B w off del) {e : Int} (he : B.Epoch < e) : J A (newS e) w [] del := by
  have ho := h.oth
  refine ⟨fun k hk => ?_, by show A.Other ≤ e; omega, ⟨0, rfl, Nat.le_refl _, rfl⟩, fun hh => ?_⟩
  · have := (h.pk k hk).1
    refine ⟨by show k.Epoch ≤ e; omega, fun h2 => ?_⟩
    have : k.Epoch = e := h2
    omega
  · have : A.Other = e := hh
    omega

theorem take_nth {off : List (List UInt8)} {n : Nat} (h : n < off.length) : off.take n ++ [nth off n] = off.take (n + 1) := by
  rw [List.take_add_one]
  congr 1
  unfold nth
  rw [List.getD_eq_getElem?_getD, List.getElem?_eq_getElem h]
  rfl

theorem runS_good {off : List (List UInt8)} : ∀ (l : List Pk) (n : Nat), n ≤ off.length → (∀ e ∈ l, EOf off e) →
    ∃ m : Nat, (runS (n : Int) l).1 = (m : Int) ∧ n ≤ m ∧ m ≤ off.length ∧ off.take n ++ (runS (n : Int) l).2.1 = off.take m ∧ ∀ e ∈ (runS (n : Int) l).2.2, EOf off e
  | [], n, hn, _ => ⟨n, rfl, Nat.le_refl _, hn, by simp [runS], fun e he => by cases he⟩
  | e :: r, n, hn, he => by
    unfold runS
    by_cases hc : e.Seq = (n : Int)
    · rw [if_pos hc]
      obtain ⟨m, h1, h2, h3⟩ := he e (by simp)
      have hmn : m = n := by omega
      subst hmn
      obtain ⟨m', q1, q2, q3, q4, q5⟩ := runS_good r (m + 1) h2 (fun e' h' => he e' (by simp [h']))
      have e1 : ((m + 1 : Nat) : Int) = (m : Int) + 1 := by omega
      rw [e1] at q1 q4 q5
      refine ⟨m', q1, by omega, q3, ?_, q5⟩
      rw [← q4, ← take_nth h2, h3]
      simp
    · rw [if_neg hc]
      exact ⟨n, rfl, Nat.le_refl _, hn, by simp, he⟩

/-- A takes a packet of B's. -/
theorem J.accept {A B : Pe} {wA wB : List Pk} {offA offB delA delB : List (List UInt8)} (h : J A B wA offB delA) (h' : J B A wB offA delB) (hA : VS A) (hB : VS B) {k : Pk} (hk : k ∈ wA) :
    J (accS A k).1 B wA offB ((if (accS A k).2.2 = true then [] else delA) ++ (accS A k).2.1) ∧ J B (accS A k).1 wB (if (accS A k).2.2 = true then [] else offA) delB ∧ VS (accS A k).1 := by
  unfold accS
  by_cases ho : okA A k = true
  case neg =>
    rw [if_neg ho]
    simp only [Bool.false_eq_true, if_false, List.append_nil]
    exact ⟨h, h', hA⟩
  rw [if_pos ho]
  simp only
  unfold okA at ho
  simp only [Bool.and_eq_true, Bool.not_eq_true', decide_eq_false_iff_not] at ho
  obtain ⟨⟨hv, _⟩, hge⟩ := ho
  have hK := vk_of hv
  have hKe := vk_e hv
  obtain ⟨hpe, hpk⟩ := h.pk k hk
  -- the reset
  obtain ⟨q, hq⟩ : ∃ q, q = resetS A k := ⟨_, rfl⟩
  have hqv : VS q := by rw [hq]; exact reset_vs hA hKe
  obtain ⟨offq, hoffq⟩ : ∃ x, x = (if decide (k.Epoch > A.Other) = true then [] else offA) := ⟨_, rfl⟩
  obtain ⟨delq, hdelq⟩ : ∃ x, x = (if decide (k.Epoch > A.Other) = true then [] else delA) := ⟨_, rfl⟩
  rw [← hq, ← hoffq, ← hdelq]
  have stage1 : q.Epoch = A.Epoch ∧ q.Other = k.Epoch ∧ J q B wA offB delq ∧ J B q wB offq delB := by
    by_cases hr : k.Epoch > A.Other
    · have hr' : decide (k.Epoch > A.Other) = true := by simpa using hr
      rw [hr', if_pos rfl] at hoffq hdelq
      subst hoffq hdelq
      have e : q = { Epoch := A.Epoch, Other := k.Epoch, First := 0, Queue := [], Next := 0, Early := [], SentAt := -1 } := by rw [hq]; unfold resetS; rw [if_pos hr]
      subst e
      refine ⟨rfl, rfl, ⟨h.pk, hpe, h.snd, fun hh => ⟨fun h3 => ⟨0, rfl, Nat.zero_le _, by simp, (fun e he => by cases he), (by show (0 : Int) ≤ B.Next; exact hB.n0)⟩, fun _ => ⟨rfl, rfl, rfl, rfl⟩⟩⟩, ⟨fun k' hk' => ?_, h'.oth, ⟨0, rfl, Nat.le_refl _, rfl⟩, fun hh => ?_⟩⟩
      · obtain ⟨p1, p2⟩ := h'.pk k' hk'
        refine ⟨p1, fun h3 => ?_⟩
        have p3 := (p2 h3).1
        refine ⟨by show k'.To ≤ k.Epoch; omega, fun h4 => ?_⟩
        have : k'.To = k.Epoch := h4
        omega
      · have hBA : B.Other = A.Epoch := hh
        have hne : A.Other ≠ B.Epoch := by omega
        obtain ⟨f1, f2, f3, f4⟩ := (h'.rcv hBA).2 hne
        refine ⟨fun _ => ⟨0, f1, Nat.le_refl _, (by rw [f2]; rfl), (by rw [f3]; intro e he; cases he), (by rw [f4]; exact Int.le_refl _)⟩, fun _ => ⟨f1, f2, f3, f4⟩⟩
    · have hr' : decide (k.Epoch > A.Other) = false := by simpa using hr
      rw [hr'] at hoffq hdelq
      simp only [Bool.false_eq_true, if_false] at hoffq hdelq
      subst hoffq hdelq
      have e : q = A := by rw [hq]; unfold resetS; rw [if_neg hr]
      subst e
      exact ⟨rfl, by omega, h, h'⟩
  clear hq hoffq hdelq
  obtain ⟨e1, e2, j1, j2⟩ := stage1
  unfold stepS
  by_cases ht : k.To = q.Epoch
  case neg =>
    rw [if_neg ht]
    simp only [List.append_nil]
    exact ⟨j1, j2, hqv⟩
  rw [if_pos ht]
  -- a packet of the session that is going on
  have cur : q.Other = B.Epoch → B.Other = q.Epoch ∧ PkOk B offB k := by
    intro hh
    have h3 : k.Epoch = B.Epoch := by omega
    obtain ⟨h4, h5⟩ := hpk h3
    have h6 := j2.oth
    have h7 : B.Other = q.Epoch := by omega
    exact ⟨h7, h5 (by omega)⟩
  -- what it acknowledges
  have a1 : J (ackS q k) B wA offB delq ∧ J B (ackS q k) wB offq delB := by
    have ae : (ackS q k).Epoch = q.Epoch := by unfold ackS; split <;> rfl
    have ao : (ackS q k).Other = q.Other := by unfold ackS; split <;> rfl
    have an : (ackS q k).Next = q.Next := by unfold ackS; split <;> rfl
    have aE : (ackS q k).Early = q.Early := by unfold ackS; split <;> rfl
    constructor
    · refine ⟨j1.pk, by rw [ao]; exact j1.oth, j1.snd, fun hh => ?_⟩
      rw [ao] at hh
      obtain ⟨c1, c2, _⟩ := cur hh
      rw [ae]
      refine ⟨fun h3 => ?_, fun h3 => absurd c1 h3⟩
      obtain ⟨n, q1, q2, q3, q4, q5⟩ := (j1.rcv hh).1 h3
      refine ⟨n, by rw [an]; exact q1, q2, q3, by rw [aE]; exact q4, ?_⟩
      unfold ackS
      split
      · exact c2
      · exact q5
    · refine j2.sender ae ao (by rw [an]; exact Int.le_refl _) ?_
      obtain ⟨f, q1, q2, q3⟩ := j2.snd
      unfold ackS
      by_cases hc : q.First < k.Ack ∧ k.Ack ≤ q.First + (q.Queue.length : Int)
      · rw [if_pos hc]
        have hl : q.Queue.length = offq.length - f := by rw [q3, List.length_drop]
        refine ⟨k.Ack.toNat, by show k.Ack = _; omega, by omega, ?_⟩
        show q.Queue.drop (k.Ack - q.First).toNat = _
        rw [q3, List.drop_drop]
        congr 1
        omega
      · rw [if_neg hc]
        exact ⟨f, q1, q2, q3⟩
  have ae : (ackS q k).Epoch = q.Epoch := by unfold ackS; split <;> rfl
  have ao : (ackS q k).Other = q.Other := by unfold ackS; split <;> rfl
  have av := ack_vs hqv hK
  generalize ackS q k = a at a1 ae ao av
  obtain ⟨a1, a2⟩ := a1
  rw [← ae, ← ao] at cur
  -- what it brings early
  have kv := keep_vs (k := k) av hK
  have ke : (keepS a k).Epoch = a.Epoch := by unfold keepS; split <;> rfl
  have ko : (keepS a k).Other = a.Other := by unfold keepS; split <;> rfl
  have kn : (keepS a k).Next = a.Next := by unfold keepS; split <;> rfl
  have kf : (keepS a k).First = a.First := by unfold keepS; split <;> rfl
  have kq : (keepS a k).Queue = a.Queue := by unfold keepS; split <;> rfl
  have b1 : J (keepS a k) B wA offB delq := by
    refine ⟨a1.pk, by rw [ko]; exact a1.oth, a1.snd, fun hh => ?_⟩
    rw [ko] at hh
    obtain ⟨c1, c2, c3⟩ := cur hh
    rw [ke]
    refine ⟨fun h3 => ?_, fun h3 => absurd c1 h3⟩
    obtain ⟨n, q1, q2, q3, q4, q5⟩ := (a1.rcv hh).1 h3
    refine ⟨n, by rw [kn]; exact q1, q2, q3, ?_, by rw [kf]; exact q5⟩
    unfold keepS
    by_cases hc : a.Next < k.Seq ∧ k.Seq < a.Next + 64
    · rw [if_pos hc]
      intro e he
      rcases insS_mem _ _ e he with rfl | he
      · exact c3 (by omega)
      · exact q4 e he
    · rw [if_neg hc]; exact q4
  have b2 : J B (keepS a k) wB offq delB := a2.sender ke ko (by rw [kn]; exact Int.le_refl _) (by rw [kf, kq]; exact a2.snd)
  rw [← ke, ← ko] at cur
  generalize keepS a k = b at b1 b2 kv cur
  have dv := del_vs (k := k) kv hK
  -- what it delivers
  have de : (delS b k).1.Epoch = b.Epoch := by unfold delS; split <;> rfl
  have do' : (delS b k).1.Other = b.Other := by unfold delS; split <;> rfl
  have df : (delS b k).1.First = b.First := by unfold delS; split <;> rfl
  have dq : (delS b k).1.Queue = b.Queue := by unfold delS; split <;> rfl
  refine ⟨⟨b1.pk, by rw [do']; exact b1.oth, b1.snd, fun hh => ?_⟩, b2.sender de do' ?_ (by rw [df, dq]; exact b2.snd), dv⟩
  · rw [do'] at hh
    obtain ⟨c1, c2, c3⟩ := cur hh
    rw [de]
    refine ⟨fun h3 => ?_, fun h3 => absurd c1 h3⟩
    obtain ⟨n, q1, q2, q3, q4, q5⟩ := (b1.rcv hh).1 h3
    unfold delS
    by_cases hc : k.Seq = b.Next
    · rw [if_pos hc]
      obtain ⟨m, r1, r2, r3⟩ := c3 (by omega)
      have hmn : m = n := by omega
      subst hmn
      obtain ⟨m', s1, s2, s3, s4, s5⟩ := runS_good (off := offB) b.Early (m + 1) r2 q4
      have e9 : ((m + 1 : Nat) : Int) = b.Next + 1 := by omega
      rw [e9] at s1 s4 s5
      refine ⟨m', s1, s3, ?_, s5, q5⟩
      rw [q3, ← s4, ← take_nth r2, r3]
      simp
    · rw [if_neg hc]
      exact ⟨n, q1, q2, by simp [q3], q4, q5⟩
  · unfold delS
    split
    · have := runS_ge b.Early (b.Next + 1)
      simp only
      omega
    · exact Int.le_refl _
end Go.Proofs.Ytomjphpnpcgacaa
/-
  The law WindowDelivers, in plain Lean.
-/
namespace Go.Proofs.Ytomjphpnpcgacaa
open Go.Rv
set_option linter.unusedVariables false
set_option linter.unusedSimpArgs false

abbrev PairS := Pq

theorem runS_len (l : List Pk) : ∀ n, (runS n l).2.1.length ≤ l.length := by
  induction l with
  | nil => intro n; exact Nat.le_refl _
  | cons e r ih =>
    intro n
    unfold runS
    split
    · have := ih (n + 1); simp; omega
    · simp
theorem out_len {p : Pe} (h : VS p) (k : Pk) : (accS p k).2.1.length ≤ 66 := by
  unfold accS
  split
  case isFalse => simp
  simp only
  unfold stepS
  split
  case isFalse => simp
  have h0 : (resetS p k).Early.length ≤ 63 := by
    have := h.es
    unfold resetS; split
    · simp
    · exact this
  have h1 : (ackS (resetS p k) k).Early = (resetS p k).Early := by unfold ackS; split <;> rfl
  rw [← h1] at h0
  generalize ackS (resetS p k) k = a at h0
  have h2 : (keepS a k).Early.length ≤ 64 := by
    unfold keepS; split
    · have := insS_len a.Early (newE k); simp only; omega
    · omega
  generalize keepS a k = b at h2
  unfold delS
  split
  · have := runS_len b.Early (b.Next + 1)
    simp only [List.length_cons]; omega
  · simp

theorem sent_acc {p : Pe} (k : Pk) {now : Int} (h : p.SentAt ≤ now) (hn : 0 ≤ now) : (accS p k).1.SentAt ≤ now := by
  unfold accS
  split
  case isFalse => exact h
  simp only
  have h0 : (resetS p k).SentAt ≤ now := by
    unfold resetS; split
    · simp; omega
    · exact h
  unfold stepS
  split
  case isFalse => exact h0
  have h1 : (ackS (resetS p k) k).SentAt ≤ now := by
    unfold ackS; split
    · simp; omega
    · exact h0
  generalize ackS (resetS p k) k = a at h1
  have h2 : (keepS a k).SentAt = a.SentAt := by unfold keepS; split <;> rfl
  have h3 : (delS (keepS a k) k).1.SentAt = (keepS a k).SentAt := by unfold delS; split <;> rfl
  rw [h3, h2]; exact h1

theorem sent_emit {p : Pe} {now : Int} (h : p.SentAt ≤ now) : (emitS p now).1.SentAt ≤ now := by
  unfold emitS
  split
  · exact h
  · exact Int.le_refl _

theorem emit_len (p : Pe) (now : Int) : (emitS p now).2.length ≤ 16 ∧ 1 ≤ (emitS p now).2.length := by
  unfold emitS
  split
  · simp
  · rename_i h
    have : ¬ p.Queue.length = 0 := fun e => h (.inl e)
    simp; omega

structure Inv (m : Nat) (s : PairS) : Prop where
  v0 : VS s.p.1
  v1 : VS s.p.2
  j0 : J s.p.1 s.p.2 s.way.1 s.oz.2 s.dz.1
  j1 : J s.p.2 s.p.1 s.way.2 s.oz.1 s.dz.2
  now0 : 0 ≤ s.now
  now1 : s.now ≤ 20 * (m : Int)
  s0 : s.p.1.SentAt ≤ s.now
  s1 : s.p.2.SentAt ≤ s.now
  w0 : s.way.1.length ≤ 200
  w1 : s.way.2.length ≤ 200
  o0 : s.oz.1.length ≤ m
  o1 : s.oz.2.length ≤ m
  d0 : s.dz.1.length ≤ 70 * m
  d1 : s.dz.2.length ≤ 70 * m

theorem Inv.more {m m' : Nat} {s : PairS} (h : Inv m s) (hm : m ≤ m') : Inv m' s :=
  ⟨h.v0, h.v1, h.j0, h.j1, h.now0, by have := h.now1; omega, h.s0, h.s1, h.w0, h.w1, by have := h.o0; omega, by have := h.o1; omega, by have := h.d0; omega, by have := h.d1; omega⟩

/-- At most 200 packets stay under way. -/
def tailW (l : List Pk) : List Pk := if l.length > 200 then l.drop (l.length - 200) else l
theorem tailW_len (l : List Pk) : (tailW l).length ≤ 200 := by
  unfold tailW; split
  · rw [List.length_drop]; omega
  · omega
theorem tailW_mem (l : List Pk) : ∀ k ∈ tailW l, k ∈ l := by
  unfold tailW; split
  · intro k hk; exact List.mem_of_mem_drop hk
  · intro k hk; exact hk

theorem tail_eq (l : List Pk) (h : l.length ≤ 100000) : (if decide ((l.length : Int) > 200) = true then if InB (w64 ((l.length : Int) - 200)) l.length then lt1 ((w64 ((l.length : Int) - 200)).toNat) fun (f : Nat) => lt1 (l.length - (w64 ((l.length : Int) - 200)).toNat) fun (g : Nat) => some (l.drop f) else none else some l) = some (tailW l) := by
  unfold tailW
  by_cases hl : l.length > 200
  · rw [if_pos (by simp; omega), if_pos hl, w64_id (by omega), if_pos (by unfold InB; omega)]
    simp only [lt1]
    rw [show ((l.length : Int) - 200).toNat = l.length - 200 by omega]
  · rw [if_neg (by simp; omega), if_neg hl]

def em0 (s : PairS) : PairS := { s with p := ((emitS s.p.1 s.now).1, s.p.2), way := (s.way.1, tailW (s.way.2 ++ (emitS s.p.1 s.now).2)) }
def em1 (s : PairS) : PairS := { s with p := (s.p.1, (emitS s.p.2 s.now).1), way := (tailW (s.way.1 ++ (emitS s.p.2 s.now).2), s.way.2) }
def ac0 (s : PairS) (k : Pk) : PairS := { s with p := ((accS s.p.1 k).1, s.p.2), oz := ((if (accS s.p.1 k).2.2 = true then [] else s.oz.1), s.oz.2), dz := ((if (accS s.p.1 k).2.2 = true then [] else s.dz.1) ++ (accS s.p.1 k).2.1, s.dz.2), resets := if (accS s.p.1 k).2.2 = true then w64 (s.resets + 1) else s.resets }
def ac1 (s : PairS) (k : Pk) : PairS := { s with p := (s.p.1, (accS s.p.2 k).1), oz := (s.oz.1, (if (accS s.p.2 k).2.2 = true then [] else s.oz.2)), dz := (s.dz.1, (if (accS s.p.2 k).2.2 = true then [] else s.dz.2) ++ (accS s.p.2 k).2.1), resets := if (accS s.p.2 k).2.2 = true then w64 (s.resets + 1) else s.resets }

theorem emit0_eq {m : Nat} {s : PairS} (h : Inv m s) (hm : m ≤ 10000) : ∃ r, law12_pair_emit_c0 s = some r ∧ r.1 = (emitS s.p.1 s.now).2 ∧ r.2.1 = em0 s := by
  have hl := (emit_len s.p.1 s.now).1
  have hw := h.w1
  have := h.now0; have := h.now1
  unfold law12_pair_emit_c0
  rw [emit_w h.v0 s.now (by omega), Option.bind_some, if_neg (by simp; omega), if_pos (fits56 (by omega))]
  have ht := tail_eq (s.way.2 ++ (emitS s.p.1 s.now).2) (by simp; omega)
  simp only [lt1] at ht ⊢
  rw [ht]
  exact ⟨_, rfl, rfl, rfl⟩
theorem emit1_eq {m : Nat} {s : PairS} (h : Inv m s) (hm : m ≤ 10000) : ∃ r, law12_pair_emit_c1 s = some r ∧ r.1 = (emitS s.p.2 s.now).2 ∧ r.2.1 = em1 s := by
  have hl := (emit_len s.p.2 s.now).1
  have hw := h.w0
  have := h.now0; have := h.now1
  unfold law12_pair_emit_c1
  rw [emit_w h.v1 s.now (by omega), Option.bind_some, if_neg (by simp; omega), if_pos (fits56 (by omega))]
  have ht := tail_eq (s.way.1 ++ (emitS s.p.2 s.now).2) (by simp; omega)
  simp only [lt1] at ht ⊢
  rw [ht]
  exact ⟨_, rfl, rfl, rfl⟩

theorem fitsL {n : Nat} (h : n ≤ 10000000) : Fits n 24 := by unfold Fits maxLen roomB; omega

theorem accept0_eq {m : Nat} {s : PairS} (h : Inv m s) (hm : m ≤ 10000) (k : Pk) : ∃ r, law12_pair_accept_c0 s k = some r ∧ r.1 = ac0 s k := by
  have ho := out_len h.v0 k
  have hd := h.d0
  have hes := h.v0.es
  unfold law12_pair_accept_c0
  rw [acc_w _ _ (by omega), Option.bind_some]
  unfold ac0
  cases hr : (accS s.p.1 k).2.2
  · simp only [Bool.false_eq_true, if_false, Option.bind_some]
    rw [if_pos (fitsL (by omega))]
    exact ⟨_, rfl, rfl⟩
  · simp only [if_true, Option.bind_some]
    rw [if_pos (fitsL (by simp; omega))]
    exact ⟨_, rfl, rfl⟩
theorem accept1_eq {m : Nat} {s : PairS} (h : Inv m s) (hm : m ≤ 10000) (k : Pk) : ∃ r, law12_pair_accept_c1 s k = some r ∧ r.1 = ac1 s k := by
  have ho := out_len h.v1 k
  have hd := h.d1
  have hes := h.v1.es
  unfold law12_pair_accept_c1
  rw [acc_w _ _ (by omega), Option.bind_some]
  unfold ac1
  cases hr : (accS s.p.2 k).2.2
  · simp only [Bool.false_eq_true, if_false, Option.bind_some]
    rw [if_pos (fitsL (by omega))]
    exact ⟨_, rfl, rfl⟩
  · simp only [if_true, Option.bind_some]
    rw [if_pos (fitsL (by simp; omega))]
    exact ⟨_, rfl, rfl⟩

theorem inv_em0 {m : Nat} {s : PairS} (h : Inv m s) (hm : m ≤ 10000) : Inv m (em0 s) := by
  have := h.now0; have := h.now1
  exact ⟨emit_vs h.v0 (by omega), h.v1, h.j0.emitted s.now, (h.j1.emit h.v0 s.now).sub (tailW_mem _), h.now0, h.now1, sent_emit h.s0, h.s1, h.w0, tailW_len _, h.o0, h.o1, h.d0, h.d1⟩
theorem inv_em1 {m : Nat} {s : PairS} (h : Inv m s) (hm : m ≤ 10000) : Inv m (em1 s) := by
  have := h.now0; have := h.now1
  exact ⟨h.v0, emit_vs h.v1 (by omega), (h.j0.emit h.v1 s.now).sub (tailW_mem _), h.j1.emitted s.now, h.now0, h.now1, h.s0, sent_emit h.s1, tailW_len _, h.w1, h.o0, h.o1, h.d0, h.d1⟩
theorem inv_ac0 {m : Nat} {s : PairS} (h : Inv m s) {k : Pk} (hk : k ∈ s.way.1) : Inv (m + 1) (ac0 s k) := by
  obtain ⟨q1, q2, q3⟩ := h.j0.accept h.j1 h.v0 h.v1 hk
  have ho := out_len h.v0 k
  have := h.d0; have := h.d1; have := h.o0; have := h.o1; have := h.now0; have := h.now1
  refine ⟨q3, h.v1, q1, q2, h.now0, by show s.now ≤ _; omega, sent_acc k h.s0 h.now0, h.s1, h.w0, h.w1, ?_, by show s.oz.2.length ≤ _; omega, ?_, by show s.dz.2.length ≤ _; omega⟩
  · show (if (accS s.p.1 k).2.2 = true then [] else s.oz.1).length ≤ _
    split
    · exact Nat.zero_le _
    · omega
  · show ((if (accS s.p.1 k).2.2 = true then [] else s.dz.1) ++ _).length ≤ _
    rw [List.length_append]
    split
    · rw [List.length_nil]; omega
    · omega
theorem inv_ac1 {m : Nat} {s : PairS} (h : Inv m s) {k : Pk} (hk : k ∈ s.way.2) : Inv (m + 1) (ac1 s k) := by
  obtain ⟨q1, q2, q3⟩ := h.j1.accept h.j0 h.v1 h.v0 hk
  have ho := out_len h.v1 k
  have := h.d0; have := h.d1; have := h.o0; have := h.o1; have := h.now0; have := h.now1
  refine ⟨h.v0, q3, q2, q1, h.now0, by show s.now ≤ _; omega, h.s0, sent_acc k h.s1 h.now0, h.w0, h.w1, by show s.oz.1.length ≤ _; omega, ?_, by show s.dz.1.length ≤ _; omega, ?_⟩
  · show (if (accS s.p.2 k).2.2 = true then [] else s.oz.2).length ≤ _
    split
    · exact Nat.zero_le _
    · omega
  · show ((if (accS s.p.2 k).2.2 = true then [] else s.dz.2) ++ _).length ≤ _
    rw [List.length_append]
    split
    · rw [List.length_nil]; omega
    · omega

/-! ### The operations -/
theorem or_if (a b : Bool) : (if a = true then some a else some b) = some (a || b) := by cases a <;> rfl
theorem and_15 (x : Int) : 0 ≤ and64 x 15 ∧ and64 x 15 ≤ 15 := by
  unfold and64
  have h1 : (BitVec.ofInt 64 15) = 15#64 := by decide
  rw [h1]
  have h2 : (BitVec.ofInt 64 x &&& 15#64).toNat = (BitVec.ofInt 64 x).toNat % 16 := by
    rw [BitVec.toNat_and]
    exact Nat.and_two_pow_sub_one_eq_mod _ 4
  rw [h2]
  have h3 : (BitVec.ofInt 64 x).toNat % 16 < 16 := Nat.mod_lt _ (by decide)
  generalize (BitVec.ofInt 64 x).toNat % 16 = y at h3
  have : IntKind.i64.wrap (y : Int) = (y : Int) := w64_id (x := (y : Int)) (by omega)
  rw [this]; omega

theorem at_eq (x : Int) {n : Nat} (h0 : 0 < n) (hn : n ≤ 1000) : ∃ i : Nat, i < n ∧ law12_at x (n : Int) = some (i : Int) := by
  have h1 : (UInt64.ofInt (n : Int)).toNat = n := by rw [UInt64.ofInt, UInt64.toNat_ofNat']; omega
  have hne : ¬ (UInt64.ofInt (n : Int)) = 0 := fun e => by rw [e] at h1; simp at h1; omega
  have hm : (UInt64.ofInt x % UInt64.ofInt (n : Int)).toNat < n := by rw [UInt64.toNat_mod, h1]; exact Nat.mod_lt _ h0
  refine ⟨(UInt64.ofInt x % UInt64.ofInt (n : Int)).toNat, hm, ?_⟩
  unfold law12_at
  rw [if_pos hne]
  simp only [lt1]
  rw [w64_id (by omega)]

/-- What an offer to side 0 makes. -/
def of0 (s : PairS) (d : List UInt8) : PairS := { s with p := ({ s.p.1 with Queue := s.p.1.Queue ++ [d] }, s.p.2), oz := (s.oz.1 ++ [d], s.oz.2) }
def of1 (s : PairS) (d : List UInt8) : PairS := { s with p := (s.p.1, { s.p.2 with Queue := s.p.2.Queue ++ [d] }), oz := (s.oz.1, s.oz.2 ++ [d]) }

theorem vs_offer {p : Pe} (h : VS p) {d : List UInt8} (h1 : d.length ≤ 8000) (h2 : p.Queue.length < 256) (h3 : p.First + (p.Queue.length : Int) < 1099511627776) : VS { p with Queue := p.Queue ++ [d] } :=
  ⟨h.e0, h.e1, h.o0, h.o1, h.t0, h.t1, h.f0, h.n0, h.n1, by simp; omega, by simp; omega, fun m hm => by
    rcases List.mem_append.1 hm with hm | hm
    · exact h.qd m hm
    · rw [List.mem_singleton] at hm; rw [hm]; exact h1, h.early⟩

theorem inv_of0 {m : Nat} {s : PairS} (h : Inv m s) {d : List UInt8} (h1 : d.length ≤ 8000) (h2 : s.p.1.Queue.length < 256) (h3 : s.p.1.First + (s.p.1.Queue.length : Int) < 1099511627776) : Inv (m + 1) (of0 s d) := by
  have := h.d0; have := h.d1; have := h.o0; have := h.o1; have := h.now0; have := h.now1
  exact ⟨vs_offer h.v0 h1 h2 h3, h.v1, h.j0.oz _, h.j1.offer d, h.now0, by show s.now ≤ _; omega, h.s0, h.s1, h.w0, h.w1, by show (s.oz.1 ++ [d]).length ≤ _; simp; omega, by show s.oz.2.length ≤ _; omega, by show s.dz.1.length ≤ _; omega, by show s.dz.2.length ≤ _; omega⟩
theorem inv_of1 {m : Nat} {s : PairS} (h : Inv m s) {d : List UInt8} (h1 : d.length ≤ 8000) (h2 : s.p.2.Queue.length < 256) (h3 : s.p.2.First + (s.p.2.Queue.length : Int) < 1099511627776) : Inv (m + 1) (of1 s d) := by
  have := h.d0; have := h.d1; have := h.o0; have := h.o1; have := h.now0; have := h.now1
  exact ⟨h.v0, vs_offer h.v1 h1 h2 h3, h.j0.offer d, h.j1.oz _, h.now0, by show s.now ≤ _; omega, h.s0, h.s1, h.w0, h.w1, by show s.oz.1.length ≤ _; omega, by show (s.oz.2 ++ [d]).length ≤ _; simp; omega, by show s.dz.1.length ≤ _; omega, by show s.dz.2.length ≤ _; omega⟩

/-- What an operation makes of the state: what holds of it goes on, with one more. -/
theorem act_ok {m : Nat} {s : PairS} (h : Inv m s) (hm : m ≤ 9000) (a : Aq) : ∃ r, law12_pair_act s a = some r ∧ Inv (m + 1) r.1 := by
  have hd0 := h.d0; have hd1 := h.d1; have ho0 := h.o0; have ho1 := h.o1; have hn0 := h.now0; have hn1 := h.now1; have hw0 := h.w0; have hw1 := h.w1
  have same := h.more (Nat.le_succ m)
  obtain ⟨n1, n2⟩ := and_15 a.N
  have hnow : w64 (s.now + and64 a.N 15) = s.now + and64 a.N 15 := w64_id (by omega)
  have hs' : Inv (m + 1) { s with now := s.now + and64 a.N 15 } := ⟨h.v0, h.v1, h.j0, h.j1, by show 0 ≤ s.now + _; omega, by show s.now + _ ≤ _; omega, by have := h.s0; show s.p.1.SentAt ≤ s.now + _; omega, by have := h.s1; show s.p.2.SentAt ≤ s.now + _; omega, h.w0, h.w1, by show s.oz.1.length ≤ _; omega, by show s.oz.2.length ≤ _; omega, by show s.dz.1.length ≤ _; omega, by show s.dz.2.length ≤ _; omega⟩
  unfold law12_pair_act
  simp only [lt1, or_if, Option.bind_some, hnow]
  generalize and64 a.Kind 7 = K
  rcases and64_one a.Side with hs | hs
  · rw [hs, if_pos (by decide)]
    by_cases k1 : (K == 0 || K == 5) = true
    · rw [if_pos k1]
      obtain ⟨r, hr, hr0⟩ := offer_w h.v0 a.Data
      rw [hr, Option.bind_some]
      by_cases hz : r.2 = 0
      · obtain ⟨e1, e2, e3, e4⟩ := hr0 hz
        rw [if_pos (by simpa using hz), if_pos (fitsL (by omega)), e1]
        exact ⟨_, rfl, inv_of0 h e2 e3 e4⟩
      · rw [if_neg (by simpa using hz)]
        exact ⟨_, rfl, same⟩
    rw [if_neg k1]
    by_cases k2 : (K == 1 || K == 6) = true
    · rw [if_pos k2]
      obtain ⟨r, hr, _, hr2⟩ := emit0_eq hs' (by omega)
      have hr' : law12_pair_emit_c0 { p := (s.p.1, s.p.2), way := (s.way.1, s.way.2), oz := (s.oz.1, s.oz.2), dz := (s.dz.1, s.dz.2), now := s.now + and64 a.N 15, resets := s.resets } = some r := hr
      rw [hr', Option.bind_some]
      refine ⟨_, rfl, ?_⟩
      show Inv (m + 1) r.2.1
      rw [hr2]
      exact inv_em0 hs' (by omega)
    rw [if_neg k2]
    by_cases k3 : (K == 2 || K == 7) = true
    · rw [if_pos k3]
      by_cases hw : 0 < s.way.1.length
      · obtain ⟨i, hi, hat⟩ := at_eq a.N hw (by omega)
        rw [if_pos (by simpa using hw), hat, Option.bind_some, if_pos (inR_of hi), Int.toNat_natCast]
        obtain ⟨r, hr, hr2⟩ := accept0_eq h (by omega) (nth s.way.1 i)
        have hr' : law12_pair_accept_c0 { p := (s.p.1, s.p.2), way := (s.way.1, s.way.2), oz := (s.oz.1, s.oz.2), dz := (s.dz.1, s.dz.2), now := s.now, resets := s.resets } (nth s.way.1 i) = some r := hr
        rw [hr', Option.bind_some]
        refine ⟨_, rfl, ?_⟩
        show Inv (m + 1) r.1
        rw [hr2]
        exact inv_ac0 h (nth_mem hi)
      · rw [if_neg (by simpa using hw)]
        exact ⟨_, rfl, same⟩
    rw [if_neg k3]
    by_cases k4 : (K == 3) = true
    · rw [if_pos k4]
      by_cases hw : 0 < s.way.1.length
      · obtain ⟨i, hi, hat⟩ := at_eq a.N hw (by omega)
        have e1 : w64 ((i : Int) + 1) = ((i + 1 : Nat) : Int) := w64_one (by omega)
        rw [if_pos (by simpa using hw), hat, Option.bind_some, e1, Int.toNat_natCast, Int.toNat_natCast, if_pos (by unfold InB; omega), if_pos (fits56 (by simp; omega)), if_pos (by unfold InB; omega), if_pos (fits56 (by simp; omega))]
        refine ⟨_, rfl, ?_⟩
        refine ⟨same.v0, same.v1, same.j0.sub fun k hk => ?_, same.j1, same.now0, same.now1, same.s0, same.s1, ?_, same.w1, same.o0, same.o1, same.d0, same.d1⟩
        · rcases List.mem_append.1 hk with hk | hk
          · rw [List.nil_append] at hk
            exact List.mem_of_mem_take hk
          · exact List.mem_of_mem_drop (List.mem_of_mem_take hk)
        · refine Nat.le_trans (Nat.le_of_eq List.length_append) ?_
          simp; omega
      · rw [if_neg (by simpa using hw)]
        exact ⟨_, rfl, same⟩
    rw [if_neg k4]
    by_cases k5 : (K == 4) = true
    · rw [if_pos k5]
      have he : w64 (s.p.1.Epoch + 1) = s.p.1.Epoch + 1 := w64_id (by have := h.v0.e0; have := h.v0.e1; omega)
      rw [he]
      obtain ⟨r, hr, hr0⟩ := new_w (s.p.1.Epoch + 1)
      rw [hr, Option.bind_some]
      by_cases hz : r.2 = 0
      · obtain ⟨e1, e2⟩ := hr0 hz
        rw [if_pos (by simpa using hz), e1]
        refine ⟨_, rfl, ?_⟩
        exact ⟨new_vs e2, same.v1, same.j0.restart h.v1 _, same.j1.restarted (by omega), same.now0, same.now1, by show (-1 : Int) ≤ s.now; omega, same.s1, same.w0, same.w1, Nat.zero_le _, same.o1, Nat.zero_le _, same.d1⟩
      · rw [if_neg (by simpa using hz)]
        exact ⟨_, rfl, same⟩
    rw [if_neg k5]
    exact ⟨_, rfl, same⟩
  · rw [hs, if_neg (by decide)]
    by_cases k1 : (K == 0 || K == 5) = true
    · rw [if_pos k1]
      obtain ⟨r, hr, hr0⟩ := offer_w h.v1 a.Data
      rw [hr, Option.bind_some]
      by_cases hz : r.2 = 0
      · obtain ⟨e1, e2, e3, e4⟩ := hr0 hz
        rw [if_pos (by simpa using hz), if_pos (fitsL (by omega)), e1]
        exact ⟨_, rfl, inv_of1 h e2 e3 e4⟩
      · rw [if_neg (by simpa using hz)]
        exact ⟨_, rfl, same⟩
    rw [if_neg k1]
    by_cases k2 : (K == 1 || K == 6) = true
    · rw [if_pos k2]
      obtain ⟨r, hr, _, hr2⟩ := emit1_eq hs' (by omega)
      have hr' : law12_pair_emit_c1 { p := (s.p.1, s.p.2), way := (s.way.1, s.way.2), oz := (s.oz.1, s.oz.2), dz := (s.dz.1, s.dz.2), now := s.now + and64 a.N 15, resets := s.resets } = some r := hr
      rw [hr', Option.bind_some]
      refine ⟨_, rfl, ?_⟩
      show Inv (m + 1) r.2.1
      rw [hr2]
      exact inv_em1 hs' (by omega)
    rw [if_neg k2]
    by_cases k3 : (K == 2 || K == 7) = true
    · rw [if_pos k3]
      by_cases hw : 0 < s.way.2.length
      · obtain ⟨i, hi, hat⟩ := at_eq a.N hw (by omega)
        rw [if_pos (by simpa using hw), hat, Option.bind_some, if_pos (inR_of hi), Int.toNat_natCast]
        obtain ⟨r, hr, hr2⟩ := accept1_eq h (by omega) (nth s.way.2 i)
        have hr' : law12_pair_accept_c1 { p := (s.p.1, s.p.2), way := (s.way.1, s.way.2), oz := (s.oz.1, s.oz.2), dz := (s.dz.1, s.dz.2), now := s.now, resets := s.resets } (nth s.way.2 i) = some r := hr
        rw [hr', Option.bind_some]
        refine ⟨_, rfl, ?_⟩
        show Inv (m + 1) r.1
        rw [hr2]
        exact inv_ac1 h (nth_mem hi)
      · rw [if_neg (by simpa using hw)]
        exact ⟨_, rfl, same⟩
    rw [if_neg k3]
    by_cases k4 : (K == 3) = true
    · rw [if_pos k4]
      by_cases hw : 0 < s.way.2.length
      · obtain ⟨i, hi, hat⟩ := at_eq a.N hw (by omega)
        have e1 : w64 ((i : Int) + 1) = ((i + 1 : Nat) : Int) := w64_one (by omega)
        rw [if_pos (by simpa using hw), hat, Option.bind_some, e1, Int.toNat_natCast, Int.toNat_natCast, if_pos (by unfold InB; omega), if_pos (fits56 (by simp; omega)), if_pos (by unfold InB; omega), if_pos (fits56 (by simp; omega))]
        refine ⟨_, rfl, ?_⟩
        refine ⟨same.v0, same.v1, same.j0, same.j1.sub fun k hk => ?_, same.now0, same.now1, same.s0, same.s1, same.w0, ?_, same.o0, same.o1, same.d0, same.d1⟩
        · rcases List.mem_append.1 hk with hk | hk
          · rw [List.nil_append] at hk
            exact List.mem_of_mem_take hk
          · exact List.mem_of_mem_drop (List.mem_of_mem_take hk)
        · refine Nat.le_trans (Nat.le_of_eq List.length_append) ?_
          simp; omega
      · rw [if_neg (by simpa using hw)]
        exact ⟨_, rfl, same⟩
    rw [if_neg k4]
    by_cases k5 : (K == 4) = true
    · rw [if_pos k5]
      have he : w64 (s.p.2.Epoch + 1) = s.p.2.Epoch + 1 := w64_id (by have := h.v1.e0; have := h.v1.e1; omega)
      rw [he]
      obtain ⟨r, hr, hr0⟩ := new_w (s.p.2.Epoch + 1)
      rw [hr, Option.bind_some]
      by_cases hz : r.2 = 0
      · obtain ⟨e1, e2⟩ := hr0 hz
        rw [if_pos (by simpa using hz), e1]
        refine ⟨_, rfl, ?_⟩
        exact ⟨same.v0, new_vs e2, same.j0.restarted (by omega), same.j1.restart h.v0 _, same.now0, same.now1, same.s0, by show (-1 : Int) ≤ s.now; omega, same.w0, same.w1, same.o0, Nat.zero_le _, same.d0, Nat.zero_le _⟩
      · rw [if_neg (by simpa using hz)]
        exact ⟨_, rfl, same⟩
    rw [if_neg k5]
    exact ⟨_, rfl, same⟩
end Go.Proofs.Ytomjphpnpcgacaa
/-
  The law WindowDelivers: what is dz is what was oz, in its order.
-/
namespace Go.Proofs.Ytomjphpnpcgacaa
open Go.Rv
set_option linter.unusedVariables false
set_option linter.unusedSimpArgs false

theorem or_t (a b : Bool) : (if a = true then some true else some b) = some (a || b) := by cases a <;> rfl

theorem good_same {A B : Pe} {off del : List (List UInt8)} (h : Good A B off del) (hl : del.length ≤ 300) :
    decide ((del.length : Int) > (off.length : Int)) = false ∧ InB (del.length : Int) off.length ∧ r12_SameMessages del (off.take ((del.length : Int)).toNat) = some true := by
  obtain ⟨n, _, h2, h3, _, _⟩ := h
  have hn : del.length = n := by rw [h3, List.length_take]; omega
  refine ⟨by simp; omega, by unfold InB; omega, ?_⟩
  rw [Int.toNat_natCast, hn, ← h3]
  exact msgs_same del hl

theorem right_ok' {s : PairS} (h0 : s.p.1.Other = s.p.2.Epoch → s.p.2.Other = s.p.1.Epoch → Good s.p.1 s.p.2 s.oz.2 s.dz.1) (h1 : s.p.2.Other = s.p.1.Epoch → s.p.1.Other = s.p.2.Epoch → Good s.p.2 s.p.1 s.oz.1 s.dz.2)
    (hm : s.oz.1.length ≤ 300) (hm' : s.oz.2.length ≤ 300) : ∃ r, law12_pair_right s = some r ∧ r.1 = true ∧ r.2.1 = s := by
  have lenG : ∀ {A B : Pe} {off del : List (List UInt8)}, Good A B off del → del.length ≤ off.length := by
    intro A B off del ⟨n, _, h2, h3, _, _⟩
    rw [h3, List.length_take]; omega
  unfold law12_pair_right
  simp only [or_t, Option.bind_some]
  cases c0 : (s.p.1.Other != s.p.2.Epoch || s.p.2.Other != s.p.1.Epoch)
  case true =>
    have c1 : (s.p.2.Other != s.p.1.Epoch || s.p.1.Other != s.p.2.Epoch) = true := by rw [Bool.or_comm]; exact c0
    rw [c1]
    exact ⟨_, rfl, rfl, rfl⟩
  case false =>
    have c1 : (s.p.2.Other != s.p.1.Epoch || s.p.1.Other != s.p.2.Epoch) = false := by rw [Bool.or_comm]; exact c0
    rw [c1]
    simp only [Bool.or_eq_false_iff, bne_eq_false_iff_eq] at c0
    have g0 := h0 c0.1 c0.2
    have g1 := h1 c0.2 c0.1
    obtain ⟨a1, a2, a3⟩ := good_same g0 (by have := lenG g0; omega)
    obtain ⟨b1, b2, b3⟩ := good_same g1 (by have := lenG g1; omega)
    simp only [lt1, a1, b1, Bool.false_eq_true, if_false, if_pos a2, if_pos b2, a3, b3, Option.bind_some, Bool.not_true]
    exact ⟨_, rfl, rfl, rfl⟩

theorem right_ok {m : Nat} {s : PairS} (h : Inv m s) (hm : m ≤ 300) : ∃ r, law12_pair_right s = some r ∧ r.1 = true ∧ r.2.1 = s :=
  right_ok' (fun a b => (h.j0.rcv a).1 b) (fun a b => (h.j1.rcv a).1 b) (by have := h.o0; omega) (by have := h.o1; omega)

abbrev VT := Int × Int × Int × Int × List (List UInt8) × Int × List Pk × Int × Int × Int × Int × List (List UInt8) × Int × List Pk × Int × Int × Int × List Pk × List Pk × List (List UInt8) × List (List UInt8) × List (List UInt8) × List (List UInt8)
def ofS (i : Int) (s : PairS) : VT := (i, s.p.1.Epoch, s.p.1.Other, s.p.1.First, s.p.1.Queue, s.p.1.Next, s.p.1.Early, s.p.1.SentAt, s.p.2.Epoch, s.p.2.Other, s.p.2.First, s.p.2.Queue, s.p.2.Next, s.p.2.Early, s.p.2.SentAt, s.now, s.resets, s.way.1, s.way.2, s.oz.1, s.oz.2, s.dz.1, s.dz.2)

theorem begin_eq : ∃ r, law12_begin = some r ∧ r.2 = true ∧ Inv 0 r.1 ∧ r.1.way = ([], []) ∧ r.1.oz = ([], []) ∧ r.1.dz = ([], []) := by
  have hb : window_New 0 = some (newS 0, 0) := by
    unfold window_New
    simp only [between_eq, Option.bind_some]
    rfl
  have hj : J (newS 0) (newS 0) [] [] [] := by
    refine ⟨fun k hk => (by cases hk), by simp [newS], ⟨0, rfl, Nat.le_refl _, rfl⟩, fun hh => absurd hh (by simp [newS])⟩
  have hv : VS (newS 0) := new_vs (by omega)
  unfold law12_begin
  rw [hb]
  exact ⟨_, rfl, rfl, ⟨hv, hv, hj, hj, Int.le_refl _, Int.le_refl _, by show (-1 : Int) ≤ 0; omega, by show (-1 : Int) ≤ 0; omega, Nat.zero_le _, Nat.zero_le _, Nat.le_refl _, Nat.le_refl _, Nat.le_refl _, Nat.le_refl _⟩, rfl, rfl, rfl⟩

theorem deliver_step (script : List Aq) (k : Nat) (s : PairS) (hk : k ≤ 150) (h : Inv k s) :
    (∃ s', law12_WindowDelivers_b1 script (k : Int) s.p.1.Epoch s.p.1.Other s.p.1.First s.p.1.Queue s.p.1.Next s.p.1.Early s.p.1.SentAt s.p.2.Epoch s.p.2.Other s.p.2.First s.p.2.Queue s.p.2.Next s.p.2.Early s.p.2.SentAt s.now s.resets s.way.1 s.way.2 s.oz.1 s.oz.2 s.dz.1 s.dz.2 = some (.inl (ofS ((k + 1 : Nat) : Int) s')) ∧ k < 150 ∧ Inv (k + 1) s') ∨
    (∃ x, law12_WindowDelivers_b1 script (k : Int) s.p.1.Epoch s.p.1.Other s.p.1.First s.p.1.Queue s.p.1.Next s.p.1.Early s.p.1.SentAt s.p.2.Epoch s.p.2.Other s.p.2.First s.p.2.Queue s.p.2.Next s.p.2.Early s.p.2.SentAt s.now s.resets s.way.1 s.way.2 s.oz.1 s.oz.2 s.dz.1 s.dz.2 = some (.inr x) ∧ (x = .inl () ∨ x = .inr (.inr true))) := by
  unfold law12_WindowDelivers_b1
  by_cases hc : k < script.length ∧ k < 150
  case neg =>
    refine .inr ⟨.inl (), ?_, .inl rfl⟩
    by_cases h1 : k < script.length
    · have h2 : ¬ (k < 150) := fun e => hc ⟨h1, e⟩
      rw [if_pos (by simp; omega), Option.bind_some, if_neg (by simp; omega)]
    · rw [if_neg (by simp; omega), Option.bind_some, if_neg (by simp)]
  rw [if_pos (by simp; omega), Option.bind_some, if_pos (by simp; omega), if_pos (by unfold InR; omega)]
  simp only [lt1]
  by_cases hd : decide (((nth script ((k : Int)).toNat).Data.length : Int) > 100) = true
  · rw [if_pos hd]
    exact .inr ⟨_, rfl, .inr rfl⟩
  rw [if_neg hd, if_pos (by unfold InR; omega)]
  obtain ⟨r, hr, hi⟩ := act_ok h (by omega) (nth script ((k : Int)).toNat)
  obtain ⟨q, hq, q1, q2⟩ := right_ok hi (by omega)
  refine .inl ⟨r.1, ?_, hc.2, hi⟩
  have hr' : law12_pair_act (({ p := (({ Epoch := s.p.1.Epoch, Other := s.p.1.Other, First := s.p.1.First, Queue := s.p.1.Queue, Next := s.p.1.Next, Early := s.p.1.Early, SentAt := s.p.1.SentAt } : Pe), ({ Epoch := s.p.2.Epoch, Other := s.p.2.Other, First := s.p.2.First, Queue := s.p.2.Queue, Next := s.p.2.Next, Early := s.p.2.Early, SentAt := s.p.2.SentAt } : Pe)), way := (s.way.1, s.way.2), oz := (s.oz.1, s.oz.2), dz := (s.dz.1, s.dz.2), now := s.now, resets := s.resets } : Pq)) (nth script ((k : Int)).toNat) = some r := hr
  have hq' : law12_pair_right (({ p := (r.1.p.1, r.1.p.2), way := (r.1.way.1, r.1.way.2), oz := (r.1.oz.1, r.1.oz.2), dz := (r.1.dz.1, r.1.dz.2), now := r.1.now, resets := r.1.resets } : Pq)) = some q := hq
  rw [hr', Option.bind_some, hq', Option.bind_some, q1, q2, w64_one (by omega), if_neg (by simp)]
  rfl

theorem law_delivers (script : List Aq) : law12_WindowDelivers script = some true := by
  unfold law12_WindowDelivers
  obtain ⟨r, hr, r1, r2, r3, r4, r5⟩ := begin_eq
  rw [hr, Option.bind_some, sane_ok, Option.bind_some, if_neg (by simp), Option.bind_some, r1, if_neg (by simp)]
  have key : ∃ x, loopO (fun (v : VT) => law12_WindowDelivers_b1 script v.1 v.2.1 v.2.2.1 v.2.2.2.1 v.2.2.2.2.1 v.2.2.2.2.2.1 v.2.2.2.2.2.2.1 v.2.2.2.2.2.2.2.1 v.2.2.2.2.2.2.2.2.1 v.2.2.2.2.2.2.2.2.2.1 v.2.2.2.2.2.2.2.2.2.2.1 v.2.2.2.2.2.2.2.2.2.2.2.1 v.2.2.2.2.2.2.2.2.2.2.2.2.1 v.2.2.2.2.2.2.2.2.2.2.2.2.2.1 v.2.2.2.2.2.2.2.2.2.2.2.2.2.2.1 v.2.2.2.2.2.2.2.2.2.2.2.2.2.2.2.1 v.2.2.2.2.2.2.2.2.2.2.2.2.2.2.2.2.1 v.2.2.2.2.2.2.2.2.2.2.2.2.2.2.2.2.2.1 v.2.2.2.2.2.2.2.2.2.2.2.2.2.2.2.2.2.2.1 v.2.2.2.2.2.2.2.2.2.2.2.2.2.2.2.2.2.2.2.1 v.2.2.2.2.2.2.2.2.2.2.2.2.2.2.2.2.2.2.2.2.1 v.2.2.2.2.2.2.2.2.2.2.2.2.2.2.2.2.2.2.2.2.2.1 v.2.2.2.2.2.2.2.2.2.2.2.2.2.2.2.2.2.2.2.2.2.2) (ofS 0 r.1) = some x ∧ (x = .inl () ∨ x = .inr (.inr true)) := by
    refine loopO_rule (fun v => ∃ (k : Nat) (s : PairS), v = ofS (k : Int) s ∧ k ≤ 150 ∧ Inv k s) (fun v => (150 - v.1).toNat) _ ?_ ⟨0, r.1, rfl, Nat.zero_le _, r2⟩ (by show ((150 : Int) - 0).toNat < _; omega)
    rintro v ⟨k, s, rfl, hk, hi⟩
    rcases deliver_step script k s hk hi with ⟨s', e1, e2, e3⟩ | ⟨x, e1, e2⟩
    · refine .inl ⟨_, e1, ⟨k + 1, s', rfl, by omega, e3⟩, ?_⟩
      show ((150 : Int) - ((k + 1 : Nat) : Int)).toNat < ((150 : Int) - (k : Int)).toNat
      omega
    · exact .inr ⟨x, e1, e2⟩
  obtain ⟨x, hx, hxx⟩ := key
  have e : ofS 0 r.1 = (0, r.1.p.1.Epoch, r.1.p.1.Other, r.1.p.1.First, r.1.p.1.Queue, r.1.p.1.Next, r.1.p.1.Early, r.1.p.1.SentAt, r.1.p.2.Epoch, r.1.p.2.Other, r.1.p.2.First, r.1.p.2.Queue, r.1.p.2.Next, r.1.p.2.Early, r.1.p.2.SentAt, r.1.now, r.1.resets, [], [], [], [], [], []) := by
    unfold ofS; rw [r3, r4, r5]
  rw [e] at hx
  rw [hx, Option.bind_some]
  rcases hxx with rfl | rfl <;> rfl
end Go.Proofs.Ytomjphpnpcgacaa
/-
  What a run of packets makes of one side.
-/
namespace Go.Proofs.Ytomjphpnpcgacaa
open Go.Rv
set_option linter.unusedVariables false
set_option linter.unusedSimpArgs false

theorem acc_vs {p : Pe} {k : Pk} (h : VS p) : VS (accS p k).1 := by
  unfold accS
  by_cases ho : okA p k = true
  case neg => rw [if_neg ho]; exact h
  rw [if_pos ho]
  have hv : vPk k = true := by
    unfold okA at ho
    simp only [Bool.and_eq_true] at ho
    exact ho.1.1
  have hk := vk_of hv
  have h0 := reset_vs h (vk_e hv)
  show VS (stepS (resetS p k) k).1
  unfold stepS
  split
  · exact del_vs (keep_vs (ack_vs h0 hk) hk) hk
  · exact h0

theorem ackS_f (p : Pe) (k : Pk) : (ackS p k).Other = p.Other ∧ (ackS p k).Epoch = p.Epoch ∧ (ackS p k).Next = p.Next := by unfold ackS; split <;> exact ⟨rfl, rfl, rfl⟩
theorem keepS_f (p : Pe) (k : Pk) : (keepS p k).Other = p.Other ∧ (keepS p k).Epoch = p.Epoch ∧ (keepS p k).Next = p.Next ∧ (keepS p k).First = p.First ∧ (keepS p k).Queue = p.Queue := by unfold keepS; split <;> exact ⟨rfl, rfl, rfl, rfl, rfl⟩
theorem delS_f (p : Pe) (k : Pk) : (delS p k).1.Other = p.Other ∧ (delS p k).1.Epoch = p.Epoch ∧ (delS p k).1.First = p.First ∧ (delS p k).1.Queue = p.Queue ∧ p.Next ≤ (delS p k).1.Next ∧ (k.Seq ≤ p.Next → k.Seq + 1 ≤ (delS p k).1.Next) := by
  unfold delS
  by_cases hc : k.Seq = p.Next
  · rw [if_pos hc]
    have := runS_ge p.Early (p.Next + 1)
    exact ⟨rfl, rfl, rfl, rfl, by show p.Next ≤ (runS (p.Next + 1) p.Early).1; omega, fun _ => by show _ ≤ (runS (p.Next + 1) p.Early).1; omega⟩
  · rw [if_neg hc]
    exact ⟨rfl, rfl, rfl, rfl, Int.le_refl _, fun h => by show _ ≤ p.Next; omega⟩

theorem okA_of {A : Pe} {k : Pk} (hv : VS A) (hk : vPk k = true) (he : A.Other ≤ k.Epoch) : okA A k = true := by
  unfold okA
  rw [hk, hv.valid]
  simp; omega

theorem acc_other {A : Pe} {k : Pk} (hv : VS A) (hk : vPk k = true) (he : A.Other ≤ k.Epoch) : (accS A k).1.Other = k.Epoch ∧ (accS A k).1.Epoch = A.Epoch := by
  have h0 : (resetS A k).Other = k.Epoch ∧ (resetS A k).Epoch = A.Epoch := by
    unfold resetS
    split
    · exact ⟨rfl, rfl⟩
    · exact ⟨by omega, rfl⟩
  unfold accS
  rw [if_pos (okA_of hv hk he)]
  show (stepS (resetS A k) k).1.Other = _ ∧ (stepS (resetS A k) k).1.Epoch = _
  generalize resetS A k = q at h0
  unfold stepS
  split
  · obtain ⟨a1, a2, a3⟩ := ackS_f q k
    obtain ⟨b1, b2, b3, b4, b5⟩ := keepS_f (ackS q k) k
    obtain ⟨c1, c2, c3, c4, c5, c6⟩ := delS_f (keepS (ackS q k) k) k
    rw [c1, c2, b1, b2, a1, a2]; exact h0
  · exact h0

/-- A packet of a session that both sides know. -/
theorem acc_mut {A : Pe} {k : Pk} (hv : VS A) (hk : vPk k = true) (he : k.Epoch = A.Other) (ht : k.To = A.Epoch) (h1 : A.First ≤ k.Ack) (h2 : k.Ack ≤ A.First + (A.Queue.length : Int)) :
    (accS A k).2.2 = false ∧ (accS A k).1.Other = A.Other ∧ (accS A k).1.Epoch = A.Epoch ∧ (accS A k).1.First = k.Ack ∧ (accS A k).1.First + ((accS A k).1.Queue.length : Int) = A.First + (A.Queue.length : Int) ∧ A.Next ≤ (accS A k).1.Next ∧ (k.Seq ≤ A.Next → k.Seq + 1 ≤ (accS A k).1.Next) := by
  have h0 : resetS A k = A := by unfold resetS; rw [if_neg (by omega)]
  have hf : (ackS A k).First = k.Ack ∧ (ackS A k).First + ((ackS A k).Queue.length : Int) = A.First + (A.Queue.length : Int) := by
    unfold ackS
    by_cases hc : A.First < k.Ack ∧ k.Ack ≤ A.First + (A.Queue.length : Int)
    · rw [if_pos hc]
      refine ⟨rfl, ?_⟩
      show k.Ack + ((A.Queue.drop (k.Ack - A.First).toNat).length : Int) = _
      rw [List.length_drop]; omega
    · rw [if_neg hc]
      exact ⟨by omega, rfl⟩
  unfold accS
  rw [if_pos (okA_of hv hk (by omega)), h0]
  have e : stepS A k = delS (keepS (ackS A k) k) k := by unfold stepS; rw [if_pos ht]
  rw [e]
  obtain ⟨a1, a2, a3⟩ := ackS_f A k
  obtain ⟨b1, b2, b3, b4, b5⟩ := keepS_f (ackS A k) k
  obtain ⟨c1, c2, c3, c4, c5, c6⟩ := delS_f (keepS (ackS A k) k) k
  rw [b3, a3] at c5 c6
  refine ⟨by simp; omega, by show (delS _ k).1.Other = _; rw [c1, b1, a1], by show (delS _ k).1.Epoch = _; rw [c2, b2, a2], by show (delS _ k).1.First = _; rw [c3, b4, hf.1], ?_, c5, c6⟩
  show (delS (keepS (ackS A k) k) k).1.First + ((delS (keepS (ackS A k) k) k).1.Queue.length : Int) = _
  rw [c3, c4, b4, b5, hf.2]

def foldA (A : Pe) (ks : List Pk) : Pe := ks.foldl (fun a k => (accS a k).1) A
theorem foldA_vs : ∀ (ks : List Pk) {A : Pe}, VS A → VS (foldA A ks)
  | [], A, h => h
  | k :: r, A, h => foldA_vs r (acc_vs (k := k) h)

theorem foldA_other {e : Int} : ∀ (ks : List Pk) {A : Pe}, VS A → (∀ k ∈ ks, vPk k = true ∧ k.Epoch = e) → A.Other ≤ e → (foldA A ks).Epoch = A.Epoch ∧ (foldA A ks).Other ≤ e ∧ (ks ≠ [] → (foldA A ks).Other = e)
  | [], A, h, _, ho => ⟨rfl, ho, fun hh => absurd rfl hh⟩
  | k :: r, A, h, hk, ho => by
    obtain ⟨q1, q2⟩ := hk k (by simp)
    obtain ⟨a1, a2⟩ := acc_other h q1 (by omega)
    obtain ⟨b1, b2, b3⟩ := foldA_other r (acc_vs (k := k) h) (fun k' h' => hk k' (by simp [h'])) (by omega)
    have e1 : foldA A (k :: r) = foldA (accS A k).1 r := rfl
    rw [e1]
    refine ⟨by rw [b1, a2], b2, fun _ => ?_⟩
    cases r with
    | nil => show (accS A k).1.Other = e; omega
    | cons x y => exact b3 (by simp)

theorem foldA_mut {c : Int} : ∀ (ks : List Pk) {A : Pe}, VS A → (∀ k ∈ ks, vPk k = true ∧ k.Epoch = A.Other ∧ k.To = A.Epoch ∧ k.Ack = c) → A.First ≤ c → c ≤ A.First + (A.Queue.length : Int) →
    (foldA A ks).Epoch = A.Epoch ∧ (foldA A ks).Other = A.Other ∧ (ks ≠ [] → (foldA A ks).First = c) ∧ (foldA A ks).First + ((foldA A ks).Queue.length : Int) = A.First + (A.Queue.length : Int) ∧ A.Next ≤ (foldA A ks).Next ∧
    ∀ f : Int, f ≤ A.Next → (∀ i, i < ks.length → (nth ks i).Seq = f + (i : Int)) → f + (ks.length : Int) ≤ (foldA A ks).Next
  | [], A, h, _, h1, h2 => ⟨rfl, rfl, fun hh => absurd rfl hh, rfl, Int.le_refl _, fun f hf _ => by show f + (0 : Int) ≤ A.Next; omega⟩
  | k :: r, A, h, hk, h1, h2 => by
    obtain ⟨q1, q2, q3, q4⟩ := hk k (by simp)
    obtain ⟨a1, a2, a3, a4, a5, a6, a7⟩ := acc_mut h q1 q2 q3 (by omega) (by omega)
    obtain ⟨b1, b2, b3, b4, b5, b6⟩ := foldA_mut (c := c) r (acc_vs (k := k) h) (fun k' h' => by rw [a2, a3]; exact hk k' (by simp [h'])) (by omega) (by omega)
    have e1 : foldA A (k :: r) = foldA (accS A k).1 r := rfl
    rw [e1]
    refine ⟨by rw [b1, a3], by rw [b2, a2], fun _ => ?_, by rw [b4, a5], by omega, fun f hf hi => ?_⟩
    · cases r with
      | nil => show (accS A k).1.First = c; omega
      | cons x y => exact b3 (by simp)
    · have e0 : k.Seq = f + ((0 : Nat) : Int) := hi 0 (by simp)
      have := b6 (f + 1) (by have := a7 (by omega); omega) (fun i h' => by
        have := hi (i + 1) (by simp; omega)
        have e2 : nth (k :: r) (i + 1) = nth r i := by unfold nth; simp
        rw [e2] at this
        omega)
      rw [List.length_cons]; omega

theorem msgs_same' (l : List (List UInt8)) (h : l.length ≤ 1000000) : r12_SameMessages l l = some true := by
  unfold r12_SameMessages
  rw [if_neg (by simp), all_loop (v := false) (f := fun i => r12_SameMessages_b1 l l i) l.length (fun _ => true) (by omega) (fun k hk => by
    show r12_SameMessages_b1 l l (k : Int) = _
    unfold r12_SameMessages_b1
    rw [if_pos (by simp; omega), if_pos (inR_of hk), if_pos (inR_of hk), if_neg (by simp), w64_one (by omega)]
    rfl) (by
    show r12_SameMessages_b1 l l (l.length : Int) = _
    unfold r12_SameMessages_b1
    rw [if_neg (by simp)])]
  rw [if_pos (by simp)]
  rfl

/-! ### What a side emits -/
theorem emit_f (B : Pe) (now : Int) : (emitS B now).1.Epoch = B.Epoch ∧ (emitS B now).1.Other = B.Other ∧ (emitS B now).1.First = B.First ∧ (emitS B now).1.Queue = B.Queue ∧ (emitS B now).1.Next = B.Next := by
  unfold emitS; split <;> exact ⟨rfl, rfl, rfl, rfl, rfl⟩

theorem emit_ks {B : Pe} (h : VS B) (now : Int) : ∀ k ∈ (emitS B now).2, vPk k = true ∧ k.Epoch = B.Epoch ∧ k.To = B.Other ∧ k.Ack = B.Next := by
  have e0 := h.e0; have e1 := h.e1; have n0 := h.n0; have n1 := h.n1; have f0 := h.f0; have fq := h.fq
  intro k hk
  unfold emitS at hk
  split at hk
  · rw [List.mem_singleton] at hk
    subst hk
    refine ⟨?_, rfl, rfl, rfl⟩
    unfold vPk bt headP
    simp; omega
  · rw [List.mem_map] at hk
    obtain ⟨i, hi, rfl⟩ := hk
    rw [List.mem_range] at hi
    have hq : i < B.Queue.length := by omega
    have hd := h.qd _ (nth_mem hq)
    refine ⟨?_, rfl, rfl, rfl⟩
    unfold vPk bt pk
    rw [w64_id (by omega)]
    simp; omega

theorem emit_due {B : Pe} (h : VS B) {now : Int} (h0 : B.Queue.length ≠ 0) (hd : dueS B now) : (emitS B now).2.length = min 16 B.Queue.length ∧ ∀ i, i < (emitS B now).2.length → (nth (emitS B now).2 i).Seq = B.First + (i : Int) := by
  have f0 := h.f0; have fq := h.fq
  have e : (emitS B now).2 = (List.range (min 16 B.Queue.length)).map (pk B) := by
    unfold emitS
    rw [if_neg (by intro hh; rcases hh with hh | hh; exact h0 hh; exact hh hd)]
  rw [e]
  refine ⟨by simp, fun i hi => ?_⟩
  rw [List.length_map, List.length_range] at hi
  have e2 : nth ((List.range (min 16 B.Queue.length)).map (pk B)) i = pk B i := by
    unfold nth
    rw [List.getD_eq_getElem?_getD, List.getElem?_map, List.getElem?_range hi]
    rfl
  rw [e2]
  show w64 (B.First + (i : Int)) = _
  rw [w64_id (by omega)]
end Go.Proofs.Ytomjphpnpcgacaa
/-
  Both sides emit, and all of it arrives.
-/
namespace Go.Proofs.Ytomjphpnpcgacaa
open Go.Rv
set_option linter.unusedVariables false
set_option linter.unusedSimpArgs false

def fold0 (s : PairS) (ks : List Pk) : PairS := ks.foldl ac0 s
def fold1 (s : PairS) (ks : List Pk) : PairS := ks.foldl ac1 s

theorem fold0_eq : ∀ (ks : List Pk) (s : PairS), (fold0 s ks).p = (foldA s.p.1 ks, s.p.2) ∧ (fold0 s ks).way = s.way ∧ (fold0 s ks).now = s.now ∧ (fold0 s ks).oz.2 = s.oz.2 ∧ (fold0 s ks).dz.2 = s.dz.2
  | [], s => ⟨rfl, rfl, rfl, rfl, rfl⟩
  | k :: r, s => by
    have e : fold0 s (k :: r) = fold0 (ac0 s k) r := rfl
    rw [e]
    exact fold0_eq r (ac0 s k)
theorem fold1_eq : ∀ (ks : List Pk) (s : PairS), (fold1 s ks).p = (s.p.1, foldA s.p.2 ks) ∧ (fold1 s ks).way = s.way ∧ (fold1 s ks).now = s.now ∧ (fold1 s ks).oz.1 = s.oz.1 ∧ (fold1 s ks).dz.1 = s.dz.1
  | [], s => ⟨rfl, rfl, rfl, rfl, rfl⟩
  | k :: r, s => by
    have e : fold1 s (k :: r) = fold1 (ac1 s k) r := rfl
    rw [e]
    exact fold1_eq r (ac1 s k)

theorem fold0_inv : ∀ (ks : List Pk) {s : PairS} {m : Nat}, Inv m s → (∀ k ∈ ks, k ∈ s.way.1) → Inv (m + ks.length) (fold0 s ks)
  | [], s, m, h, _ => h
  | k :: r, s, m, h, hk => by
    have := fold0_inv r (inv_ac0 h (hk k (by simp))) (fun k' h' => hk k' (by simp [h']))
    rw [List.length_cons, show m + (r.length + 1) = m + 1 + r.length by omega]
    exact this
theorem fold1_inv : ∀ (ks : List Pk) {s : PairS} {m : Nat}, Inv m s → (∀ k ∈ ks, k ∈ s.way.2) → Inv (m + ks.length) (fold1 s ks)
  | [], s, m, h, _ => h
  | k :: r, s, m, h, hk => by
    have := fold1_inv r (inv_ac1 h (hk k (by simp))) (fun k' h' => hk k' (by simp [h']))
    rw [List.length_cons, show m + (r.length + 1) = m + 1 + r.length by omega]
    exact this

theorem fold0_still : ∀ (ks : List Pk) {s : PairS}, VS s.p.1 → (∀ k ∈ ks, vPk k = true ∧ k.Epoch = s.p.1.Other) → (fold0 s ks).resets = s.resets ∧ (fold0 s ks).oz.1 = s.oz.1
  | [], s, _, _ => ⟨rfl, rfl⟩
  | k :: r, s, h, hk => by
    obtain ⟨q1, q2⟩ := hk k (by simp)
    have hf : (accS s.p.1 k).2.2 = false := by unfold accS; split <;> simp; omega
    obtain ⟨a1, a2⟩ := acc_other h q1 (by omega)
    obtain ⟨b1, b2⟩ := fold0_still r (s := ac0 s k) (acc_vs h) (fun k' h' => ⟨(hk k' (by simp [h'])).1, by show _ = (accS s.p.1 k).1.Other; rw [a1, q2]; exact (hk k' (by simp [h'])).2⟩)
    have e : fold0 s (k :: r) = fold0 (ac0 s k) r := rfl
    rw [e, b1, b2]
    unfold ac0
    rw [hf]
    exact ⟨rfl, rfl⟩
theorem fold1_still : ∀ (ks : List Pk) {s : PairS}, VS s.p.2 → (∀ k ∈ ks, vPk k = true ∧ k.Epoch = s.p.2.Other) → (fold1 s ks).resets = s.resets ∧ (fold1 s ks).oz.2 = s.oz.2
  | [], s, _, _ => ⟨rfl, rfl⟩
  | k :: r, s, h, hk => by
    obtain ⟨q1, q2⟩ := hk k (by simp)
    have hf : (accS s.p.2 k).2.2 = false := by unfold accS; split <;> simp; omega
    obtain ⟨a1, a2⟩ := acc_other h q1 (by omega)
    obtain ⟨b1, b2⟩ := fold1_still r (s := ac1 s k) (acc_vs h) (fun k' h' => ⟨(hk k' (by simp [h'])).1, by show _ = (accS s.p.2 k).1.Other; rw [a1, q2]; exact (hk k' (by simp [h'])).2⟩)
    have e : fold1 s (k :: r) = fold1 (ac1 s k) r := rfl
    rw [e, b1, b2]
    unfold ac1
    rw [hf]
    exact ⟨rfl, rfl⟩

/-- The clock goes on by ten. -/
def tick (s : PairS) : PairS := { s with now := s.now + 10 }
theorem inv_tick {m : Nat} {s : PairS} (h : Inv m s) : Inv (m + 1) (tick s) := by
  have := h.now0; have := h.now1; have := h.s0; have := h.s1; have := h.o0; have := h.o1; have := h.d0; have := h.d1
  exact ⟨h.v0, h.v1, h.j0, h.j1, by show 0 ≤ s.now + 10; omega, by show s.now + 10 ≤ _; omega, by show s.p.1.SentAt ≤ s.now + 10; omega, by show s.p.2.SentAt ≤ s.now + 10; omega, h.w0, h.w1, by show s.oz.1.length ≤ _; omega, by show s.oz.2.length ≤ _; omega, by show s.dz.1.length ≤ _; omega, by show s.dz.2.length ≤ _; omega⟩

theorem tailW_new (w l : List Pk) (h : l.length ≤ 200) : ∀ k ∈ l, k ∈ tailW (w ++ l) := by
  intro k hk
  unfold tailW
  split
  · rename_i hl
    rw [List.length_append] at hl ⊢
    rw [List.drop_append_of_le_length (by omega)]
    exact List.mem_append.2 (.inr hk)
  · exact List.mem_append.2 (.inr hk)

def ls (s : PairS) : List Pk := (emitS s.p.1 (s.now + 10)).2
def ms (s : PairS) : List Pk := (emitS s.p.2 (s.now + 10)).2
def sent (s : PairS) : PairS := em1 (em0 (tick s))
def swS (s : PairS) : PairS := fold0 (fold1 (sent s) (ls s)) (ms s)

theorem sent_inv {m : Nat} {s : PairS} (h : Inv m s) (hm : m ≤ 8000) : Inv (m + 1) (sent s) := inv_em1 (inv_em0 (inv_tick h) (by omega)) (by omega)
theorem ls_in (s : PairS) : ∀ k ∈ ls s, k ∈ (sent s).way.2 := by
  intro k hk
  exact tailW_new s.way.2 (ls s) (by have := (emit_len s.p.1 (s.now + 10)).1; unfold ls; omega) k hk
theorem ms_in (s : PairS) : ∀ k ∈ ms s, k ∈ (fold1 (sent s) (ls s)).way.1 := by
  intro k hk
  rw [(fold1_eq _ _).2.1]
  exact tailW_new s.way.1 (ms s) (by have := (emit_len s.p.2 (s.now + 10)).1; unfold ms; omega) k hk

theorem swap_inv {m : Nat} {s : PairS} (h : Inv m s) (hm : m ≤ 8000) : Inv (m + 33) (swS s) := by
  have h1 := fold1_inv (ls s) (sent_inv h hm) (ls_in s)
  have h2 := fold0_inv (ms s) h1 (ms_in s)
  have := (emit_len s.p.1 (s.now + 10)).1; have := (emit_len s.p.2 (s.now + 10)).1
  exact h2.more (by unfold ls ms; omega)

theorem swap_p (s : PairS) : (swS s).p = (foldA (emitS s.p.1 (s.now + 10)).1 (ms s), foldA (emitS s.p.2 (s.now + 10)).1 (ls s)) := by
  unfold swS
  rw [(fold0_eq _ _).1, (fold1_eq _ _).1]
  rfl

def Mut (s : PairS) : Prop := s.p.1.Other = s.p.2.Epoch ∧ s.p.2.Other = s.p.1.Epoch

theorem ne_of_len {α : Type} {l : List α} (h : 1 ≤ l.length) : l ≠ [] := by intro e; rw [e] at h; simp at h

/-- After an exchange both sides know each other. -/
theorem swap_mut {m : Nat} {s : PairS} (h : Inv m s) (hm : m ≤ 8000) : Mut (swS s) := by
  have hn0 := h.now0; have hn1 := h.now1
  unfold Mut
  rw [swap_p]
  obtain ⟨a1, a2, a3, a4, a5⟩ := emit_f s.p.1 (s.now + 10)
  obtain ⟨b1, b2, b3, b4, b5⟩ := emit_f s.p.2 (s.now + 10)
  have v0 : VS (emitS s.p.1 (s.now + 10)).1 := emit_vs h.v0 (by omega)
  have v1 : VS (emitS s.p.2 (s.now + 10)).1 := emit_vs h.v1 (by omega)
  obtain ⟨c1, c2, c3⟩ := foldA_other (e := s.p.2.Epoch) (ms s) v0 (fun k hk => by have := emit_ks h.v1 (s.now + 10) k hk; exact ⟨this.1, this.2.1⟩) (by rw [a2]; exact h.j0.oth)
  obtain ⟨d1, d2, d3⟩ := foldA_other (e := s.p.1.Epoch) (ls s) v1 (fun k hk => by have := emit_ks h.v0 (s.now + 10) k hk; exact ⟨this.1, this.2.1⟩) (by rw [b2]; exact h.j1.oth)
  have l1 := ne_of_len (emit_len s.p.1 (s.now + 10)).2
  have l2 := ne_of_len (emit_len s.p.2 (s.now + 10)).2
  exact ⟨by show (foldA _ (ms s)).Other = (foldA _ (ls s)).Epoch; rw [c3 l2, d1, b1], by show (foldA _ (ls s)).Other = (foldA _ (ms s)).Epoch; rw [d3 l1, c1, a1]⟩

/-- What an exchange brings to side A from side B. -/
theorem recv_go {A B : Pe} {off del off' del' : List (List UInt8)} {w w' : List Pk} {now : Int} (hA : VS A) (hB : VS B) (hn : 0 ≤ now ∧ now + 10 ≤ 1073741824) (hj : J A B w off del) (hj' : J B A w' off' del') (hAB : A.Other = B.Epoch) (hBA : B.Other = A.Epoch) (hs : B.SentAt ≤ now) :
    (foldA (emitS A (now + 10)).1 (emitS B (now + 10)).2).First = B.Next ∧ A.Next ≤ (foldA (emitS A (now + 10)).1 (emitS B (now + 10)).2).Next ∧ (B.First + 16 ≤ (foldA (emitS A (now + 10)).1 (emitS B (now + 10)).2).Next ∨ (off.length : Int) ≤ (foldA (emitS A (now + 10)).1 (emitS B (now + 10)).2).Next) := by
  obtain ⟨n, g1, g2, g3, g4, g5⟩ := (hj.rcv hAB).1 hBA
  obtain ⟨n', g1', g2', g3', g4', g5'⟩ := (hj'.rcv hBA).1 hAB
  obtain ⟨f, f1, f2, f3⟩ := hj.snd
  obtain ⟨f', f1', f2', f3'⟩ := hj'.snd
  obtain ⟨a1, a2, a3, a4, a5⟩ := emit_f A (now + 10)
  have v0 : VS (emitS A (now + 10)).1 := emit_vs hA (by omega)
  have hq : (B.Queue.length : Int) = (off.length : Int) - f := by rw [f3, List.length_drop]; omega
  have hq' : (A.Queue.length : Int) = (off'.length : Int) - f' := by rw [f3', List.length_drop]; omega
  obtain ⟨c1, c2, c3, c4, c5, c6⟩ := foldA_mut (c := B.Next) (emitS B (now + 10)).2 v0 (fun k hk => by
    obtain ⟨q1, q2, q3, q4⟩ := emit_ks hB (now + 10) k hk
    exact ⟨q1, by rw [q2, a2, hAB], by rw [q3, a1, hBA], q4⟩) (by rw [a3]; omega) (by rw [a3, a4]; omega)
  rw [a5] at c5 c6
  refine ⟨c3 (ne_of_len (emit_len B (now + 10)).2), c5, ?_⟩
  by_cases h0 : B.Queue.length = 0
  · exact .inr (by omega)
  obtain ⟨d1, d2⟩ := emit_due hB (now := now + 10) h0 (.inr (.inr (by omega)))
  have := c6 B.First (by omega) d2
  rw [d1] at this
  omega

theorem swap_go {m : Nat} {s : PairS} (h : Inv m s) (hm : m ≤ 8000) (hM : Mut s) :
    (swS s).resets = s.resets ∧ (swS s).oz = s.oz ∧ (swS s).p.1.First = s.p.2.Next ∧ (swS s).p.2.First = s.p.1.Next ∧ s.p.1.Next ≤ (swS s).p.1.Next ∧ s.p.2.Next ≤ (swS s).p.2.Next ∧
    (s.p.2.First + 16 ≤ (swS s).p.1.Next ∨ (s.oz.2.length : Int) ≤ (swS s).p.1.Next) ∧ (s.p.1.First + 16 ≤ (swS s).p.2.Next ∨ (s.oz.1.length : Int) ≤ (swS s).p.2.Next) := by
  have hn0 := h.now0; have hn1 := h.now1
  obtain ⟨x1, x2, x3⟩ := recv_go h.v0 h.v1 (now := s.now) (by omega) h.j0 h.j1 hM.1 hM.2 h.s1
  obtain ⟨y1, y2, y3⟩ := recv_go h.v1 h.v0 (now := s.now) (by omega) h.j1 h.j0 hM.2 hM.1 h.s0
  have hp := swap_p s
  obtain ⟨a1, a2, a3, a4, a5⟩ := emit_f s.p.1 (s.now + 10)
  obtain ⟨b1, b2, b3, b4, b5⟩ := emit_f s.p.2 (s.now + 10)
  have v0 : VS (emitS s.p.1 (s.now + 10)).1 := emit_vs h.v0 (by omega)
  have v1 : VS (emitS s.p.2 (s.now + 10)).1 := emit_vs h.v1 (by omega)
  obtain ⟨z1, z2⟩ := fold1_still (ls s) (s := sent s) v1 (fun k hk => by
    obtain ⟨q1, q2, _⟩ := emit_ks h.v0 (s.now + 10) k hk
    exact ⟨q1, by show _ = (emitS s.p.2 (s.now + 10)).1.Other; rw [q2, b2, hM.2]⟩)
  have e0 : (fold1 (sent s) (ls s)).p.1 = (emitS s.p.1 (s.now + 10)).1 := by rw [(fold1_eq _ _).1]; rfl
  obtain ⟨u1, u2⟩ := fold0_still (ms s) (s := fold1 (sent s) (ls s)) (by rw [e0]; exact v0) (fun k hk => by
    obtain ⟨q1, q2, _⟩ := emit_ks h.v1 (s.now + 10) k hk
    exact ⟨q1, by rw [e0, q2, a2, hM.1]⟩)
  refine ⟨by show (fold0 _ _).resets = _; rw [u1, z1]; rfl, ?_, by rw [hp]; exact x1, by rw [hp]; exact y1, by rw [hp]; exact x2, by rw [hp]; exact y2, by rw [hp]; exact x3, by rw [hp]; exact y3⟩
  have o1 : (swS s).oz.1 = s.oz.1 := by show (fold0 _ _).oz.1 = _; rw [u2, (fold1_eq _ _).2.2.2.1]; rfl
  have o2 : (swS s).oz.2 = s.oz.2 := by show (fold0 _ _).oz.2 = _; rw [(fold0_eq _ _).2.2.2.1, z2]; rfl
  exact Prod.ext o1 o2

/-! ### After i exchanges -/
def swN : Nat → PairS → PairS
  | 0, s => s
  | i + 1, s => swS (swN i s)

structure Prog (s t : PairS) (m i : Nat) : Prop where
  inv : Inv (m + 33 * i) t
  mu : Mut t
  res : t.resets = s.resets
  off : t.oz = s.oz
  f1 : s.p.1.First + 16 * ((i / 2 : Nat) : Int) ≤ t.p.1.First ∨ (s.oz.1.length : Int) ≤ t.p.1.First
  f2 : s.p.2.First + 16 * ((i / 2 : Nat) : Int) ≤ t.p.2.First ∨ (s.oz.2.length : Int) ≤ t.p.2.First
  n1 : s.p.2.First + 16 * (((i + 1) / 2 : Nat) : Int) ≤ t.p.1.Next ∨ (s.oz.2.length : Int) ≤ t.p.1.Next
  n2 : s.p.1.First + 16 * (((i + 1) / 2 : Nat) : Int) ≤ t.p.2.Next ∨ (s.oz.1.length : Int) ≤ t.p.2.Next

theorem good_of {m : Nat} {s : PairS} (h : Inv m s) (hM : Mut s) : Good s.p.1 s.p.2 s.oz.2 s.dz.1 ∧ Good s.p.2 s.p.1 s.oz.1 s.dz.2 :=
  ⟨(h.j0.rcv hM.1).1 hM.2, (h.j1.rcv hM.2).1 hM.1⟩

theorem prog_zero {m : Nat} {s : PairS} (h : Inv m s) (hM : Mut s) : Prog s s m 0 := by
  obtain ⟨⟨n, g1, g2, g3, g4, g5⟩, ⟨n', g1', g2', g3', g4', g5'⟩⟩ := good_of h hM
  exact ⟨h, hM, rfl, rfl, .inl (by simp), .inl (by simp), .inl (by simp; omega), .inl (by simp; omega)⟩

theorem prog_succ {m i : Nat} {s t : PairS} (h : Prog s t m i) (hm : m + 33 * i ≤ 8000) : Prog s (swS t) m (i + 1) := by
  obtain ⟨a1, a2, a3, a4, a5, a6, a7, a8⟩ := swap_go h.inv hm h.mu
  have ho := h.off; have hf1 := h.f1; have hf2 := h.f2; have hn1 := h.n1; have hn2 := h.n2
  rw [ho] at a7 a8
  refine ⟨by have := swap_inv h.inv hm; exact this.more (by omega), swap_mut h.inv hm, by rw [a1, h.res], by rw [a2, ho], ?_, ?_, ?_, ?_⟩
  · rw [a3]; exact hn2
  · rw [a4]; exact hn1
  · have : (i + 1 + 1) / 2 = i / 2 + 1 := by omega
    rw [this]; omega
  · have : (i + 1 + 1) / 2 = i / 2 + 1 := by omega
    rw [this]; omega

theorem prog_end {m i : Nat} {s t : PairS} (h : Prog s t m i) (h0 : Inv m s) (q : Nat) (h1 : s.p.1.Queue.length ≤ q) (h2 : s.p.2.Queue.length ≤ q) (hi : q / 16 + 1 ≤ i / 2) :
    t.p.1.Queue.length = 0 ∧ t.p.2.Queue.length = 0 ∧ t.dz.1 = t.oz.2 ∧ t.dz.2 = t.oz.1 := by
  obtain ⟨⟨n, g1, g2, g3, g4, g5⟩, ⟨n', g1', g2', g3', g4', g5'⟩⟩ := good_of h.inv h.mu
  obtain ⟨f, f1, f2, f3⟩ := h.inv.j0.snd
  obtain ⟨f', f1', f2', f3'⟩ := h.inv.j1.snd
  obtain ⟨e, e1, e2, e3⟩ := h0.j0.snd
  obtain ⟨e', e1', e2', e3'⟩ := h0.j1.snd
  have hq : (s.p.2.Queue.length : Int) = (s.oz.2.length : Int) - e := by rw [e3, List.length_drop]; omega
  have hq' : (s.p.1.Queue.length : Int) = (s.oz.1.length : Int) - e' := by rw [e3', List.length_drop]; omega
  have ho := h.off
  have x1 := h.f1; have x2 := h.f2
  rw [← ho] at x1 x2 hq hq'
  have k2 : f = t.oz.2.length := by omega
  have k1 : f' = t.oz.1.length := by omega
  have m2 : n = t.oz.2.length := by omega
  have m1 : n' = t.oz.1.length := by omega
  refine ⟨?_, ?_, ?_, ?_⟩
  · rw [f3', List.length_drop]; omega
  · rw [f3, List.length_drop]; omega
  · rw [g3, m2, List.take_length]
  · rw [g3', m1, List.take_length]
end Go.Proofs.Ytomjphpnpcgacaa
/-
  The walk of an exchange and the law WindowCompletes.
-/
namespace Go.Proofs.Ytomjphpnpcgacaa
open Go.Rv
set_option linter.unusedVariables false
set_option linter.unusedSimpArgs false

theorem take_one {α : Type} [Inhabited α] {l : List α} {n : Nat} (h : n < l.length) : l.take (n + 1) = l.take n ++ [nth l n] := by
  rw [List.take_add_one]
  congr 1
  unfold nth
  rw [List.getD_eq_getElem?_getD, List.getElem?_eq_getElem h]
  rfl
theorem fold1_one {s : PairS} {ks : List Pk} {n : Nat} (h : n < ks.length) : fold1 s (ks.take (n + 1)) = ac1 (fold1 s (ks.take n)) (nth ks n) := by
  unfold fold1; rw [take_one h, List.foldl_append]; rfl
theorem fold0_one {s : PairS} {ks : List Pk} {n : Nat} (h : n < ks.length) : fold0 s (ks.take (n + 1)) = ac0 (fold0 s (ks.take n)) (nth ks n) := by
  unfold fold0; rw [take_one h, List.foldl_append]; rfl

abbrev PT := List Pk × PairS × Nat × Nat × Nat × Nat × Nat × Nat

theorem loop1_eq (r0 : PT) {m : Nat} {s : PairS} (h : Inv m s) (hm : m + r0.1.length ≤ 9000) (hk : ∀ k ∈ r0.1, k ∈ s.way.2) :
    loopO (fun (v : VT) => law12_pair_swap_b1 r0 v.1 v.2.1 v.2.2.1 v.2.2.2.1 v.2.2.2.2.1 v.2.2.2.2.2.1 v.2.2.2.2.2.2.1 v.2.2.2.2.2.2.2.1 v.2.2.2.2.2.2.2.2.1 v.2.2.2.2.2.2.2.2.2.1 v.2.2.2.2.2.2.2.2.2.2.1 v.2.2.2.2.2.2.2.2.2.2.2.1 v.2.2.2.2.2.2.2.2.2.2.2.2.1 v.2.2.2.2.2.2.2.2.2.2.2.2.2.1 v.2.2.2.2.2.2.2.2.2.2.2.2.2.2.1 v.2.2.2.2.2.2.2.2.2.2.2.2.2.2.2.1 v.2.2.2.2.2.2.2.2.2.2.2.2.2.2.2.2.1 v.2.2.2.2.2.2.2.2.2.2.2.2.2.2.2.2.2.1 v.2.2.2.2.2.2.2.2.2.2.2.2.2.2.2.2.2.2.1 v.2.2.2.2.2.2.2.2.2.2.2.2.2.2.2.2.2.2.2.1 v.2.2.2.2.2.2.2.2.2.2.2.2.2.2.2.2.2.2.2.2.1 v.2.2.2.2.2.2.2.2.2.2.2.2.2.2.2.2.2.2.2.2.2.1 v.2.2.2.2.2.2.2.2.2.2.2.2.2.2.2.2.2.2.2.2.2.2) (ofS 0 s) = some (ofS 0 (fold1 s r0.1)).2 := by
  obtain ⟨x, hx, rfl⟩ := loopO_for (f := (fun (v : VT) => law12_pair_swap_b1 r0 v.1 v.2.1 v.2.2.1 v.2.2.2.1 v.2.2.2.2.1 v.2.2.2.2.2.1 v.2.2.2.2.2.2.1 v.2.2.2.2.2.2.2.1 v.2.2.2.2.2.2.2.2.1 v.2.2.2.2.2.2.2.2.2.1 v.2.2.2.2.2.2.2.2.2.2.1 v.2.2.2.2.2.2.2.2.2.2.2.1 v.2.2.2.2.2.2.2.2.2.2.2.2.1 v.2.2.2.2.2.2.2.2.2.2.2.2.2.1 v.2.2.2.2.2.2.2.2.2.2.2.2.2.2.1 v.2.2.2.2.2.2.2.2.2.2.2.2.2.2.2.1 v.2.2.2.2.2.2.2.2.2.2.2.2.2.2.2.2.1 v.2.2.2.2.2.2.2.2.2.2.2.2.2.2.2.2.2.1 v.2.2.2.2.2.2.2.2.2.2.2.2.2.2.2.2.2.2.1 v.2.2.2.2.2.2.2.2.2.2.2.2.2.2.2.2.2.2.2.1 v.2.2.2.2.2.2.2.2.2.2.2.2.2.2.2.2.2.2.2.2.1 v.2.2.2.2.2.2.2.2.2.2.2.2.2.2.2.2.2.2.2.2.2.1 v.2.2.2.2.2.2.2.2.2.2.2.2.2.2.2.2.2.2.2.2.2.2)) r0.1.length (fun k v => v = ofS (k : Int) (fold1 s (r0.1.take k))) (fun x => x = (ofS 0 (fold1 s r0.1)).2) (by omega) (by
    rintro k v hkl rfl
    refine ⟨_, ?_, rfl⟩
    rw [fold1_one hkl]
    have hi : Inv (m + (r0.1.take k).length) (fold1 s (r0.1.take k)) := fold1_inv _ h (fun x hx => hk x (List.mem_of_mem_take hx))
    have hl : (r0.1.take k).length ≤ r0.1.length := by rw [List.length_take]; omega
    generalize fold1 s (r0.1.take k) = t at hi
    show law12_pair_swap_b1 r0 (k : Int) t.p.1.Epoch t.p.1.Other t.p.1.First t.p.1.Queue t.p.1.Next t.p.1.Early t.p.1.SentAt t.p.2.Epoch t.p.2.Other t.p.2.First t.p.2.Queue t.p.2.Next t.p.2.Early t.p.2.SentAt t.now t.resets t.way.1 t.way.2 t.oz.1 t.oz.2 t.dz.1 t.dz.2 = some (.inl (ofS ((k + 1 : Nat) : Int) (ac1 t (nth r0.1 k))))
    unfold law12_pair_swap_b1
    rw [if_pos (by simp; omega), if_pos (inR_of hkl), Int.toNat_natCast]
    obtain ⟨r, hr, q⟩ := accept1_eq hi (by omega) (nth r0.1 k)
    have hr' : law12_pair_accept_c1 (({ p := (({ Epoch := t.p.1.Epoch, Other := t.p.1.Other, First := t.p.1.First, Queue := t.p.1.Queue, Next := t.p.1.Next, Early := t.p.1.Early, SentAt := t.p.1.SentAt } : Pe), ({ Epoch := t.p.2.Epoch, Other := t.p.2.Other, First := t.p.2.First, Queue := t.p.2.Queue, Next := t.p.2.Next, Early := t.p.2.Early, SentAt := t.p.2.SentAt } : Pe)), way := (t.way.1, t.way.2), oz := (t.oz.1, t.oz.2), dz := (t.dz.1, t.dz.2), now := t.now, resets := t.resets } : Pq)) (nth r0.1 k) = some r := hr
    rw [hr', Option.bind_some, q, w64_one (by omega)]
    rfl) (by
    rintro v rfl
    refine ⟨_, ?_, rfl⟩
    rw [List.take_length]
    generalize fold1 s r0.1 = t
    show law12_pair_swap_b1 r0 (r0.1.length : Int) t.p.1.Epoch t.p.1.Other t.p.1.First t.p.1.Queue t.p.1.Next t.p.1.Early t.p.1.SentAt t.p.2.Epoch t.p.2.Other t.p.2.First t.p.2.Queue t.p.2.Next t.p.2.Early t.p.2.SentAt t.now t.resets t.way.1 t.way.2 t.oz.1 t.oz.2 t.dz.1 t.dz.2 = _
    unfold law12_pair_swap_b1
    rw [if_neg (by simp)]
    rfl) (v0 := ofS 0 s) rfl
  exact hx

theorem loop0_eq (r0 : PT) {m : Nat} {s : PairS} (h : Inv m s) (hm : m + r0.1.length ≤ 9000) (hk : ∀ k ∈ r0.1, k ∈ s.way.1) :
    loopO (fun (v : VT) => law12_pair_swap_b2 r0 v.1 v.2.1 v.2.2.1 v.2.2.2.1 v.2.2.2.2.1 v.2.2.2.2.2.1 v.2.2.2.2.2.2.1 v.2.2.2.2.2.2.2.1 v.2.2.2.2.2.2.2.2.1 v.2.2.2.2.2.2.2.2.2.1 v.2.2.2.2.2.2.2.2.2.2.1 v.2.2.2.2.2.2.2.2.2.2.2.1 v.2.2.2.2.2.2.2.2.2.2.2.2.1 v.2.2.2.2.2.2.2.2.2.2.2.2.2.1 v.2.2.2.2.2.2.2.2.2.2.2.2.2.2.1 v.2.2.2.2.2.2.2.2.2.2.2.2.2.2.2.1 v.2.2.2.2.2.2.2.2.2.2.2.2.2.2.2.2.1 v.2.2.2.2.2.2.2.2.2.2.2.2.2.2.2.2.2.1 v.2.2.2.2.2.2.2.2.2.2.2.2.2.2.2.2.2.2.1 v.2.2.2.2.2.2.2.2.2.2.2.2.2.2.2.2.2.2.2.1 v.2.2.2.2.2.2.2.2.2.2.2.2.2.2.2.2.2.2.2.2.1 v.2.2.2.2.2.2.2.2.2.2.2.2.2.2.2.2.2.2.2.2.2.1 v.2.2.2.2.2.2.2.2.2.2.2.2.2.2.2.2.2.2.2.2.2.2) (ofS 0 s) = some (ofS 0 (fold0 s r0.1)).2 := by
  obtain ⟨x, hx, rfl⟩ := loopO_for (f := (fun (v : VT) => law12_pair_swap_b2 r0 v.1 v.2.1 v.2.2.1 v.2.2.2.1 v.2.2.2.2.1 v.2.2.2.2.2.1 v.2.2.2.2.2.2.1 v.2.2.2.2.2.2.2.1 v.2.2.2.2.2.2.2.2.1 v.2.2.2.2.2.2.2.2.2.1 v.2.2.2.2.2.2.2.2.2.2.1 v.2.2.2.2.2.2.2.2.2.2.2.1 v.2.2.2.2.2.2.2.2.2.2.2.2.1 v.2.2.2.2.2.2.2.2.2.2.2.2.2.1 v.2.2.2.2.2.2.2.2.2.2.2.2.2.2.1 v.2.2.2.2.2.2.2.2.2.2.2.2.2.2.2.1 v.2.2.2.2.2.2.2.2.2.2.2.2.2.2.2.2.1 v.2.2.2.2.2.2.2.2.2.2.2.2.2.2.2.2.2.1 v.2.2.2.2.2.2.2.2.2.2.2.2.2.2.2.2.2.2.1 v.2.2.2.2.2.2.2.2.2.2.2.2.2.2.2.2.2.2.2.1 v.2.2.2.2.2.2.2.2.2.2.2.2.2.2.2.2.2.2.2.2.1 v.2.2.2.2.2.2.2.2.2.2.2.2.2.2.2.2.2.2.2.2.2.1 v.2.2.2.2.2.2.2.2.2.2.2.2.2.2.2.2.2.2.2.2.2.2)) r0.1.length (fun k v => v = ofS (k : Int) (fold0 s (r0.1.take k))) (fun x => x = (ofS 0 (fold0 s r0.1)).2) (by omega) (by
    rintro k v hkl rfl
    refine ⟨_, ?_, rfl⟩
    rw [fold0_one hkl]
    have hi : Inv (m + (r0.1.take k).length) (fold0 s (r0.1.take k)) := fold0_inv _ h (fun x hx => hk x (List.mem_of_mem_take hx))
    have hl : (r0.1.take k).length ≤ r0.1.length := by rw [List.length_take]; omega
    generalize fold0 s (r0.1.take k) = t at hi
    show law12_pair_swap_b2 r0 (k : Int) t.p.1.Epoch t.p.1.Other t.p.1.First t.p.1.Queue t.p.1.Next t.p.1.Early t.p.1.SentAt t.p.2.Epoch t.p.2.Other t.p.2.First t.p.2.Queue t.p.2.Next t.p.2.Early t.p.2.SentAt t.now t.resets t.way.1 t.way.2 t.oz.1 t.oz.2 t.dz.1 t.dz.2 = some (.inl (ofS ((k + 1 : Nat) : Int) (ac0 t (nth r0.1 k))))
    unfold law12_pair_swap_b2
    rw [if_pos (by simp; omega), if_pos (inR_of hkl), Int.toNat_natCast]
    obtain ⟨r, hr, q⟩ := accept0_eq hi (by omega) (nth r0.1 k)
    have hr' : law12_pair_accept_c0 (({ p := (({ Epoch := t.p.1.Epoch, Other := t.p.1.Other, First := t.p.1.First, Queue := t.p.1.Queue, Next := t.p.1.Next, Early := t.p.1.Early, SentAt := t.p.1.SentAt } : Pe), ({ Epoch := t.p.2.Epoch, Other := t.p.2.Other, First := t.p.2.First, Queue := t.p.2.Queue, Next := t.p.2.Next, Early := t.p.2.Early, SentAt := t.p.2.SentAt } : Pe)), way := (t.way.1, t.way.2), oz := (t.oz.1, t.oz.2), dz := (t.dz.1, t.dz.2), now := t.now, resets := t.resets } : Pq)) (nth r0.1 k) = some r := hr
    rw [hr', Option.bind_some, q, w64_one (by omega)]
    rfl) (by
    rintro v rfl
    refine ⟨_, ?_, rfl⟩
    rw [List.take_length]
    generalize fold0 s r0.1 = t
    show law12_pair_swap_b2 r0 (r0.1.length : Int) t.p.1.Epoch t.p.1.Other t.p.1.First t.p.1.Queue t.p.1.Next t.p.1.Early t.p.1.SentAt t.p.2.Epoch t.p.2.Other t.p.2.First t.p.2.Queue t.p.2.Next t.p.2.Early t.p.2.SentAt t.now t.resets t.way.1 t.way.2 t.oz.1 t.oz.2 t.dz.1 t.dz.2 = _
    unfold law12_pair_swap_b2
    rw [if_neg (by simp)]
    rfl) (v0 := ofS 0 s) rfl
  exact hx

theorem swap_eq {m : Nat} {s : PairS} (h : Inv m s) (hm : m ≤ 8000) : ∃ r, law12_pair_swap s = some r ∧ r.1 = swS s := by
  have hn0 := h.now0; have hn1 := h.now1
  have hl1 := (emit_len s.p.1 (s.now + 10)).1
  have hl2 := (emit_len s.p.2 (s.now + 10)).1
  unfold law12_pair_swap
  rw [w64_id (x := s.now + 10) (by omega)]
  obtain ⟨r0, hr0, p0, q0⟩ := emit0_eq (inv_tick h) (by omega)
  have hr0' : law12_pair_emit_c0 (({ p := (s.p.1, s.p.2), way := (s.way.1, s.way.2), oz := (s.oz.1, s.oz.2), dz := (s.dz.1, s.dz.2), now := s.now + 10, resets := s.resets } : Pq)) = some r0 := hr0
  rw [hr0', Option.bind_some]
  simp only [lt1]
  rw [q0]
  obtain ⟨r1, hr1, p1, q1⟩ := emit1_eq (inv_em0 (inv_tick h) (by omega)) (by omega)
  have hr1' : law12_pair_emit_c1 (({ p := ((em0 (tick s)).p.1, (em0 (tick s)).p.2), way := ((em0 (tick s)).way.1, (em0 (tick s)).way.2), oz := ((em0 (tick s)).oz.1, (em0 (tick s)).oz.2), dz := ((em0 (tick s)).dz.1, (em0 (tick s)).dz.2), now := (em0 (tick s)).now, resets := (em0 (tick s)).resets } : Pq)) = some r1 := hr1
  rw [hr1', Option.bind_some, q1]
  have p0' : r0.1 = ls s := p0
  have p1' : r1.1 = ms s := p1
  have hi := sent_inv h hm
  have k1 := loop1_eq r0 hi (by rw [p0']; unfold ls; omega) (by rw [p0']; exact ls_in s)
  have hi2 := fold1_inv (ls s) hi (ls_in s)
  have k2 := loop0_eq r1 hi2 (by rw [p1']; unfold ls ms; omega) (by rw [p1']; exact ms_in s)
  rw [p0'] at k1
  rw [p1'] at k2
  unfold ofS sent at k1
  rw [k1]
  simp only [Option.bind_some]
  unfold ofS sent at k2
  rw [k2]
  exact ⟨_, rfl, rfl⟩
end Go.Proofs.Ytomjphpnpcgacaa
/-
  The law WindowCompletes.
-/
namespace Go.Proofs.Ytomjphpnpcgacaa
open Go.Rv
set_option linter.unusedVariables false
set_option linter.unusedSimpArgs false

/-- An offer changes neither epochs nor resets. -/
theorem act0_ok {m : Nat} {s : PairS} (h : Inv m s) (hm : m ≤ 9000) (i : Int) (d : List UInt8) : ∃ r, law12_pair_act s { Kind := 0, Side := i, N := 0, Data := d } = some r ∧ Inv (m + 1) r.1 ∧ (Mut s → Mut r.1) ∧ r.1.resets = s.resets := by
  have hd0 := h.d0; have hd1 := h.d1; have ho0 := h.o0; have ho1 := h.o1
  have same := h.more (Nat.le_succ m)
  have hK : and64 0 7 = 0 := by decide
  unfold law12_pair_act
  simp only [lt1, or_if, Option.bind_some, hK]
  rcases and64_one i with hs | hs
  · rw [hs, if_pos (by decide), if_pos (by decide)]
    obtain ⟨r, hr, hr0⟩ := offer_w h.v0 d
    rw [hr, Option.bind_some]
    by_cases hz : r.2 = 0
    · obtain ⟨e1, e2, e3, e4⟩ := hr0 hz
      rw [if_pos (by simpa using hz), if_pos (fitsL (by omega)), e1]
      exact ⟨_, rfl, inv_of0 h e2 e3 e4, fun h => h, rfl⟩
    · rw [if_neg (by simpa using hz)]
      exact ⟨_, rfl, same, fun h => h, rfl⟩
  · rw [hs, if_neg (by decide), if_pos (by decide)]
    obtain ⟨r, hr, hr0⟩ := offer_w h.v1 d
    rw [hr, Option.bind_some]
    by_cases hz : r.2 = 0
    · obtain ⟨e1, e2, e3, e4⟩ := hr0 hz
      rw [if_pos (by simpa using hz), if_pos (fitsL (by omega)), e1]
      exact ⟨_, rfl, inv_of1 h e2 e3 e4, fun h => h, rfl⟩
    · rw [if_neg (by simpa using hz)]
      exact ⟨_, rfl, same, fun h => h, rfl⟩

theorem play_step (script : List Aq) (k : Nat) (s : PairS) (hk : k ≤ 100) (h : Inv k s) :
    (∃ s', law12_WindowCompletes_b1 script (k : Int) s.p.1.Epoch s.p.1.Other s.p.1.First s.p.1.Queue s.p.1.Next s.p.1.Early s.p.1.SentAt s.p.2.Epoch s.p.2.Other s.p.2.First s.p.2.Queue s.p.2.Next s.p.2.Early s.p.2.SentAt s.now s.resets s.way.1 s.way.2 s.oz.1 s.oz.2 s.dz.1 s.dz.2 = some (.inl (ofS ((k + 1 : Nat) : Int) s')) ∧ k < 100 ∧ Inv (k + 1) s') ∨
    (∃ x, law12_WindowCompletes_b1 script (k : Int) s.p.1.Epoch s.p.1.Other s.p.1.First s.p.1.Queue s.p.1.Next s.p.1.Early s.p.1.SentAt s.p.2.Epoch s.p.2.Other s.p.2.First s.p.2.Queue s.p.2.Next s.p.2.Early s.p.2.SentAt s.now s.resets s.way.1 s.way.2 s.oz.1 s.oz.2 s.dz.1 s.dz.2 = some (.inr x) ∧ ((∃ t, x = .inl (ofS 0 t).2 ∧ Inv 100 t) ∨ x = .inr (.inr true))) := by
  unfold law12_WindowCompletes_b1
  by_cases hc : k < script.length ∧ k < 100
  case neg =>
    refine .inr ⟨.inl (ofS 0 s).2, ?_, .inl ⟨s, rfl, h.more hk⟩⟩
    by_cases h1 : k < script.length
    · have h2 : ¬ (k < 100) := fun e => hc ⟨h1, e⟩
      rw [if_pos (by simp; omega), Option.bind_some, if_neg (by simp; omega)]
      rfl
    · rw [if_neg (by simp; omega), Option.bind_some, if_neg (by simp)]
      rfl
  rw [if_pos (by simp; omega), Option.bind_some, if_pos (by simp; omega), if_pos (by unfold InR; omega)]
  simp only [lt1]
  by_cases hd : decide (((nth script ((k : Int)).toNat).Data.length : Int) > 100) = true
  · rw [if_pos hd]
    exact .inr ⟨_, rfl, .inr rfl⟩
  rw [if_neg hd, if_pos (by unfold InR; omega)]
  obtain ⟨r, hr, hi⟩ := act_ok h (by omega) (nth script ((k : Int)).toNat)
  refine .inl ⟨r.1, ?_, hc.2, hi⟩
  have hr' : law12_pair_act (({ p := (({ Epoch := s.p.1.Epoch, Other := s.p.1.Other, First := s.p.1.First, Queue := s.p.1.Queue, Next := s.p.1.Next, Early := s.p.1.Early, SentAt := s.p.1.SentAt } : Pe), ({ Epoch := s.p.2.Epoch, Other := s.p.2.Other, First := s.p.2.First, Queue := s.p.2.Queue, Next := s.p.2.Next, Early := s.p.2.Early, SentAt := s.p.2.SentAt } : Pe)), way := (s.way.1, s.way.2), oz := (s.oz.1, s.oz.2), dz := (s.dz.1, s.dz.2), now := s.now, resets := s.resets } : Pq)) (nth script ((k : Int)).toNat) = some r := hr
  rw [hr', Option.bind_some, w64_one (by omega)]
  rfl

theorem play_ok (script : List Aq) {s : PairS} (h : Inv 0 s) : ∃ x, loopO (fun (v : VT) => law12_WindowCompletes_b1 script v.1 v.2.1 v.2.2.1 v.2.2.2.1 v.2.2.2.2.1 v.2.2.2.2.2.1 v.2.2.2.2.2.2.1 v.2.2.2.2.2.2.2.1 v.2.2.2.2.2.2.2.2.1 v.2.2.2.2.2.2.2.2.2.1 v.2.2.2.2.2.2.2.2.2.2.1 v.2.2.2.2.2.2.2.2.2.2.2.1 v.2.2.2.2.2.2.2.2.2.2.2.2.1 v.2.2.2.2.2.2.2.2.2.2.2.2.2.1 v.2.2.2.2.2.2.2.2.2.2.2.2.2.2.1 v.2.2.2.2.2.2.2.2.2.2.2.2.2.2.2.1 v.2.2.2.2.2.2.2.2.2.2.2.2.2.2.2.2.1 v.2.2.2.2.2.2.2.2.2.2.2.2.2.2.2.2.2.1 v.2.2.2.2.2.2.2.2.2.2.2.2.2.2.2.2.2.2.1 v.2.2.2.2.2.2.2.2.2.2.2.2.2.2.2.2.2.2.2.1 v.2.2.2.2.2.2.2.2.2.2.2.2.2.2.2.2.2.2.2.2.1 v.2.2.2.2.2.2.2.2.2.2.2.2.2.2.2.2.2.2.2.2.2.1 v.2.2.2.2.2.2.2.2.2.2.2.2.2.2.2.2.2.2.2.2.2.2) (ofS 0 s) = some x ∧ ((∃ t, x = .inl (ofS 0 t).2 ∧ Inv 100 t) ∨ x = .inr (.inr true)) := by
  refine loopO_rule (fun v => ∃ (k : Nat) (s : PairS), v = ofS (k : Int) s ∧ k ≤ 100 ∧ Inv k s) (fun v => (100 - v.1).toNat) _ ?_ ⟨0, s, rfl, Nat.zero_le _, h⟩ (by show ((100 : Int) - 0).toNat < _; omega)
  rintro v ⟨k, s, rfl, hk, hi⟩
  rcases play_step script k s hk hi with ⟨s', e1, e2, e3⟩ | ⟨x, e1, e2⟩
  · refine .inl ⟨_, e1, ⟨k + 1, s', rfl, by omega, e3⟩, ?_⟩
    show ((100 : Int) - ((k + 1 : Nat) : Int)).toNat < ((100 : Int) - (k : Int)).toNat
    omega
  · exact .inr ⟨x, e1, e2⟩

theorem more_step (more : List (List UInt8)) {m : Nat} (k : Nat) (s : PairS) (hk : k ≤ 40) (h : Inv (m + k) s) (hm : m ≤ 8000) :
    (∃ s', law12_WindowCompletes_b2 more (k : Int) s.p.1.Epoch s.p.1.Other s.p.1.First s.p.1.Queue s.p.1.Next s.p.1.Early s.p.1.SentAt s.p.2.Epoch s.p.2.Other s.p.2.First s.p.2.Queue s.p.2.Next s.p.2.Early s.p.2.SentAt s.now s.resets s.way.1 s.way.2 s.oz.1 s.oz.2 s.dz.1 s.dz.2 = some (.inl (ofS ((k + 1 : Nat) : Int) s')) ∧ k < 40 ∧ Inv (m + (k + 1)) s' ∧ (Mut s → Mut s') ∧ s'.resets = s.resets) ∨
    (∃ x, law12_WindowCompletes_b2 more (k : Int) s.p.1.Epoch s.p.1.Other s.p.1.First s.p.1.Queue s.p.1.Next s.p.1.Early s.p.1.SentAt s.p.2.Epoch s.p.2.Other s.p.2.First s.p.2.Queue s.p.2.Next s.p.2.Early s.p.2.SentAt s.now s.resets s.way.1 s.way.2 s.oz.1 s.oz.2 s.dz.1 s.dz.2 = some (.inr x) ∧ x = (ofS 0 s).2) := by
  unfold law12_WindowCompletes_b2
  by_cases hc : k < more.length ∧ k < 40
  case neg =>
    refine .inr ⟨(ofS 0 s).2, ?_, rfl⟩
    by_cases h1 : k < more.length
    · have h2 : ¬ (k < 40) := fun e => hc ⟨h1, e⟩
      rw [if_pos (by simp; omega), Option.bind_some, if_neg (by simp; omega)]
      rfl
    · rw [if_neg (by simp; omega), Option.bind_some, if_neg (by simp)]
      rfl
  rw [if_pos (by simp; omega), Option.bind_some, if_pos (by simp; omega), if_pos (by unfold InR; omega)]
  simp only [lt1]
  obtain ⟨r, hr, hi, hM, hR⟩ := act0_ok h (by omega) (k : Int) (nth more ((k : Int)).toNat)
  refine .inl ⟨r.1, ?_, hc.2, hi, hM, hR⟩
  have hr' : law12_pair_act (({ p := (({ Epoch := s.p.1.Epoch, Other := s.p.1.Other, First := s.p.1.First, Queue := s.p.1.Queue, Next := s.p.1.Next, Early := s.p.1.Early, SentAt := s.p.1.SentAt } : Pe), ({ Epoch := s.p.2.Epoch, Other := s.p.2.Other, First := s.p.2.First, Queue := s.p.2.Queue, Next := s.p.2.Next, Early := s.p.2.Early, SentAt := s.p.2.SentAt } : Pe)), way := (s.way.1, s.way.2), oz := (s.oz.1, s.oz.2), dz := (s.dz.1, s.dz.2), now := s.now, resets := s.resets } : Pq)) (({ Kind := 0, Side := (k : Int), N := 0, Data := nth more ((k : Int)).toNat } : Aq)) = some r := hr
  rw [hr', Option.bind_some, w64_one (by omega)]
  rfl

theorem more_ok (more : List (List UInt8)) {m : Nat} {s : PairS} (h : Inv m s) (hm : m ≤ 8000) (hM : Mut s) : ∃ x, loopO (fun (v : VT) => law12_WindowCompletes_b2 more v.1 v.2.1 v.2.2.1 v.2.2.2.1 v.2.2.2.2.1 v.2.2.2.2.2.1 v.2.2.2.2.2.2.1 v.2.2.2.2.2.2.2.1 v.2.2.2.2.2.2.2.2.1 v.2.2.2.2.2.2.2.2.2.1 v.2.2.2.2.2.2.2.2.2.2.1 v.2.2.2.2.2.2.2.2.2.2.2.1 v.2.2.2.2.2.2.2.2.2.2.2.2.1 v.2.2.2.2.2.2.2.2.2.2.2.2.2.1 v.2.2.2.2.2.2.2.2.2.2.2.2.2.2.1 v.2.2.2.2.2.2.2.2.2.2.2.2.2.2.2.1 v.2.2.2.2.2.2.2.2.2.2.2.2.2.2.2.2.1 v.2.2.2.2.2.2.2.2.2.2.2.2.2.2.2.2.2.1 v.2.2.2.2.2.2.2.2.2.2.2.2.2.2.2.2.2.2.1 v.2.2.2.2.2.2.2.2.2.2.2.2.2.2.2.2.2.2.2.1 v.2.2.2.2.2.2.2.2.2.2.2.2.2.2.2.2.2.2.2.2.1 v.2.2.2.2.2.2.2.2.2.2.2.2.2.2.2.2.2.2.2.2.2.1 v.2.2.2.2.2.2.2.2.2.2.2.2.2.2.2.2.2.2.2.2.2.2) (ofS 0 s) = some x ∧ ∃ t, x = (ofS 0 t).2 ∧ Inv (m + 40) t ∧ Mut t ∧ t.resets = s.resets := by
  refine loopO_rule (fun v => ∃ (k : Nat) (t : PairS), v = ofS (k : Int) t ∧ k ≤ 40 ∧ Inv (m + k) t ∧ Mut t ∧ t.resets = s.resets) (fun v => (40 - v.1).toNat) _ ?_ ⟨0, s, rfl, Nat.zero_le _, h, hM, rfl⟩ (by show ((40 : Int) - 0).toNat < _; omega)
  rintro v ⟨k, t, rfl, hk, hi, hM', hR⟩
  rcases more_step more k t hk hi hm with ⟨s', e1, e2, e3, e4, e5⟩ | ⟨x, e1, e2⟩
  · refine .inl ⟨_, e1, ⟨k + 1, s', rfl, by omega, e3, e4 hM', by rw [e5, hR]⟩, ?_⟩
    show ((40 : Int) - ((k + 1 : Nat) : Int)).toNat < ((40 : Int) - (k : Int)).toNat
    omega
  · exact .inr ⟨x, e1, t, e2, hi.more (by omega), hM', hR⟩

theorem rounds_ok (R : Nat) (hR : R ≤ 50) {m : Nat} {s : PairS} (h : Inv m s) (hm : m ≤ 5000) (hM : Mut s) : ∃ t, loopO (fun (v : VT) => law12_WindowCompletes_b3 (R : Int) v.1 v.2.1 v.2.2.1 v.2.2.2.1 v.2.2.2.2.1 v.2.2.2.2.2.1 v.2.2.2.2.2.2.1 v.2.2.2.2.2.2.2.1 v.2.2.2.2.2.2.2.2.1 v.2.2.2.2.2.2.2.2.2.1 v.2.2.2.2.2.2.2.2.2.2.1 v.2.2.2.2.2.2.2.2.2.2.2.1 v.2.2.2.2.2.2.2.2.2.2.2.2.1 v.2.2.2.2.2.2.2.2.2.2.2.2.2.1 v.2.2.2.2.2.2.2.2.2.2.2.2.2.2.1 v.2.2.2.2.2.2.2.2.2.2.2.2.2.2.2.1 v.2.2.2.2.2.2.2.2.2.2.2.2.2.2.2.2.1 v.2.2.2.2.2.2.2.2.2.2.2.2.2.2.2.2.2.1 v.2.2.2.2.2.2.2.2.2.2.2.2.2.2.2.2.2.2.1 v.2.2.2.2.2.2.2.2.2.2.2.2.2.2.2.2.2.2.2.1 v.2.2.2.2.2.2.2.2.2.2.2.2.2.2.2.2.2.2.2.2.1 v.2.2.2.2.2.2.2.2.2.2.2.2.2.2.2.2.2.2.2.2.2.1 v.2.2.2.2.2.2.2.2.2.2.2.2.2.2.2.2.2.2.2.2.2.2) (ofS 0 s) = some (ofS 0 t).2 ∧ Prog s t m R := by
  obtain ⟨x, hx, t, rfl, hp⟩ := loopO_for (f := (fun (v : VT) => law12_WindowCompletes_b3 (R : Int) v.1 v.2.1 v.2.2.1 v.2.2.2.1 v.2.2.2.2.1 v.2.2.2.2.2.1 v.2.2.2.2.2.2.1 v.2.2.2.2.2.2.2.1 v.2.2.2.2.2.2.2.2.1 v.2.2.2.2.2.2.2.2.2.1 v.2.2.2.2.2.2.2.2.2.2.1 v.2.2.2.2.2.2.2.2.2.2.2.1 v.2.2.2.2.2.2.2.2.2.2.2.2.1 v.2.2.2.2.2.2.2.2.2.2.2.2.2.1 v.2.2.2.2.2.2.2.2.2.2.2.2.2.2.1 v.2.2.2.2.2.2.2.2.2.2.2.2.2.2.2.1 v.2.2.2.2.2.2.2.2.2.2.2.2.2.2.2.2.1 v.2.2.2.2.2.2.2.2.2.2.2.2.2.2.2.2.2.1 v.2.2.2.2.2.2.2.2.2.2.2.2.2.2.2.2.2.2.1 v.2.2.2.2.2.2.2.2.2.2.2.2.2.2.2.2.2.2.2.1 v.2.2.2.2.2.2.2.2.2.2.2.2.2.2.2.2.2.2.2.2.1 v.2.2.2.2.2.2.2.2.2.2.2.2.2.2.2.2.2.2.2.2.2.1 v.2.2.2.2.2.2.2.2.2.2.2.2.2.2.2.2.2.2.2.2.2.2)) R (fun k v => ∃ t, v = ofS (k : Int) t ∧ Prog s t m k) (fun x => ∃ t, x = (ofS 0 t).2 ∧ Prog s t m R) (by omega) (by
    rintro k v hk ⟨t, rfl, hp⟩
    refine ⟨ofS ((k + 1 : Nat) : Int) (swS t), ?_, _, rfl, prog_succ hp (by omega)⟩
    show law12_WindowCompletes_b3 (R : Int) (k : Int) t.p.1.Epoch t.p.1.Other t.p.1.First t.p.1.Queue t.p.1.Next t.p.1.Early t.p.1.SentAt t.p.2.Epoch t.p.2.Other t.p.2.First t.p.2.Queue t.p.2.Next t.p.2.Early t.p.2.SentAt t.now t.resets t.way.1 t.way.2 t.oz.1 t.oz.2 t.dz.1 t.dz.2 = _
    unfold law12_WindowCompletes_b3
    rw [if_pos (by simp; omega), Option.bind_some, if_pos (by simp; omega)]
    obtain ⟨r, hr, q⟩ := swap_eq hp.inv (by omega)
    have hr' : law12_pair_swap (({ p := (({ Epoch := t.p.1.Epoch, Other := t.p.1.Other, First := t.p.1.First, Queue := t.p.1.Queue, Next := t.p.1.Next, Early := t.p.1.Early, SentAt := t.p.1.SentAt } : Pe), ({ Epoch := t.p.2.Epoch, Other := t.p.2.Other, First := t.p.2.First, Queue := t.p.2.Queue, Next := t.p.2.Next, Early := t.p.2.Early, SentAt := t.p.2.SentAt } : Pe)), way := (t.way.1, t.way.2), oz := (t.oz.1, t.oz.2), dz := (t.dz.1, t.dz.2), now := t.now, resets := t.resets } : Pq)) = some r := hr
    rw [hr', Option.bind_some, q, w64_one (by omega)]
    rfl) (by
    rintro v ⟨t, rfl, hp⟩
    refine ⟨(ofS 0 t).2, ?_, t, rfl, hp⟩
    show law12_WindowCompletes_b3 (R : Int) (R : Int) t.p.1.Epoch t.p.1.Other t.p.1.First t.p.1.Queue t.p.1.Next t.p.1.Early t.p.1.SentAt t.p.2.Epoch t.p.2.Other t.p.2.First t.p.2.Queue t.p.2.Next t.p.2.Early t.p.2.SentAt t.now t.resets t.way.1 t.way.2 t.oz.1 t.oz.2 t.dz.1 t.dz.2 = _
    unfold law12_WindowCompletes_b3
    rw [if_neg (by simp), Option.bind_some, if_neg (by simp)]
    rfl) (v0 := ofS 0 s) ⟨s, rfl, prog_zero h hM⟩
  exact ⟨t, hx, hp⟩

theorem rounds_eq (a b : Nat) (ha : a ≤ 256) (hb : b ≤ 256) : (w64 ((w64 (2 * (w64 ((w64 (((mx64 ((a : Int)) ((b : Int))) : Int).tdiv 16)) + 1)))) + 3)) = ((2 * (max a b / 16 + 1) + 3 : Nat) : Int) := by
  have h1 : mx64 (a : Int) (b : Int) = ((max a b : Nat) : Int) := by unfold mx64; split <;> omega
  have h2 : (((max a b : Nat) : Int)).tdiv 16 = ((max a b / 16 : Nat) : Int) := rfl
  rw [h1, h2, w64_id (x := ((max a b / 16 : Nat) : Int)) (by omega), w64_id (x := ((max a b / 16 : Nat) : Int) + 1) (by omega), w64_id (x := 2 * (((max a b / 16 : Nat) : Int) + 1)) (by omega), w64_id (by omega)]
  omega

theorem law_completes (script : List Aq) (more : List (List UInt8)) : law12_WindowCompletes script more = some true := by
  unfold law12_WindowCompletes
  obtain ⟨r, hr, r1, r2, r3, r4, r5⟩ := begin_eq
  rw [hr, Option.bind_some, sane_ok, Option.bind_some, if_neg (by simp), Option.bind_some, r1, if_neg (by simp)]
  obtain ⟨x, hx, hxx⟩ := play_ok script r2
  have e : ofS 0 r.1 = (0, r.1.p.1.Epoch, r.1.p.1.Other, r.1.p.1.First, r.1.p.1.Queue, r.1.p.1.Next, r.1.p.1.Early, r.1.p.1.SentAt, r.1.p.2.Epoch, r.1.p.2.Other, r.1.p.2.First, r.1.p.2.Queue, r.1.p.2.Next, r.1.p.2.Early, r.1.p.2.SentAt, r.1.now, r.1.resets, [], [], [], [], [], []) := by
    unfold ofS; rw [r3, r4, r5]
  rw [e] at hx
  rw [hx, Option.bind_some]
  rcases hxx with ⟨t, rfl, ht⟩ | rfl
  case inr => rfl
  unfold ofS
  simp only [Option.bind_some]
  obtain ⟨y1, hy1, q1⟩ := swap_eq ht (by omega)
  have i1 := swap_inv ht (by omega)
  have hy1' : law12_pair_swap (({ p := (({ Epoch := t.p.1.Epoch, Other := t.p.1.Other, First := t.p.1.First, Queue := t.p.1.Queue, Next := t.p.1.Next, Early := t.p.1.Early, SentAt := t.p.1.SentAt } : Pe), ({ Epoch := t.p.2.Epoch, Other := t.p.2.Other, First := t.p.2.First, Queue := t.p.2.Queue, Next := t.p.2.Next, Early := t.p.2.Early, SentAt := t.p.2.SentAt } : Pe)), way := (t.way.1, t.way.2), oz := (t.oz.1, t.oz.2), dz := (t.dz.1, t.dz.2), now := t.now, resets := t.resets } : Pq)) = some y1 := hy1
  rw [hy1', Option.bind_some, q1]
  simp only [lt1]
  obtain ⟨y2, hy2, q2⟩ := swap_eq i1 (by omega)
  have i2 := swap_inv i1 (by omega)
  have m2 := swap_mut i1 (by omega)
  have hy2' : law12_pair_swap (({ p := ((swS t).p.1, (swS t).p.2), way := ((swS t).way.1, (swS t).way.2), oz := ((swS t).oz.1, (swS t).oz.2), dz := ((swS t).dz.1, (swS t).dz.2), now := (swS t).now, resets := (swS t).resets } : Pq)) = some y2 := hy2
  rw [hy2', Option.bind_some, q2]
  generalize swS (swS t) = u at i2 m2
  obtain ⟨x, hx, u', rfl, i3, m3, hres⟩ := more_ok more i2 (by omega) m2
  unfold ofS at hx
  rw [hx]
  simp only [Option.bind_some]
  have hq0 := i3.v0.q; have hq1 := i3.v1.q
  rw [rounds_eq _ _ hq0 hq1]
  have hR : 2 * (max u'.p.1.Queue.length u'.p.2.Queue.length / 16 + 1) + 3 ≤ 50 := by omega
  obtain ⟨v, hv, hp⟩ := rounds_ok _ hR i3 (by omega) m3
  unfold ofS at hv
  rw [hv]
  simp only [Option.bind_some]
  obtain ⟨z1, z2, z3, z4⟩ := prog_end hp i3 (max u'.p.1.Queue.length u'.p.2.Queue.length) (by omega) (by omega) (by omega)
  have hvr : v.resets = u.resets := by rw [hp.res, hres]
  have ho0 := hp.inv.o0; have ho1 := hp.inv.o1
  rw [hvr, z1, z2, z3, z4]
  rw [msgs_same' _ (by omega), msgs_same' _ (by omega)]
  simp
end Go.Proofs.Ytomjphpnpcgacaa
namespace Go.Proofs.Ytomjphpnpcgacaa
open Go.Rv Go.ChangeShapes Go.WideShapes Go.ChangeAt Go.RowKit
set_option linter.unusedVariables false

set_option maxRecDepth 100000 in
theorem windowCompletes_contract (H : Type) (enc : TypeId × Value → H) (W : World) (base : Nat) (args : Array Value) (ds gs : List (DataW H)) (before : List MemPlace)
    (hval0 : ∀ (j : Nat) t v, Try.f6.params[j]? = some t → args[j]? = some v → Value.okWide Try.prog W .any base t v)
    (hW : DataW.Whole enc Try.prog Try.f6.params.toList Rows.windowCompletesSpec.vars false W args.toList ds gs before) :
    Calls Try.prog 6 args W fun e W' => ∃ v, e = .returned v ∧ Rows.windowCompletesSpec.post enc Try.prog Try.f6 false true false false W args v W' := by
  have hval : ∀ (j : Nat) t v, Try.f6.params[j]? = some t → args[j]? = some v → Value.okWide Try.prog W .any base t v := hval0
  have hW' := hW
  obtain ⟨p, q, hA0, hV, rfl, hfz, hnd⟩ := hW
  have hA : DataW.TrodAll enc Try.prog W 0 (fun _ => true) true Try.f6.params.toList args.toList ds p := hA0
  rw [Try.params6] at hA hval
  obtain ⟨v0, vs0, d0, ds0, p0, q0, hargs, rfl, rfl, h0, r0⟩ := trodAll_cons hA
  obtain ⟨v1, vs1, d1, ds1, p1, q1, rfl, rfl, rfl, h1, r1⟩ := trodAll_cons r0
  obtain ⟨rfl, rfl, rfl⟩ := trodAll_nil r1
  obtain rfl : args = #[v0, v1] := by cases args; simp_all
  obtain ⟨rfl, rfl⟩ := trodVars_none hV
  obtain ⟨x0, hsz0, hok0, hrep0⟩ := arg_one opens44 (fun x => ⟨_, rfl⟩) (vcells_slice Try.underlying44 (hval 0 44 v0 rfl rfl)) h0 (pr := prot (B.env fun _ => False) []) (fun a => prot_empty a)
  obtain ⟨x1, hsz1, hok1, hrep1⟩ := arg_one opens22 (fun x => ⟨_, rfl⟩) (vcells_slice Try.underlying22 (hval 1 22 v1 rfl rfl)) h1 (pr := prot (B.env fun _ => False) []) (fun a => prot_empty a)
  refine (law_calls G_none (law12_WindowCompletes_con (law_completes x0 x1 )) Try.func6 rfl (by decide +kernel) (W := W) (args := #[v0, v1]) ⟨hrep0 _ rfl, hrep1 _ rfl, trivial⟩).mono fun e W' ⟨he, hbel⟩ => ?_
  exact ⟨_, he, law_post hW' rfl rfl rfl Try.underlying4 laid_ok (by decide +kernel) hbel⟩

set_option maxRecDepth 100000 in
theorem windowCompletes_lifted (os : Os) (started : os.Started) (H : Type) (enc : TypeId × Value → H) :
    ReturnsInHanded {} Try.checked os 6 .any (Rows.windowCompletesSpec.pre6 enc Try.prog Try.f6 Rows.windowCompletesRow.domain false) (Rows.windowCompletesSpec.post enc Try.prog Try.f6 false true false false) := by
  refine returnsInHanded_of_change (C := Try.checked) own started (by kernel_rfl) Try.func6
    (ChangeSpec.witness6 (enc := enc) (C := Try.checked) false ⟨#[], #[.slice none 0 0, .slice none 0 0], []⟩ 8 (by kernel_rfl) (by kernel_rfl) (by kernel_rfl) (by kernel_rfl)) ?_
  intro W base args ds gs before hval hW _ _
  exact windowCompletes_contract H enc W base args ds gs before hval hW

theorem windowCompletes_said : Rows.WindowCompletesSaid :=
  OpenClaim.holds_of_wide 6 Try.f6 rfl rfl rfl rfl rfl rfl rfl ⟨rfl, rfl, rfl, rfl, rfl⟩ rfl rfl rfl rfl rfl (by kernel_rfl) Try.func6 (by kernel_rfl)
    (of_decide_eq_true (by kernel_rfl)) (by unfold Func.isWrapper; first | (rw [if_pos (by decide +kernel)]; kernel_rfl) | (rw [if_neg (by decide +kernel)]; exact ⟨rfl, rfl⟩))
    (fun os started H enc _ => windowCompletes_lifted os started H enc)

end Go.Proofs.Ytomjphpnpcgacaa
