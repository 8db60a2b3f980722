/-
  WindowDelivers. No condition.
-/
import Derived.Test.YtomjphpnpcgacaaZV3
/-
  Accept, of both sides, is one function on peers and packets (the second half).
-/
namespace Go.Proofs.Ytomjphpnpcgacaa
open Go.Rv
set_option linter.unusedVariables false
set_option linter.unusedSimpArgs false

/-- The packet that is kept early. -/
def newE (k : Api_Packet) : Api_Packet := { Epoch := 0, To := 0, Seq := k.Seq, Ack := 0, Data := k.Data }

/-- What is delivered from the early packets: the next number, the messages, the packets that stay. -/
def runS : Int → List Api_Packet → Int × List (List UInt8) × List Api_Packet
  | n, [] => (n, [], [])
  | n, e :: r => if e.Seq = n then ((runS (n + 1) r).1, e.Data :: (runS (n + 1) r).2.1, (runS (n + 1) r).2.2) else (n, [], e :: r)

def resetS (p : Api_Peer) (k : Api_Packet) : Api_Peer :=
  if k.Epoch > p.Other then { Epoch := p.Epoch, Other := k.Epoch, First := 0, Queue := [], Next := 0, Early := [], SentAt := -1 } else p
def ackS (p : Api_Peer) (k : Api_Packet) : Api_Peer :=
  if p.First < k.Ack ∧ k.Ack ≤ p.First + (p.Queue.length : Int) then { p with First := k.Ack, Queue := p.Queue.drop (k.Ack - p.First).toNat, SentAt := -1 } else p
def keepS (p : Api_Peer) (k : Api_Packet) : Api_Peer :=
  if p.Next < k.Seq ∧ k.Seq < p.Next + 64 then { p with Early := insS p.Early (newE k) } else p
def delS (p : Api_Peer) (k : Api_Packet) : Api_Peer × List (List UInt8) :=
  if k.Seq = p.Next then ({ p with Next := (runS (p.Next + 1) p.Early).1, Early := (runS (p.Next + 1) p.Early).2.2 }, k.Data :: (runS (p.Next + 1) p.Early).2.1) else (p, [])

def vPk (k : Api_Packet) : Bool := bt k.Epoch 0 1073741824 && bt k.Seq (-1) 1099511627775 && bt k.Ack 0 1099511627776 && decide ((k.Data.length : Int) ≤ 8000)
def okA (p : Api_Peer) (k : Api_Packet) : Bool := vPk k && validS p && !decide (k.Epoch < p.Other)
def stepS (q : Api_Peer) (k : Api_Packet) : Api_Peer × List (List UInt8) := if k.To = q.Epoch then delS (keepS (ackS q k) k) k else (q, [])
def accS (p : Api_Peer) (k : Api_Packet) : Api_Peer × List (List UInt8) × Bool :=
  if okA p k = true then ((stepS (resetS p k) k).1, (stepS (resetS p k) k).2, decide (k.Epoch > p.Other)) else (p, [], false)

structure VK (k : Api_Packet) : Prop where
  e0 : 0 ≤ k.Epoch
  s0 : -1 ≤ k.Seq
  s1 : k.Seq ≤ 1099511627775
  a0 : 0 ≤ k.Ack
  a1 : k.Ack ≤ 1099511627776
  d : k.Data.length ≤ 8000
theorem vk_of {k : Api_Packet} (h : vPk k = true) : VK k := by
  unfold vPk bt at h
  simp only [Bool.and_eq_true, decide_eq_true_eq] at h
  obtain ⟨⟨⟨⟨h1, _⟩, h2, h3⟩, h4, h5⟩, h6⟩ := h
  exact ⟨h1, h2, h3, h4, h5, by omega⟩

/-- Less than a valid side: enough for what is done with it. -/
structure Vm (p : Api_Peer) : Prop where
  f0 : 0 ≤ p.First
  f1 : p.First ≤ 1099511627776
  n0 : 0 ≤ p.Next
  n1 : p.Next ≤ 1099511627776
  q : p.Queue.length ≤ 256
  es : p.Early.length ≤ 1000
  el : ∀ e ∈ p.Early, e.Seq ≤ 1099511627775 ∧ e.Data.length ≤ 8000

theorem Vd.m {p : Api_Peer} (h : Vd p) : Vm p := ⟨h.f0, h.f1, h.n0, h.n1, h.q, h.es, fun e he => by have := eok_mem h.early e he; exact ⟨by omega, this.2.2.2⟩⟩

theorem reset_vd {p : Api_Peer} {k : Api_Packet} (h : Vd p) : Vd (resetS p k) := by
  unfold resetS
  split
  · exact ⟨by simp, by simp, by simp, by simp, by simp, trivial, by simp⟩
  · exact h
theorem ack_vd {p : Api_Peer} {k : Api_Packet} (h : Vd p) (hk : VK k) : Vd (ackS p k) := by
  unfold ackS
  split
  · exact ⟨hk.a0, hk.a1, h.n0, h.n1, by have := h.q; simp; omega, h.early, h.es⟩
  · exact h
theorem insS_len (l : List Api_Packet) (x : Api_Packet) : (insS l x).length ≤ l.length + 1 := by
  induction l with
  | nil => simp [insS]
  | cons e r ih => unfold insS; split <;> (try split) <;> simp <;> omega
theorem insS_mem (l : List Api_Packet) (x : Api_Packet) : ∀ e ∈ insS l x, e = x ∨ e ∈ l := by
  induction l with
  | nil => intro e he; simp [insS] at he; exact .inl he
  | cons a r ih =>
    intro e he
    unfold insS at he
    split at he
    · rcases List.mem_cons.1 he with rfl | he
      · exact .inr (by simp)
      · rcases ih e he with h | h
        · exact .inl h
        · exact .inr (by simp [h])
    · split at he
      · exact .inr he
      · rcases List.mem_cons.1 he with rfl | he
        · exact .inl rfl
        · exact .inr he

theorem keep_vm {p : Api_Peer} {k : Api_Packet} (h : Vd p) (hl : p.Early.length ≤ 999) (hk : VK k) : Vm (keepS p k) := by
  unfold keepS
  split
  · refine ⟨h.f0, h.f1, h.n0, h.n1, h.q, by have := insS_len p.Early (newE k); simp only; omega, fun e he => ?_⟩
    rcases insS_mem _ _ e he with rfl | he
    · exact ⟨hk.s1, hk.d⟩
    · exact h.m.el e he
  · exact h.m

/-! ### The window's steps -/
theorem ack_w {q : Api_Peer} {k : Api_Packet} (h : Vm q) (hk : VK k) (d : List (List UInt8)) : window_side_acknowledge ⟨q, d⟩ k = some ⟨ackS q k, d⟩ := by
  have := h.f0; have := h.f1; have := hk.a0; have := hk.a1; have := h.q
  unfold window_side_acknowledge ackS
  simp only [lt1]
  rw [w64_id (x := k.Ack - q.First) (by omega)]
  by_cases h1 : q.First < k.Ack
  · rw [if_pos (by simp; omega), Option.bind_some]
    by_cases h2 : k.Ack ≤ q.First + (q.Queue.length : Int)
    · rw [if_pos (by simp; omega), if_pos (by unfold InB; omega), if_pos ⟨h1, h2⟩, List.take_of_length_le (by simp)]
    · rw [if_neg (by simp; omega), if_neg (fun hh => h2 hh.2)]
  · rw [if_neg (by simp; omega), Option.bind_some, if_neg (by simp), if_neg (fun hh => h1 hh.1)]

theorem keep_w {q : Api_Peer} {k : Api_Packet} (h : Vd q) (hl : q.Early.length ≤ 999) (hk : VK k) (d : List (List UInt8)) : window_side_keep ⟨q, d⟩ k = some ⟨keepS q k, d⟩ := by
  have := h.n0; have := h.n1; have := hk.s0; have := hk.s1; have := hk.d
  unfold window_side_keep keepS
  simp only
  rw [w64_id (x := q.Next + 64) (by omega)]
  by_cases h1 : k.Seq ≤ q.Next
  · rw [if_pos (by simpa using h1), Option.bind_some, if_pos rfl, if_neg (by omega)]
  rw [if_neg (by simpa using h1), Option.bind_some]
  by_cases h2 : k.Seq ≥ q.Next + 64
  · rw [if_pos (by simpa using h2), if_neg (by omega)]
  rw [if_neg (by simpa using h2), if_pos (by omega), search_eq h.early h.es (by omega) (by omega), Option.bind_some]
  obtain ⟨c1, _, _⟩ := cnt_spec (t := k.Seq) h.early
  by_cases hf : cnt k.Seq q.Early < q.Early.length ∧ (nth q.Early (cnt k.Seq q.Early)).Seq = k.Seq
  · rw [if_neg (by simp [hf]), insS_old (x := newE k) h.early hf]
  · rw [if_pos (by simp only [hf]; rfl)]
    unfold slices_Clone_59 slices_Insert_58 insertO
    rw [if_pos (fits56 (by omega)), own_eq (by omega)]
    simp only [lt1, Option.bind_some, List.nil_append]
    rw [if_pos ⟨by unfold InB; omega, rfl, fits56 (by omega)⟩, Option.bind_some, Int.toNat_natCast]
    have := insS_new (x := newE k) h.early hf
    rw [← this]
    rfl

theorem take_w {q : Api_Peer} {d : List (List UInt8)} {b : List UInt8} (hb : b.length ≤ 100000) (hd : d.length ≤ 99999) (h0 : 0 ≤ q.Next ∧ q.Next ≤ 1099511627776) : window_side_take ⟨q, d⟩ b = some ⟨{ q with Next := q.Next + 1 }, d ++ [b]⟩ := by
  unfold window_side_take
  rw [own_eq hb, Option.bind_some, if_pos (fits24 (by show d.length + 1 ≤ _; omega))]
  simp only [lt1]
  rw [w64_id (by omega)]

theorem del_w {q : Api_Peer} {k : Api_Packet} (h : Vm q) (hk : VK k) {d : List (List UInt8)} (hd : d.length ≤ 1000) : window_side_deliver ⟨q, d⟩ k = some ⟨(delS q k).1, d ++ (delS q k).2⟩ := by
  unfold window_side_deliver delS
  simp only
  by_cases h1 : k.Seq = q.Next
  case neg =>
    rw [if_pos (by simpa using h1), if_neg h1]; simp
  rw [if_neg (by simpa using h1), if_pos h1, take_w (by have := hk.d; omega) (by omega) ⟨h.n0, h.n1⟩, Option.bind_some]
  simp only [lt1]
  have hn1 : q.Next ≤ 1099511627775 := by have := hk.s1; omega
  obtain ⟨x, hx, rfl⟩ := loopO_rule (f := fun v : Int × Int × Int × List (List UInt8) × Int × List Api_Packet × Int × List (List UInt8) => window_side_deliver_b1 v.1 v.2.1 v.2.2.1 v.2.2.2.1 v.2.2.2.2.1 v.2.2.2.2.2.1 v.2.2.2.2.2.2.1 v.2.2.2.2.2.2.2)
    (fun v => ∃ n l out, v = (q.Epoch, q.Other, q.First, q.Queue, n, l, q.SentAt, out) ∧ 0 ≤ n ∧ n ≤ 1099511627776 ∧ (∀ e ∈ l, e.Seq ≤ 1099511627775 ∧ e.Data.length ≤ 8000) ∧ out.length + l.length ≤ 3000 ∧ (runS n l).1 = (runS (q.Next + 1) q.Early).1 ∧ (runS n l).2.2 = (runS (q.Next + 1) q.Early).2.2 ∧ out ++ (runS n l).2.1 = d ++ [k.Data] ++ (runS (q.Next + 1) q.Early).2.1)
    (fun v => v.2.2.2.2.2.1.length)
    (fun x => x = (q.Epoch, q.Other, q.First, q.Queue, (runS (q.Next + 1) q.Early).1, (runS (q.Next + 1) q.Early).2.2, q.SentAt, d ++ [k.Data] ++ (runS (q.Next + 1) q.Early).2.1)) (by
      rintro v ⟨n, l, out, rfl, a1, a2, a3, a4, a5, a6, a7⟩
      show (∃ v', window_side_deliver_b1 q.Epoch q.Other q.First q.Queue n l q.SentAt out = some (.inl v') ∧ _) ∨ (∃ x, window_side_deliver_b1 q.Epoch q.Other q.First q.Queue n l q.SentAt out = some (.inr x) ∧ _)
      cases l with
      | nil =>
        right
        refine ⟨(q.Epoch, q.Other, q.First, q.Queue, n, [], q.SentAt, out), ?_, ?_⟩
        · rfl
        · rw [← a5, ← a6, ← a7]; simp [runS]
      | cons e r =>
        obtain ⟨b1, b2⟩ := a3 e (by simp)
        have hi0 : InR 0 (e :: r).length := by unfold InR; simp
        by_cases he : e.Seq = n
        · left
          have hs : window_side_deliver_b1 q.Epoch q.Other q.First q.Queue n (e :: r) q.SentAt out = some (.inl (q.Epoch, q.Other, q.First, q.Queue, n + 1, r, q.SentAt, out ++ [e.Data])) := by
            unfold window_side_deliver_b1
            rw [if_pos (by simp)]
            simp only [hi0, if_true, Option.bind_some]
            rw [if_pos (by show (e.Seq == n) = true; simpa using he), take_w (by show e.Data.length ≤ _; omega) (by simp at a4; omega) ⟨a1, a2⟩, Option.bind_some]
            simp only [lt1]
            rw [if_pos (by unfold InB; simp)]
            have : ((e :: r).drop 1).take ((e :: r).length - 1) = r := by simp
            simp only [this]
            rfl
          refine ⟨_, hs, ⟨n + 1, r, out ++ [e.Data], rfl, by omega, by omega, fun e' he' => a3 e' (by simp [he']), by simp at a4 ⊢; omega, ?_, ?_, ?_⟩, by simp⟩
          · rw [← a5, runS, if_pos he]
          · rw [← a6, runS, if_pos he]
          · rw [← a7]
            simp [runS, he]
        · right
          refine ⟨(q.Epoch, q.Other, q.First, q.Queue, n, e :: r, q.SentAt, out), ?_, ?_⟩
          · unfold window_side_deliver_b1
            rw [if_pos (by simp)]
            simp only [hi0, if_true, Option.bind_some]
            rw [if_neg (by show ¬ (e.Seq == n) = true; simpa using he)]
          · rw [← a5, ← a6, ← a7]; simp [runS, he]) (v0 := (q.Epoch, q.Other, q.First, q.Queue, q.Next + 1, q.Early, q.SentAt, d ++ [k.Data]))
      ⟨q.Next + 1, q.Early, d ++ [k.Data], rfl, by have := h.n0; omega, by omega, h.el, by have := h.es; simp; omega, rfl, rfl, rfl⟩ (by have := h.es; simp; omega)
  rw [hx, Option.bind_some]
  simp

theorem acc_w (p : Api_Peer) (k : Api_Packet) (hs : p.Early.length ≤ 900) : window_Accept p k = some (accS p k) := by
  unfold window_Accept accS
  simp only [between_eq, Option.bind_some]
  have hf : (if bt k.Epoch 0 1073741824 = true then if bt k.Seq (-1) 1099511627775 = true then if bt k.Ack 0 1099511627776 = true then some (decide ((k.Data.length : Int) ≤ 8000)) else some false else some false else some false) = some (vPk k) := by
    unfold vPk
    cases bt k.Epoch 0 1073741824 <;> cases bt k.Seq (-1) 1099511627775 <;> cases bt k.Ack 0 1099511627776 <;> simp
  rw [hf, Option.bind_some, valid_eq p (by omega)]
  have hg : (if (!vPk k) = true then some true else (some (validS p)).bind fun y => if (!y) = true then some true else some (decide (k.Epoch < p.Other))) = some (!okA p k) := by
    unfold okA
    cases vPk k <;> cases validS p <;> cases decide (k.Epoch < p.Other) <;> rfl
  rw [hg, Option.bind_some]
  cases ho : okA p k
  case false => rfl
  have ho' := ho
  unfold okA at ho'
  simp only [Bool.and_eq_true, Bool.not_eq_true'] at ho'
  have hk := vk_of ho'.1.1
  have hv := reset_vd (k := k) (vd_of ho'.1.2 (by omega))
  have hE : (resetS p k).Epoch = p.Epoch := by unfold resetS; split <;> rfl
  have hl : (resetS p k).Early.length ≤ 900 := by unfold resetS; split <;> first | (simp; done) | exact hs
  simp only [Bool.not_true, Bool.false_eq_true, if_false, if_true, lt1]
  have hq : (if decide (k.Epoch > p.Other) = true then some (k.Epoch, (0 : Int), ([] : List (List UInt8)), (0 : Int), ([] : List Api_Packet), (-1 : Int)) else some (p.Other, p.First, p.Queue, p.Next, p.Early, p.SentAt)) =
      some ((resetS p k).Other, (resetS p k).First, (resetS p k).Queue, (resetS p k).Next, (resetS p k).Early, (resetS p k).SentAt) := by
    unfold resetS
    by_cases h : k.Epoch > p.Other
    · rw [if_pos (by simpa using h), if_pos h]
    · rw [if_neg (by simpa using h), if_neg h]
  rw [hq, ← hE]
  generalize resetS p k = q at *
  simp only [Option.bind_some]
  unfold stepS
  by_cases ht : k.To = q.Epoch
  case neg => rw [if_neg (by simpa using ht), if_neg ht]; rfl
  rw [if_pos (by simpa using ht), if_pos ht]
  have ha := ack_vd hv hk
  have hal : (ackS q k).Early.length ≤ 900 := by unfold ackS; split <;> exact hl
  rw [show ({ Peer := { Epoch := q.Epoch, Other := q.Other, First := q.First, Queue := q.Queue, Next := q.Next, Early := q.Early, SentAt := q.SentAt }, delivered := [] } : Window_side) = ⟨q, []⟩ from rfl, ack_w hv.m hk, Option.bind_some]
  simp only []
  rw [keep_w ha (by omega) hk, Option.bind_some]
  simp only []
  rw [del_w (keep_vm ha (by omega) hk) hk (by simp), Option.bind_some]
  rfl

end Go.Proofs.Ytomjphpnpcgacaa
/-
  Valid sides, and what is done to them; two sides that talk to each other.
-/
namespace Go.Proofs.Ytomjphpnpcgacaa
open Go.Rv
set_option linter.unusedVariables false
set_option linter.unusedSimpArgs false

/-- A valid side, in words. -/
structure VS (p : Api_Peer) : Prop where
  e0 : 0 ≤ p.Epoch
  e1 : p.Epoch ≤ 1073741824
  o0 : -1 ≤ p.Other
  o1 : p.Other ≤ 1073741824
  t0 : -1 ≤ p.SentAt
  t1 : p.SentAt ≤ 1073741824
  f0 : 0 ≤ p.First
  n0 : 0 ≤ p.Next
  n1 : p.Next ≤ 1099511627776
  q : p.Queue.length ≤ 256
  fq : p.First + (p.Queue.length : Int) ≤ 1099511627776
  qd : ∀ m ∈ p.Queue, m.length ≤ 8000
  early : EOk p.Next p.Next p.Early

theorem nth_mem {α : Type} [Inhabited α] {l : List α} {k : Nat} (h : k < l.length) : nth l k ∈ l := by
  unfold nth
  rw [List.getD_eq_getElem?_getD, List.getElem?_eq_getElem h]
  exact List.getElem_mem h

theorem VS.valid {p : Api_Peer} (h : VS p) : validS p = true := by
  have h1 : okEs p = true := by
    unfold okEs
    rw [List.all_eq_true]
    intro k hk
    have := (eok_of (next := p.Next) ⟨h.n0, h.n1⟩ p.Early p.Next).2 h.early k (List.mem_range.1 hk)
    rw [Bool.not_eq_true']
    cases k <;> exact this
  have h2 : (List.range p.Queue.length).all (okQ p) = true := by
    rw [List.all_eq_true]
    intro k hk
    have := h.qd _ (nth_mem (List.mem_range.1 hk))
    simpa [okQ] using this
  have h3 : okH p = true := by
    have := h.f0; have := h.fq; have := h.e0; have := h.e1; have := h.o0; have := h.o1; have := h.t0; have := h.t1; have := h.n0; have := h.n1; have := h.q
    unfold okH bt
    rw [w64_id (by omega)]
    simp only [Bool.and_eq_true, decide_eq_true_eq, Bool.not_eq_true', decide_eq_false_iff_not]
    omega
  unfold validS
  rw [h1, h2, h3]
  rfl

theorem eok_ins {next : Int} {x : Api_Packet} (hx : x.Seq < next + 64 ∧ x.Seq < 1099511627776 ∧ x.Data.length ≤ 8000 ∧ x.Epoch = 0 ∧ x.To = 0 ∧ x.Ack = 0) : ∀ {l : List Api_Packet} {last : Int}, EOk next last l → last < x.Seq → EOk next last (insS l x)
  | [], last, _, h => ⟨⟨h, hx⟩, trivial⟩
  | e :: r, last, h, hl => by
    unfold insS
    by_cases h1 : e.Seq < x.Seq
    · rw [if_pos h1]
      exact ⟨h.1, eok_ins hx h.2 h1⟩
    · rw [if_neg h1]
      by_cases h2 : e.Seq = x.Seq
      · rw [if_pos h2]; exact h
      · rw [if_neg h2]
        exact ⟨⟨hl, hx⟩, ⟨by omega, h.1.2⟩, h.2⟩

theorem eok_next {next next' : Int} (hn : next ≤ next') : ∀ {l : List Api_Packet} {last : Int}, EOk next last l → EOk next' last l
  | [], _, _ => trivial
  | e :: r, last, h => ⟨⟨h.1.1, by have := h.1.2.1; omega, h.1.2.2⟩, eok_next hn h.2⟩

theorem eok_len {next : Int} : ∀ {l : List Api_Packet} {last : Int}, EOk next last l → (l.length : Int) ≤ max 0 (next + 63 - last)
  | [], _, _ => by simp; omega
  | e :: r, last, h => by
    have := eok_len h.2
    have := h.1.1
    have := h.1.2.1
    simp only [List.length_cons]
    omega

theorem VS.es {p : Api_Peer} (h : VS p) : p.Early.length ≤ 63 := by
  have := eok_len h.early
  omega

theorem runS_ge (l : List Api_Packet) : ∀ n, n ≤ (runS n l).1 := by
  induction l with
  | nil => intro n; exact Int.le_refl _
  | cons e r ih =>
    intro n
    unfold runS
    split
    · have := ih (n + 1); simp only; omega
    · exact Int.le_refl _

theorem runS_eok {next : Int} : ∀ (l : List Api_Packet) (n last : Int), EOk next last l → n - 1 ≤ last → next ≤ n → n ≤ 1099511627776 → EOk (runS n l).1 (runS n l).1 (runS n l).2.2 ∧ (runS n l).1 ≤ 1099511627776
  | [], n, last, _, _, _, hn => ⟨trivial, hn⟩
  | e :: r, n, last, h, h1, h2, hn => by
    have ha := h.1.1
    have hb := h.1.2.2.1
    unfold runS
    by_cases he : e.Seq = n
    · rw [if_pos he]
      exact runS_eok r (n + 1) e.Seq h.2 (by omega) (by omega) (by omega)
    · rw [if_neg he]
      refine ⟨eok_next h2 ⟨⟨by omega, h.1.2⟩, h.2⟩, hn⟩

theorem ack_vs {p : Api_Peer} {k : Api_Packet} (h : VS p) (hk : VK k) : VS (ackS p k) := by
  unfold ackS
  by_cases hc : p.First < k.Ack ∧ k.Ack ≤ p.First + (p.Queue.length : Int)
  · rw [if_pos hc]
    have := h.fq; have := h.q; have := h.f0
    exact ⟨h.e0, h.e1, h.o0, h.o1, by simp, by simp, hk.a0, h.n0, h.n1, by simp; omega, by simp; omega, fun m hm => h.qd m (List.mem_of_mem_drop hm), h.early⟩
  · rw [if_neg hc]; exact h

theorem keep_vs {p : Api_Peer} {k : Api_Packet} (h : VS p) (hk : VK k) : VS (keepS p k) := by
  unfold keepS
  by_cases hc : p.Next < k.Seq ∧ k.Seq < p.Next + 64
  · rw [if_pos hc]
    have := hk.s1
    exact ⟨h.e0, h.e1, h.o0, h.o1, h.t0, h.t1, h.f0, h.n0, h.n1, h.q, h.fq, h.qd, eok_ins (x := newE k) ⟨hc.2, by show k.Seq < _; omega, hk.d, rfl, rfl, rfl⟩ h.early hc.1⟩
  · rw [if_neg hc]; exact h

theorem del_vs {p : Api_Peer} {k : Api_Packet} (h : VS p) (hk : VK k) : VS (delS p k).1 := by
  unfold delS
  by_cases hc : k.Seq = p.Next
  · rw [if_pos hc]
    have := hk.s1; have := h.n0
    have hr := runS_eok p.Early (p.Next + 1) p.Next h.early (by omega) (by omega) (by omega)
    have hg := runS_ge p.Early (p.Next + 1)
    exact ⟨h.e0, h.e1, h.o0, h.o1, h.t0, h.t1, h.f0, by show 0 ≤ (runS (p.Next + 1) p.Early).1; omega, hr.2, h.q, h.fq, h.qd, hr.1⟩
  · rw [if_neg hc]; exact h

theorem reset_vs {p : Api_Peer} {k : Api_Packet} (h : VS p) (he : 0 ≤ k.Epoch ∧ k.Epoch ≤ 1073741824) : VS (resetS p k) := by
  unfold resetS
  split
  · exact ⟨h.e0, h.e1, by simp; omega, he.2, by simp, by simp, by simp, by simp, by simp, by simp, by simp, by simp, trivial⟩
  · exact h

theorem vk_e {k : Api_Packet} (h : vPk k = true) : 0 ≤ k.Epoch ∧ k.Epoch ≤ 1073741824 := by
  unfold vPk bt at h
  simp only [Bool.and_eq_true, decide_eq_true_eq] at h
  exact h.1.1.1

/-! ### New, Offer, Emit -/
def newS (e : Int) : Api_Peer := { Epoch := e, Other := -1, First := 0, Queue := [], Next := 0, Early := [], SentAt := -1 }

theorem new_w (e : Int) : ∃ r, window_New e = some r ∧ (r.2 = 0 → r.1 = newS e ∧ 0 ≤ e ∧ e ≤ 1073741824) := by
  unfold window_New
  simp only [between_eq, Option.bind_some]
  cases hb : bt e 0 1073741824
  · exact ⟨_, rfl, fun h => by cases h⟩
  · refine ⟨_, rfl, fun _ => ⟨rfl, ?_⟩⟩
    simpa [bt] using hb

theorem new_vs {e : Int} (h : 0 ≤ e ∧ e ≤ 1073741824) : VS (newS e) :=
  ⟨h.1, h.2, by simp [newS], by simp [newS], by simp [newS], by simp [newS], by simp [newS], by simp [newS], by simp [newS], by simp [newS], by simp [newS], by simp [newS], trivial⟩

theorem offer_w {p : Api_Peer} (h : VS p) (d : List UInt8) : ∃ r, window_Offer p d = some r ∧ (r.2 = 0 → r.1 = { p with Queue := p.Queue ++ [d] } ∧ d.length ≤ 8000 ∧ p.Queue.length < 256 ∧ p.First + (p.Queue.length : Int) < 1099511627776) := by
  have hq := h.q; have hf := h.f0; have hfq := h.fq; have hes := h.es
  unfold window_Offer
  rw [valid_eq p (by omega), h.valid, Option.bind_some]
  simp only [Bool.not_true, Bool.not_false, Bool.false_eq_true, if_false, if_true, Option.bind_some]
  cases h1 : decide ((d.length : Int) > 8000)
  case true => exact ⟨_, rfl, fun h => by cases h⟩
  simp only [Bool.not_true, Bool.not_false, Bool.false_eq_true, if_false, if_true, Option.bind_some]
  have hE : (if ((p.Queue.length : Int) == 256) = true then some true else some (w64 (p.First + (p.Queue.length : Int)) == 1099511627776)) = some ((p.Queue.length : Int) == 256 || w64 (p.First + (p.Queue.length : Int)) == 1099511627776) := by
    cases ((p.Queue.length : Int) == 256) <;> rfl
  simp only [hE, Option.bind_some]
  cases h2 : ((p.Queue.length : Int) == 256 || w64 (p.First + (p.Queue.length : Int)) == 1099511627776)
  case true => exact ⟨_, rfl, fun h => by cases h⟩
  rw [w64_id (by omega)] at h2
  simp only [decide_eq_false_iff_not, Bool.or_eq_false_iff, beq_eq_false_iff_ne] at h1 h2
  have hd : d.length ≤ 8000 := by omega
  simp only [Bool.not_true, Bool.not_false, Bool.false_eq_true, if_false, if_true, Option.bind_some]
  unfold slices_Clone_38
  rw [if_pos (fits24 (by omega)), own_eq (by omega)]
  simp only [lt1, Option.bind_some, List.nil_append]
  rw [if_pos (fits24 (by omega))]
  exact ⟨_, rfl, fun _ => ⟨rfl, hd, by omega, by omega⟩⟩

def headP (p : Api_Peer) : Api_Packet := { Epoch := p.Epoch, To := p.Other, Seq := -1, Ack := p.Next, Data := [] }
/-- Is it time to send again? -/
def dueS (p : Api_Peer) (now : Int) : Prop := p.SentAt < 0 ∨ p.SentAt > now ∨ now - p.SentAt ≥ 10
instance (p : Api_Peer) (now : Int) : Decidable (dueS p now) := inferInstanceAs (Decidable (_ ∨ _))
def emitS (p : Api_Peer) (now : Int) : Api_Peer × List Api_Packet :=
  if p.Queue.length = 0 ∨ ¬ dueS p now then (p, [headP p]) else ({ p with SentAt := now }, (List.range (min 16 p.Queue.length)).map (pk p))

theorem emit_w {p : Api_Peer} (h : VS p) (now : Int) (hn' : 0 ≤ now ∧ now ≤ 1073741824) : window_Emit p now = some (emitS p now) := by
  have hq := h.q; have hes := h.es; have t1 := h.t0; have t2 := h.t1
  have hd : ∀ k, k < p.Queue.length → (nth p.Queue k).length ≤ 8000 := fun k hk => h.qd _ (nth_mem hk)
  unfold window_Emit
  rw [valid_eq p (by omega), h.valid, Option.bind_some]
  simp only [between_eq, Option.bind_some]
  have hb : bt now 0 1073741824 = true := by simpa [bt] using hn'
  rw [hb]
  simp only [Bool.not_true, Bool.not_false, Bool.false_eq_true, if_false, if_true, Option.bind_some]
  have hdue : (if decide (p.SentAt < 0) = true then some true else if decide (p.SentAt > now) = true then some true else some (decide (w64 (now - p.SentAt) ≥ 10))) = some (decide (dueS p now)) := by
    unfold dueS
    rw [w64_id (by omega)]
    by_cases h1 : p.SentAt < 0 <;> by_cases h2 : p.SentAt > now <;> by_cases h3 : now - p.SentAt ≥ 10 <;> simp [h1, h2, h3]
  simp only [hdue, Option.bind_some]
  by_cases h0 : p.Queue.length = 0
  · have h0' : ((p.Queue.length : Int) == 0) = true := by simp [h0]
    have he : emitS p now = (p, [headP p]) := by unfold emitS; rw [if_pos (.inl h0)]
    rw [h0', he]
    rfl
  have h0' : ((p.Queue.length : Int) == 0) = false := by rw [beq_eq_false_iff_ne]; omega
  rw [h0']
  by_cases hdd : dueS p now
  case neg =>
    have he : emitS p now = (p, [headP p]) := by unfold emitS; rw [if_pos (.inr hdd)]
    rw [he]
    simp only [hdd, decide_false, Bool.not_true, Bool.not_false, Bool.false_eq_true, if_false, if_true, Option.bind_some]
    rfl
  have he : emitS p now = ({ p with SentAt := now }, (List.range (min 16 p.Queue.length)).map (pk p)) := by unfold emitS; rw [if_neg (by intro hh; rcases hh with hh | hh; exact h0 hh; exact hh hdd)]
  rw [he]
  have hmn : mn64 16 (p.Queue.length : Int) = ((min 16 p.Queue.length : Nat) : Int) := by unfold mn64; split <;> omega
  simp only [hdd, decide_true, Bool.not_true, Bool.not_false, Bool.false_eq_true, if_false, if_true, Option.bind_some]
  rw [hmn, if_pos (by unfold InB; omega), Int.toNat_natCast]
  simp only [lt1]
  have hl : (p.Queue.take (min 16 p.Queue.length)).length = min 16 p.Queue.length := by simp
  rw [hl, emit_loop p hq hd _ rfl]
  rfl

theorem emit_vs {p : Api_Peer} (h : VS p) {now : Int} (hn : 0 ≤ now ∧ now ≤ 1073741824) : VS (emitS p now).1 := by
  unfold emitS
  split
  · exact h
  · exact ⟨h.e0, h.e1, h.o0, h.o1, by simp; omega, hn.2, h.f0, h.n0, h.n1, h.q, h.fq, h.qd, h.early⟩
end Go.Proofs.Ytomjphpnpcgacaa
/-
  What holds of two sides, of the packets under way and of what was offered and delivered.
-/
namespace Go.Proofs.Ytomjphpnpcgacaa
open Go.Rv
set_option linter.unusedVariables false
set_option linter.unusedSimpArgs false

/-- A packet of B's session that is going on. -/
def PkOk (B : Api_Peer) (off : List (List UInt8)) (k : Api_Packet) : Prop :=
  k.Ack ≤ B.Next ∧ (0 ≤ k.Seq → ∃ n : Nat, k.Seq = (n : Int) ∧ n < off.length ∧ k.Data = nth off n)
def EOf (off : List (List UInt8)) (e : Api_Packet) : Prop := ∃ m : Nat, e.Seq = (m : Int) ∧ m < off.length ∧ e.Data = nth off m
def Good (A B : Api_Peer) (off del : List (List UInt8)) : Prop :=
  ∃ n : Nat, A.Next = (n : Int) ∧ n ≤ off.length ∧ del = off.take n ∧ (∀ e ∈ A.Early, EOf off e) ∧ A.First ≤ B.Next
def Fresh (A : Api_Peer) (del : List (List UInt8)) : Prop := A.Next = 0 ∧ del = [] ∧ A.Early = [] ∧ A.First = 0

/-- Of the messages from B to A: w the packets under way to A, off what B was offered, del what A has delivered. -/
structure J (A B : Api_Peer) (w : List Api_Packet) (off del : List (List UInt8)) : Prop where
  pk : ∀ k ∈ w, k.Epoch ≤ B.Epoch ∧ (k.Epoch = B.Epoch → k.To ≤ B.Other ∧ (k.To = B.Other → PkOk B off k))
  oth : A.Other ≤ B.Epoch
  snd : ∃ f : Nat, B.First = (f : Int) ∧ f ≤ off.length ∧ B.Queue = off.drop f
  rcv : A.Other = B.Epoch → (B.Other = A.Epoch → Good A B off del) ∧ (B.Other ≠ A.Epoch → Fresh A del)

theorem J.sub {A B : Api_Peer} {w w' : List Api_Packet} {off del : List (List UInt8)} (h : J A B w off del) (hw : ∀ k ∈ w', k ∈ w) : J A B w' off del :=
  ⟨fun k hk => h.pk k (hw k hk), h.oth, h.snd, h.rcv⟩

theorem J.sender {A B B' : Api_Peer} {w : List Api_Packet} {off del : List (List UInt8)} (h : J A B w off del) (he : B'.Epoch = B.Epoch) (ho : B'.Other = B.Other) (hn : B.Next ≤ B'.Next)
    (hs : ∃ f : Nat, B'.First = (f : Int) ∧ f ≤ off.length ∧ B'.Queue = off.drop f) : J A B' w off del := by
  refine ⟨fun k hk => ?_, by rw [he]; exact h.oth, hs, fun hh => ?_⟩
  · obtain ⟨h1, h2⟩ := h.pk k hk
    refine ⟨by rw [he]; exact h1, fun h3 => ?_⟩
    rw [he] at h3
    obtain ⟨h4, h5⟩ := h2 h3
    refine ⟨by rw [ho]; exact h4, fun h6 => ?_⟩
    rw [ho] at h6
    obtain ⟨h7, h8⟩ := h5 h6
    exact ⟨by omega, h8⟩
  · rw [he] at hh
    obtain ⟨h1, h2⟩ := h.rcv hh
    rw [ho]
    refine ⟨fun h3 => ?_, h2⟩
    obtain ⟨n, q1, q2, q3, q4, q5⟩ := h1 h3
    exact ⟨n, q1, q2, q3, q4, by omega⟩

theorem nth_app {l r : List (List UInt8)} {n : Nat} (h : n < l.length) : nth (l ++ r) n = nth l n := by
  unfold nth
  rw [List.getD_eq_getElem?_getD, List.getD_eq_getElem?_getD, List.getElem?_append_left h]

/-- B is offered a message. -/
theorem J.offer {A B : Api_Peer} {w : List Api_Packet} {off del : List (List UInt8)} (h : J A B w off del) (d : List UInt8) : J A { B with Queue := B.Queue ++ [d] } w (off ++ [d]) del := by
  have hE : ∀ e, EOf off e → EOf (off ++ [d]) e := fun e ⟨m, h1, h2, h3⟩ => ⟨m, h1, by simp; omega, by rw [nth_app h2]; exact h3⟩
  refine ⟨fun k hk => ?_, h.oth, ?_, fun hh => ?_⟩
  · obtain ⟨h1, h2⟩ := h.pk k hk
    refine ⟨h1, fun h3 => ?_⟩
    obtain ⟨h4, h5⟩ := h2 h3
    refine ⟨h4, fun h6 => ?_⟩
    obtain ⟨h7, h8⟩ := h5 h6
    refine ⟨h7, fun h9 => ?_⟩
    obtain ⟨n, q1, q2, q3⟩ := h8 h9
    exact ⟨n, q1, by simp; omega, by rw [nth_app q2]; exact q3⟩
  · obtain ⟨f, q1, q2, q3⟩ := h.snd
    refine ⟨f, q1, by simp; omega, ?_⟩
    show B.Queue ++ [d] = _
    rw [q3, List.drop_append_of_le_length q2]
  · obtain ⟨h1, h2⟩ := h.rcv hh
    refine ⟨fun h3 => ?_, h2⟩
    obtain ⟨n, q1, q2, q3, q4, q5⟩ := h1 h3
    exact ⟨n, q1, by simp; omega, by rw [List.take_append_of_le_length q2]; exact q3, fun e he => hE e (q4 e he), q5⟩

/-- A is offered a message. -/
theorem J.offered {A B : Api_Peer} {w : List Api_Packet} {off del : List (List UInt8)} (h : J A B w off del) (q : List (List UInt8)) : J { A with Queue := q } B w off del := ⟨h.pk, h.oth, h.snd, h.rcv⟩

theorem emit_pk {B : Api_Peer} {off : List (List UInt8)} (hv : VS B) (hs : ∃ f : Nat, B.First = (f : Int) ∧ f ≤ off.length ∧ B.Queue = off.drop f) (now : Int) :
    ∀ k ∈ (emitS B now).2, k.Epoch = B.Epoch ∧ k.To = B.Other ∧ PkOk B off k := by
  intro k hk
  unfold emitS at hk
  split at hk
  · rw [List.mem_singleton] at hk
    subst hk
    exact ⟨rfl, rfl, Int.le_refl _, fun h => absurd h (by simp [headP])⟩
  · rw [List.mem_map] at hk
    obtain ⟨i, hi, rfl⟩ := hk
    rw [List.mem_range] at hi
    have hq : i < B.Queue.length := by omega
    refine ⟨rfl, rfl, Int.le_refl _, fun _ => ?_⟩
    obtain ⟨f, h1, h2, h3⟩ := hs
    have := hv.fq; have := hv.f0
    refine ⟨f + i, ?_, ?_, ?_⟩
    · show w64 (B.First + (i : Int)) = _
      rw [w64_id (by omega), h1]; omega
    · rw [h3, List.length_drop] at hq; omega
    · show nth B.Queue i = _
      rw [h3]
      unfold nth
      rw [List.getD_eq_getElem?_getD, List.getD_eq_getElem?_getD, List.getElem?_drop]

/-- B emits. -/
theorem J.emit {A B : Api_Peer} {w : List Api_Packet} {off del : List (List UInt8)} (h : J A B w off del) (hv : VS B) (now : Int) : J A (emitS B now).1 (w ++ (emitS B now).2) off del := by
  have hpk := emit_pk hv h.snd now
  have h1 : J A B (w ++ (emitS B now).2) off del := by
    refine ⟨fun k hk => ?_, h.oth, h.snd, h.rcv⟩
    rcases List.mem_append.1 hk with hk | hk
    · exact h.pk k hk
    · obtain ⟨q1, q2, q3⟩ := hpk k hk
      exact ⟨by omega, fun _ => ⟨by omega, fun _ => q3⟩⟩
  generalize (emitS B now).2 = l at h1
  unfold emitS
  split
  · exact h1
  · exact ⟨h1.pk, h1.oth, h1.snd, h1.rcv⟩
/-- A emits. -/
theorem J.emitted {A B : Api_Peer} {w : List Api_Packet} {off del : List (List UInt8)} (h : J A B w off del) (now : Int) : J (emitS A now).1 B w off del := by
  unfold emitS
  split
  · exact h
  · exact ⟨h.pk, h.oth, h.snd, h.rcv⟩

/-- A starts again. -/
theorem J.restart {A B : Api_Peer} {w : List Api_Packet} {off del : List (List UInt8)} (h : J A B w off del) (hB : VS B) (e : Int) : J (newS e) B w off [] := by
  have := hB.e0
  refine ⟨h.pk, by show -1 ≤ B.Epoch; omega, h.snd, fun hh => ?_⟩
  have : (-1 : Int) = B.Epoch := hh
  omega
/-- B starts again. -/
theorem J.restarted {A B : Api_Peer} {w : List Api_Packet} {off del : List (List UInt8)} (h : J A B w off del) {e : Int} (he : B.Epoch < e) : J A (newS e) w [] del := by
  have ho := h.oth
  refine ⟨fun k hk => ?_, by show A.Other ≤ e; omega, ⟨0, rfl, Nat.le_refl _, rfl⟩, fun hh => ?_⟩
  · have := (h.pk k hk).1
    refine ⟨by show k.Epoch ≤ e; omega, fun h2 => ?_⟩
    have : k.Epoch = e := h2
    omega
  · have : A.Other = e := hh
    omega

theorem take_nth {off : List (List UInt8)} {n : Nat} (h : n < off.length) : off.take n ++ [nth off n] = off.take (n + 1) := by
  rw [List.take_add_one]
  congr 1
  unfold nth
  rw [List.getD_eq_getElem?_getD, List.getElem?_eq_getElem h]
  rfl

theorem runS_good {off : List (List UInt8)} : ∀ (l : List Api_Packet) (n : Nat), n ≤ off.length → (∀ e ∈ l, EOf off e) →
    ∃ m : Nat, (runS (n : Int) l).1 = (m : Int) ∧ n ≤ m ∧ m ≤ off.length ∧ off.take n ++ (runS (n : Int) l).2.1 = off.take m ∧ ∀ e ∈ (runS (n : Int) l).2.2, EOf off e
  | [], n, hn, _ => ⟨n, rfl, Nat.le_refl _, hn, by simp [runS], fun e he => by cases he⟩
  | e :: r, n, hn, he => by
    unfold runS
    by_cases hc : e.Seq = (n : Int)
    · rw [if_pos hc]
      obtain ⟨m, h1, h2, h3⟩ := he e (by simp)
      have hmn : m = n := by omega
      subst hmn
      obtain ⟨m', q1, q2, q3, q4, q5⟩ := runS_good r (m + 1) h2 (fun e' h' => he e' (by simp [h']))
      have e1 : ((m + 1 : Nat) : Int) = (m : Int) + 1 := by omega
      rw [e1] at q1 q4 q5
      refine ⟨m', q1, by omega, q3, ?_, q5⟩
      rw [← q4, ← take_nth h2, h3]
      simp
    · rw [if_neg hc]
      exact ⟨n, rfl, Nat.le_refl _, hn, by simp, he⟩

/-- A takes a packet of B's. -/
theorem J.accept {A B : Api_Peer} {wA wB : List Api_Packet} {offA offB delA delB : List (List UInt8)} (h : J A B wA offB delA) (h' : J B A wB offA delB) (hA : VS A) (hB : VS B) {k : Api_Packet} (hk : k ∈ wA) :
    J (accS A k).1 B wA offB ((if (accS A k).2.2 = true then [] else delA) ++ (accS A k).2.1) ∧ J B (accS A k).1 wB (if (accS A k).2.2 = true then [] else offA) delB ∧ VS (accS A k).1 := by
  unfold accS
  by_cases ho : okA A k = true
  case neg =>
    rw [if_neg ho]
    simp only [Bool.false_eq_true, if_false, List.append_nil]
    exact ⟨h, h', hA⟩
  rw [if_pos ho]
  simp only
  unfold okA at ho
  simp only [Bool.and_eq_true, Bool.not_eq_true', decide_eq_false_iff_not] at ho
  obtain ⟨⟨hv, _⟩, hge⟩ := ho
  have hK := vk_of hv
  have hKe := vk_e hv
  obtain ⟨hpe, hpk⟩ := h.pk k hk
  -- the reset
  obtain ⟨q, hq⟩ : ∃ q, q = resetS A k := ⟨_, rfl⟩
  have hqv : VS q := by rw [hq]; exact reset_vs hA hKe
  obtain ⟨offq, hoffq⟩ : ∃ x, x = (if decide (k.Epoch > A.Other) = true then [] else offA) := ⟨_, rfl⟩
  obtain ⟨delq, hdelq⟩ : ∃ x, x = (if decide (k.Epoch > A.Other) = true then [] else delA) := ⟨_, rfl⟩
  rw [← hq, ← hoffq, ← hdelq]
  have stage1 : q.Epoch = A.Epoch ∧ q.Other = k.Epoch ∧ J q B wA offB delq ∧ J B q wB offq delB := by
    by_cases hr : k.Epoch > A.Other
    · have hr' : decide (k.Epoch > A.Other) = true := by simpa using hr
      rw [hr', if_pos rfl] at hoffq hdelq
      subst hoffq hdelq
      have e : q = { Epoch := A.Epoch, Other := k.Epoch, First := 0, Queue := [], Next := 0, Early := [], SentAt := -1 } := by rw [hq]; unfold resetS; rw [if_pos hr]
      subst e
      refine ⟨rfl, rfl, ⟨h.pk, hpe, h.snd, fun hh => ⟨fun h3 => ⟨0, rfl, Nat.zero_le _, by simp, (fun e he => by cases he), (by show (0 : Int) ≤ B.Next; exact hB.n0)⟩, fun _ => ⟨rfl, rfl, rfl, rfl⟩⟩⟩, ⟨fun k' hk' => ?_, h'.oth, ⟨0, rfl, Nat.le_refl _, rfl⟩, fun hh => ?_⟩⟩
      · obtain ⟨p1, p2⟩ := h'.pk k' hk'
        refine ⟨p1, fun h3 => ?_⟩
        have p3 := (p2 h3).1
        refine ⟨by show k'.To ≤ k.Epoch; omega, fun h4 => ?_⟩
        have : k'.To = k.Epoch := h4
        omega
      · have hBA : B.Other = A.Epoch := hh
        have hne : A.Other ≠ B.Epoch := by omega
        obtain ⟨f1, f2, f3, f4⟩ := (h'.rcv hBA).2 hne
        refine ⟨fun _ => ⟨0, f1, Nat.le_refl _, (by rw [f2]; rfl), (by rw [f3]; intro e he; cases he), (by rw [f4]; exact Int.le_refl _)⟩, fun _ => ⟨f1, f2, f3, f4⟩⟩
    · have hr' : decide (k.Epoch > A.Other) = false := by simpa using hr
      rw [hr'] at hoffq hdelq
      simp only [Bool.false_eq_true, if_false] at hoffq hdelq
      subst hoffq hdelq
      have e : q = A := by rw [hq]; unfold resetS; rw [if_neg hr]
      subst e
      exact ⟨rfl, by omega, h, h'⟩
  clear hq hoffq hdelq
  obtain ⟨e1, e2, j1, j2⟩ := stage1
  unfold stepS
  by_cases ht : k.To = q.Epoch
  case neg =>
    rw [if_neg ht]
    simp only [List.append_nil]
    exact ⟨j1, j2, hqv⟩
  rw [if_pos ht]
  -- a packet of the session that is going on
  have cur : q.Other = B.Epoch → B.Other = q.Epoch ∧ PkOk B offB k := by
    intro hh
    have h3 : k.Epoch = B.Epoch := by omega
    obtain ⟨h4, h5⟩ := hpk h3
    have h6 := j2.oth
    have h7 : B.Other = q.Epoch := by omega
    exact ⟨h7, h5 (by omega)⟩
  -- what it acknowledges
  have a1 : J (ackS q k) B wA offB delq ∧ J B (ackS q k) wB offq delB := by
    have ae : (ackS q k).Epoch = q.Epoch := by unfold ackS; split <;> rfl
    have ao : (ackS q k).Other = q.Other := by unfold ackS; split <;> rfl
    have an : (ackS q k).Next = q.Next := by unfold ackS; split <;> rfl
    have aE : (ackS q k).Early = q.Early := by unfold ackS; split <;> rfl
    constructor
    · refine ⟨j1.pk, by rw [ao]; exact j1.oth, j1.snd, fun hh => ?_⟩
      rw [ao] at hh
      obtain ⟨c1, c2, _⟩ := cur hh
      rw [ae]
      refine ⟨fun h3 => ?_, fun h3 => absurd c1 h3⟩
      obtain ⟨n, q1, q2, q3, q4, q5⟩ := (j1.rcv hh).1 h3
      refine ⟨n, by rw [an]; exact q1, q2, q3, by rw [aE]; exact q4, ?_⟩
      unfold ackS
      split
      · exact c2
      · exact q5
    · refine j2.sender ae ao (by rw [an]; exact Int.le_refl _) ?_
      obtain ⟨f, q1, q2, q3⟩ := j2.snd
      unfold ackS
      by_cases hc : q.First < k.Ack ∧ k.Ack ≤ q.First + (q.Queue.length : Int)
      · rw [if_pos hc]
        have hl : q.Queue.length = offq.length - f := by rw [q3, List.length_drop]
        refine ⟨k.Ack.toNat, by show k.Ack = _; omega, by omega, ?_⟩
        show q.Queue.drop (k.Ack - q.First).toNat = _
        rw [q3, List.drop_drop]
        congr 1
        omega
      · rw [if_neg hc]
        exact ⟨f, q1, q2, q3⟩
  have ae : (ackS q k).Epoch = q.Epoch := by unfold ackS; split <;> rfl
  have ao : (ackS q k).Other = q.Other := by unfold ackS; split <;> rfl
  have av := ack_vs hqv hK
  generalize ackS q k = a at a1 ae ao av
  obtain ⟨a1, a2⟩ := a1
  rw [← ae, ← ao] at cur
  -- what it brings early
  have kv := keep_vs (k := k) av hK
  have ke : (keepS a k).Epoch = a.Epoch := by unfold keepS; split <;> rfl
  have ko : (keepS a k).Other = a.Other := by unfold keepS; split <;> rfl
  have kn : (keepS a k).Next = a.Next := by unfold keepS; split <;> rfl
  have kf : (keepS a k).First = a.First := by unfold keepS; split <;> rfl
  have kq : (keepS a k).Queue = a.Queue := by unfold keepS; split <;> rfl
  have b1 : J (keepS a k) B wA offB delq := by
    refine ⟨a1.pk, by rw [ko]; exact a1.oth, a1.snd, fun hh => ?_⟩
    rw [ko] at hh
    obtain ⟨c1, c2, c3⟩ := cur hh
    rw [ke]
    refine ⟨fun h3 => ?_, fun h3 => absurd c1 h3⟩
    obtain ⟨n, q1, q2, q3, q4, q5⟩ := (a1.rcv hh).1 h3
    refine ⟨n, by rw [kn]; exact q1, q2, q3, ?_, by rw [kf]; exact q5⟩
    unfold keepS
    by_cases hc : a.Next < k.Seq ∧ k.Seq < a.Next + 64
    · rw [if_pos hc]
      intro e he
      rcases insS_mem _ _ e he with rfl | he
      · exact c3 (by omega)
      · exact q4 e he
    · rw [if_neg hc]; exact q4
  have b2 : J B (keepS a k) wB offq delB := a2.sender ke ko (by rw [kn]; exact Int.le_refl _) (by rw [kf, kq]; exact a2.snd)
  rw [← ke, ← ko] at cur
  generalize keepS a k = b at b1 b2 kv cur
  have dv := del_vs (k := k) kv hK
  -- what it delivers
  have de : (delS b k).1.Epoch = b.Epoch := by unfold delS; split <;> rfl
  have do' : (delS b k).1.Other = b.Other := by unfold delS; split <;> rfl
  have df : (delS b k).1.First = b.First := by unfold delS; split <;> rfl
  have dq : (delS b k).1.Queue = b.Queue := by unfold delS; split <;> rfl
  refine ⟨⟨b1.pk, by rw [do']; exact b1.oth, b1.snd, fun hh => ?_⟩, b2.sender de do' ?_ (by rw [df, dq]; exact b2.snd), dv⟩
  · rw [do'] at hh
    obtain ⟨c1, c2, c3⟩ := cur hh
    rw [de]
    refine ⟨fun h3 => ?_, fun h3 => absurd c1 h3⟩
    obtain ⟨n, q1, q2, q3, q4, q5⟩ := (b1.rcv hh).1 h3
    unfold delS
    by_cases hc : k.Seq = b.Next
    · rw [if_pos hc]
      obtain ⟨m, r1, r2, r3⟩ := c3 (by omega)
      have hmn : m = n := by omega
      subst hmn
      obtain ⟨m', s1, s2, s3, s4, s5⟩ := runS_good (off := offB) b.Early (m + 1) r2 q4
      have e9 : ((m + 1 : Nat) : Int) = b.Next + 1 := by omega
      rw [e9] at s1 s4 s5
      refine ⟨m', s1, s3, ?_, s5, q5⟩
      rw [q3, ← s4, ← take_nth r2, r3]
      simp
    · rw [if_neg hc]
      exact ⟨n, q1, q2, by simp [q3], q4, q5⟩
  · unfold delS
    split
    · have := runS_ge b.Early (b.Next + 1)
      simp only
      omega
    · exact Int.le_refl _
end Go.Proofs.Ytomjphpnpcgacaa
/-
  The law WindowDelivers, in plain Lean.
-/
namespace Go.Proofs.Ytomjphpnpcgacaa
open Go.Rv
set_option linter.unusedVariables false
set_option linter.unusedSimpArgs false

abbrev PairS := Wagonpoollaw12_pair

theorem runS_len (l : List Api_Packet) : ∀ n, (runS n l).2.1.length ≤ l.length := by
  induction l with
  | nil => intro n; exact Nat.le_refl _
  | cons e r ih =>
    intro n
    unfold runS
    split
    · have := ih (n + 1); simp; omega
    · simp
theorem out_len {p : Api_Peer} (h : VS p) (k : Api_Packet) : (accS p k).2.1.length ≤ 66 := by
  unfold accS
  split
  case isFalse => simp
  simp only
  unfold stepS
  split
  case isFalse => simp
  have h0 : (resetS p k).Early.length ≤ 63 := by
    have := h.es
    unfold resetS; split
    · simp
    · exact this
  have h1 : (ackS (resetS p k) k).Early = (resetS p k).Early := by unfold ackS; split <;> rfl
  rw [← h1] at h0
  generalize ackS (resetS p k) k = a at h0
  have h2 : (keepS a k).Early.length ≤ 64 := by
    unfold keepS; split
    · have := insS_len a.Early (newE k); simp only; omega
    · omega
  generalize keepS a k = b at h2
  unfold delS
  split
  · have := runS_len b.Early (b.Next + 1)
    simp only [List.length_cons]; omega
  · simp

theorem sent_acc {p : Api_Peer} (k : Api_Packet) {now : Int} (h : p.SentAt ≤ now) (hn : 0 ≤ now) : (accS p k).1.SentAt ≤ now := by
  unfold accS
  split
  case isFalse => exact h
  simp only
  have h0 : (resetS p k).SentAt ≤ now := by
    unfold resetS; split
    · simp; omega
    · exact h
  unfold stepS
  split
  case isFalse => exact h0
  have h1 : (ackS (resetS p k) k).SentAt ≤ now := by
    unfold ackS; split
    · simp; omega
    · exact h0
  generalize ackS (resetS p k) k = a at h1
  have h2 : (keepS a k).SentAt = a.SentAt := by unfold keepS; split <;> rfl
  have h3 : (delS (keepS a k) k).1.SentAt = (keepS a k).SentAt := by unfold delS; split <;> rfl
  rw [h3, h2]; exact h1

theorem sent_emit {p : Api_Peer} {now : Int} (h : p.SentAt ≤ now) : (emitS p now).1.SentAt ≤ now := by
  unfold emitS
  split
  · exact h
  · exact Int.le_refl _

theorem emit_len (p : Api_Peer) (now : Int) : (emitS p now).2.length ≤ 16 ∧ 1 ≤ (emitS p now).2.length := by
  unfold emitS
  split
  · simp
  · rename_i h
    have : ¬ p.Queue.length = 0 := fun e => h (.inl e)
    simp; omega

structure Inv (m : Nat) (s : PairS) : Prop where
  v0 : VS s.p.1
  v1 : VS s.p.2
  j0 : J s.p.1 s.p.2 s.way.1 s.offered.2 s.delivered.1
  j1 : J s.p.2 s.p.1 s.way.2 s.offered.1 s.delivered.2
  now0 : 0 ≤ s.now
  now1 : s.now ≤ 20 * (m : Int)
  s0 : s.p.1.SentAt ≤ s.now
  s1 : s.p.2.SentAt ≤ s.now
  w0 : s.way.1.length ≤ 200
  w1 : s.way.2.length ≤ 200
  o0 : s.offered.1.length ≤ m
  o1 : s.offered.2.length ≤ m
  d0 : s.delivered.1.length ≤ 70 * m
  d1 : s.delivered.2.length ≤ 70 * m

theorem Inv.more {m m' : Nat} {s : PairS} (h : Inv m s) (hm : m ≤ m') : Inv m' s :=
  ⟨h.v0, h.v1, h.j0, h.j1, h.now0, by have := h.now1; omega, h.s0, h.s1, h.w0, h.w1, by have := h.o0; omega, by have := h.o1; omega, by have := h.d0; omega, by have := h.d1; omega⟩

/-- At most 200 packets stay under way. -/
def tailW (l : List Api_Packet) : List Api_Packet := if l.length > 200 then l.drop (l.length - 200) else l
theorem tailW_len (l : List Api_Packet) : (tailW l).length ≤ 200 := by
  unfold tailW; split
  · rw [List.length_drop]; omega
  · omega
theorem tailW_mem (l : List Api_Packet) : ∀ k ∈ tailW l, k ∈ l := by
  unfold tailW; split
  · intro k hk; exact List.mem_of_mem_drop hk
  · intro k hk; exact hk

theorem tail_eq (l : List Api_Packet) (h : l.length ≤ 100000) : (if decide ((l.length : Int) > 200) = true then if InB (w64 ((l.length : Int) - 200)) l.length then lt1 ((w64 ((l.length : Int) - 200)).toNat) fun (f : Nat) => lt1 (l.length - (w64 ((l.length : Int) - 200)).toNat) fun (g : Nat) => some (l.drop f) else none else some l) = some (tailW l) := by
  unfold tailW
  by_cases hl : l.length > 200
  · rw [if_pos (by simp; omega), if_pos hl, w64_id (by omega), if_pos (by unfold InB; omega)]
    simp only [lt1]
    rw [show ((l.length : Int) - 200).toNat = l.length - 200 by omega]
  · rw [if_neg (by simp; omega), if_neg hl]

def em0 (s : PairS) : PairS := { s with p := ((emitS s.p.1 s.now).1, s.p.2), way := (s.way.1, tailW (s.way.2 ++ (emitS s.p.1 s.now).2)) }
def em1 (s : PairS) : PairS := { s with p := (s.p.1, (emitS s.p.2 s.now).1), way := (tailW (s.way.1 ++ (emitS s.p.2 s.now).2), s.way.2) }
def ac0 (s : PairS) (k : Api_Packet) : PairS := { s with p := ((accS s.p.1 k).1, s.p.2), offered := ((if (accS s.p.1 k).2.2 = true then [] else s.offered.1), s.offered.2), delivered := ((if (accS s.p.1 k).2.2 = true then [] else s.delivered.1) ++ (accS s.p.1 k).2.1, s.delivered.2), resets := if (accS s.p.1 k).2.2 = true then w64 (s.resets + 1) else s.resets }
def ac1 (s : PairS) (k : Api_Packet) : PairS := { s with p := (s.p.1, (accS s.p.2 k).1), offered := (s.offered.1, (if (accS s.p.2 k).2.2 = true then [] else s.offered.2)), delivered := (s.delivered.1, (if (accS s.p.2 k).2.2 = true then [] else s.delivered.2) ++ (accS s.p.2 k).2.1), resets := if (accS s.p.2 k).2.2 = true then w64 (s.resets + 1) else s.resets }

theorem emit0_eq {m : Nat} {s : PairS} (h : Inv m s) (hm : m ≤ 10000) : ∃ r, law12_pair_emit_c0 s = some r ∧ r.1 = (emitS s.p.1 s.now).2 ∧ r.2.1 = em0 s := by
  have hl := (emit_len s.p.1 s.now).1
  have hw := h.w1
  have := h.now0; have := h.now1
  unfold law12_pair_emit_c0
  rw [emit_w h.v0 s.now (by omega), Option.bind_some, if_neg (by simp; omega), if_pos (fits56 (by omega))]
  have ht := tail_eq (s.way.2 ++ (emitS s.p.1 s.now).2) (by simp; omega)
  simp only [lt1] at ht ⊢
  rw [ht]
  exact ⟨_, rfl, rfl, rfl⟩
theorem emit1_eq {m : Nat} {s : PairS} (h : Inv m s) (hm : m ≤ 10000) : ∃ r, law12_pair_emit_c1 s = some r ∧ r.1 = (emitS s.p.2 s.now).2 ∧ r.2.1 = em1 s := by
  have hl := (emit_len s.p.2 s.now).1
  have hw := h.w0
  have := h.now0; have := h.now1
  unfold law12_pair_emit_c1
  rw [emit_w h.v1 s.now (by omega), Option.bind_some, if_neg (by simp; omega), if_pos (fits56 (by omega))]
  have ht := tail_eq (s.way.1 ++ (emitS s.p.2 s.now).2) (by simp; omega)
  simp only [lt1] at ht ⊢
  rw [ht]
  exact ⟨_, rfl, rfl, rfl⟩

theorem fitsL {n : Nat} (h : n ≤ 10000000) : Fits n 24 := by unfold Fits maxLen roomB; omega

theorem accept0_eq {m : Nat} {s : PairS} (h : Inv m s) (hm : m ≤ 10000) (k : Api_Packet) : ∃ r, law12_pair_accept_c0 s k = some r ∧ r.1 = ac0 s k := by
  have ho := out_len h.v0 k
  have hd := h.d0
  have hes := h.v0.es
  unfold law12_pair_accept_c0
  rw [acc_w _ _ (by omega), Option.bind_some]
  unfold ac0
  cases hr : (accS s.p.1 k).2.2
  · simp only [Bool.false_eq_true, if_false, Option.bind_some]
    rw [if_pos (fitsL (by omega))]
    exact ⟨_, rfl, rfl⟩
  · simp only [if_true, Option.bind_some]
    rw [if_pos (fitsL (by simp; omega))]
    exact ⟨_, rfl, rfl⟩
theorem accept1_eq {m : Nat} {s : PairS} (h : Inv m s) (hm : m ≤ 10000) (k : Api_Packet) : ∃ r, law12_pair_accept_c1 s k = some r ∧ r.1 = ac1 s k := by
  have ho := out_len h.v1 k
  have hd := h.d1
  have hes := h.v1.es
  unfold law12_pair_accept_c1
  rw [acc_w _ _ (by omega), Option.bind_some]
  unfold ac1
  cases hr : (accS s.p.2 k).2.2
  · simp only [Bool.false_eq_true, if_false, Option.bind_some]
    rw [if_pos (fitsL (by omega))]
    exact ⟨_, rfl, rfl⟩
  · simp only [if_true, Option.bind_some]
    rw [if_pos (fitsL (by simp; omega))]
    exact ⟨_, rfl, rfl⟩

theorem inv_em0 {m : Nat} {s : PairS} (h : Inv m s) (hm : m ≤ 10000) : Inv m (em0 s) := by
  have := h.now0; have := h.now1
  exact ⟨emit_vs h.v0 (by omega), h.v1, h.j0.emitted s.now, (h.j1.emit h.v0 s.now).sub (tailW_mem _), h.now0, h.now1, sent_emit h.s0, h.s1, h.w0, tailW_len _, h.o0, h.o1, h.d0, h.d1⟩
theorem inv_em1 {m : Nat} {s : PairS} (h : Inv m s) (hm : m ≤ 10000) : Inv m (em1 s) := by
  have := h.now0; have := h.now1
  exact ⟨h.v0, emit_vs h.v1 (by omega), (h.j0.emit h.v1 s.now).sub (tailW_mem _), h.j1.emitted s.now, h.now0, h.now1, h.s0, sent_emit h.s1, tailW_len _, h.w1, h.o0, h.o1, h.d0, h.d1⟩
theorem inv_ac0 {m : Nat} {s : PairS} (h : Inv m s) {k : Api_Packet} (hk : k ∈ s.way.1) : Inv (m + 1) (ac0 s k) := by
  obtain ⟨q1, q2, q3⟩ := h.j0.accept h.j1 h.v0 h.v1 hk
  have ho := out_len h.v0 k
  have := h.d0; have := h.d1; have := h.o0; have := h.o1; have := h.now0; have := h.now1
  refine ⟨q3, h.v1, q1, q2, h.now0, by show s.now ≤ _; omega, sent_acc k h.s0 h.now0, h.s1, h.w0, h.w1, ?_, by show s.offered.2.length ≤ _; omega, ?_, by show s.delivered.2.length ≤ _; omega⟩
  · show (if (accS s.p.1 k).2.2 = true then [] else s.offered.1).length ≤ _
    split
    · exact Nat.zero_le _
    · omega
  · show ((if (accS s.p.1 k).2.2 = true then [] else s.delivered.1) ++ _).length ≤ _
    rw [List.length_append]
    split
    · rw [List.length_nil]; omega
    · omega
theorem inv_ac1 {m : Nat} {s : PairS} (h : Inv m s) {k : Api_Packet} (hk : k ∈ s.way.2) : Inv (m + 1) (ac1 s k) := by
  obtain ⟨q1, q2, q3⟩ := h.j1.accept h.j0 h.v1 h.v0 hk
  have ho := out_len h.v1 k
  have := h.d0; have := h.d1; have := h.o0; have := h.o1; have := h.now0; have := h.now1
  refine ⟨h.v0, q3, q2, q1, h.now0, by show s.now ≤ _; omega, h.s0, sent_acc k h.s1 h.now0, h.w0, h.w1, by show s.offered.1.length ≤ _; omega, ?_, by show s.delivered.1.length ≤ _; omega, ?_⟩
  · show (if (accS s.p.2 k).2.2 = true then [] else s.offered.2).length ≤ _
    split
    · exact Nat.zero_le _
    · omega
  · show ((if (accS s.p.2 k).2.2 = true then [] else s.delivered.2) ++ _).length ≤ _
    rw [List.length_append]
    split
    · rw [List.length_nil]; omega
    · omega

/-! ### The operations -/
theorem or_if (a b : Bool) : (if a = true then some a else some b) = some (a || b) := by cases a <;> rfl
theorem and_15 (x : Int) : 0 ≤ and64 x 15 ∧ and64 x 15 ≤ 15 := by
  unfold and64
  have h1 : (BitVec.ofInt 64 15) = 15#64 := by decide
  rw [h1]
  have h2 : (BitVec.ofInt 64 x &&& 15#64).toNat = (BitVec.ofInt 64 x).toNat % 16 := by
    rw [BitVec.toNat_and]
    exact Nat.and_two_pow_sub_one_eq_mod _ 4
  rw [h2]
  have h3 : (BitVec.ofInt 64 x).toNat % 16 < 16 := Nat.mod_lt _ (by decide)
  generalize (BitVec.ofInt 64 x).toNat % 16 = y at h3
  have : IntKind.i64.wrap (y : Int) = (y : Int) := w64_id (x := (y : Int)) (by omega)
  rw [this]; omega

theorem at_eq (x : Int) {n : Nat} (h0 : 0 < n) (hn : n ≤ 1000) : ∃ i : Nat, i < n ∧ law12_at x (n : Int) = some (i : Int) := by
  have h1 : (UInt64.ofInt (n : Int)).toNat = n := by rw [UInt64.ofInt, UInt64.toNat_ofNat']; omega
  have hne : ¬ (UInt64.ofInt (n : Int)) = 0 := fun e => by rw [e] at h1; simp at h1; omega
  have hm : (UInt64.ofInt x % UInt64.ofInt (n : Int)).toNat < n := by rw [UInt64.toNat_mod, h1]; exact Nat.mod_lt _ h0
  refine ⟨(UInt64.ofInt x % UInt64.ofInt (n : Int)).toNat, hm, ?_⟩
  unfold law12_at
  rw [if_pos hne]
  simp only [lt1]
  rw [w64_id (by omega)]

/-- What an offer to side 0 makes. -/
def of0 (s : PairS) (d : List UInt8) : PairS := { s with p := ({ s.p.1 with Queue := s.p.1.Queue ++ [d] }, s.p.2), offered := (s.offered.1 ++ [d], s.offered.2) }
def of1 (s : PairS) (d : List UInt8) : PairS := { s with p := (s.p.1, { s.p.2 with Queue := s.p.2.Queue ++ [d] }), offered := (s.offered.1, s.offered.2 ++ [d]) }

theorem vs_offer {p : Api_Peer} (h : VS p) {d : List UInt8} (h1 : d.length ≤ 8000) (h2 : p.Queue.length < 256) (h3 : p.First + (p.Queue.length : Int) < 1099511627776) : VS { p with Queue := p.Queue ++ [d] } :=
  ⟨h.e0, h.e1, h.o0, h.o1, h.t0, h.t1, h.f0, h.n0, h.n1, by simp; omega, by simp; omega, fun m hm => by
    rcases List.mem_append.1 hm with hm | hm
    · exact h.qd m hm
    · rw [List.mem_singleton] at hm; rw [hm]; exact h1, h.early⟩

theorem inv_of0 {m : Nat} {s : PairS} (h : Inv m s) {d : List UInt8} (h1 : d.length ≤ 8000) (h2 : s.p.1.Queue.length < 256) (h3 : s.p.1.First + (s.p.1.Queue.length : Int) < 1099511627776) : Inv (m + 1) (of0 s d) := by
  have := h.d0; have := h.d1; have := h.o0; have := h.o1; have := h.now0; have := h.now1
  exact ⟨vs_offer h.v0 h1 h2 h3, h.v1, h.j0.offered _, h.j1.offer d, h.now0, by show s.now ≤ _; omega, h.s0, h.s1, h.w0, h.w1, by show (s.offered.1 ++ [d]).length ≤ _; simp; omega, by show s.offered.2.length ≤ _; omega, by show s.delivered.1.length ≤ _; omega, by show s.delivered.2.length ≤ _; omega⟩
theorem inv_of1 {m : Nat} {s : PairS} (h : Inv m s) {d : List UInt8} (h1 : d.length ≤ 8000) (h2 : s.p.2.Queue.length < 256) (h3 : s.p.2.First + (s.p.2.Queue.length : Int) < 1099511627776) : Inv (m + 1) (of1 s d) := by
  have := h.d0; have := h.d1; have := h.o0; have := h.o1; have := h.now0; have := h.now1
  exact ⟨h.v0, vs_offer h.v1 h1 h2 h3, h.j0.offer d, h.j1.offered _, h.now0, by show s.now ≤ _; omega, h.s0, h.s1, h.w0, h.w1, by show s.offered.1.length ≤ _; omega, by show (s.offered.2 ++ [d]).length ≤ _; simp; omega, by show s.delivered.1.length ≤ _; omega, by show s.delivered.2.length ≤ _; omega⟩

/-- What an operation makes of the state: what holds of it goes on, with one more. -/
theorem act_ok {m : Nat} {s : PairS} (h : Inv m s) (hm : m ≤ 9000) (a : Wagonpoollaw12_Act) : ∃ r, law12_pair_act s a = some r ∧ Inv (m + 1) r.1 := by
  have hd0 := h.d0; have hd1 := h.d1; have ho0 := h.o0; have ho1 := h.o1; have hn0 := h.now0; have hn1 := h.now1; have hw0 := h.w0; have hw1 := h.w1
  have same := h.more (Nat.le_succ m)
  obtain ⟨n1, n2⟩ := and_15 a.N
  have hnow : w64 (s.now + and64 a.N 15) = s.now + and64 a.N 15 := w64_id (by omega)
  have hs' : Inv (m + 1) { s with now := s.now + and64 a.N 15 } := ⟨h.v0, h.v1, h.j0, h.j1, by show 0 ≤ s.now + _; omega, by show s.now + _ ≤ _; omega, by have := h.s0; show s.p.1.SentAt ≤ s.now + _; omega, by have := h.s1; show s.p.2.SentAt ≤ s.now + _; omega, h.w0, h.w1, by show s.offered.1.length ≤ _; omega, by show s.offered.2.length ≤ _; omega, by show s.delivered.1.length ≤ _; omega, by show s.delivered.2.length ≤ _; omega⟩
  unfold law12_pair_act
  simp only [lt1, or_if, Option.bind_some, hnow]
  generalize and64 a.Kind 7 = K
  rcases and64_one a.Side with hs | hs
  · rw [hs, if_pos (by decide)]
    by_cases k1 : (K == 0 || K == 5) = true
    · rw [if_pos k1]
      obtain ⟨r, hr, hr0⟩ := offer_w h.v0 a.Data
      rw [hr, Option.bind_some]
      by_cases hz : r.2 = 0
      · obtain ⟨e1, e2, e3, e4⟩ := hr0 hz
        rw [if_pos (by simpa using hz), if_pos (fitsL (by omega)), e1]
        exact ⟨_, rfl, inv_of0 h e2 e3 e4⟩
      · rw [if_neg (by simpa using hz)]
        exact ⟨_, rfl, same⟩
    rw [if_neg k1]
    by_cases k2 : (K == 1 || K == 6) = true
    · rw [if_pos k2]
      obtain ⟨r, hr, _, hr2⟩ := emit0_eq hs' (by omega)
      have hr' : law12_pair_emit_c0 { p := (s.p.1, s.p.2), way := (s.way.1, s.way.2), offered := (s.offered.1, s.offered.2), delivered := (s.delivered.1, s.delivered.2), now := s.now + and64 a.N 15, resets := s.resets } = some r := hr
      rw [hr', Option.bind_some]
      refine ⟨_, rfl, ?_⟩
      show Inv (m + 1) r.2.1
      rw [hr2]
      exact inv_em0 hs' (by omega)
    rw [if_neg k2]
    by_cases k3 : (K == 2 || K == 7) = true
    · rw [if_pos k3]
      by_cases hw : 0 < s.way.1.length
      · obtain ⟨i, hi, hat⟩ := at_eq a.N hw (by omega)
        rw [if_pos (by simpa using hw), hat, Option.bind_some, if_pos (inR_of hi), Int.toNat_natCast]
        obtain ⟨r, hr, hr2⟩ := accept0_eq h (by omega) (nth s.way.1 i)
        have hr' : law12_pair_accept_c0 { p := (s.p.1, s.p.2), way := (s.way.1, s.way.2), offered := (s.offered.1, s.offered.2), delivered := (s.delivered.1, s.delivered.2), now := s.now, resets := s.resets } (nth s.way.1 i) = some r := hr
        rw [hr', Option.bind_some]
        refine ⟨_, rfl, ?_⟩
        show Inv (m + 1) r.1
        rw [hr2]
        exact inv_ac0 h (nth_mem hi)
      · rw [if_neg (by simpa using hw)]
        exact ⟨_, rfl, same⟩
    rw [if_neg k3]
    by_cases k4 : (K == 3) = true
    · rw [if_pos k4]
      by_cases hw : 0 < s.way.1.length
      · obtain ⟨i, hi, hat⟩ := at_eq a.N hw (by omega)
        have e1 : w64 ((i : Int) + 1) = ((i + 1 : Nat) : Int) := w64_one (by omega)
        rw [if_pos (by simpa using hw), hat, Option.bind_some, e1, Int.toNat_natCast, Int.toNat_natCast, if_pos (by unfold InB; omega), if_pos (fits56 (by simp; omega)), if_pos (by unfold InB; omega), if_pos (fits56 (by simp; omega))]
        refine ⟨_, rfl, ?_⟩
        refine ⟨same.v0, same.v1, same.j0.sub fun k hk => ?_, same.j1, same.now0, same.now1, same.s0, same.s1, ?_, same.w1, same.o0, same.o1, same.d0, same.d1⟩
        · rcases List.mem_append.1 hk with hk | hk
          · rw [List.nil_append] at hk
            exact List.mem_of_mem_take hk
          · exact List.mem_of_mem_drop (List.mem_of_mem_take hk)
        · refine Nat.le_trans (Nat.le_of_eq List.length_append) ?_
          simp; omega
      · rw [if_neg (by simpa using hw)]
        exact ⟨_, rfl, same⟩
    rw [if_neg k4]
    by_cases k5 : (K == 4) = true
    · rw [if_pos k5]
      have he : w64 (s.p.1.Epoch + 1) = s.p.1.Epoch + 1 := w64_id (by have := h.v0.e0; have := h.v0.e1; omega)
      rw [he]
      obtain ⟨r, hr, hr0⟩ := new_w (s.p.1.Epoch + 1)
      rw [hr, Option.bind_some]
      by_cases hz : r.2 = 0
      · obtain ⟨e1, e2⟩ := hr0 hz
        rw [if_pos (by simpa using hz), e1]
        refine ⟨_, rfl, ?_⟩
        exact ⟨new_vs e2, same.v1, same.j0.restart h.v1 _, same.j1.restarted (by omega), same.now0, same.now1, by show (-1 : Int) ≤ s.now; omega, same.s1, same.w0, same.w1, Nat.zero_le _, same.o1, Nat.zero_le _, same.d1⟩
      · rw [if_neg (by simpa using hz)]
        exact ⟨_, rfl, same⟩
    rw [if_neg k5]
    exact ⟨_, rfl, same⟩
  · rw [hs, if_neg (by decide)]
    by_cases k1 : (K == 0 || K == 5) = true
    · rw [if_pos k1]
      obtain ⟨r, hr, hr0⟩ := offer_w h.v1 a.Data
      rw [hr, Option.bind_some]
      by_cases hz : r.2 = 0
      · obtain ⟨e1, e2, e3, e4⟩ := hr0 hz
        rw [if_pos (by simpa using hz), if_pos (fitsL (by omega)), e1]
        exact ⟨_, rfl, inv_of1 h e2 e3 e4⟩
      · rw [if_neg (by simpa using hz)]
        exact ⟨_, rfl, same⟩
    rw [if_neg k1]
    by_cases k2 : (K == 1 || K == 6) = true
    · rw [if_pos k2]
      obtain ⟨r, hr, _, hr2⟩ := emit1_eq hs' (by omega)
      have hr' : law12_pair_emit_c1 { p := (s.p.1, s.p.2), way := (s.way.1, s.way.2), offered := (s.offered.1, s.offered.2), delivered := (s.delivered.1, s.delivered.2), now := s.now + and64 a.N 15, resets := s.resets } = some r := hr
      rw [hr', Option.bind_some]
      refine ⟨_, rfl, ?_⟩
      show Inv (m + 1) r.2.1
      rw [hr2]
      exact inv_em1 hs' (by omega)
    rw [if_neg k2]
    by_cases k3 : (K == 2 || K == 7) = true
    · rw [if_pos k3]
      by_cases hw : 0 < s.way.2.length
      · obtain ⟨i, hi, hat⟩ := at_eq a.N hw (by omega)
        rw [if_pos (by simpa using hw), hat, Option.bind_some, if_pos (inR_of hi), Int.toNat_natCast]
        obtain ⟨r, hr, hr2⟩ := accept1_eq h (by omega) (nth s.way.2 i)
        have hr' : law12_pair_accept_c1 { p := (s.p.1, s.p.2), way := (s.way.1, s.way.2), offered := (s.offered.1, s.offered.2), delivered := (s.delivered.1, s.delivered.2), now := s.now, resets := s.resets } (nth s.way.2 i) = some r := hr
        rw [hr', Option.bind_some]
        refine ⟨_, rfl, ?_⟩
        show Inv (m + 1) r.1
        rw [hr2]
        exact inv_ac1 h (nth_mem hi)
      · rw [if_neg (by simpa using hw)]
        exact ⟨_, rfl, same⟩
    rw [if_neg k3]
    by_cases k4 : (K == 3) = true
    · rw [if_pos k4]
      by_cases hw : 0 < s.way.2.length
      · obtain ⟨i, hi, hat⟩ := at_eq a.N hw (by omega)
        have e1 : w64 ((i : Int) + 1) = ((i + 1 : Nat) : Int) := w64_one (by omega)
        rw [if_pos (by simpa using hw), hat, Option.bind_some, e1, Int.toNat_natCast, Int.toNat_natCast, if_pos (by unfold InB; omega), if_pos (fits56 (by simp; omega)), if_pos (by unfold InB; omega), if_pos (fits56 (by simp; omega))]
        refine ⟨_, rfl, ?_⟩
        refine ⟨same.v0, same.v1, same.j0, same.j1.sub fun k hk => ?_, same.now0, same.now1, same.s0, same.s1, same.w0, ?_, same.o0, same.o1, same.d0, same.d1⟩
        · rcases List.mem_append.1 hk with hk | hk
          · rw [List.nil_append] at hk
            exact List.mem_of_mem_take hk
          · exact List.mem_of_mem_drop (List.mem_of_mem_take hk)
        · refine Nat.le_trans (Nat.le_of_eq List.length_append) ?_
          simp; omega
      · rw [if_neg (by simpa using hw)]
        exact ⟨_, rfl, same⟩
    rw [if_neg k4]
    by_cases k5 : (K == 4) = true
    · rw [if_pos k5]
      have he : w64 (s.p.2.Epoch + 1) = s.p.2.Epoch + 1 := w64_id (by have := h.v1.e0; have := h.v1.e1; omega)
      rw [he]
      obtain ⟨r, hr, hr0⟩ := new_w (s.p.2.Epoch + 1)
      rw [hr, Option.bind_some]
      by_cases hz : r.2 = 0
      · obtain ⟨e1, e2⟩ := hr0 hz
        rw [if_pos (by simpa using hz), e1]
        refine ⟨_, rfl, ?_⟩
        exact ⟨same.v0, new_vs e2, same.j0.restarted (by omega), same.j1.restart h.v0 _, same.now0, same.now1, same.s0, by show (-1 : Int) ≤ s.now; omega, same.w0, same.w1, same.o0, Nat.zero_le _, same.d0, Nat.zero_le _⟩
      · rw [if_neg (by simpa using hz)]
        exact ⟨_, rfl, same⟩
    rw [if_neg k5]
    exact ⟨_, rfl, same⟩
end Go.Proofs.Ytomjphpnpcgacaa
/-
  The law WindowDelivers: what is delivered is what was offered, in its order.
-/
namespace Go.Proofs.Ytomjphpnpcgacaa
open Go.Rv
set_option linter.unusedVariables false
set_option linter.unusedSimpArgs false

theorem or_t (a b : Bool) : (if a = true then some true else some b) = some (a || b) := by cases a <;> rfl

theorem good_same {A B : Api_Peer} {off del : List (List UInt8)} (h : Good A B off del) (hl : del.length ≤ 300) :
    decide ((del.length : Int) > (off.length : Int)) = false ∧ InB (del.length : Int) off.length ∧ r12_SameMessages del (off.take ((del.length : Int)).toNat) = some true := by
  obtain ⟨n, _, h2, h3, _, _⟩ := h
  have hn : del.length = n := by rw [h3, List.length_take]; omega
  refine ⟨by simp; omega, by unfold InB; omega, ?_⟩
  rw [Int.toNat_natCast, hn, ← h3]
  exact msgs_same del hl

theorem right_ok' {s : PairS} (h0 : s.p.1.Other = s.p.2.Epoch → s.p.2.Other = s.p.1.Epoch → Good s.p.1 s.p.2 s.offered.2 s.delivered.1) (h1 : s.p.2.Other = s.p.1.Epoch → s.p.1.Other = s.p.2.Epoch → Good s.p.2 s.p.1 s.offered.1 s.delivered.2)
    (hm : s.offered.1.length ≤ 300) (hm' : s.offered.2.length ≤ 300) : ∃ r, law12_pair_right s = some r ∧ r.1 = true ∧ r.2.1 = s := by
  have lenG : ∀ {A B : Api_Peer} {off del : List (List UInt8)}, Good A B off del → del.length ≤ off.length := by
    intro A B off del ⟨n, _, h2, h3, _, _⟩
    rw [h3, List.length_take]; omega
  unfold law12_pair_right
  simp only [or_t, Option.bind_some]
  cases c0 : (s.p.1.Other != s.p.2.Epoch || s.p.2.Other != s.p.1.Epoch)
  case true =>
    have c1 : (s.p.2.Other != s.p.1.Epoch || s.p.1.Other != s.p.2.Epoch) = true := by rw [Bool.or_comm]; exact c0
    rw [c1]
    exact ⟨_, rfl, rfl, rfl⟩
  case false =>
    have c1 : (s.p.2.Other != s.p.1.Epoch || s.p.1.Other != s.p.2.Epoch) = false := by rw [Bool.or_comm]; exact c0
    rw [c1]
    simp only [Bool.or_eq_false_iff, bne_eq_false_iff_eq] at c0
    have g0 := h0 c0.1 c0.2
    have g1 := h1 c0.2 c0.1
    obtain ⟨a1, a2, a3⟩ := good_same g0 (by have := lenG g0; omega)
    obtain ⟨b1, b2, b3⟩ := good_same g1 (by have := lenG g1; omega)
    simp only [lt1, a1, b1, Bool.false_eq_true, if_false, if_pos a2, if_pos b2, a3, b3, Option.bind_some, Bool.not_true]
    exact ⟨_, rfl, rfl, rfl⟩

theorem right_ok {m : Nat} {s : PairS} (h : Inv m s) (hm : m ≤ 300) : ∃ r, law12_pair_right s = some r ∧ r.1 = true ∧ r.2.1 = s :=
  right_ok' (fun a b => (h.j0.rcv a).1 b) (fun a b => (h.j1.rcv a).1 b) (by have := h.o0; omega) (by have := h.o1; omega)

abbrev VT := Int × Int × Int × Int × List (List UInt8) × Int × List Api_Packet × Int × Int × Int × Int × List (List UInt8) × Int × List Api_Packet × Int × Int × Int × List Api_Packet × List Api_Packet × List (List UInt8) × List (List UInt8) × List (List UInt8) × List (List UInt8)
def ofS (i : Int) (s : PairS) : VT := (i, s.p.1.Epoch, s.p.1.Other, s.p.1.First, s.p.1.Queue, s.p.1.Next, s.p.1.Early, s.p.1.SentAt, s.p.2.Epoch, s.p.2.Other, s.p.2.First, s.p.2.Queue, s.p.2.Next, s.p.2.Early, s.p.2.SentAt, s.now, s.resets, s.way.1, s.way.2, s.offered.1, s.offered.2, s.delivered.1, s.delivered.2)

theorem begin_eq : ∃ r, law12_begin = some r ∧ r.2 = true ∧ Inv 0 r.1 ∧ r.1.way = ([], []) ∧ r.1.offered = ([], []) ∧ r.1.delivered = ([], []) := by
  have hb : window_New 0 = some (newS 0, 0) := by
    unfold window_New
    simp only [between_eq, Option.bind_some]
    rfl
  have hj : J (newS 0) (newS 0) [] [] [] := by
    refine ⟨fun k hk => (by cases hk), by simp [newS], ⟨0, rfl, Nat.le_refl _, rfl⟩, fun hh => absurd hh (by simp [newS])⟩
  have hv : VS (newS 0) := new_vs (by omega)
  unfold law12_begin
  rw [hb]
  exact ⟨_, rfl, rfl, ⟨hv, hv, hj, hj, Int.le_refl _, Int.le_refl _, by show (-1 : Int) ≤ 0; omega, by show (-1 : Int) ≤ 0; omega, Nat.zero_le _, Nat.zero_le _, Nat.le_refl _, Nat.le_refl _, Nat.le_refl _, Nat.le_refl _⟩, rfl, rfl, rfl⟩

theorem deliver_step (script : List Wagonpoollaw12_Act) (k : Nat) (s : PairS) (hk : k ≤ 150) (h : Inv k s) :
    (∃ s', law12_WindowDelivers_b1 script (k : Int) s.p.1.Epoch s.p.1.Other s.p.1.First s.p.1.Queue s.p.1.Next s.p.1.Early s.p.1.SentAt s.p.2.Epoch s.p.2.Other s.p.2.First s.p.2.Queue s.p.2.Next s.p.2.Early s.p.2.SentAt s.now s.resets s.way.1 s.way.2 s.offered.1 s.offered.2 s.delivered.1 s.delivered.2 = some (.inl (ofS ((k + 1 : Nat) : Int) s')) ∧ k < 150 ∧ Inv (k + 1) s') ∨
    (∃ x, law12_WindowDelivers_b1 script (k : Int) s.p.1.Epoch s.p.1.Other s.p.1.First s.p.1.Queue s.p.1.Next s.p.1.Early s.p.1.SentAt s.p.2.Epoch s.p.2.Other s.p.2.First s.p.2.Queue s.p.2.Next s.p.2.Early s.p.2.SentAt s.now s.resets s.way.1 s.way.2 s.offered.1 s.offered.2 s.delivered.1 s.delivered.2 = some (.inr x) ∧ (x = .inl () ∨ x = .inr (.inr true))) := by
  unfold law12_WindowDelivers_b1
  by_cases hc : k < script.length ∧ k < 150
  case neg =>
    refine .inr ⟨.inl (), ?_, .inl rfl⟩
    by_cases h1 : k < script.length
    · have h2 : ¬ (k < 150) := fun e => hc ⟨h1, e⟩
      rw [if_pos (by simp; omega), Option.bind_some, if_neg (by simp; omega)]
    · rw [if_neg (by simp; omega), Option.bind_some, if_neg (by simp)]
  rw [if_pos (by simp; omega), Option.bind_some, if_pos (by simp; omega), if_pos (by unfold InR; omega)]
  simp only [lt1]
  by_cases hd : decide (((nth script ((k : Int)).toNat).Data.length : Int) > 100) = true
  · rw [if_pos hd]
    exact .inr ⟨_, rfl, .inr rfl⟩
  rw [if_neg hd, if_pos (by unfold InR; omega)]
  obtain ⟨r, hr, hi⟩ := act_ok h (by omega) (nth script ((k : Int)).toNat)
  obtain ⟨q, hq, q1, q2⟩ := right_ok hi (by omega)
  refine .inl ⟨r.1, ?_, hc.2, hi⟩
  have hr' : law12_pair_act (({ p := (({ Epoch := s.p.1.Epoch, Other := s.p.1.Other, First := s.p.1.First, Queue := s.p.1.Queue, Next := s.p.1.Next, Early := s.p.1.Early, SentAt := s.p.1.SentAt } : Api_Peer), ({ Epoch := s.p.2.Epoch, Other := s.p.2.Other, First := s.p.2.First, Queue := s.p.2.Queue, Next := s.p.2.Next, Early := s.p.2.Early, SentAt := s.p.2.SentAt } : Api_Peer)), way := (s.way.1, s.way.2), offered := (s.offered.1, s.offered.2), delivered := (s.delivered.1, s.delivered.2), now := s.now, resets := s.resets } : Wagonpoollaw12_pair)) (nth script ((k : Int)).toNat) = some r := hr
  have hq' : law12_pair_right (({ p := (r.1.p.1, r.1.p.2), way := (r.1.way.1, r.1.way.2), offered := (r.1.offered.1, r.1.offered.2), delivered := (r.1.delivered.1, r.1.delivered.2), now := r.1.now, resets := r.1.resets } : Wagonpoollaw12_pair)) = some q := hq
  rw [hr', Option.bind_some, hq', Option.bind_some, q1, q2, w64_one (by omega), if_neg (by simp)]
  rfl

theorem law_delivers (script : List Wagonpoollaw12_Act) : law12_WindowDelivers script = some true := by
  unfold law12_WindowDelivers
  obtain ⟨r, hr, r1, r2, r3, r4, r5⟩ := begin_eq
  rw [hr, Option.bind_some, sane_ok, Option.bind_some, if_neg (by simp), Option.bind_some, r1, if_neg (by simp)]
  have key : ∃ x, loopO (fun (v : VT) => law12_WindowDelivers_b1 script v.1 v.2.1 v.2.2.1 v.2.2.2.1 v.2.2.2.2.1 v.2.2.2.2.2.1 v.2.2.2.2.2.2.1 v.2.2.2.2.2.2.2.1 v.2.2.2.2.2.2.2.2.1 v.2.2.2.2.2.2.2.2.2.1 v.2.2.2.2.2.2.2.2.2.2.1 v.2.2.2.2.2.2.2.2.2.2.2.1 v.2.2.2.2.2.2.2.2.2.2.2.2.1 v.2.2.2.2.2.2.2.2.2.2.2.2.2.1 v.2.2.2.2.2.2.2.2.2.2.2.2.2.2.1 v.2.2.2.2.2.2.2.2.2.2.2.2.2.2.2.1 v.2.2.2.2.2.2.2.2.2.2.2.2.2.2.2.2.1 v.2.2.2.2.2.2.2.2.2.2.2.2.2.2.2.2.2.1 v.2.2.2.2.2.2.2.2.2.2.2.2.2.2.2.2.2.2.1 v.2.2.2.2.2.2.2.2.2.2.2.2.2.2.2.2.2.2.2.1 v.2.2.2.2.2.2.2.2.2.2.2.2.2.2.2.2.2.2.2.2.1 v.2.2.2.2.2.2.2.2.2.2.2.2.2.2.2.2.2.2.2.2.2.1 v.2.2.2.2.2.2.2.2.2.2.2.2.2.2.2.2.2.2.2.2.2.2) (ofS 0 r.1) = some x ∧ (x = .inl () ∨ x = .inr (.inr true)) := by
    refine loopO_rule (fun v => ∃ (k : Nat) (s : PairS), v = ofS (k : Int) s ∧ k ≤ 150 ∧ Inv k s) (fun v => (150 - v.1).toNat) _ ?_ ⟨0, r.1, rfl, Nat.zero_le _, r2⟩ (by show ((150 : Int) - 0).toNat < _; omega)
    rintro v ⟨k, s, rfl, hk, hi⟩
    rcases deliver_step script k s hk hi with ⟨s', e1, e2, e3⟩ | ⟨x, e1, e2⟩
    · refine .inl ⟨_, e1, ⟨k + 1, s', rfl, by omega, e3⟩, ?_⟩
      show ((150 : Int) - ((k + 1 : Nat) : Int)).toNat < ((150 : Int) - (k : Int)).toNat
      omega
    · exact .inr ⟨x, e1, e2⟩
  obtain ⟨x, hx, hxx⟩ := key
  have e : ofS 0 r.1 = (0, r.1.p.1.Epoch, r.1.p.1.Other, r.1.p.1.First, r.1.p.1.Queue, r.1.p.1.Next, r.1.p.1.Early, r.1.p.1.SentAt, r.1.p.2.Epoch, r.1.p.2.Other, r.1.p.2.First, r.1.p.2.Queue, r.1.p.2.Next, r.1.p.2.Early, r.1.p.2.SentAt, r.1.now, r.1.resets, [], [], [], [], [], []) := by
    unfold ofS; rw [r3, r4, r5]
  rw [e] at hx
  rw [hx, Option.bind_some]
  rcases hxx with rfl | rfl <;> rfl
end Go.Proofs.Ytomjphpnpcgacaa
namespace Go.Proofs.Ytomjphpnpcgacaa
open Go.Rv Go.ChangeShapes Go.WideShapes Go.ChangeAt Go.RowKit
set_option linter.unusedVariables false

set_option maxRecDepth 100000 in
theorem windowDelivers_contract (H : Type) (enc : TypeId × Value → H) (W : World) (base : Nat) (args : Array Value) (ds gs : List (DataW H)) (before : List MemPlace)
    (hval0 : ∀ (j : Nat) t v, Try.f5.params[j]? = some t → args[j]? = some v → Value.okWide Try.prog W .any base t v)
    (hW : DataW.Whole enc Try.prog Try.f5.params.toList Rows.windowDeliversSpec.vars false W args.toList ds gs before) :
    Calls Try.prog 5 args W fun e W' => ∃ v, e = .returned v ∧ Rows.windowDeliversSpec.post enc Try.prog Try.f5 false true false false W args v W' := by
  have hval : ∀ (j : Nat) t v, Try.f5.params[j]? = some t → args[j]? = some v → Value.okWide Try.prog W .any base t v := hval0
  have hW' := hW
  obtain ⟨p, q, hA0, hV, rfl, hfz, hnd⟩ := hW
  have hA : DataW.TrodAll enc Try.prog W 0 (fun _ => true) true Try.f5.params.toList args.toList ds p := hA0
  rw [Try.params5] at hA hval
  obtain ⟨v0, vs0, d0, ds0, p0, q0, hargs, rfl, rfl, h0, r0⟩ := trodAll_cons hA
  obtain ⟨rfl, rfl, rfl⟩ := trodAll_nil r0
  obtain rfl : args = #[v0] := by cases args; simp_all
  obtain ⟨rfl, rfl⟩ := trodVars_none hV
  obtain ⟨x0, hsz0, hok0, hrep0⟩ := arg_one opens44 (fun x => ⟨_, rfl⟩) (vcells_slice Try.underlying44 (hval 0 44 v0 rfl rfl)) h0 (pr := prot (B.env fun _ => False) []) (fun a => prot_empty a)
  refine (law_calls G_none (law12_WindowDelivers_con (law_delivers x0 )) Try.func5 rfl (by decide +kernel) (W := W) (args := #[v0]) ⟨hrep0 _ rfl, trivial⟩).mono fun e W' ⟨he, hbel⟩ => ?_
  exact ⟨_, he, law_post hW' rfl rfl rfl Try.underlying4 laid_ok (by decide +kernel) hbel⟩

set_option maxRecDepth 100000 in
theorem windowDelivers_lifted (os : Os) (started : os.Started) (H : Type) (enc : TypeId × Value → H) :
    ReturnsInHanded {} Try.checked os 5 .any (Rows.windowDeliversSpec.pre6 enc Try.prog Try.f5 Rows.windowDeliversRow.domain false) (Rows.windowDeliversSpec.post enc Try.prog Try.f5 false true false false) := by
  refine returnsInHanded_of_change (C := Try.checked) own started (by kernel_rfl) Try.func5
    (ChangeSpec.witness6 (enc := enc) (C := Try.checked) false ⟨#[], #[.slice none 0 0], []⟩ 8 (by kernel_rfl) (by kernel_rfl) (by kernel_rfl) (by kernel_rfl)) ?_
  intro W base args ds gs before hval hW _ _
  exact windowDelivers_contract H enc W base args ds gs before hval hW

theorem windowDelivers_said : Rows.WindowDeliversSaid :=
  OpenClaim.holds_of_wide 5 Try.f5 rfl rfl rfl rfl rfl rfl rfl ⟨rfl, rfl, rfl, rfl, rfl⟩ rfl rfl rfl rfl rfl (by kernel_rfl) Try.func5 (by kernel_rfl)
    (of_decide_eq_true (by kernel_rfl)) (by unfold Func.isWrapper; first | (rw [if_pos (by decide +kernel)]; kernel_rfl) | (rw [if_neg (by decide +kernel)]; exact ⟨rfl, rfl⟩))
    (fun os started H enc _ => windowDelivers_lifted os started H enc)

end Go.Proofs.Ytomjphpnpcgacaa
