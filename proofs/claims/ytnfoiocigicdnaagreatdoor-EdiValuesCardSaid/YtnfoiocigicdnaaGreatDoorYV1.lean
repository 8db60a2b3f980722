/-
  Part 1.
-/
import Derived.WalkKit
import Derived.Below
import Derived.MapKept
namespace Go.Rv
set_option linter.unusedVariables false
inductive AV where
  | junk
  | bool (b : Bool)
  | int (k : IntKind) (n : Int)
  | str (s : List UInt8)
  | sl (full : Bool) (els : List (List AV))
  | bs (full : Bool) (id tot off len : Nat)
  | ref (id off : Nat)
  | tref (id : Nat) (t : TypeId)
  | mref (id : Nat)
  | nref (id : Nat)
  | eref (id tot i j : Nat)
  | rp (cs : List AV)
  | agg (cs : List AV)
  | tup (vs : List AV)
  | fn (f : FuncId) (cap : List AV)
  | iface (t : TypeId) (v : AV)
  | glob (g : Nat)
  | val (v : Value)
  deriving Inhabited
inductive ABlk where
  | box (cs : List AV) (ro : Bool)
  | buf (k : Nat) (els : List (List AV)) (ro : Bool)
  | obj (o : Obj)
  | tb (T : TypeId) (l : List UInt8)
  deriving Inhabited
def G1 (l : List UInt8) : List (List AV) := l.map fun b => [.int .u8 (b.toNat : Int)]
abbrev one (v : Value) : Bool := v.oneCell'
abbrev Ab := List ABlk
structure GB where
  blk : Option Nat
  o : Nat
  k : Nat
  len : Nat
  ce : Nat
  isBox : Bool
  ro : Bool
abbrev Gh := List GB
def GB.same (b b' : GB) : Prop := b'.blk = b.blk ∧ b'.o = b.o ∧ b'.k = b.k ∧ b'.len = b.len ∧ b'.ce = b.ce ∧ b'.isBox = b.isBox
def GB.step (b b' : GB) : Prop := b.same b' ∨ (b.isBox = false ∧ b'.isBox = false ∧ b.len < b'.len)
theorem GB.same.refl (b : GB) : b.same b := ⟨rfl, rfl, rfl, rfl, rfl, rfl⟩
theorem GB.step.refl (b : GB) : b.step b := .inl (GB.same.refl b)
theorem GB.step.trans {a b c : GB} (h : a.step b) (h' : b.step c) : a.step c := by
  rcases h with ⟨h1, h2, h3, h4, h5, h6⟩ | ⟨h1, h2, h3⟩
  · rcases h' with ⟨g1, g2, g3, g4, g5, g6⟩ | ⟨g1, g2, g3⟩
    · exact .inl ⟨g1.trans h1, g2.trans h2, g3.trans h3, g4.trans h4, g5.trans h5, g6.trans h6⟩
    · exact .inr ⟨h6 ▸ g1, g2, h4 ▸ g3⟩
  · rcases h' with ⟨g1, g2, g3, g4, g5, g6⟩ | ⟨g1, g2, g3⟩
    · exact .inr ⟨h1, g6.trans h2, by omega⟩
    · exact .inr ⟨h1, g2, by omega⟩
def BsAt (b : GB) (v : Value) (full : Bool) (off len : Nat) : Prop :=
  ∃ a cap, v = .slice a len cap ∧ len ≤ cap ∧ (full = true → cap = len) ∧ off + len ≤ b.len ∧
    (cap = 0 ∨ ∃ β, b.blk = some β ∧ a = some ⟨β, b.o + off * b.k, none⟩ ∧ off + cap ≤ b.ce)
theorem BsAt.same {b b' : GB} {v : Value} {full : Bool} {off len : Nat} (h : b.same b') (hb : BsAt b v full off len) : BsAt b' v full off len := by
  obtain ⟨a, cap, h1, h2, h3, h4, h5⟩ := hb
  obtain ⟨g1, g2, g3, g4, g5, g6⟩ := h
  exact ⟨a, cap, h1, h2, h3, by omega, by rw [g1, g2, g3, g5]; exact h5⟩
inductive Rep (w : World) (pr : Addr → Prop) : Gh → Value → AV → Prop
  | junk (g : Gh) (v : Value) : Rep w pr g v .junk
  | bool (g : Gh) (b : Bool) : Rep w pr g (.bool b) (.bool b)
  | int (g : Gh) (k : IntKind) (n : Int) : Rep w pr g (.int k n) (.int k n)
  | str (g : Gh) (s : ByteArray) (l : List UInt8) (h : s.data.toList = l) : Rep w pr g (.string s) (.str l)
  | sl (g : Gh) (a : Option Addr) (len cap : Nat) (full : Bool) (els : List (List AV)) (k : Nat) (c : Nat → Nat → Value)
      (hlen : els.length = len) (hcap : len ≤ cap) (hfull : full = true → cap = len) (hnone : a = none → cap = 0)
      (hk : ∀ (i : Nat) (cs : List AV), els[i]? = some cs → cs.length = k)
      (hc : ∀ (i : Nat) (cs : List AV) (j : Nat) (x : AV), els[i]? = some cs → cs[j]? = some x → ∃ b, a = some b ∧ w.cell? (b.add (i * k + j)) = some (c i j) ∧ pr (b.add (i * k + j)) ∧ one (c i j) = true)
      (hr : ∀ (i : Nat) (cs : List AV) (j : Nat) (x : AV), els[i]? = some cs → cs[j]? = some x → Rep w pr [] (c i j) x) : Rep w pr g (.slice a len cap) (.sl full els)
  | bs (g : Gh) (v : Value) (full : Bool) (id tot off len : Nat) (b : GB) (hb : g[id]? = some b) (hx : b.isBox = false) (ht : tot ≤ b.len)
      (h : b.len = tot → BsAt b v full off len) (ho : one v = true) : Rep w pr g v (.bs full id tot off len)
  | ref (g : Gh) (id off β : Nat) (b : GB) (hb : g[id]? = some b) (hx : b.isBox = true) (hβ : b.blk = some β) : Rep w pr g (.pointer (some ⟨β, off, none⟩)) (.ref id off)
  | tref (g : Gh) (id t β : Nat) (b : GB) (hb : g[id]? = some b) (hx : b.isBox = true) (hβ : b.blk = some β) (ht : b.ce = t + 2) : Rep w pr g (.pointer (some ⟨β, 0, none⟩)) (.tref id t)
  | mref (g : Gh) (id β : Nat) (b : GB) (hb : g[id]? = some b) (hx : b.isBox = true) (hβ : b.blk = some β) : Rep w pr g (.map (some β)) (.mref id)
  | nref (g : Gh) (v : Value) (id : Nat) (b : GB) (hb : g[id]? = some b) (hx : b.isBox = true) (h : v = .pointer none ∨ ∃ β, b.blk = some β ∧ v = .pointer (some ⟨β, 0, none⟩)) : Rep w pr g v (.nref id)
  | eref (g : Gh) (v : Value) (id tot i j : Nat) (b : GB) (hb : g[id]? = some b) (hx : b.isBox = false) (ht : tot ≤ b.len)
      (h : b.len = tot → ∃ β, b.blk = some β ∧ v = .pointer (some ⟨β, b.o + i * b.k + j, none⟩)) (ho : one v = true) : Rep w pr g v (.eref id tot i j)
  | rp (g : Gh) (a : Addr) (cs : List AV) (c : Nat → Value)
      (hc : ∀ (j : Nat) (x : AV), cs[j]? = some x → w.cell? (a.add j) = some (c j) ∧ pr (a.add j) ∧ one (c j) = true)
      (hr : ∀ (j : Nat) (x : AV), cs[j]? = some x → Rep w pr [] (c j) x) : Rep w pr g (.pointer (some a)) (.rp cs)
  | agg (g : Gh) (vs : Array Value) (cs : List AV) (hs : vs.size = cs.length) (ho : ∀ (i : Nat) (x : AV), cs[i]? = some x → one (vs.getD i undef) = true)
      (hr : ∀ (i : Nat) (x : AV), cs[i]? = some x → Rep w pr g (vs.getD i undef) x) : Rep w pr g (.agg vs) (.agg cs)
  | tup (g : Gh) (vs : Array Value) (xs : List AV) (hs : vs.size = xs.length) (hr : ∀ (i : Nat) (x : AV), xs[i]? = some x → Rep w pr g (vs.getD i undef) x) : Rep w pr g (.tuple vs) (.tup xs)
  | fn (g : Gh) (f : FuncId) (caps : Array Value) (xs : List AV) (hs : caps.size = xs.length) (hr : ∀ (i : Nat) (x : AV), xs[i]? = some x → Rep w pr g (caps.getD i undef) x)
      (hn : ∀ ys, xs ≠ [.tup ys]) : Rep w pr g (.func (.func f) #[] caps) (.fn f xs)
  | fnb (g : Gh) (f : FuncId) (fs : Array Value) (xs : List AV) (hs : fs.size = xs.length) (hr : ∀ (i : Nat) (x : AV), xs[i]? = some x → Rep w pr g (fs.getD i undef) x) : Rep w pr g (.func (.func f) fs #[]) (.fn f [.tup xs])
  | iface (g : Gh) (t : TypeId) (v : Value) (x : AV) (hr : Rep w pr g v x) : Rep w pr g (.iface t v) (.iface t x)
  | glob (g : Gh) (i : Nat) : Rep w pr g (.pointer (some ⟨i, 0, none⟩)) (.glob i)
  | val (g : Gh) (v : Value) (h : one v = true) : Rep w pr g v (.val v)
def GLe (g g' : Gh) : Prop := ∀ (id : Nat) (b : GB), g[id]? = some b → ∃ b', g'[id]? = some b' ∧ b.step b'
theorem GLe.refl (g : Gh) : GLe g g := fun _ b h => ⟨b, h, GB.step.refl b⟩
theorem GLe.nil (g : Gh) : GLe [] g := fun id b h => by simp at h
theorem GLe.trans {a b c : Gh} (h : GLe a b) (h' : GLe b c) : GLe a c := fun id x hx => by
  obtain ⟨y, hy, s⟩ := h id x hx
  obtain ⟨z, hz, s'⟩ := h' id y hy
  exact ⟨z, hz, s.trans s'⟩
theorem GLe.append (g t : Gh) : GLe g (g ++ t) := fun id b h => ⟨b, by
  have hl : id < g.length := (List.getElem?_eq_some_iff.1 h).1
  rw [List.getElem?_append_left hl]; exact h, GB.step.refl b⟩
theorem Rep.mono {w w' : World} {pr pr' : Addr → Prop} (hw : ∀ a u, w.cell? a = some u → pr a → w'.cell? a = some u ∧ pr' a)
    {g : Gh} {v : Value} {x : AV} (h : Rep w pr g v x) : ∀ {g' : Gh}, GLe g g' → Rep w' pr' g' v x := by
  induction h with
  | junk g v => intro g' _; exact .junk _ _
  | bool g b => intro g' _; exact .bool _ _
  | int g k n => intro g' _; exact .int _ _ _
  | str g s l h => intro g' _; exact .str _ _ _ h
  | sl g a len cap full els k c hlen hcap hfull hnone hk hc hr ih =>
    intro g' _
    refine .sl _ a len cap full els k c hlen hcap hfull hnone hk ?_ (fun i cs j x h1 h2 => ih i cs j x h1 h2 (GLe.refl _))
    intro i cs j x h1 h2
    obtain ⟨b, hb, hcell, hp, ho⟩ := hc i cs j x h1 h2
    obtain ⟨q1, q2⟩ := hw _ _ hcell hp
    exact ⟨b, hb, q1, q2, ho⟩
  | bs g v full id tot off len b hb hx ht h ho =>
    intro g' hg
    obtain ⟨b', hb', hs⟩ := hg id b hb
    rcases hs with hs | ⟨s1, s2, s3⟩
    · exact .bs _ v full id tot off len b' hb' (hs.2.2.2.2.2.trans hx) (by have := hs.2.2.2.1; omega) (fun e => BsAt.same hs (h (by have := hs.2.2.2.1; omega))) ho
    · exact .bs _ v full id tot off len b' hb' s2 (by omega) (fun e => by omega) ho
  | ref g id off β b hb hx hβ =>
    intro g' hg
    obtain ⟨b', hb', hs⟩ := hg id b hb
    rcases hs with hs | ⟨s1, s2, s3⟩
    · exact .ref _ id off β b' hb' (hs.2.2.2.2.2.trans hx) (hs.1.trans hβ)
    · rw [hx] at s1; cases s1
  | tref g id t β b hb hx hβ ht =>
    intro g' hg
    obtain ⟨b', hb', hs⟩ := hg id b hb
    rcases hs with hs | ⟨s1, s2, s3⟩
    · exact .tref _ id t β b' hb' (hs.2.2.2.2.2.trans hx) (hs.1.trans hβ) (hs.2.2.2.2.1.trans ht)
    · rw [hx] at s1; cases s1
  | mref g id β b hb hx hβ =>
    intro g' hg
    obtain ⟨b', hb', hs⟩ := hg id b hb
    rcases hs with hs | ⟨s1, s2, s3⟩
    · exact .mref _ id β b' hb' (hs.2.2.2.2.2.trans hx) (hs.1.trans hβ)
    · rw [hx] at s1; cases s1
  | nref g v id b hb hx h =>
    intro g' hg
    obtain ⟨b', hb', hs⟩ := hg id b hb
    rcases hs with hs | ⟨s1, s2, s3⟩
    · exact .nref _ v id b' hb' (hs.2.2.2.2.2.trans hx) (by rw [hs.1]; exact h)
    · rw [hx] at s1; cases s1
  | eref g v id tot i j b hb hx ht h ho =>
    intro g' hg
    obtain ⟨b', hb', hs⟩ := hg id b hb
    rcases hs with hs | ⟨s1, s2, s3⟩
    · obtain ⟨q1, q2, q3, q4, q5, q6⟩ := hs
      refine .eref _ v id tot i j b' hb' (q6.trans hx) (by omega) (fun e => ?_) ho
      rw [q1, q2, q3]
      exact h (by omega)
    · exact .eref _ v id tot i j b' hb' s2 (by omega) (fun e => by omega) ho
  | rp g a cs c hc hr ih =>
    intro g' _
    refine .rp _ a cs c ?_ (fun j x h => ih j x h (GLe.refl _))
    intro j x h
    obtain ⟨q0, q1, q2⟩ := hc j x h
    obtain ⟨r1, r2⟩ := hw _ _ q0 q1
    exact ⟨r1, r2, q2⟩
  | agg g vs cs hs ho hr ih => intro g' hg; exact .agg _ vs cs hs ho (fun i x h => ih i x h hg)
  | tup g vs xs hs hr ih => intro g' hg; exact .tup _ vs xs hs (fun i x h => ih i x h hg)
  | fn g f caps xs hs hr hn ih => intro g' hg; exact .fn _ f caps xs hs (fun i x h => ih i x h hg) hn
  | fnb g f fs xs hs hr ih => intro g' hg; exact .fnb _ f fs xs hs (fun i x h => ih i x h hg)
  | iface g t v x hr ih => intro g' hg; exact .iface _ t v x (ih hg)
  | glob g i => intro g' _; exact .glob _ _
  | val g v h => intro g' _; exact .val _ _ h
structure TD where
  desc : TypeDesc
  size : Nat
  bytes : Nat
  zero : List AV
structure MapS where
  r : Nat
  kt : TypeId
  et : TypeId
  kd : TypeDesc
  zv : AV
  ans : AV → Option AV
def Gq : AV → Bool
  | .bool _ | .int _ _ | .str _ => true
  | _ => false
def avV : AV → Value
  | .bool b => .bool b
  | .int k n => .int k n
  | .str s => .string ⟨s.toArray⟩
  | _ => .bool false
def Aj5 : TypeDesc → AV → Bool
  | .int k, .int k' _ => k == k'
  | .string, .str _ => true
  | .bool, .bool _ => true
  | _, _ => false
def Ak3 (P : Program) (t : TypeId) (m : MapS) (w : World) : Prop :=
  P.underlying t = some (.map m.kt m.et) ∧ P.underlying m.kt = some m.kd ∧ (∀ w, (zeroValue m.et).run P w = .ok (avV m.zv) w) ∧ Gq m.zv = true ∧
    ∃ es cl, w.heap[m.r]? = some (.map es cl) ∧ (∀ e ∈ es.toList, MapKept.IsKey m.kd e.key ∧ ∃ ka va, e.key = avV ka ∧ e.val = avV va ∧ Gq ka = true ∧ Gq va = true ∧ m.ans ka = some va) ∧
      ∀ ka, Gq ka = true → m.ans ka ≠ none → ∃ e ∈ es.toList, e.key = avV ka
structure Base where
  P : Program
  tab : Nat → Option TD
  G : Nat → Option (List AV)
  own : FuncId → Bool := fun _ => false
  maps : TypeId → Option MapS := fun _ => none
  whole : Nat → Option (Array Value) := fun _ => none
  bty : Option TypeId := none
  lm : Bool := false
  lmOk : lm = true → ∀ t, maps t = none := by intro h; cases h
structure Env extends Base where
  F : Addr → Prop
  D : List Deferred := []
def Base.env (B : Base) (F : Addr → Prop) : Env := { B with F := F }
def A2 (E : Env) (g : Gh) (a : Addr) : Prop := ¬ E.F a ∧ ∀ (id : Nat) (b : GB), g[id]? = some b → b.blk = some a.block → b.ro = true ∧ a.off < b.o + b.len * b.k
def Gu (g : Gh) (β : Nat) : Prop := ∃ (id : Nat) (b : GB), g[id]? = some b ∧ b.blk = some β
theorem B4 {E : Env} {g : Gh} {a : Addr} (hF : ¬ E.F a) (h : ¬ Gu g a.block) : A2 E g a := ⟨hF, fun id b hb hβ => (h ⟨id, b, hb, hβ⟩).elim⟩
def AeI (k n : Nat) : Nat := if k = 1 then n else n + 1
theorem P5 (k n : Nat) : n ≤ AeI k n := by unfold AeI; split <;> omega
def noFreeze (fz : Nat × Nat) (lo hi : Nat) : Prop := fz.1 ≤ fz.2 ∧ ∀ j, lo ≤ j → j < hi → ¬ (fz.1 ≤ j ∧ j < fz.2)
def Aaq : Obj → Bool
  | .stringIter .. | .map .. => true
  | _ => false
def tyB (b : GB) (t : TypeId) : TypeId := if 2 ≤ b.ce then b.ce - 2 else t
def BlkOk (E : Env) (w : World) (g : Gh) (b : GB) : ABlk → Prop
  | .box cs ro => b.isBox = true ∧ b.ro = ro ∧ b.o = 0 ∧ b.k = cs.length ∧ b.len = 1 ∧
      ∃ β arr t fz, b.blk = some β ∧ w.heap[β]? = some (.cells arr (tyB b t) fz) ∧ arr.size = cs.length ∧ noFreeze fz 0 arr.size ∧
        ∀ (j : Nat) (x : AV), cs[j]? = some x → Rep w (A2 E g) g (arr.getD j undef) x ∧ one (arr.getD j undef) = true
  | .buf k els ro => b.isBox = false ∧ b.ro = ro ∧ b.k = k ∧ b.len = els.length ∧ (∀ (i : Nat) (cs : List AV), els[i]? = some cs → cs.length = k) ∧ (b.blk = none → (els = [] ∨ k = 0) ∧ b.ce = 0) ∧
      ∀ β, b.blk = some β → ∃ arr t fz, w.heap[β]? = some (.cells arr t fz) ∧ b.o + b.ce * k ≤ arr.size ∧ els.length ≤ b.ce ∧ noFreeze fz 0 (AeI k arr.size) ∧
        ∀ (i : Nat) (cs : List AV) (j : Nat) (x : AV), els[i]? = some cs → cs[j]? = some x → Rep w (A2 E g) g (arr.getD (b.o + i * k + j) undef) x ∧ one (arr.getD (b.o + i * k + j) undef) = true
  | .obj o => b.isBox = true ∧ Aaq o = true ∧ ∃ β, b.blk = some β ∧ w.heap[β]? = some o
  | .tb T l => (b.isBox = false ∧ b.ro = b.ro ∧ b.k = 1 ∧ b.len = (G1 l).length ∧ (∀ (i : Nat) (cs : List AV), (G1 l)[i]? = some cs → cs.length = 1) ∧ (b.blk = none → (G1 l = [] ∨ 1 = 0) ∧ b.ce = 0) ∧
      ∀ β, b.blk = some β → ∃ arr t fz, w.heap[β]? = some (.cells arr t fz) ∧ b.o + b.ce * 1 ≤ arr.size ∧ (G1 l).length ≤ b.ce ∧ noFreeze fz 0 (AeI 1 arr.size) ∧
        ∀ (i : Nat) (cs : List AV) (j : Nat) (x : AV), (G1 l)[i]? = some cs → cs[j]? = some x → Rep w (A2 E g) g (arr.getD (b.o + i * 1 + j) undef) x ∧ one (arr.getD (b.o + i * 1 + j) undef) = true) ∧
      ∀ β, b.blk = some β → ∃ arr fz, w.heap[β]? = some (.cells arr T fz)
structure Env.Ok (E : Env) : Prop where
  desc : ∀ t d, E.tab t = some d → E.P.underlying t = some d.desc
  info : ∀ t d, E.tab t = some d → ∃ i z, E.P.info? t = some i ∧ i.size = d.size ∧ i.bytes = d.bytes ∧ i.zero = some z ∧ z.cells.size = d.zero.length ∧ d.zero.length = d.size ∧
    ∀ w pr g (j : Nat) (x : AV), d.zero[j]? = some x → Rep w pr g (z.cells.getD j undef) x ∧ one (z.cells.getD j undef) = true
structure St where
  fr : List AV
  σ : Ab
structure Mem (E : Env) (w : World) (g : Gh) (σ : Ab) : Prop where
  len : g.length = σ.length
  blk : ∀ (id : Nat) (b : GB) (ab : ABlk), g[id]? = some b → σ[id]? = some ab → BlkOk E w g b ab
  inj : ∀ (id id' : Nat) (b b' : GB) (β : Nat), g[id]? = some b → g[id']? = some b' → b.blk = some β → b'.blk = some β → id = id'
  foreign : ∀ a, E.F a → a.block < w.heap.size ∧ ¬ Gu g a.block
  glob : ∀ i cs, E.G i = some cs → i < w.heap.size ∧ ¬ Gu g i ∧ (∀ j, ¬ E.F ⟨i, j, none⟩) ∧ ∃ c : Nat → Value, ∀ (j : Nat) (x : AV), cs[j]? = some x → w.cell? ⟨i, j, none⟩ = some (c j) ∧ Rep w (A2 E g) [] (c j) x ∧ one (c j) = true
  maps : ∀ t m, E.maps t = some m → Ak3 E.P t m w
  whole : ∀ i vs, E.whole i = some vs → ¬ Gu g i ∧ ∃ t o, w.heap[i]? = some (.cells vs t o)
structure Rel (E : Env) (w : World) (g : Gh) (st : St) (a : Act) : Prop where
  size : a.tmps.size = st.fr.length
  slot : ∀ (t : Nat) (x : AV), st.fr[t]? = some x → Rep w (A2 E g) g (a.tmps.getD t undef) x
  mem : Mem E w g st.σ
  defers : a.defers = E.D
structure Evo (E : Env) (n : Nat) (w : World) (g : Gh) (w' : World) (g' : Gh) : Prop where
  os : w'.os = w.os
  tape : w'.tape = w.tape
  output : w'.output = w.output
  size : w.heap.size ≤ w'.heap.size
  cells : ∀ a u, w.cell? a = some u → A2 E g a → w'.cell? a = some u ∧ A2 E g' a
  blocks : ∀ β, β < w.heap.size → ¬ Gu g β → w'.heap[β]? = w.heap[β]? ∧ ¬ Gu g' β
  ids : ∀ id, id < n → ∀ b, g[id]? = some b → ∃ b', g'[id]? = some b' ∧ b.step b'
theorem Evo.refl (E : Env) (n : Nat) (w : World) (g : Gh) : Evo E n w g w g :=
  ⟨rfl, rfl, rfl, Nat.le_refl _, fun _ _ h p => ⟨h, p⟩, fun _ _ h => ⟨rfl, h⟩, fun _ _ b h => ⟨b, h, GB.step.refl b⟩⟩
theorem Evo.trans {E : Env} {n : Nat} {w w1 w2 : World} {g g1 g2 : Gh} (h : Evo E n w g w1 g1) (k : Evo E n w1 g1 w2 g2) : Evo E n w g w2 g2 :=
  ⟨k.os.trans h.os, k.tape.trans h.tape, k.output.trans h.output, Nat.le_trans h.size k.size,
   fun a u hc hp => let ⟨c1, p1⟩ := h.cells a u hc hp; k.cells a u c1 p1,
   fun β hβ hm => let ⟨e1, m1⟩ := h.blocks β hβ hm; let ⟨e2, m2⟩ := k.blocks β (Nat.lt_of_lt_of_le hβ h.size) m1; ⟨e2.trans e1, m2⟩,
   fun id hid b hb => let ⟨b1, hb1, s1⟩ := h.ids id hid b hb; let ⟨b2, hb2, s2⟩ := k.ids id hid b1 hb1; ⟨b2, hb2, s1.trans s2⟩⟩
theorem Evo.below {E : Env} {w w' : World} {g' : Gh} (h : Evo E 0 w [] w' g') : Go.RowKit.Below w.heap.size w w' :=
  ⟨h.os, h.tape, h.output, h.size, fun k hk => (h.blocks k hk (fun ⟨_, _, e, _⟩ => by simp at e)).1⟩
end Go.Rv
