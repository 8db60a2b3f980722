/-
  The library and the walks, part 1.
-/
import Derived.Test.YtomjphpnpcgacaaProg
import Derived.Test.YtomjphpnpcgacaaR40
import Derived.KernelRfl
/-
  Types, and rules for the operations at them.
-/
namespace Go.Proofs.Ytomjphpnpcgacaa
open Go.Rv
set_option linter.unusedVariables false
set_option linter.unusedSimpArgs false
set_option maxRecDepth 20000

attribute [go_sem_proc] reduceIte Nat.reduceLT Nat.reduceEqDiff Nat.reduceAdd

noncomputable def B : Base := baseOwn Try.prog (fun _ => none) (fun f => [38, 41, 42, 43, 58, 59, 60].contains f)
theorem ok : B.Ok := baseOwn_ok _ _ _
theorem own3 (F : Addr → Prop) : (B.env F).own 3 = false := rfl
attribute [go_sem] own3
theorem own4 (F : Addr → Prop) : (B.env F).own 4 = false := rfl
attribute [go_sem] own4
theorem own7 (F : Addr → Prop) : (B.env F).own 7 = false := rfl
attribute [go_sem] own7
theorem own8 (F : Addr → Prop) : (B.env F).own 8 = false := rfl
attribute [go_sem] own8
theorem own10 (F : Addr → Prop) : (B.env F).own 10 = false := rfl
attribute [go_sem] own10
theorem own11 (F : Addr → Prop) : (B.env F).own 11 = false := rfl
attribute [go_sem] own11
theorem own12 (F : Addr → Prop) : (B.env F).own 12 = false := rfl
attribute [go_sem] own12
theorem own13 (F : Addr → Prop) : (B.env F).own 13 = false := rfl
attribute [go_sem] own13
theorem own14 (F : Addr → Prop) : (B.env F).own 14 = false := rfl
attribute [go_sem] own14
theorem own15 (F : Addr → Prop) : (B.env F).own 15 = false := rfl
attribute [go_sem] own15
theorem own16 (F : Addr → Prop) : (B.env F).own 16 = false := rfl
attribute [go_sem] own16
theorem own17 (F : Addr → Prop) : (B.env F).own 17 = false := rfl
attribute [go_sem] own17
theorem own18 (F : Addr → Prop) : (B.env F).own 18 = false := rfl
attribute [go_sem] own18
theorem own19 (F : Addr → Prop) : (B.env F).own 19 = false := rfl
attribute [go_sem] own19
theorem own20 (F : Addr → Prop) : (B.env F).own 20 = false := rfl
attribute [go_sem] own20
theorem own21 (F : Addr → Prop) : (B.env F).own 21 = false := rfl
attribute [go_sem] own21
theorem own22 (F : Addr → Prop) : (B.env F).own 22 = false := rfl
attribute [go_sem] own22
theorem own27 (F : Addr → Prop) : (B.env F).own 27 = false := rfl
attribute [go_sem] own27
theorem own30 (F : Addr → Prop) : (B.env F).own 30 = false := rfl
attribute [go_sem] own30
theorem own35 (F : Addr → Prop) : (B.env F).own 35 = false := rfl
attribute [go_sem] own35
theorem own36 (F : Addr → Prop) : (B.env F).own 36 = false := rfl
attribute [go_sem] own36
theorem own37 (F : Addr → Prop) : (B.env F).own 37 = false := rfl
attribute [go_sem] own37
theorem own38 (F : Addr → Prop) : (B.env F).own 38 = true := rfl
attribute [go_sem] own38
theorem own39 (F : Addr → Prop) : (B.env F).own 39 = false := rfl
attribute [go_sem] own39
theorem own40 (F : Addr → Prop) : (B.env F).own 40 = false := rfl
attribute [go_sem] own40
theorem own41 (F : Addr → Prop) : (B.env F).own 41 = true := rfl
attribute [go_sem] own41
theorem own42 (F : Addr → Prop) : (B.env F).own 42 = true := rfl
attribute [go_sem] own42
theorem own43 (F : Addr → Prop) : (B.env F).own 43 = true := rfl
attribute [go_sem] own43
theorem own44 (F : Addr → Prop) : (B.env F).own 44 = false := rfl
attribute [go_sem] own44
theorem own45 (F : Addr → Prop) : (B.env F).own 45 = false := rfl
attribute [go_sem] own45
theorem own55 (F : Addr → Prop) : (B.env F).own 55 = false := rfl
attribute [go_sem] own55
theorem own56 (F : Addr → Prop) : (B.env F).own 56 = false := rfl
attribute [go_sem] own56
theorem own57 (F : Addr → Prop) : (B.env F).own 57 = false := rfl
attribute [go_sem] own57
theorem own58 (F : Addr → Prop) : (B.env F).own 58 = true := rfl
attribute [go_sem] own58
theorem own59 (F : Addr → Prop) : (B.env F).own 59 = true := rfl
attribute [go_sem] own59
theorem own60 (F : Addr → Prop) : (B.env F).own 60 = true := rfl
attribute [go_sem] own60
theorem mixed : Try.prog.follows .mixedOrders = true := by kernel_rfl

structure Api_Packet where
  Epoch : Int
  To : Int
  Seq : Int
  Ack : Int
  Data : List UInt8
  deriving DecidableEq, Inhabited
def cApi_Packet (x : Api_Packet) : List AV := [i64 x.Epoch, i64 x.To, i64 x.Seq, i64 x.Ack, .sl false (L cU8 x.Data)]
attribute [go_sem] cApi_Packet
structure Api_Peer where
  Epoch : Int
  Other : Int
  First : Int
  Queue : List (List UInt8)
  Next : Int
  Early : List Api_Packet
  SentAt : Int
  deriving DecidableEq, Inhabited
def cApi_Peer (x : Api_Peer) : List AV := [i64 x.Epoch, i64 x.Other, i64 x.First, .sl false (L (cSl cU8) x.Queue), i64 x.Next, .sl false (L cApi_Packet x.Early), i64 x.SentAt]
attribute [go_sem] cApi_Peer
structure Window_side where
  Peer : Api_Peer
  delivered : List (List UInt8)
  deriving DecidableEq, Inhabited
def cWindow_side (x : Window_side) : List AV := [i64 x.Peer.Epoch, i64 x.Peer.Other, i64 x.Peer.First, .sl false (L (cSl cU8) x.Peer.Queue), i64 x.Peer.Next, .sl false (L cApi_Packet x.Peer.Early), i64 x.Peer.SentAt, .sl false (L (cSl cU8) x.delivered)]
attribute [go_sem] cWindow_side
theorem tt3 : tabOf Try.prog 3 = some ⟨.int .i64, 1, 8, [i64 0]⟩ := by kernel_rfl
theorem tb3 (F : Addr → Prop) : (B.env F).tab 3 = some ⟨.int .i64, 1, 8, [i64 0]⟩ := tt3
attribute [go_sem] tb3
theorem tt4 : tabOf Try.prog 4 = some ⟨.bool, 1, 1, [.bool false]⟩ := by kernel_rfl
theorem tb4 (F : Addr → Prop) : (B.env F).tab 4 = some ⟨.bool, 1, 1, [.bool false]⟩ := tt4
attribute [go_sem] tb4
theorem tt5 : tabOf Try.prog 5 = some ⟨.int .u8, 1, 1, [u8 ((0 : UInt8))]⟩ := by kernel_rfl
theorem tb5 (F : Addr → Prop) : (B.env F).tab 5 = some ⟨.int .u8, 1, 1, [u8 ((0 : UInt8))]⟩ := tt5
attribute [go_sem] tb5
theorem tt9 : tabOf Try.prog 9 = some ⟨.string, 1, 16, [.str (([] : List UInt8))]⟩ := by kernel_rfl
theorem tb9 (F : Addr → Prop) : (B.env F).tab 9 = some ⟨.string, 1, 16, [.str (([] : List UInt8))]⟩ := tt9
attribute [go_sem] tb9
theorem tt22 : tabOf Try.prog 22 = some ⟨.slice 26, 1, 24, [.sl true (L (cSl cU8) ([]))]⟩ := by kernel_rfl
theorem tb22 (F : Addr → Prop) : (B.env F).tab 22 = some ⟨.slice 26, 1, 24, [.sl true (L (cSl cU8) ([]))]⟩ := tt22
attribute [go_sem] tb22
theorem tt23 : tabOf Try.prog 23 = some ⟨.slice 39, 1, 24, [.sl true (L cApi_Packet ([]))]⟩ := by kernel_rfl
theorem tb23 (F : Addr → Prop) : (B.env F).tab 23 = some ⟨.slice 39, 1, 24, [.sl true (L cApi_Packet ([]))]⟩ := tt23
attribute [go_sem] tb23
theorem tt25 : tabOf Try.prog 25 = some ⟨.struct #[⟨"Epoch", 3, 0, false, "", "", 0⟩, ⟨"Other", 3, 1, false, "", "", 8⟩, ⟨"First", 3, 2, false, "", "", 16⟩, ⟨"Queue", 22, 3, false, "", "", 24⟩, ⟨"Next", 3, 4, false, "", "", 48⟩, ⟨"Early", 23, 5, false, "", "", 56⟩, ⟨"SentAt", 3, 6, false, "", "", 80⟩], 7, 88, [i64 0, i64 0, i64 0, .sl true (L (cSl cU8) ([])), i64 0, .sl true (L cApi_Packet ([])), i64 0]⟩ := by kernel_rfl
theorem tb25 (F : Addr → Prop) : (B.env F).tab 25 = some ⟨.struct #[⟨"Epoch", 3, 0, false, "", "", 0⟩, ⟨"Other", 3, 1, false, "", "", 8⟩, ⟨"First", 3, 2, false, "", "", 16⟩, ⟨"Queue", 22, 3, false, "", "", 24⟩, ⟨"Next", 3, 4, false, "", "", 48⟩, ⟨"Early", 23, 5, false, "", "", 56⟩, ⟨"SentAt", 3, 6, false, "", "", 80⟩], 7, 88, [i64 0, i64 0, i64 0, .sl true (L (cSl cU8) ([])), i64 0, .sl true (L cApi_Packet ([])), i64 0]⟩ := tt25
attribute [go_sem] tb25
theorem tt26 : tabOf Try.prog 26 = some ⟨.slice 5, 1, 24, [.sl true (L cU8 ([]))]⟩ := by kernel_rfl
theorem tb26 (F : Addr → Prop) : (B.env F).tab 26 = some ⟨.slice 5, 1, 24, [.sl true (L cU8 ([]))]⟩ := tt26
attribute [go_sem] tb26
theorem tt29 : tabOf Try.prog 29 = some ⟨.int .i64, 1, 8, [i64 0]⟩ := by kernel_rfl
theorem tb29 (F : Addr → Prop) : (B.env F).tab 29 = some ⟨.int .i64, 1, 8, [i64 0]⟩ := tt29
attribute [go_sem] tb29
theorem tt39 : tabOf Try.prog 39 = some ⟨.struct #[⟨"Epoch", 3, 0, false, "", "", 0⟩, ⟨"To", 3, 1, false, "", "", 8⟩, ⟨"Seq", 3, 2, false, "", "", 16⟩, ⟨"Ack", 3, 3, false, "", "", 24⟩, ⟨"Data", 26, 4, false, "", "", 32⟩], 5, 56, [i64 0, i64 0, i64 0, i64 0, .sl true (L cU8 ([]))]⟩ := by kernel_rfl
theorem tb39 (F : Addr → Prop) : (B.env F).tab 39 = some ⟨.struct #[⟨"Epoch", 3, 0, false, "", "", 0⟩, ⟨"To", 3, 1, false, "", "", 8⟩, ⟨"Seq", 3, 2, false, "", "", 16⟩, ⟨"Ack", 3, 3, false, "", "", 24⟩, ⟨"Data", 26, 4, false, "", "", 32⟩], 5, 56, [i64 0, i64 0, i64 0, i64 0, .sl true (L cU8 ([]))]⟩ := tt39
attribute [go_sem] tb39
theorem tt58 : tabOf Try.prog 58 = some ⟨.slice 3, 1, 24, [.sl true (L cI64 ([]))]⟩ := by kernel_rfl
theorem tb58 (F : Addr → Prop) : (B.env F).tab 58 = some ⟨.slice 3, 1, 24, [.sl true (L cI64 ([]))]⟩ := tt58
attribute [go_sem] tb58
theorem tt79 : tabOf Try.prog 79 = some ⟨.struct #[⟨"Peer", 25, 0, true, "", "", 0⟩, ⟨"delivered", 22, 7, false, "", "wagonpool/window", 88⟩], 8, 112, [i64 0, i64 0, i64 0, .sl true (L (cSl cU8) ([])), i64 0, .sl true (L cApi_Packet ([])), i64 0, .sl true (L (cSl cU8) ([]))]⟩ := by kernel_rfl
theorem tb79 (F : Addr → Prop) : (B.env F).tab 79 = some ⟨.struct #[⟨"Peer", 25, 0, true, "", "", 0⟩, ⟨"delivered", 22, 7, false, "", "wagonpool/window", 88⟩], 8, 112, [i64 0, i64 0, i64 0, .sl true (L (cSl cU8) ([])), i64 0, .sl true (L cApi_Packet ([])), i64 0, .sl true (L (cSl cU8) ([]))]⟩ := tt79
attribute [go_sem] tb79
theorem tt80 : tabOf Try.prog 80 = some ⟨.func #[39] #[] false, 1, 8, [.val .nilFunc]⟩ := by kernel_rfl
theorem tb80 (F : Addr → Prop) : (B.env F).tab 80 = some ⟨.func #[39] #[] false, 1, 8, [.val .nilFunc]⟩ := tt80
attribute [go_sem] tb80
theorem tt81 : tabOf Try.prog 81 = some ⟨.slice 80, 1, 24, [.sl true []]⟩ := by kernel_rfl
theorem tb81 (F : Addr → Prop) : (B.env F).tab 81 = some ⟨.slice 80, 1, 24, [.sl true []]⟩ := tt81
attribute [go_sem] tb81
theorem tt86 : tabOf Try.prog 86 = some ⟨.int .u64, 1, 8, [u64 ((0 : UInt64))]⟩ := by kernel_rfl
theorem tb86 (F : Addr → Prop) : (B.env F).tab 86 = some ⟨.int .u64, 1, 8, [u64 ((0 : UInt64))]⟩ := tt86
attribute [go_sem] tb86
theorem tt99 : tabOf Try.prog 99 = some ⟨.func #[39, 3] #[3] false, 1, 8, [.val .nilFunc]⟩ := by kernel_rfl
theorem tb99 (F : Addr → Prop) : (B.env F).tab 99 = some ⟨.func #[39, 3] #[3] false, 1, 8, [.val .nilFunc]⟩ := tt99
attribute [go_sem] tb99
theorem tt109 : tabOf Try.prog 109 = some ⟨.int .u64, 1, 8, [u64 ((0 : UInt64))]⟩ := by kernel_rfl
theorem tb109 (F : Addr → Prop) : (B.env F).tab 109 = some ⟨.int .u64, 1, 8, [u64 ((0 : UInt64))]⟩ := tt109
attribute [go_sem] tb109
theorem ku64x1 : AV.int .u64 1 = u64 1 := rfl
attribute [go_sem] ku64x1
theorem ku8x120 : AV.int .u8 120 = u8 120 := rfl
attribute [go_sem] ku8x120
theorem ixsl22 {F} {σ : Store} (f : Bool) (l : List (List UInt8)) (x : AV) : indexAddrA (B.env F) σ 22 (.sl f (L (cSl cU8) l)) x = match idx x l.length with
    | some i => some (.rp ((cSl cU8) (nth l i)))
    | none => none := ixA_sl (cSl cU8) (tb22 F) (tb26 F) (fun _ => rfl) f l x
attribute [go_sem] ixsl22
theorem ixsl23 {F} {σ : Store} (f : Bool) (l : List Api_Packet) (x : AV) : indexAddrA (B.env F) σ 23 (.sl f (L cApi_Packet l)) x = match idx x l.length with
    | some i => some (.rp (cApi_Packet (nth l i)))
    | none => none := ixA_sl cApi_Packet (tb23 F) (tb39 F) (fun _ => rfl) f l x
attribute [go_sem] ixsl23
theorem mks26 {F} {σ : Store} (l c : Int) : makeSliceA (B.env F) σ 26 (i64 l) (i64 c) = if Mk l c 1 then some (.bs (l == c) σ.length l.toNat 0 l.toNat, σ ++ [.buf 1 (List.replicate l.toNat [u8 ((0 : UInt8))]) false]) else none := make_eq (tb26 F) (tb5 F) (by decide) l c
attribute [go_sem] mks26
theorem app22x22 {F} {σ : Store} (s x : AV) : builtinA (B.env F) σ .append [22, 22] [s, x] = match view σ x with
      | some new => if strBad x 1 = true then none else if ∀ cs ∈ new, cs.length = 1 then (match s with
          | .sl full els =>
            if els = [] ∧ full = true then
              if Fits new.length 24 then some (.bs false σ.length new.length 0 new.length, σ ++ [.buf 1 new false]) else none
            else if new = [] then some (.sl full els, σ)
            else if full = true ∧ (∀ cs ∈ els, cs.length = 1) ∧ Fits (els.length + new.length) 24
            then some (.bs false σ.length (els.length + new.length) 0 (els.length + new.length), σ ++ [.buf 1 (els ++ new) false]) else none
          | .bs full id tot off len => match σ[id]? with
            | some (.buf k els ro) =>
              if els.length = tot ∧ k = 1 ∧ Fits (len + new.length) 24 then
                if off = 0 ∧ len = tot then some (.bs false id (tot + new.length) 0 (tot + new.length), σ.set id (.buf k (els ++ new) ro))
                else if new = [] then some (.bs full id tot off len, σ)
                else if full then some (.bs false σ.length (len + new.length) 0 (len + new.length), σ ++ [.buf k ((els.drop off).take len ++ new) false])
                else none
              else none
            | _ => none
          | _ => none)
        else none
      | none => none := append_eq (tb22 F) (tb26 F) (by decide) (tb22 F) (.inl ⟨_, rfl⟩) s x []
attribute [go_sem] app22x22
theorem app23x23 {F} {σ : Store} (s x : AV) : builtinA (B.env F) σ .append [23, 23] [s, x] = match view σ x with
      | some new => if strBad x 5 = true then none else if ∀ cs ∈ new, cs.length = 5 then (match s with
          | .sl full els =>
            if els = [] ∧ full = true then
              if Fits new.length 56 then some (.bs false σ.length new.length 0 new.length, σ ++ [.buf 5 new false]) else none
            else if new = [] then some (.sl full els, σ)
            else if full = true ∧ (∀ cs ∈ els, cs.length = 5) ∧ Fits (els.length + new.length) 56
            then some (.bs false σ.length (els.length + new.length) 0 (els.length + new.length), σ ++ [.buf 5 (els ++ new) false]) else none
          | .bs full id tot off len => match σ[id]? with
            | some (.buf k els ro) =>
              if els.length = tot ∧ k = 5 ∧ Fits (len + new.length) 56 then
                if off = 0 ∧ len = tot then some (.bs false id (tot + new.length) 0 (tot + new.length), σ.set id (.buf k (els ++ new) ro))
                else if new = [] then some (.bs full id tot off len, σ)
                else if full then some (.bs false σ.length (len + new.length) 0 (len + new.length), σ ++ [.buf k ((els.drop off).take len ++ new) false])
                else none
              else none
            | _ => none
          | _ => none)
        else none
      | none => none := append_eq (tb23 F) (tb39 F) (by decide) (tb23 F) (.inl ⟨_, rfl⟩) s x []
attribute [go_sem] app23x23
theorem app26x26 {F} {σ : Store} (s x : AV) : builtinA (B.env F) σ .append [26, 26] [s, x] = match view σ x with
      | some new => if strBad x 1 = true then none else if ∀ cs ∈ new, cs.length = 1 then (match s with
          | .sl full els =>
            if els = [] ∧ full = true then
              if Fits new.length 1 then some (.bs false σ.length new.length 0 new.length, σ ++ [.buf 1 new false]) else none
            else if new = [] then some (.sl full els, σ)
            else if full = true ∧ (∀ cs ∈ els, cs.length = 1) ∧ Fits (els.length + new.length) 1
            then some (.bs false σ.length (els.length + new.length) 0 (els.length + new.length), σ ++ [.buf 1 (els ++ new) false]) else none
          | .bs full id tot off len => match σ[id]? with
            | some (.buf k els ro) =>
              if els.length = tot ∧ k = 1 ∧ Fits (len + new.length) 1 then
                if off = 0 ∧ len = tot then some (.bs false id (tot + new.length) 0 (tot + new.length), σ.set id (.buf k (els ++ new) ro))
                else if new = [] then some (.bs full id tot off len, σ)
                else if full then some (.bs false σ.length (len + new.length) 0 (len + new.length), σ ++ [.buf k ((els.drop off).take len ++ new) false])
                else none
              else none
            | _ => none
          | _ => none)
        else none
      | none => none := append_eq (tb26 F) (tb5 F) (by decide) (tb26 F) (.inl ⟨_, rfl⟩) s x []
attribute [go_sem] app26x26
theorem ixbs81 {F} {σ : Store} (f : Bool) (id tot off len : Nat) (x : AV) : indexAddrA (B.env F) σ 81 (.bs f id tot off len) x = match σ[id]?, idx x len with
    | some (.buf k els _), some i => if els.length = tot ∧ k = 1 then some (.eref id tot (off + i) 0) else none
    | _, _ => none := ixA_bs (tb81 F) (tb80 F) (by decide) f id tot off len x
attribute [go_sem] ixbs81
theorem bbeql4 {F} (x y : Bool) : binOpA (B.env F) .eql 4 (.bool x) (.bool y) = some (.bool (x == y)) := bin_bool_eql (tb4 F) x y
attribute [go_sem] bbeql4
theorem ixsl58 {F} {σ : Store} (f : Bool) (l : List Int) (x : AV) : indexAddrA (B.env F) σ 58 (.sl f (L cI64 l)) x = match idx x l.length with
    | some i => some (.rp (cI64 (nth l i)))
    | none => none := ixA_sl cI64 (tb58 F) (tb3 F) (fun _ => rfl) f l x
attribute [go_sem] ixsl58
theorem ixbs23 {F} {σ : Store} (f : Bool) (id tot off len : Nat) (x : AV) : indexAddrA (B.env F) σ 23 (.bs f id tot off len) x = match σ[id]?, idx x len with
    | some (.buf k els _), some i => if els.length = tot ∧ k = 5 then some (.eref id tot (off + i) 0) else none
    | _, _ => none := ixA_bs (tb23 F) (tb39 F) (by decide) f id tot off len x
attribute [go_sem] ixbs23
end Go.Proofs.Ytomjphpnpcgacaa
/-
  What the functions compute, as plain programs.
-/
namespace Go.Proofs.Ytomjphpnpcgacaa
open Go.Rv
set_option linter.unusedVariables false
set_option linter.unusedSimpArgs false
set_option maxRecDepth 20000

def window_between (n_1 : Int) (lo_2 : Int) (hi_3 : Int) : Option (Bool) :=
  (if (decide (n_1 ≥ lo_2)) = true then
    some ((decide (n_1 ≤ hi_3)))
  else
    some false : Option (Bool)).bind fun t_4 =>
  some t_4

def r12_within (n_7 : Int) (lo_8 : Int) (hi_9 : Int) : Option (Bool) :=
  (if (decide (n_7 ≥ lo_8)) = true then
    some ((decide (n_7 ≤ hi_9)))
  else
    some false : Option (Bool)).bind fun t_10 =>
  some t_10

def window_valid_b1 (p_13 : Api_Peer) (t_54 : Int) : Option ((Int) ⊕ ((Unit) ⊕ ((Unit) ⊕ (Bool)))) :=
  if (decide (t_54 < (p_13.Queue.length : Int))) = true then
    if InR t_54 p_13.Queue.length then
      if (decide (((nth p_13.Queue t_54.toNat).length : Int) > 8000)) = true then
        ((some false).bind fun z_64 => some (.inr z_64)).bind fun z_65 => some (.inr (.inr z_65))
      else
        some (.inl ((w64 (t_54 + 1))))
    else none
  else
    some (.inr (.inl (())))
def window_valid_b2 (p_13 : Api_Peer) (last_136 : Int) (t_137 : Int) : Option ((Int × Int) ⊕ ((Unit) ⊕ ((Unit) ⊕ (Bool)))) :=
  if (decide (t_137 < (p_13.Early.length : Int))) = true then
    if InR t_137 p_13.Early.length then
      lt1 ((nth p_13.Early t_137.toNat).Epoch) fun (f_164 : Int) =>
      lt1 ((nth p_13.Early t_137.toNat).To) fun (f_165 : Int) =>
      lt1 ((nth p_13.Early t_137.toNat).Seq) fun (f_166 : Int) =>
      lt1 ((nth p_13.Early t_137.toNat).Ack) fun (f_167 : Int) =>
      lt1 ((nth p_13.Early t_137.toNat).Data) fun (f_168 : List UInt8) =>
      (if (decide (f_166 ≤ last_136)) = true then
        some true
      else
        if (decide (f_166 ≥ (mn64 ((w64 (p_13.Next + 64))) 1099511627776))) = true then
          some true
        else
          if (decide ((f_168.length : Int) > 8000)) = true then
            some true
          else
            if (f_164 != 0) = true then
              some true
            else
              if (f_165 != 0) = true then
                some true
              else
                some ((f_167 != 0)) : Option (Bool)).bind fun t_174 =>
      if t_174 = true then
        ((some false).bind fun z_181 => some (.inr z_181)).bind fun z_182 => some (.inr (.inr z_182))
      else
        some (.inl ((f_166, (w64 (t_137 + 1)))))
    else none
  else
    some (.inr (.inl (())))
def window_valid (p_13 : Api_Peer) : Option (Bool) :=
  ((window_between p_13.Epoch 0 1073741824).bind fun y_14 =>
  if (!y_14) = true then
    some true
  else
    (window_between p_13.Other ((-1)) 1073741824).bind fun y_15 =>
    if (!y_15) = true then
      some true
    else
      (window_between p_13.SentAt ((-1)) 1073741824).bind fun y_16 =>
      some ((!y_16)) : Option (Bool)).bind fun t_17 =>
  if t_17 = true then
    some false
  else
    ((window_between p_13.First 0 1099511627776).bind fun y_24 =>
    if (!y_24) = true then
      some true
    else
      (window_between p_13.Next 0 1099511627776).bind fun y_25 =>
      if (!y_25) = true then
        some true
      else
        if (decide ((p_13.Queue.length : Int) > 256)) = true then
          some true
        else
          some ((decide ((w64 (p_13.First + (p_13.Queue.length : Int))) > 1099511627776))) : Option (Bool)).bind fun t_26 =>
    if t_26 = true then
      some false
    else
      ((loopO (fun (v : Int) => window_valid_b1 p_13 v) 0).bind fun x => match x with
      | .inl () =>
        some (.inl (()))
      | .inr z => some z : Option ((Unit) ⊕ (Bool))).bind fun x => match x with
      | .inl () =>
        ((loopO (fun (v : Int × Int) => window_valid_b2 p_13 v.1 v.2) ((p_13.Next, 0))).bind fun x => match x with
        | .inl () =>
          some (.inl (()))
        | .inr z => some z : Option ((Unit) ⊕ (Bool))).bind fun x => match x with
        | .inl () =>
          some true
        | .inr z => some z
      | .inr z => some z

def r12_early_b1 (p_183 : Api_Peer) (last_258 : Int) (i_259 : Int) : Option ((Int × Int) ⊕ ((Unit) ⊕ ((Unit) ⊕ (Bool)))) :=
  if (decide (i_259 < (p_183.Early.length : Int))) = true then
    if InR i_259 p_183.Early.length then
      lt1 ((nth p_183.Early i_259.toNat).Epoch) fun (f_287 : Int) =>
      lt1 ((nth p_183.Early i_259.toNat).To) fun (f_288 : Int) =>
      lt1 ((nth p_183.Early i_259.toNat).Seq) fun (f_289 : Int) =>
      lt1 ((nth p_183.Early i_259.toNat).Ack) fun (f_290 : Int) =>
      lt1 ((nth p_183.Early i_259.toNat).Data) fun (f_291 : List UInt8) =>
      (if (decide (f_289 ≤ last_258)) = true then
        some true
      else
        if (decide (f_289 ≥ (w64 (p_183.Next + 64)))) = true then
          some true
        else
          if (decide (f_289 ≥ 1099511627776)) = true then
            some true
          else
            if (decide ((f_291.length : Int) > 8000)) = true then
              some true
            else
              if (f_287 != 0) = true then
                some true
              else
                if (f_288 != 0) = true then
                  some true
                else
                  some ((f_290 != 0)) : Option (Bool)).bind fun t_297 =>
      if t_297 = true then
        ((some false).bind fun z_305 => some (.inr z_305)).bind fun z_306 => some (.inr (.inr z_306))
      else
        some (.inl ((f_289, (w64 (i_259 + 1)))))
    else none
  else
    some (.inr (.inl (())))
def r12_early (p_183 : Api_Peer) : Option (Bool) :=
  ((loopO (fun (v : Int × Int) => r12_early_b1 p_183 v.1 v.2) ((p_183.Next, 0))).bind fun x => match x with
  | .inl () =>
    some (.inl (()))
  | .inr z => some z : Option ((Unit) ⊕ (Bool))).bind fun x => match x with
  | .inl () =>
    some true
  | .inr z => some z

def r12_Valid_b1 (p_307 : Api_Peer) (i_352 : Int) : Option ((Int) ⊕ ((Unit) ⊕ ((Unit) ⊕ (Bool)))) :=
  if (decide (i_352 < (p_307.Queue.length : Int))) = true then
    if InR i_352 p_307.Queue.length then
      lt1 ((decide (((nth p_307.Queue i_352.toNat).length : Int) > 8000))) fun (t_364 : Bool) =>
      if t_364 = true then
        ((some false).bind fun z_366 => some (.inr z_366)).bind fun z_367 => some (.inr (.inr z_367))
      else
        some (.inl ((w64 (i_352 + 1))))
    else none
  else
    some (.inr (.inl (())))
def r12_Valid (p_307 : Api_Peer) : Option (Bool) :=
  ((r12_within p_307.Epoch 0 1073741824).bind fun y_308 =>
  if (!y_308) = true then
    some true
  else
    (r12_within p_307.Other ((-1)) 1073741824).bind fun y_309 =>
    if (!y_309) = true then
      some true
    else
      (r12_within p_307.First 0 1099511627776).bind fun y_310 =>
      if (!y_310) = true then
        some true
      else
        (r12_within p_307.Next 0 1099511627776).bind fun y_311 =>
        if (!y_311) = true then
          some true
        else
          (r12_within p_307.SentAt ((-1)) 1073741824).bind fun y_312 =>
          some ((!y_312)) : Option (Bool)).bind fun t_313 =>
  if t_313 = true then
    some false
  else
    (if (decide ((p_307.Queue.length : Int) > 256)) = true then
      some true
    else
      some ((decide ((w64 (p_307.First + (p_307.Queue.length : Int))) > 1099511627776))) : Option (Bool)).bind fun t_324 =>
    if t_324 = true then
      some false
    else
      ((loopO (fun (v : Int) => r12_Valid_b1 p_307 v) 0).bind fun x => match x with
      | .inl () =>
        some (.inl (()))
      | .inr z => some z : Option ((Unit) ⊕ (Bool))).bind fun x => match x with
      | .inl () =>
        (r12_early p_307).bind fun y_368 =>
        some y_368
      | .inr z => some z

def r12_ValidPacket (k_370 : Api_Packet) : Option (Bool) :=
  ((r12_within k_370.Epoch 0 1073741824).bind fun y_371 =>
  if y_371 = true then
    (r12_within k_370.Seq ((-1)) 1099511627775).bind fun y_372 =>
    if y_372 = true then
      (r12_within k_370.Ack 0 1099511627776).bind fun y_373 =>
      if y_373 = true then
        some ((decide ((k_370.Data.length : Int) ≤ 8000)))
      else
        some false
    else
      some false
  else
    some false : Option (Bool)).bind fun t_374 =>
  some t_374

def window_New (epoch_382 : Int) : Option (Api_Peer × Int) :=
  (window_between epoch_382 0 1073741824).bind fun y_383 =>
  if (!y_383) = true then
    some ((({ Epoch := 0, Other := 0, First := 0, Queue := [], Next := 0, Early := [], SentAt := 0 } : Api_Peer), 1))
  else
    some ((({ Epoch := epoch_382, Other := (-1), First := 0, Queue := [], Next := 0, Early := [], SentAt := (-1) } : Api_Peer), 0))

def r12_New (epoch_385 : Int) : Option (Api_Peer × Int) :=
  (r12_within epoch_385 0 1073741824).bind fun y_386 =>
  if (!y_386) = true then
    some ((({ Epoch := 0, Other := 0, First := 0, Queue := [], Next := 0, Early := [], SentAt := 0 } : Api_Peer), 1))
  else
    some ((({ Epoch := epoch_385, Other := (-1), First := 0, Queue := [], Next := 0, Early := [], SentAt := (-1) } : Api_Peer), 0))

def window_own (b_388 : List UInt8) : Option (List UInt8) :=
  if Mk ((b_388.length : Int)) ((b_388.length : Int)) 1 then
    lt1 ((List.replicate (((b_388.length : Int)).toNat) ((0 : UInt8)))) fun (l_390 : List UInt8) =>
    lt1 ((ovl l_390 (b_388.take (min b_388.length l_390.length)) 0)) fun (l_392 : List UInt8) =>
    some l_392
  else none

def slices_Clone_38 (s_394 : List (List UInt8)) : Option (List (List UInt8)) :=
  if Fits (0 + s_394.length) 24 then
    lt1 (((([] : List (List UInt8))) ++ s_394)) fun (l_401 : List (List UInt8)) =>
    some l_401
  else none

def slices_Clone_59 (s_403 : List Api_Packet) : Option (List Api_Packet) :=
  if Fits (0 + s_403.length) 56 then
    lt1 (((([] : List Api_Packet)) ++ s_403)) fun (l_410 : List Api_Packet) =>
    some l_410
  else none

def window_Offer (p_412 : Api_Peer) (data_413 : List UInt8) : Option (Api_Peer × Int) :=
  (window_valid p_412).bind fun y_414 =>
  if (!y_414) = true then
    some ((({ Epoch := 0, Other := 0, First := 0, Queue := [], Next := 0, Early := [], SentAt := 0 } : Api_Peer), 1))
  else
    if (decide ((data_413.length : Int) > 8000)) = true then
      some ((({ Epoch := 0, Other := 0, First := 0, Queue := [], Next := 0, Early := [], SentAt := 0 } : Api_Peer), 2))
    else
      (if ((p_412.Queue.length : Int) == 256) = true then
        some true
      else
        some (((w64 (p_412.First + (p_412.Queue.length : Int))) == 1099511627776)) : Option (Bool)).bind fun t_416 =>
      if t_416 = true then
        some ((({ Epoch := 0, Other := 0, First := 0, Queue := [], Next := 0, Early := [], SentAt := 0 } : Api_Peer), 120))
      else
        (slices_Clone_38 p_412.Queue).bind fun y_419 =>
        (window_own data_413).bind fun y_420 =>
        if Fits (y_419.length + 1) 24 then
          lt1 ((y_419 ++ (([y_420] : List (List UInt8))))) fun (l_424 : List (List UInt8)) =>
          some ((({ Epoch := p_412.Epoch, Other := p_412.Other, First := p_412.First, Queue := l_424, Next := p_412.Next, Early := p_412.Early, SentAt := p_412.SentAt } : Api_Peer), 0))
        else none

def r12_Offer (p_426 : Api_Peer) (data_427 : List UInt8) : Option (Api_Peer × Int) :=
  (r12_Valid p_426).bind fun y_428 =>
  if (!y_428) = true then
    some ((({ Epoch := 0, Other := 0, First := 0, Queue := [], Next := 0, Early := [], SentAt := 0 } : Api_Peer), 1))
  else
    if (decide ((data_427.length : Int) > 8000)) = true then
      some ((({ Epoch := 0, Other := 0, First := 0, Queue := [], Next := 0, Early := [], SentAt := 0 } : Api_Peer), 2))
    else
      (if ((p_426.Queue.length : Int) == 256) = true then
        some true
      else
        some (((w64 (p_426.First + (p_426.Queue.length : Int))) == 1099511627776)) : Option (Bool)).bind fun t_430 =>
      if t_430 = true then
        some ((({ Epoch := 0, Other := 0, First := 0, Queue := [], Next := 0, Early := [], SentAt := 0 } : Api_Peer), 120))
      else
        if Fits (0 + p_426.Queue.length) 24 then
          if Fits (0 + data_427.length) 1 then
            if Fits ((((([] : List (List UInt8))) ++ p_426.Queue)).length + 1) 24 then
              lt1 (((((([] : List (List UInt8))) ++ p_426.Queue)) ++ (([((([] : List UInt8)) ++ data_427)] : List (List UInt8))))) fun (l_439 : List (List UInt8)) =>
              some ((({ Epoch := p_426.Epoch, Other := p_426.Other, First := p_426.First, Queue := l_439, Next := p_426.Next, Early := p_426.Early, SentAt := p_426.SentAt } : Api_Peer), 0))
            else none
          else none
        else none

def window_Emit_b1 (p_441 : Api_Peer) (t_499 : List (List UInt8)) (t_500 : Int) (t_509 : Int) (l_510 : List Api_Packet) : Option ((Int × List Api_Packet) ⊕ (List Api_Packet)) :=
  if (decide (t_509 < t_500)) = true then
    if InR t_509 t_499.length then
      (window_own (nth t_499 t_509.toNat)).bind fun y_526 =>
      lt1 ((w64 (p_441.First + t_509))) fun (f_528 : Int) =>
      if Fits (l_510.length + 1) 56 then
        lt1 ((l_510 ++ (([({ Epoch := p_441.Epoch, To := p_441.Other, Seq := f_528, Ack := p_441.Next, Data := y_526 } : Api_Packet)] : List Api_Packet)))) fun (l_531 : List Api_Packet) =>
        some (.inl (((w64 (t_509 + 1)), l_531)))
      else none
    else none
  else
    some (.inr l_510)
def window_Emit (p_441 : Api_Peer) (now_442 : Int) : Option (Api_Peer × List Api_Packet) :=
  ((window_valid p_441).bind fun y_443 =>
  if (!y_443) = true then
    some true
  else
    (window_between now_442 0 1073741824).bind fun y_444 =>
    some ((!y_444)) : Option (Bool)).bind fun t_445 =>
  if t_445 = true then
    some ((p_441, []))
  else
    (if (decide (p_441.SentAt < 0)) = true then
      some true
    else
      if (decide (p_441.SentAt > now_442)) = true then
        some true
      else
        some ((decide ((w64 (now_442 - p_441.SentAt)) ≥ 10))) : Option (Bool)).bind fun due_450 =>
    (if ((p_441.Queue.length : Int) == 0) = true then
      some true
    else
      some ((!due_450)) : Option (Bool)).bind fun t_454 =>
    if t_454 = true then
      lt1 (([({ Epoch := p_441.Epoch, To := p_441.Other, Seq := (-1), Ack := p_441.Next, Data := [] } : Api_Packet)] : List Api_Packet)) fun (l_457 : List Api_Packet) =>
      some ((p_441, l_457))
    else
      (if InB ((mn64 16 ((p_441.Queue.length : Int)))) p_441.Queue.length then
        lt1 ((p_441.Queue.take (((mn64 16 ((p_441.Queue.length : Int)))).toNat))) fun (t_499 : List (List UInt8)) =>
        lt1 ((((p_441.Queue.take (((mn64 16 ((p_441.Queue.length : Int)))).toNat))).length : Int)) fun (t_500 : Int) =>
        (loopO (fun (v : Int × List Api_Packet) => window_Emit_b1 p_441 t_499 t_500 v.1 v.2) ((0, []))).bind fun l_519 =>
        some l_519
      else none : Option (List Api_Packet)).bind fun l_494 =>
      some ((({ Epoch := p_441.Epoch, Other := p_441.Other, First := p_441.First, Queue := p_441.Queue, Next := p_441.Next, Early := p_441.Early, SentAt := now_442 } : Api_Peer), l_494))

def r12_Emit_b1 (p_533 : Api_Peer) (i_589 : Int) (l_590 : List Api_Packet) : Option ((Int × List Api_Packet) ⊕ (List Api_Packet)) :=
  (if (decide (i_589 < (p_533.Queue.length : Int))) = true then
    some ((decide (i_589 < 16)))
  else
    some false : Option (Bool)).bind fun t_604 =>
  if t_604 = true then
    if InR i_589 p_533.Queue.length then
      if Fits (l_590.length + 1) 56 then
        lt1 ((l_590 ++ (([({ Epoch := p_533.Epoch, To := p_533.Other, Seq := (w64 (p_533.First + i_589)), Ack := p_533.Next, Data := nth p_533.Queue i_589.toNat } : Api_Packet)] : List Api_Packet)))) fun (l_609 : List Api_Packet) =>
        some (.inl (((w64 (i_589 + 1)), l_609)))
      else none
    else none
  else
    some (.inr l_590)
def r12_Emit (p_533 : Api_Peer) (now_534 : Int) : Option (Api_Peer × List Api_Packet) :=
  ((r12_Valid p_533).bind fun y_535 =>
  if (!y_535) = true then
    some true
  else
    (r12_within now_534 0 1073741824).bind fun y_536 =>
    some ((!y_536)) : Option (Bool)).bind fun t_537 =>
  if t_537 = true then
    some ((p_533, []))
  else
    (if ((p_533.Queue.length : Int) == 0) = true then
      some true
    else
      if (decide (p_533.SentAt ≥ 0)) = true then
        if (decide (p_533.SentAt ≤ now_534)) = true then
          some ((decide (p_533.SentAt > (w64 (now_534 - 10)))))
        else
          some false
      else
        some false : Option (Bool)).bind fun t_542 =>
    if t_542 = true then
      lt1 (([({ Epoch := p_533.Epoch, To := p_533.Other, Seq := (-1), Ack := p_533.Next, Data := [] } : Api_Packet)] : List Api_Packet)) fun (l_547 : List Api_Packet) =>
      some ((p_533, l_547))
    else
      ((loopO (fun (v : Int × List Api_Packet) => r12_Emit_b1 p_533 v.1 v.2) ((0, []))).bind fun l_598 =>
      some l_598 : Option (List Api_Packet)).bind fun l_578 =>
      some ((({ Epoch := p_533.Epoch, Other := p_533.Other, First := p_533.First, Queue := p_533.Queue, Next := p_533.Next, Early := p_533.Early, SentAt := now_534 } : Api_Peer), l_578))

def r12_SamePacket (a_611 : Api_Packet) (b_612 : Api_Packet) : Option (Bool) :=
  (if (a_611.Epoch == b_612.Epoch) = true then
    if (a_611.To == b_612.To) = true then
      if (a_611.Seq == b_612.Seq) = true then
        if (a_611.Ack == b_612.Ack) = true then
          some ((a_611.Data == b_612.Data))
        else
          some false
      else
        some false
    else
      some false
  else
    some false : Option (Bool)).bind fun t_613 =>
  some t_613

def r12_SamePackets_b1 (a_619 : List Api_Packet) (b_620 : List Api_Packet) (i_654 : Int) : Option ((Int) ⊕ ((Unit) ⊕ ((Unit) ⊕ (Bool)))) :=
  if (decide (i_654 < (a_619.length : Int))) = true then
    if InR i_654 a_619.length then
      if InR i_654 b_620.length then
        (r12_SamePacket (nth a_619 i_654.toNat) (nth b_620 i_654.toNat)).bind fun y_666 =>
        if (!y_666) = true then
          ((some false).bind fun z_670 => some (.inr z_670)).bind fun z_671 => some (.inr (.inr z_671))
        else
          some (.inl ((w64 (i_654 + 1))))
      else none
    else none
  else
    some (.inr (.inl (())))
def r12_SamePackets (a_619 : List Api_Packet) (b_620 : List Api_Packet) : Option (Bool) :=
  if ((a_619.length : Int) != (b_620.length : Int)) = true then
    some false
  else
    ((loopO (fun (v : Int) => r12_SamePackets_b1 a_619 b_620 v) 0).bind fun x => match x with
    | .inl () =>
      some (.inl (()))
    | .inr z => some z : Option ((Unit) ⊕ (Bool))).bind fun x => match x with
    | .inl () =>
      some true
    | .inr z => some z

def r12_SameMessages_b1 (a_672 : List (List UInt8)) (b_673 : List (List UInt8)) (i_699 : Int) : Option ((Int) ⊕ ((Unit) ⊕ ((Unit) ⊕ (Bool)))) :=
  if (decide (i_699 < (a_672.length : Int))) = true then
    if InR i_699 a_672.length then
      if InR i_699 b_673.length then
        if (!((nth a_672 i_699.toNat) == (nth b_673 i_699.toNat))) = true then
          ((some false).bind fun z_711 => some (.inr z_711)).bind fun z_712 => some (.inr (.inr z_712))
        else
          some (.inl ((w64 (i_699 + 1))))
      else none
    else none
  else
    some (.inr (.inl (())))
def r12_SameMessages (a_672 : List (List UInt8)) (b_673 : List (List UInt8)) : Option (Bool) :=
  if ((a_672.length : Int) != (b_673.length : Int)) = true then
    some false
  else
    ((loopO (fun (v : Int) => r12_SameMessages_b1 a_672 b_673 v) 0).bind fun x => match x with
    | .inl () =>
      some (.inl (()))
    | .inr z => some z : Option ((Unit) ⊕ (Bool))).bind fun x => match x with
    | .inl () =>
      some true
    | .inr z => some z

def r12_Same (a_713 : Api_Peer) (b_714 : Api_Peer) : Option (Bool) :=
  (if (a_713.Epoch == b_714.Epoch) = true then
    if (a_713.Other == b_714.Other) = true then
      if (a_713.First == b_714.First) = true then
        if (a_713.Next == b_714.Next) = true then
          if (a_713.SentAt == b_714.SentAt) = true then
            (r12_SameMessages a_713.Queue b_714.Queue).bind fun y_715 =>
            if y_715 = true then
              (r12_SamePackets a_713.Early b_714.Early).bind fun y_716 =>
              some y_716
            else
              some false
          else
            some false
        else
          some false
      else
        some false
    else
      some false
  else
    some false : Option (Bool)).bind fun t_717 =>
  some t_717

def r12_insert_b1 (l_727 : List Api_Packet) (k_728 : Api_Packet) (done_860 : Bool) (i_861 : Int) (l_862 : List Api_Packet) : Option ((Bool × Int × List Api_Packet) ⊕ (Bool × List Api_Packet)) :=
  if (decide (i_861 < (l_727.length : Int))) = true then
    (if InR i_861 l_727.length then
      if ((nth l_727 i_861.toNat).Seq == k_728.Seq) = true then
        some true
      else
        some done_860
    else none : Option (Bool)).bind fun done_900 =>
    ((if InR i_861 l_727.length then
      if (decide ((nth l_727 i_861.toNat).Seq > k_728.Seq)) = true then
        some ((!done_900))
      else
        some false
    else none : Option (Bool)).bind fun t_917 =>
    if t_917 = true then
      if Fits (l_862.length + 1) 56 then
        lt1 ((l_862 ++ (([k_728] : List Api_Packet)))) fun (l_922 : List Api_Packet) =>
        some ((true, l_922))
      else none
    else
      some ((done_900, l_862)) : Option (Bool × List Api_Packet)).bind fun (done_912, l_913) =>
    if InR i_861 l_727.length then
      if Fits (l_913.length + 1) 56 then
        lt1 ((l_913 ++ (([nth l_727 i_861.toNat] : List Api_Packet)))) fun (l_926 : List Api_Packet) =>
        some (.inl ((done_912, (w64 (i_861 + 1)), l_926)))
      else none
    else none
  else
    some (.inr ((done_860, l_862)))
def r12_insert (l_727 : List Api_Packet) (k_728 : Api_Packet) : Option (List Api_Packet) :=
  ((loopO (fun (v : Bool × Int × List Api_Packet) => r12_insert_b1 l_727 k_728 v.1 v.2.1 v.2.2) ((false, 0, []))).bind fun (done_892, l_893) =>
  some ((done_892, l_893)) : Option (Bool × List Api_Packet)).bind fun (done_826, l_827) =>
  (if (!done_826) = true then
    if Fits (l_827.length + 1) 56 then
      lt1 ((l_827 ++ (([k_728] : List Api_Packet)))) fun (l_936 : List Api_Packet) =>
      some l_936
    else none
  else
    some l_827 : Option (List Api_Packet)).bind fun l_931 =>
  some l_931

def r12_Accept_b1 (f_1062 : Int) (f_1063 : List Api_Packet) (l_1064 : List (List UInt8)) : Option ((Int × List Api_Packet × List (List UInt8)) ⊕ (Int × List Api_Packet × List (List UInt8))) :=
  (if (decide ((f_1063.length : Int) > 0)) = true then
    if InR 0 f_1063.length then
      some (((nth f_1063 0).Seq == f_1062))
    else none
  else
    some false : Option (Bool)).bind fun t_1084 =>
  if t_1084 = true then
    if InR 0 f_1063.length then
      if Fits (l_1064.length + 1) 24 then
        lt1 ((l_1064 ++ (([(nth f_1063 0).Data] : List (List UInt8))))) fun (l_1090 : List (List UInt8)) =>
        if InB 1 f_1063.length then
          lt1 (((f_1063.drop 1).take (f_1063.length - 1))) fun (f_1093 : List Api_Packet) =>
          some (.inl (((w64 (f_1062 + 1)), f_1093, l_1090)))
        else none
      else none
    else none
  else
    some (.inr ((f_1062, f_1063, l_1064)))
def r12_Accept (p_938 : Api_Peer) (k_939 : Api_Packet) : Option (Api_Peer × List (List UInt8) × Bool) :=
  ((r12_Valid p_938).bind fun y_940 =>
  if (!y_940) = true then
    some true
  else
    (r12_ValidPacket k_939).bind fun y_941 =>
    if (!y_941) = true then
      some true
    else
      some ((decide (k_939.Epoch < p_938.Other))) : Option (Bool)).bind fun t_942 =>
  if t_942 = true then
    some ((p_938, [], false))
  else
    lt1 ((decide (k_939.Epoch > p_938.Other))) fun (reset_948 : Bool) =>
    (if reset_948 = true then
      some ((k_939.Epoch, 0, [], 0, [], (-1)))
    else
      some ((p_938.Other, p_938.First, p_938.Queue, p_938.Next, p_938.Early, p_938.SentAt)) : Option (Int × Int × List (List UInt8) × Int × List Api_Packet × Int)).bind fun (f_950, f_951, f_952, f_953, f_954, f_955) =>
    if (k_939.To != p_938.Epoch) = true then
      some ((({ Epoch := p_938.Epoch, Other := f_950, First := f_951, Queue := f_952, Next := f_953, Early := f_954, SentAt := f_955 } : Api_Peer), [], reset_948))
    else
      ((if (decide (f_951 < k_939.Ack)) = true then
        some ((decide (k_939.Ack ≤ (w64 (f_951 + (f_952.length : Int))))))
      else
        some false : Option (Bool)).bind fun t_971 =>
      if t_971 = true then
        if InB ((w64 (k_939.Ack - f_951))) f_952.length then
          lt1 (((f_952.drop (((w64 (k_939.Ack - f_951))).toNat)).take (f_952.length - ((w64 (k_939.Ack - f_951))).toNat))) fun (f_975 : List (List UInt8)) =>
          some ((k_939.Ack, f_975, (-1)))
        else none
      else
        some ((f_951, f_952, f_955)) : Option (Int × List (List UInt8) × Int)).bind fun (f_965, f_966, f_967) =>
      ((if (decide (f_953 < k_939.Seq)) = true then
        some ((decide (k_939.Seq < (w64 (f_953 + 64)))))
      else
        some false : Option (Bool)).bind fun t_986 =>
      if t_986 = true then
        (r12_insert f_954 (({ Epoch := 0, To := 0, Seq := k_939.Seq, Ack := 0, Data := k_939.Data } : Api_Packet))).bind fun y_989 =>
        some y_989
      else
        some f_954 : Option (List Api_Packet)).bind fun f_982 =>
      (if (k_939.Seq == f_953) = true then
        lt1 (([k_939.Data] : List (List UInt8))) fun (l_1047 : List (List UInt8)) =>
        (loopO (fun (v : Int × List Api_Packet × List (List UInt8)) => r12_Accept_b1 v.1 v.2.1 v.2.2) (((w64 (f_953 + 1)), f_982, l_1047))).bind fun (f_1076, f_1077, l_1078) =>
        some ((f_1076, f_1077, l_1078))
      else
        some ((f_953, f_982, [])) : Option (Int × List Api_Packet × List (List UInt8))).bind fun (f_1040, f_1041, l_1042) =>
      some ((({ Epoch := p_938.Epoch, Other := f_950, First := f_965, Queue := f_966, Next := f_1040, Early := f_1041, SentAt := f_967 } : Api_Peer), l_1042, reset_948))

def window_side_keep_1 (e_1095 : Api_Packet) (seq_1096 : Int) : Option (Int) :=
  some ((w64 (e_1095.Seq - seq_1096)))

def slices_BinarySearchFunc_56_b1 (x_1097 : List Api_Packet) (target_1098 : Int) (cmp_1099 : Api_Packet → Int → Option (Int)) (i_1132 : Int) (j_1133 : Int) : Option ((Int × Int) ⊕ (Int)) :=
  if (decide (i_1132 < j_1133)) = true then
    lt1 ((w64 (((shr64 ((UInt64.ofInt ((w64 (i_1132 + j_1133))))) ((1 : UInt64)).toNat)).toNat : Int))) fun (h_1145 : Int) =>
    if InR h_1145 x_1097.length then
      (cmp_1099 (nth x_1097 h_1145.toNat) target_1098).bind fun y_1147 =>
      if (decide (y_1147 < 0)) = true then
        some (.inl (((w64 (h_1145 + 1)), j_1133)))
      else
        some (.inl ((i_1132, h_1145)))
    else none
  else
    some (.inr i_1132)
def slices_BinarySearchFunc_56 (x_1097 : List Api_Packet) (target_1098 : Int) (cmp_1099 : Api_Packet → Int → Option (Int)) : Option (Int × Bool) :=
  ((loopO (fun (v : Int × Int) => slices_BinarySearchFunc_56_b1 x_1097 target_1098 cmp_1099 v.1 v.2) ((0, (x_1097.length : Int)))).bind fun i_1139 =>
  some i_1139 : Option (Int)).bind fun i_1123 =>
  (if (decide (i_1123 < (x_1097.length : Int))) = true then
    if InR i_1123 x_1097.length then
      (cmp_1099 (nth x_1097 i_1123.toNat) target_1098).bind fun y_1150 =>
      some ((y_1150 == 0))
    else none
  else
    some false : Option (Bool)).bind fun t_1151 =>
  some ((i_1123, t_1151))

def window_side_take (s_1156 : Window_side) (data_1157 : List UInt8) : Option (Window_side) :=
  (window_own data_1157).bind fun y_1165 =>
  if Fits (s_1156.delivered.length + 1) 24 then
    lt1 ((s_1156.delivered ++ (([y_1165] : List (List UInt8))))) fun (l_1168 : List (List UInt8)) =>
    lt1 ((w64 (s_1156.Peer.Next + 1))) fun (f_1170 : Int) =>
    some (({ Peer := ({ Epoch := s_1156.Peer.Epoch, Other := s_1156.Peer.Other, First := s_1156.Peer.First, Queue := s_1156.Peer.Queue, Next := f_1170, Early := s_1156.Peer.Early, SentAt := s_1156.Peer.SentAt } : Api_Peer), delivered := l_1168 } : Window_side))
  else none

def window_side_acknowledge (s_1172 : Window_side) (k_1173 : Api_Packet) : Option (Window_side) :=
  lt1 ((w64 (k_1173.Ack - s_1172.Peer.First))) fun (n_1182 : Int) =>
  (if (decide (n_1182 > 0)) = true then
    some ((decide (n_1182 ≤ (s_1172.Peer.Queue.length : Int))))
  else
    some false : Option (Bool)).bind fun t_1184 =>
  if t_1184 = true then
    if InB n_1182 s_1172.Peer.Queue.length then
      lt1 (((s_1172.Peer.Queue.drop n_1182.toNat).take (s_1172.Peer.Queue.length - n_1182.toNat))) fun (f_1188 : List (List UInt8)) =>
      some (({ Peer := ({ Epoch := s_1172.Peer.Epoch, Other := s_1172.Peer.Other, First := k_1173.Ack, Queue := f_1188, Next := s_1172.Peer.Next, Early := s_1172.Peer.Early, SentAt := (-1) } : Api_Peer), delivered := s_1172.delivered } : Window_side))
    else none
  else
    some (({ Peer := s_1172.Peer, delivered := s_1172.delivered } : Window_side))

def window_side_deliver_b1 (f_1269 : Int) (f_1270 : Int) (f_1271 : Int) (f_1272 : List (List UInt8)) (f_1273 : Int) (f_1274 : List Api_Packet) (f_1275 : Int) (l_1276 : List (List UInt8)) : Option ((Int × Int × Int × List (List UInt8) × Int × List Api_Packet × Int × List (List UInt8)) ⊕ (Int × Int × Int × List (List UInt8) × Int × List Api_Packet × Int × List (List UInt8))) :=
  (if (decide ((f_1274.length : Int) > 0)) = true then
    if InR 0 f_1274.length then
      some (((nth f_1274 0).Seq == f_1273))
    else none
  else
    some false : Option (Bool)).bind fun t_1302 =>
  if t_1302 = true then
    if InR 0 f_1274.length then
      (window_side_take (({ Peer := ({ Epoch := f_1269, Other := f_1270, First := f_1271, Queue := f_1272, Next := f_1273, Early := f_1274, SentAt := f_1275 } : Api_Peer), delivered := l_1276 } : Window_side)) ((nth f_1274 0).Data)).bind fun y_1306 =>
      lt1 y_1306.delivered fun (l_1309 : List (List UInt8)) =>
      if InB 1 y_1306.Peer.Early.length then
        lt1 (((y_1306.Peer.Early.drop 1).take (y_1306.Peer.Early.length - 1))) fun (f_1312 : List Api_Packet) =>
        some (.inl ((y_1306.Peer.Epoch, y_1306.Peer.Other, y_1306.Peer.First, y_1306.Peer.Queue, y_1306.Peer.Next, f_1312, y_1306.Peer.SentAt, l_1309)))
      else none
    else none
  else
    some (.inr ((f_1269, f_1270, f_1271, f_1272, f_1273, f_1274, f_1275, l_1276)))
def window_side_deliver (s_1190 : Window_side) (k_1191 : Api_Packet) : Option (Window_side) :=
  if (k_1191.Seq != s_1190.Peer.Next) = true then
    some (({ Peer := s_1190.Peer, delivered := s_1190.delivered } : Window_side))
  else
    (window_side_take (({ Peer := s_1190.Peer, delivered := s_1190.delivered } : Window_side)) k_1191.Data).bind fun y_1253 =>
    lt1 y_1253.delivered fun (l_1255 : List (List UInt8)) =>
    (loopO (fun (v : Int × Int × Int × List (List UInt8) × Int × List Api_Packet × Int × List (List UInt8)) => window_side_deliver_b1 v.1 v.2.1 v.2.2.1 v.2.2.2.1 v.2.2.2.2.1 v.2.2.2.2.2.1 v.2.2.2.2.2.2.1 v.2.2.2.2.2.2.2) ((y_1253.Peer.Epoch, y_1253.Peer.Other, y_1253.Peer.First, y_1253.Peer.Queue, y_1253.Peer.Next, y_1253.Peer.Early, y_1253.Peer.SentAt, l_1255))).bind fun (f_1289, f_1290, f_1291, f_1292, f_1293, f_1294, f_1295, l_1296) =>
    some (({ Peer := ({ Epoch := f_1289, Other := f_1290, First := f_1291, Queue := f_1292, Next := f_1293, Early := f_1294, SentAt := f_1295 } : Api_Peer), delivered := l_1296 } : Window_side))

def slices_Insert_58 (s : List Api_Packet) (i : Int) (v : List Api_Packet) : Option (List Api_Packet) := insertO 56 s i v

def window_side_keep (s_1314 : Window_side) (k_1315 : Api_Packet) : Option (Window_side) :=
  (if (decide (k_1315.Seq ≤ s_1314.Peer.Next)) = true then
    some true
  else
    some ((decide (k_1315.Seq ≥ (w64 (s_1314.Peer.Next + 64))))) : Option (Bool)).bind fun t_1327 =>
  if t_1327 = true then
    some (({ Peer := s_1314.Peer, delivered := s_1314.delivered } : Window_side))
  else
    (slices_BinarySearchFunc_56 s_1314.Peer.Early k_1315.Seq window_side_keep_1).bind fun y_1330 =>
    if (!y_1330.2) = true then
      (slices_Clone_59 s_1314.Peer.Early).bind fun y_1332 =>
      (window_own k_1315.Data).bind fun y_1333 =>
      (slices_Insert_58 y_1332 y_1330.1 (([({ Epoch := 0, To := 0, Seq := k_1315.Seq, Ack := 0, Data := y_1333 } : Api_Packet)] : List Api_Packet))).bind fun y_1334 =>
      some (({ Peer := ({ Epoch := s_1314.Peer.Epoch, Other := s_1314.Peer.Other, First := s_1314.Peer.First, Queue := s_1314.Peer.Queue, Next := s_1314.Peer.Next, Early := y_1334, SentAt := s_1314.Peer.SentAt } : Api_Peer), delivered := s_1314.delivered } : Window_side))
    else
      some (({ Peer := s_1314.Peer, delivered := s_1314.delivered } : Window_side))

def window_Accept (p_1338 : Api_Peer) (k_1339 : Api_Packet) : Option (Api_Peer × List (List UInt8) × Bool) :=
  ((window_between k_1339.Epoch 0 1073741824).bind fun y_1340 =>
  if y_1340 = true then
    (window_between k_1339.Seq ((-1)) 1099511627775).bind fun y_1341 =>
    if y_1341 = true then
      (window_between k_1339.Ack 0 1099511627776).bind fun y_1342 =>
      if y_1342 = true then
        some ((decide ((k_1339.Data.length : Int) ≤ 8000)))
      else
        some false
    else
      some false
  else
    some false : Option (Bool)).bind fun fine_1343 =>
  (if (!fine_1343) = true then
    some true
  else
    (window_valid p_1338).bind fun y_1351 =>
    if (!y_1351) = true then
      some true
    else
      some ((decide (k_1339.Epoch < p_1338.Other))) : Option (Bool)).bind fun t_1352 =>
  if t_1352 = true then
    some ((p_1338, [], false))
  else
    lt1 ((decide (k_1339.Epoch > p_1338.Other))) fun (reset_1357 : Bool) =>
    (if reset_1357 = true then
      some ((k_1339.Epoch, 0, [], 0, [], (-1)))
    else
      some ((p_1338.Other, p_1338.First, p_1338.Queue, p_1338.Next, p_1338.Early, p_1338.SentAt)) : Option (Int × Int × List (List UInt8) × Int × List Api_Packet × Int)).bind fun (f_1359, f_1360, f_1361, f_1362, f_1363, f_1364) =>
    (if (k_1339.To == p_1338.Epoch) = true then
      (window_side_acknowledge (({ Peer := ({ Epoch := p_1338.Epoch, Other := f_1359, First := f_1360, Queue := f_1361, Next := f_1362, Early := f_1363, SentAt := f_1364 } : Api_Peer), delivered := [] } : Window_side)) k_1339).bind fun y_1398 =>
      lt1 y_1398.delivered fun (l_1400 : List (List UInt8)) =>
      (window_side_keep (({ Peer := y_1398.Peer, delivered := l_1400 } : Window_side)) k_1339).bind fun y_1404 =>
      lt1 y_1404.delivered fun (l_1406 : List (List UInt8)) =>
      (window_side_deliver (({ Peer := y_1404.Peer, delivered := l_1406 } : Window_side)) k_1339).bind fun y_1410 =>
      lt1 y_1410.delivered fun (l_1412 : List (List UInt8)) =>
      some ((y_1410.Peer.Epoch, y_1410.Peer.Other, y_1410.Peer.First, y_1410.Peer.Queue, y_1410.Peer.Next, y_1410.Peer.Early, y_1410.Peer.SentAt, l_1412))
    else
      some ((p_1338.Epoch, f_1359, f_1360, f_1361, f_1362, f_1363, f_1364, [])) : Option (Int × Int × Int × List (List UInt8) × Int × List Api_Packet × Int × List (List UInt8))).bind fun (f_1386, f_1387, f_1388, f_1389, f_1390, f_1391, f_1392, l_1393) =>
    some ((({ Epoch := f_1386, Other := f_1387, First := f_1388, Queue := f_1389, Next := f_1390, Early := f_1391, SentAt := f_1392 } : Api_Peer), l_1393, reset_1357))

def law12_few_b1 (p_1415 : Api_Peer) (n_1443 : Int) (i_1444 : Int) : Option ((Int × Int) ⊕ (Int)) :=
  if (decide (i_1444 < (p_1415.Queue.length : Int))) = true then
    if InR i_1444 p_1415.Queue.length then
      lt1 ((w64 (n_1443 + ((nth p_1415.Queue i_1444.toNat).length : Int)))) fun (n_1455 : Int) =>
      some (.inl ((n_1455, (w64 (i_1444 + 1)))))
    else none
  else
    some (.inr n_1443)
def law12_few_b2 (p_1415 : Api_Peer) (n_1481 : Int) (i_1482 : Int) : Option ((Int × Int) ⊕ (Int)) :=
  if (decide (i_1482 < (p_1415.Early.length : Int))) = true then
    if InR i_1482 p_1415.Early.length then
      lt1 ((w64 (n_1481 + (((nth p_1415.Early i_1482.toNat).Data).length : Int)))) fun (n_1493 : Int) =>
      some (.inl ((n_1493, (w64 (i_1482 + 1)))))
    else none
  else
    some (.inr n_1481)
def law12_few (p_1415 : Api_Peer) : Option (Bool) :=
  (if (decide ((p_1415.Queue.length : Int) > 257)) = true then
    some true
  else
    some ((decide ((p_1415.Early.length : Int) > 70))) : Option (Bool)).bind fun t_1416 =>
  if t_1416 = true then
    some false
  else
    ((loopO (fun (v : Int × Int) => law12_few_b1 p_1415 v.1 v.2) ((0, 0))).bind fun n_1448 =>
    some n_1448 : Option (Int)).bind fun n_1436 =>
    ((loopO (fun (v : Int × Int) => law12_few_b2 p_1415 v.1 v.2) ((n_1436, 0))).bind fun n_1486 =>
    some n_1486 : Option (Int)).bind fun n_1474 =>
    some ((decide (n_1474 ≤ 20000)))

def law12_sane  : Option (Bool) :=
  (window_New 3).bind fun y_1495 =>
  (window_New 5).bind fun y_1497 =>
  (window_New ((-1))).bind fun y_1499 =>
  (window_Emit y_1495.1 0).bind fun y_1501 =>
  (if (y_1495.2 != 0) = true then
    some true
  else
    if (y_1497.2 != 0) = true then
      some true
    else
      if (y_1499.2 != 1) = true then
        some true
      else
        if ((y_1501.2.length : Int) != 1) = true then
          some true
        else
          if InR 0 y_1501.2.length then
            (r12_SamePacket (nth y_1501.2 0) (({ Epoch := 3, To := (-1), Seq := (-1), Ack := 0, Data := [] } : Api_Packet))).bind fun y_1503 =>
            some ((!y_1503))
          else none : Option (Bool)).bind fun t_1504 =>
  if t_1504 = true then
    some false
  else
    if InR 0 y_1501.2.length then
      (window_Accept y_1497.1 (nth y_1501.2 0)).bind fun y_1512 =>
      (window_Emit y_1512.1 1).bind fun y_1515 =>
      (if ((y_1512.2.1.length : Int) != 0) = true then
        some true
      else
        if (!y_1512.2.2) = true then
          some true
        else
          if (y_1515.1.Other != 3) = true then
            some true
          else
            some (((y_1515.2.length : Int) != 1)) : Option (Bool)).bind fun t_1517 =>
      if t_1517 = true then
        some false
      else
        if InR 0 y_1515.2.length then
          (window_Accept y_1501.1 (nth y_1515.2 0)).bind fun y_1522 =>
          (window_Offer y_1522.1 (([(120 : UInt8)] : List UInt8))).bind fun y_1525 =>
          (window_Emit y_1525.1 7).bind fun y_1527 =>
          (if (!y_1522.2.2) = true then
            some true
          else
            if (y_1525.2 != 0) = true then
              some true
            else
              if ((y_1527.2.length : Int) != 1) = true then
                some true
              else
                if InR 0 y_1527.2.length then
                  (r12_SamePacket (nth y_1527.2 0) (({ Epoch := 3, To := 5, Seq := 0, Ack := 0, Data := ([(120 : UInt8)] : List UInt8) } : Api_Packet))).bind fun y_1529 =>
                  some ((!y_1529))
                else none : Option (Bool)).bind fun t_1530 =>
          if t_1530 = true then
            some false
          else
            (window_Emit y_1527.1 8).bind fun y_1537 =>
            (window_Emit y_1527.1 17).bind fun y_1539 =>
            if InR 0 y_1527.2.length then
              (window_Accept y_1515.1 (nth y_1527.2 0)).bind fun y_1541 =>
              if InR 0 y_1527.2.length then
                (window_Accept y_1541.1 (nth y_1527.2 0)).bind fun y_1544 =>
                (if ((y_1537.2.length : Int) == 1) = true then
                  if InR 0 y_1537.2.length then
                    if ((nth y_1537.2 0).Seq == (-1)) = true then
                      if ((y_1539.2.length : Int) == 1) = true then
                        if InR 0 y_1539.2.length then
                          if ((nth y_1539.2 0).Seq == 0) = true then
                            if ((y_1541.2.1.length : Int) == 1) = true then
                              if InR 0 y_1541.2.1.length then
                                if ((nth y_1541.2.1 0) == (([120] : List UInt8))) = true then
                                  if (y_1541.1.Next == 1) = true then
                                    some (((y_1544.2.1.length : Int) == 0))
                                  else
                                    some false
                                else
                                  some false
                              else none
                            else
                              some false
                          else
                            some false
                        else none
                      else
                        some false
                    else
                      some false
                  else none
                else
                  some false : Option (Bool)).bind fun t_1547 =>
                some t_1547
              else none
            else none
        else none
    else none

def law12_WindowMatches (p_1559 : Api_Peer) (data_1560 : List UInt8) (now_1561 : Int) (epoch_1562 : Int) : Option (Bool) :=
  law12_sane.bind fun y_1563 =>
  if (!y_1563) = true then
    some false
  else
    ((law12_few p_1559).bind fun y_1565 =>
    if (!y_1565) = true then
      some true
    else
      some ((decide ((data_1560.length : Int) > 20000))) : Option (Bool)).bind fun t_1566 =>
    if t_1566 = true then
      some true
    else
      (window_New epoch_1562).bind fun y_1570 =>
      (r12_New epoch_1562).bind fun y_1572 =>
      (window_Offer p_1559 data_1560).bind fun y_1574 =>
      (r12_Offer p_1559 data_1560).bind fun y_1576 =>
      (window_Emit p_1559 now_1561).bind fun y_1578 =>
      (r12_Emit p_1559 now_1561).bind fun y_1580 =>
      ((r12_Same y_1570.1 y_1572.1).bind fun y_1582 =>
      if y_1582 = true then
        if (y_1570.2 == y_1572.2) = true then
          (r12_Same y_1574.1 y_1576.1).bind fun y_1583 =>
          if y_1583 = true then
            if (y_1574.2 == y_1576.2) = true then
              (r12_Same y_1578.1 y_1580.1).bind fun y_1584 =>
              if y_1584 = true then
                (r12_SamePackets y_1578.2 y_1580.2).bind fun y_1585 =>
                some y_1585
              else
                some false
            else
              some false
          else
            some false
        else
          some false
      else
        some false : Option (Bool)).bind fun t_1586 =>
      some t_1586

def law12_WindowMatchesAccept (p_1597 : Api_Peer) (k_1598 : Api_Packet) : Option (Bool) :=
  law12_sane.bind fun y_1599 =>
  if (!y_1599) = true then
    some false
  else
    ((law12_few p_1597).bind fun y_1601 =>
    if (!y_1601) = true then
      some true
    else
      some ((decide ((k_1598.Data.length : Int) > 20000))) : Option (Bool)).bind fun t_1602 =>
    if t_1602 = true then
      some true
    else
      (window_Accept p_1597 k_1598).bind fun y_1606 =>
      (r12_Accept p_1597 k_1598).bind fun y_1608 =>
      ((r12_Same y_1606.1 y_1608.1).bind fun y_1610 =>
      if y_1610 = true then
        (r12_SameMessages y_1606.2.1 y_1608.2.1).bind fun y_1611 =>
        if y_1611 = true then
          some ((y_1606.2.2 == y_1608.2.2))
        else
          some false
      else
        some false : Option (Bool)).bind fun t_1612 =>
      some t_1612

def law12_WindowTwice (p_1618 : Api_Peer) (k_1619 : Api_Packet) : Option (Bool) :=
  law12_sane.bind fun y_1620 =>
  if (!y_1620) = true then
    some false
  else
    ((law12_few p_1618).bind fun y_1622 =>
    if (!y_1622) = true then
      some true
    else
      some ((decide ((k_1619.Data.length : Int) > 20000))) : Option (Bool)).bind fun t_1623 =>
    if t_1623 = true then
      some true
    else
      (window_Accept p_1618 k_1619).bind fun y_1627 =>
      (window_Accept y_1627.1 k_1619).bind fun y_1629 =>
      ((r12_Same y_1627.1 y_1629.1).bind fun y_1631 =>
      if y_1631 = true then
        if ((y_1629.2.1.length : Int) == 0) = true then
          some ((!y_1629.2.2))
        else
          some false
      else
        some false : Option (Bool)).bind fun t_1632 =>
      some t_1632

def law12_at (n_1637 : Int) (length_1638 : Int) : Option (Int) :=
  if ¬(UInt64.ofInt length_1638) = 0 then
    lt1 ((w64 ((((UInt64.ofInt n_1637) % (UInt64.ofInt length_1638))).toNat : Int))) fun (t_1640 : Int) =>
    some t_1640
  else none

def law12_WindowReorders_b1 (messages_1642 : List (List UInt8)) (n_1646 : Int) (i_1692 : Int) (l_1693 : List Api_Packet) : Option ((Int × List Api_Packet) ⊕ ((List Api_Packet) ⊕ ((List Api_Packet) ⊕ (Bool)))) :=
  if (decide (i_1692 < n_1646)) = true then
    if InR i_1692 messages_1642.length then
      lt1 ((decide (((nth messages_1642 i_1692.toNat).length : Int) > 100))) fun (t_1710 : Bool) =>
      if t_1710 = true then
        ((some true).bind fun z_1712 => some (.inr z_1712)).bind fun z_1713 => some (.inr (.inr z_1713))
      else
        if InR i_1692 messages_1642.length then
          if Fits (l_1693.length + 1) 56 then
            lt1 ((l_1693 ++ (([({ Epoch := 2, To := 1, Seq := (w64 (7 + i_1692)), Ack := 0, Data := nth messages_1642 i_1692.toNat } : Api_Packet)] : List Api_Packet)))) fun (l_1716 : List Api_Packet) =>
            some (.inl (((w64 (i_1692 + 1)), l_1716)))
          else none
        else none
    else none
  else
    some (.inr (.inl l_1693))
def law12_WindowReorders_b2 (order_1643 : List Int) (n_1646 : Int) (l_1681 : List Api_Packet) (i_1803 : Int) (f_1804 : Int) (f_1805 : Int) (f_1806 : Int) (f_1807 : List (List UInt8)) (f_1808 : Int) (f_1809 : List Api_Packet) (f_1810 : Int) (l_1811 : List (List UInt8)) : Option ((Int × Int × Int × Int × List (List UInt8) × Int × List Api_Packet × Int × List (List UInt8)) ⊕ (Int × Int × Int × List (List UInt8) × Int × List Api_Packet × Int × List (List UInt8))) :=
  (if (decide (i_1803 < (order_1643.length : Int))) = true then
    if (decide (i_1803 < 200)) = true then
      some ((decide (n_1646 > 0)))
    else
      some false
  else
    some false : Option (Bool)).bind fun t_1838 =>
  if t_1838 = true then
    if InR i_1803 order_1643.length then
      (law12_at (nth order_1643 i_1803.toNat) n_1646).bind fun y_1842 =>
      if InR y_1842 l_1681.length then
        (window_Accept (({ Epoch := f_1804, Other := f_1805, First := f_1806, Queue := f_1807, Next := f_1808, Early := f_1809, SentAt := f_1810 } : Api_Peer)) (nth l_1681 y_1842.toNat)).bind fun y_1843 =>
        if Fits (l_1811.length + y_1843.2.1.length) 24 then
          lt1 ((l_1811 ++ y_1843.2.1)) fun (l_1849 : List (List UInt8)) =>
          some (.inl (((w64 (i_1803 + 1)), y_1843.1.Epoch, y_1843.1.Other, y_1843.1.First, y_1843.1.Queue, y_1843.1.Next, y_1843.1.Early, y_1843.1.SentAt, l_1849)))
        else none
      else none
    else none
  else
    some (.inr ((f_1804, f_1805, f_1806, f_1807, f_1808, f_1809, f_1810, l_1811)))
def law12_WindowReorders_b3 (l_1681 : List Api_Packet) (i_1912 : Int) (f_1913 : Int) (f_1914 : Int) (f_1915 : Int) (f_1916 : List (List UInt8)) (f_1917 : Int) (f_1918 : List Api_Packet) (f_1919 : Int) (l_1920 : List (List UInt8)) : Option ((Int × Int × Int × Int × List (List UInt8) × Int × List Api_Packet × Int × List (List UInt8)) ⊕ (Int × Int × Int × List (List UInt8) × Int × List Api_Packet × Int × List (List UInt8))) :=
  if (decide (i_1912 ≥ 0)) = true then
    if InR i_1912 l_1681.length then
      (window_Accept (({ Epoch := f_1913, Other := f_1914, First := f_1915, Queue := f_1916, Next := f_1917, Early := f_1918, SentAt := f_1919 } : Api_Peer)) (nth l_1681 i_1912.toNat)).bind fun y_1940 =>
      if Fits (l_1920.length + y_1940.2.1.length) 24 then
        lt1 ((l_1920 ++ y_1940.2.1)) fun (l_1944 : List (List UInt8)) =>
        some (.inl (((w64 (i_1912 - 1)), y_1940.1.Epoch, y_1940.1.Other, y_1940.1.First, y_1940.1.Queue, y_1940.1.Next, y_1940.1.Early, y_1940.1.SentAt, l_1944)))
      else none
    else none
  else
    some (.inr ((f_1913, f_1914, f_1915, f_1916, f_1917, f_1918, f_1919, l_1920)))
def law12_WindowReorders (messages_1642 : List (List UInt8)) (order_1643 : List Int) : Option (Bool) :=
  law12_sane.bind fun y_1644 =>
  if (!y_1644) = true then
    some false
  else
    lt1 ((mn64 ((messages_1642.length : Int)) 64)) fun (n_1646 : Int) =>
    ((loopO (fun (v : Int × List Api_Packet) => law12_WindowReorders_b1 messages_1642 n_1646 v.1 v.2) ((0, []))).bind fun x => match x with
    | .inl l_1703 =>
      some (.inl l_1703)
    | .inr z => some z : Option ((List Api_Packet) ⊕ (Bool))).bind fun x => match x with
    | .inl l_1681 =>
      ((loopO (fun (v : Int × Int × Int × Int × List (List UInt8) × Int × List Api_Packet × Int × List (List UInt8)) => law12_WindowReorders_b2 order_1643 n_1646 l_1681 v.1 v.2.1 v.2.2.1 v.2.2.2.1 v.2.2.2.2.1 v.2.2.2.2.2.1 v.2.2.2.2.2.2.1 v.2.2.2.2.2.2.2.1 v.2.2.2.2.2.2.2.2) ((0, 1, 2, 0, [], 7, [], (-1), []))).bind fun (f_1825, f_1826, f_1827, f_1828, f_1829, f_1830, f_1831, l_1832) =>
      some ((f_1825, f_1826, f_1827, f_1828, f_1829, f_1830, f_1831, l_1832)) : Option (Int × Int × Int × List (List UInt8) × Int × List Api_Packet × Int × List (List UInt8))).bind fun (f_1779, f_1780, f_1781, f_1782, f_1783, f_1784, f_1785, l_1786) =>
      ((loopO (fun (v : Int × Int × Int × Int × List (List UInt8) × Int × List Api_Packet × Int × List (List UInt8)) => law12_WindowReorders_b3 l_1681 v.1 v.2.1 v.2.2.1 v.2.2.2.1 v.2.2.2.2.1 v.2.2.2.2.2.1 v.2.2.2.2.2.2.1 v.2.2.2.2.2.2.2.1 v.2.2.2.2.2.2.2.2) (((w64 (n_1646 - 1)), f_1779, f_1780, f_1781, f_1782, f_1783, f_1784, f_1785, l_1786))).bind fun (f_1927, f_1928, f_1929, f_1930, f_1931, f_1932, f_1933, l_1934) =>
      some ((f_1927, f_1928, f_1929, f_1930, f_1931, f_1932, f_1933, l_1934)) : Option (Int × Int × Int × List (List UInt8) × Int × List Api_Packet × Int × List (List UInt8))).bind fun (f_1893, f_1894, f_1895, f_1896, f_1897, f_1898, f_1899, l_1900) =>
      (if InB n_1646 messages_1642.length then
        (r12_SameMessages l_1900 ((messages_1642.take n_1646.toNat))).bind fun y_1946 =>
        if y_1946 = true then
          if (f_1897 == (w64 (7 + n_1646))) = true then
            if ((f_1898.length : Int) == 0) = true then
              if (f_1894 == 2) = true then
                some ((f_1893 == 1))
              else
                some false
            else
              some false
          else
            some false
        else
          some false
      else none : Option (Bool)).bind fun t_1947 =>
      some t_1947
    | .inr z => some z

end Go.Proofs.Ytomjphpnpcgacaa
/-
  The functions compute just that.
-/
namespace Go.Proofs.Ytomjphpnpcgacaa
open Go.Rv
set_option linter.unusedVariables false
set_option linter.unusedSimpArgs false
set_option maxRecDepth 20000
set_option maxHeartbeats 4000000

theorem window_between_con {n_1 : Int} {lo_2 : Int} {hi_3 : Int} {r : Bool} (h : window_between n_1 lo_2 hi_3 = some r) : Con B 35 [i64 n_1, i64 lo_2, i64 hi_3] [] (fun r' σ' => r' = .bool r ∧ σ' = []) := by
  refine con_walk (N := 15) (rs := [.tmp 6]) ok Try.func35 rfl (by decide +kernel) rfl rfl (Nat.le_of_ble_eq_true rfl) (fun F => ?_)
  have hE := ok.env F
  unfold window_between at h
  show Run (B.env F) 0 _ ⟨asFr 15 [(0, i64 n_1), (1, i64 lo_2), (2, i64 hi_3)], []⟩ _
  refine run_wkP ?_
  refine run_textE hE [0, 1, 2] (fr' := [(0, i64 n_1), (1, i64 lo_2), (2, i64 hi_3)]) (σ' := []) ⟨_, orcs_nil, ?_⟩ ?_
  · simp only [go_sem]
  replace h := bind_some1 h; obtain ⟨t_4, hv_5, h⟩ := h
  refine run_textW hE [6] (fr' := [(6, .bool t_4)]) (σ' := []) ?_ ?_
  · rcases Bool.eq_false_or_eq_true ((decide (n_1 ≥ lo_2))) with hb_6 | hb_6
    · replace hv_5 := ite_t hv_5 hb_6
      have e_hv_5 := Option.some.inj hv_5; subst e_hv_5
      exact ⟨_, [(6, .bool ((decide (n_1 ≤ hi_3))))], [], orcs_nil, by simp only [go_sem, hb_6], (weak_sel [] (by decide) rfl (by simp only [go_sem]) (by simp only [go_sem]))⟩
    · replace hv_5 := ite_f hv_5 hb_6
      have e_hv_5 := Option.some.inj hv_5; subst e_hv_5
      exact ⟨_, [(6, .bool false)], [], orcs_nil, by simp only [go_sem, hb_6], (weak_sel [] (by decide) rfl (by simp only [go_sem]) (by simp only [go_sem]))⟩
  refine run_ret ?_
  obtain rfl := Option.some.inj h
  refine wkP_of (Weak.refl _ _) ?_
  refine ret_ok (.inr rfl) ?_
  simp only [go_sem]

theorem r12_within_con {n_7 : Int} {lo_8 : Int} {hi_9 : Int} {r : Bool} (h : r12_within n_7 lo_8 hi_9 = some r) : Con B 36 [i64 n_7, i64 lo_8, i64 hi_9] [] (fun r' σ' => r' = .bool r ∧ σ' = []) := by
  refine con_walk (N := 15) (rs := [.tmp 6]) ok Try.func36 rfl (by decide +kernel) rfl rfl (Nat.le_of_ble_eq_true rfl) (fun F => ?_)
  have hE := ok.env F
  unfold r12_within at h
  show Run (B.env F) 0 _ ⟨asFr 15 [(0, i64 n_7), (1, i64 lo_8), (2, i64 hi_9)], []⟩ _
  refine run_wkP ?_
  refine run_textE hE [0, 1, 2] (fr' := [(0, i64 n_7), (1, i64 lo_8), (2, i64 hi_9)]) (σ' := []) ⟨_, orcs_nil, ?_⟩ ?_
  · simp only [go_sem]
  replace h := bind_some1 h; obtain ⟨t_10, hv_11, h⟩ := h
  refine run_textW hE [6] (fr' := [(6, .bool t_10)]) (σ' := []) ?_ ?_
  · rcases Bool.eq_false_or_eq_true ((decide (n_7 ≥ lo_8))) with hb_12 | hb_12
    · replace hv_11 := ite_t hv_11 hb_12
      have e_hv_11 := Option.some.inj hv_11; subst e_hv_11
      exact ⟨_, [(6, .bool ((decide (n_7 ≤ hi_9))))], [], orcs_nil, by simp only [go_sem, hb_12], (weak_sel [] (by decide) rfl (by simp only [go_sem]) (by simp only [go_sem]))⟩
    · replace hv_11 := ite_f hv_11 hb_12
      have e_hv_11 := Option.some.inj hv_11; subst e_hv_11
      exact ⟨_, [(6, .bool false)], [], orcs_nil, by simp only [go_sem, hb_12], (weak_sel [] (by decide) rfl (by simp only [go_sem]) (by simp only [go_sem]))⟩
  refine run_ret ?_
  obtain rfl := Option.some.inj h
  refine wkP_of (Weak.refl _ _) ?_
  refine ret_ok (.inr rfl) ?_
  simp only [go_sem]

end Go.Proofs.Ytomjphpnpcgacaa
/-
  The functions compute just that.
-/
namespace Go.Proofs.Ytomjphpnpcgacaa
open Go.Rv
set_option linter.unusedVariables false
set_option linter.unusedSimpArgs false
set_option maxRecDepth 20000
set_option maxHeartbeats 4000000

theorem window_valid_con {p_13 : Api_Peer} {r : Bool} (h : window_valid p_13 = some r) : Con B 37 [.agg [i64 p_13.Epoch, i64 p_13.Other, i64 p_13.First, .sl false (L (cSl cU8) p_13.Queue), i64 p_13.Next, .sl false (L cApi_Packet p_13.Early), i64 p_13.SentAt]] [] (fun r' σ' => r' = .bool r ∧ σ' = []) := by
  refine con_walk (N := 106) (rs := [.tmp 2]) ok Try.func37 rfl (by decide +kernel) rfl rfl (Nat.le_of_ble_eq_true rfl) (fun F => ?_)
  have hE := ok.env F
  unfold window_valid at h
  show Run (B.env F) 0 _ ⟨asFr 106 [(0, .agg [i64 p_13.Epoch, i64 p_13.Other, i64 p_13.First, .sl false (L (cSl cU8) p_13.Queue), i64 p_13.Next, .sl false (L cApi_Packet p_13.Early), i64 p_13.SentAt])], []⟩ _
  refine run_wkP ?_
  refine run_textE hE [1] (fr' := [(1, .ref 0 0)]) (σ' := [.box [i64 p_13.Epoch, i64 p_13.Other, i64 p_13.First, .sl false (L (cSl cU8) p_13.Queue), i64 p_13.Next, .sl false (L cApi_Packet p_13.Early), i64 p_13.SentAt] false]) ⟨_, orcs_nil, ?_⟩ ?_
  · simp only [go_sem]
  refine run_seq ?_
  replace h := bind_some1 h; obtain ⟨t_17, hv_18, h⟩ := h
  refine run_textW hE [1, 23] (fr' := [(1, .ref 0 0), (23, .bool t_17)]) (σ' := [.box [i64 p_13.Epoch, i64 p_13.Other, i64 p_13.First, .sl false (L (cSl cU8) p_13.Queue), i64 p_13.Next, .sl false (L cApi_Packet p_13.Early), i64 p_13.SentAt] false]) ?_ ?_
  · replace hv_18 := bind_some1 hv_18; obtain ⟨y_14, hy_19, hv_18⟩ := hv_18
    rcases Bool.eq_false_or_eq_true ((!y_14)) with hb_20 | hb_20
    · replace hv_18 := ite_t hv_18 hb_20
      have e_hv_18 := Option.some.inj hv_18; subst e_hv_18
      exact ⟨_, [(1, .ref 0 0), (23, .bool true)], [.box [i64 p_13.Epoch, i64 p_13.Other, i64 p_13.First, .sl false (L (cSl cU8) p_13.Queue), i64 p_13.Next, .sl false (L cApi_Packet p_13.Early), i64 p_13.SentAt] false], orcs_ok (l := [(10, 35, [i64 p_13.Epoch, i64 0, i64 1073741824], .bool y_14)]) ⟨window_between_con  hy_19, trivial⟩, by simp only [go_sem, hb_20], (weak_sel [0] (by decide) rfl (by simp only [go_sem]) (by simp only [go_sem]))⟩
    · replace hv_18 := ite_f hv_18 hb_20
      replace hv_18 := bind_some1 hv_18; obtain ⟨y_15, hy_21, hv_18⟩ := hv_18
      rcases Bool.eq_false_or_eq_true ((!y_15)) with hb_22 | hb_22
      · replace hv_18 := ite_t hv_18 hb_22
        have e_hv_18 := Option.some.inj hv_18; subst e_hv_18
        exact ⟨_, [(1, .ref 0 0), (23, .bool true)], [.box [i64 p_13.Epoch, i64 p_13.Other, i64 p_13.First, .sl false (L (cSl cU8) p_13.Queue), i64 p_13.Next, .sl false (L cApi_Packet p_13.Early), i64 p_13.SentAt] false], orcs_ok (l := [(10, 35, [i64 p_13.Epoch, i64 0, i64 1073741824], .bool y_14), (15, 35, [i64 p_13.Other, i64 ((-1)), i64 1073741824], .bool y_15)]) ⟨window_between_con  hy_19, window_between_con  hy_21, trivial⟩, by simp only [go_sem, hb_20, hb_22], (weak_sel [0] (by decide) rfl (by simp only [go_sem]) (by simp only [go_sem]))⟩
      · replace hv_18 := ite_f hv_18 hb_22
        replace hv_18 := bind_some1 hv_18; obtain ⟨y_16, hy_23, hv_18⟩ := hv_18
        have e_hv_18 := Option.some.inj hv_18; subst e_hv_18
        exact ⟨_, [(1, .ref 0 0), (23, .bool ((!y_16)))], [.box [i64 p_13.Epoch, i64 p_13.Other, i64 p_13.First, .sl false (L (cSl cU8) p_13.Queue), i64 p_13.Next, .sl false (L cApi_Packet p_13.Early), i64 p_13.SentAt] false], orcs_ok (l := [(10, 35, [i64 p_13.Epoch, i64 0, i64 1073741824], .bool y_14), (15, 35, [i64 p_13.Other, i64 ((-1)), i64 1073741824], .bool y_15), (21, 35, [i64 p_13.SentAt, i64 ((-1)), i64 1073741824], .bool y_16)]) ⟨window_between_con  hy_19, window_between_con  hy_21, window_between_con  hy_23, trivial⟩, by simp only [go_sem, hb_20, hb_22], (weak_sel [0] (by decide) rfl (by simp only [go_sem]) (by simp only [go_sem]))⟩
  refine run_condL (b := t_17) rfl (by decide) (fun hb => ?_) (fun hb => ?_)
  · replace h := ite_t h hb
    refine run_textE hE [2] (fr' := [(2, .bool false)]) (σ' := [.box [i64 p_13.Epoch, i64 p_13.Other, i64 p_13.First, .sl false (L (cSl cU8) p_13.Queue), i64 p_13.Next, .sl false (L cApi_Packet p_13.Early), i64 p_13.SentAt] false]) ⟨_, orcs_nil, ?_⟩ ?_
    · simp only [go_sem]
    refine run_ret ?_
    refine thenK_r ?_
    obtain rfl := Option.some.inj h
    refine wkP_of (Weak.refl _ _) ?_
    refine ret_ok (.inr rfl) ?_
    simp only [go_sem]
  · replace h := ite_f h hb
    refine run_skip ?_
    refine thenK_n ?_
    refine run_seq ?_
    replace h := bind_some1 h; obtain ⟨t_26, hv_27, h⟩ := h
    refine run_textW hE [1, 48] (fr' := [(1, .ref 0 0), (48, .bool t_26)]) (σ' := [.box [i64 p_13.Epoch, i64 p_13.Other, i64 p_13.First, .sl false (L (cSl cU8) p_13.Queue), i64 p_13.Next, .sl false (L cApi_Packet p_13.Early), i64 p_13.SentAt] false]) ?_ ?_
    · replace hv_27 := bind_some1 hv_27; obtain ⟨y_24, hy_28, hv_27⟩ := hv_27
      rcases Bool.eq_false_or_eq_true ((!y_24)) with hb_29 | hb_29
      · replace hv_27 := ite_t hv_27 hb_29
        have e_hv_27 := Option.some.inj hv_27; subst e_hv_27
        exact ⟨_, [(1, .ref 0 0), (48, .bool true)], [.box [i64 p_13.Epoch, i64 p_13.Other, i64 p_13.First, .sl false (L (cSl cU8) p_13.Queue), i64 p_13.Next, .sl false (L cApi_Packet p_13.Early), i64 p_13.SentAt] false], orcs_ok (l := [(26, 35, [i64 p_13.First, i64 0, i64 1099511627776], .bool y_24)]) ⟨window_between_con  hy_28, trivial⟩, by simp only [go_sem, hb_29], (weak_sel [0] (by decide) rfl (by simp only [go_sem]) (by simp only [go_sem]))⟩
      · replace hv_27 := ite_f hv_27 hb_29
        replace hv_27 := bind_some1 hv_27; obtain ⟨y_25, hy_30, hv_27⟩ := hv_27
        rcases Bool.eq_false_or_eq_true ((!y_25)) with hb_31 | hb_31
        · replace hv_27 := ite_t hv_27 hb_31
          have e_hv_27 := Option.some.inj hv_27; subst e_hv_27
          exact ⟨_, [(1, .ref 0 0), (48, .bool true)], [.box [i64 p_13.Epoch, i64 p_13.Other, i64 p_13.First, .sl false (L (cSl cU8) p_13.Queue), i64 p_13.Next, .sl false (L cApi_Packet p_13.Early), i64 p_13.SentAt] false], orcs_ok (l := [(26, 35, [i64 p_13.First, i64 0, i64 1099511627776], .bool y_24), (31, 35, [i64 p_13.Next, i64 0, i64 1099511627776], .bool y_25)]) ⟨window_between_con  hy_28, window_between_con  hy_30, trivial⟩, by simp only [go_sem, hb_29, hb_31], (weak_sel [0] (by decide) rfl (by simp only [go_sem]) (by simp only [go_sem]))⟩
        · replace hv_27 := ite_f hv_27 hb_31
          rcases Bool.eq_false_or_eq_true ((decide ((p_13.Queue.length : Int) > 256))) with hb_32 | hb_32
          · replace hv_27 := ite_t hv_27 hb_32
            have e_hv_27 := Option.some.inj hv_27; subst e_hv_27
            exact ⟨_, [(1, .ref 0 0), (48, .bool true)], [.box [i64 p_13.Epoch, i64 p_13.Other, i64 p_13.First, .sl false (L (cSl cU8) p_13.Queue), i64 p_13.Next, .sl false (L cApi_Packet p_13.Early), i64 p_13.SentAt] false], orcs_ok (l := [(26, 35, [i64 p_13.First, i64 0, i64 1099511627776], .bool y_24), (31, 35, [i64 p_13.Next, i64 0, i64 1099511627776], .bool y_25)]) ⟨window_between_con  hy_28, window_between_con  hy_30, trivial⟩, by simp only [go_sem, hb_29, hb_31, hb_32], (weak_sel [0] (by decide) rfl (by simp only [go_sem]) (by simp only [go_sem]))⟩
          · replace hv_27 := ite_f hv_27 hb_32
            have e_hv_27 := Option.some.inj hv_27; subst e_hv_27
            exact ⟨_, [(1, .ref 0 0), (48, .bool ((decide ((w64 (p_13.First + (p_13.Queue.length : Int))) > 1099511627776))))], [.box [i64 p_13.Epoch, i64 p_13.Other, i64 p_13.First, .sl false (L (cSl cU8) p_13.Queue), i64 p_13.Next, .sl false (L cApi_Packet p_13.Early), i64 p_13.SentAt] false], orcs_ok (l := [(26, 35, [i64 p_13.First, i64 0, i64 1099511627776], .bool y_24), (31, 35, [i64 p_13.Next, i64 0, i64 1099511627776], .bool y_25)]) ⟨window_between_con  hy_28, window_between_con  hy_30, trivial⟩, by simp only [go_sem, hb_29, hb_31, hb_32], (weak_sel [0] (by decide) rfl (by simp only [go_sem]) (by simp only [go_sem]))⟩
    refine run_condL (b := t_26) rfl (by decide) (fun hb => ?_) (fun hb => ?_)
    · replace h := ite_t h hb
      refine run_textE hE [2] (fr' := [(2, .bool false)]) (σ' := [.box [i64 p_13.Epoch, i64 p_13.Other, i64 p_13.First, .sl false (L (cSl cU8) p_13.Queue), i64 p_13.Next, .sl false (L cApi_Packet p_13.Early), i64 p_13.SentAt] false]) ⟨_, orcs_nil, ?_⟩ ?_
      · simp only [go_sem]
      refine run_ret ?_
      refine thenK_r ?_
      obtain rfl := Option.some.inj h
      refine wkP_of (Weak.refl _ _) ?_
      refine ret_ok (.inr rfl) ?_
      simp only [go_sem]
    · replace h := ite_f h hb
      refine run_skip ?_
      refine thenK_n ?_
      replace h := bind_some1 h; obtain ⟨j_48, hA_49, hj_50⟩ := h
      refine run_join (fun (v : Unit) => (⟨asFr 106 [(1, .ref 0 0)], [.box [i64 p_13.Epoch, i64 p_13.Other, i64 p_13.First, .sl false (L (cSl cU8) p_13.Queue), i64 p_13.Next, .sl false (L cApi_Packet p_13.Early), i64 p_13.SentAt] false]⟩ : St)) (fun v => .inl v = j_48) ?_ ?_
      · have h := hA_49; clear hA_49
        refine run_textE hE [1, 50, 51, 52] (fr' := [(1, .ref 0 0), (50, .sl false (L (cSl cU8) p_13.Queue)), (51, i64 ((p_13.Queue.length : Int))), (52, i64 0)]) (σ' := [.box [i64 p_13.Epoch, i64 p_13.Other, i64 p_13.First, .sl false (L (cSl cU8) p_13.Queue), i64 p_13.Next, .sl false (L cApi_Packet p_13.Early), i64 p_13.SentAt] false]) ⟨_, orcs_nil, ?_⟩ ?_
        · simp only [go_sem]
        refine run_block ?_
        replace h := bind_some1 h; obtain ⟨x_58, hx_59, hj_60⟩ := h
        refine run_loopO hx_59 (fun (v : Int) => (⟨asFr 106 [(1, .ref 0 0), (50, .sl false (L (cSl cU8) p_13.Queue)), (51, i64 ((p_13.Queue.length : Int))), (52, i64 v)], [.box [i64 p_13.Epoch, i64 p_13.Other, i64 p_13.First, .sl false (L (cSl cU8) p_13.Queue), i64 p_13.Next, .sl false (L cApi_Packet p_13.Early), i64 p_13.SentAt] false]⟩ : St)) (weak_sel [0] (by decide) rfl (by simp only [go_sem]) (by simp only [go_sem])) ?_
        rintro t_54 o_61 h hxx_62
        replace h : window_valid_b1 p_13 t_54 = some o_61 := h
        unfold window_valid_b1 at h
        refine run_textE hE [1, 50, 51, 52, 53] (fr' := [(1, .ref 0 0), (50, .sl false (L (cSl cU8) p_13.Queue)), (51, i64 ((p_13.Queue.length : Int))), (52, i64 t_54), (53, .bool ((decide (t_54 < (p_13.Queue.length : Int)))))]) (σ' := [.box [i64 p_13.Epoch, i64 p_13.Other, i64 p_13.First, .sl false (L (cSl cU8) p_13.Queue), i64 p_13.Next, .sl false (L cApi_Packet p_13.Early), i64 p_13.SentAt] false]) ⟨_, orcs_nil, ?_⟩ ?_
        · simp only [go_sem]
        refine run_seq ?_
        refine run_condL (b := (decide (t_54 < (p_13.Queue.length : Int)))) rfl (by decide) (fun hb => ?_) (fun hb => ?_)
        · replace h := ite_t h hb
          refine run_skip ?_
          refine thenK_n ?_
          refine run_seq ?_
          refine run_block ?_
          replace h := chk_some h; obtain ⟨hc_63, h⟩ := h
          refine run_textE hE [1, 4, 50, 51, 52] (fr' := [(1, .ref 0 0), (4, .sl false (L cU8 (nth p_13.Queue t_54.toNat))), (50, .sl false (L (cSl cU8) p_13.Queue)), (51, i64 ((p_13.Queue.length : Int))), (52, i64 t_54)]) (σ' := [.box [i64 p_13.Epoch, i64 p_13.Other, i64 p_13.First, .sl false (L (cSl cU8) p_13.Queue), i64 p_13.Next, .sl false (L cApi_Packet p_13.Early), i64 p_13.SentAt] false]) ⟨_, orcs_nil, ?_⟩ ?_
          · simp only [go_sem, Int.reduceToNat, hc_63, hc_63.2, lt_le hc_63.2]
          refine run_textE hE [1, 50, 51, 52, 58] (fr' := [(1, .ref 0 0), (50, .sl false (L (cSl cU8) p_13.Queue)), (51, i64 ((p_13.Queue.length : Int))), (52, i64 t_54), (58, .bool ((decide (((nth p_13.Queue t_54.toNat).length : Int) > 8000))))]) (σ' := [.box [i64 p_13.Epoch, i64 p_13.Other, i64 p_13.First, .sl false (L (cSl cU8) p_13.Queue), i64 p_13.Next, .sl false (L cApi_Packet p_13.Early), i64 p_13.SentAt] false]) ⟨_, orcs_nil, ?_⟩ ?_
          · simp only [go_sem]
          refine run_condL (b := (decide (((nth p_13.Queue t_54.toNat).length : Int) > 8000))) rfl (by decide) (fun hb => ?_) (fun hb => ?_)
          · replace h := ite_t h hb
            refine run_textE hE [2] (fr' := [(2, .bool false)]) (σ' := [.box [i64 p_13.Epoch, i64 p_13.Other, i64 p_13.First, .sl false (L (cSl cU8) p_13.Queue), i64 p_13.Next, .sl false (L cApi_Packet p_13.Early), i64 p_13.SentAt] false]) ⟨_, orcs_nil, ?_⟩ ?_
            · simp only [go_sem]
            refine run_ret ?_
            refine blockK_r ?_
            refine thenK_r ?_
            refine lpK_r ?_
            replace h := bind_some1 h; obtain ⟨z_65, h, e_z_65⟩ := h
            obtain rfl := Option.some.inj e_z_65
            have ex_z_65 := hxx_62 _ rfl
            subst ex_z_65
            obtain rfl := Option.some.inj hj_60
            refine blockK_r ?_
            refine joinK_r ?_
            replace h := bind_some1 h; obtain ⟨z_64, h, e_z_64⟩ := h
            obtain rfl := Option.some.inj e_z_64
            obtain rfl := Option.some.inj hj_50
            obtain rfl := Option.some.inj h
            refine wkP_of (Weak.refl _ _) ?_
            refine ret_ok (.inr rfl) ?_
            simp only [go_sem]
          · replace h := ite_f h hb
            refine run_skip ?_
            refine blockK_n ?_
            refine thenK_n ?_
            refine run_textE0 hE wk_lp [1, 50, 51, 52] (fr' := [(1, .ref 0 0), (50, .sl false (L (cSl cU8) p_13.Queue)), (51, i64 ((p_13.Queue.length : Int))), (52, i64 ((w64 (t_54 + 1))))]) (σ' := [.box [i64 p_13.Epoch, i64 p_13.Other, i64 p_13.First, .sl false (L (cSl cU8) p_13.Queue), i64 p_13.Next, .sl false (L cApi_Packet p_13.Early), i64 p_13.SentAt] false]) ⟨_, orcs_nil, ?_⟩ ?_
            · simp only [go_sem]
            obtain rfl := Option.some.inj h
            exact lpK_n ((w64 (t_54 + 1))) rfl (weak_sel [0] (by decide) rfl (by simp only [go_sem]) (by simp only [go_sem]))
        · replace h := ite_f h hb
          refine run_exit ?_
          refine thenK_x ?_
          obtain rfl := Option.some.inj h
          have ex_x_58 := hxx_62 _ rfl
          subst ex_x_58
          have h := hj_60; clear hj_60
          refine lpK_x ?_
          refine blockK_x ?_
          obtain rfl := Option.some.inj h
          exact joinK_n (()) rfl ((weak_sel (l' := [(1, .ref 0 0)]) (σ' := [.box [i64 p_13.Epoch, i64 p_13.Other, i64 p_13.First, .sl false (L (cSl cU8) p_13.Queue), i64 p_13.Next, .sl false (L cApi_Packet p_13.Early), i64 p_13.SentAt] false]) [0] (by decide) rfl (by simp only [go_sem]) (by simp only [go_sem])).trans (weak_sel [0] (by decide) rfl (by simp only [go_sem]) (by simp only [go_sem])))
      rintro ⟨⟩ rfl
      have h := hj_50; clear hj_50
      refine run_textE hE [1, 5] (fr' := [(1, .ref 0 0), (5, i64 p_13.Next)]) (σ' := [.box [i64 p_13.Epoch, i64 p_13.Other, i64 p_13.First, .sl false (L (cSl cU8) p_13.Queue), i64 p_13.Next, .sl false (L cApi_Packet p_13.Early), i64 p_13.SentAt] false]) ⟨_, orcs_nil, ?_⟩ ?_
      · simp only [go_sem]
      replace h := bind_some1 h; obtain ⟨j_123, hA_124, hj_125⟩ := h
      refine run_join (fun (v : Unit) => (⟨asFr 106 [], []⟩ : St)) (fun v => .inl v = j_123) ?_ ?_
      · have h := hA_124; clear hA_124
        refine run_textE hE [1, 5, 63, 64, 65] (fr' := [(1, .ref 0 0), (5, i64 p_13.Next), (63, .sl false (L cApi_Packet p_13.Early)), (64, i64 ((p_13.Early.length : Int))), (65, i64 0)]) (σ' := [.box [i64 p_13.Epoch, i64 p_13.Other, i64 p_13.First, .sl false (L (cSl cU8) p_13.Queue), i64 p_13.Next, .sl false (L cApi_Packet p_13.Early), i64 p_13.SentAt] false]) ⟨_, orcs_nil, ?_⟩ ?_
        · simp only [go_sem]
        refine run_block ?_
        replace h := bind_some1 h; obtain ⟨x_158, hx_159, hj_160⟩ := h
        refine run_loopO hx_159 (fun (v : Int × Int) => (⟨asFr 106 [(1, .ref 0 0), (5, i64 v.1), (63, .sl false (L cApi_Packet p_13.Early)), (64, i64 ((p_13.Early.length : Int))), (65, i64 v.2)], [.box [i64 p_13.Epoch, i64 p_13.Other, i64 p_13.First, .sl false (L (cSl cU8) p_13.Queue), i64 p_13.Next, .sl false (L cApi_Packet p_13.Early), i64 p_13.SentAt] false]⟩ : St)) (weak_sel [0] (by decide) rfl (by simp only [go_sem]) (by simp only [go_sem])) ?_
        rintro ⟨last_136, t_137⟩ o_161 h hxx_162
        replace h : window_valid_b2 p_13 last_136 t_137 = some o_161 := h
        unfold window_valid_b2 at h
        refine run_textE hE [1, 5, 63, 64, 65, 66] (fr' := [(1, .ref 0 0), (5, i64 last_136), (63, .sl false (L cApi_Packet p_13.Early)), (64, i64 ((p_13.Early.length : Int))), (65, i64 t_137), (66, .bool ((decide (t_137 < (p_13.Early.length : Int)))))]) (σ' := [.box [i64 p_13.Epoch, i64 p_13.Other, i64 p_13.First, .sl false (L (cSl cU8) p_13.Queue), i64 p_13.Next, .sl false (L cApi_Packet p_13.Early), i64 p_13.SentAt] false]) ⟨_, orcs_nil, ?_⟩ ?_
        · simp only [go_sem]
        refine run_seq ?_
        refine run_condL (b := (decide (t_137 < (p_13.Early.length : Int)))) rfl (by decide) (fun hb => ?_) (fun hb => ?_)
        · replace h := ite_t h hb
          refine run_skip ?_
          refine thenK_n ?_
          refine run_seq ?_
          refine run_block ?_
          replace h := chk_some h; obtain ⟨hc_163, h⟩ := h
          replace h := lt1_some h; obtain ⟨f_164, hz_169, h⟩ := h
          replace h := lt1_some h; obtain ⟨f_165, hz_170, h⟩ := h
          replace h := lt1_some h; obtain ⟨f_166, hz_171, h⟩ := h
          replace h := lt1_some h; obtain ⟨f_167, hz_172, h⟩ := h
          replace h := lt1_some h; obtain ⟨f_168, hz_173, h⟩ := h
          refine run_textE hE [1, 5, 7, 63, 64, 65] (fr' := [(1, .ref 0 0), (5, i64 last_136), (7, .ref 1 0), (63, .sl false (L cApi_Packet p_13.Early)), (64, i64 ((p_13.Early.length : Int))), (65, i64 t_137)]) (σ' := [.box [i64 p_13.Epoch, i64 p_13.Other, i64 p_13.First, .sl false (L (cSl cU8) p_13.Queue), i64 p_13.Next, .sl false (L cApi_Packet p_13.Early), i64 p_13.SentAt] false, .box [i64 f_164, i64 f_165, i64 f_166, i64 f_167, .sl false (L cU8 f_168)] false]) ⟨_, orcs_nil, ?_⟩ ?_
          · subst hz_173; subst hz_172; subst hz_171; subst hz_170; subst hz_169; simp only [go_sem, Int.reduceToNat, Nat.reduceLeDiff, hc_163, hc_163.2, lt_le hc_163.2]
          refine run_seq ?_
          replace h := bind_some1 h; obtain ⟨t_174, hv_175, h⟩ := h
          refine run_textW hE [1, 7, 63, 64, 65, 102] (fr' := [(1, .ref 0 0), (7, .ref 1 0), (63, .sl false (L cApi_Packet p_13.Early)), (64, i64 ((p_13.Early.length : Int))), (65, i64 t_137), (102, .bool t_174)]) (σ' := [.box [i64 p_13.Epoch, i64 p_13.Other, i64 p_13.First, .sl false (L (cSl cU8) p_13.Queue), i64 p_13.Next, .sl false (L cApi_Packet p_13.Early), i64 p_13.SentAt] false, .box [i64 f_164, i64 f_165, i64 f_166, i64 f_167, .sl false (L cU8 f_168)] false]) ?_ ?_
          · rcases Bool.eq_false_or_eq_true ((decide (f_166 ≤ last_136))) with hb_176 | hb_176
            · replace hv_175 := ite_t hv_175 hb_176
              have e_hv_175 := Option.some.inj hv_175; subst e_hv_175
              exact ⟨_, [(1, .ref 0 0), (7, .ref 1 0), (63, .sl false (L cApi_Packet p_13.Early)), (64, i64 ((p_13.Early.length : Int))), (65, i64 t_137), (102, .bool true)], [.box [i64 p_13.Epoch, i64 p_13.Other, i64 p_13.First, .sl false (L (cSl cU8) p_13.Queue), i64 p_13.Next, .sl false (L cApi_Packet p_13.Early), i64 p_13.SentAt] false, .box [i64 f_164, i64 f_165, i64 f_166, i64 f_167, .sl false (L cU8 f_168)] false], orcs_nil, by simp only [go_sem, hb_176], (weak_sel [0, 1] (by decide) rfl (by simp only [go_sem]) (by simp only [go_sem]))⟩
            · replace hv_175 := ite_f hv_175 hb_176
              rcases Bool.eq_false_or_eq_true ((decide (f_166 ≥ (mn64 ((w64 (p_13.Next + 64))) 1099511627776)))) with hb_177 | hb_177
              · replace hv_175 := ite_t hv_175 hb_177
                have e_hv_175 := Option.some.inj hv_175; subst e_hv_175
                exact ⟨_, [(1, .ref 0 0), (7, .ref 1 0), (63, .sl false (L cApi_Packet p_13.Early)), (64, i64 ((p_13.Early.length : Int))), (65, i64 t_137), (102, .bool true)], [.box [i64 p_13.Epoch, i64 p_13.Other, i64 p_13.First, .sl false (L (cSl cU8) p_13.Queue), i64 p_13.Next, .sl false (L cApi_Packet p_13.Early), i64 p_13.SentAt] false, .box [i64 f_164, i64 f_165, i64 f_166, i64 f_167, .sl false (L cU8 f_168)] false], orcs_nil, by simp only [go_sem, hb_176, hb_177], (weak_sel [0, 1] (by decide) rfl (by simp only [go_sem]) (by simp only [go_sem]))⟩
              · replace hv_175 := ite_f hv_175 hb_177
                rcases Bool.eq_false_or_eq_true ((decide ((f_168.length : Int) > 8000))) with hb_178 | hb_178
                · replace hv_175 := ite_t hv_175 hb_178
                  have e_hv_175 := Option.some.inj hv_175; subst e_hv_175
                  exact ⟨_, [(1, .ref 0 0), (7, .ref 1 0), (63, .sl false (L cApi_Packet p_13.Early)), (64, i64 ((p_13.Early.length : Int))), (65, i64 t_137), (102, .bool true)], [.box [i64 p_13.Epoch, i64 p_13.Other, i64 p_13.First, .sl false (L (cSl cU8) p_13.Queue), i64 p_13.Next, .sl false (L cApi_Packet p_13.Early), i64 p_13.SentAt] false, .box [i64 f_164, i64 f_165, i64 f_166, i64 f_167, .sl false (L cU8 f_168)] false], orcs_nil, by simp only [go_sem, hb_176, hb_177, hb_178], (weak_sel [0, 1] (by decide) rfl (by simp only [go_sem]) (by simp only [go_sem]))⟩
                · replace hv_175 := ite_f hv_175 hb_178
                  rcases Bool.eq_false_or_eq_true ((f_164 != 0)) with hb_179 | hb_179
                  · replace hv_175 := ite_t hv_175 hb_179
                    have e_hv_175 := Option.some.inj hv_175; subst e_hv_175
                    exact ⟨_, [(1, .ref 0 0), (7, .ref 1 0), (63, .sl false (L cApi_Packet p_13.Early)), (64, i64 ((p_13.Early.length : Int))), (65, i64 t_137), (102, .bool true)], [.box [i64 p_13.Epoch, i64 p_13.Other, i64 p_13.First, .sl false (L (cSl cU8) p_13.Queue), i64 p_13.Next, .sl false (L cApi_Packet p_13.Early), i64 p_13.SentAt] false, .box [i64 f_164, i64 f_165, i64 f_166, i64 f_167, .sl false (L cU8 f_168)] false], orcs_nil, by simp only [go_sem, hb_176, hb_177, hb_178, hb_179], (weak_sel [0, 1] (by decide) rfl (by simp only [go_sem]) (by simp only [go_sem]))⟩
                  · replace hv_175 := ite_f hv_175 hb_179
                    rcases Bool.eq_false_or_eq_true ((f_165 != 0)) with hb_180 | hb_180
                    · replace hv_175 := ite_t hv_175 hb_180
                      have e_hv_175 := Option.some.inj hv_175; subst e_hv_175
                      exact ⟨_, [(1, .ref 0 0), (7, .ref 1 0), (63, .sl false (L cApi_Packet p_13.Early)), (64, i64 ((p_13.Early.length : Int))), (65, i64 t_137), (102, .bool true)], [.box [i64 p_13.Epoch, i64 p_13.Other, i64 p_13.First, .sl false (L (cSl cU8) p_13.Queue), i64 p_13.Next, .sl false (L cApi_Packet p_13.Early), i64 p_13.SentAt] false, .box [i64 f_164, i64 f_165, i64 f_166, i64 f_167, .sl false (L cU8 f_168)] false], orcs_nil, by simp only [go_sem, hb_176, hb_177, hb_178, hb_179, hb_180], (weak_sel [0, 1] (by decide) rfl (by simp only [go_sem]) (by simp only [go_sem]))⟩
                    · replace hv_175 := ite_f hv_175 hb_180
                      have e_hv_175 := Option.some.inj hv_175; subst e_hv_175
                      exact ⟨_, [(1, .ref 0 0), (7, .ref 1 0), (63, .sl false (L cApi_Packet p_13.Early)), (64, i64 ((p_13.Early.length : Int))), (65, i64 t_137), (102, .bool ((f_167 != 0)))], [.box [i64 p_13.Epoch, i64 p_13.Other, i64 p_13.First, .sl false (L (cSl cU8) p_13.Queue), i64 p_13.Next, .sl false (L cApi_Packet p_13.Early), i64 p_13.SentAt] false, .box [i64 f_164, i64 f_165, i64 f_166, i64 f_167, .sl false (L cU8 f_168)] false], orcs_nil, by simp only [go_sem, hb_176, hb_177, hb_178, hb_179, hb_180], (weak_sel [0, 1] (by decide) rfl (by simp only [go_sem]) (by simp only [go_sem]))⟩
          refine run_condL (b := t_174) rfl (by decide) (fun hb => ?_) (fun hb => ?_)
          · replace h := ite_t h hb
            refine run_textE hE [2] (fr' := [(2, .bool false)]) (σ' := [.box [i64 p_13.Epoch, i64 p_13.Other, i64 p_13.First, .sl false (L (cSl cU8) p_13.Queue), i64 p_13.Next, .sl false (L cApi_Packet p_13.Early), i64 p_13.SentAt] false, .box [i64 f_164, i64 f_165, i64 f_166, i64 f_167, .sl false (L cU8 f_168)] false]) ⟨_, orcs_nil, ?_⟩ ?_
            · simp only [go_sem]
            refine run_ret ?_
            refine thenK_r ?_
            refine blockK_r ?_
            refine thenK_r ?_
            refine lpK_r ?_
            replace h := bind_some1 h; obtain ⟨z_182, h, e_z_182⟩ := h
            obtain rfl := Option.some.inj e_z_182
            have ex_z_182 := hxx_162 _ rfl
            subst ex_z_182
            obtain rfl := Option.some.inj hj_160
            refine blockK_r ?_
            refine joinK_r ?_
            replace h := bind_some1 h; obtain ⟨z_181, h, e_z_181⟩ := h
            obtain rfl := Option.some.inj e_z_181
            obtain rfl := Option.some.inj hj_125
            obtain rfl := Option.some.inj h
            refine wkP_of (Weak.refl _ _) ?_
            refine ret_ok (.inr rfl) ?_
            simp only [go_sem]
          · replace h := ite_f h hb
            refine run_skip ?_
            refine thenK_n ?_
            refine run_textE0 hE (wk_block wk_then) [1, 5, 63, 64, 65] (fr' := [(1, .ref 0 0), (5, i64 f_166), (63, .sl false (L cApi_Packet p_13.Early)), (64, i64 ((p_13.Early.length : Int))), (65, i64 t_137)]) (σ' := [.box [i64 p_13.Epoch, i64 p_13.Other, i64 p_13.First, .sl false (L (cSl cU8) p_13.Queue), i64 p_13.Next, .sl false (L cApi_Packet p_13.Early), i64 p_13.SentAt] false, .box [i64 f_164, i64 f_165, i64 f_166, i64 f_167, .sl false (L cU8 f_168)] false]) ⟨_, orcs_nil, ?_⟩ ?_
            · simp only [go_sem]
            refine blockK_n ?_
            refine thenK_n ?_
            refine run_textE0 hE wk_lp [1, 5, 63, 64, 65] (fr' := [(1, .ref 0 0), (5, i64 f_166), (63, .sl false (L cApi_Packet p_13.Early)), (64, i64 ((p_13.Early.length : Int))), (65, i64 ((w64 (t_137 + 1))))]) (σ' := [.box [i64 p_13.Epoch, i64 p_13.Other, i64 p_13.First, .sl false (L (cSl cU8) p_13.Queue), i64 p_13.Next, .sl false (L cApi_Packet p_13.Early), i64 p_13.SentAt] false, .box [i64 f_164, i64 f_165, i64 f_166, i64 f_167, .sl false (L cU8 f_168)] false]) ⟨_, orcs_nil, ?_⟩ ?_
            · simp only [go_sem]
            obtain rfl := Option.some.inj h
            exact lpK_n ((f_166, (w64 (t_137 + 1)))) rfl (weak_sel [0] (by decide) rfl (by simp only [go_sem]) (by simp only [go_sem]))
        · replace h := ite_f h hb
          refine run_exit ?_
          refine thenK_x ?_
          obtain rfl := Option.some.inj h
          have ex_x_158 := hxx_162 _ rfl
          subst ex_x_158
          have h := hj_160; clear hj_160
          refine lpK_x ?_
          refine blockK_x ?_
          obtain rfl := Option.some.inj h
          exact joinK_n (()) rfl ((weak_sel (l' := []) (σ' := []) [] (by decide) rfl (by simp only [go_sem]) (by simp only [go_sem])).trans (weak_sel [] (by decide) rfl (by simp only [go_sem]) (by simp only [go_sem])))
      rintro ⟨⟩ rfl
      have h := hj_125; clear hj_125
      refine run_textE hE [2] (fr' := [(2, .bool true)]) (σ' := []) ⟨_, orcs_nil, ?_⟩ ?_
      · simp only [go_sem]
      refine run_ret ?_
      obtain rfl := Option.some.inj h
      refine wkP_of (Weak.refl _ _) ?_
      refine ret_ok (.inr rfl) ?_
      simp only [go_sem]

end Go.Proofs.Ytomjphpnpcgacaa
/-
  The functions compute just that.
-/
namespace Go.Proofs.Ytomjphpnpcgacaa
open Go.Rv
set_option linter.unusedVariables false
set_option linter.unusedSimpArgs false
set_option maxRecDepth 20000
set_option maxHeartbeats 4000000

theorem r12_early_con {p_183 : Api_Peer} {r : Bool} (h : r12_early p_183 = some r) : Con B 55 [.agg [i64 p_183.Epoch, i64 p_183.Other, i64 p_183.First, .sl false (L (cSl cU8) p_183.Queue), i64 p_183.Next, .sl false (L cApi_Packet p_183.Early), i64 p_183.SentAt]] [] (fun r' σ' => r' = .bool r ∧ σ' = []) := by
  refine con_walk (N := 60) (rs := [.tmp 2]) ok Try.func55 rfl (by decide +kernel) rfl rfl (Nat.le_of_ble_eq_true rfl) (fun F => ?_)
  have hE := ok.env F
  unfold r12_early at h
  show Run (B.env F) 0 _ ⟨asFr 60 [(0, .agg [i64 p_183.Epoch, i64 p_183.Other, i64 p_183.First, .sl false (L (cSl cU8) p_183.Queue), i64 p_183.Next, .sl false (L cApi_Packet p_183.Early), i64 p_183.SentAt])], []⟩ _
  refine run_wkP ?_
  refine run_textE hE [1] (fr' := [(1, .ref 0 0)]) (σ' := [.box [i64 p_183.Epoch, i64 p_183.Other, i64 p_183.First, .sl false (L (cSl cU8) p_183.Queue), i64 p_183.Next, .sl false (L cApi_Packet p_183.Early), i64 p_183.SentAt] false]) ⟨_, orcs_nil, ?_⟩ ?_
  · simp only [go_sem]
  refine run_textE hE [1, 3] (fr' := [(1, .ref 0 0), (3, i64 p_183.Next)]) (σ' := [.box [i64 p_183.Epoch, i64 p_183.Other, i64 p_183.First, .sl false (L (cSl cU8) p_183.Queue), i64 p_183.Next, .sl false (L cApi_Packet p_183.Early), i64 p_183.SentAt] false]) ⟨_, orcs_nil, ?_⟩ ?_
  · simp only [go_sem]
  replace h := bind_some1 h; obtain ⟨j_244, hA_245, hj_246⟩ := h
  refine run_join (fun (v : Unit) => (⟨asFr 60 [], []⟩ : St)) (fun v => .inl v = j_244) ?_ ?_
  · have h := hA_245; clear hA_245
    refine run_textE hE [1, 3, 4] (fr' := [(1, .ref 0 0), (3, i64 p_183.Next), (4, i64 0)]) (σ' := [.box [i64 p_183.Epoch, i64 p_183.Other, i64 p_183.First, .sl false (L (cSl cU8) p_183.Queue), i64 p_183.Next, .sl false (L cApi_Packet p_183.Early), i64 p_183.SentAt] false]) ⟨_, orcs_nil, ?_⟩ ?_
    · simp only [go_sem]
    refine run_block ?_
    replace h := bind_some1 h; obtain ⟨x_281, hx_282, hj_283⟩ := h
    refine run_loopO hx_282 (fun (v : Int × Int) => (⟨asFr 60 [(1, .ref 0 0), (3, i64 v.1), (4, i64 v.2)], [.box [i64 p_183.Epoch, i64 p_183.Other, i64 p_183.First, .sl false (L (cSl cU8) p_183.Queue), i64 p_183.Next, .sl false (L cApi_Packet p_183.Early), i64 p_183.SentAt] false]⟩ : St)) (weak_sel [0] (by decide) rfl (by simp only [go_sem]) (by simp only [go_sem])) ?_
    rintro ⟨last_258, i_259⟩ o_284 h hxx_285
    replace h : r12_early_b1 p_183 last_258 i_259 = some o_284 := h
    unfold r12_early_b1 at h
    refine run_seq ?_
    refine run_textE hE [1, 3, 4, 12] (fr' := [(1, .ref 0 0), (3, i64 last_258), (4, i64 i_259), (12, .bool ((decide (i_259 < (p_183.Early.length : Int)))))]) (σ' := [.box [i64 p_183.Epoch, i64 p_183.Other, i64 p_183.First, .sl false (L (cSl cU8) p_183.Queue), i64 p_183.Next, .sl false (L cApi_Packet p_183.Early), i64 p_183.SentAt] false]) ⟨_, orcs_nil, ?_⟩ ?_
    · simp only [go_sem]
    refine run_condL (b := (decide (i_259 < (p_183.Early.length : Int)))) rfl (by decide) (fun hb => ?_) (fun hb => ?_)
    · replace h := ite_t h hb
      refine run_skip ?_
      refine thenK_n ?_
      refine run_seq ?_
      refine run_block ?_
      replace h := chk_some h; obtain ⟨hc_286, h⟩ := h
      replace h := lt1_some h; obtain ⟨f_287, hz_292, h⟩ := h
      replace h := lt1_some h; obtain ⟨f_288, hz_293, h⟩ := h
      replace h := lt1_some h; obtain ⟨f_289, hz_294, h⟩ := h
      replace h := lt1_some h; obtain ⟨f_290, hz_295, h⟩ := h
      replace h := lt1_some h; obtain ⟨f_291, hz_296, h⟩ := h
      refine run_textE hE [1, 3, 4, 5] (fr' := [(1, .ref 0 0), (3, i64 last_258), (4, i64 i_259), (5, .ref 1 0)]) (σ' := [.box [i64 p_183.Epoch, i64 p_183.Other, i64 p_183.First, .sl false (L (cSl cU8) p_183.Queue), i64 p_183.Next, .sl false (L cApi_Packet p_183.Early), i64 p_183.SentAt] false, .box [i64 f_287, i64 f_288, i64 f_289, i64 f_290, .sl false (L cU8 f_291)] false]) ⟨_, orcs_nil, ?_⟩ ?_
      · subst hz_296; subst hz_295; subst hz_294; subst hz_293; subst hz_292; simp only [go_sem, Int.reduceToNat, Nat.reduceLeDiff, hc_286, hc_286.2, lt_le hc_286.2]
      refine run_seq ?_
      replace h := bind_some1 h; obtain ⟨t_297, hv_298, h⟩ := h
      refine run_textW hE [1, 4, 5, 57] (fr' := [(1, .ref 0 0), (4, i64 i_259), (5, .ref 1 0), (57, .bool t_297)]) (σ' := [.box [i64 p_183.Epoch, i64 p_183.Other, i64 p_183.First, .sl false (L (cSl cU8) p_183.Queue), i64 p_183.Next, .sl false (L cApi_Packet p_183.Early), i64 p_183.SentAt] false, .box [i64 f_287, i64 f_288, i64 f_289, i64 f_290, .sl false (L cU8 f_291)] false]) ?_ ?_
      · rcases Bool.eq_false_or_eq_true ((decide (f_289 ≤ last_258))) with hb_299 | hb_299
        · replace hv_298 := ite_t hv_298 hb_299
          have e_hv_298 := Option.some.inj hv_298; subst e_hv_298
          exact ⟨_, [(1, .ref 0 0), (4, i64 i_259), (5, .ref 1 0), (57, .bool true)], [.box [i64 p_183.Epoch, i64 p_183.Other, i64 p_183.First, .sl false (L (cSl cU8) p_183.Queue), i64 p_183.Next, .sl false (L cApi_Packet p_183.Early), i64 p_183.SentAt] false, .box [i64 f_287, i64 f_288, i64 f_289, i64 f_290, .sl false (L cU8 f_291)] false], orcs_nil, by simp only [go_sem, hb_299], (weak_sel [0, 1] (by decide) rfl (by simp only [go_sem]) (by simp only [go_sem]))⟩
        · replace hv_298 := ite_f hv_298 hb_299
          rcases Bool.eq_false_or_eq_true ((decide (f_289 ≥ (w64 (p_183.Next + 64))))) with hb_300 | hb_300
          · replace hv_298 := ite_t hv_298 hb_300
            have e_hv_298 := Option.some.inj hv_298; subst e_hv_298
            exact ⟨_, [(1, .ref 0 0), (4, i64 i_259), (5, .ref 1 0), (57, .bool true)], [.box [i64 p_183.Epoch, i64 p_183.Other, i64 p_183.First, .sl false (L (cSl cU8) p_183.Queue), i64 p_183.Next, .sl false (L cApi_Packet p_183.Early), i64 p_183.SentAt] false, .box [i64 f_287, i64 f_288, i64 f_289, i64 f_290, .sl false (L cU8 f_291)] false], orcs_nil, by simp only [go_sem, hb_299, hb_300], (weak_sel [0, 1] (by decide) rfl (by simp only [go_sem]) (by simp only [go_sem]))⟩
          · replace hv_298 := ite_f hv_298 hb_300
            rcases Bool.eq_false_or_eq_true ((decide (f_289 ≥ 1099511627776))) with hb_301 | hb_301
            · replace hv_298 := ite_t hv_298 hb_301
              have e_hv_298 := Option.some.inj hv_298; subst e_hv_298
              exact ⟨_, [(1, .ref 0 0), (4, i64 i_259), (5, .ref 1 0), (57, .bool true)], [.box [i64 p_183.Epoch, i64 p_183.Other, i64 p_183.First, .sl false (L (cSl cU8) p_183.Queue), i64 p_183.Next, .sl false (L cApi_Packet p_183.Early), i64 p_183.SentAt] false, .box [i64 f_287, i64 f_288, i64 f_289, i64 f_290, .sl false (L cU8 f_291)] false], orcs_nil, by simp only [go_sem, hb_299, hb_300, hb_301], (weak_sel [0, 1] (by decide) rfl (by simp only [go_sem]) (by simp only [go_sem]))⟩
            · replace hv_298 := ite_f hv_298 hb_301
              rcases Bool.eq_false_or_eq_true ((decide ((f_291.length : Int) > 8000))) with hb_302 | hb_302
              · replace hv_298 := ite_t hv_298 hb_302
                have e_hv_298 := Option.some.inj hv_298; subst e_hv_298
                exact ⟨_, [(1, .ref 0 0), (4, i64 i_259), (5, .ref 1 0), (57, .bool true)], [.box [i64 p_183.Epoch, i64 p_183.Other, i64 p_183.First, .sl false (L (cSl cU8) p_183.Queue), i64 p_183.Next, .sl false (L cApi_Packet p_183.Early), i64 p_183.SentAt] false, .box [i64 f_287, i64 f_288, i64 f_289, i64 f_290, .sl false (L cU8 f_291)] false], orcs_nil, by simp only [go_sem, hb_299, hb_300, hb_301, hb_302], (weak_sel [0, 1] (by decide) rfl (by simp only [go_sem]) (by simp only [go_sem]))⟩
              · replace hv_298 := ite_f hv_298 hb_302
                rcases Bool.eq_false_or_eq_true ((f_287 != 0)) with hb_303 | hb_303
                · replace hv_298 := ite_t hv_298 hb_303
                  have e_hv_298 := Option.some.inj hv_298; subst e_hv_298
                  exact ⟨_, [(1, .ref 0 0), (4, i64 i_259), (5, .ref 1 0), (57, .bool true)], [.box [i64 p_183.Epoch, i64 p_183.Other, i64 p_183.First, .sl false (L (cSl cU8) p_183.Queue), i64 p_183.Next, .sl false (L cApi_Packet p_183.Early), i64 p_183.SentAt] false, .box [i64 f_287, i64 f_288, i64 f_289, i64 f_290, .sl false (L cU8 f_291)] false], orcs_nil, by simp only [go_sem, hb_299, hb_300, hb_301, hb_302, hb_303], (weak_sel [0, 1] (by decide) rfl (by simp only [go_sem]) (by simp only [go_sem]))⟩
                · replace hv_298 := ite_f hv_298 hb_303
                  rcases Bool.eq_false_or_eq_true ((f_288 != 0)) with hb_304 | hb_304
                  · replace hv_298 := ite_t hv_298 hb_304
                    have e_hv_298 := Option.some.inj hv_298; subst e_hv_298
                    exact ⟨_, [(1, .ref 0 0), (4, i64 i_259), (5, .ref 1 0), (57, .bool true)], [.box [i64 p_183.Epoch, i64 p_183.Other, i64 p_183.First, .sl false (L (cSl cU8) p_183.Queue), i64 p_183.Next, .sl false (L cApi_Packet p_183.Early), i64 p_183.SentAt] false, .box [i64 f_287, i64 f_288, i64 f_289, i64 f_290, .sl false (L cU8 f_291)] false], orcs_nil, by simp only [go_sem, hb_299, hb_300, hb_301, hb_302, hb_303, hb_304], (weak_sel [0, 1] (by decide) rfl (by simp only [go_sem]) (by simp only [go_sem]))⟩
                  · replace hv_298 := ite_f hv_298 hb_304
                    have e_hv_298 := Option.some.inj hv_298; subst e_hv_298
                    exact ⟨_, [(1, .ref 0 0), (4, i64 i_259), (5, .ref 1 0), (57, .bool ((f_290 != 0)))], [.box [i64 p_183.Epoch, i64 p_183.Other, i64 p_183.First, .sl false (L (cSl cU8) p_183.Queue), i64 p_183.Next, .sl false (L cApi_Packet p_183.Early), i64 p_183.SentAt] false, .box [i64 f_287, i64 f_288, i64 f_289, i64 f_290, .sl false (L cU8 f_291)] false], orcs_nil, by simp only [go_sem, hb_299, hb_300, hb_301, hb_302, hb_303, hb_304], (weak_sel [0, 1] (by decide) rfl (by simp only [go_sem]) (by simp only [go_sem]))⟩
      refine run_condL (b := t_297) rfl (by decide) (fun hb => ?_) (fun hb => ?_)
      · replace h := ite_t h hb
        refine run_textE hE [2] (fr' := [(2, .bool false)]) (σ' := [.box [i64 p_183.Epoch, i64 p_183.Other, i64 p_183.First, .sl false (L (cSl cU8) p_183.Queue), i64 p_183.Next, .sl false (L cApi_Packet p_183.Early), i64 p_183.SentAt] false, .box [i64 f_287, i64 f_288, i64 f_289, i64 f_290, .sl false (L cU8 f_291)] false]) ⟨_, orcs_nil, ?_⟩ ?_
        · simp only [go_sem]
        refine run_ret ?_
        refine thenK_r ?_
        refine blockK_r ?_
        refine thenK_r ?_
        refine lpK_r ?_
        replace h := bind_some1 h; obtain ⟨z_306, h, e_z_306⟩ := h
        obtain rfl := Option.some.inj e_z_306
        have ex_z_306 := hxx_285 _ rfl
        subst ex_z_306
        obtain rfl := Option.some.inj hj_283
        refine blockK_r ?_
        refine joinK_r ?_
        replace h := bind_some1 h; obtain ⟨z_305, h, e_z_305⟩ := h
        obtain rfl := Option.some.inj e_z_305
        obtain rfl := Option.some.inj hj_246
        obtain rfl := Option.some.inj h
        refine wkP_of (Weak.refl _ _) ?_
        refine ret_ok (.inr rfl) ?_
        simp only [go_sem]
      · replace h := ite_f h hb
        refine run_skip ?_
        refine thenK_n ?_
        refine run_textE0 hE (wk_block wk_then) [1, 3, 4] (fr' := [(1, .ref 0 0), (3, i64 f_289), (4, i64 i_259)]) (σ' := [.box [i64 p_183.Epoch, i64 p_183.Other, i64 p_183.First, .sl false (L (cSl cU8) p_183.Queue), i64 p_183.Next, .sl false (L cApi_Packet p_183.Early), i64 p_183.SentAt] false, .box [i64 f_287, i64 f_288, i64 f_289, i64 f_290, .sl false (L cU8 f_291)] false]) ⟨_, orcs_nil, ?_⟩ ?_
        · simp only [go_sem]
        refine blockK_n ?_
        refine thenK_n ?_
        refine run_textE0 hE wk_lp [1, 3, 4] (fr' := [(1, .ref 0 0), (3, i64 f_289), (4, i64 ((w64 (i_259 + 1))))]) (σ' := [.box [i64 p_183.Epoch, i64 p_183.Other, i64 p_183.First, .sl false (L (cSl cU8) p_183.Queue), i64 p_183.Next, .sl false (L cApi_Packet p_183.Early), i64 p_183.SentAt] false, .box [i64 f_287, i64 f_288, i64 f_289, i64 f_290, .sl false (L cU8 f_291)] false]) ⟨_, orcs_nil, ?_⟩ ?_
        · simp only [go_sem]
        obtain rfl := Option.some.inj h
        exact lpK_n ((f_289, (w64 (i_259 + 1)))) rfl (weak_sel [0] (by decide) rfl (by simp only [go_sem]) (by simp only [go_sem]))
    · replace h := ite_f h hb
      refine run_exit ?_
      refine thenK_x ?_
      obtain rfl := Option.some.inj h
      have ex_x_281 := hxx_285 _ rfl
      subst ex_x_281
      have h := hj_283; clear hj_283
      refine lpK_x ?_
      refine blockK_x ?_
      obtain rfl := Option.some.inj h
      exact joinK_n (()) rfl ((weak_sel (l' := []) (σ' := []) [] (by decide) rfl (by simp only [go_sem]) (by simp only [go_sem])).trans (weak_sel [] (by decide) rfl (by simp only [go_sem]) (by simp only [go_sem])))
  rintro ⟨⟩ rfl
  have h := hj_246; clear hj_246
  refine run_textE hE [2] (fr' := [(2, .bool true)]) (σ' := []) ⟨_, orcs_nil, ?_⟩ ?_
  · simp only [go_sem]
  refine run_ret ?_
  obtain rfl := Option.some.inj h
  refine wkP_of (Weak.refl _ _) ?_
  refine ret_ok (.inr rfl) ?_
  simp only [go_sem]

end Go.Proofs.Ytomjphpnpcgacaa
/-
  The functions compute just that.
-/
namespace Go.Proofs.Ytomjphpnpcgacaa
open Go.Rv
set_option linter.unusedVariables false
set_option linter.unusedSimpArgs false
set_option maxRecDepth 20000
set_option maxHeartbeats 4000000

theorem r12_Valid_con {p_307 : Api_Peer} {r : Bool} (h : r12_Valid p_307 = some r) : Con B 40 [.agg [i64 p_307.Epoch, i64 p_307.Other, i64 p_307.First, .sl false (L (cSl cU8) p_307.Queue), i64 p_307.Next, .sl false (L cApi_Packet p_307.Early), i64 p_307.SentAt]] [] (fun r' σ' => r' = .bool r ∧ σ' = []) := by
  refine con_walk (N := 61) (rs := [.tmp 2]) ok Try.func40 rfl (by decide +kernel) rfl rfl (Nat.le_of_ble_eq_true rfl) (fun F => ?_)
  have hE := ok.env F
  unfold r12_Valid at h
  show Run (B.env F) 0 _ ⟨asFr 61 [(0, .agg [i64 p_307.Epoch, i64 p_307.Other, i64 p_307.First, .sl false (L (cSl cU8) p_307.Queue), i64 p_307.Next, .sl false (L cApi_Packet p_307.Early), i64 p_307.SentAt])], []⟩ _
  refine run_wkP ?_
  refine run_textE hE [1] (fr' := [(1, .ref 0 0)]) (σ' := [.box [i64 p_307.Epoch, i64 p_307.Other, i64 p_307.First, .sl false (L (cSl cU8) p_307.Queue), i64 p_307.Next, .sl false (L cApi_Packet p_307.Early), i64 p_307.SentAt] false]) ⟨_, orcs_nil, ?_⟩ ?_
  · simp only [go_sem]
  refine run_seq ?_
  replace h := bind_some1 h; obtain ⟨t_313, hv_314, h⟩ := h
  refine run_textW hE [1, 31] (fr' := [(1, .ref 0 0), (31, .bool t_313)]) (σ' := [.box [i64 p_307.Epoch, i64 p_307.Other, i64 p_307.First, .sl false (L (cSl cU8) p_307.Queue), i64 p_307.Next, .sl false (L cApi_Packet p_307.Early), i64 p_307.SentAt] false]) ?_ ?_
  · replace hv_314 := bind_some1 hv_314; obtain ⟨y_308, hy_315, hv_314⟩ := hv_314
    rcases Bool.eq_false_or_eq_true ((!y_308)) with hb_316 | hb_316
    · replace hv_314 := ite_t hv_314 hb_316
      have e_hv_314 := Option.some.inj hv_314; subst e_hv_314
      exact ⟨_, [(1, .ref 0 0), (31, .bool true)], [.box [i64 p_307.Epoch, i64 p_307.Other, i64 p_307.First, .sl false (L (cSl cU8) p_307.Queue), i64 p_307.Next, .sl false (L cApi_Packet p_307.Early), i64 p_307.SentAt] false], orcs_ok (l := [(6, 36, [i64 p_307.Epoch, i64 0, i64 1073741824], .bool y_308)]) ⟨r12_within_con  hy_315, trivial⟩, by simp only [go_sem, hb_316], (weak_sel [0] (by decide) rfl (by simp only [go_sem]) (by simp only [go_sem]))⟩
    · replace hv_314 := ite_f hv_314 hb_316
      replace hv_314 := bind_some1 hv_314; obtain ⟨y_309, hy_317, hv_314⟩ := hv_314
      rcases Bool.eq_false_or_eq_true ((!y_309)) with hb_318 | hb_318
      · replace hv_314 := ite_t hv_314 hb_318
        have e_hv_314 := Option.some.inj hv_314; subst e_hv_314
        exact ⟨_, [(1, .ref 0 0), (31, .bool true)], [.box [i64 p_307.Epoch, i64 p_307.Other, i64 p_307.First, .sl false (L (cSl cU8) p_307.Queue), i64 p_307.Next, .sl false (L cApi_Packet p_307.Early), i64 p_307.SentAt] false], orcs_ok (l := [(6, 36, [i64 p_307.Epoch, i64 0, i64 1073741824], .bool y_308), (11, 36, [i64 p_307.Other, i64 ((-1)), i64 1073741824], .bool y_309)]) ⟨r12_within_con  hy_315, r12_within_con  hy_317, trivial⟩, by simp only [go_sem, hb_316, hb_318], (weak_sel [0] (by decide) rfl (by simp only [go_sem]) (by simp only [go_sem]))⟩
      · replace hv_314 := ite_f hv_314 hb_318
        replace hv_314 := bind_some1 hv_314; obtain ⟨y_310, hy_319, hv_314⟩ := hv_314
        rcases Bool.eq_false_or_eq_true ((!y_310)) with hb_320 | hb_320
        · replace hv_314 := ite_t hv_314 hb_320
          have e_hv_314 := Option.some.inj hv_314; subst e_hv_314
          exact ⟨_, [(1, .ref 0 0), (31, .bool true)], [.box [i64 p_307.Epoch, i64 p_307.Other, i64 p_307.First, .sl false (L (cSl cU8) p_307.Queue), i64 p_307.Next, .sl false (L cApi_Packet p_307.Early), i64 p_307.SentAt] false], orcs_ok (l := [(6, 36, [i64 p_307.Epoch, i64 0, i64 1073741824], .bool y_308), (11, 36, [i64 p_307.Other, i64 ((-1)), i64 1073741824], .bool y_309), (17, 36, [i64 p_307.First, i64 0, i64 1099511627776], .bool y_310)]) ⟨r12_within_con  hy_315, r12_within_con  hy_317, r12_within_con  hy_319, trivial⟩, by simp only [go_sem, hb_316, hb_318, hb_320], (weak_sel [0] (by decide) rfl (by simp only [go_sem]) (by simp only [go_sem]))⟩
        · replace hv_314 := ite_f hv_314 hb_320
          replace hv_314 := bind_some1 hv_314; obtain ⟨y_311, hy_321, hv_314⟩ := hv_314
          rcases Bool.eq_false_or_eq_true ((!y_311)) with hb_322 | hb_322
          · replace hv_314 := ite_t hv_314 hb_322
            have e_hv_314 := Option.some.inj hv_314; subst e_hv_314
            exact ⟨_, [(1, .ref 0 0), (31, .bool true)], [.box [i64 p_307.Epoch, i64 p_307.Other, i64 p_307.First, .sl false (L (cSl cU8) p_307.Queue), i64 p_307.Next, .sl false (L cApi_Packet p_307.Early), i64 p_307.SentAt] false], orcs_ok (l := [(6, 36, [i64 p_307.Epoch, i64 0, i64 1073741824], .bool y_308), (11, 36, [i64 p_307.Other, i64 ((-1)), i64 1073741824], .bool y_309), (17, 36, [i64 p_307.First, i64 0, i64 1099511627776], .bool y_310), (23, 36, [i64 p_307.Next, i64 0, i64 1099511627776], .bool y_311)]) ⟨r12_within_con  hy_315, r12_within_con  hy_317, r12_within_con  hy_319, r12_within_con  hy_321, trivial⟩, by simp only [go_sem, hb_316, hb_318, hb_320, hb_322], (weak_sel [0] (by decide) rfl (by simp only [go_sem]) (by simp only [go_sem]))⟩
          · replace hv_314 := ite_f hv_314 hb_322
            replace hv_314 := bind_some1 hv_314; obtain ⟨y_312, hy_323, hv_314⟩ := hv_314
            have e_hv_314 := Option.some.inj hv_314; subst e_hv_314
            exact ⟨_, [(1, .ref 0 0), (31, .bool ((!y_312)))], [.box [i64 p_307.Epoch, i64 p_307.Other, i64 p_307.First, .sl false (L (cSl cU8) p_307.Queue), i64 p_307.Next, .sl false (L cApi_Packet p_307.Early), i64 p_307.SentAt] false], orcs_ok (l := [(6, 36, [i64 p_307.Epoch, i64 0, i64 1073741824], .bool y_308), (11, 36, [i64 p_307.Other, i64 ((-1)), i64 1073741824], .bool y_309), (17, 36, [i64 p_307.First, i64 0, i64 1099511627776], .bool y_310), (23, 36, [i64 p_307.Next, i64 0, i64 1099511627776], .bool y_311), (29, 36, [i64 p_307.SentAt, i64 ((-1)), i64 1073741824], .bool y_312)]) ⟨r12_within_con  hy_315, r12_within_con  hy_317, r12_within_con  hy_319, r12_within_con  hy_321, r12_within_con  hy_323, trivial⟩, by simp only [go_sem, hb_316, hb_318, hb_320, hb_322], (weak_sel [0] (by decide) rfl (by simp only [go_sem]) (by simp only [go_sem]))⟩
  refine run_condL (b := t_313) rfl (by decide) (fun hb => ?_) (fun hb => ?_)
  · replace h := ite_t h hb
    refine run_textE hE [2] (fr' := [(2, .bool false)]) (σ' := [.box [i64 p_307.Epoch, i64 p_307.Other, i64 p_307.First, .sl false (L (cSl cU8) p_307.Queue), i64 p_307.Next, .sl false (L cApi_Packet p_307.Early), i64 p_307.SentAt] false]) ⟨_, orcs_nil, ?_⟩ ?_
    · simp only [go_sem]
    refine run_ret ?_
    refine thenK_r ?_
    obtain rfl := Option.some.inj h
    refine wkP_of (Weak.refl _ _) ?_
    refine ret_ok (.inr rfl) ?_
    simp only [go_sem]
  · replace h := ite_f h hb
    refine run_skip ?_
    refine thenK_n ?_
    refine run_seq ?_
    replace h := bind_some1 h; obtain ⟨t_324, hv_325, h⟩ := h
    refine run_textW hE [1, 44] (fr' := [(1, .ref 0 0), (44, .bool t_324)]) (σ' := [.box [i64 p_307.Epoch, i64 p_307.Other, i64 p_307.First, .sl false (L (cSl cU8) p_307.Queue), i64 p_307.Next, .sl false (L cApi_Packet p_307.Early), i64 p_307.SentAt] false]) ?_ ?_
    · rcases Bool.eq_false_or_eq_true ((decide ((p_307.Queue.length : Int) > 256))) with hb_326 | hb_326
      · replace hv_325 := ite_t hv_325 hb_326
        have e_hv_325 := Option.some.inj hv_325; subst e_hv_325
        exact ⟨_, [(1, .ref 0 0), (44, .bool true)], [.box [i64 p_307.Epoch, i64 p_307.Other, i64 p_307.First, .sl false (L (cSl cU8) p_307.Queue), i64 p_307.Next, .sl false (L cApi_Packet p_307.Early), i64 p_307.SentAt] false], orcs_nil, by simp only [go_sem, hb_326], (weak_sel [0] (by decide) rfl (by simp only [go_sem]) (by simp only [go_sem]))⟩
      · replace hv_325 := ite_f hv_325 hb_326
        have e_hv_325 := Option.some.inj hv_325; subst e_hv_325
        exact ⟨_, [(1, .ref 0 0), (44, .bool ((decide ((w64 (p_307.First + (p_307.Queue.length : Int))) > 1099511627776))))], [.box [i64 p_307.Epoch, i64 p_307.Other, i64 p_307.First, .sl false (L (cSl cU8) p_307.Queue), i64 p_307.Next, .sl false (L cApi_Packet p_307.Early), i64 p_307.SentAt] false], orcs_nil, by simp only [go_sem, hb_326], (weak_sel [0] (by decide) rfl (by simp only [go_sem]) (by simp only [go_sem]))⟩
    refine run_condL (b := t_324) rfl (by decide) (fun hb => ?_) (fun hb => ?_)
    · replace h := ite_t h hb
      refine run_textE hE [2] (fr' := [(2, .bool false)]) (σ' := [.box [i64 p_307.Epoch, i64 p_307.Other, i64 p_307.First, .sl false (L (cSl cU8) p_307.Queue), i64 p_307.Next, .sl false (L cApi_Packet p_307.Early), i64 p_307.SentAt] false]) ⟨_, orcs_nil, ?_⟩ ?_
      · simp only [go_sem]
      refine run_ret ?_
      refine thenK_r ?_
      obtain rfl := Option.some.inj h
      refine wkP_of (Weak.refl _ _) ?_
      refine ret_ok (.inr rfl) ?_
      simp only [go_sem]
    · replace h := ite_f h hb
      refine run_skip ?_
      refine thenK_n ?_
      replace h := bind_some1 h; obtain ⟨j_346, hA_347, hj_348⟩ := h
      refine run_join (fun (v : Unit) => (⟨asFr 61 [(1, .ref 0 0)], [.box [i64 p_307.Epoch, i64 p_307.Other, i64 p_307.First, .sl false (L (cSl cU8) p_307.Queue), i64 p_307.Next, .sl false (L cApi_Packet p_307.Early), i64 p_307.SentAt] false]⟩ : St)) (fun v => .inl v = j_346) ?_ ?_
      · have h := hA_347; clear hA_347
        refine run_textE hE [1, 3] (fr' := [(1, .ref 0 0), (3, i64 0)]) (σ' := [.box [i64 p_307.Epoch, i64 p_307.Other, i64 p_307.First, .sl false (L (cSl cU8) p_307.Queue), i64 p_307.Next, .sl false (L cApi_Packet p_307.Early), i64 p_307.SentAt] false]) ⟨_, orcs_nil, ?_⟩ ?_
        · simp only [go_sem]
        refine run_block ?_
        replace h := bind_some1 h; obtain ⟨x_358, hx_359, hj_360⟩ := h
        refine run_loopO hx_359 (fun (v : Int) => (⟨asFr 61 [(1, .ref 0 0), (3, i64 v)], [.box [i64 p_307.Epoch, i64 p_307.Other, i64 p_307.First, .sl false (L (cSl cU8) p_307.Queue), i64 p_307.Next, .sl false (L cApi_Packet p_307.Early), i64 p_307.SentAt] false]⟩ : St)) (weak_sel [0] (by decide) rfl (by simp only [go_sem]) (by simp only [go_sem])) ?_
        rintro i_352 o_361 h hxx_362
        replace h : r12_Valid_b1 p_307 i_352 = some o_361 := h
        unfold r12_Valid_b1 at h
        refine run_seq ?_
        refine run_textE hE [1, 3, 49] (fr' := [(1, .ref 0 0), (3, i64 i_352), (49, .bool ((decide (i_352 < (p_307.Queue.length : Int)))))]) (σ' := [.box [i64 p_307.Epoch, i64 p_307.Other, i64 p_307.First, .sl false (L (cSl cU8) p_307.Queue), i64 p_307.Next, .sl false (L cApi_Packet p_307.Early), i64 p_307.SentAt] false]) ⟨_, orcs_nil, ?_⟩ ?_
        · simp only [go_sem]
        refine run_condL (b := (decide (i_352 < (p_307.Queue.length : Int)))) rfl (by decide) (fun hb => ?_) (fun hb => ?_)
        · replace h := ite_t h hb
          refine run_skip ?_
          refine thenK_n ?_
          refine run_seq ?_
          refine run_block ?_
          replace h := chk_some h; obtain ⟨hc_363, h⟩ := h
          replace h := lt1_some h; obtain ⟨t_364, hz_365, h⟩ := h
          refine run_textE hE [1, 3, 58] (fr' := [(1, .ref 0 0), (3, i64 i_352), (58, .bool t_364)]) (σ' := [.box [i64 p_307.Epoch, i64 p_307.Other, i64 p_307.First, .sl false (L (cSl cU8) p_307.Queue), i64 p_307.Next, .sl false (L cApi_Packet p_307.Early), i64 p_307.SentAt] false]) ⟨_, orcs_nil, ?_⟩ ?_
          · subst hz_365; simp only [go_sem, Int.reduceToNat, hc_363, hc_363.2, lt_le hc_363.2]
          refine run_condL (b := t_364) rfl (by decide) (fun hb => ?_) (fun hb => ?_)
          · replace h := ite_t h hb
            refine run_textE hE [2] (fr' := [(2, .bool false)]) (σ' := [.box [i64 p_307.Epoch, i64 p_307.Other, i64 p_307.First, .sl false (L (cSl cU8) p_307.Queue), i64 p_307.Next, .sl false (L cApi_Packet p_307.Early), i64 p_307.SentAt] false]) ⟨_, orcs_nil, ?_⟩ ?_
            · simp only [go_sem]
            refine run_ret ?_
            refine blockK_r ?_
            refine thenK_r ?_
            refine lpK_r ?_
            replace h := bind_some1 h; obtain ⟨z_367, h, e_z_367⟩ := h
            obtain rfl := Option.some.inj e_z_367
            have ex_z_367 := hxx_362 _ rfl
            subst ex_z_367
            obtain rfl := Option.some.inj hj_360
            refine blockK_r ?_
            refine joinK_r ?_
            replace h := bind_some1 h; obtain ⟨z_366, h, e_z_366⟩ := h
            obtain rfl := Option.some.inj e_z_366
            obtain rfl := Option.some.inj hj_348
            obtain rfl := Option.some.inj h
            refine wkP_of (Weak.refl _ _) ?_
            refine ret_ok (.inr rfl) ?_
            simp only [go_sem]
          · replace h := ite_f h hb
            refine run_skip ?_
            refine blockK_n ?_
            refine thenK_n ?_
            refine run_textE0 hE wk_lp [1, 3] (fr' := [(1, .ref 0 0), (3, i64 ((w64 (i_352 + 1))))]) (σ' := [.box [i64 p_307.Epoch, i64 p_307.Other, i64 p_307.First, .sl false (L (cSl cU8) p_307.Queue), i64 p_307.Next, .sl false (L cApi_Packet p_307.Early), i64 p_307.SentAt] false]) ⟨_, orcs_nil, ?_⟩ ?_
            · simp only [go_sem]
            obtain rfl := Option.some.inj h
            exact lpK_n ((w64 (i_352 + 1))) rfl (weak_sel [0] (by decide) rfl (by simp only [go_sem]) (by simp only [go_sem]))
        · replace h := ite_f h hb
          refine run_exit ?_
          refine thenK_x ?_
          obtain rfl := Option.some.inj h
          have ex_x_358 := hxx_362 _ rfl
          subst ex_x_358
          have h := hj_360; clear hj_360
          refine lpK_x ?_
          refine blockK_x ?_
          obtain rfl := Option.some.inj h
          exact joinK_n (()) rfl ((weak_sel (l' := [(1, .ref 0 0)]) (σ' := [.box [i64 p_307.Epoch, i64 p_307.Other, i64 p_307.First, .sl false (L (cSl cU8) p_307.Queue), i64 p_307.Next, .sl false (L cApi_Packet p_307.Early), i64 p_307.SentAt] false]) [0] (by decide) rfl (by simp only [go_sem]) (by simp only [go_sem])).trans (weak_sel [0] (by decide) rfl (by simp only [go_sem]) (by simp only [go_sem])))
      rintro ⟨⟩ rfl
      have h := hj_348; clear hj_348
      replace h := bind_some1 h; obtain ⟨y_368, hy_369, h⟩ := h
      refine run_textE hE [2] (fr' := [(2, .bool y_368)]) (σ' := [.box [i64 p_307.Epoch, i64 p_307.Other, i64 p_307.First, .sl false (L (cSl cU8) p_307.Queue), i64 p_307.Next, .sl false (L cApi_Packet p_307.Early), i64 p_307.SentAt] false]) ⟨_, orcs_ok (l := [(60, 55, [.agg [i64 p_307.Epoch, i64 p_307.Other, i64 p_307.First, .sl false (L (cSl cU8) p_307.Queue), i64 p_307.Next, .sl false (L cApi_Packet p_307.Early), i64 p_307.SentAt]], .bool y_368)]) ⟨r12_early_con  hy_369, trivial⟩, ?_⟩ ?_
      · simp only [go_sem]
      refine run_ret ?_
      obtain rfl := Option.some.inj h
      refine wkP_of (Weak.refl _ _) ?_
      refine ret_ok (.inr rfl) ?_
      simp only [go_sem]

theorem r12_ValidPacket_con {k_370 : Api_Packet} {r : Bool} (h : r12_ValidPacket k_370 = some r) : Con B 44 [.agg [i64 k_370.Epoch, i64 k_370.To, i64 k_370.Seq, i64 k_370.Ack, .sl false (L cU8 k_370.Data)]] [] (fun r' σ' => r' = .bool r ∧ σ' = []) := by
  refine con_walk (N := 22) (rs := [.tmp 2]) ok Try.func44 rfl (by decide +kernel) rfl rfl (Nat.le_of_ble_eq_true rfl) (fun F => ?_)
  have hE := ok.env F
  unfold r12_ValidPacket at h
  show Run (B.env F) 0 _ ⟨asFr 22 [(0, .agg [i64 k_370.Epoch, i64 k_370.To, i64 k_370.Seq, i64 k_370.Ack, .sl false (L cU8 k_370.Data)])], []⟩ _
  refine run_wkP ?_
  refine run_textE hE [1] (fr' := [(1, .ref 0 0)]) (σ' := [.box [i64 k_370.Epoch, i64 k_370.To, i64 k_370.Seq, i64 k_370.Ack, .sl false (L cU8 k_370.Data)] false]) ⟨_, orcs_nil, ?_⟩ ?_
  · simp only [go_sem]
  replace h := bind_some1 h; obtain ⟨t_374, hv_375, h⟩ := h
  refine run_textW hE [2] (fr' := [(2, .bool t_374)]) (σ' := []) ?_ ?_
  · replace hv_375 := bind_some1 hv_375; obtain ⟨y_371, hy_376, hv_375⟩ := hv_375
    rcases Bool.eq_false_or_eq_true y_371 with hb_377 | hb_377
    · replace hv_375 := ite_t hv_375 hb_377
      replace hv_375 := bind_some1 hv_375; obtain ⟨y_372, hy_378, hv_375⟩ := hv_375
      rcases Bool.eq_false_or_eq_true y_372 with hb_379 | hb_379
      · replace hv_375 := ite_t hv_375 hb_379
        replace hv_375 := bind_some1 hv_375; obtain ⟨y_373, hy_380, hv_375⟩ := hv_375
        rcases Bool.eq_false_or_eq_true y_373 with hb_381 | hb_381
        · replace hv_375 := ite_t hv_375 hb_381
          have e_hv_375 := Option.some.inj hv_375; subst e_hv_375
          exact ⟨_, [(2, .bool ((decide ((k_370.Data.length : Int) ≤ 8000))))], [.box [i64 k_370.Epoch, i64 k_370.To, i64 k_370.Seq, i64 k_370.Ack, .sl false (L cU8 k_370.Data)] false], orcs_ok (l := [(5, 36, [i64 k_370.Epoch, i64 0, i64 1073741824], .bool y_371), (9, 36, [i64 k_370.Seq, i64 ((-1)), i64 1099511627775], .bool y_372), (14, 36, [i64 k_370.Ack, i64 0, i64 1099511627776], .bool y_373)]) ⟨r12_within_con  hy_376, r12_within_con  hy_378, r12_within_con  hy_380, trivial⟩, by simp only [go_sem, hb_377, hb_379, hb_381], (weak_sel [] (by decide) rfl (by simp only [go_sem]) (by simp only [go_sem]))⟩
        · replace hv_375 := ite_f hv_375 hb_381
          have e_hv_375 := Option.some.inj hv_375; subst e_hv_375
          exact ⟨_, [(2, .bool false)], [.box [i64 k_370.Epoch, i64 k_370.To, i64 k_370.Seq, i64 k_370.Ack, .sl false (L cU8 k_370.Data)] false], orcs_ok (l := [(5, 36, [i64 k_370.Epoch, i64 0, i64 1073741824], .bool y_371), (9, 36, [i64 k_370.Seq, i64 ((-1)), i64 1099511627775], .bool y_372), (14, 36, [i64 k_370.Ack, i64 0, i64 1099511627776], .bool y_373)]) ⟨r12_within_con  hy_376, r12_within_con  hy_378, r12_within_con  hy_380, trivial⟩, by simp only [go_sem, hb_377, hb_379, hb_381], (weak_sel [] (by decide) rfl (by simp only [go_sem]) (by simp only [go_sem]))⟩
      · replace hv_375 := ite_f hv_375 hb_379
        have e_hv_375 := Option.some.inj hv_375; subst e_hv_375
        exact ⟨_, [(2, .bool false)], [.box [i64 k_370.Epoch, i64 k_370.To, i64 k_370.Seq, i64 k_370.Ack, .sl false (L cU8 k_370.Data)] false], orcs_ok (l := [(5, 36, [i64 k_370.Epoch, i64 0, i64 1073741824], .bool y_371), (9, 36, [i64 k_370.Seq, i64 ((-1)), i64 1099511627775], .bool y_372)]) ⟨r12_within_con  hy_376, r12_within_con  hy_378, trivial⟩, by simp only [go_sem, hb_377, hb_379], (weak_sel [] (by decide) rfl (by simp only [go_sem]) (by simp only [go_sem]))⟩
    · replace hv_375 := ite_f hv_375 hb_377
      have e_hv_375 := Option.some.inj hv_375; subst e_hv_375
      exact ⟨_, [(2, .bool false)], [.box [i64 k_370.Epoch, i64 k_370.To, i64 k_370.Seq, i64 k_370.Ack, .sl false (L cU8 k_370.Data)] false], orcs_ok (l := [(5, 36, [i64 k_370.Epoch, i64 0, i64 1073741824], .bool y_371)]) ⟨r12_within_con  hy_376, trivial⟩, by simp only [go_sem, hb_377], (weak_sel [] (by decide) rfl (by simp only [go_sem]) (by simp only [go_sem]))⟩
  refine run_ret ?_
  obtain rfl := Option.some.inj h
  refine wkP_of (Weak.refl _ _) ?_
  refine ret_ok (.inr rfl) ?_
  simp only [go_sem]

end Go.Proofs.Ytomjphpnpcgacaa
/-
  The functions compute just that.
-/
namespace Go.Proofs.Ytomjphpnpcgacaa
open Go.Rv
set_option linter.unusedVariables false
set_option linter.unusedSimpArgs false
set_option maxRecDepth 20000
set_option maxHeartbeats 4000000

theorem window_New_con {epoch_382 : Int} {r : Api_Peer × Int} (h : window_New epoch_382 = some r) : Con B 12 [i64 epoch_382] [] (fun r' σ' => r' = .tup [.agg [i64 r.1.Epoch, i64 r.1.Other, i64 r.1.First, .sl false (L (cSl cU8) r.1.Queue), i64 r.1.Next, .sl false (L cApi_Packet r.1.Early), i64 r.1.SentAt], i64 r.2] ∧ σ' = []) := by
  refine con_walk (N := 10) (rs := [.cell 2 25, .tmp 3]) ok Try.func12 rfl (by decide +kernel) rfl rfl (Nat.le_of_ble_eq_true rfl) (fun F => ?_)
  have hE := ok.env F
  unfold window_New at h
  show Run (B.env F) 0 _ ⟨asFr 10 [(0, i64 epoch_382)], []⟩ _
  refine run_wkP ?_
  refine run_textE hE [0, 2] (fr' := [(0, i64 epoch_382), (2, .ref 0 0)]) (σ' := [.box [i64 0, i64 0, i64 0, .sl true (L (cSl cU8) ([])), i64 0, .sl true (L cApi_Packet ([])), i64 0] false]) ⟨_, orcs_nil, ?_⟩ ?_
  · simp only [go_sem]
  refine run_seq ?_
  replace h := bind_some1 h; obtain ⟨y_383, hy_384, h⟩ := h
  refine run_textE hE [0, 2, 6] (fr' := [(0, i64 epoch_382), (2, .ref 0 0), (6, .bool ((!y_383)))]) (σ' := [.box [i64 0, i64 0, i64 0, .sl true (L (cSl cU8) ([])), i64 0, .sl true (L cApi_Packet ([])), i64 0] false]) ⟨_, orcs_ok (l := [(5, 35, [i64 epoch_382, i64 0, i64 1073741824], .bool y_383)]) ⟨window_between_con  hy_384, trivial⟩, ?_⟩ ?_
  · simp only [go_sem]
  refine run_condL (b := (!y_383)) rfl (by decide) (fun hb => ?_) (fun hb => ?_)
  · replace h := ite_t h hb
    refine run_textE hE [2, 3] (fr' := [(2, .ref 0 0), (3, i64 1)]) (σ' := [.box [i64 0, i64 0, i64 0, .sl true (L (cSl cU8) ([])), i64 0, .sl true (L cApi_Packet ([])), i64 0] false]) ⟨_, orcs_nil, ?_⟩ ?_
    · simp only [go_sem, Nat.reduceGT, Nat.reduceLeDiff]
    refine run_ret ?_
    refine thenK_r ?_
    obtain rfl := Option.some.inj h
    refine wkP_of (Weak.refl _ _) ?_
    refine ret_ok (.inr rfl) ?_
    simp only [go_sem]
  · replace h := ite_f h hb
    refine run_skip ?_
    refine thenK_n ?_
    refine run_textE hE [2, 3] (fr' := [(2, .ref 0 0), (3, i64 0)]) (σ' := [.box [i64 epoch_382, i64 ((-1)), i64 0, .sl true (L (cSl cU8) ([])), i64 0, .sl true (L cApi_Packet ([])), i64 ((-1))] false]) ⟨_, orcs_nil, ?_⟩ ?_
    · simp only [go_sem, Nat.reduceGT, Nat.reduceLeDiff]
    refine run_ret ?_
    obtain rfl := Option.some.inj h
    refine wkP_of (Weak.refl _ _) ?_
    refine ret_ok (.inr rfl) ?_
    simp only [go_sem]

theorem r12_New_con {epoch_385 : Int} {r : Api_Peer × Int} (h : r12_New epoch_385 = some r) : Con B 13 [i64 epoch_385] [] (fun r' σ' => r' = .tup [.agg [i64 r.1.Epoch, i64 r.1.Other, i64 r.1.First, .sl false (L (cSl cU8) r.1.Queue), i64 r.1.Next, .sl false (L cApi_Packet r.1.Early), i64 r.1.SentAt], i64 r.2] ∧ σ' = []) := by
  refine con_walk (N := 10) (rs := [.cell 2 25, .tmp 3]) ok Try.func13 rfl (by decide +kernel) rfl rfl (Nat.le_of_ble_eq_true rfl) (fun F => ?_)
  have hE := ok.env F
  unfold r12_New at h
  show Run (B.env F) 0 _ ⟨asFr 10 [(0, i64 epoch_385)], []⟩ _
  refine run_wkP ?_
  refine run_textE hE [0, 2] (fr' := [(0, i64 epoch_385), (2, .ref 0 0)]) (σ' := [.box [i64 0, i64 0, i64 0, .sl true (L (cSl cU8) ([])), i64 0, .sl true (L cApi_Packet ([])), i64 0] false]) ⟨_, orcs_nil, ?_⟩ ?_
  · simp only [go_sem]
  refine run_seq ?_
  replace h := bind_some1 h; obtain ⟨y_386, hy_387, h⟩ := h
  refine run_textE hE [0, 2, 6] (fr' := [(0, i64 epoch_385), (2, .ref 0 0), (6, .bool ((!y_386)))]) (σ' := [.box [i64 0, i64 0, i64 0, .sl true (L (cSl cU8) ([])), i64 0, .sl true (L cApi_Packet ([])), i64 0] false]) ⟨_, orcs_ok (l := [(5, 36, [i64 epoch_385, i64 0, i64 1073741824], .bool y_386)]) ⟨r12_within_con  hy_387, trivial⟩, ?_⟩ ?_
  · simp only [go_sem]
  refine run_condL (b := (!y_386)) rfl (by decide) (fun hb => ?_) (fun hb => ?_)
  · replace h := ite_t h hb
    refine run_textE hE [2, 3] (fr' := [(2, .ref 0 0), (3, i64 1)]) (σ' := [.box [i64 0, i64 0, i64 0, .sl true (L (cSl cU8) ([])), i64 0, .sl true (L cApi_Packet ([])), i64 0] false]) ⟨_, orcs_nil, ?_⟩ ?_
    · simp only [go_sem, Nat.reduceGT, Nat.reduceLeDiff]
    refine run_ret ?_
    refine thenK_r ?_
    obtain rfl := Option.some.inj h
    refine wkP_of (Weak.refl _ _) ?_
    refine ret_ok (.inr rfl) ?_
    simp only [go_sem]
  · replace h := ite_f h hb
    refine run_skip ?_
    refine thenK_n ?_
    refine run_textE hE [2, 3] (fr' := [(2, .ref 0 0), (3, i64 0)]) (σ' := [.box [i64 epoch_385, i64 ((-1)), i64 0, .sl true (L (cSl cU8) ([])), i64 0, .sl true (L cApi_Packet ([])), i64 ((-1))] false]) ⟨_, orcs_nil, ?_⟩ ?_
    · simp only [go_sem, Nat.reduceGT, Nat.reduceLeDiff]
    refine run_ret ?_
    obtain rfl := Option.some.inj h
    refine wkP_of (Weak.refl _ _) ?_
    refine ret_ok (.inr rfl) ?_
    simp only [go_sem]

theorem window_own_con {b_388 : List UInt8} {r : List UInt8} (h : window_own b_388 = some r) : Con B 39 [.sl false (L cU8 b_388)] [] (fun r' σ' => r' = .sl false (L cU8 r) ∧ σ' = []) := by
  refine con_walk (N := 11) (rs := [.tmp 2]) ok Try.func39 rfl (by decide +kernel) rfl rfl (Nat.le_of_ble_eq_true rfl) (fun F => ?_)
  have hE := ok.env F
  unfold window_own at h
  show Run (B.env F) 0 _ ⟨asFr 11 [(0, .sl false (L cU8 b_388))], []⟩ _
  refine run_wkP ?_
  refine run_textE hE [0] (fr' := [(0, .sl false (L cU8 b_388))]) (σ' := []) ⟨_, orcs_nil, ?_⟩ ?_
  · simp only [go_sem]
  replace h := chk_some h; obtain ⟨hc_389, h⟩ := h
  replace h := lt1_some h; obtain ⟨l_390, hz_391, h⟩ := h
  refine run_textE hE [0, 3] (fr' := [(0, .sl false (L cU8 b_388)), (3, .bs true 0 (l_390.length) 0 (l_390.length))]) (σ' := [.buf 1 (L cU8 l_390) false]) ⟨_, orcs_nil, ?_⟩ ?_
  · subst hz_391; simp only [go_sem, Nat.reduceBEq, Nat.reduceMul, Nat.reduceSub, Nat.reduceGT, Nat.reducePow, Nat.reduceLeDiff, Int.reduceToNat, hc_389]
  replace h := lt1_some h; obtain ⟨l_392, hz_393, h⟩ := h
  refine run_textE hE [3] (fr' := [(3, .bs true 0 (l_392.length) 0 (l_392.length))]) (σ' := [.buf 1 (L cU8 l_392) false]) ⟨_, orcs_nil, ?_⟩ ?_
  · subst hz_393; simp only [go_sem]
  refine run_textE hE [2] (fr' := [(2, .bs true 0 (l_392.length) 0 (l_392.length))]) (σ' := [.buf 1 (L cU8 l_392) false]) ⟨_, orcs_nil, ?_⟩ ?_
  · simp only [go_sem]
  refine run_ret ?_
  obtain rfl := Option.some.inj h
  refine wkP_of (Weak.refl _ _) ?_
  refine ret_ok (.inr rfl) ?_
  simp only [go_sem]

theorem slices_Clone_38_con {s_394 : List (List UInt8)} {r : List (List UInt8)} (h : slices_Clone_38 s_394 = some r) : Con B 38 [.sl false (L (cSl cU8) s_394)] [] (fun r' σ' => r' = .bs false 0 (r.length) 0 (r.length) ∧ σ' = [.buf 1 (L (cSl cU8) r) false]) := by
  refine con_walk_own (N := 8) (rs := [.tmp 2]) 0 rfl ok Try.func38 rfl (by decide +kernel) rfl rfl (Nat.le_of_ble_eq_true rfl) (fun F => ?_)
  have hE := ok.env F
  unfold slices_Clone_38 at h
  show Run (B.env F) 0 _ ⟨asFr 8 [(0, .sl false (L (cSl cU8) s_394))], []⟩ _
  refine run_wkP ?_
  refine run_textE hE [0] (fr' := [(0, .sl false (L (cSl cU8) s_394))]) (σ' := []) ⟨_, orcs_nil, ?_⟩ ?_
  · simp only [go_sem]
  refine run_seq ?_
  refine run_nilcmp hE 0 3 4 22 26 rfl rfl rfl rfl rfl rfl rfl (by decide) Try.underlying22 (fun b_ hb_ => ?_)
  cases b_
  · refine run_condL (b := false) rfl (by decide) (fun hb => ?_) (fun hb => ?_)
    · cases hb
    · refine run_skip ?_
      refine thenK_n ?_
      replace h := chk_some h; obtain ⟨hc_399, h⟩ := h
      have hcn_400 := hc_399; simp only [List.cons_append, List.nil_append, List.length_append, List.length_cons, List.length_nil, Nat.zero_add, Nat.reduceAdd] at hcn_400
      replace h := lt1_some h; obtain ⟨l_401, hz_402, h⟩ := h
      refine run_textE hE [2] (fr' := [(2, .bs false 0 (l_401.length) 0 (l_401.length))]) (σ' := [.buf 1 (L (cSl cU8) l_401) false]) ⟨_, orcs_nil, ?_⟩ ?_
      · subst hz_402; simp only [go_sem, Nat.reduceBEq, Nat.reduceMul, Nat.reduceSub, Nat.reduceGT, Nat.reducePow, Nat.reduceLeDiff, Int.reduceToNat, hc_399, hcn_400]
      refine run_ret ?_
      obtain rfl := Option.some.inj h
      refine wkP_of (Weak.refl _ _) ?_
      refine ret_own (.inr rfl) [0] (by decide) rfl ?_ ?_
      · simp only [go_sem]
      · simp only [go_sem]
  · obtain rfl : s_394 = [] := List.map_eq_nil_iff.1 (hb_ rfl)
    replace h : some ([]) = some r := by first | exact h | (split at h <;> first | exact h | cases h)
    refine run_condL (b := true) rfl (by decide) (fun hb => ?_) (fun hb => ?_)
    · refine run_textE hE [2] (fr' := [(2, .sl true (L (cSl cU8) ([])))]) (σ' := []) ⟨_, orcs_nil, ?_⟩ ?_
      · simp only [go_sem]
      refine run_weak (weak_nil 2 1 rfl) ?_
      refine run_ret ?_
      refine thenK_r ?_
      obtain rfl := Option.some.inj h
      refine wkP_of (Weak.refl _ _) ?_
      refine ret_own (.inr rfl) [0] (by decide) rfl ?_ ?_
      · simp only [go_sem]
      · simp only [go_sem]
    · cases hb

theorem slices_Clone_59_con {s_403 : List Api_Packet} {r : List Api_Packet} (h : slices_Clone_59 s_403 = some r) : Con B 59 [.sl false (L cApi_Packet s_403)] [] (fun r' σ' => r' = .bs false 0 (r.length) 0 (r.length) ∧ σ' = [.buf 5 (L cApi_Packet r) false]) := by
  refine con_walk_own (N := 8) (rs := [.tmp 2]) 0 rfl ok Try.func59 rfl (by decide +kernel) rfl rfl (Nat.le_of_ble_eq_true rfl) (fun F => ?_)
  have hE := ok.env F
  unfold slices_Clone_59 at h
  show Run (B.env F) 0 _ ⟨asFr 8 [(0, .sl false (L cApi_Packet s_403))], []⟩ _
  refine run_wkP ?_
  refine run_textE hE [0] (fr' := [(0, .sl false (L cApi_Packet s_403))]) (σ' := []) ⟨_, orcs_nil, ?_⟩ ?_
  · simp only [go_sem]
  refine run_seq ?_
  refine run_nilcmp hE 0 3 4 23 39 rfl rfl rfl rfl rfl rfl rfl (by decide) Try.underlying23 (fun b_ hb_ => ?_)
  cases b_
  · refine run_condL (b := false) rfl (by decide) (fun hb => ?_) (fun hb => ?_)
    · cases hb
    · refine run_skip ?_
      refine thenK_n ?_
      replace h := chk_some h; obtain ⟨hc_408, h⟩ := h
      have hcn_409 := hc_408; simp only [List.cons_append, List.nil_append, List.length_append, List.length_cons, List.length_nil, Nat.zero_add, Nat.reduceAdd] at hcn_409
      replace h := lt1_some h; obtain ⟨l_410, hz_411, h⟩ := h
      refine run_textE hE [2] (fr' := [(2, .bs false 0 (l_410.length) 0 (l_410.length))]) (σ' := [.buf 5 (L cApi_Packet l_410) false]) ⟨_, orcs_nil, ?_⟩ ?_
      · subst hz_411; simp only [go_sem, Nat.reduceBEq, Nat.reduceMul, Nat.reduceSub, Nat.reduceGT, Nat.reducePow, Nat.reduceLeDiff, Int.reduceToNat, hc_408, hcn_409]
      refine run_ret ?_
      obtain rfl := Option.some.inj h
      refine wkP_of (Weak.refl _ _) ?_
      refine ret_own (.inr rfl) [0] (by decide) rfl ?_ ?_
      · simp only [go_sem]
      · simp only [go_sem]
  · obtain rfl : s_403 = [] := List.map_eq_nil_iff.1 (hb_ rfl)
    replace h : some ([]) = some r := by first | exact h | (split at h <;> first | exact h | cases h)
    refine run_condL (b := true) rfl (by decide) (fun hb => ?_) (fun hb => ?_)
    · refine run_textE hE [2] (fr' := [(2, .sl true (L cApi_Packet ([])))]) (σ' := []) ⟨_, orcs_nil, ?_⟩ ?_
      · simp only [go_sem]
      refine run_weak (weak_nil 2 5 rfl) ?_
      refine run_ret ?_
      refine thenK_r ?_
      obtain rfl := Option.some.inj h
      refine wkP_of (Weak.refl _ _) ?_
      refine ret_own (.inr rfl) [0] (by decide) rfl ?_ ?_
      · simp only [go_sem]
      · simp only [go_sem]
    · cases hb

end Go.Proofs.Ytomjphpnpcgacaa
/-
  The functions compute just that.
-/
namespace Go.Proofs.Ytomjphpnpcgacaa
open Go.Rv
set_option linter.unusedVariables false
set_option linter.unusedSimpArgs false
set_option maxRecDepth 20000
set_option maxHeartbeats 4000000

theorem window_Offer_con {p_412 : Api_Peer} {data_413 : List UInt8} {r : Api_Peer × Int} (h : window_Offer p_412 data_413 = some r) : Con B 14 [.agg [i64 p_412.Epoch, i64 p_412.Other, i64 p_412.First, .sl false (L (cSl cU8) p_412.Queue), i64 p_412.Next, .sl false (L cApi_Packet p_412.Early), i64 p_412.SentAt], .sl false (L cU8 data_413)] [] (fun r' σ' => r' = .tup [.agg [i64 r.1.Epoch, i64 r.1.Other, i64 r.1.First, .sl false (L (cSl cU8) r.1.Queue), i64 r.1.Next, .sl false (L cApi_Packet r.1.Early), i64 r.1.SentAt], i64 r.2] ∧ σ' = []) := by
  refine con_walk (N := 40) (rs := [.cell 4 25, .tmp 5]) ok Try.func14 rfl (by decide +kernel) rfl rfl (Nat.le_of_ble_eq_true rfl) (fun F => ?_)
  have hE := ok.env F
  unfold window_Offer at h
  show Run (B.env F) 0 _ ⟨asFr 40 [(0, .agg [i64 p_412.Epoch, i64 p_412.Other, i64 p_412.First, .sl false (L (cSl cU8) p_412.Queue), i64 p_412.Next, .sl false (L cApi_Packet p_412.Early), i64 p_412.SentAt]), (1, .sl false (L cU8 data_413))], []⟩ _
  refine run_wkP ?_
  refine run_textE hE [1, 2, 4] (fr' := [(1, .sl false (L cU8 data_413)), (2, .ref 0 0), (4, .ref 1 0)]) (σ' := [.box [i64 p_412.Epoch, i64 p_412.Other, i64 p_412.First, .sl false (L (cSl cU8) p_412.Queue), i64 p_412.Next, .sl false (L cApi_Packet p_412.Early), i64 p_412.SentAt] false, .box [i64 0, i64 0, i64 0, .sl true (L (cSl cU8) ([])), i64 0, .sl true (L cApi_Packet ([])), i64 0] false]) ⟨_, orcs_nil, ?_⟩ ?_
  · simp only [go_sem]
  refine run_seq ?_
  refine run_block ?_
  replace h := bind_some1 h; obtain ⟨y_414, hy_415, h⟩ := h
  refine run_textE hE [1, 2, 4, 6] (fr' := [(1, .sl false (L cU8 data_413)), (2, .ref 0 0), (4, .ref 1 0), (6, .bool ((!y_414)))]) (σ' := [.box [i64 p_412.Epoch, i64 p_412.Other, i64 p_412.First, .sl false (L (cSl cU8) p_412.Queue), i64 p_412.Next, .sl false (L cApi_Packet p_412.Early), i64 p_412.SentAt] false, .box [i64 0, i64 0, i64 0, .sl true (L (cSl cU8) ([])), i64 0, .sl true (L cApi_Packet ([])), i64 0] false]) ⟨_, orcs_ok (l := [(8, 37, [.agg [i64 p_412.Epoch, i64 p_412.Other, i64 p_412.First, .sl false (L (cSl cU8) p_412.Queue), i64 p_412.Next, .sl false (L cApi_Packet p_412.Early), i64 p_412.SentAt]], .bool y_414)]) ⟨window_valid_con  hy_415, trivial⟩, ?_⟩ ?_
  · simp only [go_sem]
  refine run_condL (b := (!y_414)) rfl (by decide) (fun hb => ?_) (fun hb => ?_)
  · replace h := ite_t h hb
    refine run_textE hE [4, 5] (fr' := [(4, .ref 1 0), (5, i64 1)]) (σ' := [.box [i64 p_412.Epoch, i64 p_412.Other, i64 p_412.First, .sl false (L (cSl cU8) p_412.Queue), i64 p_412.Next, .sl false (L cApi_Packet p_412.Early), i64 p_412.SentAt] false, .box [i64 0, i64 0, i64 0, .sl true (L (cSl cU8) ([])), i64 0, .sl true (L cApi_Packet ([])), i64 0] false]) ⟨_, orcs_nil, ?_⟩ ?_
    · simp only [go_sem, Nat.reduceGT, Nat.reduceLeDiff]
    refine run_ret ?_
    refine blockK_r ?_
    refine thenK_r ?_
    obtain rfl := Option.some.inj h
    refine wkP_of (Weak.refl _ _) ?_
    refine ret_ok (.inr rfl) ?_
    simp only [go_sem]
  · replace h := ite_f h hb
    refine run_textE hE [1, 2, 4, 11] (fr' := [(1, .sl false (L cU8 data_413)), (2, .ref 0 0), (4, .ref 1 0), (11, .bool ((decide ((data_413.length : Int) > 8000))))]) (σ' := [.box [i64 p_412.Epoch, i64 p_412.Other, i64 p_412.First, .sl false (L (cSl cU8) p_412.Queue), i64 p_412.Next, .sl false (L cApi_Packet p_412.Early), i64 p_412.SentAt] false, .box [i64 0, i64 0, i64 0, .sl true (L (cSl cU8) ([])), i64 0, .sl true (L cApi_Packet ([])), i64 0] false]) ⟨_, orcs_nil, ?_⟩ ?_
    · simp only [go_sem]
    refine run_condL (b := (decide ((data_413.length : Int) > 8000))) rfl (by decide) (fun hb => ?_) (fun hb => ?_)
    · replace h := ite_t h hb
      refine run_textE hE [4, 5] (fr' := [(4, .ref 1 0), (5, i64 2)]) (σ' := [.box [i64 p_412.Epoch, i64 p_412.Other, i64 p_412.First, .sl false (L (cSl cU8) p_412.Queue), i64 p_412.Next, .sl false (L cApi_Packet p_412.Early), i64 p_412.SentAt] false, .box [i64 0, i64 0, i64 0, .sl true (L (cSl cU8) ([])), i64 0, .sl true (L cApi_Packet ([])), i64 0] false]) ⟨_, orcs_nil, ?_⟩ ?_
      · simp only [go_sem, Nat.reduceGT, Nat.reduceLeDiff]
      refine run_ret ?_
      refine blockK_r ?_
      refine thenK_r ?_
      obtain rfl := Option.some.inj h
      refine wkP_of (Weak.refl _ _) ?_
      refine ret_ok (.inr rfl) ?_
      simp only [go_sem]
    · replace h := ite_f h hb
      replace h := bind_some1 h; obtain ⟨t_416, hv_417, h⟩ := h
      refine run_textW hE [1, 2, 4, 16] (fr' := [(1, .sl false (L cU8 data_413)), (2, .ref 0 0), (4, .ref 1 0), (16, .bool t_416)]) (σ' := [.box [i64 p_412.Epoch, i64 p_412.Other, i64 p_412.First, .sl false (L (cSl cU8) p_412.Queue), i64 p_412.Next, .sl false (L cApi_Packet p_412.Early), i64 p_412.SentAt] false, .box [i64 0, i64 0, i64 0, .sl true (L (cSl cU8) ([])), i64 0, .sl true (L cApi_Packet ([])), i64 0] false]) ?_ ?_
      · rcases Bool.eq_false_or_eq_true (((p_412.Queue.length : Int) == 256)) with hb_418 | hb_418
        · replace hv_417 := ite_t hv_417 hb_418
          have e_hv_417 := Option.some.inj hv_417; subst e_hv_417
          exact ⟨_, [(1, .sl false (L cU8 data_413)), (2, .ref 0 0), (4, .ref 1 0), (16, .bool true)], [.box [i64 p_412.Epoch, i64 p_412.Other, i64 p_412.First, .sl false (L (cSl cU8) p_412.Queue), i64 p_412.Next, .sl false (L cApi_Packet p_412.Early), i64 p_412.SentAt] false, .box [i64 0, i64 0, i64 0, .sl true (L (cSl cU8) ([])), i64 0, .sl true (L cApi_Packet ([])), i64 0] false], orcs_nil, by simp only [go_sem, hb_418], (weak_sel [0, 1] (by decide) rfl (by simp only [go_sem]) (by simp only [go_sem]))⟩
        · replace hv_417 := ite_f hv_417 hb_418
          have e_hv_417 := Option.some.inj hv_417; subst e_hv_417
          exact ⟨_, [(1, .sl false (L cU8 data_413)), (2, .ref 0 0), (4, .ref 1 0), (16, .bool (((w64 (p_412.First + (p_412.Queue.length : Int))) == 1099511627776)))], [.box [i64 p_412.Epoch, i64 p_412.Other, i64 p_412.First, .sl false (L (cSl cU8) p_412.Queue), i64 p_412.Next, .sl false (L cApi_Packet p_412.Early), i64 p_412.SentAt] false, .box [i64 0, i64 0, i64 0, .sl true (L (cSl cU8) ([])), i64 0, .sl true (L cApi_Packet ([])), i64 0] false], orcs_nil, by simp only [go_sem, hb_418], (weak_sel [0, 1] (by decide) rfl (by simp only [go_sem]) (by simp only [go_sem]))⟩
      refine run_condL (b := t_416) rfl (by decide) (fun hb => ?_) (fun hb => ?_)
      · replace h := ite_t h hb
        refine run_textE hE [4, 5] (fr' := [(4, .ref 1 0), (5, i64 120)]) (σ' := [.box [i64 p_412.Epoch, i64 p_412.Other, i64 p_412.First, .sl false (L (cSl cU8) p_412.Queue), i64 p_412.Next, .sl false (L cApi_Packet p_412.Early), i64 p_412.SentAt] false, .box [i64 0, i64 0, i64 0, .sl true (L (cSl cU8) ([])), i64 0, .sl true (L cApi_Packet ([])), i64 0] false]) ⟨_, orcs_nil, ?_⟩ ?_
        · simp only [go_sem, Nat.reduceGT, Nat.reduceLeDiff]
        refine run_ret ?_
        refine blockK_r ?_
        refine thenK_r ?_
        obtain rfl := Option.some.inj h
        refine wkP_of (Weak.refl _ _) ?_
        refine ret_ok (.inr rfl) ?_
        simp only [go_sem]
      · replace h := ite_f h hb
        refine run_skip ?_
        refine blockK_n ?_
        refine thenK_n ?_
        replace h := bind_some1 h; obtain ⟨y_419, hy_421, h⟩ := h
        replace h := bind_some1 h; obtain ⟨y_420, hy_422, h⟩ := h
        replace h := chk_some h; obtain ⟨hc_423, h⟩ := h
        replace h := lt1_some h; obtain ⟨l_424, hz_425, h⟩ := h
        refine run_textE hE [2, 4] (fr' := [(2, .ref 0 0), (4, .ref 1 0)]) (σ' := [.box [i64 p_412.Epoch, i64 p_412.Other, i64 p_412.First, .bs false 2 (l_424.length) 0 (l_424.length), i64 p_412.Next, .sl false (L cApi_Packet p_412.Early), i64 p_412.SentAt] false, .box [i64 0, i64 0, i64 0, .sl true (L (cSl cU8) ([])), i64 0, .sl true (L cApi_Packet ([])), i64 0] false, .buf 1 (L (cSl cU8) l_424) false, .buf 1 (L (cSl cU8) (([y_420] : List (List UInt8)))) false]) ⟨_, orcs_ok2 (l := [(35, 39, [.sl false (L cU8 data_413)], .sl false (L cU8 y_420))]) (m := [(33, 38, [.sl false (L (cSl cU8) p_412.Queue)], [.box [i64 p_412.Epoch, i64 p_412.Other, i64 p_412.First, .sl false (L (cSl cU8) p_412.Queue), i64 p_412.Next, .sl false (L cApi_Packet p_412.Early), i64 p_412.SentAt] false, .box [i64 0, i64 0, i64 0, .sl true (L (cSl cU8) ([])), i64 0, .sl true (L cApi_Packet ([])), i64 0] false], .bs false 2 (y_419.length) 0 (y_419.length), [.box [i64 p_412.Epoch, i64 p_412.Other, i64 p_412.First, .sl false (L (cSl cU8) p_412.Queue), i64 p_412.Next, .sl false (L cApi_Packet p_412.Early), i64 p_412.SentAt] false, .box [i64 0, i64 0, i64 0, .sl true (L (cSl cU8) ([])), i64 0, .sl true (L cApi_Packet ([])), i64 0] false, .buf 1 (L (cSl cU8) y_419) false])]) ⟨window_own_con  hy_422, trivial⟩ ⟨(wcon_call (slices_Clone_38_con hy_421) [] (by decide) (by simp only [go_sem]) (by simp only [go_sem]) (by simp only [go_sem]) (by simp only [go_sem]) (by simp only [go_sem])), trivial⟩, ?_⟩ ?_
        · subst hz_425; simp only [go_sem, Nat.reduceBEq, Nat.reduceMul, Nat.reduceSub, Nat.reduceGT, Nat.reducePow, Nat.reduceLeDiff, Int.reduceToNat, hc_423]
        refine run_textE hE [4, 5] (fr' := [(4, .ref 1 0), (5, i64 0)]) (σ' := [.box [i64 p_412.Epoch, i64 p_412.Other, i64 p_412.First, .bs false 2 (l_424.length) 0 (l_424.length), i64 p_412.Next, .sl false (L cApi_Packet p_412.Early), i64 p_412.SentAt] false, .box [i64 p_412.Epoch, i64 p_412.Other, i64 p_412.First, .bs false 2 (l_424.length) 0 (l_424.length), i64 p_412.Next, .sl false (L cApi_Packet p_412.Early), i64 p_412.SentAt] false, .buf 1 (L (cSl cU8) l_424) false, .buf 1 (L (cSl cU8) (([y_420] : List (List UInt8)))) false]) ⟨_, orcs_nil, ?_⟩ ?_
        · simp only [go_sem, Nat.reduceLeDiff]
        refine run_ret ?_
        obtain rfl := Option.some.inj h
        refine wkP_of (Weak.refl _ _) ?_
        refine ret_ok (.inr rfl) ?_
        simp only [go_sem]

theorem r12_Offer_con {p_426 : Api_Peer} {data_427 : List UInt8} {r : Api_Peer × Int} (h : r12_Offer p_426 data_427 = some r) : Con B 15 [.agg [i64 p_426.Epoch, i64 p_426.Other, i64 p_426.First, .sl false (L (cSl cU8) p_426.Queue), i64 p_426.Next, .sl false (L cApi_Packet p_426.Early), i64 p_426.SentAt], .sl false (L cU8 data_427)] [] (fun r' σ' => r' = .tup [.agg [i64 r.1.Epoch, i64 r.1.Other, i64 r.1.First, .sl false (L (cSl cU8) r.1.Queue), i64 r.1.Next, .sl false (L cApi_Packet r.1.Early), i64 r.1.SentAt], i64 r.2] ∧ σ' = []) := by
  refine con_walk (N := 39) (rs := [.cell 4 25, .tmp 5]) ok Try.func15 rfl (by decide +kernel) rfl rfl (Nat.le_of_ble_eq_true rfl) (fun F => ?_)
  have hE := ok.env F
  unfold r12_Offer at h
  show Run (B.env F) 0 _ ⟨asFr 39 [(0, .agg [i64 p_426.Epoch, i64 p_426.Other, i64 p_426.First, .sl false (L (cSl cU8) p_426.Queue), i64 p_426.Next, .sl false (L cApi_Packet p_426.Early), i64 p_426.SentAt]), (1, .sl false (L cU8 data_427))], []⟩ _
  refine run_wkP ?_
  refine run_textE hE [1, 2, 4] (fr' := [(1, .sl false (L cU8 data_427)), (2, .ref 0 0), (4, .ref 1 0)]) (σ' := [.box [i64 p_426.Epoch, i64 p_426.Other, i64 p_426.First, .sl false (L (cSl cU8) p_426.Queue), i64 p_426.Next, .sl false (L cApi_Packet p_426.Early), i64 p_426.SentAt] false, .box [i64 0, i64 0, i64 0, .sl true (L (cSl cU8) ([])), i64 0, .sl true (L cApi_Packet ([])), i64 0] false]) ⟨_, orcs_nil, ?_⟩ ?_
  · simp only [go_sem]
  refine run_seq ?_
  replace h := bind_some1 h; obtain ⟨y_428, hy_429, h⟩ := h
  refine run_textE hE [1, 2, 4, 8] (fr' := [(1, .sl false (L cU8 data_427)), (2, .ref 0 0), (4, .ref 1 0), (8, .bool ((!y_428)))]) (σ' := [.box [i64 p_426.Epoch, i64 p_426.Other, i64 p_426.First, .sl false (L (cSl cU8) p_426.Queue), i64 p_426.Next, .sl false (L cApi_Packet p_426.Early), i64 p_426.SentAt] false, .box [i64 0, i64 0, i64 0, .sl true (L (cSl cU8) ([])), i64 0, .sl true (L cApi_Packet ([])), i64 0] false]) ⟨_, orcs_ok (l := [(7, 40, [.agg [i64 p_426.Epoch, i64 p_426.Other, i64 p_426.First, .sl false (L (cSl cU8) p_426.Queue), i64 p_426.Next, .sl false (L cApi_Packet p_426.Early), i64 p_426.SentAt]], .bool y_428)]) ⟨r12_Valid_con  hy_429, trivial⟩, ?_⟩ ?_
  · simp only [go_sem]
  refine run_condL (b := (!y_428)) rfl (by decide) (fun hb => ?_) (fun hb => ?_)
  · replace h := ite_t h hb
    refine run_textE hE [4, 5] (fr' := [(4, .ref 1 0), (5, i64 1)]) (σ' := [.box [i64 p_426.Epoch, i64 p_426.Other, i64 p_426.First, .sl false (L (cSl cU8) p_426.Queue), i64 p_426.Next, .sl false (L cApi_Packet p_426.Early), i64 p_426.SentAt] false, .box [i64 0, i64 0, i64 0, .sl true (L (cSl cU8) ([])), i64 0, .sl true (L cApi_Packet ([])), i64 0] false]) ⟨_, orcs_nil, ?_⟩ ?_
    · simp only [go_sem, Nat.reduceGT, Nat.reduceLeDiff]
    refine run_ret ?_
    refine thenK_r ?_
    obtain rfl := Option.some.inj h
    refine wkP_of (Weak.refl _ _) ?_
    refine ret_ok (.inr rfl) ?_
    simp only [go_sem]
  · replace h := ite_f h hb
    refine run_skip ?_
    refine thenK_n ?_
    refine run_seq ?_
    refine run_textE hE [1, 2, 4, 12] (fr' := [(1, .sl false (L cU8 data_427)), (2, .ref 0 0), (4, .ref 1 0), (12, .bool ((decide ((data_427.length : Int) > 8000))))]) (σ' := [.box [i64 p_426.Epoch, i64 p_426.Other, i64 p_426.First, .sl false (L (cSl cU8) p_426.Queue), i64 p_426.Next, .sl false (L cApi_Packet p_426.Early), i64 p_426.SentAt] false, .box [i64 0, i64 0, i64 0, .sl true (L (cSl cU8) ([])), i64 0, .sl true (L cApi_Packet ([])), i64 0] false]) ⟨_, orcs_nil, ?_⟩ ?_
    · simp only [go_sem]
    refine run_condL (b := (decide ((data_427.length : Int) > 8000))) rfl (by decide) (fun hb => ?_) (fun hb => ?_)
    · replace h := ite_t h hb
      refine run_textE hE [4, 5] (fr' := [(4, .ref 1 0), (5, i64 2)]) (σ' := [.box [i64 p_426.Epoch, i64 p_426.Other, i64 p_426.First, .sl false (L (cSl cU8) p_426.Queue), i64 p_426.Next, .sl false (L cApi_Packet p_426.Early), i64 p_426.SentAt] false, .box [i64 0, i64 0, i64 0, .sl true (L (cSl cU8) ([])), i64 0, .sl true (L cApi_Packet ([])), i64 0] false]) ⟨_, orcs_nil, ?_⟩ ?_
      · simp only [go_sem, Nat.reduceGT, Nat.reduceLeDiff]
      refine run_ret ?_
      refine thenK_r ?_
      obtain rfl := Option.some.inj h
      refine wkP_of (Weak.refl _ _) ?_
      refine ret_ok (.inr rfl) ?_
      simp only [go_sem]
    · replace h := ite_f h hb
      refine run_skip ?_
      refine thenK_n ?_
      refine run_seq ?_
      replace h := bind_some1 h; obtain ⟨t_430, hv_431, h⟩ := h
      refine run_textW hE [1, 2, 4, 26] (fr' := [(1, .sl false (L cU8 data_427)), (2, .ref 0 0), (4, .ref 1 0), (26, .bool t_430)]) (σ' := [.box [i64 p_426.Epoch, i64 p_426.Other, i64 p_426.First, .sl false (L (cSl cU8) p_426.Queue), i64 p_426.Next, .sl false (L cApi_Packet p_426.Early), i64 p_426.SentAt] false, .box [i64 0, i64 0, i64 0, .sl true (L (cSl cU8) ([])), i64 0, .sl true (L cApi_Packet ([])), i64 0] false]) ?_ ?_
      · rcases Bool.eq_false_or_eq_true (((p_426.Queue.length : Int) == 256)) with hb_432 | hb_432
        · replace hv_431 := ite_t hv_431 hb_432
          have e_hv_431 := Option.some.inj hv_431; subst e_hv_431
          exact ⟨_, [(1, .sl false (L cU8 data_427)), (2, .ref 0 0), (4, .ref 1 0), (26, .bool true)], [.box [i64 p_426.Epoch, i64 p_426.Other, i64 p_426.First, .sl false (L (cSl cU8) p_426.Queue), i64 p_426.Next, .sl false (L cApi_Packet p_426.Early), i64 p_426.SentAt] false, .box [i64 0, i64 0, i64 0, .sl true (L (cSl cU8) ([])), i64 0, .sl true (L cApi_Packet ([])), i64 0] false], orcs_nil, by simp only [go_sem, hb_432], (weak_sel [0, 1] (by decide) rfl (by simp only [go_sem]) (by simp only [go_sem]))⟩
        · replace hv_431 := ite_f hv_431 hb_432
          have e_hv_431 := Option.some.inj hv_431; subst e_hv_431
          exact ⟨_, [(1, .sl false (L cU8 data_427)), (2, .ref 0 0), (4, .ref 1 0), (26, .bool (((w64 (p_426.First + (p_426.Queue.length : Int))) == 1099511627776)))], [.box [i64 p_426.Epoch, i64 p_426.Other, i64 p_426.First, .sl false (L (cSl cU8) p_426.Queue), i64 p_426.Next, .sl false (L cApi_Packet p_426.Early), i64 p_426.SentAt] false, .box [i64 0, i64 0, i64 0, .sl true (L (cSl cU8) ([])), i64 0, .sl true (L cApi_Packet ([])), i64 0] false], orcs_nil, by simp only [go_sem, hb_432], (weak_sel [0, 1] (by decide) rfl (by simp only [go_sem]) (by simp only [go_sem]))⟩
      refine run_condL (b := t_430) rfl (by decide) (fun hb => ?_) (fun hb => ?_)
      · replace h := ite_t h hb
        refine run_textE hE [4, 5] (fr' := [(4, .ref 1 0), (5, i64 120)]) (σ' := [.box [i64 p_426.Epoch, i64 p_426.Other, i64 p_426.First, .sl false (L (cSl cU8) p_426.Queue), i64 p_426.Next, .sl false (L cApi_Packet p_426.Early), i64 p_426.SentAt] false, .box [i64 0, i64 0, i64 0, .sl true (L (cSl cU8) ([])), i64 0, .sl true (L cApi_Packet ([])), i64 0] false]) ⟨_, orcs_nil, ?_⟩ ?_
        · simp only [go_sem, Nat.reduceGT, Nat.reduceLeDiff]
        refine run_ret ?_
        refine thenK_r ?_
        obtain rfl := Option.some.inj h
        refine wkP_of (Weak.refl _ _) ?_
        refine ret_ok (.inr rfl) ?_
        simp only [go_sem]
      · replace h := ite_f h hb
        refine run_skip ?_
        refine thenK_n ?_
        replace h := chk_some h; obtain ⟨hc_433, h⟩ := h
        have hcn_434 := hc_433; simp only [List.cons_append, List.nil_append, List.length_append, List.length_cons, List.length_nil, Nat.zero_add, Nat.reduceAdd] at hcn_434
        replace h := chk_some h; obtain ⟨hc_435, h⟩ := h
        have hcn_436 := hc_435; simp only [List.cons_append, List.nil_append, List.length_append, List.length_cons, List.length_nil, Nat.zero_add, Nat.reduceAdd] at hcn_436
        replace h := chk_some h; obtain ⟨hc_437, h⟩ := h
        have hcn_438 := hc_437; simp only [List.cons_append, List.nil_append, List.length_append, List.length_cons, List.length_nil, Nat.zero_add, Nat.reduceAdd] at hcn_438
        replace h := lt1_some h; obtain ⟨l_439, hz_440, h⟩ := h
        refine run_textE hE [2, 4] (fr' := [(2, .ref 0 0), (4, .ref 1 0)]) (σ' := [.box [i64 p_426.Epoch, i64 p_426.Other, i64 p_426.First, .bs false 2 (l_439.length) 0 (l_439.length), i64 p_426.Next, .sl false (L cApi_Packet p_426.Early), i64 p_426.SentAt] false, .box [i64 0, i64 0, i64 0, .sl true (L (cSl cU8) ([])), i64 0, .sl true (L cApi_Packet ([])), i64 0] false, .buf 1 (L (cSl cU8) l_439) false, .buf 1 (L cU8 (((([] : List UInt8)) ++ data_427))) true, .buf 1 (L (cSl cU8) (([((([] : List UInt8)) ++ data_427)] : List (List UInt8)))) false]) ⟨_, orcs_nil, ?_⟩ ?_
        · subst hz_440; simp only [go_sem, Nat.reduceBEq, Nat.reduceMul, Nat.reduceSub, Nat.reduceGT, Nat.reducePow, Nat.reduceLeDiff, Int.reduceToNat, hc_433, hcn_434, hc_435, hcn_436, hc_437, hcn_438]
        refine run_textE hE [4, 5] (fr' := [(4, .ref 1 0), (5, i64 0)]) (σ' := [.box [i64 p_426.Epoch, i64 p_426.Other, i64 p_426.First, .bs false 2 (l_439.length) 0 (l_439.length), i64 p_426.Next, .sl false (L cApi_Packet p_426.Early), i64 p_426.SentAt] false, .box [i64 p_426.Epoch, i64 p_426.Other, i64 p_426.First, .bs false 2 (l_439.length) 0 (l_439.length), i64 p_426.Next, .sl false (L cApi_Packet p_426.Early), i64 p_426.SentAt] false, .buf 1 (L (cSl cU8) l_439) false, .buf 1 (L cU8 (((([] : List UInt8)) ++ data_427))) true, .buf 1 (L (cSl cU8) (([((([] : List UInt8)) ++ data_427)] : List (List UInt8)))) false]) ⟨_, orcs_nil, ?_⟩ ?_
        · simp only [go_sem, Nat.reduceLeDiff]
        refine run_ret ?_
        obtain rfl := Option.some.inj h
        refine wkP_of (Weak.refl _ _) ?_
        refine ret_ok (.inr rfl) ?_
        simp only [go_sem]

end Go.Proofs.Ytomjphpnpcgacaa
/-
  The functions compute just that.
-/
namespace Go.Proofs.Ytomjphpnpcgacaa
open Go.Rv
set_option linter.unusedVariables false
set_option linter.unusedSimpArgs false
set_option maxRecDepth 20000
set_option maxHeartbeats 4000000

theorem window_Emit_con {p_441 : Api_Peer} {now_442 : Int} {r : Api_Peer × List Api_Packet} (h : window_Emit p_441 now_442 = some r) : Con B 16 [.agg [i64 p_441.Epoch, i64 p_441.Other, i64 p_441.First, .sl false (L (cSl cU8) p_441.Queue), i64 p_441.Next, .sl false (L cApi_Packet p_441.Early), i64 p_441.SentAt], i64 now_442] [] (fun r' σ' => r' = .tup [.agg [i64 r.1.Epoch, i64 r.1.Other, i64 r.1.First, .sl false (L (cSl cU8) r.1.Queue), i64 r.1.Next, .sl false (L cApi_Packet r.1.Early), i64 r.1.SentAt], .sl false (L cApi_Packet r.2)] ∧ σ' = []) := by
  refine con_walk (N := 86) (rs := [.cell 4 25, .tmp 5]) ok Try.func16 rfl (by decide +kernel) rfl rfl (Nat.le_of_ble_eq_true rfl) (fun F => ?_)
  have hE := ok.env F
  unfold window_Emit at h
  show Run (B.env F) 0 _ ⟨asFr 86 [(0, .agg [i64 p_441.Epoch, i64 p_441.Other, i64 p_441.First, .sl false (L (cSl cU8) p_441.Queue), i64 p_441.Next, .sl false (L cApi_Packet p_441.Early), i64 p_441.SentAt]), (1, i64 now_442)], []⟩ _
  refine run_wkP ?_
  refine run_textE hE [1, 2, 4] (fr' := [(1, i64 now_442), (2, .ref 0 0), (4, .ref 1 0)]) (σ' := [.box [i64 p_441.Epoch, i64 p_441.Other, i64 p_441.First, .sl false (L (cSl cU8) p_441.Queue), i64 p_441.Next, .sl false (L cApi_Packet p_441.Early), i64 p_441.SentAt] false, .box [i64 0, i64 0, i64 0, .sl true (L (cSl cU8) ([])), i64 0, .sl true (L cApi_Packet ([])), i64 0] false]) ⟨_, orcs_nil, ?_⟩ ?_
  · simp only [go_sem]
  refine run_seq ?_
  replace h := bind_some1 h; obtain ⟨t_445, hv_446, h⟩ := h
  refine run_textW hE [1, 2, 4, 19] (fr' := [(1, i64 now_442), (2, .ref 0 0), (4, .ref 1 0), (19, .bool t_445)]) (σ' := [.box [i64 p_441.Epoch, i64 p_441.Other, i64 p_441.First, .sl false (L (cSl cU8) p_441.Queue), i64 p_441.Next, .sl false (L cApi_Packet p_441.Early), i64 p_441.SentAt] false, .box [i64 0, i64 0, i64 0, .sl true (L (cSl cU8) ([])), i64 0, .sl true (L cApi_Packet ([])), i64 0] false]) ?_ ?_
  · replace hv_446 := bind_some1 hv_446; obtain ⟨y_443, hy_447, hv_446⟩ := hv_446
    rcases Bool.eq_false_or_eq_true ((!y_443)) with hb_448 | hb_448
    · replace hv_446 := ite_t hv_446 hb_448
      have e_hv_446 := Option.some.inj hv_446; subst e_hv_446
      exact ⟨_, [(1, i64 now_442), (2, .ref 0 0), (4, .ref 1 0), (19, .bool true)], [.box [i64 p_441.Epoch, i64 p_441.Other, i64 p_441.First, .sl false (L (cSl cU8) p_441.Queue), i64 p_441.Next, .sl false (L cApi_Packet p_441.Early), i64 p_441.SentAt] false, .box [i64 0, i64 0, i64 0, .sl true (L (cSl cU8) ([])), i64 0, .sl true (L cApi_Packet ([])), i64 0] false], orcs_ok (l := [(13, 37, [.agg [i64 p_441.Epoch, i64 p_441.Other, i64 p_441.First, .sl false (L (cSl cU8) p_441.Queue), i64 p_441.Next, .sl false (L cApi_Packet p_441.Early), i64 p_441.SentAt]], .bool y_443)]) ⟨window_valid_con  hy_447, trivial⟩, by simp only [go_sem, hb_448], (weak_sel [0, 1] (by decide) rfl (by simp only [go_sem]) (by simp only [go_sem]))⟩
    · replace hv_446 := ite_f hv_446 hb_448
      replace hv_446 := bind_some1 hv_446; obtain ⟨y_444, hy_449, hv_446⟩ := hv_446
      have e_hv_446 := Option.some.inj hv_446; subst e_hv_446
      exact ⟨_, [(1, i64 now_442), (2, .ref 0 0), (4, .ref 1 0), (19, .bool ((!y_444)))], [.box [i64 p_441.Epoch, i64 p_441.Other, i64 p_441.First, .sl false (L (cSl cU8) p_441.Queue), i64 p_441.Next, .sl false (L cApi_Packet p_441.Early), i64 p_441.SentAt] false, .box [i64 0, i64 0, i64 0, .sl true (L (cSl cU8) ([])), i64 0, .sl true (L cApi_Packet ([])), i64 0] false], orcs_ok (l := [(13, 37, [.agg [i64 p_441.Epoch, i64 p_441.Other, i64 p_441.First, .sl false (L (cSl cU8) p_441.Queue), i64 p_441.Next, .sl false (L cApi_Packet p_441.Early), i64 p_441.SentAt]], .bool y_443), (17, 35, [i64 now_442, i64 0, i64 1073741824], .bool y_444)]) ⟨window_valid_con  hy_447, window_between_con  hy_449, trivial⟩, by simp only [go_sem, hb_448], (weak_sel [0, 1] (by decide) rfl (by simp only [go_sem]) (by simp only [go_sem]))⟩
  refine run_condL (b := t_445) rfl (by decide) (fun hb => ?_) (fun hb => ?_)
  · replace h := ite_t h hb
    refine run_textE hE [4, 5] (fr' := [(4, .ref 1 0), (5, .sl true (L cApi_Packet ([])))]) (σ' := [.box [i64 p_441.Epoch, i64 p_441.Other, i64 p_441.First, .sl false (L (cSl cU8) p_441.Queue), i64 p_441.Next, .sl false (L cApi_Packet p_441.Early), i64 p_441.SentAt] false, .box [i64 p_441.Epoch, i64 p_441.Other, i64 p_441.First, .sl false (L (cSl cU8) p_441.Queue), i64 p_441.Next, .sl false (L cApi_Packet p_441.Early), i64 p_441.SentAt] false]) ⟨_, orcs_nil, ?_⟩ ?_
    · simp only [go_sem, Nat.reduceLeDiff]
    refine run_ret ?_
    refine thenK_r ?_
    obtain rfl := Option.some.inj h
    refine wkP_of (Weak.refl _ _) ?_
    refine ret_ok (.inr rfl) ?_
    simp only [go_sem]
  · replace h := ite_f h hb
    refine run_skip ?_
    refine thenK_n ?_
    refine run_textE hE [1, 2, 4, 6] (fr' := [(1, i64 now_442), (2, .ref 0 0), (4, .ref 1 0), (6, .ref 2 0)]) (σ' := [.box [i64 p_441.Epoch, i64 p_441.Other, i64 p_441.First, .sl false (L (cSl cU8) p_441.Queue), i64 p_441.Next, .sl false (L cApi_Packet p_441.Early), i64 p_441.SentAt] false, .box [i64 0, i64 0, i64 0, .sl true (L (cSl cU8) ([])), i64 0, .sl true (L cApi_Packet ([])), i64 0] false, .box [i64 p_441.Epoch, i64 p_441.Other, i64 ((-1)), i64 p_441.Next, .sl true (L cU8 ([]))] false]) ⟨_, orcs_nil, ?_⟩ ?_
    · simp only [go_sem, Nat.reduceGT, Nat.reduceLeDiff]
    replace h := bind_some1 h; obtain ⟨due_450, hv_451, h⟩ := h
    refine run_textW hE [1, 2, 4, 6, 7] (fr' := [(1, i64 now_442), (2, .ref 0 0), (4, .ref 1 0), (6, .ref 2 0), (7, .bool due_450)]) (σ' := [.box [i64 p_441.Epoch, i64 p_441.Other, i64 p_441.First, .sl false (L (cSl cU8) p_441.Queue), i64 p_441.Next, .sl false (L cApi_Packet p_441.Early), i64 p_441.SentAt] false, .box [i64 0, i64 0, i64 0, .sl true (L (cSl cU8) ([])), i64 0, .sl true (L cApi_Packet ([])), i64 0] false, .box [i64 p_441.Epoch, i64 p_441.Other, i64 ((-1)), i64 p_441.Next, .sl true (L cU8 ([]))] false]) ?_ ?_
    · rcases Bool.eq_false_or_eq_true ((decide (p_441.SentAt < 0))) with hb_452 | hb_452
      · replace hv_451 := ite_t hv_451 hb_452
        have e_hv_451 := Option.some.inj hv_451; subst e_hv_451
        exact ⟨_, [(1, i64 now_442), (2, .ref 0 0), (4, .ref 1 0), (6, .ref 2 0), (7, .bool true)], [.box [i64 p_441.Epoch, i64 p_441.Other, i64 p_441.First, .sl false (L (cSl cU8) p_441.Queue), i64 p_441.Next, .sl false (L cApi_Packet p_441.Early), i64 p_441.SentAt] false, .box [i64 0, i64 0, i64 0, .sl true (L (cSl cU8) ([])), i64 0, .sl true (L cApi_Packet ([])), i64 0] false, .box [i64 p_441.Epoch, i64 p_441.Other, i64 ((-1)), i64 p_441.Next, .sl true (L cU8 ([]))] false], orcs_nil, by simp only [go_sem, hb_452], (weak_sel [0, 1, 2] (by decide) rfl (by simp only [go_sem]) (by simp only [go_sem]))⟩
      · replace hv_451 := ite_f hv_451 hb_452
        rcases Bool.eq_false_or_eq_true ((decide (p_441.SentAt > now_442))) with hb_453 | hb_453
        · replace hv_451 := ite_t hv_451 hb_453
          have e_hv_451 := Option.some.inj hv_451; subst e_hv_451
          exact ⟨_, [(1, i64 now_442), (2, .ref 0 0), (4, .ref 1 0), (6, .ref 2 0), (7, .bool true)], [.box [i64 p_441.Epoch, i64 p_441.Other, i64 p_441.First, .sl false (L (cSl cU8) p_441.Queue), i64 p_441.Next, .sl false (L cApi_Packet p_441.Early), i64 p_441.SentAt] false, .box [i64 0, i64 0, i64 0, .sl true (L (cSl cU8) ([])), i64 0, .sl true (L cApi_Packet ([])), i64 0] false, .box [i64 p_441.Epoch, i64 p_441.Other, i64 ((-1)), i64 p_441.Next, .sl true (L cU8 ([]))] false], orcs_nil, by simp only [go_sem, hb_452, hb_453], (weak_sel [0, 1, 2] (by decide) rfl (by simp only [go_sem]) (by simp only [go_sem]))⟩
        · replace hv_451 := ite_f hv_451 hb_453
          have e_hv_451 := Option.some.inj hv_451; subst e_hv_451
          exact ⟨_, [(1, i64 now_442), (2, .ref 0 0), (4, .ref 1 0), (6, .ref 2 0), (7, .bool ((decide ((w64 (now_442 - p_441.SentAt)) ≥ 10))))], [.box [i64 p_441.Epoch, i64 p_441.Other, i64 p_441.First, .sl false (L (cSl cU8) p_441.Queue), i64 p_441.Next, .sl false (L cApi_Packet p_441.Early), i64 p_441.SentAt] false, .box [i64 0, i64 0, i64 0, .sl true (L (cSl cU8) ([])), i64 0, .sl true (L cApi_Packet ([])), i64 0] false, .box [i64 p_441.Epoch, i64 p_441.Other, i64 ((-1)), i64 p_441.Next, .sl true (L cU8 ([]))] false], orcs_nil, by simp only [go_sem, hb_452, hb_453], (weak_sel [0, 1, 2] (by decide) rfl (by simp only [go_sem]) (by simp only [go_sem]))⟩
    refine run_seq ?_
    replace h := bind_some1 h; obtain ⟨t_454, hv_455, h⟩ := h
    refine run_textW hE [1, 2, 4, 6, 51] (fr' := [(1, i64 now_442), (2, .ref 0 0), (4, .ref 1 0), (6, .ref 2 0), (51, .bool t_454)]) (σ' := [.box [i64 p_441.Epoch, i64 p_441.Other, i64 p_441.First, .sl false (L (cSl cU8) p_441.Queue), i64 p_441.Next, .sl false (L cApi_Packet p_441.Early), i64 p_441.SentAt] false, .box [i64 0, i64 0, i64 0, .sl true (L (cSl cU8) ([])), i64 0, .sl true (L cApi_Packet ([])), i64 0] false, .box [i64 p_441.Epoch, i64 p_441.Other, i64 ((-1)), i64 p_441.Next, .sl true (L cU8 ([]))] false]) ?_ ?_
    · rcases Bool.eq_false_or_eq_true (((p_441.Queue.length : Int) == 0)) with hb_456 | hb_456
      · replace hv_455 := ite_t hv_455 hb_456
        have e_hv_455 := Option.some.inj hv_455; subst e_hv_455
        exact ⟨_, [(1, i64 now_442), (2, .ref 0 0), (4, .ref 1 0), (6, .ref 2 0), (51, .bool true)], [.box [i64 p_441.Epoch, i64 p_441.Other, i64 p_441.First, .sl false (L (cSl cU8) p_441.Queue), i64 p_441.Next, .sl false (L cApi_Packet p_441.Early), i64 p_441.SentAt] false, .box [i64 0, i64 0, i64 0, .sl true (L (cSl cU8) ([])), i64 0, .sl true (L cApi_Packet ([])), i64 0] false, .box [i64 p_441.Epoch, i64 p_441.Other, i64 ((-1)), i64 p_441.Next, .sl true (L cU8 ([]))] false], orcs_nil, by simp only [go_sem, hb_456], (weak_sel [0, 1, 2] (by decide) rfl (by simp only [go_sem]) (by simp only [go_sem]))⟩
      · replace hv_455 := ite_f hv_455 hb_456
        have e_hv_455 := Option.some.inj hv_455; subst e_hv_455
        exact ⟨_, [(1, i64 now_442), (2, .ref 0 0), (4, .ref 1 0), (6, .ref 2 0), (51, .bool ((!due_450)))], [.box [i64 p_441.Epoch, i64 p_441.Other, i64 p_441.First, .sl false (L (cSl cU8) p_441.Queue), i64 p_441.Next, .sl false (L cApi_Packet p_441.Early), i64 p_441.SentAt] false, .box [i64 0, i64 0, i64 0, .sl true (L (cSl cU8) ([])), i64 0, .sl true (L cApi_Packet ([])), i64 0] false, .box [i64 p_441.Epoch, i64 p_441.Other, i64 ((-1)), i64 p_441.Next, .sl true (L cU8 ([]))] false], orcs_nil, by simp only [go_sem, hb_456], (weak_sel [0, 1, 2] (by decide) rfl (by simp only [go_sem]) (by simp only [go_sem]))⟩
    refine run_condL (b := t_454) rfl (by decide) (fun hb => ?_) (fun hb => ?_)
    · replace h := ite_t h hb
      replace h := lt1_some h; obtain ⟨l_457, hz_458, h⟩ := h
      refine run_drawS hE mixed [[], [], [1], [0], [0, 1, 2, 3]] (by kernel_rfl) [(4, 1), (6, 2)] [] [4, 5, 6] (by kernel_rfl) (fr' := [(4, .ref 1 0), (5, .bs true 3 (l_457.length) 0 (l_457.length)), (6, .ref 2 0)]) (σ' := [.box [i64 p_441.Epoch, i64 p_441.Other, i64 p_441.First, .sl false (L (cSl cU8) p_441.Queue), i64 p_441.Next, .sl false (L cApi_Packet p_441.Early), i64 p_441.SentAt] false, .box [i64 p_441.Epoch, i64 p_441.Other, i64 p_441.First, .sl false (L (cSl cU8) p_441.Queue), i64 p_441.Next, .sl false (L cApi_Packet p_441.Early), i64 p_441.SentAt] false, .box [i64 p_441.Epoch, i64 p_441.Other, i64 ((-1)), i64 p_441.Next, .sl true (L cU8 ([]))] false, .buf 5 (L cApi_Packet l_457) false]) ⟨rfl, rfl, trivial⟩ ⟨_, _, orcs_nil, (by simp only [XOk]), ?_⟩ ?_
      · subst hz_458; simp only [go_sem, Nat.reduceBEq, Nat.reduceMul, Nat.reduceSub, Nat.reduceGT, Nat.reducePow, Nat.reduceLeDiff, Int.reduceToNat]
      refine run_ret ?_
      refine thenK_r ?_
      obtain rfl := Option.some.inj h
      refine wkP_of (Weak.refl _ _) ?_
      refine ret_ok (.inr rfl) ?_
      simp only [go_sem]
    · replace h := ite_f h hb
      refine run_skip ?_
      refine thenK_n ?_
      refine run_textE hE [1, 2, 4, 6, 8] (fr' := [(1, i64 now_442), (2, .ref 0 0), (4, .ref 1 0), (6, .ref 2 0), (8, .sl true (L cApi_Packet ([])))]) (σ' := [.box [i64 p_441.Epoch, i64 p_441.Other, i64 p_441.First, .sl false (L (cSl cU8) p_441.Queue), i64 p_441.Next, .sl false (L cApi_Packet p_441.Early), i64 p_441.SentAt] false, .box [i64 0, i64 0, i64 0, .sl true (L (cSl cU8) ([])), i64 0, .sl true (L cApi_Packet ([])), i64 0] false, .box [i64 p_441.Epoch, i64 p_441.Other, i64 ((-1)), i64 p_441.Next, .sl true (L cU8 ([]))] false]) ⟨_, orcs_nil, ?_⟩ ?_
      · simp only [go_sem]
      replace h := bind_some1 h; obtain ⟨j_495, hA_496, hj_497⟩ := h
      refine run_join (fun (v : List Api_Packet) => (⟨asFr 86 [(1, i64 now_442), (2, .ref 0 0), (4, .ref 1 0), (8, .bs false 2 (v.length) 0 (v.length))], [.box [i64 p_441.Epoch, i64 p_441.Other, i64 p_441.First, .sl false (L (cSl cU8) p_441.Queue), i64 p_441.Next, .sl false (L cApi_Packet p_441.Early), i64 p_441.SentAt] false, .box [i64 0, i64 0, i64 0, .sl true (L (cSl cU8) ([])), i64 0, .sl true (L cApi_Packet ([])), i64 0] false, .buf 5 (L cApi_Packet v) false]⟩ : St)) (fun v => v = j_495) ?_ ?_
      · have h := hA_496; clear hA_496
        replace h := chk_some h; obtain ⟨hc_498, h⟩ := h
        replace h := lt1_some h; obtain ⟨t_499, hz_501, h⟩ := h
        replace h := lt1_some h; obtain ⟨t_500, hz_502, h⟩ := h
        refine run_textE hE [1, 2, 4, 6, 8, 61, 62, 63] (fr' := [(1, i64 now_442), (2, .ref 0 0), (4, .ref 1 0), (6, .ref 2 0), (8, .sl true (L cApi_Packet ([]))), (61, .sl false (L (cSl cU8) t_499)), (62, i64 t_500), (63, i64 0)]) (σ' := [.box [i64 p_441.Epoch, i64 p_441.Other, i64 p_441.First, .sl false (L (cSl cU8) p_441.Queue), i64 p_441.Next, .sl false (L cApi_Packet p_441.Early), i64 p_441.SentAt] false, .box [i64 0, i64 0, i64 0, .sl true (L (cSl cU8) ([])), i64 0, .sl true (L cApi_Packet ([])), i64 0] false, .box [i64 p_441.Epoch, i64 p_441.Other, i64 ((-1)), i64 p_441.Next, .sl true (L cU8 ([]))] false]) ⟨_, orcs_nil, ?_⟩ ?_
        · subst hz_502; subst hz_501; simp only [go_sem, Int.reduceToNat, hc_498]
        refine run_block ?_
        replace h := bind_some1 h; obtain ⟨x_520, hx_521, hj_522⟩ := h
        refine run_loopO hx_521 (fun (v : Int × List Api_Packet) => (⟨asFr 86 [(1, i64 now_442), (2, .ref 0 0), (4, .ref 1 0), (6, .ref 2 0), (8, .bs false 3 (v.2.length) 0 (v.2.length)), (61, .sl false (L (cSl cU8) t_499)), (62, i64 t_500), (63, i64 v.1)], [.box [i64 p_441.Epoch, i64 p_441.Other, i64 p_441.First, .sl false (L (cSl cU8) p_441.Queue), i64 p_441.Next, .sl false (L cApi_Packet p_441.Early), i64 p_441.SentAt] false, .box [i64 0, i64 0, i64 0, .sl true (L (cSl cU8) ([])), i64 0, .sl true (L cApi_Packet ([])), i64 0] false, .box [i64 p_441.Epoch, i64 p_441.Other, i64 ((-1)), i64 p_441.Next, .sl true (L cU8 ([]))] false, .buf 5 (L cApi_Packet v.2) false]⟩ : St)) ((weak_nil 8 5 rfl).trans (weak_sel [0, 1, 2, 3] (by decide) rfl (by simp only [go_sem]) (by simp only [go_sem]))) ?_
        rintro ⟨t_509, l_510⟩ o_523 h hxx_524
        replace h : window_Emit_b1 p_441 t_499 t_500 t_509 l_510 = some o_523 := h
        unfold window_Emit_b1 at h
        refine run_textE hE [1, 2, 4, 6, 8, 61, 62, 63, 64] (fr' := [(1, i64 now_442), (2, .ref 0 0), (4, .ref 1 0), (6, .ref 2 0), (8, .bs false 3 (l_510.length) 0 (l_510.length)), (61, .sl false (L (cSl cU8) t_499)), (62, i64 t_500), (63, i64 t_509), (64, .bool ((decide (t_509 < t_500))))]) (σ' := [.box [i64 p_441.Epoch, i64 p_441.Other, i64 p_441.First, .sl false (L (cSl cU8) p_441.Queue), i64 p_441.Next, .sl false (L cApi_Packet p_441.Early), i64 p_441.SentAt] false, .box [i64 0, i64 0, i64 0, .sl true (L (cSl cU8) ([])), i64 0, .sl true (L cApi_Packet ([])), i64 0] false, .box [i64 p_441.Epoch, i64 p_441.Other, i64 ((-1)), i64 p_441.Next, .sl true (L cU8 ([]))] false, .buf 5 (L cApi_Packet l_510) false]) ⟨_, orcs_nil, ?_⟩ ?_
        · simp only [go_sem]
        refine run_seq ?_
        refine run_condL (b := (decide (t_509 < t_500))) rfl (by decide) (fun hb => ?_) (fun hb => ?_)
        · replace h := ite_t h hb
          refine run_skip ?_
          refine thenK_n ?_
          refine run_seq ?_
          refine run_block ?_
          replace h := chk_some h; obtain ⟨hc_525, h⟩ := h
          refine run_textE hE [1, 2, 4, 6, 8, 9, 10, 61, 62, 63] (fr' := [(1, i64 now_442), (2, .ref 0 0), (4, .ref 1 0), (6, .ref 2 0), (8, .bs false 3 (l_510.length) 0 (l_510.length)), (9, i64 t_509), (10, .sl false (L cU8 (nth t_499 t_509.toNat))), (61, .sl false (L (cSl cU8) t_499)), (62, i64 t_500), (63, i64 t_509)]) (σ' := [.box [i64 p_441.Epoch, i64 p_441.Other, i64 p_441.First, .sl false (L (cSl cU8) p_441.Queue), i64 p_441.Next, .sl false (L cApi_Packet p_441.Early), i64 p_441.SentAt] false, .box [i64 0, i64 0, i64 0, .sl true (L (cSl cU8) ([])), i64 0, .sl true (L cApi_Packet ([])), i64 0] false, .box [i64 p_441.Epoch, i64 p_441.Other, i64 ((-1)), i64 p_441.Next, .sl true (L cU8 ([]))] false, .buf 5 (L cApi_Packet l_510) false]) ⟨_, orcs_nil, ?_⟩ ?_
          · simp only [go_sem, Int.reduceToNat, hc_525, hc_525.2, lt_le hc_525.2]
          refine run_textE hE [1, 2, 4, 6, 8, 9, 10, 11, 61, 62, 63] (fr' := [(1, i64 now_442), (2, .ref 0 0), (4, .ref 1 0), (6, .ref 2 0), (8, .bs false 3 (l_510.length) 0 (l_510.length)), (9, i64 t_509), (10, .sl false (L cU8 (nth t_499 t_509.toNat))), (11, .ref 4 0), (61, .sl false (L (cSl cU8) t_499)), (62, i64 t_500), (63, i64 t_509)]) (σ' := [.box [i64 p_441.Epoch, i64 p_441.Other, i64 p_441.First, .sl false (L (cSl cU8) p_441.Queue), i64 p_441.Next, .sl false (L cApi_Packet p_441.Early), i64 p_441.SentAt] false, .box [i64 0, i64 0, i64 0, .sl true (L (cSl cU8) ([])), i64 0, .sl true (L cApi_Packet ([])), i64 0] false, .box [i64 p_441.Epoch, i64 p_441.Other, i64 ((-1)), i64 p_441.Next, .sl true (L cU8 ([]))] false, .buf 5 (L cApi_Packet l_510) false, .box [i64 p_441.Epoch, i64 p_441.Other, i64 ((-1)), i64 p_441.Next, .sl true (L cU8 ([]))] false]) ⟨_, orcs_nil, ?_⟩ ?_
          · simp only [go_sem, Nat.reduceLeDiff]
          replace h := bind_some1 h; obtain ⟨y_526, hy_527, h⟩ := h
          replace h := lt1_some h; obtain ⟨f_528, hz_529, h⟩ := h
          refine run_drawE hE mixed [[], [0], [], [0, 1, 2], [], [4], [0, 1, 2, 3], [0, 1, 2, 3, 4, 5, 6], [0, 1, 2, 3, 4, 5, 6, 7], [0, 1, 2, 3, 4, 5, 6, 7, 8]] (by kernel_rfl) (by kernel_rfl) [1, 2, 4, 6, 8, 11, 61, 62, 63] (fr' := [(1, i64 now_442), (2, .ref 0 0), (4, .ref 1 0), (6, .ref 2 0), (8, .bs false 3 (l_510.length) 0 (l_510.length)), (11, .ref 4 0), (61, .sl false (L (cSl cU8) t_499)), (62, i64 t_500), (63, i64 t_509)]) (σ' := [.box [i64 p_441.Epoch, i64 p_441.Other, i64 p_441.First, .sl false (L (cSl cU8) p_441.Queue), i64 p_441.Next, .sl false (L cApi_Packet p_441.Early), i64 p_441.SentAt] false, .box [i64 0, i64 0, i64 0, .sl true (L (cSl cU8) ([])), i64 0, .sl true (L cApi_Packet ([])), i64 0] false, .box [i64 p_441.Epoch, i64 p_441.Other, i64 ((-1)), i64 p_441.Next, .sl true (L cU8 ([]))] false, .buf 5 (L cApi_Packet l_510) false, .box [i64 p_441.Epoch, i64 p_441.Other, i64 f_528, i64 p_441.Next, .sl false (L cU8 y_526)] false]) ⟨_, orcs_ok (l := [(74, 39, [.sl false (L cU8 (nth t_499 t_509.toNat))], .sl false (L cU8 y_526))]) ⟨window_own_con  hy_527, trivial⟩, ?_⟩ ?_
          · subst hz_529; simp only [go_sem, Nat.reduceLeDiff]
          replace h := chk_some h; obtain ⟨hc_530, h⟩ := h
          replace h := lt1_some h; obtain ⟨l_531, hz_532, h⟩ := h
          refine run_textE0 hE (wk_block wk_then) [1, 2, 4, 6, 8, 61, 62, 63] (fr' := [(1, i64 now_442), (2, .ref 0 0), (4, .ref 1 0), (6, .ref 2 0), (8, .bs false 3 (l_531.length) 0 (l_531.length)), (61, .sl false (L (cSl cU8) t_499)), (62, i64 t_500), (63, i64 t_509)]) (σ' := [.box [i64 p_441.Epoch, i64 p_441.Other, i64 p_441.First, .sl false (L (cSl cU8) p_441.Queue), i64 p_441.Next, .sl false (L cApi_Packet p_441.Early), i64 p_441.SentAt] false, .box [i64 0, i64 0, i64 0, .sl true (L (cSl cU8) ([])), i64 0, .sl true (L cApi_Packet ([])), i64 0] false, .box [i64 p_441.Epoch, i64 p_441.Other, i64 ((-1)), i64 p_441.Next, .sl true (L cU8 ([]))] false, .buf 5 (L cApi_Packet l_531) false, .box [i64 p_441.Epoch, i64 p_441.Other, i64 f_528, i64 p_441.Next, .sl false (L cU8 y_526)] false, .buf 5 (L cApi_Packet (([({ Epoch := p_441.Epoch, To := p_441.Other, Seq := f_528, Ack := p_441.Next, Data := y_526 } : Api_Packet)] : List Api_Packet))) false]) ⟨_, orcs_nil, ?_⟩ ?_
          · subst hz_532; simp only [go_sem, Nat.reduceBEq, Nat.reduceMul, Nat.reduceSub, Nat.reduceGT, Nat.reducePow, Nat.reduceLeDiff, Int.reduceToNat, hc_530]
          refine blockK_n ?_
          refine thenK_n ?_
          refine run_textE0 hE wk_lp [1, 2, 4, 6, 8, 61, 62, 63] (fr' := [(1, i64 now_442), (2, .ref 0 0), (4, .ref 1 0), (6, .ref 2 0), (8, .bs false 3 (l_531.length) 0 (l_531.length)), (61, .sl false (L (cSl cU8) t_499)), (62, i64 t_500), (63, i64 ((w64 (t_509 + 1))))]) (σ' := [.box [i64 p_441.Epoch, i64 p_441.Other, i64 p_441.First, .sl false (L (cSl cU8) p_441.Queue), i64 p_441.Next, .sl false (L cApi_Packet p_441.Early), i64 p_441.SentAt] false, .box [i64 0, i64 0, i64 0, .sl true (L (cSl cU8) ([])), i64 0, .sl true (L cApi_Packet ([])), i64 0] false, .box [i64 p_441.Epoch, i64 p_441.Other, i64 ((-1)), i64 p_441.Next, .sl true (L cU8 ([]))] false, .buf 5 (L cApi_Packet l_531) false, .box [i64 p_441.Epoch, i64 p_441.Other, i64 f_528, i64 p_441.Next, .sl false (L cU8 y_526)] false, .buf 5 (L cApi_Packet (([({ Epoch := p_441.Epoch, To := p_441.Other, Seq := f_528, Ack := p_441.Next, Data := y_526 } : Api_Packet)] : List Api_Packet))) false]) ⟨_, orcs_nil, ?_⟩ ?_
          · simp only [go_sem]
          obtain rfl := Option.some.inj h
          exact lpK_n (((w64 (t_509 + 1)), l_531)) rfl (weak_sel [0, 1, 2, 3] (by decide) rfl (by simp only [go_sem]) (by simp only [go_sem]))
        · replace h := ite_f h hb
          refine run_exit ?_
          refine thenK_x ?_
          obtain rfl := Option.some.inj h
          have ex_x_520 := hxx_524 _ rfl
          subst ex_x_520
          have h := hj_522; clear hj_522
          refine lpK_x ?_
          refine blockK_x ?_
          obtain rfl := Option.some.inj h
          exact joinK_n l_510 rfl ((weak_sel (l' := [(1, i64 now_442), (2, .ref 0 0), (4, .ref 1 0), (8, .bs false 2 (l_510.length) 0 (l_510.length))]) (σ' := [.box [i64 p_441.Epoch, i64 p_441.Other, i64 p_441.First, .sl false (L (cSl cU8) p_441.Queue), i64 p_441.Next, .sl false (L cApi_Packet p_441.Early), i64 p_441.SentAt] false, .box [i64 0, i64 0, i64 0, .sl true (L (cSl cU8) ([])), i64 0, .sl true (L cApi_Packet ([])), i64 0] false, .buf 5 (L cApi_Packet l_510) false]) [0, 1, 3] (by decide) rfl (by simp only [go_sem]) (by simp only [go_sem])).trans (weak_sel [0, 1, 2] (by decide) rfl (by simp only [go_sem]) (by simp only [go_sem])))
      rintro l_494 rfl
      have h := hj_497; clear hj_497
      refine run_textE hE [2, 4, 8] (fr' := [(2, .ref 0 0), (4, .ref 1 0), (8, .bs false 2 (l_494.length) 0 (l_494.length))]) (σ' := [.box [i64 p_441.Epoch, i64 p_441.Other, i64 p_441.First, .sl false (L (cSl cU8) p_441.Queue), i64 p_441.Next, .sl false (L cApi_Packet p_441.Early), i64 now_442] false, .box [i64 0, i64 0, i64 0, .sl true (L (cSl cU8) ([])), i64 0, .sl true (L cApi_Packet ([])), i64 0] false, .buf 5 (L cApi_Packet l_494) false]) ⟨_, orcs_nil, ?_⟩ ?_
      · simp only [go_sem, Nat.reduceLeDiff]
      refine run_textE hE [4, 5] (fr' := [(4, .ref 1 0), (5, .bs false 2 (l_494.length) 0 (l_494.length))]) (σ' := [.box [i64 p_441.Epoch, i64 p_441.Other, i64 p_441.First, .sl false (L (cSl cU8) p_441.Queue), i64 p_441.Next, .sl false (L cApi_Packet p_441.Early), i64 now_442] false, .box [i64 p_441.Epoch, i64 p_441.Other, i64 p_441.First, .sl false (L (cSl cU8) p_441.Queue), i64 p_441.Next, .sl false (L cApi_Packet p_441.Early), i64 now_442] false, .buf 5 (L cApi_Packet l_494) false]) ⟨_, orcs_nil, ?_⟩ ?_
      · simp only [go_sem, Nat.reduceLeDiff]
      refine run_ret ?_
      obtain rfl := Option.some.inj h
      refine wkP_of (Weak.refl _ _) ?_
      refine ret_ok (.inr rfl) ?_
      simp only [go_sem]

end Go.Proofs.Ytomjphpnpcgacaa
/-
  The functions compute just that.
-/
namespace Go.Proofs.Ytomjphpnpcgacaa
open Go.Rv
set_option linter.unusedVariables false
set_option linter.unusedSimpArgs false
set_option maxRecDepth 20000
set_option maxHeartbeats 4000000

theorem r12_Emit_con {p_533 : Api_Peer} {now_534 : Int} {r : Api_Peer × List Api_Packet} (h : r12_Emit p_533 now_534 = some r) : Con B 17 [.agg [i64 p_533.Epoch, i64 p_533.Other, i64 p_533.First, .sl false (L (cSl cU8) p_533.Queue), i64 p_533.Next, .sl false (L cApi_Packet p_533.Early), i64 p_533.SentAt], i64 now_534] [] (fun r' σ' => r' = .tup [.agg [i64 r.1.Epoch, i64 r.1.Other, i64 r.1.First, .sl false (L (cSl cU8) r.1.Queue), i64 r.1.Next, .sl false (L cApi_Packet r.1.Early), i64 r.1.SentAt], .sl false (L cApi_Packet r.2)] ∧ σ' = []) := by
  refine con_walk (N := 82) (rs := [.cell 4 25, .tmp 5]) ok Try.func17 rfl (by decide +kernel) rfl rfl (Nat.le_of_ble_eq_true rfl) (fun F => ?_)
  have hE := ok.env F
  unfold r12_Emit at h
  show Run (B.env F) 0 _ ⟨asFr 82 [(0, .agg [i64 p_533.Epoch, i64 p_533.Other, i64 p_533.First, .sl false (L (cSl cU8) p_533.Queue), i64 p_533.Next, .sl false (L cApi_Packet p_533.Early), i64 p_533.SentAt]), (1, i64 now_534)], []⟩ _
  refine run_wkP ?_
  refine run_textE hE [1, 2, 4] (fr' := [(1, i64 now_534), (2, .ref 0 0), (4, .ref 1 0)]) (σ' := [.box [i64 p_533.Epoch, i64 p_533.Other, i64 p_533.First, .sl false (L (cSl cU8) p_533.Queue), i64 p_533.Next, .sl false (L cApi_Packet p_533.Early), i64 p_533.SentAt] false, .box [i64 0, i64 0, i64 0, .sl true (L (cSl cU8) ([])), i64 0, .sl true (L cApi_Packet ([])), i64 0] false]) ⟨_, orcs_nil, ?_⟩ ?_
  · simp only [go_sem]
  refine run_seq ?_
  replace h := bind_some1 h; obtain ⟨t_537, hv_538, h⟩ := h
  refine run_textW hE [1, 2, 4, 15] (fr' := [(1, i64 now_534), (2, .ref 0 0), (4, .ref 1 0), (15, .bool t_537)]) (σ' := [.box [i64 p_533.Epoch, i64 p_533.Other, i64 p_533.First, .sl false (L (cSl cU8) p_533.Queue), i64 p_533.Next, .sl false (L cApi_Packet p_533.Early), i64 p_533.SentAt] false, .box [i64 0, i64 0, i64 0, .sl true (L (cSl cU8) ([])), i64 0, .sl true (L cApi_Packet ([])), i64 0] false]) ?_ ?_
  · replace hv_538 := bind_some1 hv_538; obtain ⟨y_535, hy_539, hv_538⟩ := hv_538
    rcases Bool.eq_false_or_eq_true ((!y_535)) with hb_540 | hb_540
    · replace hv_538 := ite_t hv_538 hb_540
      have e_hv_538 := Option.some.inj hv_538; subst e_hv_538
      exact ⟨_, [(1, i64 now_534), (2, .ref 0 0), (4, .ref 1 0), (15, .bool true)], [.box [i64 p_533.Epoch, i64 p_533.Other, i64 p_533.First, .sl false (L (cSl cU8) p_533.Queue), i64 p_533.Next, .sl false (L cApi_Packet p_533.Early), i64 p_533.SentAt] false, .box [i64 0, i64 0, i64 0, .sl true (L (cSl cU8) ([])), i64 0, .sl true (L cApi_Packet ([])), i64 0] false], orcs_ok (l := [(9, 40, [.agg [i64 p_533.Epoch, i64 p_533.Other, i64 p_533.First, .sl false (L (cSl cU8) p_533.Queue), i64 p_533.Next, .sl false (L cApi_Packet p_533.Early), i64 p_533.SentAt]], .bool y_535)]) ⟨r12_Valid_con  hy_539, trivial⟩, by simp only [go_sem, hb_540], (weak_sel [0, 1] (by decide) rfl (by simp only [go_sem]) (by simp only [go_sem]))⟩
    · replace hv_538 := ite_f hv_538 hb_540
      replace hv_538 := bind_some1 hv_538; obtain ⟨y_536, hy_541, hv_538⟩ := hv_538
      have e_hv_538 := Option.some.inj hv_538; subst e_hv_538
      exact ⟨_, [(1, i64 now_534), (2, .ref 0 0), (4, .ref 1 0), (15, .bool ((!y_536)))], [.box [i64 p_533.Epoch, i64 p_533.Other, i64 p_533.First, .sl false (L (cSl cU8) p_533.Queue), i64 p_533.Next, .sl false (L cApi_Packet p_533.Early), i64 p_533.SentAt] false, .box [i64 0, i64 0, i64 0, .sl true (L (cSl cU8) ([])), i64 0, .sl true (L cApi_Packet ([])), i64 0] false], orcs_ok (l := [(9, 40, [.agg [i64 p_533.Epoch, i64 p_533.Other, i64 p_533.First, .sl false (L (cSl cU8) p_533.Queue), i64 p_533.Next, .sl false (L cApi_Packet p_533.Early), i64 p_533.SentAt]], .bool y_535), (13, 36, [i64 now_534, i64 0, i64 1073741824], .bool y_536)]) ⟨r12_Valid_con  hy_539, r12_within_con  hy_541, trivial⟩, by simp only [go_sem, hb_540], (weak_sel [0, 1] (by decide) rfl (by simp only [go_sem]) (by simp only [go_sem]))⟩
  refine run_condL (b := t_537) rfl (by decide) (fun hb => ?_) (fun hb => ?_)
  · replace h := ite_t h hb
    refine run_textE hE [4, 5] (fr' := [(4, .ref 1 0), (5, .sl true (L cApi_Packet ([])))]) (σ' := [.box [i64 p_533.Epoch, i64 p_533.Other, i64 p_533.First, .sl false (L (cSl cU8) p_533.Queue), i64 p_533.Next, .sl false (L cApi_Packet p_533.Early), i64 p_533.SentAt] false, .box [i64 p_533.Epoch, i64 p_533.Other, i64 p_533.First, .sl false (L (cSl cU8) p_533.Queue), i64 p_533.Next, .sl false (L cApi_Packet p_533.Early), i64 p_533.SentAt] false]) ⟨_, orcs_nil, ?_⟩ ?_
    · simp only [go_sem, Nat.reduceLeDiff]
    refine run_ret ?_
    refine thenK_r ?_
    obtain rfl := Option.some.inj h
    refine wkP_of (Weak.refl _ _) ?_
    refine ret_ok (.inr rfl) ?_
    simp only [go_sem]
  · replace h := ite_f h hb
    refine run_skip ?_
    refine thenK_n ?_
    refine run_seq ?_
    replace h := bind_some1 h; obtain ⟨t_542, hv_543, h⟩ := h
    refine run_textW hE [1, 2, 4, 38] (fr' := [(1, i64 now_534), (2, .ref 0 0), (4, .ref 1 0), (38, .bool t_542)]) (σ' := [.box [i64 p_533.Epoch, i64 p_533.Other, i64 p_533.First, .sl false (L (cSl cU8) p_533.Queue), i64 p_533.Next, .sl false (L cApi_Packet p_533.Early), i64 p_533.SentAt] false, .box [i64 0, i64 0, i64 0, .sl true (L (cSl cU8) ([])), i64 0, .sl true (L cApi_Packet ([])), i64 0] false]) ?_ ?_
    · rcases Bool.eq_false_or_eq_true (((p_533.Queue.length : Int) == 0)) with hb_544 | hb_544
      · replace hv_543 := ite_t hv_543 hb_544
        have e_hv_543 := Option.some.inj hv_543; subst e_hv_543
        exact ⟨_, [(1, i64 now_534), (2, .ref 0 0), (4, .ref 1 0), (38, .bool true)], [.box [i64 p_533.Epoch, i64 p_533.Other, i64 p_533.First, .sl false (L (cSl cU8) p_533.Queue), i64 p_533.Next, .sl false (L cApi_Packet p_533.Early), i64 p_533.SentAt] false, .box [i64 0, i64 0, i64 0, .sl true (L (cSl cU8) ([])), i64 0, .sl true (L cApi_Packet ([])), i64 0] false], orcs_nil, by simp only [go_sem, hb_544], (weak_sel [0, 1] (by decide) rfl (by simp only [go_sem]) (by simp only [go_sem]))⟩
      · replace hv_543 := ite_f hv_543 hb_544
        rcases Bool.eq_false_or_eq_true ((decide (p_533.SentAt ≥ 0))) with hb_545 | hb_545
        · replace hv_543 := ite_t hv_543 hb_545
          rcases Bool.eq_false_or_eq_true ((decide (p_533.SentAt ≤ now_534))) with hb_546 | hb_546
          · replace hv_543 := ite_t hv_543 hb_546
            have e_hv_543 := Option.some.inj hv_543; subst e_hv_543
            exact ⟨_, [(1, i64 now_534), (2, .ref 0 0), (4, .ref 1 0), (38, .bool ((decide (p_533.SentAt > (w64 (now_534 - 10))))))], [.box [i64 p_533.Epoch, i64 p_533.Other, i64 p_533.First, .sl false (L (cSl cU8) p_533.Queue), i64 p_533.Next, .sl false (L cApi_Packet p_533.Early), i64 p_533.SentAt] false, .box [i64 0, i64 0, i64 0, .sl true (L (cSl cU8) ([])), i64 0, .sl true (L cApi_Packet ([])), i64 0] false], orcs_nil, by simp only [go_sem, hb_544, hb_545, hb_546], (weak_sel [0, 1] (by decide) rfl (by simp only [go_sem]) (by simp only [go_sem]))⟩
          · replace hv_543 := ite_f hv_543 hb_546
            have e_hv_543 := Option.some.inj hv_543; subst e_hv_543
            exact ⟨_, [(1, i64 now_534), (2, .ref 0 0), (4, .ref 1 0), (38, .bool false)], [.box [i64 p_533.Epoch, i64 p_533.Other, i64 p_533.First, .sl false (L (cSl cU8) p_533.Queue), i64 p_533.Next, .sl false (L cApi_Packet p_533.Early), i64 p_533.SentAt] false, .box [i64 0, i64 0, i64 0, .sl true (L (cSl cU8) ([])), i64 0, .sl true (L cApi_Packet ([])), i64 0] false], orcs_nil, by simp only [go_sem, hb_544, hb_545, hb_546], (weak_sel [0, 1] (by decide) rfl (by simp only [go_sem]) (by simp only [go_sem]))⟩
        · replace hv_543 := ite_f hv_543 hb_545
          have e_hv_543 := Option.some.inj hv_543; subst e_hv_543
          exact ⟨_, [(1, i64 now_534), (2, .ref 0 0), (4, .ref 1 0), (38, .bool false)], [.box [i64 p_533.Epoch, i64 p_533.Other, i64 p_533.First, .sl false (L (cSl cU8) p_533.Queue), i64 p_533.Next, .sl false (L cApi_Packet p_533.Early), i64 p_533.SentAt] false, .box [i64 0, i64 0, i64 0, .sl true (L (cSl cU8) ([])), i64 0, .sl true (L cApi_Packet ([])), i64 0] false], orcs_nil, by simp only [go_sem, hb_544, hb_545], (weak_sel [0, 1] (by decide) rfl (by simp only [go_sem]) (by simp only [go_sem]))⟩
    refine run_condL (b := t_542) rfl (by decide) (fun hb => ?_) (fun hb => ?_)
    · replace h := ite_t h hb
      replace h := lt1_some h; obtain ⟨l_547, hz_548, h⟩ := h
      refine run_drawS hE mixed [[], [], [1], [], [3], [], [5], [1, 2, 3, 4, 5, 6], [1, 2, 3, 4, 5, 6, 7], [0], [0, 1, 2, 3, 4, 5, 6, 7, 8, 9]] (by kernel_rfl) [(2, 0), (4, 1), (40, 0), (42, 0), (44, 0)] [] [2, 4, 5, 40, 42, 44] (by kernel_rfl) (fr' := [(2, .ref 0 0), (4, .ref 1 0), (5, .bs true 2 (l_547.length) 0 (l_547.length)), (40, .ref 0 0), (42, .ref 0 1), (44, .ref 0 4)]) (σ' := [.box [i64 p_533.Epoch, i64 p_533.Other, i64 p_533.First, .sl false (L (cSl cU8) p_533.Queue), i64 p_533.Next, .sl false (L cApi_Packet p_533.Early), i64 p_533.SentAt] false, .box [i64 p_533.Epoch, i64 p_533.Other, i64 p_533.First, .sl false (L (cSl cU8) p_533.Queue), i64 p_533.Next, .sl false (L cApi_Packet p_533.Early), i64 p_533.SentAt] false, .buf 5 (L cApi_Packet l_547) false]) ⟨rfl, rfl, rfl, rfl, rfl, trivial⟩ ⟨_, _, orcs_nil, (by simp only [XOk]), ?_⟩ ?_
      · subst hz_548; simp only [go_sem, Nat.reduceBEq, Nat.reduceMul, Nat.reduceSub, Nat.reduceGT, Nat.reducePow, Nat.reduceLeDiff, Int.reduceToNat]
      refine run_ret ?_
      refine thenK_r ?_
      obtain rfl := Option.some.inj h
      refine wkP_of (Weak.refl _ _) ?_
      refine ret_ok (.inr rfl) ?_
      simp only [go_sem]
    · replace h := ite_f h hb
      refine run_skip ?_
      refine thenK_n ?_
      refine run_textE hE [1, 2, 4, 6] (fr' := [(1, i64 now_534), (2, .ref 0 0), (4, .ref 1 0), (6, .sl true (L cApi_Packet ([])))]) (σ' := [.box [i64 p_533.Epoch, i64 p_533.Other, i64 p_533.First, .sl false (L (cSl cU8) p_533.Queue), i64 p_533.Next, .sl false (L cApi_Packet p_533.Early), i64 p_533.SentAt] false, .box [i64 0, i64 0, i64 0, .sl true (L (cSl cU8) ([])), i64 0, .sl true (L cApi_Packet ([])), i64 0] false]) ⟨_, orcs_nil, ?_⟩ ?_
      · simp only [go_sem]
      replace h := bind_some1 h; obtain ⟨j_579, hA_580, hj_581⟩ := h
      refine run_join (fun (v : List Api_Packet) => (⟨asFr 82 [(1, i64 now_534), (2, .ref 0 0), (4, .ref 1 0), (6, .bs false 2 (v.length) 0 (v.length))], [.box [i64 p_533.Epoch, i64 p_533.Other, i64 p_533.First, .sl false (L (cSl cU8) p_533.Queue), i64 p_533.Next, .sl false (L cApi_Packet p_533.Early), i64 p_533.SentAt] false, .box [i64 0, i64 0, i64 0, .sl true (L (cSl cU8) ([])), i64 0, .sl true (L cApi_Packet ([])), i64 0] false, .buf 5 (L cApi_Packet v) false]⟩ : St)) (fun v => v = j_579) ?_ ?_
      · have h := hA_580; clear hA_580
        refine run_textE hE [1, 2, 4, 6, 7] (fr' := [(1, i64 now_534), (2, .ref 0 0), (4, .ref 1 0), (6, .sl true (L cApi_Packet ([]))), (7, i64 0)]) (σ' := [.box [i64 p_533.Epoch, i64 p_533.Other, i64 p_533.First, .sl false (L (cSl cU8) p_533.Queue), i64 p_533.Next, .sl false (L cApi_Packet p_533.Early), i64 p_533.SentAt] false, .box [i64 0, i64 0, i64 0, .sl true (L (cSl cU8) ([])), i64 0, .sl true (L cApi_Packet ([])), i64 0] false]) ⟨_, orcs_nil, ?_⟩ ?_
        · simp only [go_sem]
        refine run_block ?_
        replace h := bind_some1 h; obtain ⟨x_599, hx_600, hj_601⟩ := h
        refine run_loopO hx_600 (fun (v : Int × List Api_Packet) => (⟨asFr 82 [(1, i64 now_534), (2, .ref 0 0), (4, .ref 1 0), (6, .bs false 2 (v.2.length) 0 (v.2.length)), (7, i64 v.1)], [.box [i64 p_533.Epoch, i64 p_533.Other, i64 p_533.First, .sl false (L (cSl cU8) p_533.Queue), i64 p_533.Next, .sl false (L cApi_Packet p_533.Early), i64 p_533.SentAt] false, .box [i64 0, i64 0, i64 0, .sl true (L (cSl cU8) ([])), i64 0, .sl true (L cApi_Packet ([])), i64 0] false, .buf 5 (L cApi_Packet v.2) false]⟩ : St)) ((weak_nil 6 5 rfl).trans (weak_sel [0, 1, 2] (by decide) rfl (by simp only [go_sem]) (by simp only [go_sem]))) ?_
        rintro ⟨i_589, l_590⟩ o_602 h hxx_603
        replace h : r12_Emit_b1 p_533 i_589 l_590 = some o_602 := h
        unfold r12_Emit_b1 at h
        refine run_seq ?_
        replace h := bind_some1 h; obtain ⟨t_604, hv_605, h⟩ := h
        refine run_textW hE [1, 2, 4, 6, 7, 56] (fr' := [(1, i64 now_534), (2, .ref 0 0), (4, .ref 1 0), (6, .bs false 2 (l_590.length) 0 (l_590.length)), (7, i64 i_589), (56, .bool t_604)]) (σ' := [.box [i64 p_533.Epoch, i64 p_533.Other, i64 p_533.First, .sl false (L (cSl cU8) p_533.Queue), i64 p_533.Next, .sl false (L cApi_Packet p_533.Early), i64 p_533.SentAt] false, .box [i64 0, i64 0, i64 0, .sl true (L (cSl cU8) ([])), i64 0, .sl true (L cApi_Packet ([])), i64 0] false, .buf 5 (L cApi_Packet l_590) false]) ?_ ?_
        · rcases Bool.eq_false_or_eq_true ((decide (i_589 < (p_533.Queue.length : Int)))) with hb_606 | hb_606
          · replace hv_605 := ite_t hv_605 hb_606
            have e_hv_605 := Option.some.inj hv_605; subst e_hv_605
            exact ⟨_, [(1, i64 now_534), (2, .ref 0 0), (4, .ref 1 0), (6, .bs false 2 (l_590.length) 0 (l_590.length)), (7, i64 i_589), (56, .bool ((decide (i_589 < 16))))], [.box [i64 p_533.Epoch, i64 p_533.Other, i64 p_533.First, .sl false (L (cSl cU8) p_533.Queue), i64 p_533.Next, .sl false (L cApi_Packet p_533.Early), i64 p_533.SentAt] false, .box [i64 0, i64 0, i64 0, .sl true (L (cSl cU8) ([])), i64 0, .sl true (L cApi_Packet ([])), i64 0] false, .buf 5 (L cApi_Packet l_590) false], orcs_nil, by simp only [go_sem, hb_606], (weak_sel [0, 1, 2] (by decide) rfl (by simp only [go_sem]) (by simp only [go_sem]))⟩
          · replace hv_605 := ite_f hv_605 hb_606
            have e_hv_605 := Option.some.inj hv_605; subst e_hv_605
            exact ⟨_, [(1, i64 now_534), (2, .ref 0 0), (4, .ref 1 0), (6, .bs false 2 (l_590.length) 0 (l_590.length)), (7, i64 i_589), (56, .bool false)], [.box [i64 p_533.Epoch, i64 p_533.Other, i64 p_533.First, .sl false (L (cSl cU8) p_533.Queue), i64 p_533.Next, .sl false (L cApi_Packet p_533.Early), i64 p_533.SentAt] false, .box [i64 0, i64 0, i64 0, .sl true (L (cSl cU8) ([])), i64 0, .sl true (L cApi_Packet ([])), i64 0] false, .buf 5 (L cApi_Packet l_590) false], orcs_nil, by simp only [go_sem, hb_606], (weak_sel [0, 1, 2] (by decide) rfl (by simp only [go_sem]) (by simp only [go_sem]))⟩
        refine run_condL (b := t_604) rfl (by decide) (fun hb => ?_) (fun hb => ?_)
        · replace h := ite_t h hb
          refine run_skip ?_
          refine thenK_n ?_
          refine run_seq ?_
          refine run_block ?_
          replace h := chk_some h; obtain ⟨hc_607, h⟩ := h
          replace h := chk_some h; obtain ⟨hc_608, h⟩ := h
          replace h := lt1_some h; obtain ⟨l_609, hz_610, h⟩ := h
          refine run_drawE0 hE mixed [[], [], [1], [], [3], [], [5], [], [5, 6, 7], [], [9], [], [11], [], [11, 12, 13], [11, 12, 13, 14], [1, 2, 3, 4, 5, 6, 7, 8, 9, 10, 11, 12, 13, 14, 15], [1, 2, 3, 4, 5, 6, 7, 8, 9, 10, 11, 12, 13, 14, 15, 16], [0, 1, 2, 3, 4, 5, 6, 7, 8, 9, 10, 11, 12, 13, 14, 15, 16, 17], [0, 1, 2, 3, 4, 5, 6, 7, 8, 9, 10, 11, 12, 13, 14, 15, 16, 17, 18]] (by kernel_rfl) (by kernel_rfl) (wk_block wk_then) [1, 2, 4, 6, 7] (fr' := [(1, i64 now_534), (2, .ref 0 0), (4, .ref 1 0), (6, .bs false 2 (l_609.length) 0 (l_609.length)), (7, i64 i_589)]) (σ' := [.box [i64 p_533.Epoch, i64 p_533.Other, i64 p_533.First, .sl false (L (cSl cU8) p_533.Queue), i64 p_533.Next, .sl false (L cApi_Packet p_533.Early), i64 p_533.SentAt] false, .box [i64 0, i64 0, i64 0, .sl true (L (cSl cU8) ([])), i64 0, .sl true (L cApi_Packet ([])), i64 0] false, .buf 5 (L cApi_Packet l_609) false, .buf 5 (L cApi_Packet (([({ Epoch := p_533.Epoch, To := p_533.Other, Seq := (w64 (p_533.First + i_589)), Ack := p_533.Next, Data := nth p_533.Queue i_589.toNat } : Api_Packet)] : List Api_Packet))) false]) ⟨_, orcs_nil, ?_⟩ ?_
          · subst hz_610; simp only [go_sem, Nat.reduceBEq, Nat.reduceMul, Nat.reduceSub, Nat.reduceGT, Nat.reducePow, Nat.reduceLeDiff, Int.reduceToNat, hc_607, hc_607.2, lt_le hc_607.2, hc_608]
          refine blockK_n ?_
          refine thenK_n ?_
          refine run_textE0 hE wk_lp [1, 2, 4, 6, 7] (fr' := [(1, i64 now_534), (2, .ref 0 0), (4, .ref 1 0), (6, .bs false 2 (l_609.length) 0 (l_609.length)), (7, i64 ((w64 (i_589 + 1))))]) (σ' := [.box [i64 p_533.Epoch, i64 p_533.Other, i64 p_533.First, .sl false (L (cSl cU8) p_533.Queue), i64 p_533.Next, .sl false (L cApi_Packet p_533.Early), i64 p_533.SentAt] false, .box [i64 0, i64 0, i64 0, .sl true (L (cSl cU8) ([])), i64 0, .sl true (L cApi_Packet ([])), i64 0] false, .buf 5 (L cApi_Packet l_609) false, .buf 5 (L cApi_Packet (([({ Epoch := p_533.Epoch, To := p_533.Other, Seq := (w64 (p_533.First + i_589)), Ack := p_533.Next, Data := nth p_533.Queue i_589.toNat } : Api_Packet)] : List Api_Packet))) false]) ⟨_, orcs_nil, ?_⟩ ?_
          · simp only [go_sem]
          obtain rfl := Option.some.inj h
          exact lpK_n (((w64 (i_589 + 1)), l_609)) rfl (weak_sel [0, 1, 2] (by decide) rfl (by simp only [go_sem]) (by simp only [go_sem]))
        · replace h := ite_f h hb
          refine run_exit ?_
          refine thenK_x ?_
          obtain rfl := Option.some.inj h
          have ex_x_599 := hxx_603 _ rfl
          subst ex_x_599
          have h := hj_601; clear hj_601
          refine lpK_x ?_
          refine blockK_x ?_
          obtain rfl := Option.some.inj h
          exact joinK_n l_590 rfl ((weak_sel (l' := [(1, i64 now_534), (2, .ref 0 0), (4, .ref 1 0), (6, .bs false 2 (l_590.length) 0 (l_590.length))]) (σ' := [.box [i64 p_533.Epoch, i64 p_533.Other, i64 p_533.First, .sl false (L (cSl cU8) p_533.Queue), i64 p_533.Next, .sl false (L cApi_Packet p_533.Early), i64 p_533.SentAt] false, .box [i64 0, i64 0, i64 0, .sl true (L (cSl cU8) ([])), i64 0, .sl true (L cApi_Packet ([])), i64 0] false, .buf 5 (L cApi_Packet l_590) false]) [0, 1, 2] (by decide) rfl (by simp only [go_sem]) (by simp only [go_sem])).trans (weak_sel [0, 1, 2] (by decide) rfl (by simp only [go_sem]) (by simp only [go_sem])))
      rintro l_578 rfl
      have h := hj_581; clear hj_581
      refine run_textE hE [2, 4, 6] (fr' := [(2, .ref 0 0), (4, .ref 1 0), (6, .bs false 2 (l_578.length) 0 (l_578.length))]) (σ' := [.box [i64 p_533.Epoch, i64 p_533.Other, i64 p_533.First, .sl false (L (cSl cU8) p_533.Queue), i64 p_533.Next, .sl false (L cApi_Packet p_533.Early), i64 now_534] false, .box [i64 0, i64 0, i64 0, .sl true (L (cSl cU8) ([])), i64 0, .sl true (L cApi_Packet ([])), i64 0] false, .buf 5 (L cApi_Packet l_578) false]) ⟨_, orcs_nil, ?_⟩ ?_
      · simp only [go_sem, Nat.reduceLeDiff]
      refine run_textE hE [4, 5] (fr' := [(4, .ref 1 0), (5, .bs false 2 (l_578.length) 0 (l_578.length))]) (σ' := [.box [i64 p_533.Epoch, i64 p_533.Other, i64 p_533.First, .sl false (L (cSl cU8) p_533.Queue), i64 p_533.Next, .sl false (L cApi_Packet p_533.Early), i64 now_534] false, .box [i64 p_533.Epoch, i64 p_533.Other, i64 p_533.First, .sl false (L (cSl cU8) p_533.Queue), i64 p_533.Next, .sl false (L cApi_Packet p_533.Early), i64 now_534] false, .buf 5 (L cApi_Packet l_578) false]) ⟨_, orcs_nil, ?_⟩ ?_
      · simp only [go_sem, Nat.reduceLeDiff]
      refine run_ret ?_
      obtain rfl := Option.some.inj h
      refine wkP_of (Weak.refl _ _) ?_
      refine ret_ok (.inr rfl) ?_
      simp only [go_sem]

end Go.Proofs.Ytomjphpnpcgacaa
/-
  The functions compute just that.
-/
namespace Go.Proofs.Ytomjphpnpcgacaa
open Go.Rv
set_option linter.unusedVariables false
set_option linter.unusedSimpArgs false
set_option maxRecDepth 20000
set_option maxHeartbeats 4000000

theorem r12_SamePacket_con {a_611 : Api_Packet} {b_612 : Api_Packet} {r : Bool} (h : r12_SamePacket a_611 b_612 = some r) : Con B 30 [.agg [i64 a_611.Epoch, i64 a_611.To, i64 a_611.Seq, i64 a_611.Ack, .sl false (L cU8 a_611.Data)], .agg [i64 b_612.Epoch, i64 b_612.To, i64 b_612.Seq, i64 b_612.Ack, .sl false (L cU8 b_612.Data)]] [] (fun r' σ' => r' = .bool r ∧ σ' = []) := by
  refine con_walk (N := 40) (rs := [.tmp 4]) ok Try.func30 rfl (by decide +kernel) rfl rfl (Nat.le_of_ble_eq_true rfl) (fun F => ?_)
  have hE := ok.env F
  unfold r12_SamePacket at h
  show Run (B.env F) 0 _ ⟨asFr 40 [(0, .agg [i64 a_611.Epoch, i64 a_611.To, i64 a_611.Seq, i64 a_611.Ack, .sl false (L cU8 a_611.Data)]), (1, .agg [i64 b_612.Epoch, i64 b_612.To, i64 b_612.Seq, i64 b_612.Ack, .sl false (L cU8 b_612.Data)])], []⟩ _
  refine run_wkP ?_
  refine run_textE hE [2, 3] (fr' := [(2, .ref 0 0), (3, .ref 1 0)]) (σ' := [.box [i64 a_611.Epoch, i64 a_611.To, i64 a_611.Seq, i64 a_611.Ack, .sl false (L cU8 a_611.Data)] false, .box [i64 b_612.Epoch, i64 b_612.To, i64 b_612.Seq, i64 b_612.Ack, .sl false (L cU8 b_612.Data)] false]) ⟨_, orcs_nil, ?_⟩ ?_
  · simp only [go_sem]
  replace h := bind_some1 h; obtain ⟨t_613, hv_614, h⟩ := h
  refine run_textW hE [4] (fr' := [(4, .bool t_613)]) (σ' := []) ?_ ?_
  · rcases Bool.eq_false_or_eq_true ((a_611.Epoch == b_612.Epoch)) with hb_615 | hb_615
    · replace hv_614 := ite_t hv_614 hb_615
      rcases Bool.eq_false_or_eq_true ((a_611.To == b_612.To)) with hb_616 | hb_616
      · replace hv_614 := ite_t hv_614 hb_616
        rcases Bool.eq_false_or_eq_true ((a_611.Seq == b_612.Seq)) with hb_617 | hb_617
        · replace hv_614 := ite_t hv_614 hb_617
          rcases Bool.eq_false_or_eq_true ((a_611.Ack == b_612.Ack)) with hb_618 | hb_618
          · replace hv_614 := ite_t hv_614 hb_618
            have e_hv_614 := Option.some.inj hv_614; subst e_hv_614
            exact ⟨_, [(4, .bool ((a_611.Data == b_612.Data)))], [.box [i64 a_611.Epoch, i64 a_611.To, i64 a_611.Seq, i64 a_611.Ack, .sl false (L cU8 a_611.Data)] false, .box [i64 b_612.Epoch, i64 b_612.To, i64 b_612.Seq, i64 b_612.Ack, .sl false (L cU8 b_612.Data)] false], orcs_nil, by simp only [go_sem, hb_615, hb_616, hb_617, hb_618], (weak_sel [] (by decide) rfl (by simp only [go_sem]) (by simp only [go_sem]))⟩
          · replace hv_614 := ite_f hv_614 hb_618
            have e_hv_614 := Option.some.inj hv_614; subst e_hv_614
            exact ⟨_, [(4, .bool false)], [.box [i64 a_611.Epoch, i64 a_611.To, i64 a_611.Seq, i64 a_611.Ack, .sl false (L cU8 a_611.Data)] false, .box [i64 b_612.Epoch, i64 b_612.To, i64 b_612.Seq, i64 b_612.Ack, .sl false (L cU8 b_612.Data)] false], orcs_nil, by simp only [go_sem, hb_615, hb_616, hb_617, hb_618], (weak_sel [] (by decide) rfl (by simp only [go_sem]) (by simp only [go_sem]))⟩
        · replace hv_614 := ite_f hv_614 hb_617
          have e_hv_614 := Option.some.inj hv_614; subst e_hv_614
          exact ⟨_, [(4, .bool false)], [.box [i64 a_611.Epoch, i64 a_611.To, i64 a_611.Seq, i64 a_611.Ack, .sl false (L cU8 a_611.Data)] false, .box [i64 b_612.Epoch, i64 b_612.To, i64 b_612.Seq, i64 b_612.Ack, .sl false (L cU8 b_612.Data)] false], orcs_nil, by simp only [go_sem, hb_615, hb_616, hb_617], (weak_sel [] (by decide) rfl (by simp only [go_sem]) (by simp only [go_sem]))⟩
      · replace hv_614 := ite_f hv_614 hb_616
        have e_hv_614 := Option.some.inj hv_614; subst e_hv_614
        exact ⟨_, [(4, .bool false)], [.box [i64 a_611.Epoch, i64 a_611.To, i64 a_611.Seq, i64 a_611.Ack, .sl false (L cU8 a_611.Data)] false, .box [i64 b_612.Epoch, i64 b_612.To, i64 b_612.Seq, i64 b_612.Ack, .sl false (L cU8 b_612.Data)] false], orcs_nil, by simp only [go_sem, hb_615, hb_616], (weak_sel [] (by decide) rfl (by simp only [go_sem]) (by simp only [go_sem]))⟩
    · replace hv_614 := ite_f hv_614 hb_615
      have e_hv_614 := Option.some.inj hv_614; subst e_hv_614
      exact ⟨_, [(4, .bool false)], [.box [i64 a_611.Epoch, i64 a_611.To, i64 a_611.Seq, i64 a_611.Ack, .sl false (L cU8 a_611.Data)] false, .box [i64 b_612.Epoch, i64 b_612.To, i64 b_612.Seq, i64 b_612.Ack, .sl false (L cU8 b_612.Data)] false], orcs_nil, by simp only [go_sem, hb_615], (weak_sel [] (by decide) rfl (by simp only [go_sem]) (by simp only [go_sem]))⟩
  refine run_ret ?_
  obtain rfl := Option.some.inj h
  refine wkP_of (Weak.refl _ _) ?_
  refine ret_ok (.inr rfl) ?_
  simp only [go_sem]

theorem r12_SamePackets_con {a_619 : List Api_Packet} {b_620 : List Api_Packet} {r : Bool} (h : r12_SamePackets a_619 b_620 = some r) : Con B 19 [.sl false (L cApi_Packet a_619), .sl false (L cApi_Packet b_620)] [] (fun r' σ' => r' = .bool r ∧ σ' = []) := by
  refine con_walk (N := 27) (rs := [.tmp 4]) ok Try.func19 rfl (by decide +kernel) rfl rfl (Nat.le_of_ble_eq_true rfl) (fun F => ?_)
  have hE := ok.env F
  unfold r12_SamePackets at h
  show Run (B.env F) 0 _ ⟨asFr 27 [(0, .sl false (L cApi_Packet a_619)), (1, .sl false (L cApi_Packet b_620))], []⟩ _
  refine run_wkP ?_
  refine run_textE hE [0, 1] (fr' := [(0, .sl false (L cApi_Packet a_619)), (1, .sl false (L cApi_Packet b_620))]) (σ' := []) ⟨_, orcs_nil, ?_⟩ ?_
  · simp only [go_sem]
  refine run_seq ?_
  refine run_textE hE [0, 1, 10] (fr' := [(0, .sl false (L cApi_Packet a_619)), (1, .sl false (L cApi_Packet b_620)), (10, .bool (((a_619.length : Int) != (b_620.length : Int))))]) (σ' := []) ⟨_, orcs_nil, ?_⟩ ?_
  · simp only [go_sem]
  refine run_condL (b := ((a_619.length : Int) != (b_620.length : Int))) rfl (by decide) (fun hb => ?_) (fun hb => ?_)
  · replace h := ite_t h hb
    refine run_textE hE [4] (fr' := [(4, .bool false)]) (σ' := []) ⟨_, orcs_nil, ?_⟩ ?_
    · simp only [go_sem]
    refine run_ret ?_
    refine thenK_r ?_
    obtain rfl := Option.some.inj h
    refine wkP_of (Weak.refl _ _) ?_
    refine ret_ok (.inr rfl) ?_
    simp only [go_sem]
  · replace h := ite_f h hb
    refine run_skip ?_
    refine thenK_n ?_
    replace h := bind_some1 h; obtain ⟨j_645, hA_646, hj_647⟩ := h
    refine run_join (fun (v : Unit) => (⟨asFr 27 [], []⟩ : St)) (fun v => .inl v = j_645) ?_ ?_
    · have h := hA_646; clear hA_646
      refine run_textE hE [0, 1, 5] (fr' := [(0, .sl false (L cApi_Packet a_619)), (1, .sl false (L cApi_Packet b_620)), (5, i64 0)]) (σ' := []) ⟨_, orcs_nil, ?_⟩ ?_
      · simp only [go_sem]
      refine run_block ?_
      replace h := bind_some1 h; obtain ⟨x_661, hx_662, hj_663⟩ := h
      refine run_loopO hx_662 (fun (v : Int) => (⟨asFr 27 [(0, .sl false (L cApi_Packet a_619)), (1, .sl false (L cApi_Packet b_620)), (5, i64 v)], []⟩ : St)) (weak_sel [] (by decide) rfl (by simp only [go_sem]) (by simp only [go_sem])) ?_
      rintro i_654 o_664 h hxx_665
      replace h : r12_SamePackets_b1 a_619 b_620 i_654 = some o_664 := h
      unfold r12_SamePackets_b1 at h
      refine run_seq ?_
      refine run_textE hE [0, 1, 5, 14] (fr' := [(0, .sl false (L cApi_Packet a_619)), (1, .sl false (L cApi_Packet b_620)), (5, i64 i_654), (14, .bool ((decide (i_654 < (a_619.length : Int)))))]) (σ' := []) ⟨_, orcs_nil, ?_⟩ ?_
      · simp only [go_sem]
      refine run_condL (b := (decide (i_654 < (a_619.length : Int)))) rfl (by decide) (fun hb => ?_) (fun hb => ?_)
      · replace h := ite_t h hb
        refine run_skip ?_
        refine thenK_n ?_
        refine run_seq ?_
        refine run_block ?_
        replace h := chk_some h; obtain ⟨hc_667, h⟩ := h
        replace h := chk_some h; obtain ⟨hc_668, h⟩ := h
        replace h := bind_some1 h; obtain ⟨y_666, hy_669, h⟩ := h
        refine run_drawE hE mixed [[], [], [0, 1], [0, 1, 2], [], [], [4, 5], [4, 5, 6], [0, 1, 2, 3, 4, 5, 6, 7], [0, 1, 2, 3, 4, 5, 6, 7, 8]] (by kernel_rfl) (by kernel_rfl) [0, 1, 5, 26] (fr' := [(0, .sl false (L cApi_Packet a_619)), (1, .sl false (L cApi_Packet b_620)), (5, i64 i_654), (26, .bool ((!y_666)))]) (σ' := []) ⟨_, orcs_ok (l := [(25, 30, [.agg [i64 ((nth a_619 i_654.toNat).Epoch), i64 ((nth a_619 i_654.toNat).To), i64 ((nth a_619 i_654.toNat).Seq), i64 ((nth a_619 i_654.toNat).Ack), .sl false (L cU8 ((nth a_619 i_654.toNat).Data))], .agg [i64 ((nth b_620 i_654.toNat).Epoch), i64 ((nth b_620 i_654.toNat).To), i64 ((nth b_620 i_654.toNat).Seq), i64 ((nth b_620 i_654.toNat).Ack), .sl false (L cU8 ((nth b_620 i_654.toNat).Data))]], .bool y_666)]) ⟨r12_SamePacket_con  hy_669, trivial⟩, ?_⟩ ?_
        · simp only [go_sem, Int.reduceToNat, hc_667, hc_667.2, lt_le hc_667.2, hc_668, hc_668.2, lt_le hc_668.2]
        refine run_condL (b := (!y_666)) rfl (by decide) (fun hb => ?_) (fun hb => ?_)
        · replace h := ite_t h hb
          refine run_textE hE [4] (fr' := [(4, .bool false)]) (σ' := []) ⟨_, orcs_nil, ?_⟩ ?_
          · simp only [go_sem]
          refine run_ret ?_
          refine blockK_r ?_
          refine thenK_r ?_
          refine lpK_r ?_
          replace h := bind_some1 h; obtain ⟨z_671, h, e_z_671⟩ := h
          obtain rfl := Option.some.inj e_z_671
          have ex_z_671 := hxx_665 _ rfl
          subst ex_z_671
          obtain rfl := Option.some.inj hj_663
          refine blockK_r ?_
          refine joinK_r ?_
          replace h := bind_some1 h; obtain ⟨z_670, h, e_z_670⟩ := h
          obtain rfl := Option.some.inj e_z_670
          obtain rfl := Option.some.inj hj_647
          obtain rfl := Option.some.inj h
          refine wkP_of (Weak.refl _ _) ?_
          refine ret_ok (.inr rfl) ?_
          simp only [go_sem]
        · replace h := ite_f h hb
          refine run_skip ?_
          refine blockK_n ?_
          refine thenK_n ?_
          refine run_textE0 hE wk_lp [0, 1, 5] (fr' := [(0, .sl false (L cApi_Packet a_619)), (1, .sl false (L cApi_Packet b_620)), (5, i64 ((w64 (i_654 + 1))))]) (σ' := []) ⟨_, orcs_nil, ?_⟩ ?_
          · simp only [go_sem]
          obtain rfl := Option.some.inj h
          exact lpK_n ((w64 (i_654 + 1))) rfl (weak_sel [] (by decide) rfl (by simp only [go_sem]) (by simp only [go_sem]))
      · replace h := ite_f h hb
        refine run_exit ?_
        refine thenK_x ?_
        obtain rfl := Option.some.inj h
        have ex_x_661 := hxx_665 _ rfl
        subst ex_x_661
        have h := hj_663; clear hj_663
        refine lpK_x ?_
        refine blockK_x ?_
        obtain rfl := Option.some.inj h
        exact joinK_n (()) rfl ((weak_sel (l' := []) (σ' := []) [] (by decide) rfl (by simp only [go_sem]) (by simp only [go_sem])).trans (weak_sel [] (by decide) rfl (by simp only [go_sem]) (by simp only [go_sem])))
    rintro ⟨⟩ rfl
    have h := hj_647; clear hj_647
    refine run_textE hE [4] (fr' := [(4, .bool true)]) (σ' := []) ⟨_, orcs_nil, ?_⟩ ?_
    · simp only [go_sem]
    refine run_ret ?_
    obtain rfl := Option.some.inj h
    refine wkP_of (Weak.refl _ _) ?_
    refine ret_ok (.inr rfl) ?_
    simp only [go_sem]

theorem r12_SameMessages_con {a_672 : List (List UInt8)} {b_673 : List (List UInt8)} {r : Bool} (h : r12_SameMessages a_672 b_673 = some r) : Con B 22 [.sl false (L (cSl cU8) a_672), .sl false (L (cSl cU8) b_673)] [] (fun r' σ' => r' = .bool r ∧ σ' = []) := by
  refine con_walk (N := 28) (rs := [.tmp 4]) ok Try.func22 rfl (by decide +kernel) rfl rfl (Nat.le_of_ble_eq_true rfl) (fun F => ?_)
  have hE := ok.env F
  unfold r12_SameMessages at h
  show Run (B.env F) 0 _ ⟨asFr 28 [(0, .sl false (L (cSl cU8) a_672)), (1, .sl false (L (cSl cU8) b_673))], []⟩ _
  refine run_wkP ?_
  refine run_textE hE [0, 1] (fr' := [(0, .sl false (L (cSl cU8) a_672)), (1, .sl false (L (cSl cU8) b_673))]) (σ' := []) ⟨_, orcs_nil, ?_⟩ ?_
  · simp only [go_sem]
  refine run_seq ?_
  refine run_textE hE [0, 1, 10] (fr' := [(0, .sl false (L (cSl cU8) a_672)), (1, .sl false (L (cSl cU8) b_673)), (10, .bool (((a_672.length : Int) != (b_673.length : Int))))]) (σ' := []) ⟨_, orcs_nil, ?_⟩ ?_
  · simp only [go_sem]
  refine run_condL (b := ((a_672.length : Int) != (b_673.length : Int))) rfl (by decide) (fun hb => ?_) (fun hb => ?_)
  · replace h := ite_t h hb
    refine run_textE hE [4] (fr' := [(4, .bool false)]) (σ' := []) ⟨_, orcs_nil, ?_⟩ ?_
    · simp only [go_sem]
    refine run_ret ?_
    refine thenK_r ?_
    obtain rfl := Option.some.inj h
    refine wkP_of (Weak.refl _ _) ?_
    refine ret_ok (.inr rfl) ?_
    simp only [go_sem]
  · replace h := ite_f h hb
    refine run_skip ?_
    refine thenK_n ?_
    replace h := bind_some1 h; obtain ⟨j_692, hA_693, hj_694⟩ := h
    refine run_join (fun (v : Unit) => (⟨asFr 28 [], []⟩ : St)) (fun v => .inl v = j_692) ?_ ?_
    · have h := hA_693; clear hA_693
      refine run_textE hE [0, 1, 5] (fr' := [(0, .sl false (L (cSl cU8) a_672)), (1, .sl false (L (cSl cU8) b_673)), (5, i64 0)]) (σ' := []) ⟨_, orcs_nil, ?_⟩ ?_
      · simp only [go_sem]
      refine run_block ?_
      replace h := bind_some1 h; obtain ⟨x_704, hx_705, hj_706⟩ := h
      refine run_loopO hx_705 (fun (v : Int) => (⟨asFr 28 [(0, .sl false (L (cSl cU8) a_672)), (1, .sl false (L (cSl cU8) b_673)), (5, i64 v)], []⟩ : St)) (weak_sel [] (by decide) rfl (by simp only [go_sem]) (by simp only [go_sem])) ?_
      rintro i_699 o_707 h hxx_708
      replace h : r12_SameMessages_b1 a_672 b_673 i_699 = some o_707 := h
      unfold r12_SameMessages_b1 at h
      refine run_seq ?_
      refine run_textE hE [0, 1, 5, 14] (fr' := [(0, .sl false (L (cSl cU8) a_672)), (1, .sl false (L (cSl cU8) b_673)), (5, i64 i_699), (14, .bool ((decide (i_699 < (a_672.length : Int)))))]) (σ' := []) ⟨_, orcs_nil, ?_⟩ ?_
      · simp only [go_sem]
      refine run_condL (b := (decide (i_699 < (a_672.length : Int)))) rfl (by decide) (fun hb => ?_) (fun hb => ?_)
      · replace h := ite_t h hb
        refine run_skip ?_
        refine thenK_n ?_
        refine run_seq ?_
        refine run_block ?_
        replace h := chk_some h; obtain ⟨hc_709, h⟩ := h
        replace h := chk_some h; obtain ⟨hc_710, h⟩ := h
        refine run_drawE hE mixed [[], [], [0, 1], [0, 1, 2], [0, 1, 2, 3], [], [], [5, 6], [5, 6, 7], [5, 6, 7, 8], [0, 1, 2, 3, 4, 5, 6, 7, 8, 9]] (by kernel_rfl) (by kernel_rfl) [0, 1, 5, 27] (fr' := [(0, .sl false (L (cSl cU8) a_672)), (1, .sl false (L (cSl cU8) b_673)), (5, i64 i_699), (27, .bool ((!((nth a_672 i_699.toNat) == (nth b_673 i_699.toNat)))))]) (σ' := []) ⟨_, orcs_nil, ?_⟩ ?_
        · simp only [go_sem, Int.reduceToNat, hc_709, hc_709.2, lt_le hc_709.2, hc_710, hc_710.2, lt_le hc_710.2]
        refine run_condL (b := (!((nth a_672 i_699.toNat) == (nth b_673 i_699.toNat)))) rfl (by decide) (fun hb => ?_) (fun hb => ?_)
        · replace h := ite_t h hb
          refine run_textE hE [4] (fr' := [(4, .bool false)]) (σ' := []) ⟨_, orcs_nil, ?_⟩ ?_
          · simp only [go_sem]
          refine run_ret ?_
          refine blockK_r ?_
          refine thenK_r ?_
          refine lpK_r ?_
          replace h := bind_some1 h; obtain ⟨z_712, h, e_z_712⟩ := h
          obtain rfl := Option.some.inj e_z_712
          have ex_z_712 := hxx_708 _ rfl
          subst ex_z_712
          obtain rfl := Option.some.inj hj_706
          refine blockK_r ?_
          refine joinK_r ?_
          replace h := bind_some1 h; obtain ⟨z_711, h, e_z_711⟩ := h
          obtain rfl := Option.some.inj e_z_711
          obtain rfl := Option.some.inj hj_694
          obtain rfl := Option.some.inj h
          refine wkP_of (Weak.refl _ _) ?_
          refine ret_ok (.inr rfl) ?_
          simp only [go_sem]
        · replace h := ite_f h hb
          refine run_skip ?_
          refine blockK_n ?_
          refine thenK_n ?_
          refine run_textE0 hE wk_lp [0, 1, 5] (fr' := [(0, .sl false (L (cSl cU8) a_672)), (1, .sl false (L (cSl cU8) b_673)), (5, i64 ((w64 (i_699 + 1))))]) (σ' := []) ⟨_, orcs_nil, ?_⟩ ?_
          · simp only [go_sem]
          obtain rfl := Option.some.inj h
          exact lpK_n ((w64 (i_699 + 1))) rfl (weak_sel [] (by decide) rfl (by simp only [go_sem]) (by simp only [go_sem]))
      · replace h := ite_f h hb
        refine run_exit ?_
        refine thenK_x ?_
        obtain rfl := Option.some.inj h
        have ex_x_704 := hxx_708 _ rfl
        subst ex_x_704
        have h := hj_706; clear hj_706
        refine lpK_x ?_
        refine blockK_x ?_
        obtain rfl := Option.some.inj h
        exact joinK_n (()) rfl ((weak_sel (l' := []) (σ' := []) [] (by decide) rfl (by simp only [go_sem]) (by simp only [go_sem])).trans (weak_sel [] (by decide) rfl (by simp only [go_sem]) (by simp only [go_sem])))
    rintro ⟨⟩ rfl
    have h := hj_694; clear hj_694
    refine run_textE hE [4] (fr' := [(4, .bool true)]) (σ' := []) ⟨_, orcs_nil, ?_⟩ ?_
    · simp only [go_sem]
    refine run_ret ?_
    obtain rfl := Option.some.inj h
    refine wkP_of (Weak.refl _ _) ?_
    refine ret_ok (.inr rfl) ?_
    simp only [go_sem]

end Go.Proofs.Ytomjphpnpcgacaa
/-
  The functions compute just that.
-/
namespace Go.Proofs.Ytomjphpnpcgacaa
open Go.Rv
set_option linter.unusedVariables false
set_option linter.unusedSimpArgs false
set_option maxRecDepth 20000
set_option maxHeartbeats 4000000

theorem r12_Same_con {a_713 : Api_Peer} {b_714 : Api_Peer} {r : Bool} (h : r12_Same a_713 b_714 = some r) : Con B 18 [.agg [i64 a_713.Epoch, i64 a_713.Other, i64 a_713.First, .sl false (L (cSl cU8) a_713.Queue), i64 a_713.Next, .sl false (L cApi_Packet a_713.Early), i64 a_713.SentAt], .agg [i64 b_714.Epoch, i64 b_714.Other, i64 b_714.First, .sl false (L (cSl cU8) b_714.Queue), i64 b_714.Next, .sl false (L cApi_Packet b_714.Early), i64 b_714.SentAt]] [] (fun r' σ' => r' = .bool r ∧ σ' = []) := by
  refine con_walk (N := 52) (rs := [.tmp 4]) ok Try.func18 rfl (by decide +kernel) rfl rfl (Nat.le_of_ble_eq_true rfl) (fun F => ?_)
  have hE := ok.env F
  unfold r12_Same at h
  show Run (B.env F) 0 _ ⟨asFr 52 [(0, .agg [i64 a_713.Epoch, i64 a_713.Other, i64 a_713.First, .sl false (L (cSl cU8) a_713.Queue), i64 a_713.Next, .sl false (L cApi_Packet a_713.Early), i64 a_713.SentAt]), (1, .agg [i64 b_714.Epoch, i64 b_714.Other, i64 b_714.First, .sl false (L (cSl cU8) b_714.Queue), i64 b_714.Next, .sl false (L cApi_Packet b_714.Early), i64 b_714.SentAt])], []⟩ _
  refine run_wkP ?_
  refine run_textE hE [2, 3] (fr' := [(2, .ref 0 0), (3, .ref 1 0)]) (σ' := [.box [i64 a_713.Epoch, i64 a_713.Other, i64 a_713.First, .sl false (L (cSl cU8) a_713.Queue), i64 a_713.Next, .sl false (L cApi_Packet a_713.Early), i64 a_713.SentAt] false, .box [i64 b_714.Epoch, i64 b_714.Other, i64 b_714.First, .sl false (L (cSl cU8) b_714.Queue), i64 b_714.Next, .sl false (L cApi_Packet b_714.Early), i64 b_714.SentAt] false]) ⟨_, orcs_nil, ?_⟩ ?_
  · simp only [go_sem]
  replace h := bind_some1 h; obtain ⟨t_717, hv_718, h⟩ := h
  refine run_textW hE [4] (fr' := [(4, .bool t_717)]) (σ' := []) ?_ ?_
  · rcases Bool.eq_false_or_eq_true ((a_713.Epoch == b_714.Epoch)) with hb_719 | hb_719
    · replace hv_718 := ite_t hv_718 hb_719
      rcases Bool.eq_false_or_eq_true ((a_713.Other == b_714.Other)) with hb_720 | hb_720
      · replace hv_718 := ite_t hv_718 hb_720
        rcases Bool.eq_false_or_eq_true ((a_713.First == b_714.First)) with hb_721 | hb_721
        · replace hv_718 := ite_t hv_718 hb_721
          rcases Bool.eq_false_or_eq_true ((a_713.Next == b_714.Next)) with hb_722 | hb_722
          · replace hv_718 := ite_t hv_718 hb_722
            rcases Bool.eq_false_or_eq_true ((a_713.SentAt == b_714.SentAt)) with hb_723 | hb_723
            · replace hv_718 := ite_t hv_718 hb_723
              replace hv_718 := bind_some1 hv_718; obtain ⟨y_715, hy_724, hv_718⟩ := hv_718
              rcases Bool.eq_false_or_eq_true y_715 with hb_725 | hb_725
              · replace hv_718 := ite_t hv_718 hb_725
                replace hv_718 := bind_some1 hv_718; obtain ⟨y_716, hy_726, hv_718⟩ := hv_718
                have e_hv_718 := Option.some.inj hv_718; subst e_hv_718
                exact ⟨_, [(4, .bool y_716)], [.box [i64 a_713.Epoch, i64 a_713.Other, i64 a_713.First, .sl false (L (cSl cU8) a_713.Queue), i64 a_713.Next, .sl false (L cApi_Packet a_713.Early), i64 a_713.SentAt] false, .box [i64 b_714.Epoch, i64 b_714.Other, i64 b_714.First, .sl false (L (cSl cU8) b_714.Queue), i64 b_714.Next, .sl false (L cApi_Packet b_714.Early), i64 b_714.SentAt] false], orcs_ok (l := [(43, 22, [.sl false (L (cSl cU8) a_713.Queue), .sl false (L (cSl cU8) b_714.Queue)], .bool y_715), (50, 19, [.sl false (L cApi_Packet a_713.Early), .sl false (L cApi_Packet b_714.Early)], .bool y_716)]) ⟨r12_SameMessages_con  hy_724, r12_SamePackets_con  hy_726, trivial⟩, by simp only [go_sem, hb_719, hb_720, hb_721, hb_722, hb_723, hb_725], (weak_sel [] (by decide) rfl (by simp only [go_sem]) (by simp only [go_sem]))⟩
              · replace hv_718 := ite_f hv_718 hb_725
                have e_hv_718 := Option.some.inj hv_718; subst e_hv_718
                exact ⟨_, [(4, .bool false)], [.box [i64 a_713.Epoch, i64 a_713.Other, i64 a_713.First, .sl false (L (cSl cU8) a_713.Queue), i64 a_713.Next, .sl false (L cApi_Packet a_713.Early), i64 a_713.SentAt] false, .box [i64 b_714.Epoch, i64 b_714.Other, i64 b_714.First, .sl false (L (cSl cU8) b_714.Queue), i64 b_714.Next, .sl false (L cApi_Packet b_714.Early), i64 b_714.SentAt] false], orcs_ok (l := [(43, 22, [.sl false (L (cSl cU8) a_713.Queue), .sl false (L (cSl cU8) b_714.Queue)], .bool y_715)]) ⟨r12_SameMessages_con  hy_724, trivial⟩, by simp only [go_sem, hb_719, hb_720, hb_721, hb_722, hb_723, hb_725], (weak_sel [] (by decide) rfl (by simp only [go_sem]) (by simp only [go_sem]))⟩
            · replace hv_718 := ite_f hv_718 hb_723
              have e_hv_718 := Option.some.inj hv_718; subst e_hv_718
              exact ⟨_, [(4, .bool false)], [.box [i64 a_713.Epoch, i64 a_713.Other, i64 a_713.First, .sl false (L (cSl cU8) a_713.Queue), i64 a_713.Next, .sl false (L cApi_Packet a_713.Early), i64 a_713.SentAt] false, .box [i64 b_714.Epoch, i64 b_714.Other, i64 b_714.First, .sl false (L (cSl cU8) b_714.Queue), i64 b_714.Next, .sl false (L cApi_Packet b_714.Early), i64 b_714.SentAt] false], orcs_nil, by simp only [go_sem, hb_719, hb_720, hb_721, hb_722, hb_723], (weak_sel [] (by decide) rfl (by simp only [go_sem]) (by simp only [go_sem]))⟩
          · replace hv_718 := ite_f hv_718 hb_722
            have e_hv_718 := Option.some.inj hv_718; subst e_hv_718
            exact ⟨_, [(4, .bool false)], [.box [i64 a_713.Epoch, i64 a_713.Other, i64 a_713.First, .sl false (L (cSl cU8) a_713.Queue), i64 a_713.Next, .sl false (L cApi_Packet a_713.Early), i64 a_713.SentAt] false, .box [i64 b_714.Epoch, i64 b_714.Other, i64 b_714.First, .sl false (L (cSl cU8) b_714.Queue), i64 b_714.Next, .sl false (L cApi_Packet b_714.Early), i64 b_714.SentAt] false], orcs_nil, by simp only [go_sem, hb_719, hb_720, hb_721, hb_722], (weak_sel [] (by decide) rfl (by simp only [go_sem]) (by simp only [go_sem]))⟩
        · replace hv_718 := ite_f hv_718 hb_721
          have e_hv_718 := Option.some.inj hv_718; subst e_hv_718
          exact ⟨_, [(4, .bool false)], [.box [i64 a_713.Epoch, i64 a_713.Other, i64 a_713.First, .sl false (L (cSl cU8) a_713.Queue), i64 a_713.Next, .sl false (L cApi_Packet a_713.Early), i64 a_713.SentAt] false, .box [i64 b_714.Epoch, i64 b_714.Other, i64 b_714.First, .sl false (L (cSl cU8) b_714.Queue), i64 b_714.Next, .sl false (L cApi_Packet b_714.Early), i64 b_714.SentAt] false], orcs_nil, by simp only [go_sem, hb_719, hb_720, hb_721], (weak_sel [] (by decide) rfl (by simp only [go_sem]) (by simp only [go_sem]))⟩
      · replace hv_718 := ite_f hv_718 hb_720
        have e_hv_718 := Option.some.inj hv_718; subst e_hv_718
        exact ⟨_, [(4, .bool false)], [.box [i64 a_713.Epoch, i64 a_713.Other, i64 a_713.First, .sl false (L (cSl cU8) a_713.Queue), i64 a_713.Next, .sl false (L cApi_Packet a_713.Early), i64 a_713.SentAt] false, .box [i64 b_714.Epoch, i64 b_714.Other, i64 b_714.First, .sl false (L (cSl cU8) b_714.Queue), i64 b_714.Next, .sl false (L cApi_Packet b_714.Early), i64 b_714.SentAt] false], orcs_nil, by simp only [go_sem, hb_719, hb_720], (weak_sel [] (by decide) rfl (by simp only [go_sem]) (by simp only [go_sem]))⟩
    · replace hv_718 := ite_f hv_718 hb_719
      have e_hv_718 := Option.some.inj hv_718; subst e_hv_718
      exact ⟨_, [(4, .bool false)], [.box [i64 a_713.Epoch, i64 a_713.Other, i64 a_713.First, .sl false (L (cSl cU8) a_713.Queue), i64 a_713.Next, .sl false (L cApi_Packet a_713.Early), i64 a_713.SentAt] false, .box [i64 b_714.Epoch, i64 b_714.Other, i64 b_714.First, .sl false (L (cSl cU8) b_714.Queue), i64 b_714.Next, .sl false (L cApi_Packet b_714.Early), i64 b_714.SentAt] false], orcs_nil, by simp only [go_sem, hb_719], (weak_sel [] (by decide) rfl (by simp only [go_sem]) (by simp only [go_sem]))⟩
  refine run_ret ?_
  obtain rfl := Option.some.inj h
  refine wkP_of (Weak.refl _ _) ?_
  refine ret_ok (.inr rfl) ?_
  simp only [go_sem]

end Go.Proofs.Ytomjphpnpcgacaa
/-
  The functions compute just that.
-/
namespace Go.Proofs.Ytomjphpnpcgacaa
open Go.Rv
set_option linter.unusedVariables false
set_option linter.unusedSimpArgs false
set_option maxRecDepth 20000
set_option maxHeartbeats 4000000

theorem r12_insert_con {l_727 : List Api_Packet} {k_728 : Api_Packet} {r : List Api_Packet} (h : r12_insert l_727 k_728 = some r) : Con B 45 [.sl false (L cApi_Packet l_727), .agg [i64 k_728.Epoch, i64 k_728.To, i64 k_728.Seq, i64 k_728.Ack, .sl false (L cU8 k_728.Data)]] [] (fun r' σ' => r' = .sl false (L cApi_Packet r) ∧ σ' = []) := by
  refine con_walk (N := 52) (rs := [.tmp 4]) ok Try.func45 rfl (by decide +kernel) rfl rfl (Nat.le_of_ble_eq_true rfl) (fun F => ?_)
  have hE := ok.env F
  unfold r12_insert at h
  show Run (B.env F) 0 _ ⟨asFr 52 [(0, .sl false (L cApi_Packet l_727)), (1, .agg [i64 k_728.Epoch, i64 k_728.To, i64 k_728.Seq, i64 k_728.Ack, .sl false (L cU8 k_728.Data)])], []⟩ _
  refine run_wkP ?_
  refine run_textE hE [0, 3] (fr' := [(0, .sl false (L cApi_Packet l_727)), (3, .ref 0 0)]) (σ' := [.box [i64 k_728.Epoch, i64 k_728.To, i64 k_728.Seq, i64 k_728.Ack, .sl false (L cU8 k_728.Data)] false]) ⟨_, orcs_nil, ?_⟩ ?_
  · simp only [go_sem]
  refine run_textE hE [0, 3, 5] (fr' := [(0, .sl false (L cApi_Packet l_727)), (3, .ref 0 0), (5, .sl true (L cApi_Packet ([])))]) (σ' := [.box [i64 k_728.Epoch, i64 k_728.To, i64 k_728.Seq, i64 k_728.Ack, .sl false (L cU8 k_728.Data)] false]) ⟨_, orcs_nil, ?_⟩ ?_
  · simp only [go_sem]
  refine run_textE hE [0, 3, 5, 6] (fr' := [(0, .sl false (L cApi_Packet l_727)), (3, .ref 0 0), (5, .sl true (L cApi_Packet ([]))), (6, .bool false)]) (σ' := [.box [i64 k_728.Epoch, i64 k_728.To, i64 k_728.Seq, i64 k_728.Ack, .sl false (L cU8 k_728.Data)] false]) ⟨_, orcs_nil, ?_⟩ ?_
  · simp only [go_sem]
  replace h := bind_some1 h; obtain ⟨j_828, hA_829, hj_830⟩ := h
  refine run_join (fun (v : Bool × List Api_Packet) => (⟨asFr 52 [(3, .ref 0 0), (5, .bs false 1 (v.2.length) 0 (v.2.length)), (6, .bool v.1)], [.box [i64 k_728.Epoch, i64 k_728.To, i64 k_728.Seq, i64 k_728.Ack, .sl false (L cU8 k_728.Data)] false, .buf 5 (L cApi_Packet v.2) false]⟩ : St)) (fun v => v = j_828) ?_ ?_
  · have h := hA_829; clear hA_829
    refine run_textE hE [0, 3, 5, 6, 7] (fr' := [(0, .sl false (L cApi_Packet l_727)), (3, .ref 0 0), (5, .sl true (L cApi_Packet ([]))), (6, .bool false), (7, i64 0)]) (σ' := [.box [i64 k_728.Epoch, i64 k_728.To, i64 k_728.Seq, i64 k_728.Ack, .sl false (L cU8 k_728.Data)] false]) ⟨_, orcs_nil, ?_⟩ ?_
    · simp only [go_sem]
    refine run_block ?_
    replace h := bind_some1 h; obtain ⟨x_894, hx_895, hj_896⟩ := h
    refine run_loopO hx_895 (fun (v : Bool × Int × List Api_Packet) => (⟨asFr 52 [(0, .sl false (L cApi_Packet l_727)), (3, .ref 0 0), (5, .bs false 1 (v.2.2.length) 0 (v.2.2.length)), (6, .bool v.1), (7, i64 v.2.1)], [.box [i64 k_728.Epoch, i64 k_728.To, i64 k_728.Seq, i64 k_728.Ack, .sl false (L cU8 k_728.Data)] false, .buf 5 (L cApi_Packet v.2.2) false]⟩ : St)) ((weak_nil 5 5 rfl).trans (weak_sel [0, 1] (by decide) rfl (by simp only [go_sem]) (by simp only [go_sem]))) ?_
    rintro ⟨done_860, i_861, l_862⟩ o_897 h hxx_898
    replace h : r12_insert_b1 l_727 k_728 done_860 i_861 l_862 = some o_897 := h
    unfold r12_insert_b1 at h
    refine run_seq ?_
    refine run_textE hE [0, 3, 5, 6, 7, 11] (fr' := [(0, .sl false (L cApi_Packet l_727)), (3, .ref 0 0), (5, .bs false 1 (l_862.length) 0 (l_862.length)), (6, .bool done_860), (7, i64 i_861), (11, .bool ((decide (i_861 < (l_727.length : Int)))))]) (σ' := [.box [i64 k_728.Epoch, i64 k_728.To, i64 k_728.Seq, i64 k_728.Ack, .sl false (L cU8 k_728.Data)] false, .buf 5 (L cApi_Packet l_862) false]) ⟨_, orcs_nil, ?_⟩ ?_
    · simp only [go_sem]
    refine run_condL (b := (decide (i_861 < (l_727.length : Int)))) rfl (by decide) (fun hb => ?_) (fun hb => ?_)
    · replace h := ite_t h hb
      refine run_skip ?_
      refine thenK_n ?_
      refine run_seq ?_
      refine run_block ?_
      replace h := bind_some1 h; obtain ⟨j_901, hA_902, hj_903⟩ := h
      refine run_join (fun (v : Bool) => (⟨asFr 52 [(0, .sl false (L cApi_Packet l_727)), (3, .ref 0 0), (5, .bs false 1 (l_862.length) 0 (l_862.length)), (6, .bool v), (7, i64 i_861)], [.box [i64 k_728.Epoch, i64 k_728.To, i64 k_728.Seq, i64 k_728.Ack, .sl false (L cU8 k_728.Data)] false, .buf 5 (L cApi_Packet l_862) false]⟩ : St)) (fun v => v = j_901) ?_ ?_
      · have h := hA_902; clear hA_902
        replace h := chk_some h; obtain ⟨hc_904, h⟩ := h
        refine run_drawE hE mixed [[], [], [0, 1], [0, 1, 2], [0, 1, 2, 3], [], [5], [0, 1, 2, 3, 4, 5, 6]] (by kernel_rfl) (by kernel_rfl) [0, 3, 5, 6, 7, 21] (fr' := [(0, .sl false (L cApi_Packet l_727)), (3, .ref 0 0), (5, .bs false 1 (l_862.length) 0 (l_862.length)), (6, .bool done_860), (7, i64 i_861), (21, .bool (((nth l_727 i_861.toNat).Seq == k_728.Seq)))]) (σ' := [.box [i64 k_728.Epoch, i64 k_728.To, i64 k_728.Seq, i64 k_728.Ack, .sl false (L cU8 k_728.Data)] false, .buf 5 (L cApi_Packet l_862) false]) ⟨_, orcs_nil, ?_⟩ ?_
        · simp only [go_sem, Int.reduceToNat, hc_904, hc_904.2, lt_le hc_904.2]
        refine run_condL (b := ((nth l_727 i_861.toNat).Seq == k_728.Seq)) rfl (by decide) (fun hb => ?_) (fun hb => ?_)
        · replace h := ite_t h hb
          refine run_textE0 hE wk_join [0, 3, 5, 6, 7] (fr' := [(0, .sl false (L cApi_Packet l_727)), (3, .ref 0 0), (5, .bs false 1 (l_862.length) 0 (l_862.length)), (6, .bool true), (7, i64 i_861)]) (σ' := [.box [i64 k_728.Epoch, i64 k_728.To, i64 k_728.Seq, i64 k_728.Ack, .sl false (L cU8 k_728.Data)] false, .buf 5 (L cApi_Packet l_862) false]) ⟨_, orcs_nil, ?_⟩ ?_
          · simp only [go_sem]
          obtain rfl := Option.some.inj h
          exact joinK_n true rfl (weak_sel [0, 1] (by decide) rfl (by simp only [go_sem]) (by simp only [go_sem]))
        · replace h := ite_f h hb
          refine run_skip ?_
          obtain rfl := Option.some.inj h
          exact joinK_n done_860 rfl (weak_sel [0, 1] (by decide) rfl (by simp only [go_sem]) (by simp only [go_sem]))
      rintro done_900 rfl
      have h := hj_903; clear hj_903
      replace h := bind_some1 h; obtain ⟨j_914, hA_915, hj_916⟩ := h
      refine run_join (fun (v : Bool × List Api_Packet) => (⟨asFr 52 [(0, .sl false (L cApi_Packet l_727)), (3, .ref 0 0), (5, .bs false 1 (v.2.length) 0 (v.2.length)), (6, .bool v.1), (7, i64 i_861)], [.box [i64 k_728.Epoch, i64 k_728.To, i64 k_728.Seq, i64 k_728.Ack, .sl false (L cU8 k_728.Data)] false, .buf 5 (L cApi_Packet v.2) false]⟩ : St)) (fun v => v = j_914) ?_ ?_
      · have h := hA_915; clear hA_915
        replace h := bind_some1 h; obtain ⟨t_917, hv_918, h⟩ := h
        refine run_drawW hE mixed [[], [], [0, 1], [0, 1, 2], [0, 1, 2, 3], [], [5], [0, 1, 2, 3, 4, 5, 6], [0, 1, 2, 3, 4, 5, 6, 7], [0, 1, 2, 3, 4, 5, 6, 7, 8], [0, 1, 2, 3, 4, 5, 6, 7, 8, 9], [0, 1, 2, 3, 4, 5, 6, 7, 8, 9, 10]] (by kernel_rfl) (by kernel_rfl) [0, 3, 5, 6, 7, 33] (fr' := [(0, .sl false (L cApi_Packet l_727)), (3, .ref 0 0), (5, .bs false 1 (l_862.length) 0 (l_862.length)), (6, .bool done_900), (7, i64 i_861), (33, .bool t_917)]) (σ' := [.box [i64 k_728.Epoch, i64 k_728.To, i64 k_728.Seq, i64 k_728.Ack, .sl false (L cU8 k_728.Data)] false, .buf 5 (L cApi_Packet l_862) false]) ?_ ?_
        · replace hv_918 := chk_some hv_918; obtain ⟨hc_919, hv_918⟩ := hv_918
          rcases Bool.eq_false_or_eq_true ((decide ((nth l_727 i_861.toNat).Seq > k_728.Seq))) with hb_920 | hb_920
          · replace hv_918 := ite_t hv_918 hb_920
            have e_hv_918 := Option.some.inj hv_918; subst e_hv_918
            exact ⟨_, [(0, .sl false (L cApi_Packet l_727)), (3, .ref 0 0), (5, .bs false 1 (l_862.length) 0 (l_862.length)), (6, .bool done_900), (7, i64 i_861), (33, .bool ((!done_900)))], [.box [i64 k_728.Epoch, i64 k_728.To, i64 k_728.Seq, i64 k_728.Ack, .sl false (L cU8 k_728.Data)] false, .buf 5 (L cApi_Packet l_862) false], orcs_nil, by simp only [go_sem, Int.reduceToNat, hc_919, hc_919.2, lt_le hc_919.2, hb_920], (weak_sel [0, 1] (by decide) rfl (by simp only [go_sem]) (by simp only [go_sem]))⟩
          · replace hv_918 := ite_f hv_918 hb_920
            have e_hv_918 := Option.some.inj hv_918; subst e_hv_918
            exact ⟨_, [(0, .sl false (L cApi_Packet l_727)), (3, .ref 0 0), (5, .bs false 1 (l_862.length) 0 (l_862.length)), (6, .bool done_900), (7, i64 i_861), (33, .bool false)], [.box [i64 k_728.Epoch, i64 k_728.To, i64 k_728.Seq, i64 k_728.Ack, .sl false (L cU8 k_728.Data)] false, .buf 5 (L cApi_Packet l_862) false], orcs_nil, by simp only [go_sem, Int.reduceToNat, hc_919, hc_919.2, lt_le hc_919.2, hb_920], (weak_sel [0, 1] (by decide) rfl (by simp only [go_sem]) (by simp only [go_sem]))⟩
        refine run_condL (b := t_917) rfl (by decide) (fun hb => ?_) (fun hb => ?_)
        · replace h := ite_t h hb
          replace h := chk_some h; obtain ⟨hc_921, h⟩ := h
          replace h := lt1_some h; obtain ⟨l_922, hz_923, h⟩ := h
          refine run_textE hE [0, 3, 5, 7] (fr' := [(0, .sl false (L cApi_Packet l_727)), (3, .ref 0 0), (5, .bs false 1 (l_922.length) 0 (l_922.length)), (7, i64 i_861)]) (σ' := [.box [i64 k_728.Epoch, i64 k_728.To, i64 k_728.Seq, i64 k_728.Ack, .sl false (L cU8 k_728.Data)] false, .buf 5 (L cApi_Packet l_922) false, .buf 5 (L cApi_Packet (([k_728] : List Api_Packet))) false]) ⟨_, orcs_nil, ?_⟩ ?_
          · subst hz_923; simp only [go_sem, Nat.reduceBEq, Nat.reduceMul, Nat.reduceSub, Nat.reduceGT, Nat.reducePow, Nat.reduceLeDiff, Int.reduceToNat, hc_921]
          refine run_textE0 hE wk_join [0, 3, 5, 6, 7] (fr' := [(0, .sl false (L cApi_Packet l_727)), (3, .ref 0 0), (5, .bs false 1 (l_922.length) 0 (l_922.length)), (6, .bool true), (7, i64 i_861)]) (σ' := [.box [i64 k_728.Epoch, i64 k_728.To, i64 k_728.Seq, i64 k_728.Ack, .sl false (L cU8 k_728.Data)] false, .buf 5 (L cApi_Packet l_922) false, .buf 5 (L cApi_Packet (([k_728] : List Api_Packet))) false]) ⟨_, orcs_nil, ?_⟩ ?_
          · simp only [go_sem]
          obtain rfl := Option.some.inj h
          exact joinK_n ((true, l_922)) rfl (weak_sel [0, 1] (by decide) rfl (by simp only [go_sem]) (by simp only [go_sem]))
        · replace h := ite_f h hb
          refine run_skip ?_
          obtain rfl := Option.some.inj h
          exact joinK_n ((done_900, l_862)) rfl (weak_sel [0, 1] (by decide) rfl (by simp only [go_sem]) (by simp only [go_sem]))
      rintro ⟨done_912, l_913⟩ rfl
      have h := hj_916; clear hj_916
      replace h := chk_some h; obtain ⟨hc_924, h⟩ := h
      replace h := chk_some h; obtain ⟨hc_925, h⟩ := h
      replace h := lt1_some h; obtain ⟨l_926, hz_927, h⟩ := h
      refine run_textE0 hE (wk_block wk_then) [0, 3, 5, 6, 7] (fr' := [(0, .sl false (L cApi_Packet l_727)), (3, .ref 0 0), (5, .bs false 1 (l_926.length) 0 (l_926.length)), (6, .bool done_912), (7, i64 i_861)]) (σ' := [.box [i64 k_728.Epoch, i64 k_728.To, i64 k_728.Seq, i64 k_728.Ack, .sl false (L cU8 k_728.Data)] false, .buf 5 (L cApi_Packet l_926) false, .buf 5 (L cApi_Packet (([nth l_727 i_861.toNat] : List Api_Packet))) false]) ⟨_, orcs_nil, ?_⟩ ?_
      · subst hz_927; simp only [go_sem, Nat.reduceBEq, Nat.reduceMul, Nat.reduceSub, Nat.reduceGT, Nat.reducePow, Nat.reduceLeDiff, Int.reduceToNat, hc_924, hc_924.2, lt_le hc_924.2, hc_925]
      refine blockK_n ?_
      refine thenK_n ?_
      refine run_textE0 hE wk_lp [0, 3, 5, 6, 7] (fr' := [(0, .sl false (L cApi_Packet l_727)), (3, .ref 0 0), (5, .bs false 1 (l_926.length) 0 (l_926.length)), (6, .bool done_912), (7, i64 ((w64 (i_861 + 1))))]) (σ' := [.box [i64 k_728.Epoch, i64 k_728.To, i64 k_728.Seq, i64 k_728.Ack, .sl false (L cU8 k_728.Data)] false, .buf 5 (L cApi_Packet l_926) false, .buf 5 (L cApi_Packet (([nth l_727 i_861.toNat] : List Api_Packet))) false]) ⟨_, orcs_nil, ?_⟩ ?_
      · simp only [go_sem]
      obtain rfl := Option.some.inj h
      exact lpK_n ((done_912, (w64 (i_861 + 1)), l_926)) rfl (weak_sel [0, 1] (by decide) rfl (by simp only [go_sem]) (by simp only [go_sem]))
    · replace h := ite_f h hb
      refine run_exit ?_
      refine thenK_x ?_
      obtain rfl := Option.some.inj h
      have ex_x_894 := hxx_898 _ rfl
      subst ex_x_894
      have h := hj_896; clear hj_896
      refine lpK_x ?_
      refine blockK_x ?_
      obtain rfl := Option.some.inj h
      exact joinK_n ((done_860, l_862)) rfl ((weak_sel (l' := [(3, .ref 0 0), (5, .bs false 1 (l_862.length) 0 (l_862.length)), (6, .bool done_860)]) (σ' := [.box [i64 k_728.Epoch, i64 k_728.To, i64 k_728.Seq, i64 k_728.Ack, .sl false (L cU8 k_728.Data)] false, .buf 5 (L cApi_Packet l_862) false]) [0, 1] (by decide) rfl (by simp only [go_sem]) (by simp only [go_sem])).trans (weak_sel [0, 1] (by decide) rfl (by simp only [go_sem]) (by simp only [go_sem])))
  rintro ⟨done_826, l_827⟩ rfl
  have h := hj_830; clear hj_830
  replace h := bind_some1 h; obtain ⟨j_932, hA_933, hj_934⟩ := h
  refine run_join (fun (v : List Api_Packet) => (⟨asFr 52 [(5, .bs false 0 (v.length) 0 (v.length))], [.buf 5 (L cApi_Packet v) false]⟩ : St)) (fun v => v = j_932) ?_ ?_
  · have h := hA_933; clear hA_933
    refine run_textE hE [3, 5, 46] (fr' := [(3, .ref 0 0), (5, .bs false 1 (l_827.length) 0 (l_827.length)), (46, .bool ((!done_826)))]) (σ' := [.box [i64 k_728.Epoch, i64 k_728.To, i64 k_728.Seq, i64 k_728.Ack, .sl false (L cU8 k_728.Data)] false, .buf 5 (L cApi_Packet l_827) false]) ⟨_, orcs_nil, ?_⟩ ?_
    · simp only [go_sem]
    refine run_condL (b := (!done_826)) rfl (by decide) (fun hb => ?_) (fun hb => ?_)
    · replace h := ite_t h hb
      replace h := chk_some h; obtain ⟨hc_935, h⟩ := h
      replace h := lt1_some h; obtain ⟨l_936, hz_937, h⟩ := h
      refine run_textE0 hE wk_join [5] (fr' := [(5, .bs false 1 (l_936.length) 0 (l_936.length))]) (σ' := [.box [i64 k_728.Epoch, i64 k_728.To, i64 k_728.Seq, i64 k_728.Ack, .sl false (L cU8 k_728.Data)] false, .buf 5 (L cApi_Packet l_936) false, .buf 5 (L cApi_Packet (([k_728] : List Api_Packet))) false]) ⟨_, orcs_nil, ?_⟩ ?_
      · subst hz_937; simp only [go_sem, Nat.reduceBEq, Nat.reduceMul, Nat.reduceSub, Nat.reduceGT, Nat.reducePow, Nat.reduceLeDiff, Int.reduceToNat, hc_935]
      obtain rfl := Option.some.inj h
      exact joinK_n l_936 rfl (weak_sel [1] (by decide) rfl (by simp only [go_sem]) (by simp only [go_sem]))
    · replace h := ite_f h hb
      refine run_skip ?_
      obtain rfl := Option.some.inj h
      exact joinK_n l_827 rfl (weak_sel [1] (by decide) rfl (by simp only [go_sem]) (by simp only [go_sem]))
  rintro l_931 rfl
  have h := hj_934; clear hj_934
  refine run_textE hE [4] (fr' := [(4, .bs false 0 (l_931.length) 0 (l_931.length))]) (σ' := [.buf 5 (L cApi_Packet l_931) false]) ⟨_, orcs_nil, ?_⟩ ?_
  · simp only [go_sem]
  refine run_ret ?_
  obtain rfl := Option.some.inj h
  refine wkP_of (Weak.refl _ _) ?_
  refine ret_ok (.inr rfl) ?_
  simp only [go_sem]

end Go.Proofs.Ytomjphpnpcgacaa
