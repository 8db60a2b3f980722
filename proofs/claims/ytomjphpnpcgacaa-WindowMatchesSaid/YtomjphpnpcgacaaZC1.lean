/-
  The library and the walks, part 1.
-/
import Derived.Test.YtomjphpnpcgacaaProg
import Derived.Test.YtomjphpnpcgacaaR40
import Derived.KernelRfl
/-
  Types, and rules for the operations at them.
-/
namespace Go.Proofs.Ytomjphpnpcgacaa
open Go.Rv
set_option linter.unusedVariables false
set_option linter.unusedSimpArgs false
set_option maxRecDepth 20000

noncomputable def B : Base := baseOwn Try.prog (fun _ => none) (fun f => [38, 41, 42, 43, 59, 60].contains f)
theorem ok : B.Ok := baseOwn_ok _ _ _
theorem own3 (F : Addr → Prop) : (B.env F).own 3 = false := rfl
attribute [go_sem] own3
theorem own10 (F : Addr → Prop) : (B.env F).own 10 = false := rfl
attribute [go_sem] own10
theorem own11 (F : Addr → Prop) : (B.env F).own 11 = false := rfl
attribute [go_sem] own11
theorem own12 (F : Addr → Prop) : (B.env F).own 12 = false := rfl
attribute [go_sem] own12
theorem own13 (F : Addr → Prop) : (B.env F).own 13 = false := rfl
attribute [go_sem] own13
theorem own14 (F : Addr → Prop) : (B.env F).own 14 = false := rfl
attribute [go_sem] own14
theorem own15 (F : Addr → Prop) : (B.env F).own 15 = false := rfl
attribute [go_sem] own15
theorem own16 (F : Addr → Prop) : (B.env F).own 16 = false := rfl
attribute [go_sem] own16
theorem own17 (F : Addr → Prop) : (B.env F).own 17 = false := rfl
attribute [go_sem] own17
theorem own18 (F : Addr → Prop) : (B.env F).own 18 = false := rfl
attribute [go_sem] own18
theorem own19 (F : Addr → Prop) : (B.env F).own 19 = false := rfl
attribute [go_sem] own19
theorem own20 (F : Addr → Prop) : (B.env F).own 20 = false := rfl
attribute [go_sem] own20
theorem own22 (F : Addr → Prop) : (B.env F).own 22 = false := rfl
attribute [go_sem] own22
theorem own30 (F : Addr → Prop) : (B.env F).own 30 = false := rfl
attribute [go_sem] own30
theorem own35 (F : Addr → Prop) : (B.env F).own 35 = false := rfl
attribute [go_sem] own35
theorem own36 (F : Addr → Prop) : (B.env F).own 36 = false := rfl
attribute [go_sem] own36
theorem own37 (F : Addr → Prop) : (B.env F).own 37 = false := rfl
attribute [go_sem] own37
theorem own38 (F : Addr → Prop) : (B.env F).own 38 = true := rfl
attribute [go_sem] own38
theorem own39 (F : Addr → Prop) : (B.env F).own 39 = false := rfl
attribute [go_sem] own39
theorem own40 (F : Addr → Prop) : (B.env F).own 40 = false := rfl
attribute [go_sem] own40
theorem own41 (F : Addr → Prop) : (B.env F).own 41 = true := rfl
attribute [go_sem] own41
theorem own42 (F : Addr → Prop) : (B.env F).own 42 = true := rfl
attribute [go_sem] own42
theorem own43 (F : Addr → Prop) : (B.env F).own 43 = true := rfl
attribute [go_sem] own43
theorem own44 (F : Addr → Prop) : (B.env F).own 44 = false := rfl
attribute [go_sem] own44
theorem own55 (F : Addr → Prop) : (B.env F).own 55 = false := rfl
attribute [go_sem] own55
theorem own56 (F : Addr → Prop) : (B.env F).own 56 = false := rfl
attribute [go_sem] own56
theorem own57 (F : Addr → Prop) : (B.env F).own 57 = false := rfl
attribute [go_sem] own57
theorem own59 (F : Addr → Prop) : (B.env F).own 59 = true := rfl
attribute [go_sem] own59
theorem own60 (F : Addr → Prop) : (B.env F).own 60 = true := rfl
attribute [go_sem] own60
theorem mixed : Try.prog.follows .mixedOrders = true := by kernel_rfl

structure Api_Packet where
  Epoch : Int
  To : Int
  Seq : Int
  Ack : Int
  Data : List UInt8
  deriving DecidableEq, Inhabited
def cApi_Packet (x : Api_Packet) : List AV := [i64 x.Epoch, i64 x.To, i64 x.Seq, i64 x.Ack, .sl false (L cU8 x.Data)]
attribute [go_sem] cApi_Packet
structure Api_Peer where
  Epoch : Int
  Other : Int
  First : Int
  Queue : List (List UInt8)
  Next : Int
  Early : List Api_Packet
  SentAt : Int
  deriving DecidableEq, Inhabited
def cApi_Peer (x : Api_Peer) : List AV := [i64 x.Epoch, i64 x.Other, i64 x.First, .sl false (L (cSl cU8) x.Queue), i64 x.Next, .sl false (L cApi_Packet x.Early), i64 x.SentAt]
attribute [go_sem] cApi_Peer
structure Window_side where
  Peer : Api_Peer
  delivered : List (List UInt8)
  deriving DecidableEq, Inhabited
def cWindow_side (x : Window_side) : List AV := [i64 x.Peer.Epoch, i64 x.Peer.Other, i64 x.Peer.First, .sl false (L (cSl cU8) x.Peer.Queue), i64 x.Peer.Next, .sl false (L cApi_Packet x.Peer.Early), i64 x.Peer.SentAt, .sl false (L (cSl cU8) x.delivered)]
attribute [go_sem] cWindow_side
theorem tt3 : tabOf Try.prog 3 = some ⟨.int .i64, 1, 8, [i64 0]⟩ := by kernel_rfl
theorem tb3 (F : Addr → Prop) : (B.env F).tab 3 = some ⟨.int .i64, 1, 8, [i64 0]⟩ := tt3
attribute [go_sem] tb3
theorem tt5 : tabOf Try.prog 5 = some ⟨.int .u8, 1, 1, [u8 ((0 : UInt8))]⟩ := by kernel_rfl
theorem tb5 (F : Addr → Prop) : (B.env F).tab 5 = some ⟨.int .u8, 1, 1, [u8 ((0 : UInt8))]⟩ := tt5
attribute [go_sem] tb5
theorem tt9 : tabOf Try.prog 9 = some ⟨.string, 1, 16, [.str (([] : List UInt8))]⟩ := by kernel_rfl
theorem tb9 (F : Addr → Prop) : (B.env F).tab 9 = some ⟨.string, 1, 16, [.str (([] : List UInt8))]⟩ := tt9
attribute [go_sem] tb9
theorem tt22 : tabOf Try.prog 22 = some ⟨.slice 26, 1, 24, [.sl true (L (cSl cU8) ([]))]⟩ := by kernel_rfl
theorem tb22 (F : Addr → Prop) : (B.env F).tab 22 = some ⟨.slice 26, 1, 24, [.sl true (L (cSl cU8) ([]))]⟩ := tt22
attribute [go_sem] tb22
theorem tt23 : tabOf Try.prog 23 = some ⟨.slice 39, 1, 24, [.sl true (L cApi_Packet ([]))]⟩ := by kernel_rfl
theorem tb23 (F : Addr → Prop) : (B.env F).tab 23 = some ⟨.slice 39, 1, 24, [.sl true (L cApi_Packet ([]))]⟩ := tt23
attribute [go_sem] tb23
theorem tt25 : tabOf Try.prog 25 = some ⟨.struct #[⟨"Epoch", 3, 0, false, "", "", 0⟩, ⟨"Other", 3, 1, false, "", "", 8⟩, ⟨"First", 3, 2, false, "", "", 16⟩, ⟨"Queue", 22, 3, false, "", "", 24⟩, ⟨"Next", 3, 4, false, "", "", 48⟩, ⟨"Early", 23, 5, false, "", "", 56⟩, ⟨"SentAt", 3, 6, false, "", "", 80⟩], 7, 88, [i64 0, i64 0, i64 0, .sl true (L (cSl cU8) ([])), i64 0, .sl true (L cApi_Packet ([])), i64 0]⟩ := by kernel_rfl
theorem tb25 (F : Addr → Prop) : (B.env F).tab 25 = some ⟨.struct #[⟨"Epoch", 3, 0, false, "", "", 0⟩, ⟨"Other", 3, 1, false, "", "", 8⟩, ⟨"First", 3, 2, false, "", "", 16⟩, ⟨"Queue", 22, 3, false, "", "", 24⟩, ⟨"Next", 3, 4, false, "", "", 48⟩, ⟨"Early", 23, 5, false, "", "", 56⟩, ⟨"SentAt", 3, 6, false, "", "", 80⟩], 7, 88, [i64 0, i64 0, i64 0, .sl true (L (cSl cU8) ([])), i64 0, .sl true (L cApi_Packet ([])), i64 0]⟩ := tt25
attribute [go_sem] tb25
theorem tt26 : tabOf Try.prog 26 = some ⟨.slice 5, 1, 24, [.sl true (L cU8 ([]))]⟩ := by kernel_rfl
theorem tb26 (F : Addr → Prop) : (B.env F).tab 26 = some ⟨.slice 5, 1, 24, [.sl true (L cU8 ([]))]⟩ := tt26
attribute [go_sem] tb26
theorem tt29 : tabOf Try.prog 29 = some ⟨.int .i64, 1, 8, [i64 0]⟩ := by kernel_rfl
theorem tb29 (F : Addr → Prop) : (B.env F).tab 29 = some ⟨.int .i64, 1, 8, [i64 0]⟩ := tt29
attribute [go_sem] tb29
theorem tt39 : tabOf Try.prog 39 = some ⟨.struct #[⟨"Epoch", 3, 0, false, "", "", 0⟩, ⟨"To", 3, 1, false, "", "", 8⟩, ⟨"Seq", 3, 2, false, "", "", 16⟩, ⟨"Ack", 3, 3, false, "", "", 24⟩, ⟨"Data", 26, 4, false, "", "", 32⟩], 5, 56, [i64 0, i64 0, i64 0, i64 0, .sl true (L cU8 ([]))]⟩ := by kernel_rfl
theorem tb39 (F : Addr → Prop) : (B.env F).tab 39 = some ⟨.struct #[⟨"Epoch", 3, 0, false, "", "", 0⟩, ⟨"To", 3, 1, false, "", "", 8⟩, ⟨"Seq", 3, 2, false, "", "", 16⟩, ⟨"Ack", 3, 3, false, "", "", 24⟩, ⟨"Data", 26, 4, false, "", "", 32⟩], 5, 56, [i64 0, i64 0, i64 0, i64 0, .sl true (L cU8 ([]))]⟩ := tt39
attribute [go_sem] tb39
theorem tt79 : tabOf Try.prog 79 = some ⟨.struct #[⟨"Peer", 25, 0, true, "", "", 0⟩, ⟨"delivered", 22, 7, false, "", "wagonpool/window", 88⟩], 8, 112, [i64 0, i64 0, i64 0, .sl true (L (cSl cU8) ([])), i64 0, .sl true (L cApi_Packet ([])), i64 0, .sl true (L (cSl cU8) ([]))]⟩ := by kernel_rfl
theorem tb79 (F : Addr → Prop) : (B.env F).tab 79 = some ⟨.struct #[⟨"Peer", 25, 0, true, "", "", 0⟩, ⟨"delivered", 22, 7, false, "", "wagonpool/window", 88⟩], 8, 112, [i64 0, i64 0, i64 0, .sl true (L (cSl cU8) ([])), i64 0, .sl true (L cApi_Packet ([])), i64 0, .sl true (L (cSl cU8) ([]))]⟩ := tt79
attribute [go_sem] tb79
theorem tt80 : tabOf Try.prog 80 = some ⟨.func #[39] #[] false, 1, 8, [.val .nilFunc]⟩ := by kernel_rfl
theorem tb80 (F : Addr → Prop) : (B.env F).tab 80 = some ⟨.func #[39] #[] false, 1, 8, [.val .nilFunc]⟩ := tt80
attribute [go_sem] tb80
theorem tt81 : tabOf Try.prog 81 = some ⟨.slice 80, 1, 24, [.sl true []]⟩ := by kernel_rfl
theorem tb81 (F : Addr → Prop) : (B.env F).tab 81 = some ⟨.slice 80, 1, 24, [.sl true []]⟩ := tt81
attribute [go_sem] tb81
theorem tt99 : tabOf Try.prog 99 = some ⟨.func #[39, 3] #[3] false, 1, 8, [.val .nilFunc]⟩ := by kernel_rfl
theorem tb99 (F : Addr → Prop) : (B.env F).tab 99 = some ⟨.func #[39, 3] #[3] false, 1, 8, [.val .nilFunc]⟩ := tt99
attribute [go_sem] tb99
theorem tt109 : tabOf Try.prog 109 = some ⟨.int .u64, 1, 8, [u64 ((0 : UInt64))]⟩ := by kernel_rfl
theorem tb109 (F : Addr → Prop) : (B.env F).tab 109 = some ⟨.int .u64, 1, 8, [u64 ((0 : UInt64))]⟩ := tt109
attribute [go_sem] tb109
theorem ku64x1 : AV.int .u64 1 = u64 1 := rfl
attribute [go_sem] ku64x1
theorem ku8x120 : AV.int .u8 120 = u8 120 := rfl
attribute [go_sem] ku8x120
theorem ixsl22 {F} {σ : Store} (f : Bool) (l : List (List UInt8)) (x : AV) : indexAddrA (B.env F) σ 22 (.sl f (L (cSl cU8) l)) x = match idx x l.length with
    | some i => some (.rp ((cSl cU8) (nth l i)))
    | none => none := ixA_sl (cSl cU8) (tb22 F) (tb26 F) (fun _ => rfl) f l x
attribute [go_sem] ixsl22
theorem ixsl23 {F} {σ : Store} (f : Bool) (l : List Api_Packet) (x : AV) : indexAddrA (B.env F) σ 23 (.sl f (L cApi_Packet l)) x = match idx x l.length with
    | some i => some (.rp (cApi_Packet (nth l i)))
    | none => none := ixA_sl cApi_Packet (tb23 F) (tb39 F) (fun _ => rfl) f l x
attribute [go_sem] ixsl23
theorem mks26 {F} {σ : Store} (l c : Int) : makeSliceA (B.env F) σ 26 (i64 l) (i64 c) = if Mk l c 1 then some (.bs (l == c) σ.length l.toNat 0 l.toNat, σ ++ [.buf 1 (List.replicate l.toNat [u8 ((0 : UInt8))]) false]) else none := make_eq (tb26 F) (tb5 F) (by decide) l c
attribute [go_sem] mks26
theorem app22x22 {F} {σ : Store} (s x : AV) : builtinA (B.env F) σ .append [22, 22] [s, x] = match view σ x with
      | some new => if strBad x 1 = true then none else if ∀ cs ∈ new, cs.length = 1 then (match s with
          | .sl full els =>
            if els = [] ∧ full = true then
              if Fits new.length 24 then some (.bs false σ.length new.length 0 new.length, σ ++ [.buf 1 new false]) else none
            else if new = [] then some (.sl full els, σ)
            else if full = true ∧ (∀ cs ∈ els, cs.length = 1) ∧ Fits (els.length + new.length) 24
            then some (.bs false σ.length (els.length + new.length) 0 (els.length + new.length), σ ++ [.buf 1 (els ++ new) false]) else none
          | .bs full id tot off len => match σ[id]? with
            | some (.buf k els ro) =>
              if els.length = tot ∧ k = 1 ∧ Fits (len + new.length) 24 then
                if off = 0 ∧ len = tot then some (.bs false id (tot + new.length) 0 (tot + new.length), σ.set id (.buf k (els ++ new) ro))
                else if new = [] then some (.bs full id tot off len, σ)
                else if full then some (.bs false σ.length (len + new.length) 0 (len + new.length), σ ++ [.buf k ((els.drop off).take len ++ new) false])
                else none
              else none
            | _ => none
          | _ => none)
        else none
      | none => none := append_eq (tb22 F) (tb26 F) (by decide) (tb22 F) (.inl ⟨_, rfl⟩) s x []
attribute [go_sem] app22x22
theorem app23x23 {F} {σ : Store} (s x : AV) : builtinA (B.env F) σ .append [23, 23] [s, x] = match view σ x with
      | some new => if strBad x 5 = true then none else if ∀ cs ∈ new, cs.length = 5 then (match s with
          | .sl full els =>
            if els = [] ∧ full = true then
              if Fits new.length 56 then some (.bs false σ.length new.length 0 new.length, σ ++ [.buf 5 new false]) else none
            else if new = [] then some (.sl full els, σ)
            else if full = true ∧ (∀ cs ∈ els, cs.length = 5) ∧ Fits (els.length + new.length) 56
            then some (.bs false σ.length (els.length + new.length) 0 (els.length + new.length), σ ++ [.buf 5 (els ++ new) false]) else none
          | .bs full id tot off len => match σ[id]? with
            | some (.buf k els ro) =>
              if els.length = tot ∧ k = 5 ∧ Fits (len + new.length) 56 then
                if off = 0 ∧ len = tot then some (.bs false id (tot + new.length) 0 (tot + new.length), σ.set id (.buf k (els ++ new) ro))
                else if new = [] then some (.bs full id tot off len, σ)
                else if full then some (.bs false σ.length (len + new.length) 0 (len + new.length), σ ++ [.buf k ((els.drop off).take len ++ new) false])
                else none
              else none
            | _ => none
          | _ => none)
        else none
      | none => none := append_eq (tb23 F) (tb39 F) (by decide) (tb23 F) (.inl ⟨_, rfl⟩) s x []
attribute [go_sem] app23x23
theorem app26x26 {F} {σ : Store} (s x : AV) : builtinA (B.env F) σ .append [26, 26] [s, x] = match view σ x with
      | some new => if strBad x 1 = true then none else if ∀ cs ∈ new, cs.length = 1 then (match s with
          | .sl full els =>
            if els = [] ∧ full = true then
              if Fits new.length 1 then some (.bs false σ.length new.length 0 new.length, σ ++ [.buf 1 new false]) else none
            else if new = [] then some (.sl full els, σ)
            else if full = true ∧ (∀ cs ∈ els, cs.length = 1) ∧ Fits (els.length + new.length) 1
            then some (.bs false σ.length (els.length + new.length) 0 (els.length + new.length), σ ++ [.buf 1 (els ++ new) false]) else none
          | .bs full id tot off len => match σ[id]? with
            | some (.buf k els ro) =>
              if els.length = tot ∧ k = 1 ∧ Fits (len + new.length) 1 then
                if off = 0 ∧ len = tot then some (.bs false id (tot + new.length) 0 (tot + new.length), σ.set id (.buf k (els ++ new) ro))
                else if new = [] then some (.bs full id tot off len, σ)
                else if full then some (.bs false σ.length (len + new.length) 0 (len + new.length), σ ++ [.buf k ((els.drop off).take len ++ new) false])
                else none
              else none
            | _ => none
          | _ => none)
        else none
      | none => none := append_eq (tb26 F) (tb5 F) (by decide) (tb26 F) (.inl ⟨_, rfl⟩) s x []
attribute [go_sem] app26x26
theorem ixbs81 {F} {σ : Store} (f : Bool) (id tot off len : Nat) (x : AV) : indexAddrA (B.env F) σ 81 (.bs f id tot off len) x = match σ[id]?, idx x len with
    | some (.buf k els _), some i => if els.length = tot ∧ k = 1 then some (.eref id tot (off + i) 0) else none
    | _, _ => none := ixA_bs (tb81 F) (tb80 F) (by decide) f id tot off len x
attribute [go_sem] ixbs81
end Go.Proofs.Ytomjphpnpcgacaa
/-
  What the functions compute, as plain programs.
-/
namespace Go.Proofs.Ytomjphpnpcgacaa
open Go.Rv
set_option linter.unusedVariables false
set_option linter.unusedSimpArgs false
set_option maxRecDepth 20000

def window_between (n_1 : Int) (lo_2 : Int) (hi_3 : Int) : Option (Bool) :=
  (if (decide (n_1 ≥ lo_2)) = true then
    some ((decide (n_1 ≤ hi_3)))
  else
    some false : Option (Bool)).bind fun t_4 =>
  some t_4

def r12_within (n_7 : Int) (lo_8 : Int) (hi_9 : Int) : Option (Bool) :=
  (if (decide (n_7 ≥ lo_8)) = true then
    some ((decide (n_7 ≤ hi_9)))
  else
    some false : Option (Bool)).bind fun t_10 =>
  some t_10

def window_valid_b1 (p_13 : Api_Peer) (t_54 : Int) : Option ((Int) ⊕ ((Unit) ⊕ ((Unit) ⊕ (Bool)))) :=
  if (decide (t_54 < (p_13.Queue.length : Int))) = true then
    if InR t_54 p_13.Queue.length then
      if (decide (((nth p_13.Queue t_54.toNat).length : Int) > 8000)) = true then
        ((some false).bind fun z_64 => some (.inr z_64)).bind fun z_65 => some (.inr (.inr z_65))
      else
        some (.inl ((w64 (t_54 + 1))))
    else none
  else
    some (.inr (.inl (())))
def window_valid_b2 (p_13 : Api_Peer) (last_136 : Int) (t_137 : Int) : Option ((Int × Int) ⊕ ((Unit) ⊕ ((Unit) ⊕ (Bool)))) :=
  if (decide (t_137 < (p_13.Early.length : Int))) = true then
    if InR t_137 p_13.Early.length then
      lt1 ((nth p_13.Early t_137.toNat).Epoch) fun (f_164 : Int) =>
      lt1 ((nth p_13.Early t_137.toNat).To) fun (f_165 : Int) =>
      lt1 ((nth p_13.Early t_137.toNat).Seq) fun (f_166 : Int) =>
      lt1 ((nth p_13.Early t_137.toNat).Ack) fun (f_167 : Int) =>
      lt1 ((nth p_13.Early t_137.toNat).Data) fun (f_168 : List UInt8) =>
      (if (decide (f_166 ≤ last_136)) = true then
        some true
      else
        if (decide (f_166 ≥ (mn64 ((w64 (p_13.Next + 64))) 1099511627776))) = true then
          some true
        else
          if (decide ((f_168.length : Int) > 8000)) = true then
            some true
          else
            if (f_164 != 0) = true then
              some true
            else
              if (f_165 != 0) = true then
                some true
              else
                some ((f_167 != 0)) : Option (Bool)).bind fun t_174 =>
      if t_174 = true then
        ((some false).bind fun z_181 => some (.inr z_181)).bind fun z_182 => some (.inr (.inr z_182))
      else
        some (.inl ((f_166, (w64 (t_137 + 1)))))
    else none
  else
    some (.inr (.inl (())))
def window_valid (p_13 : Api_Peer) : Option (Bool) :=
  ((window_between p_13.Epoch 0 1073741824).bind fun y_14 =>
  if (!y_14) = true then
    some true
  else
    (window_between p_13.Other ((-1)) 1073741824).bind fun y_15 =>
    if (!y_15) = true then
      some true
    else
      (window_between p_13.SentAt ((-1)) 1073741824).bind fun y_16 =>
      some ((!y_16)) : Option (Bool)).bind fun t_17 =>
  if t_17 = true then
    some false
  else
    ((window_between p_13.First 0 1099511627776).bind fun y_24 =>
    if (!y_24) = true then
      some true
    else
      (window_between p_13.Next 0 1099511627776).bind fun y_25 =>
      if (!y_25) = true then
        some true
      else
        if (decide ((p_13.Queue.length : Int) > 256)) = true then
          some true
        else
          some ((decide ((w64 (p_13.First + (p_13.Queue.length : Int))) > 1099511627776))) : Option (Bool)).bind fun t_26 =>
    if t_26 = true then
      some false
    else
      ((loopO (fun (v : Int) => window_valid_b1 p_13 v) 0).bind fun x => match x with
      | .inl () =>
        some (.inl (()))
      | .inr z => some z : Option ((Unit) ⊕ (Bool))).bind fun x => match x with
      | .inl () =>
        ((loopO (fun (v : Int × Int) => window_valid_b2 p_13 v.1 v.2) ((p_13.Next, 0))).bind fun x => match x with
        | .inl () =>
          some (.inl (()))
        | .inr z => some z : Option ((Unit) ⊕ (Bool))).bind fun x => match x with
        | .inl () =>
          some true
        | .inr z => some z
      | .inr z => some z

def r12_early_b1 (p_183 : Api_Peer) (last_258 : Int) (i_259 : Int) : Option ((Int × Int) ⊕ ((Unit) ⊕ ((Unit) ⊕ (Bool)))) :=
  if (decide (i_259 < (p_183.Early.length : Int))) = true then
    if InR i_259 p_183.Early.length then
      lt1 ((nth p_183.Early i_259.toNat).Epoch) fun (f_287 : Int) =>
      lt1 ((nth p_183.Early i_259.toNat).To) fun (f_288 : Int) =>
      lt1 ((nth p_183.Early i_259.toNat).Seq) fun (f_289 : Int) =>
      lt1 ((nth p_183.Early i_259.toNat).Ack) fun (f_290 : Int) =>
      lt1 ((nth p_183.Early i_259.toNat).Data) fun (f_291 : List UInt8) =>
      (if (decide (f_289 ≤ last_258)) = true then
        some true
      else
        if (decide (f_289 ≥ (w64 (p_183.Next + 64)))) = true then
          some true
        else
          if (decide (f_289 ≥ 1099511627776)) = true then
            some true
          else
            if (decide ((f_291.length : Int) > 8000)) = true then
              some true
            else
              if (f_287 != 0) = true then
                some true
              else
                if (f_288 != 0) = true then
                  some true
                else
                  some ((f_290 != 0)) : Option (Bool)).bind fun t_297 =>
      if t_297 = true then
        ((some false).bind fun z_305 => some (.inr z_305)).bind fun z_306 => some (.inr (.inr z_306))
      else
        some (.inl ((f_289, (w64 (i_259 + 1)))))
    else none
  else
    some (.inr (.inl (())))
def r12_early (p_183 : Api_Peer) : Option (Bool) :=
  ((loopO (fun (v : Int × Int) => r12_early_b1 p_183 v.1 v.2) ((p_183.Next, 0))).bind fun x => match x with
  | .inl () =>
    some (.inl (()))
  | .inr z => some z : Option ((Unit) ⊕ (Bool))).bind fun x => match x with
  | .inl () =>
    some true
  | .inr z => some z

def r12_Valid_b1 (p_307 : Api_Peer) (i_352 : Int) : Option ((Int) ⊕ ((Unit) ⊕ ((Unit) ⊕ (Bool)))) :=
  if (decide (i_352 < (p_307.Queue.length : Int))) = true then
    if InR i_352 p_307.Queue.length then
      lt1 ((decide (((nth p_307.Queue i_352.toNat).length : Int) > 8000))) fun (t_364 : Bool) =>
      if t_364 = true then
        ((some false).bind fun z_366 => some (.inr z_366)).bind fun z_367 => some (.inr (.inr z_367))
      else
        some (.inl ((w64 (i_352 + 1))))
    else none
  else
    some (.inr (.inl (())))
def r12_Valid (p_307 : Api_Peer) : Option (Bool) :=
  ((r12_within p_307.Epoch 0 1073741824).bind fun y_308 =>
  if (!y_308) = true then
    some true
  else
    (r12_within p_307.Other ((-1)) 1073741824).bind fun y_309 =>
    if (!y_309) = true then
      some true
    else
      (r12_within p_307.First 0 1099511627776).bind fun y_310 =>
      if (!y_310) = true then
        some true
      else
        (r12_within p_307.Next 0 1099511627776).bind fun y_311 =>
        if (!y_311) = true then
          some true
        else
          (r12_within p_307.SentAt ((-1)) 1073741824).bind fun y_312 =>
          some ((!y_312)) : Option (Bool)).bind fun t_313 =>
  if t_313 = true then
    some false
  else
    (if (decide ((p_307.Queue.length : Int) > 256)) = true then
      some true
    else
      some ((decide ((w64 (p_307.First + (p_307.Queue.length : Int))) > 1099511627776))) : Option (Bool)).bind fun t_324 =>
    if t_324 = true then
      some false
    else
      ((loopO (fun (v : Int) => r12_Valid_b1 p_307 v) 0).bind fun x => match x with
      | .inl () =>
        some (.inl (()))
      | .inr z => some z : Option ((Unit) ⊕ (Bool))).bind fun x => match x with
      | .inl () =>
        (r12_early p_307).bind fun y_368 =>
        some y_368
      | .inr z => some z

def r12_ValidPacket (k_370 : Api_Packet) : Option (Bool) :=
  ((r12_within k_370.Epoch 0 1073741824).bind fun y_371 =>
  if y_371 = true then
    (r12_within k_370.Seq ((-1)) 1099511627775).bind fun y_372 =>
    if y_372 = true then
      (r12_within k_370.Ack 0 1099511627776).bind fun y_373 =>
      if y_373 = true then
        some ((decide ((k_370.Data.length : Int) ≤ 8000)))
      else
        some false
    else
      some false
  else
    some false : Option (Bool)).bind fun t_374 =>
  some t_374

def window_New (epoch_382 : Int) : Option (Api_Peer × Int) :=
  (window_between epoch_382 0 1073741824).bind fun y_383 =>
  if (!y_383) = true then
    some ((({ Epoch := 0, Other := 0, First := 0, Queue := [], Next := 0, Early := [], SentAt := 0 } : Api_Peer), 1))
  else
    some ((({ Epoch := epoch_382, Other := (-1), First := 0, Queue := [], Next := 0, Early := [], SentAt := (-1) } : Api_Peer), 0))

def r12_New (epoch_385 : Int) : Option (Api_Peer × Int) :=
  (r12_within epoch_385 0 1073741824).bind fun y_386 =>
  if (!y_386) = true then
    some ((({ Epoch := 0, Other := 0, First := 0, Queue := [], Next := 0, Early := [], SentAt := 0 } : Api_Peer), 1))
  else
    some ((({ Epoch := epoch_385, Other := (-1), First := 0, Queue := [], Next := 0, Early := [], SentAt := (-1) } : Api_Peer), 0))

def window_own (b_388 : List UInt8) : Option (List UInt8) :=
  if Mk ((b_388.length : Int)) ((b_388.length : Int)) 1 then
    lt1 ((List.replicate (((b_388.length : Int)).toNat) ((0 : UInt8)))) fun (l_390 : List UInt8) =>
    lt1 ((ovl l_390 (b_388.take (min b_388.length l_390.length)) 0)) fun (l_392 : List UInt8) =>
    some l_392
  else none

def slices_Clone_38 (s_394 : List (List UInt8)) : Option (List (List UInt8)) :=
  if Fits (0 + s_394.length) 24 then
    lt1 (((([] : List (List UInt8))) ++ s_394)) fun (l_401 : List (List UInt8)) =>
    some l_401
  else none

def slices_Clone_59 (s_403 : List Api_Packet) : Option (List Api_Packet) :=
  if Fits (0 + s_403.length) 56 then
    lt1 (((([] : List Api_Packet)) ++ s_403)) fun (l_410 : List Api_Packet) =>
    some l_410
  else none

def window_Offer (p_412 : Api_Peer) (data_413 : List UInt8) : Option (Api_Peer × Int) :=
  (window_valid p_412).bind fun y_414 =>
  if (!y_414) = true then
    some ((({ Epoch := 0, Other := 0, First := 0, Queue := [], Next := 0, Early := [], SentAt := 0 } : Api_Peer), 1))
  else
    if (decide ((data_413.length : Int) > 8000)) = true then
      some ((({ Epoch := 0, Other := 0, First := 0, Queue := [], Next := 0, Early := [], SentAt := 0 } : Api_Peer), 2))
    else
      (if ((p_412.Queue.length : Int) == 256) = true then
        some true
      else
        some (((w64 (p_412.First + (p_412.Queue.length : Int))) == 1099511627776)) : Option (Bool)).bind fun t_416 =>
      if t_416 = true then
        some ((({ Epoch := 0, Other := 0, First := 0, Queue := [], Next := 0, Early := [], SentAt := 0 } : Api_Peer), 120))
      else
        (slices_Clone_38 p_412.Queue).bind fun y_419 =>
        (window_own data_413).bind fun y_420 =>
        if Fits (y_419.length + 1) 24 then
          lt1 ((y_419 ++ (([y_420] : List (List UInt8))))) fun (l_424 : List (List UInt8)) =>
          some ((({ Epoch := p_412.Epoch, Other := p_412.Other, First := p_412.First, Queue := l_424, Next := p_412.Next, Early := p_412.Early, SentAt := p_412.SentAt } : Api_Peer), 0))
        else none

def r12_Offer (p_426 : Api_Peer) (data_427 : List UInt8) : Option (Api_Peer × Int) :=
  (r12_Valid p_426).bind fun y_428 =>
  if (!y_428) = true then
    some ((({ Epoch := 0, Other := 0, First := 0, Queue := [], Next := 0, Early := [], SentAt := 0 } : Api_Peer), 1))
  else
    if (decide ((data_427.length : Int) > 8000)) = true then
      some ((({ Epoch := 0, Other := 0, First := 0, Queue := [], Next := 0, Early := [], SentAt := 0 } : Api_Peer), 2))
    else
      (if ((p_426.Queue.length : Int) == 256) = true then
        some true
      else
        some (((w64 (p_426.First + (p_426.Queue.length : Int))) == 1099511627776)) : Option (Bool)).bind fun t_430 =>
      if t_430 = true then
        some ((({ Epoch := 0, Other := 0, First := 0, Queue := [], Next := 0, Early := [], SentAt := 0 } : Api_Peer), 120))
      else
        if Fits (0 + p_426.Queue.length) 24 then
          if Fits (0 + data_427.length) 1 then
            if Fits ((((([] : List (List UInt8))) ++ p_426.Queue)).length + 1) 24 then
              lt1 (((((([] : List (List UInt8))) ++ p_426.Queue)) ++ (([((([] : List UInt8)) ++ data_427)] : List (List UInt8))))) fun (l_439 : List (List UInt8)) =>
              some ((({ Epoch := p_426.Epoch, Other := p_426.Other, First := p_426.First, Queue := l_439, Next := p_426.Next, Early := p_426.Early, SentAt := p_426.SentAt } : Api_Peer), 0))
            else none
          else none
        else none

def window_Emit_b1 (p_441 : Api_Peer) (t_499 : List (List UInt8)) (t_500 : Int) (t_509 : Int) (l_510 : List Api_Packet) : Option ((Int × List Api_Packet) ⊕ (List Api_Packet)) :=
  if (decide (t_509 < t_500)) = true then
    if InR t_509 t_499.length then
      (window_own (nth t_499 t_509.toNat)).bind fun y_526 =>
      lt1 ((w64 (p_441.First + t_509))) fun (f_528 : Int) =>
      if Fits (l_510.length + 1) 56 then
        lt1 ((l_510 ++ (([({ Epoch := p_441.Epoch, To := p_441.Other, Seq := f_528, Ack := p_441.Next, Data := y_526 } : Api_Packet)] : List Api_Packet)))) fun (l_531 : List Api_Packet) =>
        some (.inl (((w64 (t_509 + 1)), l_531)))
      else none
    else none
  else
    some (.inr l_510)
def window_Emit (p_441 : Api_Peer) (now_442 : Int) : Option (Api_Peer × List Api_Packet) :=
  ((window_valid p_441).bind fun y_443 =>
  if (!y_443) = true then
    some true
  else
    (window_between now_442 0 1073741824).bind fun y_444 =>
    some ((!y_444)) : Option (Bool)).bind fun t_445 =>
  if t_445 = true then
    some ((p_441, []))
  else
    (if (decide (p_441.SentAt < 0)) = true then
      some true
    else
      if (decide (p_441.SentAt > now_442)) = true then
        some true
      else
        some ((decide ((w64 (now_442 - p_441.SentAt)) ≥ 10))) : Option (Bool)).bind fun due_450 =>
    (if ((p_441.Queue.length : Int) == 0) = true then
      some true
    else
      some ((!due_450)) : Option (Bool)).bind fun t_454 =>
    if t_454 = true then
      lt1 (([({ Epoch := p_441.Epoch, To := p_441.Other, Seq := (-1), Ack := p_441.Next, Data := [] } : Api_Packet)] : List Api_Packet)) fun (l_457 : List Api_Packet) =>
      some ((p_441, l_457))
    else
      (if InB ((mn64 16 ((p_441.Queue.length : Int)))) p_441.Queue.length then
        lt1 ((p_441.Queue.take (((mn64 16 ((p_441.Queue.length : Int)))).toNat))) fun (t_499 : List (List UInt8)) =>
        lt1 ((((p_441.Queue.take (((mn64 16 ((p_441.Queue.length : Int)))).toNat))).length : Int)) fun (t_500 : Int) =>
        (loopO (fun (v : Int × List Api_Packet) => window_Emit_b1 p_441 t_499 t_500 v.1 v.2) ((0, []))).bind fun l_519 =>
        some l_519
      else none : Option (List Api_Packet)).bind fun l_494 =>
      some ((({ Epoch := p_441.Epoch, Other := p_441.Other, First := p_441.First, Queue := p_441.Queue, Next := p_441.Next, Early := p_441.Early, SentAt := now_442 } : Api_Peer), l_494))

def r12_Emit_b1 (p_533 : Api_Peer) (i_589 : Int) (l_590 : List Api_Packet) : Option ((Int × List Api_Packet) ⊕ (List Api_Packet)) :=
  (if (decide (i_589 < (p_533.Queue.length : Int))) = true then
    some ((decide (i_589 < 16)))
  else
    some false : Option (Bool)).bind fun t_604 =>
  if t_604 = true then
    if InR i_589 p_533.Queue.length then
      if Fits (l_590.length + 1) 56 then
        lt1 ((l_590 ++ (([({ Epoch := p_533.Epoch, To := p_533.Other, Seq := (w64 (p_533.First + i_589)), Ack := p_533.Next, Data := nth p_533.Queue i_589.toNat } : Api_Packet)] : List Api_Packet)))) fun (l_609 : List Api_Packet) =>
        some (.inl (((w64 (i_589 + 1)), l_609)))
      else none
    else none
  else
    some (.inr l_590)
def r12_Emit (p_533 : Api_Peer) (now_534 : Int) : Option (Api_Peer × List Api_Packet) :=
  ((r12_Valid p_533).bind fun y_535 =>
  if (!y_535) = true then
    some true
  else
    (r12_within now_534 0 1073741824).bind fun y_536 =>
    some ((!y_536)) : Option (Bool)).bind fun t_537 =>
  if t_537 = true then
    some ((p_533, []))
  else
    (if ((p_533.Queue.length : Int) == 0) = true then
      some true
    else
      if (decide (p_533.SentAt ≥ 0)) = true then
        if (decide (p_533.SentAt ≤ now_534)) = true then
          some ((decide (p_533.SentAt > (w64 (now_534 - 10)))))
        else
          some false
      else
        some false : Option (Bool)).bind fun t_542 =>
    if t_542 = true then
      lt1 (([({ Epoch := p_533.Epoch, To := p_533.Other, Seq := (-1), Ack := p_533.Next, Data := [] } : Api_Packet)] : List Api_Packet)) fun (l_547 : List Api_Packet) =>
      some ((p_533, l_547))
    else
      ((loopO (fun (v : Int × List Api_Packet) => r12_Emit_b1 p_533 v.1 v.2) ((0, []))).bind fun l_598 =>
      some l_598 : Option (List Api_Packet)).bind fun l_578 =>
      some ((({ Epoch := p_533.Epoch, Other := p_533.Other, First := p_533.First, Queue := p_533.Queue, Next := p_533.Next, Early := p_533.Early, SentAt := now_534 } : Api_Peer), l_578))

def r12_SamePacket (a_611 : Api_Packet) (b_612 : Api_Packet) : Option (Bool) :=
  (if (a_611.Epoch == b_612.Epoch) = true then
    if (a_611.To == b_612.To) = true then
      if (a_611.Seq == b_612.Seq) = true then
        if (a_611.Ack == b_612.Ack) = true then
          some ((a_611.Data == b_612.Data))
        else
          some false
      else
        some false
    else
      some false
  else
    some false : Option (Bool)).bind fun t_613 =>
  some t_613

def r12_SamePackets_b1 (a_619 : List Api_Packet) (b_620 : List Api_Packet) (i_654 : Int) : Option ((Int) ⊕ ((Unit) ⊕ ((Unit) ⊕ (Bool)))) :=
  if (decide (i_654 < (a_619.length : Int))) = true then
    if InR i_654 a_619.length then
      if InR i_654 b_620.length then
        (r12_SamePacket (nth a_619 i_654.toNat) (nth b_620 i_654.toNat)).bind fun y_666 =>
        if (!y_666) = true then
          ((some false).bind fun z_670 => some (.inr z_670)).bind fun z_671 => some (.inr (.inr z_671))
        else
          some (.inl ((w64 (i_654 + 1))))
      else none
    else none
  else
    some (.inr (.inl (())))
def r12_SamePackets (a_619 : List Api_Packet) (b_620 : List Api_Packet) : Option (Bool) :=
  if ((a_619.length : Int) != (b_620.length : Int)) = true then
    some false
  else
    ((loopO (fun (v : Int) => r12_SamePackets_b1 a_619 b_620 v) 0).bind fun x => match x with
    | .inl () =>
      some (.inl (()))
    | .inr z => some z : Option ((Unit) ⊕ (Bool))).bind fun x => match x with
    | .inl () =>
      some true
    | .inr z => some z

def r12_SameMessages_b1 (a_672 : List (List UInt8)) (b_673 : List (List UInt8)) (i_699 : Int) : Option ((Int) ⊕ ((Unit) ⊕ ((Unit) ⊕ (Bool)))) :=
  if (decide (i_699 < (a_672.length : Int))) = true then
    if InR i_699 a_672.length then
      if InR i_699 b_673.length then
        if (!((nth a_672 i_699.toNat) == (nth b_673 i_699.toNat))) = true then
          ((some false).bind fun z_711 => some (.inr z_711)).bind fun z_712 => some (.inr (.inr z_712))
        else
          some (.inl ((w64 (i_699 + 1))))
      else none
    else none
  else
    some (.inr (.inl (())))
def r12_SameMessages (a_672 : List (List UInt8)) (b_673 : List (List UInt8)) : Option (Bool) :=
  if ((a_672.length : Int) != (b_673.length : Int)) = true then
    some false
  else
    ((loopO (fun (v : Int) => r12_SameMessages_b1 a_672 b_673 v) 0).bind fun x => match x with
    | .inl () =>
      some (.inl (()))
    | .inr z => some z : Option ((Unit) ⊕ (Bool))).bind fun x => match x with
    | .inl () =>
      some true
    | .inr z => some z

def r12_Same (a_713 : Api_Peer) (b_714 : Api_Peer) : Option (Bool) :=
  (if (a_713.Epoch == b_714.Epoch) = true then
    if (a_713.Other == b_714.Other) = true then
      if (a_713.First == b_714.First) = true then
        if (a_713.Next == b_714.Next) = true then
          if (a_713.SentAt == b_714.SentAt) = true then
            (r12_SameMessages a_713.Queue b_714.Queue).bind fun y_715 =>
            if y_715 = true then
              (r12_SamePackets a_713.Early b_714.Early).bind fun y_716 =>
              some y_716
            else
              some false
          else
            some false
        else
          some false
      else
        some false
    else
      some false
  else
    some false : Option (Bool)).bind fun t_717 =>
  some t_717

def window_side_keep_1 (e_727 : Api_Packet) (seq_728 : Int) : Option (Int) :=
  some ((w64 (e_727.Seq - seq_728)))

def slices_BinarySearchFunc_56_b1 (x_729 : List Api_Packet) (target_730 : Int) (cmp_731 : Api_Packet → Int → Option (Int)) (i_764 : Int) (j_765 : Int) : Option ((Int × Int) ⊕ (Int)) :=
  if (decide (i_764 < j_765)) = true then
    lt1 ((w64 (((shr64 ((UInt64.ofInt ((w64 (i_764 + j_765))))) ((1 : UInt64)).toNat)).toNat : Int))) fun (h_777 : Int) =>
    if InR h_777 x_729.length then
      (cmp_731 (nth x_729 h_777.toNat) target_730).bind fun y_779 =>
      if (decide (y_779 < 0)) = true then
        some (.inl (((w64 (h_777 + 1)), j_765)))
      else
        some (.inl ((i_764, h_777)))
    else none
  else
    some (.inr i_764)
def slices_BinarySearchFunc_56 (x_729 : List Api_Packet) (target_730 : Int) (cmp_731 : Api_Packet → Int → Option (Int)) : Option (Int × Bool) :=
  ((loopO (fun (v : Int × Int) => slices_BinarySearchFunc_56_b1 x_729 target_730 cmp_731 v.1 v.2) ((0, (x_729.length : Int)))).bind fun i_771 =>
  some i_771 : Option (Int)).bind fun i_755 =>
  (if (decide (i_755 < (x_729.length : Int))) = true then
    if InR i_755 x_729.length then
      (cmp_731 (nth x_729 i_755.toNat) target_730).bind fun y_782 =>
      some ((y_782 == 0))
    else none
  else
    some false : Option (Bool)).bind fun t_783 =>
  some ((i_755, t_783))

def window_side_take (s_788 : Window_side) (data_789 : List UInt8) : Option (Window_side) :=
  (window_own data_789).bind fun y_797 =>
  if Fits (s_788.delivered.length + 1) 24 then
    lt1 ((s_788.delivered ++ (([y_797] : List (List UInt8))))) fun (l_800 : List (List UInt8)) =>
    lt1 ((w64 (s_788.Peer.Next + 1))) fun (f_802 : Int) =>
    some (({ Peer := ({ Epoch := s_788.Peer.Epoch, Other := s_788.Peer.Other, First := s_788.Peer.First, Queue := s_788.Peer.Queue, Next := f_802, Early := s_788.Peer.Early, SentAt := s_788.Peer.SentAt } : Api_Peer), delivered := l_800 } : Window_side))
  else none

def window_side_acknowledge (s_804 : Window_side) (k_805 : Api_Packet) : Option (Window_side) :=
  lt1 ((w64 (k_805.Ack - s_804.Peer.First))) fun (n_814 : Int) =>
  (if (decide (n_814 > 0)) = true then
    some ((decide (n_814 ≤ (s_804.Peer.Queue.length : Int))))
  else
    some false : Option (Bool)).bind fun t_816 =>
  if t_816 = true then
    if InB n_814 s_804.Peer.Queue.length then
      lt1 (((s_804.Peer.Queue.drop n_814.toNat).take (s_804.Peer.Queue.length - n_814.toNat))) fun (f_820 : List (List UInt8)) =>
      some (({ Peer := ({ Epoch := s_804.Peer.Epoch, Other := s_804.Peer.Other, First := k_805.Ack, Queue := f_820, Next := s_804.Peer.Next, Early := s_804.Peer.Early, SentAt := (-1) } : Api_Peer), delivered := s_804.delivered } : Window_side))
    else none
  else
    some (({ Peer := s_804.Peer, delivered := s_804.delivered } : Window_side))

def window_side_deliver_b1 (f_901 : Int) (f_902 : Int) (f_903 : Int) (f_904 : List (List UInt8)) (f_905 : Int) (f_906 : List Api_Packet) (f_907 : Int) (l_908 : List (List UInt8)) : Option ((Int × Int × Int × List (List UInt8) × Int × List Api_Packet × Int × List (List UInt8)) ⊕ (Int × Int × Int × List (List UInt8) × Int × List Api_Packet × Int × List (List UInt8))) :=
  (if (decide ((f_906.length : Int) > 0)) = true then
    if InR 0 f_906.length then
      some (((nth f_906 0).Seq == f_905))
    else none
  else
    some false : Option (Bool)).bind fun t_934 =>
  if t_934 = true then
    if InR 0 f_906.length then
      (window_side_take (({ Peer := ({ Epoch := f_901, Other := f_902, First := f_903, Queue := f_904, Next := f_905, Early := f_906, SentAt := f_907 } : Api_Peer), delivered := l_908 } : Window_side)) ((nth f_906 0).Data)).bind fun y_938 =>
      lt1 y_938.delivered fun (l_941 : List (List UInt8)) =>
      if InB 1 y_938.Peer.Early.length then
        lt1 (((y_938.Peer.Early.drop 1).take (y_938.Peer.Early.length - 1))) fun (f_944 : List Api_Packet) =>
        some (.inl ((y_938.Peer.Epoch, y_938.Peer.Other, y_938.Peer.First, y_938.Peer.Queue, y_938.Peer.Next, f_944, y_938.Peer.SentAt, l_941)))
      else none
    else none
  else
    some (.inr ((f_901, f_902, f_903, f_904, f_905, f_906, f_907, l_908)))
def window_side_deliver (s_822 : Window_side) (k_823 : Api_Packet) : Option (Window_side) :=
  if (k_823.Seq != s_822.Peer.Next) = true then
    some (({ Peer := s_822.Peer, delivered := s_822.delivered } : Window_side))
  else
    (window_side_take (({ Peer := s_822.Peer, delivered := s_822.delivered } : Window_side)) k_823.Data).bind fun y_885 =>
    lt1 y_885.delivered fun (l_887 : List (List UInt8)) =>
    (loopO (fun (v : Int × Int × Int × List (List UInt8) × Int × List Api_Packet × Int × List (List UInt8)) => window_side_deliver_b1 v.1 v.2.1 v.2.2.1 v.2.2.2.1 v.2.2.2.2.1 v.2.2.2.2.2.1 v.2.2.2.2.2.2.1 v.2.2.2.2.2.2.2) ((y_885.Peer.Epoch, y_885.Peer.Other, y_885.Peer.First, y_885.Peer.Queue, y_885.Peer.Next, y_885.Peer.Early, y_885.Peer.SentAt, l_887))).bind fun (f_921, f_922, f_923, f_924, f_925, f_926, f_927, l_928) =>
    some (({ Peer := ({ Epoch := f_921, Other := f_922, First := f_923, Queue := f_924, Next := f_925, Early := f_926, SentAt := f_927 } : Api_Peer), delivered := l_928 } : Window_side))

def window_side_keep (s_946 : Window_side) (k_947 : Api_Packet) : Option (Window_side) :=
  (if (decide (k_947.Seq ≤ s_946.Peer.Next)) = true then
    some true
  else
    some ((decide (k_947.Seq ≥ (w64 (s_946.Peer.Next + 64))))) : Option (Bool)).bind fun t_955 =>
  if t_955 = true then
    some (({ Peer := s_946.Peer, delivered := s_946.delivered } : Window_side))
  else
    (slices_BinarySearchFunc_56 s_946.Peer.Early k_947.Seq window_side_keep_1).bind fun y_958 =>
    if (!y_958.2) = true then
      none
    else
      some (({ Peer := s_946.Peer, delivered := s_946.delivered } : Window_side))

def window_Accept (p_962 : Api_Peer) (k_963 : Api_Packet) : Option (Api_Peer × List (List UInt8) × Bool) :=
  ((window_between k_963.Epoch 0 1073741824).bind fun y_964 =>
  if y_964 = true then
    (window_between k_963.Seq ((-1)) 1099511627775).bind fun y_965 =>
    if y_965 = true then
      (window_between k_963.Ack 0 1099511627776).bind fun y_966 =>
      if y_966 = true then
        some ((decide ((k_963.Data.length : Int) ≤ 8000)))
      else
        some false
    else
      some false
  else
    some false : Option (Bool)).bind fun fine_967 =>
  (if (!fine_967) = true then
    some true
  else
    (window_valid p_962).bind fun y_975 =>
    if (!y_975) = true then
      some true
    else
      some ((decide (k_963.Epoch < p_962.Other))) : Option (Bool)).bind fun t_976 =>
  if t_976 = true then
    some ((p_962, [], false))
  else
    lt1 ((decide (k_963.Epoch > p_962.Other))) fun (reset_981 : Bool) =>
    (if reset_981 = true then
      some ((k_963.Epoch, 0, [], 0, [], (-1)))
    else
      some ((p_962.Other, p_962.First, p_962.Queue, p_962.Next, p_962.Early, p_962.SentAt)) : Option (Int × Int × List (List UInt8) × Int × List Api_Packet × Int)).bind fun (f_983, f_984, f_985, f_986, f_987, f_988) =>
    (if (k_963.To == p_962.Epoch) = true then
      (window_side_acknowledge (({ Peer := ({ Epoch := p_962.Epoch, Other := f_983, First := f_984, Queue := f_985, Next := f_986, Early := f_987, SentAt := f_988 } : Api_Peer), delivered := [] } : Window_side)) k_963).bind fun y_1022 =>
      lt1 y_1022.delivered fun (l_1024 : List (List UInt8)) =>
      (window_side_keep (({ Peer := y_1022.Peer, delivered := l_1024 } : Window_side)) k_963).bind fun y_1028 =>
      lt1 y_1028.delivered fun (l_1030 : List (List UInt8)) =>
      (window_side_deliver (({ Peer := y_1028.Peer, delivered := l_1030 } : Window_side)) k_963).bind fun y_1034 =>
      lt1 y_1034.delivered fun (l_1036 : List (List UInt8)) =>
      some ((y_1034.Peer.Epoch, y_1034.Peer.Other, y_1034.Peer.First, y_1034.Peer.Queue, y_1034.Peer.Next, y_1034.Peer.Early, y_1034.Peer.SentAt, l_1036))
    else
      some ((p_962.Epoch, f_983, f_984, f_985, f_986, f_987, f_988, [])) : Option (Int × Int × Int × List (List UInt8) × Int × List Api_Packet × Int × List (List UInt8))).bind fun (f_1010, f_1011, f_1012, f_1013, f_1014, f_1015, f_1016, l_1017) =>
    some ((({ Epoch := f_1010, Other := f_1011, First := f_1012, Queue := f_1013, Next := f_1014, Early := f_1015, SentAt := f_1016 } : Api_Peer), l_1017, reset_981))

def law12_few_b1 (p_1039 : Api_Peer) (n_1067 : Int) (i_1068 : Int) : Option ((Int × Int) ⊕ (Int)) :=
  if (decide (i_1068 < (p_1039.Queue.length : Int))) = true then
    if InR i_1068 p_1039.Queue.length then
      lt1 ((w64 (n_1067 + ((nth p_1039.Queue i_1068.toNat).length : Int)))) fun (n_1079 : Int) =>
      some (.inl ((n_1079, (w64 (i_1068 + 1)))))
    else none
  else
    some (.inr n_1067)
def law12_few_b2 (p_1039 : Api_Peer) (n_1105 : Int) (i_1106 : Int) : Option ((Int × Int) ⊕ (Int)) :=
  if (decide (i_1106 < (p_1039.Early.length : Int))) = true then
    if InR i_1106 p_1039.Early.length then
      lt1 ((w64 (n_1105 + (((nth p_1039.Early i_1106.toNat).Data).length : Int)))) fun (n_1117 : Int) =>
      some (.inl ((n_1117, (w64 (i_1106 + 1)))))
    else none
  else
    some (.inr n_1105)
def law12_few (p_1039 : Api_Peer) : Option (Bool) :=
  (if (decide ((p_1039.Queue.length : Int) > 257)) = true then
    some true
  else
    some ((decide ((p_1039.Early.length : Int) > 70))) : Option (Bool)).bind fun t_1040 =>
  if t_1040 = true then
    some false
  else
    ((loopO (fun (v : Int × Int) => law12_few_b1 p_1039 v.1 v.2) ((0, 0))).bind fun n_1072 =>
    some n_1072 : Option (Int)).bind fun n_1060 =>
    ((loopO (fun (v : Int × Int) => law12_few_b2 p_1039 v.1 v.2) ((n_1060, 0))).bind fun n_1110 =>
    some n_1110 : Option (Int)).bind fun n_1098 =>
    some ((decide (n_1098 ≤ 20000)))

def law12_sane  : Option (Bool) :=
  (window_New 3).bind fun y_1119 =>
  (window_New 5).bind fun y_1121 =>
  (window_New ((-1))).bind fun y_1123 =>
  (window_Emit y_1119.1 0).bind fun y_1125 =>
  (if (y_1119.2 != 0) = true then
    some true
  else
    if (y_1121.2 != 0) = true then
      some true
    else
      if (y_1123.2 != 1) = true then
        some true
      else
        if ((y_1125.2.length : Int) != 1) = true then
          some true
        else
          if InR 0 y_1125.2.length then
            (r12_SamePacket (nth y_1125.2 0) (({ Epoch := 3, To := (-1), Seq := (-1), Ack := 0, Data := [] } : Api_Packet))).bind fun y_1127 =>
            some ((!y_1127))
          else none : Option (Bool)).bind fun t_1128 =>
  if t_1128 = true then
    some false
  else
    if InR 0 y_1125.2.length then
      (window_Accept y_1121.1 (nth y_1125.2 0)).bind fun y_1136 =>
      (window_Emit y_1136.1 1).bind fun y_1139 =>
      (if ((y_1136.2.1.length : Int) != 0) = true then
        some true
      else
        if (!y_1136.2.2) = true then
          some true
        else
          if (y_1139.1.Other != 3) = true then
            some true
          else
            some (((y_1139.2.length : Int) != 1)) : Option (Bool)).bind fun t_1141 =>
      if t_1141 = true then
        some false
      else
        if InR 0 y_1139.2.length then
          (window_Accept y_1125.1 (nth y_1139.2 0)).bind fun y_1146 =>
          (window_Offer y_1146.1 (([(120 : UInt8)] : List UInt8))).bind fun y_1149 =>
          (window_Emit y_1149.1 7).bind fun y_1151 =>
          (if (!y_1146.2.2) = true then
            some true
          else
            if (y_1149.2 != 0) = true then
              some true
            else
              if ((y_1151.2.length : Int) != 1) = true then
                some true
              else
                if InR 0 y_1151.2.length then
                  (r12_SamePacket (nth y_1151.2 0) (({ Epoch := 3, To := 5, Seq := 0, Ack := 0, Data := ([(120 : UInt8)] : List UInt8) } : Api_Packet))).bind fun y_1153 =>
                  some ((!y_1153))
                else none : Option (Bool)).bind fun t_1154 =>
          if t_1154 = true then
            some false
          else
            (window_Emit y_1151.1 8).bind fun y_1161 =>
            (window_Emit y_1151.1 17).bind fun y_1163 =>
            if InR 0 y_1151.2.length then
              (window_Accept y_1139.1 (nth y_1151.2 0)).bind fun y_1165 =>
              if InR 0 y_1151.2.length then
                (window_Accept y_1165.1 (nth y_1151.2 0)).bind fun y_1168 =>
                (if ((y_1161.2.length : Int) == 1) = true then
                  if InR 0 y_1161.2.length then
                    if ((nth y_1161.2 0).Seq == (-1)) = true then
                      if ((y_1163.2.length : Int) == 1) = true then
                        if InR 0 y_1163.2.length then
                          if ((nth y_1163.2 0).Seq == 0) = true then
                            if ((y_1165.2.1.length : Int) == 1) = true then
                              if InR 0 y_1165.2.1.length then
                                if ((nth y_1165.2.1 0) == (([120] : List UInt8))) = true then
                                  if (y_1165.1.Next == 1) = true then
                                    some (((y_1168.2.1.length : Int) == 0))
                                  else
                                    some false
                                else
                                  some false
                              else none
                            else
                              some false
                          else
                            some false
                        else none
                      else
                        some false
                    else
                      some false
                  else none
                else
                  some false : Option (Bool)).bind fun t_1171 =>
                some t_1171
              else none
            else none
        else none
    else none

def law12_WindowMatches (p_1183 : Api_Peer) (data_1184 : List UInt8) (now_1185 : Int) (epoch_1186 : Int) : Option (Bool) :=
  law12_sane.bind fun y_1187 =>
  if (!y_1187) = true then
    some false
  else
    ((law12_few p_1183).bind fun y_1189 =>
    if (!y_1189) = true then
      some true
    else
      some ((decide ((data_1184.length : Int) > 20000))) : Option (Bool)).bind fun t_1190 =>
    if t_1190 = true then
      some true
    else
      (window_New epoch_1186).bind fun y_1194 =>
      (r12_New epoch_1186).bind fun y_1196 =>
      (window_Offer p_1183 data_1184).bind fun y_1198 =>
      (r12_Offer p_1183 data_1184).bind fun y_1200 =>
      (window_Emit p_1183 now_1185).bind fun y_1202 =>
      (r12_Emit p_1183 now_1185).bind fun y_1204 =>
      ((r12_Same y_1194.1 y_1196.1).bind fun y_1206 =>
      if y_1206 = true then
        if (y_1194.2 == y_1196.2) = true then
          (r12_Same y_1198.1 y_1200.1).bind fun y_1207 =>
          if y_1207 = true then
            if (y_1198.2 == y_1200.2) = true then
              (r12_Same y_1202.1 y_1204.1).bind fun y_1208 =>
              if y_1208 = true then
                (r12_SamePackets y_1202.2 y_1204.2).bind fun y_1209 =>
                some y_1209
              else
                some false
            else
              some false
          else
            some false
        else
          some false
      else
        some false : Option (Bool)).bind fun t_1210 =>
      some t_1210

end Go.Proofs.Ytomjphpnpcgacaa
/-
  The functions compute just that.
-/
namespace Go.Proofs.Ytomjphpnpcgacaa
open Go.Rv
set_option linter.unusedVariables false
set_option linter.unusedSimpArgs false
set_option maxRecDepth 20000
set_option maxHeartbeats 4000000

theorem window_between_con {n_1 : Int} {lo_2 : Int} {hi_3 : Int} {r : Bool} (h : window_between n_1 lo_2 hi_3 = some r) : Con B 35 [i64 n_1, i64 lo_2, i64 hi_3] [] (fun r' σ' => r' = .bool r ∧ σ' = []) := by
  refine con_walk (N := 15) (rs := [.tmp 6]) ok Try.func35 rfl (by decide +kernel) rfl rfl (Nat.le_of_ble_eq_true rfl) (fun F => ?_)
  have hE := ok.env F
  unfold window_between at h
  show Run (B.env F) 0 _ ⟨asFr 15 [(0, i64 n_1), (1, i64 lo_2), (2, i64 hi_3)], []⟩ _
  refine run_wkP ?_
  refine run_textE hE [0, 1, 2] (fr' := [(0, i64 n_1), (1, i64 lo_2), (2, i64 hi_3)]) (σ' := []) ⟨_, orcs_nil, ?_⟩ ?_
  · simp only [go_sem, reduceIte, Nat.reduceLT, Nat.reduceEqDiff, Nat.reduceAdd]
  replace h := bind_some1 h; obtain ⟨t_4, hv_5, h⟩ := h
  refine run_textW hE [6] (fr' := [(6, .bool t_4)]) (σ' := []) ?_ ?_
  · rcases Bool.eq_false_or_eq_true ((decide (n_1 ≥ lo_2))) with hb_6 | hb_6
    · replace hv_5 := ite_t hv_5 hb_6
      have e_hv_5 := Option.some.inj hv_5; subst e_hv_5
      exact ⟨_, [(6, .bool ((decide (n_1 ≤ hi_3))))], [], orcs_nil, by simp only [go_sem, reduceIte, Nat.reduceLT, Nat.reduceEqDiff, Nat.reduceAdd, hb_6], (weak_sel [] (by decide) rfl (by simp only [go_sem, reduceIte, Nat.reduceLT, Nat.reduceEqDiff, Nat.reduceAdd]) (by simp only [go_sem, reduceIte, Nat.reduceLT, Nat.reduceEqDiff, Nat.reduceAdd]))⟩
    · replace hv_5 := ite_f hv_5 hb_6
      have e_hv_5 := Option.some.inj hv_5; subst e_hv_5
      exact ⟨_, [(6, .bool false)], [], orcs_nil, by simp only [go_sem, reduceIte, Nat.reduceLT, Nat.reduceEqDiff, Nat.reduceAdd, hb_6], (weak_sel [] (by decide) rfl (by simp only [go_sem, reduceIte, Nat.reduceLT, Nat.reduceEqDiff, Nat.reduceAdd]) (by simp only [go_sem, reduceIte, Nat.reduceLT, Nat.reduceEqDiff, Nat.reduceAdd]))⟩
  refine run_ret ?_
  obtain rfl := Option.some.inj h
  refine wkP_of (Weak.refl _ _) ?_
  refine ret_ok (.inr rfl) ?_
  simp only [go_sem, reduceIte, Nat.reduceLT, Nat.reduceEqDiff, Nat.reduceAdd]

theorem r12_within_con {n_7 : Int} {lo_8 : Int} {hi_9 : Int} {r : Bool} (h : r12_within n_7 lo_8 hi_9 = some r) : Con B 36 [i64 n_7, i64 lo_8, i64 hi_9] [] (fun r' σ' => r' = .bool r ∧ σ' = []) := by
  refine con_walk (N := 15) (rs := [.tmp 6]) ok Try.func36 rfl (by decide +kernel) rfl rfl (Nat.le_of_ble_eq_true rfl) (fun F => ?_)
  have hE := ok.env F
  unfold r12_within at h
  show Run (B.env F) 0 _ ⟨asFr 15 [(0, i64 n_7), (1, i64 lo_8), (2, i64 hi_9)], []⟩ _
  refine run_wkP ?_
  refine run_textE hE [0, 1, 2] (fr' := [(0, i64 n_7), (1, i64 lo_8), (2, i64 hi_9)]) (σ' := []) ⟨_, orcs_nil, ?_⟩ ?_
  · simp only [go_sem, reduceIte, Nat.reduceLT, Nat.reduceEqDiff, Nat.reduceAdd]
  replace h := bind_some1 h; obtain ⟨t_10, hv_11, h⟩ := h
  refine run_textW hE [6] (fr' := [(6, .bool t_10)]) (σ' := []) ?_ ?_
  · rcases Bool.eq_false_or_eq_true ((decide (n_7 ≥ lo_8))) with hb_12 | hb_12
    · replace hv_11 := ite_t hv_11 hb_12
      have e_hv_11 := Option.some.inj hv_11; subst e_hv_11
      exact ⟨_, [(6, .bool ((decide (n_7 ≤ hi_9))))], [], orcs_nil, by simp only [go_sem, reduceIte, Nat.reduceLT, Nat.reduceEqDiff, Nat.reduceAdd, hb_12], (weak_sel [] (by decide) rfl (by simp only [go_sem, reduceIte, Nat.reduceLT, Nat.reduceEqDiff, Nat.reduceAdd]) (by simp only [go_sem, reduceIte, Nat.reduceLT, Nat.reduceEqDiff, Nat.reduceAdd]))⟩
    · replace hv_11 := ite_f hv_11 hb_12
      have e_hv_11 := Option.some.inj hv_11; subst e_hv_11
      exact ⟨_, [(6, .bool false)], [], orcs_nil, by simp only [go_sem, reduceIte, Nat.reduceLT, Nat.reduceEqDiff, Nat.reduceAdd, hb_12], (weak_sel [] (by decide) rfl (by simp only [go_sem, reduceIte, Nat.reduceLT, Nat.reduceEqDiff, Nat.reduceAdd]) (by simp only [go_sem, reduceIte, Nat.reduceLT, Nat.reduceEqDiff, Nat.reduceAdd]))⟩
  refine run_ret ?_
  obtain rfl := Option.some.inj h
  refine wkP_of (Weak.refl _ _) ?_
  refine ret_ok (.inr rfl) ?_
  simp only [go_sem, reduceIte, Nat.reduceLT, Nat.reduceEqDiff, Nat.reduceAdd]

end Go.Proofs.Ytomjphpnpcgacaa
/-
  The functions compute just that.
-/
namespace Go.Proofs.Ytomjphpnpcgacaa
open Go.Rv
set_option linter.unusedVariables false
set_option linter.unusedSimpArgs false
set_option maxRecDepth 20000
set_option maxHeartbeats 4000000

theorem window_valid_con {p_13 : Api_Peer} {r : Bool} (h : window_valid p_13 = some r) : Con B 37 [.agg [i64 p_13.Epoch, i64 p_13.Other, i64 p_13.First, .sl false (L (cSl cU8) p_13.Queue), i64 p_13.Next, .sl false (L cApi_Packet p_13.Early), i64 p_13.SentAt]] [] (fun r' σ' => r' = .bool r ∧ σ' = []) := by
  refine con_walk (N := 106) (rs := [.tmp 2]) ok Try.func37 rfl (by decide +kernel) rfl rfl (Nat.le_of_ble_eq_true rfl) (fun F => ?_)
  have hE := ok.env F
  unfold window_valid at h
  show Run (B.env F) 0 _ ⟨asFr 106 [(0, .agg [i64 p_13.Epoch, i64 p_13.Other, i64 p_13.First, .sl false (L (cSl cU8) p_13.Queue), i64 p_13.Next, .sl false (L cApi_Packet p_13.Early), i64 p_13.SentAt])], []⟩ _
  refine run_wkP ?_
  refine run_textE hE [1] (fr' := [(1, .ref 0 0)]) (σ' := [.box [i64 p_13.Epoch, i64 p_13.Other, i64 p_13.First, .sl false (L (cSl cU8) p_13.Queue), i64 p_13.Next, .sl false (L cApi_Packet p_13.Early), i64 p_13.SentAt] false]) ⟨_, orcs_nil, ?_⟩ ?_
  · simp only [go_sem, reduceIte, Nat.reduceLT, Nat.reduceEqDiff, Nat.reduceAdd]
  refine run_seq ?_
  replace h := bind_some1 h; obtain ⟨t_17, hv_18, h⟩ := h
  refine run_textW hE [1, 23] (fr' := [(1, .ref 0 0), (23, .bool t_17)]) (σ' := [.box [i64 p_13.Epoch, i64 p_13.Other, i64 p_13.First, .sl false (L (cSl cU8) p_13.Queue), i64 p_13.Next, .sl false (L cApi_Packet p_13.Early), i64 p_13.SentAt] false]) ?_ ?_
  · replace hv_18 := bind_some1 hv_18; obtain ⟨y_14, hy_19, hv_18⟩ := hv_18
    rcases Bool.eq_false_or_eq_true ((!y_14)) with hb_20 | hb_20
    · replace hv_18 := ite_t hv_18 hb_20
      have e_hv_18 := Option.some.inj hv_18; subst e_hv_18
      exact ⟨_, [(1, .ref 0 0), (23, .bool true)], [.box [i64 p_13.Epoch, i64 p_13.Other, i64 p_13.First, .sl false (L (cSl cU8) p_13.Queue), i64 p_13.Next, .sl false (L cApi_Packet p_13.Early), i64 p_13.SentAt] false], orcs_ok (l := [(10, 35, [i64 p_13.Epoch, i64 0, i64 1073741824], .bool y_14)]) ⟨window_between_con  hy_19, trivial⟩, by simp only [go_sem, reduceIte, Nat.reduceLT, Nat.reduceEqDiff, Nat.reduceAdd, hb_20], (weak_sel [0] (by decide) rfl (by simp only [go_sem, reduceIte, Nat.reduceLT, Nat.reduceEqDiff, Nat.reduceAdd]) (by simp only [go_sem, reduceIte, Nat.reduceLT, Nat.reduceEqDiff, Nat.reduceAdd]))⟩
    · replace hv_18 := ite_f hv_18 hb_20
      replace hv_18 := bind_some1 hv_18; obtain ⟨y_15, hy_21, hv_18⟩ := hv_18
      rcases Bool.eq_false_or_eq_true ((!y_15)) with hb_22 | hb_22
      · replace hv_18 := ite_t hv_18 hb_22
        have e_hv_18 := Option.some.inj hv_18; subst e_hv_18
        exact ⟨_, [(1, .ref 0 0), (23, .bool true)], [.box [i64 p_13.Epoch, i64 p_13.Other, i64 p_13.First, .sl false (L (cSl cU8) p_13.Queue), i64 p_13.Next, .sl false (L cApi_Packet p_13.Early), i64 p_13.SentAt] false], orcs_ok (l := [(10, 35, [i64 p_13.Epoch, i64 0, i64 1073741824], .bool y_14), (15, 35, [i64 p_13.Other, i64 ((-1)), i64 1073741824], .bool y_15)]) ⟨window_between_con  hy_19, window_between_con  hy_21, trivial⟩, by simp only [go_sem, reduceIte, Nat.reduceLT, Nat.reduceEqDiff, Nat.reduceAdd, hb_20, hb_22], (weak_sel [0] (by decide) rfl (by simp only [go_sem, reduceIte, Nat.reduceLT, Nat.reduceEqDiff, Nat.reduceAdd]) (by simp only [go_sem, reduceIte, Nat.reduceLT, Nat.reduceEqDiff, Nat.reduceAdd]))⟩
      · replace hv_18 := ite_f hv_18 hb_22
        replace hv_18 := bind_some1 hv_18; obtain ⟨y_16, hy_23, hv_18⟩ := hv_18
        have e_hv_18 := Option.some.inj hv_18; subst e_hv_18
        exact ⟨_, [(1, .ref 0 0), (23, .bool ((!y_16)))], [.box [i64 p_13.Epoch, i64 p_13.Other, i64 p_13.First, .sl false (L (cSl cU8) p_13.Queue), i64 p_13.Next, .sl false (L cApi_Packet p_13.Early), i64 p_13.SentAt] false], orcs_ok (l := [(10, 35, [i64 p_13.Epoch, i64 0, i64 1073741824], .bool y_14), (15, 35, [i64 p_13.Other, i64 ((-1)), i64 1073741824], .bool y_15), (21, 35, [i64 p_13.SentAt, i64 ((-1)), i64 1073741824], .bool y_16)]) ⟨window_between_con  hy_19, window_between_con  hy_21, window_between_con  hy_23, trivial⟩, by simp only [go_sem, reduceIte, Nat.reduceLT, Nat.reduceEqDiff, Nat.reduceAdd, hb_20, hb_22], (weak_sel [0] (by decide) rfl (by simp only [go_sem, reduceIte, Nat.reduceLT, Nat.reduceEqDiff, Nat.reduceAdd]) (by simp only [go_sem, reduceIte, Nat.reduceLT, Nat.reduceEqDiff, Nat.reduceAdd]))⟩
  refine run_condL (b := t_17) rfl (by decide) (fun hb => ?_) (fun hb => ?_)
  · replace h := ite_t h hb
    refine run_textE hE [2] (fr' := [(2, .bool false)]) (σ' := [.box [i64 p_13.Epoch, i64 p_13.Other, i64 p_13.First, .sl false (L (cSl cU8) p_13.Queue), i64 p_13.Next, .sl false (L cApi_Packet p_13.Early), i64 p_13.SentAt] false]) ⟨_, orcs_nil, ?_⟩ ?_
    · simp only [go_sem, reduceIte, Nat.reduceLT, Nat.reduceEqDiff, Nat.reduceAdd]
    refine run_ret ?_
    refine thenK_r ?_
    obtain rfl := Option.some.inj h
    refine wkP_of (Weak.refl _ _) ?_
    refine ret_ok (.inr rfl) ?_
    simp only [go_sem, reduceIte, Nat.reduceLT, Nat.reduceEqDiff, Nat.reduceAdd]
  · replace h := ite_f h hb
    refine run_skip ?_
    refine thenK_n ?_
    refine run_seq ?_
    replace h := bind_some1 h; obtain ⟨t_26, hv_27, h⟩ := h
    refine run_textW hE [1, 48] (fr' := [(1, .ref 0 0), (48, .bool t_26)]) (σ' := [.box [i64 p_13.Epoch, i64 p_13.Other, i64 p_13.First, .sl false (L (cSl cU8) p_13.Queue), i64 p_13.Next, .sl false (L cApi_Packet p_13.Early), i64 p_13.SentAt] false]) ?_ ?_
    · replace hv_27 := bind_some1 hv_27; obtain ⟨y_24, hy_28, hv_27⟩ := hv_27
      rcases Bool.eq_false_or_eq_true ((!y_24)) with hb_29 | hb_29
      · replace hv_27 := ite_t hv_27 hb_29
        have e_hv_27 := Option.some.inj hv_27; subst e_hv_27
        exact ⟨_, [(1, .ref 0 0), (48, .bool true)], [.box [i64 p_13.Epoch, i64 p_13.Other, i64 p_13.First, .sl false (L (cSl cU8) p_13.Queue), i64 p_13.Next, .sl false (L cApi_Packet p_13.Early), i64 p_13.SentAt] false], orcs_ok (l := [(26, 35, [i64 p_13.First, i64 0, i64 1099511627776], .bool y_24)]) ⟨window_between_con  hy_28, trivial⟩, by simp only [go_sem, reduceIte, Nat.reduceLT, Nat.reduceEqDiff, Nat.reduceAdd, hb_29], (weak_sel [0] (by decide) rfl (by simp only [go_sem, reduceIte, Nat.reduceLT, Nat.reduceEqDiff, Nat.reduceAdd]) (by simp only [go_sem, reduceIte, Nat.reduceLT, Nat.reduceEqDiff, Nat.reduceAdd]))⟩
      · replace hv_27 := ite_f hv_27 hb_29
        replace hv_27 := bind_some1 hv_27; obtain ⟨y_25, hy_30, hv_27⟩ := hv_27
        rcases Bool.eq_false_or_eq_true ((!y_25)) with hb_31 | hb_31
        · replace hv_27 := ite_t hv_27 hb_31
          have e_hv_27 := Option.some.inj hv_27; subst e_hv_27
          exact ⟨_, [(1, .ref 0 0), (48, .bool true)], [.box [i64 p_13.Epoch, i64 p_13.Other, i64 p_13.First, .sl false (L (cSl cU8) p_13.Queue), i64 p_13.Next, .sl false (L cApi_Packet p_13.Early), i64 p_13.SentAt] false], orcs_ok (l := [(26, 35, [i64 p_13.First, i64 0, i64 1099511627776], .bool y_24), (31, 35, [i64 p_13.Next, i64 0, i64 1099511627776], .bool y_25)]) ⟨window_between_con  hy_28, window_between_con  hy_30, trivial⟩, by simp only [go_sem, reduceIte, Nat.reduceLT, Nat.reduceEqDiff, Nat.reduceAdd, hb_29, hb_31], (weak_sel [0] (by decide) rfl (by simp only [go_sem, reduceIte, Nat.reduceLT, Nat.reduceEqDiff, Nat.reduceAdd]) (by simp only [go_sem, reduceIte, Nat.reduceLT, Nat.reduceEqDiff, Nat.reduceAdd]))⟩
        · replace hv_27 := ite_f hv_27 hb_31
          rcases Bool.eq_false_or_eq_true ((decide ((p_13.Queue.length : Int) > 256))) with hb_32 | hb_32
          · replace hv_27 := ite_t hv_27 hb_32
            have e_hv_27 := Option.some.inj hv_27; subst e_hv_27
            exact ⟨_, [(1, .ref 0 0), (48, .bool true)], [.box [i64 p_13.Epoch, i64 p_13.Other, i64 p_13.First, .sl false (L (cSl cU8) p_13.Queue), i64 p_13.Next, .sl false (L cApi_Packet p_13.Early), i64 p_13.SentAt] false], orcs_ok (l := [(26, 35, [i64 p_13.First, i64 0, i64 1099511627776], .bool y_24), (31, 35, [i64 p_13.Next, i64 0, i64 1099511627776], .bool y_25)]) ⟨window_between_con  hy_28, window_between_con  hy_30, trivial⟩, by simp only [go_sem, reduceIte, Nat.reduceLT, Nat.reduceEqDiff, Nat.reduceAdd, hb_29, hb_31, hb_32], (weak_sel [0] (by decide) rfl (by simp only [go_sem, reduceIte, Nat.reduceLT, Nat.reduceEqDiff, Nat.reduceAdd]) (by simp only [go_sem, reduceIte, Nat.reduceLT, Nat.reduceEqDiff, Nat.reduceAdd]))⟩
          · replace hv_27 := ite_f hv_27 hb_32
            have e_hv_27 := Option.some.inj hv_27; subst e_hv_27
            exact ⟨_, [(1, .ref 0 0), (48, .bool ((decide ((w64 (p_13.First + (p_13.Queue.length : Int))) > 1099511627776))))], [.box [i64 p_13.Epoch, i64 p_13.Other, i64 p_13.First, .sl false (L (cSl cU8) p_13.Queue), i64 p_13.Next, .sl false (L cApi_Packet p_13.Early), i64 p_13.SentAt] false], orcs_ok (l := [(26, 35, [i64 p_13.First, i64 0, i64 1099511627776], .bool y_24), (31, 35, [i64 p_13.Next, i64 0, i64 1099511627776], .bool y_25)]) ⟨window_between_con  hy_28, window_between_con  hy_30, trivial⟩, by simp only [go_sem, reduceIte, Nat.reduceLT, Nat.reduceEqDiff, Nat.reduceAdd, hb_29, hb_31, hb_32], (weak_sel [0] (by decide) rfl (by simp only [go_sem, reduceIte, Nat.reduceLT, Nat.reduceEqDiff, Nat.reduceAdd]) (by simp only [go_sem, reduceIte, Nat.reduceLT, Nat.reduceEqDiff, Nat.reduceAdd]))⟩
    refine run_condL (b := t_26) rfl (by decide) (fun hb => ?_) (fun hb => ?_)
    · replace h := ite_t h hb
      refine run_textE hE [2] (fr' := [(2, .bool false)]) (σ' := [.box [i64 p_13.Epoch, i64 p_13.Other, i64 p_13.First, .sl false (L (cSl cU8) p_13.Queue), i64 p_13.Next, .sl false (L cApi_Packet p_13.Early), i64 p_13.SentAt] false]) ⟨_, orcs_nil, ?_⟩ ?_
      · simp only [go_sem, reduceIte, Nat.reduceLT, Nat.reduceEqDiff, Nat.reduceAdd]
      refine run_ret ?_
      refine thenK_r ?_
      obtain rfl := Option.some.inj h
      refine wkP_of (Weak.refl _ _) ?_
      refine ret_ok (.inr rfl) ?_
      simp only [go_sem, reduceIte, Nat.reduceLT, Nat.reduceEqDiff, Nat.reduceAdd]
    · replace h := ite_f h hb
      refine run_skip ?_
      refine thenK_n ?_
      replace h := bind_some1 h; obtain ⟨j_48, hA_49, hj_50⟩ := h
      refine run_join (fun (v : Unit) => (⟨asFr 106 [(1, .ref 0 0)], [.box [i64 p_13.Epoch, i64 p_13.Other, i64 p_13.First, .sl false (L (cSl cU8) p_13.Queue), i64 p_13.Next, .sl false (L cApi_Packet p_13.Early), i64 p_13.SentAt] false]⟩ : St)) (fun v => .inl v = j_48) ?_ ?_
      · have h := hA_49; clear hA_49
        refine run_textE hE [1, 50, 51, 52] (fr' := [(1, .ref 0 0), (50, .sl false (L (cSl cU8) p_13.Queue)), (51, i64 ((p_13.Queue.length : Int))), (52, i64 0)]) (σ' := [.box [i64 p_13.Epoch, i64 p_13.Other, i64 p_13.First, .sl false (L (cSl cU8) p_13.Queue), i64 p_13.Next, .sl false (L cApi_Packet p_13.Early), i64 p_13.SentAt] false]) ⟨_, orcs_nil, ?_⟩ ?_
        · simp only [go_sem, reduceIte, Nat.reduceLT, Nat.reduceEqDiff, Nat.reduceAdd]
        refine run_block ?_
        replace h := bind_some1 h; obtain ⟨x_58, hx_59, hj_60⟩ := h
        refine run_loopO hx_59 (fun (v : Int) => (⟨asFr 106 [(1, .ref 0 0), (50, .sl false (L (cSl cU8) p_13.Queue)), (51, i64 ((p_13.Queue.length : Int))), (52, i64 v)], [.box [i64 p_13.Epoch, i64 p_13.Other, i64 p_13.First, .sl false (L (cSl cU8) p_13.Queue), i64 p_13.Next, .sl false (L cApi_Packet p_13.Early), i64 p_13.SentAt] false]⟩ : St)) (weak_sel [0] (by decide) rfl (by simp only [go_sem, reduceIte, Nat.reduceLT, Nat.reduceEqDiff, Nat.reduceAdd]) (by simp only [go_sem, reduceIte, Nat.reduceLT, Nat.reduceEqDiff, Nat.reduceAdd])) ?_
        rintro t_54 o_61 h hxx_62
        replace h : window_valid_b1 p_13 t_54 = some o_61 := h
        unfold window_valid_b1 at h
        refine run_textE hE [1, 50, 51, 52, 53] (fr' := [(1, .ref 0 0), (50, .sl false (L (cSl cU8) p_13.Queue)), (51, i64 ((p_13.Queue.length : Int))), (52, i64 t_54), (53, .bool ((decide (t_54 < (p_13.Queue.length : Int)))))]) (σ' := [.box [i64 p_13.Epoch, i64 p_13.Other, i64 p_13.First, .sl false (L (cSl cU8) p_13.Queue), i64 p_13.Next, .sl false (L cApi_Packet p_13.Early), i64 p_13.SentAt] false]) ⟨_, orcs_nil, ?_⟩ ?_
        · simp only [go_sem, reduceIte, Nat.reduceLT, Nat.reduceEqDiff, Nat.reduceAdd]
        refine run_seq ?_
        refine run_condL (b := (decide (t_54 < (p_13.Queue.length : Int)))) rfl (by decide) (fun hb => ?_) (fun hb => ?_)
        · replace h := ite_t h hb
          refine run_skip ?_
          refine thenK_n ?_
          refine run_seq ?_
          refine run_block ?_
          replace h := chk_some h; obtain ⟨hc_63, h⟩ := h
          refine run_textE hE [1, 4, 50, 51, 52] (fr' := [(1, .ref 0 0), (4, .sl false (L cU8 (nth p_13.Queue t_54.toNat))), (50, .sl false (L (cSl cU8) p_13.Queue)), (51, i64 ((p_13.Queue.length : Int))), (52, i64 t_54)]) (σ' := [.box [i64 p_13.Epoch, i64 p_13.Other, i64 p_13.First, .sl false (L (cSl cU8) p_13.Queue), i64 p_13.Next, .sl false (L cApi_Packet p_13.Early), i64 p_13.SentAt] false]) ⟨_, orcs_nil, ?_⟩ ?_
          · simp only [go_sem, reduceIte, Nat.reduceLT, Nat.reduceEqDiff, Nat.reduceAdd, Int.reduceToNat, hc_63, hc_63.2, lt_le hc_63.2]
          refine run_textE hE [1, 50, 51, 52, 58] (fr' := [(1, .ref 0 0), (50, .sl false (L (cSl cU8) p_13.Queue)), (51, i64 ((p_13.Queue.length : Int))), (52, i64 t_54), (58, .bool ((decide (((nth p_13.Queue t_54.toNat).length : Int) > 8000))))]) (σ' := [.box [i64 p_13.Epoch, i64 p_13.Other, i64 p_13.First, .sl false (L (cSl cU8) p_13.Queue), i64 p_13.Next, .sl false (L cApi_Packet p_13.Early), i64 p_13.SentAt] false]) ⟨_, orcs_nil, ?_⟩ ?_
          · simp only [go_sem, reduceIte, Nat.reduceLT, Nat.reduceEqDiff, Nat.reduceAdd]
          refine run_condL (b := (decide (((nth p_13.Queue t_54.toNat).length : Int) > 8000))) rfl (by decide) (fun hb => ?_) (fun hb => ?_)
          · replace h := ite_t h hb
            refine run_textE hE [2] (fr' := [(2, .bool false)]) (σ' := [.box [i64 p_13.Epoch, i64 p_13.Other, i64 p_13.First, .sl false (L (cSl cU8) p_13.Queue), i64 p_13.Next, .sl false (L cApi_Packet p_13.Early), i64 p_13.SentAt] false]) ⟨_, orcs_nil, ?_⟩ ?_
            · simp only [go_sem, reduceIte, Nat.reduceLT, Nat.reduceEqDiff, Nat.reduceAdd]
            refine run_ret ?_
            refine blockK_r ?_
            refine thenK_r ?_
            refine lpK_r ?_
            replace h := bind_some1 h; obtain ⟨z_65, h, e_z_65⟩ := h
            obtain rfl := Option.some.inj e_z_65
            have ex_z_65 := hxx_62 _ rfl
            subst ex_z_65
            obtain rfl := Option.some.inj hj_60
            refine blockK_r ?_
            refine joinK_r ?_
            replace h := bind_some1 h; obtain ⟨z_64, h, e_z_64⟩ := h
            obtain rfl := Option.some.inj e_z_64
            obtain rfl := Option.some.inj hj_50
            obtain rfl := Option.some.inj h
            refine wkP_of (Weak.refl _ _) ?_
            refine ret_ok (.inr rfl) ?_
            simp only [go_sem, reduceIte, Nat.reduceLT, Nat.reduceEqDiff, Nat.reduceAdd]
          · replace h := ite_f h hb
            refine run_skip ?_
            refine blockK_n ?_
            refine thenK_n ?_
            refine run_textE0 hE wk_lp [1, 50, 51, 52] (fr' := [(1, .ref 0 0), (50, .sl false (L (cSl cU8) p_13.Queue)), (51, i64 ((p_13.Queue.length : Int))), (52, i64 ((w64 (t_54 + 1))))]) (σ' := [.box [i64 p_13.Epoch, i64 p_13.Other, i64 p_13.First, .sl false (L (cSl cU8) p_13.Queue), i64 p_13.Next, .sl false (L cApi_Packet p_13.Early), i64 p_13.SentAt] false]) ⟨_, orcs_nil, ?_⟩ ?_
            · simp only [go_sem, reduceIte, Nat.reduceLT, Nat.reduceEqDiff, Nat.reduceAdd]
            obtain rfl := Option.some.inj h
            exact lpK_n ((w64 (t_54 + 1))) rfl (weak_sel [0] (by decide) rfl (by simp only [go_sem, reduceIte, Nat.reduceLT, Nat.reduceEqDiff, Nat.reduceAdd]) (by simp only [go_sem, reduceIte, Nat.reduceLT, Nat.reduceEqDiff, Nat.reduceAdd]))
        · replace h := ite_f h hb
          refine run_exit ?_
          refine thenK_x ?_
          obtain rfl := Option.some.inj h
          have ex_x_58 := hxx_62 _ rfl
          subst ex_x_58
          have h := hj_60; clear hj_60
          refine lpK_x ?_
          refine blockK_x ?_
          obtain rfl := Option.some.inj h
          exact joinK_n (()) rfl ((weak_sel (l' := [(1, .ref 0 0)]) (σ' := [.box [i64 p_13.Epoch, i64 p_13.Other, i64 p_13.First, .sl false (L (cSl cU8) p_13.Queue), i64 p_13.Next, .sl false (L cApi_Packet p_13.Early), i64 p_13.SentAt] false]) [0] (by decide) rfl (by simp only [go_sem, reduceIte, Nat.reduceLT, Nat.reduceEqDiff, Nat.reduceAdd]) (by simp only [go_sem, reduceIte, Nat.reduceLT, Nat.reduceEqDiff, Nat.reduceAdd])).trans (weak_sel [0] (by decide) rfl (by simp only [go_sem, reduceIte, Nat.reduceLT, Nat.reduceEqDiff, Nat.reduceAdd]) (by simp only [go_sem, reduceIte, Nat.reduceLT, Nat.reduceEqDiff, Nat.reduceAdd])))
      rintro ⟨⟩ rfl
      have h := hj_50; clear hj_50
      refine run_textE hE [1, 5] (fr' := [(1, .ref 0 0), (5, i64 p_13.Next)]) (σ' := [.box [i64 p_13.Epoch, i64 p_13.Other, i64 p_13.First, .sl false (L (cSl cU8) p_13.Queue), i64 p_13.Next, .sl false (L cApi_Packet p_13.Early), i64 p_13.SentAt] false]) ⟨_, orcs_nil, ?_⟩ ?_
      · simp only [go_sem, reduceIte, Nat.reduceLT, Nat.reduceEqDiff, Nat.reduceAdd]
      replace h := bind_some1 h; obtain ⟨j_123, hA_124, hj_125⟩ := h
      refine run_join (fun (v : Unit) => (⟨asFr 106 [], []⟩ : St)) (fun v => .inl v = j_123) ?_ ?_
      · have h := hA_124; clear hA_124
        refine run_textE hE [1, 5, 63, 64, 65] (fr' := [(1, .ref 0 0), (5, i64 p_13.Next), (63, .sl false (L cApi_Packet p_13.Early)), (64, i64 ((p_13.Early.length : Int))), (65, i64 0)]) (σ' := [.box [i64 p_13.Epoch, i64 p_13.Other, i64 p_13.First, .sl false (L (cSl cU8) p_13.Queue), i64 p_13.Next, .sl false (L cApi_Packet p_13.Early), i64 p_13.SentAt] false]) ⟨_, orcs_nil, ?_⟩ ?_
        · simp only [go_sem, reduceIte, Nat.reduceLT, Nat.reduceEqDiff, Nat.reduceAdd]
        refine run_block ?_
        replace h := bind_some1 h; obtain ⟨x_158, hx_159, hj_160⟩ := h
        refine run_loopO hx_159 (fun (v : Int × Int) => (⟨asFr 106 [(1, .ref 0 0), (5, i64 v.1), (63, .sl false (L cApi_Packet p_13.Early)), (64, i64 ((p_13.Early.length : Int))), (65, i64 v.2)], [.box [i64 p_13.Epoch, i64 p_13.Other, i64 p_13.First, .sl false (L (cSl cU8) p_13.Queue), i64 p_13.Next, .sl false (L cApi_Packet p_13.Early), i64 p_13.SentAt] false]⟩ : St)) (weak_sel [0] (by decide) rfl (by simp only [go_sem, reduceIte, Nat.reduceLT, Nat.reduceEqDiff, Nat.reduceAdd]) (by simp only [go_sem, reduceIte, Nat.reduceLT, Nat.reduceEqDiff, Nat.reduceAdd])) ?_
        rintro ⟨last_136, t_137⟩ o_161 h hxx_162
        replace h : window_valid_b2 p_13 last_136 t_137 = some o_161 := h
        unfold window_valid_b2 at h
        refine run_textE hE [1, 5, 63, 64, 65, 66] (fr' := [(1, .ref 0 0), (5, i64 last_136), (63, .sl false (L cApi_Packet p_13.Early)), (64, i64 ((p_13.Early.length : Int))), (65, i64 t_137), (66, .bool ((decide (t_137 < (p_13.Early.length : Int)))))]) (σ' := [.box [i64 p_13.Epoch, i64 p_13.Other, i64 p_13.First, .sl false (L (cSl cU8) p_13.Queue), i64 p_13.Next, .sl false (L cApi_Packet p_13.Early), i64 p_13.SentAt] false]) ⟨_, orcs_nil, ?_⟩ ?_
        · simp only [go_sem, reduceIte, Nat.reduceLT, Nat.reduceEqDiff, Nat.reduceAdd]
        refine run_seq ?_
        refine run_condL (b := (decide (t_137 < (p_13.Early.length : Int)))) rfl (by decide) (fun hb => ?_) (fun hb => ?_)
        · replace h := ite_t h hb
          refine run_skip ?_
          refine thenK_n ?_
          refine run_seq ?_
          refine run_block ?_
          replace h := chk_some h; obtain ⟨hc_163, h⟩ := h
          replace h := lt1_some h; obtain ⟨f_164, hz_169, h⟩ := h
          replace h := lt1_some h; obtain ⟨f_165, hz_170, h⟩ := h
          replace h := lt1_some h; obtain ⟨f_166, hz_171, h⟩ := h
          replace h := lt1_some h; obtain ⟨f_167, hz_172, h⟩ := h
          replace h := lt1_some h; obtain ⟨f_168, hz_173, h⟩ := h
          refine run_textE hE [1, 5, 7, 63, 64, 65] (fr' := [(1, .ref 0 0), (5, i64 last_136), (7, .ref 1 0), (63, .sl false (L cApi_Packet p_13.Early)), (64, i64 ((p_13.Early.length : Int))), (65, i64 t_137)]) (σ' := [.box [i64 p_13.Epoch, i64 p_13.Other, i64 p_13.First, .sl false (L (cSl cU8) p_13.Queue), i64 p_13.Next, .sl false (L cApi_Packet p_13.Early), i64 p_13.SentAt] false, .box [i64 f_164, i64 f_165, i64 f_166, i64 f_167, .sl false (L cU8 f_168)] false]) ⟨_, orcs_nil, ?_⟩ ?_
          · subst hz_173; subst hz_172; subst hz_171; subst hz_170; subst hz_169; simp only [go_sem, reduceIte, Nat.reduceLT, Nat.reduceEqDiff, Nat.reduceAdd, Int.reduceToNat, Nat.reduceLeDiff, hc_163, hc_163.2, lt_le hc_163.2]
          refine run_seq ?_
          replace h := bind_some1 h; obtain ⟨t_174, hv_175, h⟩ := h
          refine run_textW hE [1, 7, 63, 64, 65, 102] (fr' := [(1, .ref 0 0), (7, .ref 1 0), (63, .sl false (L cApi_Packet p_13.Early)), (64, i64 ((p_13.Early.length : Int))), (65, i64 t_137), (102, .bool t_174)]) (σ' := [.box [i64 p_13.Epoch, i64 p_13.Other, i64 p_13.First, .sl false (L (cSl cU8) p_13.Queue), i64 p_13.Next, .sl false (L cApi_Packet p_13.Early), i64 p_13.SentAt] false, .box [i64 f_164, i64 f_165, i64 f_166, i64 f_167, .sl false (L cU8 f_168)] false]) ?_ ?_
          · rcases Bool.eq_false_or_eq_true ((decide (f_166 ≤ last_136))) with hb_176 | hb_176
            · replace hv_175 := ite_t hv_175 hb_176
              have e_hv_175 := Option.some.inj hv_175; subst e_hv_175
              exact ⟨_, [(1, .ref 0 0), (7, .ref 1 0), (63, .sl false (L cApi_Packet p_13.Early)), (64, i64 ((p_13.Early.length : Int))), (65, i64 t_137), (102, .bool true)], [.box [i64 p_13.Epoch, i64 p_13.Other, i64 p_13.First, .sl false (L (cSl cU8) p_13.Queue), i64 p_13.Next, .sl false (L cApi_Packet p_13.Early), i64 p_13.SentAt] false, .box [i64 f_164, i64 f_165, i64 f_166, i64 f_167, .sl false (L cU8 f_168)] false], orcs_nil, by simp only [go_sem, reduceIte, Nat.reduceLT, Nat.reduceEqDiff, Nat.reduceAdd, hb_176], (weak_sel [0, 1] (by decide) rfl (by simp only [go_sem, reduceIte, Nat.reduceLT, Nat.reduceEqDiff, Nat.reduceAdd]) (by simp only [go_sem, reduceIte, Nat.reduceLT, Nat.reduceEqDiff, Nat.reduceAdd]))⟩
            · replace hv_175 := ite_f hv_175 hb_176
              rcases Bool.eq_false_or_eq_true ((decide (f_166 ≥ (mn64 ((w64 (p_13.Next + 64))) 1099511627776)))) with hb_177 | hb_177
              · replace hv_175 := ite_t hv_175 hb_177
                have e_hv_175 := Option.some.inj hv_175; subst e_hv_175
                exact ⟨_, [(1, .ref 0 0), (7, .ref 1 0), (63, .sl false (L cApi_Packet p_13.Early)), (64, i64 ((p_13.Early.length : Int))), (65, i64 t_137), (102, .bool true)], [.box [i64 p_13.Epoch, i64 p_13.Other, i64 p_13.First, .sl false (L (cSl cU8) p_13.Queue), i64 p_13.Next, .sl false (L cApi_Packet p_13.Early), i64 p_13.SentAt] false, .box [i64 f_164, i64 f_165, i64 f_166, i64 f_167, .sl false (L cU8 f_168)] false], orcs_nil, by simp only [go_sem, reduceIte, Nat.reduceLT, Nat.reduceEqDiff, Nat.reduceAdd, hb_176, hb_177], (weak_sel [0, 1] (by decide) rfl (by simp only [go_sem, reduceIte, Nat.reduceLT, Nat.reduceEqDiff, Nat.reduceAdd]) (by simp only [go_sem, reduceIte, Nat.reduceLT, Nat.reduceEqDiff, Nat.reduceAdd]))⟩
              · replace hv_175 := ite_f hv_175 hb_177
                rcases Bool.eq_false_or_eq_true ((decide ((f_168.length : Int) > 8000))) with hb_178 | hb_178
                · replace hv_175 := ite_t hv_175 hb_178
                  have e_hv_175 := Option.some.inj hv_175; subst e_hv_175
                  exact ⟨_, [(1, .ref 0 0), (7, .ref 1 0), (63, .sl false (L cApi_Packet p_13.Early)), (64, i64 ((p_13.Early.length : Int))), (65, i64 t_137), (102, .bool true)], [.box [i64 p_13.Epoch, i64 p_13.Other, i64 p_13.First, .sl false (L (cSl cU8) p_13.Queue), i64 p_13.Next, .sl false (L cApi_Packet p_13.Early), i64 p_13.SentAt] false, .box [i64 f_164, i64 f_165, i64 f_166, i64 f_167, .sl false (L cU8 f_168)] false], orcs_nil, by simp only [go_sem, reduceIte, Nat.reduceLT, Nat.reduceEqDiff, Nat.reduceAdd, hb_176, hb_177, hb_178], (weak_sel [0, 1] (by decide) rfl (by simp only [go_sem, reduceIte, Nat.reduceLT, Nat.reduceEqDiff, Nat.reduceAdd]) (by simp only [go_sem, reduceIte, Nat.reduceLT, Nat.reduceEqDiff, Nat.reduceAdd]))⟩
                · replace hv_175 := ite_f hv_175 hb_178
                  rcases Bool.eq_false_or_eq_true ((f_164 != 0)) with hb_179 | hb_179
                  · replace hv_175 := ite_t hv_175 hb_179
                    have e_hv_175 := Option.some.inj hv_175; subst e_hv_175
                    exact ⟨_, [(1, .ref 0 0), (7, .ref 1 0), (63, .sl false (L cApi_Packet p_13.Early)), (64, i64 ((p_13.Early.length : Int))), (65, i64 t_137), (102, .bool true)], [.box [i64 p_13.Epoch, i64 p_13.Other, i64 p_13.First, .sl false (L (cSl cU8) p_13.Queue), i64 p_13.Next, .sl false (L cApi_Packet p_13.Early), i64 p_13.SentAt] false, .box [i64 f_164, i64 f_165, i64 f_166, i64 f_167, .sl false (L cU8 f_168)] false], orcs_nil, by simp only [go_sem, reduceIte, Nat.reduceLT, Nat.reduceEqDiff, Nat.reduceAdd, hb_176, hb_177, hb_178, hb_179], (weak_sel [0, 1] (by decide) rfl (by simp only [go_sem, reduceIte, Nat.reduceLT, Nat.reduceEqDiff, Nat.reduceAdd]) (by simp only [go_sem, reduceIte, Nat.reduceLT, Nat.reduceEqDiff, Nat.reduceAdd]))⟩
                  · replace hv_175 := ite_f hv_175 hb_179
                    rcases Bool.eq_false_or_eq_true ((f_165 != 0)) with hb_180 | hb_180
                    · replace hv_175 := ite_t hv_175 hb_180
                      have e_hv_175 := Option.some.inj hv_175; subst e_hv_175
                      exact ⟨_, [(1, .ref 0 0), (7, .ref 1 0), (63, .sl false (L cApi_Packet p_13.Early)), (64, i64 ((p_13.Early.length : Int))), (65, i64 t_137), (102, .bool true)], [.box [i64 p_13.Epoch, i64 p_13.Other, i64 p_13.First, .sl false (L (cSl cU8) p_13.Queue), i64 p_13.Next, .sl false (L cApi_Packet p_13.Early), i64 p_13.SentAt] false, .box [i64 f_164, i64 f_165, i64 f_166, i64 f_167, .sl false (L cU8 f_168)] false], orcs_nil, by simp only [go_sem, reduceIte, Nat.reduceLT, Nat.reduceEqDiff, Nat.reduceAdd, hb_176, hb_177, hb_178, hb_179, hb_180], (weak_sel [0, 1] (by decide) rfl (by simp only [go_sem, reduceIte, Nat.reduceLT, Nat.reduceEqDiff, Nat.reduceAdd]) (by simp only [go_sem, reduceIte, Nat.reduceLT, Nat.reduceEqDiff, Nat.reduceAdd]))⟩
                    · replace hv_175 := ite_f hv_175 hb_180
                      have e_hv_175 := Option.some.inj hv_175; subst e_hv_175
                      exact ⟨_, [(1, .ref 0 0), (7, .ref 1 0), (63, .sl false (L cApi_Packet p_13.Early)), (64, i64 ((p_13.Early.length : Int))), (65, i64 t_137), (102, .bool ((f_167 != 0)))], [.box [i64 p_13.Epoch, i64 p_13.Other, i64 p_13.First, .sl false (L (cSl cU8) p_13.Queue), i64 p_13.Next, .sl false (L cApi_Packet p_13.Early), i64 p_13.SentAt] false, .box [i64 f_164, i64 f_165, i64 f_166, i64 f_167, .sl false (L cU8 f_168)] false], orcs_nil, by simp only [go_sem, reduceIte, Nat.reduceLT, Nat.reduceEqDiff, Nat.reduceAdd, hb_176, hb_177, hb_178, hb_179, hb_180], (weak_sel [0, 1] (by decide) rfl (by simp only [go_sem, reduceIte, Nat.reduceLT, Nat.reduceEqDiff, Nat.reduceAdd]) (by simp only [go_sem, reduceIte, Nat.reduceLT, Nat.reduceEqDiff, Nat.reduceAdd]))⟩
          refine run_condL (b := t_174) rfl (by decide) (fun hb => ?_) (fun hb => ?_)
          · replace h := ite_t h hb
            refine run_textE hE [2] (fr' := [(2, .bool false)]) (σ' := [.box [i64 p_13.Epoch, i64 p_13.Other, i64 p_13.First, .sl false (L (cSl cU8) p_13.Queue), i64 p_13.Next, .sl false (L cApi_Packet p_13.Early), i64 p_13.SentAt] false, .box [i64 f_164, i64 f_165, i64 f_166, i64 f_167, .sl false (L cU8 f_168)] false]) ⟨_, orcs_nil, ?_⟩ ?_
            · simp only [go_sem, reduceIte, Nat.reduceLT, Nat.reduceEqDiff, Nat.reduceAdd]
            refine run_ret ?_
            refine thenK_r ?_
            refine blockK_r ?_
            refine thenK_r ?_
            refine lpK_r ?_
            replace h := bind_some1 h; obtain ⟨z_182, h, e_z_182⟩ := h
            obtain rfl := Option.some.inj e_z_182
            have ex_z_182 := hxx_162 _ rfl
            subst ex_z_182
            obtain rfl := Option.some.inj hj_160
            refine blockK_r ?_
            refine joinK_r ?_
            replace h := bind_some1 h; obtain ⟨z_181, h, e_z_181⟩ := h
            obtain rfl := Option.some.inj e_z_181
            obtain rfl := Option.some.inj hj_125
            obtain rfl := Option.some.inj h
            refine wkP_of (Weak.refl _ _) ?_
            refine ret_ok (.inr rfl) ?_
            simp only [go_sem, reduceIte, Nat.reduceLT, Nat.reduceEqDiff, Nat.reduceAdd]
          · replace h := ite_f h hb
            refine run_skip ?_
            refine thenK_n ?_
            refine run_textE0 hE (wk_block wk_then) [1, 5, 63, 64, 65] (fr' := [(1, .ref 0 0), (5, i64 f_166), (63, .sl false (L cApi_Packet p_13.Early)), (64, i64 ((p_13.Early.length : Int))), (65, i64 t_137)]) (σ' := [.box [i64 p_13.Epoch, i64 p_13.Other, i64 p_13.First, .sl false (L (cSl cU8) p_13.Queue), i64 p_13.Next, .sl false (L cApi_Packet p_13.Early), i64 p_13.SentAt] false, .box [i64 f_164, i64 f_165, i64 f_166, i64 f_167, .sl false (L cU8 f_168)] false]) ⟨_, orcs_nil, ?_⟩ ?_
            · simp only [go_sem, reduceIte, Nat.reduceLT, Nat.reduceEqDiff, Nat.reduceAdd]
            refine blockK_n ?_
            refine thenK_n ?_
            refine run_textE0 hE wk_lp [1, 5, 63, 64, 65] (fr' := [(1, .ref 0 0), (5, i64 f_166), (63, .sl false (L cApi_Packet p_13.Early)), (64, i64 ((p_13.Early.length : Int))), (65, i64 ((w64 (t_137 + 1))))]) (σ' := [.box [i64 p_13.Epoch, i64 p_13.Other, i64 p_13.First, .sl false (L (cSl cU8) p_13.Queue), i64 p_13.Next, .sl false (L cApi_Packet p_13.Early), i64 p_13.SentAt] false, .box [i64 f_164, i64 f_165, i64 f_166, i64 f_167, .sl false (L cU8 f_168)] false]) ⟨_, orcs_nil, ?_⟩ ?_
            · simp only [go_sem, reduceIte, Nat.reduceLT, Nat.reduceEqDiff, Nat.reduceAdd]
            obtain rfl := Option.some.inj h
            exact lpK_n ((f_166, (w64 (t_137 + 1)))) rfl (weak_sel [0] (by decide) rfl (by simp only [go_sem, reduceIte, Nat.reduceLT, Nat.reduceEqDiff, Nat.reduceAdd]) (by simp only [go_sem, reduceIte, Nat.reduceLT, Nat.reduceEqDiff, Nat.reduceAdd]))
        · replace h := ite_f h hb
          refine run_exit ?_
          refine thenK_x ?_
          obtain rfl := Option.some.inj h
          have ex_x_158 := hxx_162 _ rfl
          subst ex_x_158
          have h := hj_160; clear hj_160
          refine lpK_x ?_
          refine blockK_x ?_
          obtain rfl := Option.some.inj h
          exact joinK_n (()) rfl ((weak_sel (l' := []) (σ' := []) [] (by decide) rfl (by simp only [go_sem, reduceIte, Nat.reduceLT, Nat.reduceEqDiff, Nat.reduceAdd]) (by simp only [go_sem, reduceIte, Nat.reduceLT, Nat.reduceEqDiff, Nat.reduceAdd])).trans (weak_sel [] (by decide) rfl (by simp only [go_sem, reduceIte, Nat.reduceLT, Nat.reduceEqDiff, Nat.reduceAdd]) (by simp only [go_sem, reduceIte, Nat.reduceLT, Nat.reduceEqDiff, Nat.reduceAdd])))
      rintro ⟨⟩ rfl
      have h := hj_125; clear hj_125
      refine run_textE hE [2] (fr' := [(2, .bool true)]) (σ' := []) ⟨_, orcs_nil, ?_⟩ ?_
      · simp only [go_sem, reduceIte, Nat.reduceLT, Nat.reduceEqDiff, Nat.reduceAdd]
      refine run_ret ?_
      obtain rfl := Option.some.inj h
      refine wkP_of (Weak.refl _ _) ?_
      refine ret_ok (.inr rfl) ?_
      simp only [go_sem, reduceIte, Nat.reduceLT, Nat.reduceEqDiff, Nat.reduceAdd]

end Go.Proofs.Ytomjphpnpcgacaa
/-
  The functions compute just that.
-/
namespace Go.Proofs.Ytomjphpnpcgacaa
open Go.Rv
set_option linter.unusedVariables false
set_option linter.unusedSimpArgs false
set_option maxRecDepth 20000
set_option maxHeartbeats 4000000

theorem r12_early_con {p_183 : Api_Peer} {r : Bool} (h : r12_early p_183 = some r) : Con B 55 [.agg [i64 p_183.Epoch, i64 p_183.Other, i64 p_183.First, .sl false (L (cSl cU8) p_183.Queue), i64 p_183.Next, .sl false (L cApi_Packet p_183.Early), i64 p_183.SentAt]] [] (fun r' σ' => r' = .bool r ∧ σ' = []) := by
  refine con_walk (N := 60) (rs := [.tmp 2]) ok Try.func55 rfl (by decide +kernel) rfl rfl (Nat.le_of_ble_eq_true rfl) (fun F => ?_)
  have hE := ok.env F
  unfold r12_early at h
  show Run (B.env F) 0 _ ⟨asFr 60 [(0, .agg [i64 p_183.Epoch, i64 p_183.Other, i64 p_183.First, .sl false (L (cSl cU8) p_183.Queue), i64 p_183.Next, .sl false (L cApi_Packet p_183.Early), i64 p_183.SentAt])], []⟩ _
  refine run_wkP ?_
  refine run_textE hE [1] (fr' := [(1, .ref 0 0)]) (σ' := [.box [i64 p_183.Epoch, i64 p_183.Other, i64 p_183.First, .sl false (L (cSl cU8) p_183.Queue), i64 p_183.Next, .sl false (L cApi_Packet p_183.Early), i64 p_183.SentAt] false]) ⟨_, orcs_nil, ?_⟩ ?_
  · simp only [go_sem, reduceIte, Nat.reduceLT, Nat.reduceEqDiff, Nat.reduceAdd]
  refine run_textE hE [1, 3] (fr' := [(1, .ref 0 0), (3, i64 p_183.Next)]) (σ' := [.box [i64 p_183.Epoch, i64 p_183.Other, i64 p_183.First, .sl false (L (cSl cU8) p_183.Queue), i64 p_183.Next, .sl false (L cApi_Packet p_183.Early), i64 p_183.SentAt] false]) ⟨_, orcs_nil, ?_⟩ ?_
  · simp only [go_sem, reduceIte, Nat.reduceLT, Nat.reduceEqDiff, Nat.reduceAdd]
  replace h := bind_some1 h; obtain ⟨j_244, hA_245, hj_246⟩ := h
  refine run_join (fun (v : Unit) => (⟨asFr 60 [], []⟩ : St)) (fun v => .inl v = j_244) ?_ ?_
  · have h := hA_245; clear hA_245
    refine run_textE hE [1, 3, 4] (fr' := [(1, .ref 0 0), (3, i64 p_183.Next), (4, i64 0)]) (σ' := [.box [i64 p_183.Epoch, i64 p_183.Other, i64 p_183.First, .sl false (L (cSl cU8) p_183.Queue), i64 p_183.Next, .sl false (L cApi_Packet p_183.Early), i64 p_183.SentAt] false]) ⟨_, orcs_nil, ?_⟩ ?_
    · simp only [go_sem, reduceIte, Nat.reduceLT, Nat.reduceEqDiff, Nat.reduceAdd]
    refine run_block ?_
    replace h := bind_some1 h; obtain ⟨x_281, hx_282, hj_283⟩ := h
    refine run_loopO hx_282 (fun (v : Int × Int) => (⟨asFr 60 [(1, .ref 0 0), (3, i64 v.1), (4, i64 v.2)], [.box [i64 p_183.Epoch, i64 p_183.Other, i64 p_183.First, .sl false (L (cSl cU8) p_183.Queue), i64 p_183.Next, .sl false (L cApi_Packet p_183.Early), i64 p_183.SentAt] false]⟩ : St)) (weak_sel [0] (by decide) rfl (by simp only [go_sem, reduceIte, Nat.reduceLT, Nat.reduceEqDiff, Nat.reduceAdd]) (by simp only [go_sem, reduceIte, Nat.reduceLT, Nat.reduceEqDiff, Nat.reduceAdd])) ?_
    rintro ⟨last_258, i_259⟩ o_284 h hxx_285
    replace h : r12_early_b1 p_183 last_258 i_259 = some o_284 := h
    unfold r12_early_b1 at h
    refine run_seq ?_
    refine run_textE hE [1, 3, 4, 12] (fr' := [(1, .ref 0 0), (3, i64 last_258), (4, i64 i_259), (12, .bool ((decide (i_259 < (p_183.Early.length : Int)))))]) (σ' := [.box [i64 p_183.Epoch, i64 p_183.Other, i64 p_183.First, .sl false (L (cSl cU8) p_183.Queue), i64 p_183.Next, .sl false (L cApi_Packet p_183.Early), i64 p_183.SentAt] false]) ⟨_, orcs_nil, ?_⟩ ?_
    · simp only [go_sem, reduceIte, Nat.reduceLT, Nat.reduceEqDiff, Nat.reduceAdd]
    refine run_condL (b := (decide (i_259 < (p_183.Early.length : Int)))) rfl (by decide) (fun hb => ?_) (fun hb => ?_)
    · replace h := ite_t h hb
      refine run_skip ?_
      refine thenK_n ?_
      refine run_seq ?_
      refine run_block ?_
      replace h := chk_some h; obtain ⟨hc_286, h⟩ := h
      replace h := lt1_some h; obtain ⟨f_287, hz_292, h⟩ := h
      replace h := lt1_some h; obtain ⟨f_288, hz_293, h⟩ := h
      replace h := lt1_some h; obtain ⟨f_289, hz_294, h⟩ := h
      replace h := lt1_some h; obtain ⟨f_290, hz_295, h⟩ := h
      replace h := lt1_some h; obtain ⟨f_291, hz_296, h⟩ := h
      refine run_textE hE [1, 3, 4, 5] (fr' := [(1, .ref 0 0), (3, i64 last_258), (4, i64 i_259), (5, .ref 1 0)]) (σ' := [.box [i64 p_183.Epoch, i64 p_183.Other, i64 p_183.First, .sl false (L (cSl cU8) p_183.Queue), i64 p_183.Next, .sl false (L cApi_Packet p_183.Early), i64 p_183.SentAt] false, .box [i64 f_287, i64 f_288, i64 f_289, i64 f_290, .sl false (L cU8 f_291)] false]) ⟨_, orcs_nil, ?_⟩ ?_
      · subst hz_296; subst hz_295; subst hz_294; subst hz_293; subst hz_292; simp only [go_sem, reduceIte, Nat.reduceLT, Nat.reduceEqDiff, Nat.reduceAdd, Int.reduceToNat, Nat.reduceLeDiff, hc_286, hc_286.2, lt_le hc_286.2]
      refine run_seq ?_
      replace h := bind_some1 h; obtain ⟨t_297, hv_298, h⟩ := h
      refine run_textW hE [1, 4, 5, 57] (fr' := [(1, .ref 0 0), (4, i64 i_259), (5, .ref 1 0), (57, .bool t_297)]) (σ' := [.box [i64 p_183.Epoch, i64 p_183.Other, i64 p_183.First, .sl false (L (cSl cU8) p_183.Queue), i64 p_183.Next, .sl false (L cApi_Packet p_183.Early), i64 p_183.SentAt] false, .box [i64 f_287, i64 f_288, i64 f_289, i64 f_290, .sl false (L cU8 f_291)] false]) ?_ ?_
      · rcases Bool.eq_false_or_eq_true ((decide (f_289 ≤ last_258))) with hb_299 | hb_299
        · replace hv_298 := ite_t hv_298 hb_299
          have e_hv_298 := Option.some.inj hv_298; subst e_hv_298
          exact ⟨_, [(1, .ref 0 0), (4, i64 i_259), (5, .ref 1 0), (57, .bool true)], [.box [i64 p_183.Epoch, i64 p_183.Other, i64 p_183.First, .sl false (L (cSl cU8) p_183.Queue), i64 p_183.Next, .sl false (L cApi_Packet p_183.Early), i64 p_183.SentAt] false, .box [i64 f_287, i64 f_288, i64 f_289, i64 f_290, .sl false (L cU8 f_291)] false], orcs_nil, by simp only [go_sem, reduceIte, Nat.reduceLT, Nat.reduceEqDiff, Nat.reduceAdd, hb_299], (weak_sel [0, 1] (by decide) rfl (by simp only [go_sem, reduceIte, Nat.reduceLT, Nat.reduceEqDiff, Nat.reduceAdd]) (by simp only [go_sem, reduceIte, Nat.reduceLT, Nat.reduceEqDiff, Nat.reduceAdd]))⟩
        · replace hv_298 := ite_f hv_298 hb_299
          rcases Bool.eq_false_or_eq_true ((decide (f_289 ≥ (w64 (p_183.Next + 64))))) with hb_300 | hb_300
          · replace hv_298 := ite_t hv_298 hb_300
            have e_hv_298 := Option.some.inj hv_298; subst e_hv_298
            exact ⟨_, [(1, .ref 0 0), (4, i64 i_259), (5, .ref 1 0), (57, .bool true)], [.box [i64 p_183.Epoch, i64 p_183.Other, i64 p_183.First, .sl false (L (cSl cU8) p_183.Queue), i64 p_183.Next, .sl false (L cApi_Packet p_183.Early), i64 p_183.SentAt] false, .box [i64 f_287, i64 f_288, i64 f_289, i64 f_290, .sl false (L cU8 f_291)] false], orcs_nil, by simp only [go_sem, reduceIte, Nat.reduceLT, Nat.reduceEqDiff, Nat.reduceAdd, hb_299, hb_300], (weak_sel [0, 1] (by decide) rfl (by simp only [go_sem, reduceIte, Nat.reduceLT, Nat.reduceEqDiff, Nat.reduceAdd]) (by simp only [go_sem, reduceIte, Nat.reduceLT, Nat.reduceEqDiff, Nat.reduceAdd]))⟩
          · replace hv_298 := ite_f hv_298 hb_300
            rcases Bool.eq_false_or_eq_true ((decide (f_289 ≥ 1099511627776))) with hb_301 | hb_301
            · replace hv_298 := ite_t hv_298 hb_301
              have e_hv_298 := Option.some.inj hv_298; subst e_hv_298
              exact ⟨_, [(1, .ref 0 0), (4, i64 i_259), (5, .ref 1 0), (57, .bool true)], [.box [i64 p_183.Epoch, i64 p_183.Other, i64 p_183.First, .sl false (L (cSl cU8) p_183.Queue), i64 p_183.Next, .sl false (L cApi_Packet p_183.Early), i64 p_183.SentAt] false, .box [i64 f_287, i64 f_288, i64 f_289, i64 f_290, .sl false (L cU8 f_291)] false], orcs_nil, by simp only [go_sem, reduceIte, Nat.reduceLT, Nat.reduceEqDiff, Nat.reduceAdd, hb_299, hb_300, hb_301], (weak_sel [0, 1] (by decide) rfl (by simp only [go_sem, reduceIte, Nat.reduceLT, Nat.reduceEqDiff, Nat.reduceAdd]) (by simp only [go_sem, reduceIte, Nat.reduceLT, Nat.reduceEqDiff, Nat.reduceAdd]))⟩
            · replace hv_298 := ite_f hv_298 hb_301
              rcases Bool.eq_false_or_eq_true ((decide ((f_291.length : Int) > 8000))) with hb_302 | hb_302
              · replace hv_298 := ite_t hv_298 hb_302
                have e_hv_298 := Option.some.inj hv_298; subst e_hv_298
                exact ⟨_, [(1, .ref 0 0), (4, i64 i_259), (5, .ref 1 0), (57, .bool true)], [.box [i64 p_183.Epoch, i64 p_183.Other, i64 p_183.First, .sl false (L (cSl cU8) p_183.Queue), i64 p_183.Next, .sl false (L cApi_Packet p_183.Early), i64 p_183.SentAt] false, .box [i64 f_287, i64 f_288, i64 f_289, i64 f_290, .sl false (L cU8 f_291)] false], orcs_nil, by simp only [go_sem, reduceIte, Nat.reduceLT, Nat.reduceEqDiff, Nat.reduceAdd, hb_299, hb_300, hb_301, hb_302], (weak_sel [0, 1] (by decide) rfl (by simp only [go_sem, reduceIte, Nat.reduceLT, Nat.reduceEqDiff, Nat.reduceAdd]) (by simp only [go_sem, reduceIte, Nat.reduceLT, Nat.reduceEqDiff, Nat.reduceAdd]))⟩
              · replace hv_298 := ite_f hv_298 hb_302
                rcases Bool.eq_false_or_eq_true ((f_287 != 0)) with hb_303 | hb_303
                · replace hv_298 := ite_t hv_298 hb_303
                  have e_hv_298 := Option.some.inj hv_298; subst e_hv_298
                  exact ⟨_, [(1, .ref 0 0), (4, i64 i_259), (5, .ref 1 0), (57, .bool true)], [.box [i64 p_183.Epoch, i64 p_183.Other, i64 p_183.First, .sl false (L (cSl cU8) p_183.Queue), i64 p_183.Next, .sl false (L cApi_Packet p_183.Early), i64 p_183.SentAt] false, .box [i64 f_287, i64 f_288, i64 f_289, i64 f_290, .sl false (L cU8 f_291)] false], orcs_nil, by simp only [go_sem, reduceIte, Nat.reduceLT, Nat.reduceEqDiff, Nat.reduceAdd, hb_299, hb_300, hb_301, hb_302, hb_303], (weak_sel [0, 1] (by decide) rfl (by simp only [go_sem, reduceIte, Nat.reduceLT, Nat.reduceEqDiff, Nat.reduceAdd]) (by simp only [go_sem, reduceIte, Nat.reduceLT, Nat.reduceEqDiff, Nat.reduceAdd]))⟩
                · replace hv_298 := ite_f hv_298 hb_303
                  rcases Bool.eq_false_or_eq_true ((f_288 != 0)) with hb_304 | hb_304
                  · replace hv_298 := ite_t hv_298 hb_304
                    have e_hv_298 := Option.some.inj hv_298; subst e_hv_298
                    exact ⟨_, [(1, .ref 0 0), (4, i64 i_259), (5, .ref 1 0), (57, .bool true)], [.box [i64 p_183.Epoch, i64 p_183.Other, i64 p_183.First, .sl false (L (cSl cU8) p_183.Queue), i64 p_183.Next, .sl false (L cApi_Packet p_183.Early), i64 p_183.SentAt] false, .box [i64 f_287, i64 f_288, i64 f_289, i64 f_290, .sl false (L cU8 f_291)] false], orcs_nil, by simp only [go_sem, reduceIte, Nat.reduceLT, Nat.reduceEqDiff, Nat.reduceAdd, hb_299, hb_300, hb_301, hb_302, hb_303, hb_304], (weak_sel [0, 1] (by decide) rfl (by simp only [go_sem, reduceIte, Nat.reduceLT, Nat.reduceEqDiff, Nat.reduceAdd]) (by simp only [go_sem, reduceIte, Nat.reduceLT, Nat.reduceEqDiff, Nat.reduceAdd]))⟩
                  · replace hv_298 := ite_f hv_298 hb_304
                    have e_hv_298 := Option.some.inj hv_298; subst e_hv_298
                    exact ⟨_, [(1, .ref 0 0), (4, i64 i_259), (5, .ref 1 0), (57, .bool ((f_290 != 0)))], [.box [i64 p_183.Epoch, i64 p_183.Other, i64 p_183.First, .sl false (L (cSl cU8) p_183.Queue), i64 p_183.Next, .sl false (L cApi_Packet p_183.Early), i64 p_183.SentAt] false, .box [i64 f_287, i64 f_288, i64 f_289, i64 f_290, .sl false (L cU8 f_291)] false], orcs_nil, by simp only [go_sem, reduceIte, Nat.reduceLT, Nat.reduceEqDiff, Nat.reduceAdd, hb_299, hb_300, hb_301, hb_302, hb_303, hb_304], (weak_sel [0, 1] (by decide) rfl (by simp only [go_sem, reduceIte, Nat.reduceLT, Nat.reduceEqDiff, Nat.reduceAdd]) (by simp only [go_sem, reduceIte, Nat.reduceLT, Nat.reduceEqDiff, Nat.reduceAdd]))⟩
      refine run_condL (b := t_297) rfl (by decide) (fun hb => ?_) (fun hb => ?_)
      · replace h := ite_t h hb
        refine run_textE hE [2] (fr' := [(2, .bool false)]) (σ' := [.box [i64 p_183.Epoch, i64 p_183.Other, i64 p_183.First, .sl false (L (cSl cU8) p_183.Queue), i64 p_183.Next, .sl false (L cApi_Packet p_183.Early), i64 p_183.SentAt] false, .box [i64 f_287, i64 f_288, i64 f_289, i64 f_290, .sl false (L cU8 f_291)] false]) ⟨_, orcs_nil, ?_⟩ ?_
        · simp only [go_sem, reduceIte, Nat.reduceLT, Nat.reduceEqDiff, Nat.reduceAdd]
        refine run_ret ?_
        refine thenK_r ?_
        refine blockK_r ?_
        refine thenK_r ?_
        refine lpK_r ?_
        replace h := bind_some1 h; obtain ⟨z_306, h, e_z_306⟩ := h
        obtain rfl := Option.some.inj e_z_306
        have ex_z_306 := hxx_285 _ rfl
        subst ex_z_306
        obtain rfl := Option.some.inj hj_283
        refine blockK_r ?_
        refine joinK_r ?_
        replace h := bind_some1 h; obtain ⟨z_305, h, e_z_305⟩ := h
        obtain rfl := Option.some.inj e_z_305
        obtain rfl := Option.some.inj hj_246
        obtain rfl := Option.some.inj h
        refine wkP_of (Weak.refl _ _) ?_
        refine ret_ok (.inr rfl) ?_
        simp only [go_sem, reduceIte, Nat.reduceLT, Nat.reduceEqDiff, Nat.reduceAdd]
      · replace h := ite_f h hb
        refine run_skip ?_
        refine thenK_n ?_
        refine run_textE0 hE (wk_block wk_then) [1, 3, 4] (fr' := [(1, .ref 0 0), (3, i64 f_289), (4, i64 i_259)]) (σ' := [.box [i64 p_183.Epoch, i64 p_183.Other, i64 p_183.First, .sl false (L (cSl cU8) p_183.Queue), i64 p_183.Next, .sl false (L cApi_Packet p_183.Early), i64 p_183.SentAt] false, .box [i64 f_287, i64 f_288, i64 f_289, i64 f_290, .sl false (L cU8 f_291)] false]) ⟨_, orcs_nil, ?_⟩ ?_
        · simp only [go_sem, reduceIte, Nat.reduceLT, Nat.reduceEqDiff, Nat.reduceAdd]
        refine blockK_n ?_
        refine thenK_n ?_
        refine run_textE0 hE wk_lp [1, 3, 4] (fr' := [(1, .ref 0 0), (3, i64 f_289), (4, i64 ((w64 (i_259 + 1))))]) (σ' := [.box [i64 p_183.Epoch, i64 p_183.Other, i64 p_183.First, .sl false (L (cSl cU8) p_183.Queue), i64 p_183.Next, .sl false (L cApi_Packet p_183.Early), i64 p_183.SentAt] false, .box [i64 f_287, i64 f_288, i64 f_289, i64 f_290, .sl false (L cU8 f_291)] false]) ⟨_, orcs_nil, ?_⟩ ?_
        · simp only [go_sem, reduceIte, Nat.reduceLT, Nat.reduceEqDiff, Nat.reduceAdd]
        obtain rfl := Option.some.inj h
        exact lpK_n ((f_289, (w64 (i_259 + 1)))) rfl (weak_sel [0] (by decide) rfl (by simp only [go_sem, reduceIte, Nat.reduceLT, Nat.reduceEqDiff, Nat.reduceAdd]) (by simp only [go_sem, reduceIte, Nat.reduceLT, Nat.reduceEqDiff, Nat.reduceAdd]))
    · replace h := ite_f h hb
      refine run_exit ?_
      refine thenK_x ?_
      obtain rfl := Option.some.inj h
      have ex_x_281 := hxx_285 _ rfl
      subst ex_x_281
      have h := hj_283; clear hj_283
      refine lpK_x ?_
      refine blockK_x ?_
      obtain rfl := Option.some.inj h
      exact joinK_n (()) rfl ((weak_sel (l' := []) (σ' := []) [] (by decide) rfl (by simp only [go_sem, reduceIte, Nat.reduceLT, Nat.reduceEqDiff, Nat.reduceAdd]) (by simp only [go_sem, reduceIte, Nat.reduceLT, Nat.reduceEqDiff, Nat.reduceAdd])).trans (weak_sel [] (by decide) rfl (by simp only [go_sem, reduceIte, Nat.reduceLT, Nat.reduceEqDiff, Nat.reduceAdd]) (by simp only [go_sem, reduceIte, Nat.reduceLT, Nat.reduceEqDiff, Nat.reduceAdd])))
  rintro ⟨⟩ rfl
  have h := hj_246; clear hj_246
  refine run_textE hE [2] (fr' := [(2, .bool true)]) (σ' := []) ⟨_, orcs_nil, ?_⟩ ?_
  · simp only [go_sem, reduceIte, Nat.reduceLT, Nat.reduceEqDiff, Nat.reduceAdd]
  refine run_ret ?_
  obtain rfl := Option.some.inj h
  refine wkP_of (Weak.refl _ _) ?_
  refine ret_ok (.inr rfl) ?_
  simp only [go_sem, reduceIte, Nat.reduceLT, Nat.reduceEqDiff, Nat.reduceAdd]

end Go.Proofs.Ytomjphpnpcgacaa
/-
  The functions compute just that.
-/
namespace Go.Proofs.Ytomjphpnpcgacaa
open Go.Rv
set_option linter.unusedVariables false
set_option linter.unusedSimpArgs false
set_option maxRecDepth 20000
set_option maxHeartbeats 4000000

theorem r12_Valid_con {p_307 : Api_Peer} {r : Bool} (h : r12_Valid p_307 = some r) : Con B 40 [.agg [i64 p_307.Epoch, i64 p_307.Other, i64 p_307.First, .sl false (L (cSl cU8) p_307.Queue), i64 p_307.Next, .sl false (L cApi_Packet p_307.Early), i64 p_307.SentAt]] [] (fun r' σ' => r' = .bool r ∧ σ' = []) := by
  refine con_walk (N := 61) (rs := [.tmp 2]) ok Try.func40 rfl (by decide +kernel) rfl rfl (Nat.le_of_ble_eq_true rfl) (fun F => ?_)
  have hE := ok.env F
  unfold r12_Valid at h
  show Run (B.env F) 0 _ ⟨asFr 61 [(0, .agg [i64 p_307.Epoch, i64 p_307.Other, i64 p_307.First, .sl false (L (cSl cU8) p_307.Queue), i64 p_307.Next, .sl false (L cApi_Packet p_307.Early), i64 p_307.SentAt])], []⟩ _
  refine run_wkP ?_
  refine run_textE hE [1] (fr' := [(1, .ref 0 0)]) (σ' := [.box [i64 p_307.Epoch, i64 p_307.Other, i64 p_307.First, .sl false (L (cSl cU8) p_307.Queue), i64 p_307.Next, .sl false (L cApi_Packet p_307.Early), i64 p_307.SentAt] false]) ⟨_, orcs_nil, ?_⟩ ?_
  · simp only [go_sem, reduceIte, Nat.reduceLT, Nat.reduceEqDiff, Nat.reduceAdd]
  refine run_seq ?_
  replace h := bind_some1 h; obtain ⟨t_313, hv_314, h⟩ := h
  refine run_textW hE [1, 31] (fr' := [(1, .ref 0 0), (31, .bool t_313)]) (σ' := [.box [i64 p_307.Epoch, i64 p_307.Other, i64 p_307.First, .sl false (L (cSl cU8) p_307.Queue), i64 p_307.Next, .sl false (L cApi_Packet p_307.Early), i64 p_307.SentAt] false]) ?_ ?_
  · replace hv_314 := bind_some1 hv_314; obtain ⟨y_308, hy_315, hv_314⟩ := hv_314
    rcases Bool.eq_false_or_eq_true ((!y_308)) with hb_316 | hb_316
    · replace hv_314 := ite_t hv_314 hb_316
      have e_hv_314 := Option.some.inj hv_314; subst e_hv_314
      exact ⟨_, [(1, .ref 0 0), (31, .bool true)], [.box [i64 p_307.Epoch, i64 p_307.Other, i64 p_307.First, .sl false (L (cSl cU8) p_307.Queue), i64 p_307.Next, .sl false (L cApi_Packet p_307.Early), i64 p_307.SentAt] false], orcs_ok (l := [(6, 36, [i64 p_307.Epoch, i64 0, i64 1073741824], .bool y_308)]) ⟨r12_within_con  hy_315, trivial⟩, by simp only [go_sem, reduceIte, Nat.reduceLT, Nat.reduceEqDiff, Nat.reduceAdd, hb_316], (weak_sel [0] (by decide) rfl (by simp only [go_sem, reduceIte, Nat.reduceLT, Nat.reduceEqDiff, Nat.reduceAdd]) (by simp only [go_sem, reduceIte, Nat.reduceLT, Nat.reduceEqDiff, Nat.reduceAdd]))⟩
    · replace hv_314 := ite_f hv_314 hb_316
      replace hv_314 := bind_some1 hv_314; obtain ⟨y_309, hy_317, hv_314⟩ := hv_314
      rcases Bool.eq_false_or_eq_true ((!y_309)) with hb_318 | hb_318
      · replace hv_314 := ite_t hv_314 hb_318
        have e_hv_314 := Option.some.inj hv_314; subst e_hv_314
        exact ⟨_, [(1, .ref 0 0), (31, .bool true)], [.box [i64 p_307.Epoch, i64 p_307.Other, i64 p_307.First, .sl false (L (cSl cU8) p_307.Queue), i64 p_307.Next, .sl false (L cApi_Packet p_307.Early), i64 p_307.SentAt] false], orcs_ok (l := [(6, 36, [i64 p_307.Epoch, i64 0, i64 1073741824], .bool y_308), (11, 36, [i64 p_307.Other, i64 ((-1)), i64 1073741824], .bool y_309)]) ⟨r12_within_con  hy_315, r12_within_con  hy_317, trivial⟩, by simp only [go_sem, reduceIte, Nat.reduceLT, Nat.reduceEqDiff, Nat.reduceAdd, hb_316, hb_318], (weak_sel [0] (by decide) rfl (by simp only [go_sem, reduceIte, Nat.reduceLT, Nat.reduceEqDiff, Nat.reduceAdd]) (by simp only [go_sem, reduceIte, Nat.reduceLT, Nat.reduceEqDiff, Nat.reduceAdd]))⟩
      · replace hv_314 := ite_f hv_314 hb_318
        replace hv_314 := bind_some1 hv_314; obtain ⟨y_310, hy_319, hv_314⟩ := hv_314
        rcases Bool.eq_false_or_eq_true ((!y_310)) with hb_320 | hb_320
        · replace hv_314 := ite_t hv_314 hb_320
          have e_hv_314 := Option.some.inj hv_314; subst e_hv_314
          exact ⟨_, [(1, .ref 0 0), (31, .bool true)], [.box [i64 p_307.Epoch, i64 p_307.Other, i64 p_307.First, .sl false (L (cSl cU8) p_307.Queue), i64 p_307.Next, .sl false (L cApi_Packet p_307.Early), i64 p_307.SentAt] false], orcs_ok (l := [(6, 36, [i64 p_307.Epoch, i64 0, i64 1073741824], .bool y_308), (11, 36, [i64 p_307.Other, i64 ((-1)), i64 1073741824], .bool y_309), (17, 36, [i64 p_307.First, i64 0, i64 1099511627776], .bool y_310)]) ⟨r12_within_con  hy_315, r12_within_con  hy_317, r12_within_con  hy_319, trivial⟩, by simp only [go_sem, reduceIte, Nat.reduceLT, Nat.reduceEqDiff, Nat.reduceAdd, hb_316, hb_318, hb_320], (weak_sel [0] (by decide) rfl (by simp only [go_sem, reduceIte, Nat.reduceLT, Nat.reduceEqDiff, Nat.reduceAdd]) (by simp only [go_sem, reduceIte, Nat.reduceLT, Nat.reduceEqDiff, Nat.reduceAdd]))⟩
        · replace hv_314 := ite_f hv_314 hb_320
          replace hv_314 := bind_some1 hv_314; obtain ⟨y_311, hy_321, hv_314⟩ := hv_314
          rcases Bool.eq_false_or_eq_true ((!y_311)) with hb_322 | hb_322
          · replace hv_314 := ite_t hv_314 hb_322
            have e_hv_314 := Option.some.inj hv_314; subst e_hv_314
            exact ⟨_, [(1, .ref 0 0), (31, .bool true)], [.box [i64 p_307.Epoch, i64 p_307.Other, i64 p_307.First, .sl false (L (cSl cU8) p_307.Queue), i64 p_307.Next, .sl false (L cApi_Packet p_307.Early), i64 p_307.SentAt] false], orcs_ok (l := [(6, 36, [i64 p_307.Epoch, i64 0, i64 1073741824], .bool y_308), (11, 36, [i64 p_307.Other, i64 ((-1)), i64 1073741824], .bool y_309), (17, 36, [i64 p_307.First, i64 0, i64 1099511627776], .bool y_310), (23, 36, [i64 p_307.Next, i64 0, i64 1099511627776], .bool y_311)]) ⟨r12_within_con  hy_315, r12_within_con  hy_317, r12_within_con  hy_319, r12_within_con  hy_321, trivial⟩, by simp only [go_sem, reduceIte, Nat.reduceLT, Nat.reduceEqDiff, Nat.reduceAdd, hb_316, hb_318, hb_320, hb_322], (weak_sel [0] (by decide) rfl (by simp only [go_sem, reduceIte, Nat.reduceLT, Nat.reduceEqDiff, Nat.reduceAdd]) (by simp only [go_sem, reduceIte, Nat.reduceLT, Nat.reduceEqDiff, Nat.reduceAdd]))⟩
          · replace hv_314 := ite_f hv_314 hb_322
            replace hv_314 := bind_some1 hv_314; obtain ⟨y_312, hy_323, hv_314⟩ := hv_314
            have e_hv_314 := Option.some.inj hv_314; subst e_hv_314
            exact ⟨_, [(1, .ref 0 0), (31, .bool ((!y_312)))], [.box [i64 p_307.Epoch, i64 p_307.Other, i64 p_307.First, .sl false (L (cSl cU8) p_307.Queue), i64 p_307.Next, .sl false (L cApi_Packet p_307.Early), i64 p_307.SentAt] false], orcs_ok (l := [(6, 36, [i64 p_307.Epoch, i64 0, i64 1073741824], .bool y_308), (11, 36, [i64 p_307.Other, i64 ((-1)), i64 1073741824], .bool y_309), (17, 36, [i64 p_307.First, i64 0, i64 1099511627776], .bool y_310), (23, 36, [i64 p_307.Next, i64 0, i64 1099511627776], .bool y_311), (29, 36, [i64 p_307.SentAt, i64 ((-1)), i64 1073741824], .bool y_312)]) ⟨r12_within_con  hy_315, r12_within_con  hy_317, r12_within_con  hy_319, r12_within_con  hy_321, r12_within_con  hy_323, trivial⟩, by simp only [go_sem, reduceIte, Nat.reduceLT, Nat.reduceEqDiff, Nat.reduceAdd, hb_316, hb_318, hb_320, hb_322], (weak_sel [0] (by decide) rfl (by simp only [go_sem, reduceIte, Nat.reduceLT, Nat.reduceEqDiff, Nat.reduceAdd]) (by simp only [go_sem, reduceIte, Nat.reduceLT, Nat.reduceEqDiff, Nat.reduceAdd]))⟩
  refine run_condL (b := t_313) rfl (by decide) (fun hb => ?_) (fun hb => ?_)
  · replace h := ite_t h hb
    refine run_textE hE [2] (fr' := [(2, .bool false)]) (σ' := [.box [i64 p_307.Epoch, i64 p_307.Other, i64 p_307.First, .sl false (L (cSl cU8) p_307.Queue), i64 p_307.Next, .sl false (L cApi_Packet p_307.Early), i64 p_307.SentAt] false]) ⟨_, orcs_nil, ?_⟩ ?_
    · simp only [go_sem, reduceIte, Nat.reduceLT, Nat.reduceEqDiff, Nat.reduceAdd]
    refine run_ret ?_
    refine thenK_r ?_
    obtain rfl := Option.some.inj h
    refine wkP_of (Weak.refl _ _) ?_
    refine ret_ok (.inr rfl) ?_
    simp only [go_sem, reduceIte, Nat.reduceLT, Nat.reduceEqDiff, Nat.reduceAdd]
  · replace h := ite_f h hb
    refine run_skip ?_
    refine thenK_n ?_
    refine run_seq ?_
    replace h := bind_some1 h; obtain ⟨t_324, hv_325, h⟩ := h
    refine run_textW hE [1, 44] (fr' := [(1, .ref 0 0), (44, .bool t_324)]) (σ' := [.box [i64 p_307.Epoch, i64 p_307.Other, i64 p_307.First, .sl false (L (cSl cU8) p_307.Queue), i64 p_307.Next, .sl false (L cApi_Packet p_307.Early), i64 p_307.SentAt] false]) ?_ ?_
    · rcases Bool.eq_false_or_eq_true ((decide ((p_307.Queue.length : Int) > 256))) with hb_326 | hb_326
      · replace hv_325 := ite_t hv_325 hb_326
        have e_hv_325 := Option.some.inj hv_325; subst e_hv_325
        exact ⟨_, [(1, .ref 0 0), (44, .bool true)], [.box [i64 p_307.Epoch, i64 p_307.Other, i64 p_307.First, .sl false (L (cSl cU8) p_307.Queue), i64 p_307.Next, .sl false (L cApi_Packet p_307.Early), i64 p_307.SentAt] false], orcs_nil, by simp only [go_sem, reduceIte, Nat.reduceLT, Nat.reduceEqDiff, Nat.reduceAdd, hb_326], (weak_sel [0] (by decide) rfl (by simp only [go_sem, reduceIte, Nat.reduceLT, Nat.reduceEqDiff, Nat.reduceAdd]) (by simp only [go_sem, reduceIte, Nat.reduceLT, Nat.reduceEqDiff, Nat.reduceAdd]))⟩
      · replace hv_325 := ite_f hv_325 hb_326
        have e_hv_325 := Option.some.inj hv_325; subst e_hv_325
        exact ⟨_, [(1, .ref 0 0), (44, .bool ((decide ((w64 (p_307.First + (p_307.Queue.length : Int))) > 1099511627776))))], [.box [i64 p_307.Epoch, i64 p_307.Other, i64 p_307.First, .sl false (L (cSl cU8) p_307.Queue), i64 p_307.Next, .sl false (L cApi_Packet p_307.Early), i64 p_307.SentAt] false], orcs_nil, by simp only [go_sem, reduceIte, Nat.reduceLT, Nat.reduceEqDiff, Nat.reduceAdd, hb_326], (weak_sel [0] (by decide) rfl (by simp only [go_sem, reduceIte, Nat.reduceLT, Nat.reduceEqDiff, Nat.reduceAdd]) (by simp only [go_sem, reduceIte, Nat.reduceLT, Nat.reduceEqDiff, Nat.reduceAdd]))⟩
    refine run_condL (b := t_324) rfl (by decide) (fun hb => ?_) (fun hb => ?_)
    · replace h := ite_t h hb
      refine run_textE hE [2] (fr' := [(2, .bool false)]) (σ' := [.box [i64 p_307.Epoch, i64 p_307.Other, i64 p_307.First, .sl false (L (cSl cU8) p_307.Queue), i64 p_307.Next, .sl false (L cApi_Packet p_307.Early), i64 p_307.SentAt] false]) ⟨_, orcs_nil, ?_⟩ ?_
      · simp only [go_sem, reduceIte, Nat.reduceLT, Nat.reduceEqDiff, Nat.reduceAdd]
      refine run_ret ?_
      refine thenK_r ?_
      obtain rfl := Option.some.inj h
      refine wkP_of (Weak.refl _ _) ?_
      refine ret_ok (.inr rfl) ?_
      simp only [go_sem, reduceIte, Nat.reduceLT, Nat.reduceEqDiff, Nat.reduceAdd]
    · replace h := ite_f h hb
      refine run_skip ?_
      refine thenK_n ?_
      replace h := bind_some1 h; obtain ⟨j_346, hA_347, hj_348⟩ := h
      refine run_join (fun (v : Unit) => (⟨asFr 61 [(1, .ref 0 0)], [.box [i64 p_307.Epoch, i64 p_307.Other, i64 p_307.First, .sl false (L (cSl cU8) p_307.Queue), i64 p_307.Next, .sl false (L cApi_Packet p_307.Early), i64 p_307.SentAt] false]⟩ : St)) (fun v => .inl v = j_346) ?_ ?_
      · have h := hA_347; clear hA_347
        refine run_textE hE [1, 3] (fr' := [(1, .ref 0 0), (3, i64 0)]) (σ' := [.box [i64 p_307.Epoch, i64 p_307.Other, i64 p_307.First, .sl false (L (cSl cU8) p_307.Queue), i64 p_307.Next, .sl false (L cApi_Packet p_307.Early), i64 p_307.SentAt] false]) ⟨_, orcs_nil, ?_⟩ ?_
        · simp only [go_sem, reduceIte, Nat.reduceLT, Nat.reduceEqDiff, Nat.reduceAdd]
        refine run_block ?_
        replace h := bind_some1 h; obtain ⟨x_358, hx_359, hj_360⟩ := h
        refine run_loopO hx_359 (fun (v : Int) => (⟨asFr 61 [(1, .ref 0 0), (3, i64 v)], [.box [i64 p_307.Epoch, i64 p_307.Other, i64 p_307.First, .sl false (L (cSl cU8) p_307.Queue), i64 p_307.Next, .sl false (L cApi_Packet p_307.Early), i64 p_307.SentAt] false]⟩ : St)) (weak_sel [0] (by decide) rfl (by simp only [go_sem, reduceIte, Nat.reduceLT, Nat.reduceEqDiff, Nat.reduceAdd]) (by simp only [go_sem, reduceIte, Nat.reduceLT, Nat.reduceEqDiff, Nat.reduceAdd])) ?_
        rintro i_352 o_361 h hxx_362
        replace h : r12_Valid_b1 p_307 i_352 = some o_361 := h
        unfold r12_Valid_b1 at h
        refine run_seq ?_
        refine run_textE hE [1, 3, 49] (fr' := [(1, .ref 0 0), (3, i64 i_352), (49, .bool ((decide (i_352 < (p_307.Queue.length : Int)))))]) (σ' := [.box [i64 p_307.Epoch, i64 p_307.Other, i64 p_307.First, .sl false (L (cSl cU8) p_307.Queue), i64 p_307.Next, .sl false (L cApi_Packet p_307.Early), i64 p_307.SentAt] false]) ⟨_, orcs_nil, ?_⟩ ?_
        · simp only [go_sem, reduceIte, Nat.reduceLT, Nat.reduceEqDiff, Nat.reduceAdd]
        refine run_condL (b := (decide (i_352 < (p_307.Queue.length : Int)))) rfl (by decide) (fun hb => ?_) (fun hb => ?_)
        · replace h := ite_t h hb
          refine run_skip ?_
          refine thenK_n ?_
          refine run_seq ?_
          refine run_block ?_
          replace h := chk_some h; obtain ⟨hc_363, h⟩ := h
          replace h := lt1_some h; obtain ⟨t_364, hz_365, h⟩ := h
          refine run_textE hE [1, 3, 58] (fr' := [(1, .ref 0 0), (3, i64 i_352), (58, .bool t_364)]) (σ' := [.box [i64 p_307.Epoch, i64 p_307.Other, i64 p_307.First, .sl false (L (cSl cU8) p_307.Queue), i64 p_307.Next, .sl false (L cApi_Packet p_307.Early), i64 p_307.SentAt] false]) ⟨_, orcs_nil, ?_⟩ ?_
          · subst hz_365; simp only [go_sem, reduceIte, Nat.reduceLT, Nat.reduceEqDiff, Nat.reduceAdd, Int.reduceToNat, hc_363, hc_363.2, lt_le hc_363.2]
          refine run_condL (b := t_364) rfl (by decide) (fun hb => ?_) (fun hb => ?_)
          · replace h := ite_t h hb
            refine run_textE hE [2] (fr' := [(2, .bool false)]) (σ' := [.box [i64 p_307.Epoch, i64 p_307.Other, i64 p_307.First, .sl false (L (cSl cU8) p_307.Queue), i64 p_307.Next, .sl false (L cApi_Packet p_307.Early), i64 p_307.SentAt] false]) ⟨_, orcs_nil, ?_⟩ ?_
            · simp only [go_sem, reduceIte, Nat.reduceLT, Nat.reduceEqDiff, Nat.reduceAdd]
            refine run_ret ?_
            refine blockK_r ?_
            refine thenK_r ?_
            refine lpK_r ?_
            replace h := bind_some1 h; obtain ⟨z_367, h, e_z_367⟩ := h
            obtain rfl := Option.some.inj e_z_367
            have ex_z_367 := hxx_362 _ rfl
            subst ex_z_367
            obtain rfl := Option.some.inj hj_360
            refine blockK_r ?_
            refine joinK_r ?_
            replace h := bind_some1 h; obtain ⟨z_366, h, e_z_366⟩ := h
            obtain rfl := Option.some.inj e_z_366
            obtain rfl := Option.some.inj hj_348
            obtain rfl := Option.some.inj h
            refine wkP_of (Weak.refl _ _) ?_
            refine ret_ok (.inr rfl) ?_
            simp only [go_sem, reduceIte, Nat.reduceLT, Nat.reduceEqDiff, Nat.reduceAdd]
          · replace h := ite_f h hb
            refine run_skip ?_
            refine blockK_n ?_
            refine thenK_n ?_
            refine run_textE0 hE wk_lp [1, 3] (fr' := [(1, .ref 0 0), (3, i64 ((w64 (i_352 + 1))))]) (σ' := [.box [i64 p_307.Epoch, i64 p_307.Other, i64 p_307.First, .sl false (L (cSl cU8) p_307.Queue), i64 p_307.Next, .sl false (L cApi_Packet p_307.Early), i64 p_307.SentAt] false]) ⟨_, orcs_nil, ?_⟩ ?_
            · simp only [go_sem, reduceIte, Nat.reduceLT, Nat.reduceEqDiff, Nat.reduceAdd]
            obtain rfl := Option.some.inj h
            exact lpK_n ((w64 (i_352 + 1))) rfl (weak_sel [0] (by decide) rfl (by simp only [go_sem, reduceIte, Nat.reduceLT, Nat.reduceEqDiff, Nat.reduceAdd]) (by simp only [go_sem, reduceIte, Nat.reduceLT, Nat.reduceEqDiff, Nat.reduceAdd]))
        · replace h := ite_f h hb
          refine run_exit ?_
          refine thenK_x ?_
          obtain rfl := Option.some.inj h
          have ex_x_358 := hxx_362 _ rfl
          subst ex_x_358
          have h := hj_360; clear hj_360
          refine lpK_x ?_
          refine blockK_x ?_
          obtain rfl := Option.some.inj h
          exact joinK_n (()) rfl ((weak_sel (l' := [(1, .ref 0 0)]) (σ' := [.box [i64 p_307.Epoch, i64 p_307.Other, i64 p_307.First, .sl false (L (cSl cU8) p_307.Queue), i64 p_307.Next, .sl false (L cApi_Packet p_307.Early), i64 p_307.SentAt] false]) [0] (by decide) rfl (by simp only [go_sem, reduceIte, Nat.reduceLT, Nat.reduceEqDiff, Nat.reduceAdd]) (by simp only [go_sem, reduceIte, Nat.reduceLT, Nat.reduceEqDiff, Nat.reduceAdd])).trans (weak_sel [0] (by decide) rfl (by simp only [go_sem, reduceIte, Nat.reduceLT, Nat.reduceEqDiff, Nat.reduceAdd]) (by simp only [go_sem, reduceIte, Nat.reduceLT, Nat.reduceEqDiff, Nat.reduceAdd])))
      rintro ⟨⟩ rfl
      have h := hj_348; clear hj_348
      replace h := bind_some1 h; obtain ⟨y_368, hy_369, h⟩ := h
      refine run_textE hE [2] (fr' := [(2, .bool y_368)]) (σ' := [.box [i64 p_307.Epoch, i64 p_307.Other, i64 p_307.First, .sl false (L (cSl cU8) p_307.Queue), i64 p_307.Next, .sl false (L cApi_Packet p_307.Early), i64 p_307.SentAt] false]) ⟨_, orcs_ok (l := [(60, 55, [.agg [i64 p_307.Epoch, i64 p_307.Other, i64 p_307.First, .sl false (L (cSl cU8) p_307.Queue), i64 p_307.Next, .sl false (L cApi_Packet p_307.Early), i64 p_307.SentAt]], .bool y_368)]) ⟨r12_early_con  hy_369, trivial⟩, ?_⟩ ?_
      · simp only [go_sem, reduceIte, Nat.reduceLT, Nat.reduceEqDiff, Nat.reduceAdd]
      refine run_ret ?_
      obtain rfl := Option.some.inj h
      refine wkP_of (Weak.refl _ _) ?_
      refine ret_ok (.inr rfl) ?_
      simp only [go_sem, reduceIte, Nat.reduceLT, Nat.reduceEqDiff, Nat.reduceAdd]

theorem r12_ValidPacket_con {k_370 : Api_Packet} {r : Bool} (h : r12_ValidPacket k_370 = some r) : Con B 44 [.agg [i64 k_370.Epoch, i64 k_370.To, i64 k_370.Seq, i64 k_370.Ack, .sl false (L cU8 k_370.Data)]] [] (fun r' σ' => r' = .bool r ∧ σ' = []) := by
  refine con_walk (N := 22) (rs := [.tmp 2]) ok Try.func44 rfl (by decide +kernel) rfl rfl (Nat.le_of_ble_eq_true rfl) (fun F => ?_)
  have hE := ok.env F
  unfold r12_ValidPacket at h
  show Run (B.env F) 0 _ ⟨asFr 22 [(0, .agg [i64 k_370.Epoch, i64 k_370.To, i64 k_370.Seq, i64 k_370.Ack, .sl false (L cU8 k_370.Data)])], []⟩ _
  refine run_wkP ?_
  refine run_textE hE [1] (fr' := [(1, .ref 0 0)]) (σ' := [.box [i64 k_370.Epoch, i64 k_370.To, i64 k_370.Seq, i64 k_370.Ack, .sl false (L cU8 k_370.Data)] false]) ⟨_, orcs_nil, ?_⟩ ?_
  · simp only [go_sem, reduceIte, Nat.reduceLT, Nat.reduceEqDiff, Nat.reduceAdd]
  replace h := bind_some1 h; obtain ⟨t_374, hv_375, h⟩ := h
  refine run_textW hE [2] (fr' := [(2, .bool t_374)]) (σ' := []) ?_ ?_
  · replace hv_375 := bind_some1 hv_375; obtain ⟨y_371, hy_376, hv_375⟩ := hv_375
    rcases Bool.eq_false_or_eq_true y_371 with hb_377 | hb_377
    · replace hv_375 := ite_t hv_375 hb_377
      replace hv_375 := bind_some1 hv_375; obtain ⟨y_372, hy_378, hv_375⟩ := hv_375
      rcases Bool.eq_false_or_eq_true y_372 with hb_379 | hb_379
      · replace hv_375 := ite_t hv_375 hb_379
        replace hv_375 := bind_some1 hv_375; obtain ⟨y_373, hy_380, hv_375⟩ := hv_375
        rcases Bool.eq_false_or_eq_true y_373 with hb_381 | hb_381
        · replace hv_375 := ite_t hv_375 hb_381
          have e_hv_375 := Option.some.inj hv_375; subst e_hv_375
          exact ⟨_, [(2, .bool ((decide ((k_370.Data.length : Int) ≤ 8000))))], [.box [i64 k_370.Epoch, i64 k_370.To, i64 k_370.Seq, i64 k_370.Ack, .sl false (L cU8 k_370.Data)] false], orcs_ok (l := [(5, 36, [i64 k_370.Epoch, i64 0, i64 1073741824], .bool y_371), (9, 36, [i64 k_370.Seq, i64 ((-1)), i64 1099511627775], .bool y_372), (14, 36, [i64 k_370.Ack, i64 0, i64 1099511627776], .bool y_373)]) ⟨r12_within_con  hy_376, r12_within_con  hy_378, r12_within_con  hy_380, trivial⟩, by simp only [go_sem, reduceIte, Nat.reduceLT, Nat.reduceEqDiff, Nat.reduceAdd, hb_377, hb_379, hb_381], (weak_sel [] (by decide) rfl (by simp only [go_sem, reduceIte, Nat.reduceLT, Nat.reduceEqDiff, Nat.reduceAdd]) (by simp only [go_sem, reduceIte, Nat.reduceLT, Nat.reduceEqDiff, Nat.reduceAdd]))⟩
        · replace hv_375 := ite_f hv_375 hb_381
          have e_hv_375 := Option.some.inj hv_375; subst e_hv_375
          exact ⟨_, [(2, .bool false)], [.box [i64 k_370.Epoch, i64 k_370.To, i64 k_370.Seq, i64 k_370.Ack, .sl false (L cU8 k_370.Data)] false], orcs_ok (l := [(5, 36, [i64 k_370.Epoch, i64 0, i64 1073741824], .bool y_371), (9, 36, [i64 k_370.Seq, i64 ((-1)), i64 1099511627775], .bool y_372), (14, 36, [i64 k_370.Ack, i64 0, i64 1099511627776], .bool y_373)]) ⟨r12_within_con  hy_376, r12_within_con  hy_378, r12_within_con  hy_380, trivial⟩, by simp only [go_sem, reduceIte, Nat.reduceLT, Nat.reduceEqDiff, Nat.reduceAdd, hb_377, hb_379, hb_381], (weak_sel [] (by decide) rfl (by simp only [go_sem, reduceIte, Nat.reduceLT, Nat.reduceEqDiff, Nat.reduceAdd]) (by simp only [go_sem, reduceIte, Nat.reduceLT, Nat.reduceEqDiff, Nat.reduceAdd]))⟩
      · replace hv_375 := ite_f hv_375 hb_379
        have e_hv_375 := Option.some.inj hv_375; subst e_hv_375
        exact ⟨_, [(2, .bool false)], [.box [i64 k_370.Epoch, i64 k_370.To, i64 k_370.Seq, i64 k_370.Ack, .sl false (L cU8 k_370.Data)] false], orcs_ok (l := [(5, 36, [i64 k_370.Epoch, i64 0, i64 1073741824], .bool y_371), (9, 36, [i64 k_370.Seq, i64 ((-1)), i64 1099511627775], .bool y_372)]) ⟨r12_within_con  hy_376, r12_within_con  hy_378, trivial⟩, by simp only [go_sem, reduceIte, Nat.reduceLT, Nat.reduceEqDiff, Nat.reduceAdd, hb_377, hb_379], (weak_sel [] (by decide) rfl (by simp only [go_sem, reduceIte, Nat.reduceLT, Nat.reduceEqDiff, Nat.reduceAdd]) (by simp only [go_sem, reduceIte, Nat.reduceLT, Nat.reduceEqDiff, Nat.reduceAdd]))⟩
    · replace hv_375 := ite_f hv_375 hb_377
      have e_hv_375 := Option.some.inj hv_375; subst e_hv_375
      exact ⟨_, [(2, .bool false)], [.box [i64 k_370.Epoch, i64 k_370.To, i64 k_370.Seq, i64 k_370.Ack, .sl false (L cU8 k_370.Data)] false], orcs_ok (l := [(5, 36, [i64 k_370.Epoch, i64 0, i64 1073741824], .bool y_371)]) ⟨r12_within_con  hy_376, trivial⟩, by simp only [go_sem, reduceIte, Nat.reduceLT, Nat.reduceEqDiff, Nat.reduceAdd, hb_377], (weak_sel [] (by decide) rfl (by simp only [go_sem, reduceIte, Nat.reduceLT, Nat.reduceEqDiff, Nat.reduceAdd]) (by simp only [go_sem, reduceIte, Nat.reduceLT, Nat.reduceEqDiff, Nat.reduceAdd]))⟩
  refine run_ret ?_
  obtain rfl := Option.some.inj h
  refine wkP_of (Weak.refl _ _) ?_
  refine ret_ok (.inr rfl) ?_
  simp only [go_sem, reduceIte, Nat.reduceLT, Nat.reduceEqDiff, Nat.reduceAdd]

end Go.Proofs.Ytomjphpnpcgacaa
/-
  The functions compute just that.
-/
namespace Go.Proofs.Ytomjphpnpcgacaa
open Go.Rv
set_option linter.unusedVariables false
set_option linter.unusedSimpArgs false
set_option maxRecDepth 20000
set_option maxHeartbeats 4000000

theorem window_New_con {epoch_382 : Int} {r : Api_Peer × Int} (h : window_New epoch_382 = some r) : Con B 12 [i64 epoch_382] [] (fun r' σ' => r' = .tup [.agg [i64 r.1.Epoch, i64 r.1.Other, i64 r.1.First, .sl false (L (cSl cU8) r.1.Queue), i64 r.1.Next, .sl false (L cApi_Packet r.1.Early), i64 r.1.SentAt], i64 r.2] ∧ σ' = []) := by
  refine con_walk (N := 10) (rs := [.cell 2 25, .tmp 3]) ok Try.func12 rfl (by decide +kernel) rfl rfl (Nat.le_of_ble_eq_true rfl) (fun F => ?_)
  have hE := ok.env F
  unfold window_New at h
  show Run (B.env F) 0 _ ⟨asFr 10 [(0, i64 epoch_382)], []⟩ _
  refine run_wkP ?_
  refine run_textE hE [0, 2] (fr' := [(0, i64 epoch_382), (2, .ref 0 0)]) (σ' := [.box [i64 0, i64 0, i64 0, .sl true (L (cSl cU8) ([])), i64 0, .sl true (L cApi_Packet ([])), i64 0] false]) ⟨_, orcs_nil, ?_⟩ ?_
  · simp only [go_sem, reduceIte, Nat.reduceLT, Nat.reduceEqDiff, Nat.reduceAdd]
  refine run_seq ?_
  replace h := bind_some1 h; obtain ⟨y_383, hy_384, h⟩ := h
  refine run_textE hE [0, 2, 6] (fr' := [(0, i64 epoch_382), (2, .ref 0 0), (6, .bool ((!y_383)))]) (σ' := [.box [i64 0, i64 0, i64 0, .sl true (L (cSl cU8) ([])), i64 0, .sl true (L cApi_Packet ([])), i64 0] false]) ⟨_, orcs_ok (l := [(5, 35, [i64 epoch_382, i64 0, i64 1073741824], .bool y_383)]) ⟨window_between_con  hy_384, trivial⟩, ?_⟩ ?_
  · simp only [go_sem, reduceIte, Nat.reduceLT, Nat.reduceEqDiff, Nat.reduceAdd]
  refine run_condL (b := (!y_383)) rfl (by decide) (fun hb => ?_) (fun hb => ?_)
  · replace h := ite_t h hb
    refine run_textE hE [2, 3] (fr' := [(2, .ref 0 0), (3, i64 1)]) (σ' := [.box [i64 0, i64 0, i64 0, .sl true (L (cSl cU8) ([])), i64 0, .sl true (L cApi_Packet ([])), i64 0] false]) ⟨_, orcs_nil, ?_⟩ ?_
    · simp only [go_sem, reduceIte, Nat.reduceLT, Nat.reduceEqDiff, Nat.reduceAdd, Nat.reduceGT, Nat.reduceLeDiff]
    refine run_ret ?_
    refine thenK_r ?_
    obtain rfl := Option.some.inj h
    refine wkP_of (Weak.refl _ _) ?_
    refine ret_ok (.inr rfl) ?_
    simp only [go_sem, reduceIte, Nat.reduceLT, Nat.reduceEqDiff, Nat.reduceAdd]
  · replace h := ite_f h hb
    refine run_skip ?_
    refine thenK_n ?_
    refine run_textE hE [2, 3] (fr' := [(2, .ref 0 0), (3, i64 0)]) (σ' := [.box [i64 epoch_382, i64 ((-1)), i64 0, .sl true (L (cSl cU8) ([])), i64 0, .sl true (L cApi_Packet ([])), i64 ((-1))] false]) ⟨_, orcs_nil, ?_⟩ ?_
    · simp only [go_sem, reduceIte, Nat.reduceLT, Nat.reduceEqDiff, Nat.reduceAdd, Nat.reduceGT, Nat.reduceLeDiff]
    refine run_ret ?_
    obtain rfl := Option.some.inj h
    refine wkP_of (Weak.refl _ _) ?_
    refine ret_ok (.inr rfl) ?_
    simp only [go_sem, reduceIte, Nat.reduceLT, Nat.reduceEqDiff, Nat.reduceAdd]

theorem r12_New_con {epoch_385 : Int} {r : Api_Peer × Int} (h : r12_New epoch_385 = some r) : Con B 13 [i64 epoch_385] [] (fun r' σ' => r' = .tup [.agg [i64 r.1.Epoch, i64 r.1.Other, i64 r.1.First, .sl false (L (cSl cU8) r.1.Queue), i64 r.1.Next, .sl false (L cApi_Packet r.1.Early), i64 r.1.SentAt], i64 r.2] ∧ σ' = []) := by
  refine con_walk (N := 10) (rs := [.cell 2 25, .tmp 3]) ok Try.func13 rfl (by decide +kernel) rfl rfl (Nat.le_of_ble_eq_true rfl) (fun F => ?_)
  have hE := ok.env F
  unfold r12_New at h
  show Run (B.env F) 0 _ ⟨asFr 10 [(0, i64 epoch_385)], []⟩ _
  refine run_wkP ?_
  refine run_textE hE [0, 2] (fr' := [(0, i64 epoch_385), (2, .ref 0 0)]) (σ' := [.box [i64 0, i64 0, i64 0, .sl true (L (cSl cU8) ([])), i64 0, .sl true (L cApi_Packet ([])), i64 0] false]) ⟨_, orcs_nil, ?_⟩ ?_
  · simp only [go_sem, reduceIte, Nat.reduceLT, Nat.reduceEqDiff, Nat.reduceAdd]
  refine run_seq ?_
  replace h := bind_some1 h; obtain ⟨y_386, hy_387, h⟩ := h
  refine run_textE hE [0, 2, 6] (fr' := [(0, i64 epoch_385), (2, .ref 0 0), (6, .bool ((!y_386)))]) (σ' := [.box [i64 0, i64 0, i64 0, .sl true (L (cSl cU8) ([])), i64 0, .sl true (L cApi_Packet ([])), i64 0] false]) ⟨_, orcs_ok (l := [(5, 36, [i64 epoch_385, i64 0, i64 1073741824], .bool y_386)]) ⟨r12_within_con  hy_387, trivial⟩, ?_⟩ ?_
  · simp only [go_sem, reduceIte, Nat.reduceLT, Nat.reduceEqDiff, Nat.reduceAdd]
  refine run_condL (b := (!y_386)) rfl (by decide) (fun hb => ?_) (fun hb => ?_)
  · replace h := ite_t h hb
    refine run_textE hE [2, 3] (fr' := [(2, .ref 0 0), (3, i64 1)]) (σ' := [.box [i64 0, i64 0, i64 0, .sl true (L (cSl cU8) ([])), i64 0, .sl true (L cApi_Packet ([])), i64 0] false]) ⟨_, orcs_nil, ?_⟩ ?_
    · simp only [go_sem, reduceIte, Nat.reduceLT, Nat.reduceEqDiff, Nat.reduceAdd, Nat.reduceGT, Nat.reduceLeDiff]
    refine run_ret ?_
    refine thenK_r ?_
    obtain rfl := Option.some.inj h
    refine wkP_of (Weak.refl _ _) ?_
    refine ret_ok (.inr rfl) ?_
    simp only [go_sem, reduceIte, Nat.reduceLT, Nat.reduceEqDiff, Nat.reduceAdd]
  · replace h := ite_f h hb
    refine run_skip ?_
    refine thenK_n ?_
    refine run_textE hE [2, 3] (fr' := [(2, .ref 0 0), (3, i64 0)]) (σ' := [.box [i64 epoch_385, i64 ((-1)), i64 0, .sl true (L (cSl cU8) ([])), i64 0, .sl true (L cApi_Packet ([])), i64 ((-1))] false]) ⟨_, orcs_nil, ?_⟩ ?_
    · simp only [go_sem, reduceIte, Nat.reduceLT, Nat.reduceEqDiff, Nat.reduceAdd, Nat.reduceGT, Nat.reduceLeDiff]
    refine run_ret ?_
    obtain rfl := Option.some.inj h
    refine wkP_of (Weak.refl _ _) ?_
    refine ret_ok (.inr rfl) ?_
    simp only [go_sem, reduceIte, Nat.reduceLT, Nat.reduceEqDiff, Nat.reduceAdd]

theorem window_own_con {b_388 : List UInt8} {r : List UInt8} (h : window_own b_388 = some r) : Con B 39 [.sl false (L cU8 b_388)] [] (fun r' σ' => r' = .sl false (L cU8 r) ∧ σ' = []) := by
  refine con_walk (N := 11) (rs := [.tmp 2]) ok Try.func39 rfl (by decide +kernel) rfl rfl (Nat.le_of_ble_eq_true rfl) (fun F => ?_)
  have hE := ok.env F
  unfold window_own at h
  show Run (B.env F) 0 _ ⟨asFr 11 [(0, .sl false (L cU8 b_388))], []⟩ _
  refine run_wkP ?_
  refine run_textE hE [0] (fr' := [(0, .sl false (L cU8 b_388))]) (σ' := []) ⟨_, orcs_nil, ?_⟩ ?_
  · simp only [go_sem, reduceIte, Nat.reduceLT, Nat.reduceEqDiff, Nat.reduceAdd]
  replace h := chk_some h; obtain ⟨hc_389, h⟩ := h
  replace h := lt1_some h; obtain ⟨l_390, hz_391, h⟩ := h
  refine run_textE hE [0, 3] (fr' := [(0, .sl false (L cU8 b_388)), (3, .bs true 0 (l_390.length) 0 (l_390.length))]) (σ' := [.buf 1 (L cU8 l_390) false]) ⟨_, orcs_nil, ?_⟩ ?_
  · subst hz_391; simp only [go_sem, reduceIte, Nat.reduceLT, Nat.reduceEqDiff, Nat.reduceAdd, Nat.reduceBEq, Nat.reduceMul, Nat.reduceSub, Nat.reduceGT, Nat.reducePow, Nat.reduceLeDiff, Int.reduceToNat, hc_389]
  replace h := lt1_some h; obtain ⟨l_392, hz_393, h⟩ := h
  refine run_textE hE [3] (fr' := [(3, .bs true 0 (l_392.length) 0 (l_392.length))]) (σ' := [.buf 1 (L cU8 l_392) false]) ⟨_, orcs_nil, ?_⟩ ?_
  · subst hz_393; simp only [go_sem, reduceIte, Nat.reduceLT, Nat.reduceEqDiff, Nat.reduceAdd]
  refine run_textE hE [2] (fr' := [(2, .bs true 0 (l_392.length) 0 (l_392.length))]) (σ' := [.buf 1 (L cU8 l_392) false]) ⟨_, orcs_nil, ?_⟩ ?_
  · simp only [go_sem, reduceIte, Nat.reduceLT, Nat.reduceEqDiff, Nat.reduceAdd]
  refine run_ret ?_
  obtain rfl := Option.some.inj h
  refine wkP_of (Weak.refl _ _) ?_
  refine ret_ok (.inr rfl) ?_
  simp only [go_sem, reduceIte, Nat.reduceLT, Nat.reduceEqDiff, Nat.reduceAdd]

theorem slices_Clone_38_con {s_394 : List (List UInt8)} {r : List (List UInt8)} (h : slices_Clone_38 s_394 = some r) : Con B 38 [.sl false (L (cSl cU8) s_394)] [] (fun r' σ' => r' = .bs false 0 (r.length) 0 (r.length) ∧ σ' = [.buf 1 (L (cSl cU8) r) false]) := by
  refine con_walk_own (N := 8) (rs := [.tmp 2]) 0 rfl ok Try.func38 rfl (by decide +kernel) rfl rfl (Nat.le_of_ble_eq_true rfl) (fun F => ?_)
  have hE := ok.env F
  unfold slices_Clone_38 at h
  show Run (B.env F) 0 _ ⟨asFr 8 [(0, .sl false (L (cSl cU8) s_394))], []⟩ _
  refine run_wkP ?_
  refine run_textE hE [0] (fr' := [(0, .sl false (L (cSl cU8) s_394))]) (σ' := []) ⟨_, orcs_nil, ?_⟩ ?_
  · simp only [go_sem, reduceIte, Nat.reduceLT, Nat.reduceEqDiff, Nat.reduceAdd]
  refine run_seq ?_
  refine run_nilcmp hE 0 3 4 22 26 rfl rfl rfl rfl rfl rfl rfl (by decide) Try.underlying22 (fun b_ hb_ => ?_)
  cases b_
  · refine run_condL (b := false) rfl (by decide) (fun hb => ?_) (fun hb => ?_)
    · cases hb
    · refine run_skip ?_
      refine thenK_n ?_
      replace h := chk_some h; obtain ⟨hc_399, h⟩ := h
      have hcn_400 := hc_399; simp only [List.cons_append, List.nil_append, List.length_append, List.length_cons, List.length_nil, Nat.zero_add, Nat.reduceAdd] at hcn_400
      replace h := lt1_some h; obtain ⟨l_401, hz_402, h⟩ := h
      refine run_textE hE [2] (fr' := [(2, .bs false 0 (l_401.length) 0 (l_401.length))]) (σ' := [.buf 1 (L (cSl cU8) l_401) false]) ⟨_, orcs_nil, ?_⟩ ?_
      · subst hz_402; simp only [go_sem, reduceIte, Nat.reduceLT, Nat.reduceEqDiff, Nat.reduceAdd, Nat.reduceBEq, Nat.reduceMul, Nat.reduceSub, Nat.reduceGT, Nat.reducePow, Nat.reduceLeDiff, Int.reduceToNat, hc_399, hcn_400]
      refine run_ret ?_
      obtain rfl := Option.some.inj h
      refine wkP_of (Weak.refl _ _) ?_
      refine ret_own (.inr rfl) [0] (by decide) rfl ?_ ?_
      · simp only [go_sem, reduceIte, Nat.reduceLT, Nat.reduceEqDiff, Nat.reduceAdd]
      · simp only [go_sem, reduceIte, Nat.reduceLT, Nat.reduceEqDiff, Nat.reduceAdd]
  · obtain rfl : s_394 = [] := List.map_eq_nil_iff.1 (hb_ rfl)
    replace h : some ([]) = some r := by first | exact h | (split at h <;> first | exact h | cases h)
    refine run_condL (b := true) rfl (by decide) (fun hb => ?_) (fun hb => ?_)
    · refine run_textE hE [2] (fr' := [(2, .sl true (L (cSl cU8) ([])))]) (σ' := []) ⟨_, orcs_nil, ?_⟩ ?_
      · simp only [go_sem, reduceIte, Nat.reduceLT, Nat.reduceEqDiff, Nat.reduceAdd]
      refine run_weak (weak_nil 2 1 rfl) ?_
      refine run_ret ?_
      refine thenK_r ?_
      obtain rfl := Option.some.inj h
      refine wkP_of (Weak.refl _ _) ?_
      refine ret_own (.inr rfl) [0] (by decide) rfl ?_ ?_
      · simp only [go_sem, reduceIte, Nat.reduceLT, Nat.reduceEqDiff, Nat.reduceAdd]
      · simp only [go_sem, reduceIte, Nat.reduceLT, Nat.reduceEqDiff, Nat.reduceAdd]
    · cases hb

theorem slices_Clone_59_con {s_403 : List Api_Packet} {r : List Api_Packet} (h : slices_Clone_59 s_403 = some r) : Con B 59 [.sl false (L cApi_Packet s_403)] [] (fun r' σ' => r' = .bs false 0 (r.length) 0 (r.length) ∧ σ' = [.buf 5 (L cApi_Packet r) false]) := by
  refine con_walk_own (N := 8) (rs := [.tmp 2]) 0 rfl ok Try.func59 rfl (by decide +kernel) rfl rfl (Nat.le_of_ble_eq_true rfl) (fun F => ?_)
  have hE := ok.env F
  unfold slices_Clone_59 at h
  show Run (B.env F) 0 _ ⟨asFr 8 [(0, .sl false (L cApi_Packet s_403))], []⟩ _
  refine run_wkP ?_
  refine run_textE hE [0] (fr' := [(0, .sl false (L cApi_Packet s_403))]) (σ' := []) ⟨_, orcs_nil, ?_⟩ ?_
  · simp only [go_sem, reduceIte, Nat.reduceLT, Nat.reduceEqDiff, Nat.reduceAdd]
  refine run_seq ?_
  refine run_nilcmp hE 0 3 4 23 39 rfl rfl rfl rfl rfl rfl rfl (by decide) Try.underlying23 (fun b_ hb_ => ?_)
  cases b_
  · refine run_condL (b := false) rfl (by decide) (fun hb => ?_) (fun hb => ?_)
    · cases hb
    · refine run_skip ?_
      refine thenK_n ?_
      replace h := chk_some h; obtain ⟨hc_408, h⟩ := h
      have hcn_409 := hc_408; simp only [List.cons_append, List.nil_append, List.length_append, List.length_cons, List.length_nil, Nat.zero_add, Nat.reduceAdd] at hcn_409
      replace h := lt1_some h; obtain ⟨l_410, hz_411, h⟩ := h
      refine run_textE hE [2] (fr' := [(2, .bs false 0 (l_410.length) 0 (l_410.length))]) (σ' := [.buf 5 (L cApi_Packet l_410) false]) ⟨_, orcs_nil, ?_⟩ ?_
      · subst hz_411; simp only [go_sem, reduceIte, Nat.reduceLT, Nat.reduceEqDiff, Nat.reduceAdd, Nat.reduceBEq, Nat.reduceMul, Nat.reduceSub, Nat.reduceGT, Nat.reducePow, Nat.reduceLeDiff, Int.reduceToNat, hc_408, hcn_409]
      refine run_ret ?_
      obtain rfl := Option.some.inj h
      refine wkP_of (Weak.refl _ _) ?_
      refine ret_own (.inr rfl) [0] (by decide) rfl ?_ ?_
      · simp only [go_sem, reduceIte, Nat.reduceLT, Nat.reduceEqDiff, Nat.reduceAdd]
      · simp only [go_sem, reduceIte, Nat.reduceLT, Nat.reduceEqDiff, Nat.reduceAdd]
  · obtain rfl : s_403 = [] := List.map_eq_nil_iff.1 (hb_ rfl)
    replace h : some ([]) = some r := by first | exact h | (split at h <;> first | exact h | cases h)
    refine run_condL (b := true) rfl (by decide) (fun hb => ?_) (fun hb => ?_)
    · refine run_textE hE [2] (fr' := [(2, .sl true (L cApi_Packet ([])))]) (σ' := []) ⟨_, orcs_nil, ?_⟩ ?_
      · simp only [go_sem, reduceIte, Nat.reduceLT, Nat.reduceEqDiff, Nat.reduceAdd]
      refine run_weak (weak_nil 2 5 rfl) ?_
      refine run_ret ?_
      refine thenK_r ?_
      obtain rfl := Option.some.inj h
      refine wkP_of (Weak.refl _ _) ?_
      refine ret_own (.inr rfl) [0] (by decide) rfl ?_ ?_
      · simp only [go_sem, reduceIte, Nat.reduceLT, Nat.reduceEqDiff, Nat.reduceAdd]
      · simp only [go_sem, reduceIte, Nat.reduceLT, Nat.reduceEqDiff, Nat.reduceAdd]
    · cases hb

end Go.Proofs.Ytomjphpnpcgacaa
/-
  The functions compute just that.
-/
namespace Go.Proofs.Ytomjphpnpcgacaa
open Go.Rv
set_option linter.unusedVariables false
set_option linter.unusedSimpArgs false
set_option maxRecDepth 20000
set_option maxHeartbeats 4000000

theorem window_Offer_con {p_412 : Api_Peer} {data_413 : List UInt8} {r : Api_Peer × Int} (h : window_Offer p_412 data_413 = some r) : Con B 14 [.agg [i64 p_412.Epoch, i64 p_412.Other, i64 p_412.First, .sl false (L (cSl cU8) p_412.Queue), i64 p_412.Next, .sl false (L cApi_Packet p_412.Early), i64 p_412.SentAt], .sl false (L cU8 data_413)] [] (fun r' σ' => r' = .tup [.agg [i64 r.1.Epoch, i64 r.1.Other, i64 r.1.First, .sl false (L (cSl cU8) r.1.Queue), i64 r.1.Next, .sl false (L cApi_Packet r.1.Early), i64 r.1.SentAt], i64 r.2] ∧ σ' = []) := by
  refine con_walk (N := 40) (rs := [.cell 4 25, .tmp 5]) ok Try.func14 rfl (by decide +kernel) rfl rfl (Nat.le_of_ble_eq_true rfl) (fun F => ?_)
  have hE := ok.env F
  unfold window_Offer at h
  show Run (B.env F) 0 _ ⟨asFr 40 [(0, .agg [i64 p_412.Epoch, i64 p_412.Other, i64 p_412.First, .sl false (L (cSl cU8) p_412.Queue), i64 p_412.Next, .sl false (L cApi_Packet p_412.Early), i64 p_412.SentAt]), (1, .sl false (L cU8 data_413))], []⟩ _
  refine run_wkP ?_
  refine run_textE hE [1, 2, 4] (fr' := [(1, .sl false (L cU8 data_413)), (2, .ref 0 0), (4, .ref 1 0)]) (σ' := [.box [i64 p_412.Epoch, i64 p_412.Other, i64 p_412.First, .sl false (L (cSl cU8) p_412.Queue), i64 p_412.Next, .sl false (L cApi_Packet p_412.Early), i64 p_412.SentAt] false, .box [i64 0, i64 0, i64 0, .sl true (L (cSl cU8) ([])), i64 0, .sl true (L cApi_Packet ([])), i64 0] false]) ⟨_, orcs_nil, ?_⟩ ?_
  · simp only [go_sem, reduceIte, Nat.reduceLT, Nat.reduceEqDiff, Nat.reduceAdd]
  refine run_seq ?_
  refine run_block ?_
  replace h := bind_some1 h; obtain ⟨y_414, hy_415, h⟩ := h
  refine run_textE hE [1, 2, 4, 6] (fr' := [(1, .sl false (L cU8 data_413)), (2, .ref 0 0), (4, .ref 1 0), (6, .bool ((!y_414)))]) (σ' := [.box [i64 p_412.Epoch, i64 p_412.Other, i64 p_412.First, .sl false (L (cSl cU8) p_412.Queue), i64 p_412.Next, .sl false (L cApi_Packet p_412.Early), i64 p_412.SentAt] false, .box [i64 0, i64 0, i64 0, .sl true (L (cSl cU8) ([])), i64 0, .sl true (L cApi_Packet ([])), i64 0] false]) ⟨_, orcs_ok (l := [(8, 37, [.agg [i64 p_412.Epoch, i64 p_412.Other, i64 p_412.First, .sl false (L (cSl cU8) p_412.Queue), i64 p_412.Next, .sl false (L cApi_Packet p_412.Early), i64 p_412.SentAt]], .bool y_414)]) ⟨window_valid_con  hy_415, trivial⟩, ?_⟩ ?_
  · simp only [go_sem, reduceIte, Nat.reduceLT, Nat.reduceEqDiff, Nat.reduceAdd]
  refine run_condL (b := (!y_414)) rfl (by decide) (fun hb => ?_) (fun hb => ?_)
  · replace h := ite_t h hb
    refine run_textE hE [4, 5] (fr' := [(4, .ref 1 0), (5, i64 1)]) (σ' := [.box [i64 p_412.Epoch, i64 p_412.Other, i64 p_412.First, .sl false (L (cSl cU8) p_412.Queue), i64 p_412.Next, .sl false (L cApi_Packet p_412.Early), i64 p_412.SentAt] false, .box [i64 0, i64 0, i64 0, .sl true (L (cSl cU8) ([])), i64 0, .sl true (L cApi_Packet ([])), i64 0] false]) ⟨_, orcs_nil, ?_⟩ ?_
    · simp only [go_sem, reduceIte, Nat.reduceLT, Nat.reduceEqDiff, Nat.reduceAdd, Nat.reduceGT, Nat.reduceLeDiff]
    refine run_ret ?_
    refine blockK_r ?_
    refine thenK_r ?_
    obtain rfl := Option.some.inj h
    refine wkP_of (Weak.refl _ _) ?_
    refine ret_ok (.inr rfl) ?_
    simp only [go_sem, reduceIte, Nat.reduceLT, Nat.reduceEqDiff, Nat.reduceAdd]
  · replace h := ite_f h hb
    refine run_textE hE [1, 2, 4, 11] (fr' := [(1, .sl false (L cU8 data_413)), (2, .ref 0 0), (4, .ref 1 0), (11, .bool ((decide ((data_413.length : Int) > 8000))))]) (σ' := [.box [i64 p_412.Epoch, i64 p_412.Other, i64 p_412.First, .sl false (L (cSl cU8) p_412.Queue), i64 p_412.Next, .sl false (L cApi_Packet p_412.Early), i64 p_412.SentAt] false, .box [i64 0, i64 0, i64 0, .sl true (L (cSl cU8) ([])), i64 0, .sl true (L cApi_Packet ([])), i64 0] false]) ⟨_, orcs_nil, ?_⟩ ?_
    · simp only [go_sem, reduceIte, Nat.reduceLT, Nat.reduceEqDiff, Nat.reduceAdd]
    refine run_condL (b := (decide ((data_413.length : Int) > 8000))) rfl (by decide) (fun hb => ?_) (fun hb => ?_)
    · replace h := ite_t h hb
      refine run_textE hE [4, 5] (fr' := [(4, .ref 1 0), (5, i64 2)]) (σ' := [.box [i64 p_412.Epoch, i64 p_412.Other, i64 p_412.First, .sl false (L (cSl cU8) p_412.Queue), i64 p_412.Next, .sl false (L cApi_Packet p_412.Early), i64 p_412.SentAt] false, .box [i64 0, i64 0, i64 0, .sl true (L (cSl cU8) ([])), i64 0, .sl true (L cApi_Packet ([])), i64 0] false]) ⟨_, orcs_nil, ?_⟩ ?_
      · simp only [go_sem, reduceIte, Nat.reduceLT, Nat.reduceEqDiff, Nat.reduceAdd, Nat.reduceGT, Nat.reduceLeDiff]
      refine run_ret ?_
      refine blockK_r ?_
      refine thenK_r ?_
      obtain rfl := Option.some.inj h
      refine wkP_of (Weak.refl _ _) ?_
      refine ret_ok (.inr rfl) ?_
      simp only [go_sem, reduceIte, Nat.reduceLT, Nat.reduceEqDiff, Nat.reduceAdd]
    · replace h := ite_f h hb
      replace h := bind_some1 h; obtain ⟨t_416, hv_417, h⟩ := h
      refine run_textW hE [1, 2, 4, 16] (fr' := [(1, .sl false (L cU8 data_413)), (2, .ref 0 0), (4, .ref 1 0), (16, .bool t_416)]) (σ' := [.box [i64 p_412.Epoch, i64 p_412.Other, i64 p_412.First, .sl false (L (cSl cU8) p_412.Queue), i64 p_412.Next, .sl false (L cApi_Packet p_412.Early), i64 p_412.SentAt] false, .box [i64 0, i64 0, i64 0, .sl true (L (cSl cU8) ([])), i64 0, .sl true (L cApi_Packet ([])), i64 0] false]) ?_ ?_
      · rcases Bool.eq_false_or_eq_true (((p_412.Queue.length : Int) == 256)) with hb_418 | hb_418
        · replace hv_417 := ite_t hv_417 hb_418
          have e_hv_417 := Option.some.inj hv_417; subst e_hv_417
          exact ⟨_, [(1, .sl false (L cU8 data_413)), (2, .ref 0 0), (4, .ref 1 0), (16, .bool true)], [.box [i64 p_412.Epoch, i64 p_412.Other, i64 p_412.First, .sl false (L (cSl cU8) p_412.Queue), i64 p_412.Next, .sl false (L cApi_Packet p_412.Early), i64 p_412.SentAt] false, .box [i64 0, i64 0, i64 0, .sl true (L (cSl cU8) ([])), i64 0, .sl true (L cApi_Packet ([])), i64 0] false], orcs_nil, by simp only [go_sem, reduceIte, Nat.reduceLT, Nat.reduceEqDiff, Nat.reduceAdd, hb_418], (weak_sel [0, 1] (by decide) rfl (by simp only [go_sem, reduceIte, Nat.reduceLT, Nat.reduceEqDiff, Nat.reduceAdd]) (by simp only [go_sem, reduceIte, Nat.reduceLT, Nat.reduceEqDiff, Nat.reduceAdd]))⟩
        · replace hv_417 := ite_f hv_417 hb_418
          have e_hv_417 := Option.some.inj hv_417; subst e_hv_417
          exact ⟨_, [(1, .sl false (L cU8 data_413)), (2, .ref 0 0), (4, .ref 1 0), (16, .bool (((w64 (p_412.First + (p_412.Queue.length : Int))) == 1099511627776)))], [.box [i64 p_412.Epoch, i64 p_412.Other, i64 p_412.First, .sl false (L (cSl cU8) p_412.Queue), i64 p_412.Next, .sl false (L cApi_Packet p_412.Early), i64 p_412.SentAt] false, .box [i64 0, i64 0, i64 0, .sl true (L (cSl cU8) ([])), i64 0, .sl true (L cApi_Packet ([])), i64 0] false], orcs_nil, by simp only [go_sem, reduceIte, Nat.reduceLT, Nat.reduceEqDiff, Nat.reduceAdd, hb_418], (weak_sel [0, 1] (by decide) rfl (by simp only [go_sem, reduceIte, Nat.reduceLT, Nat.reduceEqDiff, Nat.reduceAdd]) (by simp only [go_sem, reduceIte, Nat.reduceLT, Nat.reduceEqDiff, Nat.reduceAdd]))⟩
      refine run_condL (b := t_416) rfl (by decide) (fun hb => ?_) (fun hb => ?_)
      · replace h := ite_t h hb
        refine run_textE hE [4, 5] (fr' := [(4, .ref 1 0), (5, i64 120)]) (σ' := [.box [i64 p_412.Epoch, i64 p_412.Other, i64 p_412.First, .sl false (L (cSl cU8) p_412.Queue), i64 p_412.Next, .sl false (L cApi_Packet p_412.Early), i64 p_412.SentAt] false, .box [i64 0, i64 0, i64 0, .sl true (L (cSl cU8) ([])), i64 0, .sl true (L cApi_Packet ([])), i64 0] false]) ⟨_, orcs_nil, ?_⟩ ?_
        · simp only [go_sem, reduceIte, Nat.reduceLT, Nat.reduceEqDiff, Nat.reduceAdd, Nat.reduceGT, Nat.reduceLeDiff]
        refine run_ret ?_
        refine blockK_r ?_
        refine thenK_r ?_
        obtain rfl := Option.some.inj h
        refine wkP_of (Weak.refl _ _) ?_
        refine ret_ok (.inr rfl) ?_
        simp only [go_sem, reduceIte, Nat.reduceLT, Nat.reduceEqDiff, Nat.reduceAdd]
      · replace h := ite_f h hb
        refine run_skip ?_
        refine blockK_n ?_
        refine thenK_n ?_
        replace h := bind_some1 h; obtain ⟨y_419, hy_421, h⟩ := h
        replace h := bind_some1 h; obtain ⟨y_420, hy_422, h⟩ := h
        replace h := chk_some h; obtain ⟨hc_423, h⟩ := h
        replace h := lt1_some h; obtain ⟨l_424, hz_425, h⟩ := h
        refine run_textE hE [2, 4] (fr' := [(2, .ref 0 0), (4, .ref 1 0)]) (σ' := [.box [i64 p_412.Epoch, i64 p_412.Other, i64 p_412.First, .bs false 2 (l_424.length) 0 (l_424.length), i64 p_412.Next, .sl false (L cApi_Packet p_412.Early), i64 p_412.SentAt] false, .box [i64 0, i64 0, i64 0, .sl true (L (cSl cU8) ([])), i64 0, .sl true (L cApi_Packet ([])), i64 0] false, .buf 1 (L (cSl cU8) l_424) false, .buf 1 (L (cSl cU8) (([y_420] : List (List UInt8)))) false]) ⟨_, orcs_ok2 (l := [(35, 39, [.sl false (L cU8 data_413)], .sl false (L cU8 y_420))]) (m := [(33, 38, [.sl false (L (cSl cU8) p_412.Queue)], [.box [i64 p_412.Epoch, i64 p_412.Other, i64 p_412.First, .sl false (L (cSl cU8) p_412.Queue), i64 p_412.Next, .sl false (L cApi_Packet p_412.Early), i64 p_412.SentAt] false, .box [i64 0, i64 0, i64 0, .sl true (L (cSl cU8) ([])), i64 0, .sl true (L cApi_Packet ([])), i64 0] false], .bs false 2 (y_419.length) 0 (y_419.length), [.box [i64 p_412.Epoch, i64 p_412.Other, i64 p_412.First, .sl false (L (cSl cU8) p_412.Queue), i64 p_412.Next, .sl false (L cApi_Packet p_412.Early), i64 p_412.SentAt] false, .box [i64 0, i64 0, i64 0, .sl true (L (cSl cU8) ([])), i64 0, .sl true (L cApi_Packet ([])), i64 0] false, .buf 1 (L (cSl cU8) y_419) false])]) ⟨window_own_con  hy_422, trivial⟩ ⟨(wcon_call (slices_Clone_38_con hy_421) [] (by decide) (by simp only [go_sem, reduceIte, Nat.reduceLT, Nat.reduceEqDiff, Nat.reduceAdd]) (by simp only [go_sem, reduceIte, Nat.reduceLT, Nat.reduceEqDiff, Nat.reduceAdd]) (by simp only [go_sem, reduceIte, Nat.reduceLT, Nat.reduceEqDiff, Nat.reduceAdd]) (by simp only [go_sem, reduceIte, Nat.reduceLT, Nat.reduceEqDiff, Nat.reduceAdd]) (by simp only [go_sem, reduceIte, Nat.reduceLT, Nat.reduceEqDiff, Nat.reduceAdd])), trivial⟩, ?_⟩ ?_
        · subst hz_425; simp only [go_sem, reduceIte, Nat.reduceLT, Nat.reduceEqDiff, Nat.reduceAdd, Nat.reduceBEq, Nat.reduceMul, Nat.reduceSub, Nat.reduceGT, Nat.reducePow, Nat.reduceLeDiff, Int.reduceToNat, hc_423]
        refine run_textE hE [4, 5] (fr' := [(4, .ref 1 0), (5, i64 0)]) (σ' := [.box [i64 p_412.Epoch, i64 p_412.Other, i64 p_412.First, .bs false 2 (l_424.length) 0 (l_424.length), i64 p_412.Next, .sl false (L cApi_Packet p_412.Early), i64 p_412.SentAt] false, .box [i64 p_412.Epoch, i64 p_412.Other, i64 p_412.First, .bs false 2 (l_424.length) 0 (l_424.length), i64 p_412.Next, .sl false (L cApi_Packet p_412.Early), i64 p_412.SentAt] false, .buf 1 (L (cSl cU8) l_424) false, .buf 1 (L (cSl cU8) (([y_420] : List (List UInt8)))) false]) ⟨_, orcs_nil, ?_⟩ ?_
        · simp only [go_sem, reduceIte, Nat.reduceLT, Nat.reduceEqDiff, Nat.reduceAdd, Nat.reduceLeDiff]
        refine run_ret ?_
        obtain rfl := Option.some.inj h
        refine wkP_of (Weak.refl _ _) ?_
        refine ret_ok (.inr rfl) ?_
        simp only [go_sem, reduceIte, Nat.reduceLT, Nat.reduceEqDiff, Nat.reduceAdd]

theorem r12_Offer_con {p_426 : Api_Peer} {data_427 : List UInt8} {r : Api_Peer × Int} (h : r12_Offer p_426 data_427 = some r) : Con B 15 [.agg [i64 p_426.Epoch, i64 p_426.Other, i64 p_426.First, .sl false (L (cSl cU8) p_426.Queue), i64 p_426.Next, .sl false (L cApi_Packet p_426.Early), i64 p_426.SentAt], .sl false (L cU8 data_427)] [] (fun r' σ' => r' = .tup [.agg [i64 r.1.Epoch, i64 r.1.Other, i64 r.1.First, .sl false (L (cSl cU8) r.1.Queue), i64 r.1.Next, .sl false (L cApi_Packet r.1.Early), i64 r.1.SentAt], i64 r.2] ∧ σ' = []) := by
  refine con_walk (N := 39) (rs := [.cell 4 25, .tmp 5]) ok Try.func15 rfl (by decide +kernel) rfl rfl (Nat.le_of_ble_eq_true rfl) (fun F => ?_)
  have hE := ok.env F
  unfold r12_Offer at h
  show Run (B.env F) 0 _ ⟨asFr 39 [(0, .agg [i64 p_426.Epoch, i64 p_426.Other, i64 p_426.First, .sl false (L (cSl cU8) p_426.Queue), i64 p_426.Next, .sl false (L cApi_Packet p_426.Early), i64 p_426.SentAt]), (1, .sl false (L cU8 data_427))], []⟩ _
  refine run_wkP ?_
  refine run_textE hE [1, 2, 4] (fr' := [(1, .sl false (L cU8 data_427)), (2, .ref 0 0), (4, .ref 1 0)]) (σ' := [.box [i64 p_426.Epoch, i64 p_426.Other, i64 p_426.First, .sl false (L (cSl cU8) p_426.Queue), i64 p_426.Next, .sl false (L cApi_Packet p_426.Early), i64 p_426.SentAt] false, .box [i64 0, i64 0, i64 0, .sl true (L (cSl cU8) ([])), i64 0, .sl true (L cApi_Packet ([])), i64 0] false]) ⟨_, orcs_nil, ?_⟩ ?_
  · simp only [go_sem, reduceIte, Nat.reduceLT, Nat.reduceEqDiff, Nat.reduceAdd]
  refine run_seq ?_
  replace h := bind_some1 h; obtain ⟨y_428, hy_429, h⟩ := h
  refine run_textE hE [1, 2, 4, 8] (fr' := [(1, .sl false (L cU8 data_427)), (2, .ref 0 0), (4, .ref 1 0), (8, .bool ((!y_428)))]) (σ' := [.box [i64 p_426.Epoch, i64 p_426.Other, i64 p_426.First, .sl false (L (cSl cU8) p_426.Queue), i64 p_426.Next, .sl false (L cApi_Packet p_426.Early), i64 p_426.SentAt] false, .box [i64 0, i64 0, i64 0, .sl true (L (cSl cU8) ([])), i64 0, .sl true (L cApi_Packet ([])), i64 0] false]) ⟨_, orcs_ok (l := [(7, 40, [.agg [i64 p_426.Epoch, i64 p_426.Other, i64 p_426.First, .sl false (L (cSl cU8) p_426.Queue), i64 p_426.Next, .sl false (L cApi_Packet p_426.Early), i64 p_426.SentAt]], .bool y_428)]) ⟨r12_Valid_con  hy_429, trivial⟩, ?_⟩ ?_
  · simp only [go_sem, reduceIte, Nat.reduceLT, Nat.reduceEqDiff, Nat.reduceAdd]
  refine run_condL (b := (!y_428)) rfl (by decide) (fun hb => ?_) (fun hb => ?_)
  · replace h := ite_t h hb
    refine run_textE hE [4, 5] (fr' := [(4, .ref 1 0), (5, i64 1)]) (σ' := [.box [i64 p_426.Epoch, i64 p_426.Other, i64 p_426.First, .sl false (L (cSl cU8) p_426.Queue), i64 p_426.Next, .sl false (L cApi_Packet p_426.Early), i64 p_426.SentAt] false, .box [i64 0, i64 0, i64 0, .sl true (L (cSl cU8) ([])), i64 0, .sl true (L cApi_Packet ([])), i64 0] false]) ⟨_, orcs_nil, ?_⟩ ?_
    · simp only [go_sem, reduceIte, Nat.reduceLT, Nat.reduceEqDiff, Nat.reduceAdd, Nat.reduceGT, Nat.reduceLeDiff]
    refine run_ret ?_
    refine thenK_r ?_
    obtain rfl := Option.some.inj h
    refine wkP_of (Weak.refl _ _) ?_
    refine ret_ok (.inr rfl) ?_
    simp only [go_sem, reduceIte, Nat.reduceLT, Nat.reduceEqDiff, Nat.reduceAdd]
  · replace h := ite_f h hb
    refine run_skip ?_
    refine thenK_n ?_
    refine run_seq ?_
    refine run_textE hE [1, 2, 4, 12] (fr' := [(1, .sl false (L cU8 data_427)), (2, .ref 0 0), (4, .ref 1 0), (12, .bool ((decide ((data_427.length : Int) > 8000))))]) (σ' := [.box [i64 p_426.Epoch, i64 p_426.Other, i64 p_426.First, .sl false (L (cSl cU8) p_426.Queue), i64 p_426.Next, .sl false (L cApi_Packet p_426.Early), i64 p_426.SentAt] false, .box [i64 0, i64 0, i64 0, .sl true (L (cSl cU8) ([])), i64 0, .sl true (L cApi_Packet ([])), i64 0] false]) ⟨_, orcs_nil, ?_⟩ ?_
    · simp only [go_sem, reduceIte, Nat.reduceLT, Nat.reduceEqDiff, Nat.reduceAdd]
    refine run_condL (b := (decide ((data_427.length : Int) > 8000))) rfl (by decide) (fun hb => ?_) (fun hb => ?_)
    · replace h := ite_t h hb
      refine run_textE hE [4, 5] (fr' := [(4, .ref 1 0), (5, i64 2)]) (σ' := [.box [i64 p_426.Epoch, i64 p_426.Other, i64 p_426.First, .sl false (L (cSl cU8) p_426.Queue), i64 p_426.Next, .sl false (L cApi_Packet p_426.Early), i64 p_426.SentAt] false, .box [i64 0, i64 0, i64 0, .sl true (L (cSl cU8) ([])), i64 0, .sl true (L cApi_Packet ([])), i64 0] false]) ⟨_, orcs_nil, ?_⟩ ?_
      · simp only [go_sem, reduceIte, Nat.reduceLT, Nat.reduceEqDiff, Nat.reduceAdd, Nat.reduceGT, Nat.reduceLeDiff]
      refine run_ret ?_
      refine thenK_r ?_
      obtain rfl := Option.some.inj h
      refine wkP_of (Weak.refl _ _) ?_
      refine ret_ok (.inr rfl) ?_
      simp only [go_sem, reduceIte, Nat.reduceLT, Nat.reduceEqDiff, Nat.reduceAdd]
    · replace h := ite_f h hb
      refine run_skip ?_
      refine thenK_n ?_
      refine run_seq ?_
      replace h := bind_some1 h; obtain ⟨t_430, hv_431, h⟩ := h
      refine run_textW hE [1, 2, 4, 26] (fr' := [(1, .sl false (L cU8 data_427)), (2, .ref 0 0), (4, .ref 1 0), (26, .bool t_430)]) (σ' := [.box [i64 p_426.Epoch, i64 p_426.Other, i64 p_426.First, .sl false (L (cSl cU8) p_426.Queue), i64 p_426.Next, .sl false (L cApi_Packet p_426.Early), i64 p_426.SentAt] false, .box [i64 0, i64 0, i64 0, .sl true (L (cSl cU8) ([])), i64 0, .sl true (L cApi_Packet ([])), i64 0] false]) ?_ ?_
      · rcases Bool.eq_false_or_eq_true (((p_426.Queue.length : Int) == 256)) with hb_432 | hb_432
        · replace hv_431 := ite_t hv_431 hb_432
          have e_hv_431 := Option.some.inj hv_431; subst e_hv_431
          exact ⟨_, [(1, .sl false (L cU8 data_427)), (2, .ref 0 0), (4, .ref 1 0), (26, .bool true)], [.box [i64 p_426.Epoch, i64 p_426.Other, i64 p_426.First, .sl false (L (cSl cU8) p_426.Queue), i64 p_426.Next, .sl false (L cApi_Packet p_426.Early), i64 p_426.SentAt] false, .box [i64 0, i64 0, i64 0, .sl true (L (cSl cU8) ([])), i64 0, .sl true (L cApi_Packet ([])), i64 0] false], orcs_nil, by simp only [go_sem, reduceIte, Nat.reduceLT, Nat.reduceEqDiff, Nat.reduceAdd, hb_432], (weak_sel [0, 1] (by decide) rfl (by simp only [go_sem, reduceIte, Nat.reduceLT, Nat.reduceEqDiff, Nat.reduceAdd]) (by simp only [go_sem, reduceIte, Nat.reduceLT, Nat.reduceEqDiff, Nat.reduceAdd]))⟩
        · replace hv_431 := ite_f hv_431 hb_432
          have e_hv_431 := Option.some.inj hv_431; subst e_hv_431
          exact ⟨_, [(1, .sl false (L cU8 data_427)), (2, .ref 0 0), (4, .ref 1 0), (26, .bool (((w64 (p_426.First + (p_426.Queue.length : Int))) == 1099511627776)))], [.box [i64 p_426.Epoch, i64 p_426.Other, i64 p_426.First, .sl false (L (cSl cU8) p_426.Queue), i64 p_426.Next, .sl false (L cApi_Packet p_426.Early), i64 p_426.SentAt] false, .box [i64 0, i64 0, i64 0, .sl true (L (cSl cU8) ([])), i64 0, .sl true (L cApi_Packet ([])), i64 0] false], orcs_nil, by simp only [go_sem, reduceIte, Nat.reduceLT, Nat.reduceEqDiff, Nat.reduceAdd, hb_432], (weak_sel [0, 1] (by decide) rfl (by simp only [go_sem, reduceIte, Nat.reduceLT, Nat.reduceEqDiff, Nat.reduceAdd]) (by simp only [go_sem, reduceIte, Nat.reduceLT, Nat.reduceEqDiff, Nat.reduceAdd]))⟩
      refine run_condL (b := t_430) rfl (by decide) (fun hb => ?_) (fun hb => ?_)
      · replace h := ite_t h hb
        refine run_textE hE [4, 5] (fr' := [(4, .ref 1 0), (5, i64 120)]) (σ' := [.box [i64 p_426.Epoch, i64 p_426.Other, i64 p_426.First, .sl false (L (cSl cU8) p_426.Queue), i64 p_426.Next, .sl false (L cApi_Packet p_426.Early), i64 p_426.SentAt] false, .box [i64 0, i64 0, i64 0, .sl true (L (cSl cU8) ([])), i64 0, .sl true (L cApi_Packet ([])), i64 0] false]) ⟨_, orcs_nil, ?_⟩ ?_
        · simp only [go_sem, reduceIte, Nat.reduceLT, Nat.reduceEqDiff, Nat.reduceAdd, Nat.reduceGT, Nat.reduceLeDiff]
        refine run_ret ?_
        refine thenK_r ?_
        obtain rfl := Option.some.inj h
        refine wkP_of (Weak.refl _ _) ?_
        refine ret_ok (.inr rfl) ?_
        simp only [go_sem, reduceIte, Nat.reduceLT, Nat.reduceEqDiff, Nat.reduceAdd]
      · replace h := ite_f h hb
        refine run_skip ?_
        refine thenK_n ?_
        replace h := chk_some h; obtain ⟨hc_433, h⟩ := h
        have hcn_434 := hc_433; simp only [List.cons_append, List.nil_append, List.length_append, List.length_cons, List.length_nil, Nat.zero_add, Nat.reduceAdd] at hcn_434
        replace h := chk_some h; obtain ⟨hc_435, h⟩ := h
        have hcn_436 := hc_435; simp only [List.cons_append, List.nil_append, List.length_append, List.length_cons, List.length_nil, Nat.zero_add, Nat.reduceAdd] at hcn_436
        replace h := chk_some h; obtain ⟨hc_437, h⟩ := h
        have hcn_438 := hc_437; simp only [List.cons_append, List.nil_append, List.length_append, List.length_cons, List.length_nil, Nat.zero_add, Nat.reduceAdd] at hcn_438
        replace h := lt1_some h; obtain ⟨l_439, hz_440, h⟩ := h
        refine run_textE hE [2, 4] (fr' := [(2, .ref 0 0), (4, .ref 1 0)]) (σ' := [.box [i64 p_426.Epoch, i64 p_426.Other, i64 p_426.First, .bs false 2 (l_439.length) 0 (l_439.length), i64 p_426.Next, .sl false (L cApi_Packet p_426.Early), i64 p_426.SentAt] false, .box [i64 0, i64 0, i64 0, .sl true (L (cSl cU8) ([])), i64 0, .sl true (L cApi_Packet ([])), i64 0] false, .buf 1 (L (cSl cU8) l_439) false, .buf 1 (L cU8 (((([] : List UInt8)) ++ data_427))) true, .buf 1 (L (cSl cU8) (([((([] : List UInt8)) ++ data_427)] : List (List UInt8)))) false]) ⟨_, orcs_nil, ?_⟩ ?_
        · subst hz_440; simp only [go_sem, reduceIte, Nat.reduceLT, Nat.reduceEqDiff, Nat.reduceAdd, Nat.reduceBEq, Nat.reduceMul, Nat.reduceSub, Nat.reduceGT, Nat.reducePow, Nat.reduceLeDiff, Int.reduceToNat, hc_433, hcn_434, hc_435, hcn_436, hc_437, hcn_438]
        refine run_textE hE [4, 5] (fr' := [(4, .ref 1 0), (5, i64 0)]) (σ' := [.box [i64 p_426.Epoch, i64 p_426.Other, i64 p_426.First, .bs false 2 (l_439.length) 0 (l_439.length), i64 p_426.Next, .sl false (L cApi_Packet p_426.Early), i64 p_426.SentAt] false, .box [i64 p_426.Epoch, i64 p_426.Other, i64 p_426.First, .bs false 2 (l_439.length) 0 (l_439.length), i64 p_426.Next, .sl false (L cApi_Packet p_426.Early), i64 p_426.SentAt] false, .buf 1 (L (cSl cU8) l_439) false, .buf 1 (L cU8 (((([] : List UInt8)) ++ data_427))) true, .buf 1 (L (cSl cU8) (([((([] : List UInt8)) ++ data_427)] : List (List UInt8)))) false]) ⟨_, orcs_nil, ?_⟩ ?_
        · simp only [go_sem, reduceIte, Nat.reduceLT, Nat.reduceEqDiff, Nat.reduceAdd, Nat.reduceLeDiff]
        refine run_ret ?_
        obtain rfl := Option.some.inj h
        refine wkP_of (Weak.refl _ _) ?_
        refine ret_ok (.inr rfl) ?_
        simp only [go_sem, reduceIte, Nat.reduceLT, Nat.reduceEqDiff, Nat.reduceAdd]

end Go.Proofs.Ytomjphpnpcgacaa
/-
  The functions compute just that.
-/
namespace Go.Proofs.Ytomjphpnpcgacaa
open Go.Rv
set_option linter.unusedVariables false
set_option linter.unusedSimpArgs false
set_option maxRecDepth 20000
set_option maxHeartbeats 4000000

theorem window_Emit_con {p_441 : Api_Peer} {now_442 : Int} {r : Api_Peer × List Api_Packet} (h : window_Emit p_441 now_442 = some r) : Con B 16 [.agg [i64 p_441.Epoch, i64 p_441.Other, i64 p_441.First, .sl false (L (cSl cU8) p_441.Queue), i64 p_441.Next, .sl false (L cApi_Packet p_441.Early), i64 p_441.SentAt], i64 now_442] [] (fun r' σ' => r' = .tup [.agg [i64 r.1.Epoch, i64 r.1.Other, i64 r.1.First, .sl false (L (cSl cU8) r.1.Queue), i64 r.1.Next, .sl false (L cApi_Packet r.1.Early), i64 r.1.SentAt], .sl false (L cApi_Packet r.2)] ∧ σ' = []) := by
  refine con_walk (N := 86) (rs := [.cell 4 25, .tmp 5]) ok Try.func16 rfl (by decide +kernel) rfl rfl (Nat.le_of_ble_eq_true rfl) (fun F => ?_)
  have hE := ok.env F
  unfold window_Emit at h
  show Run (B.env F) 0 _ ⟨asFr 86 [(0, .agg [i64 p_441.Epoch, i64 p_441.Other, i64 p_441.First, .sl false (L (cSl cU8) p_441.Queue), i64 p_441.Next, .sl false (L cApi_Packet p_441.Early), i64 p_441.SentAt]), (1, i64 now_442)], []⟩ _
  refine run_wkP ?_
  refine run_textE hE [1, 2, 4] (fr' := [(1, i64 now_442), (2, .ref 0 0), (4, .ref 1 0)]) (σ' := [.box [i64 p_441.Epoch, i64 p_441.Other, i64 p_441.First, .sl false (L (cSl cU8) p_441.Queue), i64 p_441.Next, .sl false (L cApi_Packet p_441.Early), i64 p_441.SentAt] false, .box [i64 0, i64 0, i64 0, .sl true (L (cSl cU8) ([])), i64 0, .sl true (L cApi_Packet ([])), i64 0] false]) ⟨_, orcs_nil, ?_⟩ ?_
  · simp only [go_sem, reduceIte, Nat.reduceLT, Nat.reduceEqDiff, Nat.reduceAdd]
  refine run_seq ?_
  replace h := bind_some1 h; obtain ⟨t_445, hv_446, h⟩ := h
  refine run_textW hE [1, 2, 4, 19] (fr' := [(1, i64 now_442), (2, .ref 0 0), (4, .ref 1 0), (19, .bool t_445)]) (σ' := [.box [i64 p_441.Epoch, i64 p_441.Other, i64 p_441.First, .sl false (L (cSl cU8) p_441.Queue), i64 p_441.Next, .sl false (L cApi_Packet p_441.Early), i64 p_441.SentAt] false, .box [i64 0, i64 0, i64 0, .sl true (L (cSl cU8) ([])), i64 0, .sl true (L cApi_Packet ([])), i64 0] false]) ?_ ?_
  · replace hv_446 := bind_some1 hv_446; obtain ⟨y_443, hy_447, hv_446⟩ := hv_446
    rcases Bool.eq_false_or_eq_true ((!y_443)) with hb_448 | hb_448
    · replace hv_446 := ite_t hv_446 hb_448
      have e_hv_446 := Option.some.inj hv_446; subst e_hv_446
      exact ⟨_, [(1, i64 now_442), (2, .ref 0 0), (4, .ref 1 0), (19, .bool true)], [.box [i64 p_441.Epoch, i64 p_441.Other, i64 p_441.First, .sl false (L (cSl cU8) p_441.Queue), i64 p_441.Next, .sl false (L cApi_Packet p_441.Early), i64 p_441.SentAt] false, .box [i64 0, i64 0, i64 0, .sl true (L (cSl cU8) ([])), i64 0, .sl true (L cApi_Packet ([])), i64 0] false], orcs_ok (l := [(13, 37, [.agg [i64 p_441.Epoch, i64 p_441.Other, i64 p_441.First, .sl false (L (cSl cU8) p_441.Queue), i64 p_441.Next, .sl false (L cApi_Packet p_441.Early), i64 p_441.SentAt]], .bool y_443)]) ⟨window_valid_con  hy_447, trivial⟩, by simp only [go_sem, reduceIte, Nat.reduceLT, Nat.reduceEqDiff, Nat.reduceAdd, hb_448], (weak_sel [0, 1] (by decide) rfl (by simp only [go_sem, reduceIte, Nat.reduceLT, Nat.reduceEqDiff, Nat.reduceAdd]) (by simp only [go_sem, reduceIte, Nat.reduceLT, Nat.reduceEqDiff, Nat.reduceAdd]))⟩
    · replace hv_446 := ite_f hv_446 hb_448
      replace hv_446 := bind_some1 hv_446; obtain ⟨y_444, hy_449, hv_446⟩ := hv_446
      have e_hv_446 := Option.some.inj hv_446; subst e_hv_446
      exact ⟨_, [(1, i64 now_442), (2, .ref 0 0), (4, .ref 1 0), (19, .bool ((!y_444)))], [.box [i64 p_441.Epoch, i64 p_441.Other, i64 p_441.First, .sl false (L (cSl cU8) p_441.Queue), i64 p_441.Next, .sl false (L cApi_Packet p_441.Early), i64 p_441.SentAt] false, .box [i64 0, i64 0, i64 0, .sl true (L (cSl cU8) ([])), i64 0, .sl true (L cApi_Packet ([])), i64 0] false], orcs_ok (l := [(13, 37, [.agg [i64 p_441.Epoch, i64 p_441.Other, i64 p_441.First, .sl false (L (cSl cU8) p_441.Queue), i64 p_441.Next, .sl false (L cApi_Packet p_441.Early), i64 p_441.SentAt]], .bool y_443), (17, 35, [i64 now_442, i64 0, i64 1073741824], .bool y_444)]) ⟨window_valid_con  hy_447, window_between_con  hy_449, trivial⟩, by simp only [go_sem, reduceIte, Nat.reduceLT, Nat.reduceEqDiff, Nat.reduceAdd, hb_448], (weak_sel [0, 1] (by decide) rfl (by simp only [go_sem, reduceIte, Nat.reduceLT, Nat.reduceEqDiff, Nat.reduceAdd]) (by simp only [go_sem, reduceIte, Nat.reduceLT, Nat.reduceEqDiff, Nat.reduceAdd]))⟩
  refine run_condL (b := t_445) rfl (by decide) (fun hb => ?_) (fun hb => ?_)
  · replace h := ite_t h hb
    refine run_textE hE [4, 5] (fr' := [(4, .ref 1 0), (5, .sl true (L cApi_Packet ([])))]) (σ' := [.box [i64 p_441.Epoch, i64 p_441.Other, i64 p_441.First, .sl false (L (cSl cU8) p_441.Queue), i64 p_441.Next, .sl false (L cApi_Packet p_441.Early), i64 p_441.SentAt] false, .box [i64 p_441.Epoch, i64 p_441.Other, i64 p_441.First, .sl false (L (cSl cU8) p_441.Queue), i64 p_441.Next, .sl false (L cApi_Packet p_441.Early), i64 p_441.SentAt] false]) ⟨_, orcs_nil, ?_⟩ ?_
    · simp only [go_sem, reduceIte, Nat.reduceLT, Nat.reduceEqDiff, Nat.reduceAdd, Nat.reduceLeDiff]
    refine run_ret ?_
    refine thenK_r ?_
    obtain rfl := Option.some.inj h
    refine wkP_of (Weak.refl _ _) ?_
    refine ret_ok (.inr rfl) ?_
    simp only [go_sem, reduceIte, Nat.reduceLT, Nat.reduceEqDiff, Nat.reduceAdd]
  · replace h := ite_f h hb
    refine run_skip ?_
    refine thenK_n ?_
    refine run_textE hE [1, 2, 4, 6] (fr' := [(1, i64 now_442), (2, .ref 0 0), (4, .ref 1 0), (6, .ref 2 0)]) (σ' := [.box [i64 p_441.Epoch, i64 p_441.Other, i64 p_441.First, .sl false (L (cSl cU8) p_441.Queue), i64 p_441.Next, .sl false (L cApi_Packet p_441.Early), i64 p_441.SentAt] false, .box [i64 0, i64 0, i64 0, .sl true (L (cSl cU8) ([])), i64 0, .sl true (L cApi_Packet ([])), i64 0] false, .box [i64 p_441.Epoch, i64 p_441.Other, i64 ((-1)), i64 p_441.Next, .sl true (L cU8 ([]))] false]) ⟨_, orcs_nil, ?_⟩ ?_
    · simp only [go_sem, reduceIte, Nat.reduceLT, Nat.reduceEqDiff, Nat.reduceAdd, Nat.reduceGT, Nat.reduceLeDiff]
    replace h := bind_some1 h; obtain ⟨due_450, hv_451, h⟩ := h
    refine run_textW hE [1, 2, 4, 6, 7] (fr' := [(1, i64 now_442), (2, .ref 0 0), (4, .ref 1 0), (6, .ref 2 0), (7, .bool due_450)]) (σ' := [.box [i64 p_441.Epoch, i64 p_441.Other, i64 p_441.First, .sl false (L (cSl cU8) p_441.Queue), i64 p_441.Next, .sl false (L cApi_Packet p_441.Early), i64 p_441.SentAt] false, .box [i64 0, i64 0, i64 0, .sl true (L (cSl cU8) ([])), i64 0, .sl true (L cApi_Packet ([])), i64 0] false, .box [i64 p_441.Epoch, i64 p_441.Other, i64 ((-1)), i64 p_441.Next, .sl true (L cU8 ([]))] false]) ?_ ?_
    · rcases Bool.eq_false_or_eq_true ((decide (p_441.SentAt < 0))) with hb_452 | hb_452
      · replace hv_451 := ite_t hv_451 hb_452
        have e_hv_451 := Option.some.inj hv_451; subst e_hv_451
        exact ⟨_, [(1, i64 now_442), (2, .ref 0 0), (4, .ref 1 0), (6, .ref 2 0), (7, .bool true)], [.box [i64 p_441.Epoch, i64 p_441.Other, i64 p_441.First, .sl false (L (cSl cU8) p_441.Queue), i64 p_441.Next, .sl false (L cApi_Packet p_441.Early), i64 p_441.SentAt] false, .box [i64 0, i64 0, i64 0, .sl true (L (cSl cU8) ([])), i64 0, .sl true (L cApi_Packet ([])), i64 0] false, .box [i64 p_441.Epoch, i64 p_441.Other, i64 ((-1)), i64 p_441.Next, .sl true (L cU8 ([]))] false], orcs_nil, by simp only [go_sem, reduceIte, Nat.reduceLT, Nat.reduceEqDiff, Nat.reduceAdd, hb_452], (weak_sel [0, 1, 2] (by decide) rfl (by simp only [go_sem, reduceIte, Nat.reduceLT, Nat.reduceEqDiff, Nat.reduceAdd]) (by simp only [go_sem, reduceIte, Nat.reduceLT, Nat.reduceEqDiff, Nat.reduceAdd]))⟩
      · replace hv_451 := ite_f hv_451 hb_452
        rcases Bool.eq_false_or_eq_true ((decide (p_441.SentAt > now_442))) with hb_453 | hb_453
        · replace hv_451 := ite_t hv_451 hb_453
          have e_hv_451 := Option.some.inj hv_451; subst e_hv_451
          exact ⟨_, [(1, i64 now_442), (2, .ref 0 0), (4, .ref 1 0), (6, .ref 2 0), (7, .bool true)], [.box [i64 p_441.Epoch, i64 p_441.Other, i64 p_441.First, .sl false (L (cSl cU8) p_441.Queue), i64 p_441.Next, .sl false (L cApi_Packet p_441.Early), i64 p_441.SentAt] false, .box [i64 0, i64 0, i64 0, .sl true (L (cSl cU8) ([])), i64 0, .sl true (L cApi_Packet ([])), i64 0] false, .box [i64 p_441.Epoch, i64 p_441.Other, i64 ((-1)), i64 p_441.Next, .sl true (L cU8 ([]))] false], orcs_nil, by simp only [go_sem, reduceIte, Nat.reduceLT, Nat.reduceEqDiff, Nat.reduceAdd, hb_452, hb_453], (weak_sel [0, 1, 2] (by decide) rfl (by simp only [go_sem, reduceIte, Nat.reduceLT, Nat.reduceEqDiff, Nat.reduceAdd]) (by simp only [go_sem, reduceIte, Nat.reduceLT, Nat.reduceEqDiff, Nat.reduceAdd]))⟩
        · replace hv_451 := ite_f hv_451 hb_453
          have e_hv_451 := Option.some.inj hv_451; subst e_hv_451
          exact ⟨_, [(1, i64 now_442), (2, .ref 0 0), (4, .ref 1 0), (6, .ref 2 0), (7, .bool ((decide ((w64 (now_442 - p_441.SentAt)) ≥ 10))))], [.box [i64 p_441.Epoch, i64 p_441.Other, i64 p_441.First, .sl false (L (cSl cU8) p_441.Queue), i64 p_441.Next, .sl false (L cApi_Packet p_441.Early), i64 p_441.SentAt] false, .box [i64 0, i64 0, i64 0, .sl true (L (cSl cU8) ([])), i64 0, .sl true (L cApi_Packet ([])), i64 0] false, .box [i64 p_441.Epoch, i64 p_441.Other, i64 ((-1)), i64 p_441.Next, .sl true (L cU8 ([]))] false], orcs_nil, by simp only [go_sem, reduceIte, Nat.reduceLT, Nat.reduceEqDiff, Nat.reduceAdd, hb_452, hb_453], (weak_sel [0, 1, 2] (by decide) rfl (by simp only [go_sem, reduceIte, Nat.reduceLT, Nat.reduceEqDiff, Nat.reduceAdd]) (by simp only [go_sem, reduceIte, Nat.reduceLT, Nat.reduceEqDiff, Nat.reduceAdd]))⟩
    refine run_seq ?_
    replace h := bind_some1 h; obtain ⟨t_454, hv_455, h⟩ := h
    refine run_textW hE [1, 2, 4, 6, 51] (fr' := [(1, i64 now_442), (2, .ref 0 0), (4, .ref 1 0), (6, .ref 2 0), (51, .bool t_454)]) (σ' := [.box [i64 p_441.Epoch, i64 p_441.Other, i64 p_441.First, .sl false (L (cSl cU8) p_441.Queue), i64 p_441.Next, .sl false (L cApi_Packet p_441.Early), i64 p_441.SentAt] false, .box [i64 0, i64 0, i64 0, .sl true (L (cSl cU8) ([])), i64 0, .sl true (L cApi_Packet ([])), i64 0] false, .box [i64 p_441.Epoch, i64 p_441.Other, i64 ((-1)), i64 p_441.Next, .sl true (L cU8 ([]))] false]) ?_ ?_
    · rcases Bool.eq_false_or_eq_true (((p_441.Queue.length : Int) == 0)) with hb_456 | hb_456
      · replace hv_455 := ite_t hv_455 hb_456
        have e_hv_455 := Option.some.inj hv_455; subst e_hv_455
        exact ⟨_, [(1, i64 now_442), (2, .ref 0 0), (4, .ref 1 0), (6, .ref 2 0), (51, .bool true)], [.box [i64 p_441.Epoch, i64 p_441.Other, i64 p_441.First, .sl false (L (cSl cU8) p_441.Queue), i64 p_441.Next, .sl false (L cApi_Packet p_441.Early), i64 p_441.SentAt] false, .box [i64 0, i64 0, i64 0, .sl true (L (cSl cU8) ([])), i64 0, .sl true (L cApi_Packet ([])), i64 0] false, .box [i64 p_441.Epoch, i64 p_441.Other, i64 ((-1)), i64 p_441.Next, .sl true (L cU8 ([]))] false], orcs_nil, by simp only [go_sem, reduceIte, Nat.reduceLT, Nat.reduceEqDiff, Nat.reduceAdd, hb_456], (weak_sel [0, 1, 2] (by decide) rfl (by simp only [go_sem, reduceIte, Nat.reduceLT, Nat.reduceEqDiff, Nat.reduceAdd]) (by simp only [go_sem, reduceIte, Nat.reduceLT, Nat.reduceEqDiff, Nat.reduceAdd]))⟩
      · replace hv_455 := ite_f hv_455 hb_456
        have e_hv_455 := Option.some.inj hv_455; subst e_hv_455
        exact ⟨_, [(1, i64 now_442), (2, .ref 0 0), (4, .ref 1 0), (6, .ref 2 0), (51, .bool ((!due_450)))], [.box [i64 p_441.Epoch, i64 p_441.Other, i64 p_441.First, .sl false (L (cSl cU8) p_441.Queue), i64 p_441.Next, .sl false (L cApi_Packet p_441.Early), i64 p_441.SentAt] false, .box [i64 0, i64 0, i64 0, .sl true (L (cSl cU8) ([])), i64 0, .sl true (L cApi_Packet ([])), i64 0] false, .box [i64 p_441.Epoch, i64 p_441.Other, i64 ((-1)), i64 p_441.Next, .sl true (L cU8 ([]))] false], orcs_nil, by simp only [go_sem, reduceIte, Nat.reduceLT, Nat.reduceEqDiff, Nat.reduceAdd, hb_456], (weak_sel [0, 1, 2] (by decide) rfl (by simp only [go_sem, reduceIte, Nat.reduceLT, Nat.reduceEqDiff, Nat.reduceAdd]) (by simp only [go_sem, reduceIte, Nat.reduceLT, Nat.reduceEqDiff, Nat.reduceAdd]))⟩
    refine run_condL (b := t_454) rfl (by decide) (fun hb => ?_) (fun hb => ?_)
    · replace h := ite_t h hb
      replace h := lt1_some h; obtain ⟨l_457, hz_458, h⟩ := h
      refine run_drawS hE mixed [[], [], [1], [0], [0, 1, 2, 3]] (by kernel_rfl) [(4, 1), (6, 2)] [] [4, 5, 6] (by kernel_rfl) (fr' := [(4, .ref 1 0), (5, .bs true 3 (l_457.length) 0 (l_457.length)), (6, .ref 2 0)]) (σ' := [.box [i64 p_441.Epoch, i64 p_441.Other, i64 p_441.First, .sl false (L (cSl cU8) p_441.Queue), i64 p_441.Next, .sl false (L cApi_Packet p_441.Early), i64 p_441.SentAt] false, .box [i64 p_441.Epoch, i64 p_441.Other, i64 p_441.First, .sl false (L (cSl cU8) p_441.Queue), i64 p_441.Next, .sl false (L cApi_Packet p_441.Early), i64 p_441.SentAt] false, .box [i64 p_441.Epoch, i64 p_441.Other, i64 ((-1)), i64 p_441.Next, .sl true (L cU8 ([]))] false, .buf 5 (L cApi_Packet l_457) false]) ⟨rfl, rfl, trivial⟩ ⟨_, _, orcs_nil, (by simp only [XOk]), ?_⟩ ?_
      · subst hz_458; simp only [go_sem, reduceIte, Nat.reduceLT, Nat.reduceEqDiff, Nat.reduceAdd, Nat.reduceBEq, Nat.reduceMul, Nat.reduceSub, Nat.reduceGT, Nat.reducePow, Nat.reduceLeDiff, Int.reduceToNat]
      refine run_ret ?_
      refine thenK_r ?_
      obtain rfl := Option.some.inj h
      refine wkP_of (Weak.refl _ _) ?_
      refine ret_ok (.inr rfl) ?_
      simp only [go_sem, reduceIte, Nat.reduceLT, Nat.reduceEqDiff, Nat.reduceAdd]
    · replace h := ite_f h hb
      refine run_skip ?_
      refine thenK_n ?_
      refine run_textE hE [1, 2, 4, 6, 8] (fr' := [(1, i64 now_442), (2, .ref 0 0), (4, .ref 1 0), (6, .ref 2 0), (8, .sl true (L cApi_Packet ([])))]) (σ' := [.box [i64 p_441.Epoch, i64 p_441.Other, i64 p_441.First, .sl false (L (cSl cU8) p_441.Queue), i64 p_441.Next, .sl false (L cApi_Packet p_441.Early), i64 p_441.SentAt] false, .box [i64 0, i64 0, i64 0, .sl true (L (cSl cU8) ([])), i64 0, .sl true (L cApi_Packet ([])), i64 0] false, .box [i64 p_441.Epoch, i64 p_441.Other, i64 ((-1)), i64 p_441.Next, .sl true (L cU8 ([]))] false]) ⟨_, orcs_nil, ?_⟩ ?_
      · simp only [go_sem, reduceIte, Nat.reduceLT, Nat.reduceEqDiff, Nat.reduceAdd]
      replace h := bind_some1 h; obtain ⟨j_495, hA_496, hj_497⟩ := h
      refine run_join (fun (v : List Api_Packet) => (⟨asFr 86 [(1, i64 now_442), (2, .ref 0 0), (4, .ref 1 0), (8, .bs false 2 (v.length) 0 (v.length))], [.box [i64 p_441.Epoch, i64 p_441.Other, i64 p_441.First, .sl false (L (cSl cU8) p_441.Queue), i64 p_441.Next, .sl false (L cApi_Packet p_441.Early), i64 p_441.SentAt] false, .box [i64 0, i64 0, i64 0, .sl true (L (cSl cU8) ([])), i64 0, .sl true (L cApi_Packet ([])), i64 0] false, .buf 5 (L cApi_Packet v) false]⟩ : St)) (fun v => v = j_495) ?_ ?_
      · have h := hA_496; clear hA_496
        replace h := chk_some h; obtain ⟨hc_498, h⟩ := h
        replace h := lt1_some h; obtain ⟨t_499, hz_501, h⟩ := h
        replace h := lt1_some h; obtain ⟨t_500, hz_502, h⟩ := h
        refine run_textE hE [1, 2, 4, 6, 8, 61, 62, 63] (fr' := [(1, i64 now_442), (2, .ref 0 0), (4, .ref 1 0), (6, .ref 2 0), (8, .sl true (L cApi_Packet ([]))), (61, .sl false (L (cSl cU8) t_499)), (62, i64 t_500), (63, i64 0)]) (σ' := [.box [i64 p_441.Epoch, i64 p_441.Other, i64 p_441.First, .sl false (L (cSl cU8) p_441.Queue), i64 p_441.Next, .sl false (L cApi_Packet p_441.Early), i64 p_441.SentAt] false, .box [i64 0, i64 0, i64 0, .sl true (L (cSl cU8) ([])), i64 0, .sl true (L cApi_Packet ([])), i64 0] false, .box [i64 p_441.Epoch, i64 p_441.Other, i64 ((-1)), i64 p_441.Next, .sl true (L cU8 ([]))] false]) ⟨_, orcs_nil, ?_⟩ ?_
        · subst hz_502; subst hz_501; simp only [go_sem, reduceIte, Nat.reduceLT, Nat.reduceEqDiff, Nat.reduceAdd, Int.reduceToNat, hc_498]
        refine run_block ?_
        replace h := bind_some1 h; obtain ⟨x_520, hx_521, hj_522⟩ := h
        refine run_loopO hx_521 (fun (v : Int × List Api_Packet) => (⟨asFr 86 [(1, i64 now_442), (2, .ref 0 0), (4, .ref 1 0), (6, .ref 2 0), (8, .bs false 3 (v.2.length) 0 (v.2.length)), (61, .sl false (L (cSl cU8) t_499)), (62, i64 t_500), (63, i64 v.1)], [.box [i64 p_441.Epoch, i64 p_441.Other, i64 p_441.First, .sl false (L (cSl cU8) p_441.Queue), i64 p_441.Next, .sl false (L cApi_Packet p_441.Early), i64 p_441.SentAt] false, .box [i64 0, i64 0, i64 0, .sl true (L (cSl cU8) ([])), i64 0, .sl true (L cApi_Packet ([])), i64 0] false, .box [i64 p_441.Epoch, i64 p_441.Other, i64 ((-1)), i64 p_441.Next, .sl true (L cU8 ([]))] false, .buf 5 (L cApi_Packet v.2) false]⟩ : St)) ((weak_nil 8 5 rfl).trans (weak_sel [0, 1, 2, 3] (by decide) rfl (by simp only [go_sem, reduceIte, Nat.reduceLT, Nat.reduceEqDiff, Nat.reduceAdd]) (by simp only [go_sem, reduceIte, Nat.reduceLT, Nat.reduceEqDiff, Nat.reduceAdd]))) ?_
        rintro ⟨t_509, l_510⟩ o_523 h hxx_524
        replace h : window_Emit_b1 p_441 t_499 t_500 t_509 l_510 = some o_523 := h
        unfold window_Emit_b1 at h
        refine run_textE hE [1, 2, 4, 6, 8, 61, 62, 63, 64] (fr' := [(1, i64 now_442), (2, .ref 0 0), (4, .ref 1 0), (6, .ref 2 0), (8, .bs false 3 (l_510.length) 0 (l_510.length)), (61, .sl false (L (cSl cU8) t_499)), (62, i64 t_500), (63, i64 t_509), (64, .bool ((decide (t_509 < t_500))))]) (σ' := [.box [i64 p_441.Epoch, i64 p_441.Other, i64 p_441.First, .sl false (L (cSl cU8) p_441.Queue), i64 p_441.Next, .sl false (L cApi_Packet p_441.Early), i64 p_441.SentAt] false, .box [i64 0, i64 0, i64 0, .sl true (L (cSl cU8) ([])), i64 0, .sl true (L cApi_Packet ([])), i64 0] false, .box [i64 p_441.Epoch, i64 p_441.Other, i64 ((-1)), i64 p_441.Next, .sl true (L cU8 ([]))] false, .buf 5 (L cApi_Packet l_510) false]) ⟨_, orcs_nil, ?_⟩ ?_
        · simp only [go_sem, reduceIte, Nat.reduceLT, Nat.reduceEqDiff, Nat.reduceAdd]
        refine run_seq ?_
        refine run_condL (b := (decide (t_509 < t_500))) rfl (by decide) (fun hb => ?_) (fun hb => ?_)
        · replace h := ite_t h hb
          refine run_skip ?_
          refine thenK_n ?_
          refine run_seq ?_
          refine run_block ?_
          replace h := chk_some h; obtain ⟨hc_525, h⟩ := h
          refine run_textE hE [1, 2, 4, 6, 8, 9, 10, 61, 62, 63] (fr' := [(1, i64 now_442), (2, .ref 0 0), (4, .ref 1 0), (6, .ref 2 0), (8, .bs false 3 (l_510.length) 0 (l_510.length)), (9, i64 t_509), (10, .sl false (L cU8 (nth t_499 t_509.toNat))), (61, .sl false (L (cSl cU8) t_499)), (62, i64 t_500), (63, i64 t_509)]) (σ' := [.box [i64 p_441.Epoch, i64 p_441.Other, i64 p_441.First, .sl false (L (cSl cU8) p_441.Queue), i64 p_441.Next, .sl false (L cApi_Packet p_441.Early), i64 p_441.SentAt] false, .box [i64 0, i64 0, i64 0, .sl true (L (cSl cU8) ([])), i64 0, .sl true (L cApi_Packet ([])), i64 0] false, .box [i64 p_441.Epoch, i64 p_441.Other, i64 ((-1)), i64 p_441.Next, .sl true (L cU8 ([]))] false, .buf 5 (L cApi_Packet l_510) false]) ⟨_, orcs_nil, ?_⟩ ?_
          · simp only [go_sem, reduceIte, Nat.reduceLT, Nat.reduceEqDiff, Nat.reduceAdd, Int.reduceToNat, hc_525, hc_525.2, lt_le hc_525.2]
          refine run_textE hE [1, 2, 4, 6, 8, 9, 10, 11, 61, 62, 63] (fr' := [(1, i64 now_442), (2, .ref 0 0), (4, .ref 1 0), (6, .ref 2 0), (8, .bs false 3 (l_510.length) 0 (l_510.length)), (9, i64 t_509), (10, .sl false (L cU8 (nth t_499 t_509.toNat))), (11, .ref 4 0), (61, .sl false (L (cSl cU8) t_499)), (62, i64 t_500), (63, i64 t_509)]) (σ' := [.box [i64 p_441.Epoch, i64 p_441.Other, i64 p_441.First, .sl false (L (cSl cU8) p_441.Queue), i64 p_441.Next, .sl false (L cApi_Packet p_441.Early), i64 p_441.SentAt] false, .box [i64 0, i64 0, i64 0, .sl true (L (cSl cU8) ([])), i64 0, .sl true (L cApi_Packet ([])), i64 0] false, .box [i64 p_441.Epoch, i64 p_441.Other, i64 ((-1)), i64 p_441.Next, .sl true (L cU8 ([]))] false, .buf 5 (L cApi_Packet l_510) false, .box [i64 p_441.Epoch, i64 p_441.Other, i64 ((-1)), i64 p_441.Next, .sl true (L cU8 ([]))] false]) ⟨_, orcs_nil, ?_⟩ ?_
          · simp only [go_sem, reduceIte, Nat.reduceLT, Nat.reduceEqDiff, Nat.reduceAdd, Nat.reduceLeDiff]
          replace h := bind_some1 h; obtain ⟨y_526, hy_527, h⟩ := h
          replace h := lt1_some h; obtain ⟨f_528, hz_529, h⟩ := h
          refine run_drawE hE mixed [[], [0], [], [0, 1, 2], [], [4], [0, 1, 2, 3], [0, 1, 2, 3, 4, 5, 6], [0, 1, 2, 3, 4, 5, 6, 7], [0, 1, 2, 3, 4, 5, 6, 7, 8]] (by kernel_rfl) (by kernel_rfl) [1, 2, 4, 6, 8, 11, 61, 62, 63] (fr' := [(1, i64 now_442), (2, .ref 0 0), (4, .ref 1 0), (6, .ref 2 0), (8, .bs false 3 (l_510.length) 0 (l_510.length)), (11, .ref 4 0), (61, .sl false (L (cSl cU8) t_499)), (62, i64 t_500), (63, i64 t_509)]) (σ' := [.box [i64 p_441.Epoch, i64 p_441.Other, i64 p_441.First, .sl false (L (cSl cU8) p_441.Queue), i64 p_441.Next, .sl false (L cApi_Packet p_441.Early), i64 p_441.SentAt] false, .box [i64 0, i64 0, i64 0, .sl true (L (cSl cU8) ([])), i64 0, .sl true (L cApi_Packet ([])), i64 0] false, .box [i64 p_441.Epoch, i64 p_441.Other, i64 ((-1)), i64 p_441.Next, .sl true (L cU8 ([]))] false, .buf 5 (L cApi_Packet l_510) false, .box [i64 p_441.Epoch, i64 p_441.Other, i64 f_528, i64 p_441.Next, .sl false (L cU8 y_526)] false]) ⟨_, orcs_ok (l := [(74, 39, [.sl false (L cU8 (nth t_499 t_509.toNat))], .sl false (L cU8 y_526))]) ⟨window_own_con  hy_527, trivial⟩, ?_⟩ ?_
          · subst hz_529; simp only [go_sem, reduceIte, Nat.reduceLT, Nat.reduceEqDiff, Nat.reduceAdd, Nat.reduceLeDiff]
          replace h := chk_some h; obtain ⟨hc_530, h⟩ := h
          replace h := lt1_some h; obtain ⟨l_531, hz_532, h⟩ := h
          refine run_textE0 hE (wk_block wk_then) [1, 2, 4, 6, 8, 61, 62, 63] (fr' := [(1, i64 now_442), (2, .ref 0 0), (4, .ref 1 0), (6, .ref 2 0), (8, .bs false 3 (l_531.length) 0 (l_531.length)), (61, .sl false (L (cSl cU8) t_499)), (62, i64 t_500), (63, i64 t_509)]) (σ' := [.box [i64 p_441.Epoch, i64 p_441.Other, i64 p_441.First, .sl false (L (cSl cU8) p_441.Queue), i64 p_441.Next, .sl false (L cApi_Packet p_441.Early), i64 p_441.SentAt] false, .box [i64 0, i64 0, i64 0, .sl true (L (cSl cU8) ([])), i64 0, .sl true (L cApi_Packet ([])), i64 0] false, .box [i64 p_441.Epoch, i64 p_441.Other, i64 ((-1)), i64 p_441.Next, .sl true (L cU8 ([]))] false, .buf 5 (L cApi_Packet l_531) false, .box [i64 p_441.Epoch, i64 p_441.Other, i64 f_528, i64 p_441.Next, .sl false (L cU8 y_526)] false, .buf 5 (L cApi_Packet (([({ Epoch := p_441.Epoch, To := p_441.Other, Seq := f_528, Ack := p_441.Next, Data := y_526 } : Api_Packet)] : List Api_Packet))) false]) ⟨_, orcs_nil, ?_⟩ ?_
          · subst hz_532; simp only [go_sem, reduceIte, Nat.reduceLT, Nat.reduceEqDiff, Nat.reduceAdd, Nat.reduceBEq, Nat.reduceMul, Nat.reduceSub, Nat.reduceGT, Nat.reducePow, Nat.reduceLeDiff, Int.reduceToNat, hc_530]
          refine blockK_n ?_
          refine thenK_n ?_
          refine run_textE0 hE wk_lp [1, 2, 4, 6, 8, 61, 62, 63] (fr' := [(1, i64 now_442), (2, .ref 0 0), (4, .ref 1 0), (6, .ref 2 0), (8, .bs false 3 (l_531.length) 0 (l_531.length)), (61, .sl false (L (cSl cU8) t_499)), (62, i64 t_500), (63, i64 ((w64 (t_509 + 1))))]) (σ' := [.box [i64 p_441.Epoch, i64 p_441.Other, i64 p_441.First, .sl false (L (cSl cU8) p_441.Queue), i64 p_441.Next, .sl false (L cApi_Packet p_441.Early), i64 p_441.SentAt] false, .box [i64 0, i64 0, i64 0, .sl true (L (cSl cU8) ([])), i64 0, .sl true (L cApi_Packet ([])), i64 0] false, .box [i64 p_441.Epoch, i64 p_441.Other, i64 ((-1)), i64 p_441.Next, .sl true (L cU8 ([]))] false, .buf 5 (L cApi_Packet l_531) false, .box [i64 p_441.Epoch, i64 p_441.Other, i64 f_528, i64 p_441.Next, .sl false (L cU8 y_526)] false, .buf 5 (L cApi_Packet (([({ Epoch := p_441.Epoch, To := p_441.Other, Seq := f_528, Ack := p_441.Next, Data := y_526 } : Api_Packet)] : List Api_Packet))) false]) ⟨_, orcs_nil, ?_⟩ ?_
          · simp only [go_sem, reduceIte, Nat.reduceLT, Nat.reduceEqDiff, Nat.reduceAdd]
          obtain rfl := Option.some.inj h
          exact lpK_n (((w64 (t_509 + 1)), l_531)) rfl (weak_sel [0, 1, 2, 3] (by decide) rfl (by simp only [go_sem, reduceIte, Nat.reduceLT, Nat.reduceEqDiff, Nat.reduceAdd]) (by simp only [go_sem, reduceIte, Nat.reduceLT, Nat.reduceEqDiff, Nat.reduceAdd]))
        · replace h := ite_f h hb
          refine run_exit ?_
          refine thenK_x ?_
          obtain rfl := Option.some.inj h
          have ex_x_520 := hxx_524 _ rfl
          subst ex_x_520
          have h := hj_522; clear hj_522
          refine lpK_x ?_
          refine blockK_x ?_
          obtain rfl := Option.some.inj h
          exact joinK_n l_510 rfl ((weak_sel (l' := [(1, i64 now_442), (2, .ref 0 0), (4, .ref 1 0), (8, .bs false 2 (l_510.length) 0 (l_510.length))]) (σ' := [.box [i64 p_441.Epoch, i64 p_441.Other, i64 p_441.First, .sl false (L (cSl cU8) p_441.Queue), i64 p_441.Next, .sl false (L cApi_Packet p_441.Early), i64 p_441.SentAt] false, .box [i64 0, i64 0, i64 0, .sl true (L (cSl cU8) ([])), i64 0, .sl true (L cApi_Packet ([])), i64 0] false, .buf 5 (L cApi_Packet l_510) false]) [0, 1, 3] (by decide) rfl (by simp only [go_sem, reduceIte, Nat.reduceLT, Nat.reduceEqDiff, Nat.reduceAdd]) (by simp only [go_sem, reduceIte, Nat.reduceLT, Nat.reduceEqDiff, Nat.reduceAdd])).trans (weak_sel [0, 1, 2] (by decide) rfl (by simp only [go_sem, reduceIte, Nat.reduceLT, Nat.reduceEqDiff, Nat.reduceAdd]) (by simp only [go_sem, reduceIte, Nat.reduceLT, Nat.reduceEqDiff, Nat.reduceAdd])))
      rintro l_494 rfl
      have h := hj_497; clear hj_497
      refine run_textE hE [2, 4, 8] (fr' := [(2, .ref 0 0), (4, .ref 1 0), (8, .bs false 2 (l_494.length) 0 (l_494.length))]) (σ' := [.box [i64 p_441.Epoch, i64 p_441.Other, i64 p_441.First, .sl false (L (cSl cU8) p_441.Queue), i64 p_441.Next, .sl false (L cApi_Packet p_441.Early), i64 now_442] false, .box [i64 0, i64 0, i64 0, .sl true (L (cSl cU8) ([])), i64 0, .sl true (L cApi_Packet ([])), i64 0] false, .buf 5 (L cApi_Packet l_494) false]) ⟨_, orcs_nil, ?_⟩ ?_
      · simp only [go_sem, reduceIte, Nat.reduceLT, Nat.reduceEqDiff, Nat.reduceAdd, Nat.reduceLeDiff]
      refine run_textE hE [4, 5] (fr' := [(4, .ref 1 0), (5, .bs false 2 (l_494.length) 0 (l_494.length))]) (σ' := [.box [i64 p_441.Epoch, i64 p_441.Other, i64 p_441.First, .sl false (L (cSl cU8) p_441.Queue), i64 p_441.Next, .sl false (L cApi_Packet p_441.Early), i64 now_442] false, .box [i64 p_441.Epoch, i64 p_441.Other, i64 p_441.First, .sl false (L (cSl cU8) p_441.Queue), i64 p_441.Next, .sl false (L cApi_Packet p_441.Early), i64 now_442] false, .buf 5 (L cApi_Packet l_494) false]) ⟨_, orcs_nil, ?_⟩ ?_
      · simp only [go_sem, reduceIte, Nat.reduceLT, Nat.reduceEqDiff, Nat.reduceAdd, Nat.reduceLeDiff]
      refine run_ret ?_
      obtain rfl := Option.some.inj h
      refine wkP_of (Weak.refl _ _) ?_
      refine ret_ok (.inr rfl) ?_
      simp only [go_sem, reduceIte, Nat.reduceLT, Nat.reduceEqDiff, Nat.reduceAdd]

end Go.Proofs.Ytomjphpnpcgacaa
/-
  The functions compute just that.
-/
namespace Go.Proofs.Ytomjphpnpcgacaa
open Go.Rv
set_option linter.unusedVariables false
set_option linter.unusedSimpArgs false
set_option maxRecDepth 20000
set_option maxHeartbeats 4000000

theorem r12_Emit_con {p_533 : Api_Peer} {now_534 : Int} {r : Api_Peer × List Api_Packet} (h : r12_Emit p_533 now_534 = some r) : Con B 17 [.agg [i64 p_533.Epoch, i64 p_533.Other, i64 p_533.First, .sl false (L (cSl cU8) p_533.Queue), i64 p_533.Next, .sl false (L cApi_Packet p_533.Early), i64 p_533.SentAt], i64 now_534] [] (fun r' σ' => r' = .tup [.agg [i64 r.1.Epoch, i64 r.1.Other, i64 r.1.First, .sl false (L (cSl cU8) r.1.Queue), i64 r.1.Next, .sl false (L cApi_Packet r.1.Early), i64 r.1.SentAt], .sl false (L cApi_Packet r.2)] ∧ σ' = []) := by
  refine con_walk (N := 82) (rs := [.cell 4 25, .tmp 5]) ok Try.func17 rfl (by decide +kernel) rfl rfl (Nat.le_of_ble_eq_true rfl) (fun F => ?_)
  have hE := ok.env F
  unfold r12_Emit at h
  show Run (B.env F) 0 _ ⟨asFr 82 [(0, .agg [i64 p_533.Epoch, i64 p_533.Other, i64 p_533.First, .sl false (L (cSl cU8) p_533.Queue), i64 p_533.Next, .sl false (L cApi_Packet p_533.Early), i64 p_533.SentAt]), (1, i64 now_534)], []⟩ _
  refine run_wkP ?_
  refine run_textE hE [1, 2, 4] (fr' := [(1, i64 now_534), (2, .ref 0 0), (4, .ref 1 0)]) (σ' := [.box [i64 p_533.Epoch, i64 p_533.Other, i64 p_533.First, .sl false (L (cSl cU8) p_533.Queue), i64 p_533.Next, .sl false (L cApi_Packet p_533.Early), i64 p_533.SentAt] false, .box [i64 0, i64 0, i64 0, .sl true (L (cSl cU8) ([])), i64 0, .sl true (L cApi_Packet ([])), i64 0] false]) ⟨_, orcs_nil, ?_⟩ ?_
  · simp only [go_sem, reduceIte, Nat.reduceLT, Nat.reduceEqDiff, Nat.reduceAdd]
  refine run_seq ?_
  replace h := bind_some1 h; obtain ⟨t_537, hv_538, h⟩ := h
  refine run_textW hE [1, 2, 4, 15] (fr' := [(1, i64 now_534), (2, .ref 0 0), (4, .ref 1 0), (15, .bool t_537)]) (σ' := [.box [i64 p_533.Epoch, i64 p_533.Other, i64 p_533.First, .sl false (L (cSl cU8) p_533.Queue), i64 p_533.Next, .sl false (L cApi_Packet p_533.Early), i64 p_533.SentAt] false, .box [i64 0, i64 0, i64 0, .sl true (L (cSl cU8) ([])), i64 0, .sl true (L cApi_Packet ([])), i64 0] false]) ?_ ?_
  · replace hv_538 := bind_some1 hv_538; obtain ⟨y_535, hy_539, hv_538⟩ := hv_538
    rcases Bool.eq_false_or_eq_true ((!y_535)) with hb_540 | hb_540
    · replace hv_538 := ite_t hv_538 hb_540
      have e_hv_538 := Option.some.inj hv_538; subst e_hv_538
      exact ⟨_, [(1, i64 now_534), (2, .ref 0 0), (4, .ref 1 0), (15, .bool true)], [.box [i64 p_533.Epoch, i64 p_533.Other, i64 p_533.First, .sl false (L (cSl cU8) p_533.Queue), i64 p_533.Next, .sl false (L cApi_Packet p_533.Early), i64 p_533.SentAt] false, .box [i64 0, i64 0, i64 0, .sl true (L (cSl cU8) ([])), i64 0, .sl true (L cApi_Packet ([])), i64 0] false], orcs_ok (l := [(9, 40, [.agg [i64 p_533.Epoch, i64 p_533.Other, i64 p_533.First, .sl false (L (cSl cU8) p_533.Queue), i64 p_533.Next, .sl false (L cApi_Packet p_533.Early), i64 p_533.SentAt]], .bool y_535)]) ⟨r12_Valid_con  hy_539, trivial⟩, by simp only [go_sem, reduceIte, Nat.reduceLT, Nat.reduceEqDiff, Nat.reduceAdd, hb_540], (weak_sel [0, 1] (by decide) rfl (by simp only [go_sem, reduceIte, Nat.reduceLT, Nat.reduceEqDiff, Nat.reduceAdd]) (by simp only [go_sem, reduceIte, Nat.reduceLT, Nat.reduceEqDiff, Nat.reduceAdd]))⟩
    · replace hv_538 := ite_f hv_538 hb_540
      replace hv_538 := bind_some1 hv_538; obtain ⟨y_536, hy_541, hv_538⟩ := hv_538
      have e_hv_538 := Option.some.inj hv_538; subst e_hv_538
      exact ⟨_, [(1, i64 now_534), (2, .ref 0 0), (4, .ref 1 0), (15, .bool ((!y_536)))], [.box [i64 p_533.Epoch, i64 p_533.Other, i64 p_533.First, .sl false (L (cSl cU8) p_533.Queue), i64 p_533.Next, .sl false (L cApi_Packet p_533.Early), i64 p_533.SentAt] false, .box [i64 0, i64 0, i64 0, .sl true (L (cSl cU8) ([])), i64 0, .sl true (L cApi_Packet ([])), i64 0] false], orcs_ok (l := [(9, 40, [.agg [i64 p_533.Epoch, i64 p_533.Other, i64 p_533.First, .sl false (L (cSl cU8) p_533.Queue), i64 p_533.Next, .sl false (L cApi_Packet p_533.Early), i64 p_533.SentAt]], .bool y_535), (13, 36, [i64 now_534, i64 0, i64 1073741824], .bool y_536)]) ⟨r12_Valid_con  hy_539, r12_within_con  hy_541, trivial⟩, by simp only [go_sem, reduceIte, Nat.reduceLT, Nat.reduceEqDiff, Nat.reduceAdd, hb_540], (weak_sel [0, 1] (by decide) rfl (by simp only [go_sem, reduceIte, Nat.reduceLT, Nat.reduceEqDiff, Nat.reduceAdd]) (by simp only [go_sem, reduceIte, Nat.reduceLT, Nat.reduceEqDiff, Nat.reduceAdd]))⟩
  refine run_condL (b := t_537) rfl (by decide) (fun hb => ?_) (fun hb => ?_)
  · replace h := ite_t h hb
    refine run_textE hE [4, 5] (fr' := [(4, .ref 1 0), (5, .sl true (L cApi_Packet ([])))]) (σ' := [.box [i64 p_533.Epoch, i64 p_533.Other, i64 p_533.First, .sl false (L (cSl cU8) p_533.Queue), i64 p_533.Next, .sl false (L cApi_Packet p_533.Early), i64 p_533.SentAt] false, .box [i64 p_533.Epoch, i64 p_533.Other, i64 p_533.First, .sl false (L (cSl cU8) p_533.Queue), i64 p_533.Next, .sl false (L cApi_Packet p_533.Early), i64 p_533.SentAt] false]) ⟨_, orcs_nil, ?_⟩ ?_
    · simp only [go_sem, reduceIte, Nat.reduceLT, Nat.reduceEqDiff, Nat.reduceAdd, Nat.reduceLeDiff]
    refine run_ret ?_
    refine thenK_r ?_
    obtain rfl := Option.some.inj h
    refine wkP_of (Weak.refl _ _) ?_
    refine ret_ok (.inr rfl) ?_
    simp only [go_sem, reduceIte, Nat.reduceLT, Nat.reduceEqDiff, Nat.reduceAdd]
  · replace h := ite_f h hb
    refine run_skip ?_
    refine thenK_n ?_
    refine run_seq ?_
    replace h := bind_some1 h; obtain ⟨t_542, hv_543, h⟩ := h
    refine run_textW hE [1, 2, 4, 38] (fr' := [(1, i64 now_534), (2, .ref 0 0), (4, .ref 1 0), (38, .bool t_542)]) (σ' := [.box [i64 p_533.Epoch, i64 p_533.Other, i64 p_533.First, .sl false (L (cSl cU8) p_533.Queue), i64 p_533.Next, .sl false (L cApi_Packet p_533.Early), i64 p_533.SentAt] false, .box [i64 0, i64 0, i64 0, .sl true (L (cSl cU8) ([])), i64 0, .sl true (L cApi_Packet ([])), i64 0] false]) ?_ ?_
    · rcases Bool.eq_false_or_eq_true (((p_533.Queue.length : Int) == 0)) with hb_544 | hb_544
      · replace hv_543 := ite_t hv_543 hb_544
        have e_hv_543 := Option.some.inj hv_543; subst e_hv_543
        exact ⟨_, [(1, i64 now_534), (2, .ref 0 0), (4, .ref 1 0), (38, .bool true)], [.box [i64 p_533.Epoch, i64 p_533.Other, i64 p_533.First, .sl false (L (cSl cU8) p_533.Queue), i64 p_533.Next, .sl false (L cApi_Packet p_533.Early), i64 p_533.SentAt] false, .box [i64 0, i64 0, i64 0, .sl true (L (cSl cU8) ([])), i64 0, .sl true (L cApi_Packet ([])), i64 0] false], orcs_nil, by simp only [go_sem, reduceIte, Nat.reduceLT, Nat.reduceEqDiff, Nat.reduceAdd, hb_544], (weak_sel [0, 1] (by decide) rfl (by simp only [go_sem, reduceIte, Nat.reduceLT, Nat.reduceEqDiff, Nat.reduceAdd]) (by simp only [go_sem, reduceIte, Nat.reduceLT, Nat.reduceEqDiff, Nat.reduceAdd]))⟩
      · replace hv_543 := ite_f hv_543 hb_544
        rcases Bool.eq_false_or_eq_true ((decide (p_533.SentAt ≥ 0))) with hb_545 | hb_545
        · replace hv_543 := ite_t hv_543 hb_545
          rcases Bool.eq_false_or_eq_true ((decide (p_533.SentAt ≤ now_534))) with hb_546 | hb_546
          · replace hv_543 := ite_t hv_543 hb_546
            have e_hv_543 := Option.some.inj hv_543; subst e_hv_543
            exact ⟨_, [(1, i64 now_534), (2, .ref 0 0), (4, .ref 1 0), (38, .bool ((decide (p_533.SentAt > (w64 (now_534 - 10))))))], [.box [i64 p_533.Epoch, i64 p_533.Other, i64 p_533.First, .sl false (L (cSl cU8) p_533.Queue), i64 p_533.Next, .sl false (L cApi_Packet p_533.Early), i64 p_533.SentAt] false, .box [i64 0, i64 0, i64 0, .sl true (L (cSl cU8) ([])), i64 0, .sl true (L cApi_Packet ([])), i64 0] false], orcs_nil, by simp only [go_sem, reduceIte, Nat.reduceLT, Nat.reduceEqDiff, Nat.reduceAdd, hb_544, hb_545, hb_546], (weak_sel [0, 1] (by decide) rfl (by simp only [go_sem, reduceIte, Nat.reduceLT, Nat.reduceEqDiff, Nat.reduceAdd]) (by simp only [go_sem, reduceIte, Nat.reduceLT, Nat.reduceEqDiff, Nat.reduceAdd]))⟩
          · replace hv_543 := ite_f hv_543 hb_546
            have e_hv_543 := Option.some.inj hv_543; subst e_hv_543
            exact ⟨_, [(1, i64 now_534), (2, .ref 0 0), (4, .ref 1 0), (38, .bool false)], [.box [i64 p_533.Epoch, i64 p_533.Other, i64 p_533.First, .sl false (L (cSl cU8) p_533.Queue), i64 p_533.Next, .sl false (L cApi_Packet p_533.Early), i64 p_533.SentAt] false, .box [i64 0, i64 0, i64 0, .sl true (L (cSl cU8) ([])), i64 0, .sl true (L cApi_Packet ([])), i64 0] false], orcs_nil, by simp only [go_sem, reduceIte, Nat.reduceLT, Nat.reduceEqDiff, Nat.reduceAdd, hb_544, hb_545, hb_546], (weak_sel [0, 1] (by decide) rfl (by simp only [go_sem, reduceIte, Nat.reduceLT, Nat.reduceEqDiff, Nat.reduceAdd]) (by simp only [go_sem, reduceIte, Nat.reduceLT, Nat.reduceEqDiff, Nat.reduceAdd]))⟩
        · replace hv_543 := ite_f hv_543 hb_545
          have e_hv_543 := Option.some.inj hv_543; subst e_hv_543
          exact ⟨_, [(1, i64 now_534), (2, .ref 0 0), (4, .ref 1 0), (38, .bool false)], [.box [i64 p_533.Epoch, i64 p_533.Other, i64 p_533.First, .sl false (L (cSl cU8) p_533.Queue), i64 p_533.Next, .sl false (L cApi_Packet p_533.Early), i64 p_533.SentAt] false, .box [i64 0, i64 0, i64 0, .sl true (L (cSl cU8) ([])), i64 0, .sl true (L cApi_Packet ([])), i64 0] false], orcs_nil, by simp only [go_sem, reduceIte, Nat.reduceLT, Nat.reduceEqDiff, Nat.reduceAdd, hb_544, hb_545], (weak_sel [0, 1] (by decide) rfl (by simp only [go_sem, reduceIte, Nat.reduceLT, Nat.reduceEqDiff, Nat.reduceAdd]) (by simp only [go_sem, reduceIte, Nat.reduceLT, Nat.reduceEqDiff, Nat.reduceAdd]))⟩
    refine run_condL (b := t_542) rfl (by decide) (fun hb => ?_) (fun hb => ?_)
    · replace h := ite_t h hb
      replace h := lt1_some h; obtain ⟨l_547, hz_548, h⟩ := h
      refine run_drawS hE mixed [[], [], [1], [], [3], [], [5], [1, 2, 3, 4, 5, 6], [1, 2, 3, 4, 5, 6, 7], [0], [0, 1, 2, 3, 4, 5, 6, 7, 8, 9]] (by kernel_rfl) [(2, 0), (4, 1), (40, 0), (42, 0), (44, 0)] [] [2, 4, 5, 40, 42, 44] (by kernel_rfl) (fr' := [(2, .ref 0 0), (4, .ref 1 0), (5, .bs true 2 (l_547.length) 0 (l_547.length)), (40, .ref 0 0), (42, .ref 0 1), (44, .ref 0 4)]) (σ' := [.box [i64 p_533.Epoch, i64 p_533.Other, i64 p_533.First, .sl false (L (cSl cU8) p_533.Queue), i64 p_533.Next, .sl false (L cApi_Packet p_533.Early), i64 p_533.SentAt] false, .box [i64 p_533.Epoch, i64 p_533.Other, i64 p_533.First, .sl false (L (cSl cU8) p_533.Queue), i64 p_533.Next, .sl false (L cApi_Packet p_533.Early), i64 p_533.SentAt] false, .buf 5 (L cApi_Packet l_547) false]) ⟨rfl, rfl, rfl, rfl, rfl, trivial⟩ ⟨_, _, orcs_nil, (by simp only [XOk]), ?_⟩ ?_
      · subst hz_548; simp only [go_sem, reduceIte, Nat.reduceLT, Nat.reduceEqDiff, Nat.reduceAdd, Nat.reduceBEq, Nat.reduceMul, Nat.reduceSub, Nat.reduceGT, Nat.reducePow, Nat.reduceLeDiff, Int.reduceToNat]
      refine run_ret ?_
      refine thenK_r ?_
      obtain rfl := Option.some.inj h
      refine wkP_of (Weak.refl _ _) ?_
      refine ret_ok (.inr rfl) ?_
      simp only [go_sem, reduceIte, Nat.reduceLT, Nat.reduceEqDiff, Nat.reduceAdd]
    · replace h := ite_f h hb
      refine run_skip ?_
      refine thenK_n ?_
      refine run_textE hE [1, 2, 4, 6] (fr' := [(1, i64 now_534), (2, .ref 0 0), (4, .ref 1 0), (6, .sl true (L cApi_Packet ([])))]) (σ' := [.box [i64 p_533.Epoch, i64 p_533.Other, i64 p_533.First, .sl false (L (cSl cU8) p_533.Queue), i64 p_533.Next, .sl false (L cApi_Packet p_533.Early), i64 p_533.SentAt] false, .box [i64 0, i64 0, i64 0, .sl true (L (cSl cU8) ([])), i64 0, .sl true (L cApi_Packet ([])), i64 0] false]) ⟨_, orcs_nil, ?_⟩ ?_
      · simp only [go_sem, reduceIte, Nat.reduceLT, Nat.reduceEqDiff, Nat.reduceAdd]
      replace h := bind_some1 h; obtain ⟨j_579, hA_580, hj_581⟩ := h
      refine run_join (fun (v : List Api_Packet) => (⟨asFr 82 [(1, i64 now_534), (2, .ref 0 0), (4, .ref 1 0), (6, .bs false 2 (v.length) 0 (v.length))], [.box [i64 p_533.Epoch, i64 p_533.Other, i64 p_533.First, .sl false (L (cSl cU8) p_533.Queue), i64 p_533.Next, .sl false (L cApi_Packet p_533.Early), i64 p_533.SentAt] false, .box [i64 0, i64 0, i64 0, .sl true (L (cSl cU8) ([])), i64 0, .sl true (L cApi_Packet ([])), i64 0] false, .buf 5 (L cApi_Packet v) false]⟩ : St)) (fun v => v = j_579) ?_ ?_
      · have h := hA_580; clear hA_580
        refine run_textE hE [1, 2, 4, 6, 7] (fr' := [(1, i64 now_534), (2, .ref 0 0), (4, .ref 1 0), (6, .sl true (L cApi_Packet ([]))), (7, i64 0)]) (σ' := [.box [i64 p_533.Epoch, i64 p_533.Other, i64 p_533.First, .sl false (L (cSl cU8) p_533.Queue), i64 p_533.Next, .sl false (L cApi_Packet p_533.Early), i64 p_533.SentAt] false, .box [i64 0, i64 0, i64 0, .sl true (L (cSl cU8) ([])), i64 0, .sl true (L cApi_Packet ([])), i64 0] false]) ⟨_, orcs_nil, ?_⟩ ?_
        · simp only [go_sem, reduceIte, Nat.reduceLT, Nat.reduceEqDiff, Nat.reduceAdd]
        refine run_block ?_
        replace h := bind_some1 h; obtain ⟨x_599, hx_600, hj_601⟩ := h
        refine run_loopO hx_600 (fun (v : Int × List Api_Packet) => (⟨asFr 82 [(1, i64 now_534), (2, .ref 0 0), (4, .ref 1 0), (6, .bs false 2 (v.2.length) 0 (v.2.length)), (7, i64 v.1)], [.box [i64 p_533.Epoch, i64 p_533.Other, i64 p_533.First, .sl false (L (cSl cU8) p_533.Queue), i64 p_533.Next, .sl false (L cApi_Packet p_533.Early), i64 p_533.SentAt] false, .box [i64 0, i64 0, i64 0, .sl true (L (cSl cU8) ([])), i64 0, .sl true (L cApi_Packet ([])), i64 0] false, .buf 5 (L cApi_Packet v.2) false]⟩ : St)) ((weak_nil 6 5 rfl).trans (weak_sel [0, 1, 2] (by decide) rfl (by simp only [go_sem, reduceIte, Nat.reduceLT, Nat.reduceEqDiff, Nat.reduceAdd]) (by simp only [go_sem, reduceIte, Nat.reduceLT, Nat.reduceEqDiff, Nat.reduceAdd]))) ?_
        rintro ⟨i_589, l_590⟩ o_602 h hxx_603
        replace h : r12_Emit_b1 p_533 i_589 l_590 = some o_602 := h
        unfold r12_Emit_b1 at h
        refine run_seq ?_
        replace h := bind_some1 h; obtain ⟨t_604, hv_605, h⟩ := h
        refine run_textW hE [1, 2, 4, 6, 7, 56] (fr' := [(1, i64 now_534), (2, .ref 0 0), (4, .ref 1 0), (6, .bs false 2 (l_590.length) 0 (l_590.length)), (7, i64 i_589), (56, .bool t_604)]) (σ' := [.box [i64 p_533.Epoch, i64 p_533.Other, i64 p_533.First, .sl false (L (cSl cU8) p_533.Queue), i64 p_533.Next, .sl false (L cApi_Packet p_533.Early), i64 p_533.SentAt] false, .box [i64 0, i64 0, i64 0, .sl true (L (cSl cU8) ([])), i64 0, .sl true (L cApi_Packet ([])), i64 0] false, .buf 5 (L cApi_Packet l_590) false]) ?_ ?_
        · rcases Bool.eq_false_or_eq_true ((decide (i_589 < (p_533.Queue.length : Int)))) with hb_606 | hb_606
          · replace hv_605 := ite_t hv_605 hb_606
            have e_hv_605 := Option.some.inj hv_605; subst e_hv_605
            exact ⟨_, [(1, i64 now_534), (2, .ref 0 0), (4, .ref 1 0), (6, .bs false 2 (l_590.length) 0 (l_590.length)), (7, i64 i_589), (56, .bool ((decide (i_589 < 16))))], [.box [i64 p_533.Epoch, i64 p_533.Other, i64 p_533.First, .sl false (L (cSl cU8) p_533.Queue), i64 p_533.Next, .sl false (L cApi_Packet p_533.Early), i64 p_533.SentAt] false, .box [i64 0, i64 0, i64 0, .sl true (L (cSl cU8) ([])), i64 0, .sl true (L cApi_Packet ([])), i64 0] false, .buf 5 (L cApi_Packet l_590) false], orcs_nil, by simp only [go_sem, reduceIte, Nat.reduceLT, Nat.reduceEqDiff, Nat.reduceAdd, hb_606], (weak_sel [0, 1, 2] (by decide) rfl (by simp only [go_sem, reduceIte, Nat.reduceLT, Nat.reduceEqDiff, Nat.reduceAdd]) (by simp only [go_sem, reduceIte, Nat.reduceLT, Nat.reduceEqDiff, Nat.reduceAdd]))⟩
          · replace hv_605 := ite_f hv_605 hb_606
            have e_hv_605 := Option.some.inj hv_605; subst e_hv_605
            exact ⟨_, [(1, i64 now_534), (2, .ref 0 0), (4, .ref 1 0), (6, .bs false 2 (l_590.length) 0 (l_590.length)), (7, i64 i_589), (56, .bool false)], [.box [i64 p_533.Epoch, i64 p_533.Other, i64 p_533.First, .sl false (L (cSl cU8) p_533.Queue), i64 p_533.Next, .sl false (L cApi_Packet p_533.Early), i64 p_533.SentAt] false, .box [i64 0, i64 0, i64 0, .sl true (L (cSl cU8) ([])), i64 0, .sl true (L cApi_Packet ([])), i64 0] false, .buf 5 (L cApi_Packet l_590) false], orcs_nil, by simp only [go_sem, reduceIte, Nat.reduceLT, Nat.reduceEqDiff, Nat.reduceAdd, hb_606], (weak_sel [0, 1, 2] (by decide) rfl (by simp only [go_sem, reduceIte, Nat.reduceLT, Nat.reduceEqDiff, Nat.reduceAdd]) (by simp only [go_sem, reduceIte, Nat.reduceLT, Nat.reduceEqDiff, Nat.reduceAdd]))⟩
        refine run_condL (b := t_604) rfl (by decide) (fun hb => ?_) (fun hb => ?_)
        · replace h := ite_t h hb
          refine run_skip ?_
          refine thenK_n ?_
          refine run_seq ?_
          refine run_block ?_
          replace h := chk_some h; obtain ⟨hc_607, h⟩ := h
          replace h := chk_some h; obtain ⟨hc_608, h⟩ := h
          replace h := lt1_some h; obtain ⟨l_609, hz_610, h⟩ := h
          refine run_drawE0 hE mixed [[], [], [1], [], [3], [], [5], [], [5, 6, 7], [], [9], [], [11], [], [11, 12, 13], [11, 12, 13, 14], [1, 2, 3, 4, 5, 6, 7, 8, 9, 10, 11, 12, 13, 14, 15], [1, 2, 3, 4, 5, 6, 7, 8, 9, 10, 11, 12, 13, 14, 15, 16], [0, 1, 2, 3, 4, 5, 6, 7, 8, 9, 10, 11, 12, 13, 14, 15, 16, 17], [0, 1, 2, 3, 4, 5, 6, 7, 8, 9, 10, 11, 12, 13, 14, 15, 16, 17, 18]] (by kernel_rfl) (by kernel_rfl) (wk_block wk_then) [1, 2, 4, 6, 7] (fr' := [(1, i64 now_534), (2, .ref 0 0), (4, .ref 1 0), (6, .bs false 2 (l_609.length) 0 (l_609.length)), (7, i64 i_589)]) (σ' := [.box [i64 p_533.Epoch, i64 p_533.Other, i64 p_533.First, .sl false (L (cSl cU8) p_533.Queue), i64 p_533.Next, .sl false (L cApi_Packet p_533.Early), i64 p_533.SentAt] false, .box [i64 0, i64 0, i64 0, .sl true (L (cSl cU8) ([])), i64 0, .sl true (L cApi_Packet ([])), i64 0] false, .buf 5 (L cApi_Packet l_609) false, .buf 5 (L cApi_Packet (([({ Epoch := p_533.Epoch, To := p_533.Other, Seq := (w64 (p_533.First + i_589)), Ack := p_533.Next, Data := nth p_533.Queue i_589.toNat } : Api_Packet)] : List Api_Packet))) false]) ⟨_, orcs_nil, ?_⟩ ?_
          · subst hz_610; simp only [go_sem, reduceIte, Nat.reduceLT, Nat.reduceEqDiff, Nat.reduceAdd, Nat.reduceBEq, Nat.reduceMul, Nat.reduceSub, Nat.reduceGT, Nat.reducePow, Nat.reduceLeDiff, Int.reduceToNat, hc_607, hc_607.2, lt_le hc_607.2, hc_608]
          refine blockK_n ?_
          refine thenK_n ?_
          refine run_textE0 hE wk_lp [1, 2, 4, 6, 7] (fr' := [(1, i64 now_534), (2, .ref 0 0), (4, .ref 1 0), (6, .bs false 2 (l_609.length) 0 (l_609.length)), (7, i64 ((w64 (i_589 + 1))))]) (σ' := [.box [i64 p_533.Epoch, i64 p_533.Other, i64 p_533.First, .sl false (L (cSl cU8) p_533.Queue), i64 p_533.Next, .sl false (L cApi_Packet p_533.Early), i64 p_533.SentAt] false, .box [i64 0, i64 0, i64 0, .sl true (L (cSl cU8) ([])), i64 0, .sl true (L cApi_Packet ([])), i64 0] false, .buf 5 (L cApi_Packet l_609) false, .buf 5 (L cApi_Packet (([({ Epoch := p_533.Epoch, To := p_533.Other, Seq := (w64 (p_533.First + i_589)), Ack := p_533.Next, Data := nth p_533.Queue i_589.toNat } : Api_Packet)] : List Api_Packet))) false]) ⟨_, orcs_nil, ?_⟩ ?_
          · simp only [go_sem, reduceIte, Nat.reduceLT, Nat.reduceEqDiff, Nat.reduceAdd]
          obtain rfl := Option.some.inj h
          exact lpK_n (((w64 (i_589 + 1)), l_609)) rfl (weak_sel [0, 1, 2] (by decide) rfl (by simp only [go_sem, reduceIte, Nat.reduceLT, Nat.reduceEqDiff, Nat.reduceAdd]) (by simp only [go_sem, reduceIte, Nat.reduceLT, Nat.reduceEqDiff, Nat.reduceAdd]))
        · replace h := ite_f h hb
          refine run_exit ?_
          refine thenK_x ?_
          obtain rfl := Option.some.inj h
          have ex_x_599 := hxx_603 _ rfl
          subst ex_x_599
          have h := hj_601; clear hj_601
          refine lpK_x ?_
          refine blockK_x ?_
          obtain rfl := Option.some.inj h
          exact joinK_n l_590 rfl ((weak_sel (l' := [(1, i64 now_534), (2, .ref 0 0), (4, .ref 1 0), (6, .bs false 2 (l_590.length) 0 (l_590.length))]) (σ' := [.box [i64 p_533.Epoch, i64 p_533.Other, i64 p_533.First, .sl false (L (cSl cU8) p_533.Queue), i64 p_533.Next, .sl false (L cApi_Packet p_533.Early), i64 p_533.SentAt] false, .box [i64 0, i64 0, i64 0, .sl true (L (cSl cU8) ([])), i64 0, .sl true (L cApi_Packet ([])), i64 0] false, .buf 5 (L cApi_Packet l_590) false]) [0, 1, 2] (by decide) rfl (by simp only [go_sem, reduceIte, Nat.reduceLT, Nat.reduceEqDiff, Nat.reduceAdd]) (by simp only [go_sem, reduceIte, Nat.reduceLT, Nat.reduceEqDiff, Nat.reduceAdd])).trans (weak_sel [0, 1, 2] (by decide) rfl (by simp only [go_sem, reduceIte, Nat.reduceLT, Nat.reduceEqDiff, Nat.reduceAdd]) (by simp only [go_sem, reduceIte, Nat.reduceLT, Nat.reduceEqDiff, Nat.reduceAdd])))
      rintro l_578 rfl
      have h := hj_581; clear hj_581
      refine run_textE hE [2, 4, 6] (fr' := [(2, .ref 0 0), (4, .ref 1 0), (6, .bs false 2 (l_578.length) 0 (l_578.length))]) (σ' := [.box [i64 p_533.Epoch, i64 p_533.Other, i64 p_533.First, .sl false (L (cSl cU8) p_533.Queue), i64 p_533.Next, .sl false (L cApi_Packet p_533.Early), i64 now_534] false, .box [i64 0, i64 0, i64 0, .sl true (L (cSl cU8) ([])), i64 0, .sl true (L cApi_Packet ([])), i64 0] false, .buf 5 (L cApi_Packet l_578) false]) ⟨_, orcs_nil, ?_⟩ ?_
      · simp only [go_sem, reduceIte, Nat.reduceLT, Nat.reduceEqDiff, Nat.reduceAdd, Nat.reduceLeDiff]
      refine run_textE hE [4, 5] (fr' := [(4, .ref 1 0), (5, .bs false 2 (l_578.length) 0 (l_578.length))]) (σ' := [.box [i64 p_533.Epoch, i64 p_533.Other, i64 p_533.First, .sl false (L (cSl cU8) p_533.Queue), i64 p_533.Next, .sl false (L cApi_Packet p_533.Early), i64 now_534] false, .box [i64 p_533.Epoch, i64 p_533.Other, i64 p_533.First, .sl false (L (cSl cU8) p_533.Queue), i64 p_533.Next, .sl false (L cApi_Packet p_533.Early), i64 now_534] false, .buf 5 (L cApi_Packet l_578) false]) ⟨_, orcs_nil, ?_⟩ ?_
      · simp only [go_sem, reduceIte, Nat.reduceLT, Nat.reduceEqDiff, Nat.reduceAdd, Nat.reduceLeDiff]
      refine run_ret ?_
      obtain rfl := Option.some.inj h
      refine wkP_of (Weak.refl _ _) ?_
      refine ret_ok (.inr rfl) ?_
      simp only [go_sem, reduceIte, Nat.reduceLT, Nat.reduceEqDiff, Nat.reduceAdd]

end Go.Proofs.Ytomjphpnpcgacaa
/-
  The functions compute just that.
-/
namespace Go.Proofs.Ytomjphpnpcgacaa
open Go.Rv
set_option linter.unusedVariables false
set_option linter.unusedSimpArgs false
set_option maxRecDepth 20000
set_option maxHeartbeats 4000000

theorem r12_SamePacket_con {a_611 : Api_Packet} {b_612 : Api_Packet} {r : Bool} (h : r12_SamePacket a_611 b_612 = some r) : Con B 30 [.agg [i64 a_611.Epoch, i64 a_611.To, i64 a_611.Seq, i64 a_611.Ack, .sl false (L cU8 a_611.Data)], .agg [i64 b_612.Epoch, i64 b_612.To, i64 b_612.Seq, i64 b_612.Ack, .sl false (L cU8 b_612.Data)]] [] (fun r' σ' => r' = .bool r ∧ σ' = []) := by
  refine con_walk (N := 40) (rs := [.tmp 4]) ok Try.func30 rfl (by decide +kernel) rfl rfl (Nat.le_of_ble_eq_true rfl) (fun F => ?_)
  have hE := ok.env F
  unfold r12_SamePacket at h
  show Run (B.env F) 0 _ ⟨asFr 40 [(0, .agg [i64 a_611.Epoch, i64 a_611.To, i64 a_611.Seq, i64 a_611.Ack, .sl false (L cU8 a_611.Data)]), (1, .agg [i64 b_612.Epoch, i64 b_612.To, i64 b_612.Seq, i64 b_612.Ack, .sl false (L cU8 b_612.Data)])], []⟩ _
  refine run_wkP ?_
  refine run_textE hE [2, 3] (fr' := [(2, .ref 0 0), (3, .ref 1 0)]) (σ' := [.box [i64 a_611.Epoch, i64 a_611.To, i64 a_611.Seq, i64 a_611.Ack, .sl false (L cU8 a_611.Data)] false, .box [i64 b_612.Epoch, i64 b_612.To, i64 b_612.Seq, i64 b_612.Ack, .sl false (L cU8 b_612.Data)] false]) ⟨_, orcs_nil, ?_⟩ ?_
  · simp only [go_sem, reduceIte, Nat.reduceLT, Nat.reduceEqDiff, Nat.reduceAdd]
  replace h := bind_some1 h; obtain ⟨t_613, hv_614, h⟩ := h
  refine run_textW hE [4] (fr' := [(4, .bool t_613)]) (σ' := []) ?_ ?_
  · rcases Bool.eq_false_or_eq_true ((a_611.Epoch == b_612.Epoch)) with hb_615 | hb_615
    · replace hv_614 := ite_t hv_614 hb_615
      rcases Bool.eq_false_or_eq_true ((a_611.To == b_612.To)) with hb_616 | hb_616
      · replace hv_614 := ite_t hv_614 hb_616
        rcases Bool.eq_false_or_eq_true ((a_611.Seq == b_612.Seq)) with hb_617 | hb_617
        · replace hv_614 := ite_t hv_614 hb_617
          rcases Bool.eq_false_or_eq_true ((a_611.Ack == b_612.Ack)) with hb_618 | hb_618
          · replace hv_614 := ite_t hv_614 hb_618
            have e_hv_614 := Option.some.inj hv_614; subst e_hv_614
            exact ⟨_, [(4, .bool ((a_611.Data == b_612.Data)))], [.box [i64 a_611.Epoch, i64 a_611.To, i64 a_611.Seq, i64 a_611.Ack, .sl false (L cU8 a_611.Data)] false, .box [i64 b_612.Epoch, i64 b_612.To, i64 b_612.Seq, i64 b_612.Ack, .sl false (L cU8 b_612.Data)] false], orcs_nil, by simp only [go_sem, reduceIte, Nat.reduceLT, Nat.reduceEqDiff, Nat.reduceAdd, hb_615, hb_616, hb_617, hb_618], (weak_sel [] (by decide) rfl (by simp only [go_sem, reduceIte, Nat.reduceLT, Nat.reduceEqDiff, Nat.reduceAdd]) (by simp only [go_sem, reduceIte, Nat.reduceLT, Nat.reduceEqDiff, Nat.reduceAdd]))⟩
          · replace hv_614 := ite_f hv_614 hb_618
            have e_hv_614 := Option.some.inj hv_614; subst e_hv_614
            exact ⟨_, [(4, .bool false)], [.box [i64 a_611.Epoch, i64 a_611.To, i64 a_611.Seq, i64 a_611.Ack, .sl false (L cU8 a_611.Data)] false, .box [i64 b_612.Epoch, i64 b_612.To, i64 b_612.Seq, i64 b_612.Ack, .sl false (L cU8 b_612.Data)] false], orcs_nil, by simp only [go_sem, reduceIte, Nat.reduceLT, Nat.reduceEqDiff, Nat.reduceAdd, hb_615, hb_616, hb_617, hb_618], (weak_sel [] (by decide) rfl (by simp only [go_sem, reduceIte, Nat.reduceLT, Nat.reduceEqDiff, Nat.reduceAdd]) (by simp only [go_sem, reduceIte, Nat.reduceLT, Nat.reduceEqDiff, Nat.reduceAdd]))⟩
        · replace hv_614 := ite_f hv_614 hb_617
          have e_hv_614 := Option.some.inj hv_614; subst e_hv_614
          exact ⟨_, [(4, .bool false)], [.box [i64 a_611.Epoch, i64 a_611.To, i64 a_611.Seq, i64 a_611.Ack, .sl false (L cU8 a_611.Data)] false, .box [i64 b_612.Epoch, i64 b_612.To, i64 b_612.Seq, i64 b_612.Ack, .sl false (L cU8 b_612.Data)] false], orcs_nil, by simp only [go_sem, reduceIte, Nat.reduceLT, Nat.reduceEqDiff, Nat.reduceAdd, hb_615, hb_616, hb_617], (weak_sel [] (by decide) rfl (by simp only [go_sem, reduceIte, Nat.reduceLT, Nat.reduceEqDiff, Nat.reduceAdd]) (by simp only [go_sem, reduceIte, Nat.reduceLT, Nat.reduceEqDiff, Nat.reduceAdd]))⟩
      · replace hv_614 := ite_f hv_614 hb_616
        have e_hv_614 := Option.some.inj hv_614; subst e_hv_614
        exact ⟨_, [(4, .bool false)], [.box [i64 a_611.Epoch, i64 a_611.To, i64 a_611.Seq, i64 a_611.Ack, .sl false (L cU8 a_611.Data)] false, .box [i64 b_612.Epoch, i64 b_612.To, i64 b_612.Seq, i64 b_612.Ack, .sl false (L cU8 b_612.Data)] false], orcs_nil, by simp only [go_sem, reduceIte, Nat.reduceLT, Nat.reduceEqDiff, Nat.reduceAdd, hb_615, hb_616], (weak_sel [] (by decide) rfl (by simp only [go_sem, reduceIte, Nat.reduceLT, Nat.reduceEqDiff, Nat.reduceAdd]) (by simp only [go_sem, reduceIte, Nat.reduceLT, Nat.reduceEqDiff, Nat.reduceAdd]))⟩
    · replace hv_614 := ite_f hv_614 hb_615
      have e_hv_614 := Option.some.inj hv_614; subst e_hv_614
      exact ⟨_, [(4, .bool false)], [.box [i64 a_611.Epoch, i64 a_611.To, i64 a_611.Seq, i64 a_611.Ack, .sl false (L cU8 a_611.Data)] false, .box [i64 b_612.Epoch, i64 b_612.To, i64 b_612.Seq, i64 b_612.Ack, .sl false (L cU8 b_612.Data)] false], orcs_nil, by simp only [go_sem, reduceIte, Nat.reduceLT, Nat.reduceEqDiff, Nat.reduceAdd, hb_615], (weak_sel [] (by decide) rfl (by simp only [go_sem, reduceIte, Nat.reduceLT, Nat.reduceEqDiff, Nat.reduceAdd]) (by simp only [go_sem, reduceIte, Nat.reduceLT, Nat.reduceEqDiff, Nat.reduceAdd]))⟩
  refine run_ret ?_
  obtain rfl := Option.some.inj h
  refine wkP_of (Weak.refl _ _) ?_
  refine ret_ok (.inr rfl) ?_
  simp only [go_sem, reduceIte, Nat.reduceLT, Nat.reduceEqDiff, Nat.reduceAdd]

theorem r12_SamePackets_con {a_619 : List Api_Packet} {b_620 : List Api_Packet} {r : Bool} (h : r12_SamePackets a_619 b_620 = some r) : Con B 19 [.sl false (L cApi_Packet a_619), .sl false (L cApi_Packet b_620)] [] (fun r' σ' => r' = .bool r ∧ σ' = []) := by
  refine con_walk (N := 27) (rs := [.tmp 4]) ok Try.func19 rfl (by decide +kernel) rfl rfl (Nat.le_of_ble_eq_true rfl) (fun F => ?_)
  have hE := ok.env F
  unfold r12_SamePackets at h
  show Run (B.env F) 0 _ ⟨asFr 27 [(0, .sl false (L cApi_Packet a_619)), (1, .sl false (L cApi_Packet b_620))], []⟩ _
  refine run_wkP ?_
  refine run_textE hE [0, 1] (fr' := [(0, .sl false (L cApi_Packet a_619)), (1, .sl false (L cApi_Packet b_620))]) (σ' := []) ⟨_, orcs_nil, ?_⟩ ?_
  · simp only [go_sem, reduceIte, Nat.reduceLT, Nat.reduceEqDiff, Nat.reduceAdd]
  refine run_seq ?_
  refine run_textE hE [0, 1, 10] (fr' := [(0, .sl false (L cApi_Packet a_619)), (1, .sl false (L cApi_Packet b_620)), (10, .bool (((a_619.length : Int) != (b_620.length : Int))))]) (σ' := []) ⟨_, orcs_nil, ?_⟩ ?_
  · simp only [go_sem, reduceIte, Nat.reduceLT, Nat.reduceEqDiff, Nat.reduceAdd]
  refine run_condL (b := ((a_619.length : Int) != (b_620.length : Int))) rfl (by decide) (fun hb => ?_) (fun hb => ?_)
  · replace h := ite_t h hb
    refine run_textE hE [4] (fr' := [(4, .bool false)]) (σ' := []) ⟨_, orcs_nil, ?_⟩ ?_
    · simp only [go_sem, reduceIte, Nat.reduceLT, Nat.reduceEqDiff, Nat.reduceAdd]
    refine run_ret ?_
    refine thenK_r ?_
    obtain rfl := Option.some.inj h
    refine wkP_of (Weak.refl _ _) ?_
    refine ret_ok (.inr rfl) ?_
    simp only [go_sem, reduceIte, Nat.reduceLT, Nat.reduceEqDiff, Nat.reduceAdd]
  · replace h := ite_f h hb
    refine run_skip ?_
    refine thenK_n ?_
    replace h := bind_some1 h; obtain ⟨j_645, hA_646, hj_647⟩ := h
    refine run_join (fun (v : Unit) => (⟨asFr 27 [], []⟩ : St)) (fun v => .inl v = j_645) ?_ ?_
    · have h := hA_646; clear hA_646
      refine run_textE hE [0, 1, 5] (fr' := [(0, .sl false (L cApi_Packet a_619)), (1, .sl false (L cApi_Packet b_620)), (5, i64 0)]) (σ' := []) ⟨_, orcs_nil, ?_⟩ ?_
      · simp only [go_sem, reduceIte, Nat.reduceLT, Nat.reduceEqDiff, Nat.reduceAdd]
      refine run_block ?_
      replace h := bind_some1 h; obtain ⟨x_661, hx_662, hj_663⟩ := h
      refine run_loopO hx_662 (fun (v : Int) => (⟨asFr 27 [(0, .sl false (L cApi_Packet a_619)), (1, .sl false (L cApi_Packet b_620)), (5, i64 v)], []⟩ : St)) (weak_sel [] (by decide) rfl (by simp only [go_sem, reduceIte, Nat.reduceLT, Nat.reduceEqDiff, Nat.reduceAdd]) (by simp only [go_sem, reduceIte, Nat.reduceLT, Nat.reduceEqDiff, Nat.reduceAdd])) ?_
      rintro i_654 o_664 h hxx_665
      replace h : r12_SamePackets_b1 a_619 b_620 i_654 = some o_664 := h
      unfold r12_SamePackets_b1 at h
      refine run_seq ?_
      refine run_textE hE [0, 1, 5, 14] (fr' := [(0, .sl false (L cApi_Packet a_619)), (1, .sl false (L cApi_Packet b_620)), (5, i64 i_654), (14, .bool ((decide (i_654 < (a_619.length : Int)))))]) (σ' := []) ⟨_, orcs_nil, ?_⟩ ?_
      · simp only [go_sem, reduceIte, Nat.reduceLT, Nat.reduceEqDiff, Nat.reduceAdd]
      refine run_condL (b := (decide (i_654 < (a_619.length : Int)))) rfl (by decide) (fun hb => ?_) (fun hb => ?_)
      · replace h := ite_t h hb
        refine run_skip ?_
        refine thenK_n ?_
        refine run_seq ?_
        refine run_block ?_
        replace h := chk_some h; obtain ⟨hc_667, h⟩ := h
        replace h := chk_some h; obtain ⟨hc_668, h⟩ := h
        replace h := bind_some1 h; obtain ⟨y_666, hy_669, h⟩ := h
        refine run_drawE hE mixed [[], [], [0, 1], [0, 1, 2], [], [], [4, 5], [4, 5, 6], [0, 1, 2, 3, 4, 5, 6, 7], [0, 1, 2, 3, 4, 5, 6, 7, 8]] (by kernel_rfl) (by kernel_rfl) [0, 1, 5, 26] (fr' := [(0, .sl false (L cApi_Packet a_619)), (1, .sl false (L cApi_Packet b_620)), (5, i64 i_654), (26, .bool ((!y_666)))]) (σ' := []) ⟨_, orcs_ok (l := [(25, 30, [.agg [i64 ((nth a_619 i_654.toNat).Epoch), i64 ((nth a_619 i_654.toNat).To), i64 ((nth a_619 i_654.toNat).Seq), i64 ((nth a_619 i_654.toNat).Ack), .sl false (L cU8 ((nth a_619 i_654.toNat).Data))], .agg [i64 ((nth b_620 i_654.toNat).Epoch), i64 ((nth b_620 i_654.toNat).To), i64 ((nth b_620 i_654.toNat).Seq), i64 ((nth b_620 i_654.toNat).Ack), .sl false (L cU8 ((nth b_620 i_654.toNat).Data))]], .bool y_666)]) ⟨r12_SamePacket_con  hy_669, trivial⟩, ?_⟩ ?_
        · simp only [go_sem, reduceIte, Nat.reduceLT, Nat.reduceEqDiff, Nat.reduceAdd, Int.reduceToNat, hc_667, hc_667.2, lt_le hc_667.2, hc_668, hc_668.2, lt_le hc_668.2]
        refine run_condL (b := (!y_666)) rfl (by decide) (fun hb => ?_) (fun hb => ?_)
        · replace h := ite_t h hb
          refine run_textE hE [4] (fr' := [(4, .bool false)]) (σ' := []) ⟨_, orcs_nil, ?_⟩ ?_
          · simp only [go_sem, reduceIte, Nat.reduceLT, Nat.reduceEqDiff, Nat.reduceAdd]
          refine run_ret ?_
          refine blockK_r ?_
          refine thenK_r ?_
          refine lpK_r ?_
          replace h := bind_some1 h; obtain ⟨z_671, h, e_z_671⟩ := h
          obtain rfl := Option.some.inj e_z_671
          have ex_z_671 := hxx_665 _ rfl
          subst ex_z_671
          obtain rfl := Option.some.inj hj_663
          refine blockK_r ?_
          refine joinK_r ?_
          replace h := bind_some1 h; obtain ⟨z_670, h, e_z_670⟩ := h
          obtain rfl := Option.some.inj e_z_670
          obtain rfl := Option.some.inj hj_647
          obtain rfl := Option.some.inj h
          refine wkP_of (Weak.refl _ _) ?_
          refine ret_ok (.inr rfl) ?_
          simp only [go_sem, reduceIte, Nat.reduceLT, Nat.reduceEqDiff, Nat.reduceAdd]
        · replace h := ite_f h hb
          refine run_skip ?_
          refine blockK_n ?_
          refine thenK_n ?_
          refine run_textE0 hE wk_lp [0, 1, 5] (fr' := [(0, .sl false (L cApi_Packet a_619)), (1, .sl false (L cApi_Packet b_620)), (5, i64 ((w64 (i_654 + 1))))]) (σ' := []) ⟨_, orcs_nil, ?_⟩ ?_
          · simp only [go_sem, reduceIte, Nat.reduceLT, Nat.reduceEqDiff, Nat.reduceAdd]
          obtain rfl := Option.some.inj h
          exact lpK_n ((w64 (i_654 + 1))) rfl (weak_sel [] (by decide) rfl (by simp only [go_sem, reduceIte, Nat.reduceLT, Nat.reduceEqDiff, Nat.reduceAdd]) (by simp only [go_sem, reduceIte, Nat.reduceLT, Nat.reduceEqDiff, Nat.reduceAdd]))
      · replace h := ite_f h hb
        refine run_exit ?_
        refine thenK_x ?_
        obtain rfl := Option.some.inj h
        have ex_x_661 := hxx_665 _ rfl
        subst ex_x_661
        have h := hj_663; clear hj_663
        refine lpK_x ?_
        refine blockK_x ?_
        obtain rfl := Option.some.inj h
        exact joinK_n (()) rfl ((weak_sel (l' := []) (σ' := []) [] (by decide) rfl (by simp only [go_sem, reduceIte, Nat.reduceLT, Nat.reduceEqDiff, Nat.reduceAdd]) (by simp only [go_sem, reduceIte, Nat.reduceLT, Nat.reduceEqDiff, Nat.reduceAdd])).trans (weak_sel [] (by decide) rfl (by simp only [go_sem, reduceIte, Nat.reduceLT, Nat.reduceEqDiff, Nat.reduceAdd]) (by simp only [go_sem, reduceIte, Nat.reduceLT, Nat.reduceEqDiff, Nat.reduceAdd])))
    rintro ⟨⟩ rfl
    have h := hj_647; clear hj_647
    refine run_textE hE [4] (fr' := [(4, .bool true)]) (σ' := []) ⟨_, orcs_nil, ?_⟩ ?_
    · simp only [go_sem, reduceIte, Nat.reduceLT, Nat.reduceEqDiff, Nat.reduceAdd]
    refine run_ret ?_
    obtain rfl := Option.some.inj h
    refine wkP_of (Weak.refl _ _) ?_
    refine ret_ok (.inr rfl) ?_
    simp only [go_sem, reduceIte, Nat.reduceLT, Nat.reduceEqDiff, Nat.reduceAdd]

theorem r12_SameMessages_con {a_672 : List (List UInt8)} {b_673 : List (List UInt8)} {r : Bool} (h : r12_SameMessages a_672 b_673 = some r) : Con B 22 [.sl false (L (cSl cU8) a_672), .sl false (L (cSl cU8) b_673)] [] (fun r' σ' => r' = .bool r ∧ σ' = []) := by
  refine con_walk (N := 28) (rs := [.tmp 4]) ok Try.func22 rfl (by decide +kernel) rfl rfl (Nat.le_of_ble_eq_true rfl) (fun F => ?_)
  have hE := ok.env F
  unfold r12_SameMessages at h
  show Run (B.env F) 0 _ ⟨asFr 28 [(0, .sl false (L (cSl cU8) a_672)), (1, .sl false (L (cSl cU8) b_673))], []⟩ _
  refine run_wkP ?_
  refine run_textE hE [0, 1] (fr' := [(0, .sl false (L (cSl cU8) a_672)), (1, .sl false (L (cSl cU8) b_673))]) (σ' := []) ⟨_, orcs_nil, ?_⟩ ?_
  · simp only [go_sem, reduceIte, Nat.reduceLT, Nat.reduceEqDiff, Nat.reduceAdd]
  refine run_seq ?_
  refine run_textE hE [0, 1, 10] (fr' := [(0, .sl false (L (cSl cU8) a_672)), (1, .sl false (L (cSl cU8) b_673)), (10, .bool (((a_672.length : Int) != (b_673.length : Int))))]) (σ' := []) ⟨_, orcs_nil, ?_⟩ ?_
  · simp only [go_sem, reduceIte, Nat.reduceLT, Nat.reduceEqDiff, Nat.reduceAdd]
  refine run_condL (b := ((a_672.length : Int) != (b_673.length : Int))) rfl (by decide) (fun hb => ?_) (fun hb => ?_)
  · replace h := ite_t h hb
    refine run_textE hE [4] (fr' := [(4, .bool false)]) (σ' := []) ⟨_, orcs_nil, ?_⟩ ?_
    · simp only [go_sem, reduceIte, Nat.reduceLT, Nat.reduceEqDiff, Nat.reduceAdd]
    refine run_ret ?_
    refine thenK_r ?_
    obtain rfl := Option.some.inj h
    refine wkP_of (Weak.refl _ _) ?_
    refine ret_ok (.inr rfl) ?_
    simp only [go_sem, reduceIte, Nat.reduceLT, Nat.reduceEqDiff, Nat.reduceAdd]
  · replace h := ite_f h hb
    refine run_skip ?_
    refine thenK_n ?_
    replace h := bind_some1 h; obtain ⟨j_692, hA_693, hj_694⟩ := h
    refine run_join (fun (v : Unit) => (⟨asFr 28 [], []⟩ : St)) (fun v => .inl v = j_692) ?_ ?_
    · have h := hA_693; clear hA_693
      refine run_textE hE [0, 1, 5] (fr' := [(0, .sl false (L (cSl cU8) a_672)), (1, .sl false (L (cSl cU8) b_673)), (5, i64 0)]) (σ' := []) ⟨_, orcs_nil, ?_⟩ ?_
      · simp only [go_sem, reduceIte, Nat.reduceLT, Nat.reduceEqDiff, Nat.reduceAdd]
      refine run_block ?_
      replace h := bind_some1 h; obtain ⟨x_704, hx_705, hj_706⟩ := h
      refine run_loopO hx_705 (fun (v : Int) => (⟨asFr 28 [(0, .sl false (L (cSl cU8) a_672)), (1, .sl false (L (cSl cU8) b_673)), (5, i64 v)], []⟩ : St)) (weak_sel [] (by decide) rfl (by simp only [go_sem, reduceIte, Nat.reduceLT, Nat.reduceEqDiff, Nat.reduceAdd]) (by simp only [go_sem, reduceIte, Nat.reduceLT, Nat.reduceEqDiff, Nat.reduceAdd])) ?_
      rintro i_699 o_707 h hxx_708
      replace h : r12_SameMessages_b1 a_672 b_673 i_699 = some o_707 := h
      unfold r12_SameMessages_b1 at h
      refine run_seq ?_
      refine run_textE hE [0, 1, 5, 14] (fr' := [(0, .sl false (L (cSl cU8) a_672)), (1, .sl false (L (cSl cU8) b_673)), (5, i64 i_699), (14, .bool ((decide (i_699 < (a_672.length : Int)))))]) (σ' := []) ⟨_, orcs_nil, ?_⟩ ?_
      · simp only [go_sem, reduceIte, Nat.reduceLT, Nat.reduceEqDiff, Nat.reduceAdd]
      refine run_condL (b := (decide (i_699 < (a_672.length : Int)))) rfl (by decide) (fun hb => ?_) (fun hb => ?_)
      · replace h := ite_t h hb
        refine run_skip ?_
        refine thenK_n ?_
        refine run_seq ?_
        refine run_block ?_
        replace h := chk_some h; obtain ⟨hc_709, h⟩ := h
        replace h := chk_some h; obtain ⟨hc_710, h⟩ := h
        refine run_drawE hE mixed [[], [], [0, 1], [0, 1, 2], [0, 1, 2, 3], [], [], [5, 6], [5, 6, 7], [5, 6, 7, 8], [0, 1, 2, 3, 4, 5, 6, 7, 8, 9]] (by kernel_rfl) (by kernel_rfl) [0, 1, 5, 27] (fr' := [(0, .sl false (L (cSl cU8) a_672)), (1, .sl false (L (cSl cU8) b_673)), (5, i64 i_699), (27, .bool ((!((nth a_672 i_699.toNat) == (nth b_673 i_699.toNat)))))]) (σ' := []) ⟨_, orcs_nil, ?_⟩ ?_
        · simp only [go_sem, reduceIte, Nat.reduceLT, Nat.reduceEqDiff, Nat.reduceAdd, Int.reduceToNat, hc_709, hc_709.2, lt_le hc_709.2, hc_710, hc_710.2, lt_le hc_710.2]
        refine run_condL (b := (!((nth a_672 i_699.toNat) == (nth b_673 i_699.toNat)))) rfl (by decide) (fun hb => ?_) (fun hb => ?_)
        · replace h := ite_t h hb
          refine run_textE hE [4] (fr' := [(4, .bool false)]) (σ' := []) ⟨_, orcs_nil, ?_⟩ ?_
          · simp only [go_sem, reduceIte, Nat.reduceLT, Nat.reduceEqDiff, Nat.reduceAdd]
          refine run_ret ?_
          refine blockK_r ?_
          refine thenK_r ?_
          refine lpK_r ?_
          replace h := bind_some1 h; obtain ⟨z_712, h, e_z_712⟩ := h
          obtain rfl := Option.some.inj e_z_712
          have ex_z_712 := hxx_708 _ rfl
          subst ex_z_712
          obtain rfl := Option.some.inj hj_706
          refine blockK_r ?_
          refine joinK_r ?_
          replace h := bind_some1 h; obtain ⟨z_711, h, e_z_711⟩ := h
          obtain rfl := Option.some.inj e_z_711
          obtain rfl := Option.some.inj hj_694
          obtain rfl := Option.some.inj h
          refine wkP_of (Weak.refl _ _) ?_
          refine ret_ok (.inr rfl) ?_
          simp only [go_sem, reduceIte, Nat.reduceLT, Nat.reduceEqDiff, Nat.reduceAdd]
        · replace h := ite_f h hb
          refine run_skip ?_
          refine blockK_n ?_
          refine thenK_n ?_
          refine run_textE0 hE wk_lp [0, 1, 5] (fr' := [(0, .sl false (L (cSl cU8) a_672)), (1, .sl false (L (cSl cU8) b_673)), (5, i64 ((w64 (i_699 + 1))))]) (σ' := []) ⟨_, orcs_nil, ?_⟩ ?_
          · simp only [go_sem, reduceIte, Nat.reduceLT, Nat.reduceEqDiff, Nat.reduceAdd]
          obtain rfl := Option.some.inj h
          exact lpK_n ((w64 (i_699 + 1))) rfl (weak_sel [] (by decide) rfl (by simp only [go_sem, reduceIte, Nat.reduceLT, Nat.reduceEqDiff, Nat.reduceAdd]) (by simp only [go_sem, reduceIte, Nat.reduceLT, Nat.reduceEqDiff, Nat.reduceAdd]))
      · replace h := ite_f h hb
        refine run_exit ?_
        refine thenK_x ?_
        obtain rfl := Option.some.inj h
        have ex_x_704 := hxx_708 _ rfl
        subst ex_x_704
        have h := hj_706; clear hj_706
        refine lpK_x ?_
        refine blockK_x ?_
        obtain rfl := Option.some.inj h
        exact joinK_n (()) rfl ((weak_sel (l' := []) (σ' := []) [] (by decide) rfl (by simp only [go_sem, reduceIte, Nat.reduceLT, Nat.reduceEqDiff, Nat.reduceAdd]) (by simp only [go_sem, reduceIte, Nat.reduceLT, Nat.reduceEqDiff, Nat.reduceAdd])).trans (weak_sel [] (by decide) rfl (by simp only [go_sem, reduceIte, Nat.reduceLT, Nat.reduceEqDiff, Nat.reduceAdd]) (by simp only [go_sem, reduceIte, Nat.reduceLT, Nat.reduceEqDiff, Nat.reduceAdd])))
    rintro ⟨⟩ rfl
    have h := hj_694; clear hj_694
    refine run_textE hE [4] (fr' := [(4, .bool true)]) (σ' := []) ⟨_, orcs_nil, ?_⟩ ?_
    · simp only [go_sem, reduceIte, Nat.reduceLT, Nat.reduceEqDiff, Nat.reduceAdd]
    refine run_ret ?_
    obtain rfl := Option.some.inj h
    refine wkP_of (Weak.refl _ _) ?_
    refine ret_ok (.inr rfl) ?_
    simp only [go_sem, reduceIte, Nat.reduceLT, Nat.reduceEqDiff, Nat.reduceAdd]

end Go.Proofs.Ytomjphpnpcgacaa
/-
  The functions compute just that.
-/
namespace Go.Proofs.Ytomjphpnpcgacaa
open Go.Rv
set_option linter.unusedVariables false
set_option linter.unusedSimpArgs false
set_option maxRecDepth 20000
set_option maxHeartbeats 4000000

theorem r12_Same_con {a_713 : Api_Peer} {b_714 : Api_Peer} {r : Bool} (h : r12_Same a_713 b_714 = some r) : Con B 18 [.agg [i64 a_713.Epoch, i64 a_713.Other, i64 a_713.First, .sl false (L (cSl cU8) a_713.Queue), i64 a_713.Next, .sl false (L cApi_Packet a_713.Early), i64 a_713.SentAt], .agg [i64 b_714.Epoch, i64 b_714.Other, i64 b_714.First, .sl false (L (cSl cU8) b_714.Queue), i64 b_714.Next, .sl false (L cApi_Packet b_714.Early), i64 b_714.SentAt]] [] (fun r' σ' => r' = .bool r ∧ σ' = []) := by
  refine con_walk (N := 52) (rs := [.tmp 4]) ok Try.func18 rfl (by decide +kernel) rfl rfl (Nat.le_of_ble_eq_true rfl) (fun F => ?_)
  have hE := ok.env F
  unfold r12_Same at h
  show Run (B.env F) 0 _ ⟨asFr 52 [(0, .agg [i64 a_713.Epoch, i64 a_713.Other, i64 a_713.First, .sl false (L (cSl cU8) a_713.Queue), i64 a_713.Next, .sl false (L cApi_Packet a_713.Early), i64 a_713.SentAt]), (1, .agg [i64 b_714.Epoch, i64 b_714.Other, i64 b_714.First, .sl false (L (cSl cU8) b_714.Queue), i64 b_714.Next, .sl false (L cApi_Packet b_714.Early), i64 b_714.SentAt])], []⟩ _
  refine run_wkP ?_
  refine run_textE hE [2, 3] (fr' := [(2, .ref 0 0), (3, .ref 1 0)]) (σ' := [.box [i64 a_713.Epoch, i64 a_713.Other, i64 a_713.First, .sl false (L (cSl cU8) a_713.Queue), i64 a_713.Next, .sl false (L cApi_Packet a_713.Early), i64 a_713.SentAt] false, .box [i64 b_714.Epoch, i64 b_714.Other, i64 b_714.First, .sl false (L (cSl cU8) b_714.Queue), i64 b_714.Next, .sl false (L cApi_Packet b_714.Early), i64 b_714.SentAt] false]) ⟨_, orcs_nil, ?_⟩ ?_
  · simp only [go_sem, reduceIte, Nat.reduceLT, Nat.reduceEqDiff, Nat.reduceAdd]
  replace h := bind_some1 h; obtain ⟨t_717, hv_718, h⟩ := h
  refine run_textW hE [4] (fr' := [(4, .bool t_717)]) (σ' := []) ?_ ?_
  · rcases Bool.eq_false_or_eq_true ((a_713.Epoch == b_714.Epoch)) with hb_719 | hb_719
    · replace hv_718 := ite_t hv_718 hb_719
      rcases Bool.eq_false_or_eq_true ((a_713.Other == b_714.Other)) with hb_720 | hb_720
      · replace hv_718 := ite_t hv_718 hb_720
        rcases Bool.eq_false_or_eq_true ((a_713.First == b_714.First)) with hb_721 | hb_721
        · replace hv_718 := ite_t hv_718 hb_721
          rcases Bool.eq_false_or_eq_true ((a_713.Next == b_714.Next)) with hb_722 | hb_722
          · replace hv_718 := ite_t hv_718 hb_722
            rcases Bool.eq_false_or_eq_true ((a_713.SentAt == b_714.SentAt)) with hb_723 | hb_723
            · replace hv_718 := ite_t hv_718 hb_723
              replace hv_718 := bind_some1 hv_718; obtain ⟨y_715, hy_724, hv_718⟩ := hv_718
              rcases Bool.eq_false_or_eq_true y_715 with hb_725 | hb_725
              · replace hv_718 := ite_t hv_718 hb_725
                replace hv_718 := bind_some1 hv_718; obtain ⟨y_716, hy_726, hv_718⟩ := hv_718
                have e_hv_718 := Option.some.inj hv_718; subst e_hv_718
                exact ⟨_, [(4, .bool y_716)], [.box [i64 a_713.Epoch, i64 a_713.Other, i64 a_713.First, .sl false (L (cSl cU8) a_713.Queue), i64 a_713.Next, .sl false (L cApi_Packet a_713.Early), i64 a_713.SentAt] false, .box [i64 b_714.Epoch, i64 b_714.Other, i64 b_714.First, .sl false (L (cSl cU8) b_714.Queue), i64 b_714.Next, .sl false (L cApi_Packet b_714.Early), i64 b_714.SentAt] false], orcs_ok (l := [(43, 22, [.sl false (L (cSl cU8) a_713.Queue), .sl false (L (cSl cU8) b_714.Queue)], .bool y_715), (50, 19, [.sl false (L cApi_Packet a_713.Early), .sl false (L cApi_Packet b_714.Early)], .bool y_716)]) ⟨r12_SameMessages_con  hy_724, r12_SamePackets_con  hy_726, trivial⟩, by simp only [go_sem, reduceIte, Nat.reduceLT, Nat.reduceEqDiff, Nat.reduceAdd, hb_719, hb_720, hb_721, hb_722, hb_723, hb_725], (weak_sel [] (by decide) rfl (by simp only [go_sem, reduceIte, Nat.reduceLT, Nat.reduceEqDiff, Nat.reduceAdd]) (by simp only [go_sem, reduceIte, Nat.reduceLT, Nat.reduceEqDiff, Nat.reduceAdd]))⟩
              · replace hv_718 := ite_f hv_718 hb_725
                have e_hv_718 := Option.some.inj hv_718; subst e_hv_718
                exact ⟨_, [(4, .bool false)], [.box [i64 a_713.Epoch, i64 a_713.Other, i64 a_713.First, .sl false (L (cSl cU8) a_713.Queue), i64 a_713.Next, .sl false (L cApi_Packet a_713.Early), i64 a_713.SentAt] false, .box [i64 b_714.Epoch, i64 b_714.Other, i64 b_714.First, .sl false (L (cSl cU8) b_714.Queue), i64 b_714.Next, .sl false (L cApi_Packet b_714.Early), i64 b_714.SentAt] false], orcs_ok (l := [(43, 22, [.sl false (L (cSl cU8) a_713.Queue), .sl false (L (cSl cU8) b_714.Queue)], .bool y_715)]) ⟨r12_SameMessages_con  hy_724, trivial⟩, by simp only [go_sem, reduceIte, Nat.reduceLT, Nat.reduceEqDiff, Nat.reduceAdd, hb_719, hb_720, hb_721, hb_722, hb_723, hb_725], (weak_sel [] (by decide) rfl (by simp only [go_sem, reduceIte, Nat.reduceLT, Nat.reduceEqDiff, Nat.reduceAdd]) (by simp only [go_sem, reduceIte, Nat.reduceLT, Nat.reduceEqDiff, Nat.reduceAdd]))⟩
            · replace hv_718 := ite_f hv_718 hb_723
              have e_hv_718 := Option.some.inj hv_718; subst e_hv_718
              exact ⟨_, [(4, .bool false)], [.box [i64 a_713.Epoch, i64 a_713.Other, i64 a_713.First, .sl false (L (cSl cU8) a_713.Queue), i64 a_713.Next, .sl false (L cApi_Packet a_713.Early), i64 a_713.SentAt] false, .box [i64 b_714.Epoch, i64 b_714.Other, i64 b_714.First, .sl false (L (cSl cU8) b_714.Queue), i64 b_714.Next, .sl false (L cApi_Packet b_714.Early), i64 b_714.SentAt] false], orcs_nil, by simp only [go_sem, reduceIte, Nat.reduceLT, Nat.reduceEqDiff, Nat.reduceAdd, hb_719, hb_720, hb_721, hb_722, hb_723], (weak_sel [] (by decide) rfl (by simp only [go_sem, reduceIte, Nat.reduceLT, Nat.reduceEqDiff, Nat.reduceAdd]) (by simp only [go_sem, reduceIte, Nat.reduceLT, Nat.reduceEqDiff, Nat.reduceAdd]))⟩
          · replace hv_718 := ite_f hv_718 hb_722
            have e_hv_718 := Option.some.inj hv_718; subst e_hv_718
            exact ⟨_, [(4, .bool false)], [.box [i64 a_713.Epoch, i64 a_713.Other, i64 a_713.First, .sl false (L (cSl cU8) a_713.Queue), i64 a_713.Next, .sl false (L cApi_Packet a_713.Early), i64 a_713.SentAt] false, .box [i64 b_714.Epoch, i64 b_714.Other, i64 b_714.First, .sl false (L (cSl cU8) b_714.Queue), i64 b_714.Next, .sl false (L cApi_Packet b_714.Early), i64 b_714.SentAt] false], orcs_nil, by simp only [go_sem, reduceIte, Nat.reduceLT, Nat.reduceEqDiff, Nat.reduceAdd, hb_719, hb_720, hb_721, hb_722], (weak_sel [] (by decide) rfl (by simp only [go_sem, reduceIte, Nat.reduceLT, Nat.reduceEqDiff, Nat.reduceAdd]) (by simp only [go_sem, reduceIte, Nat.reduceLT, Nat.reduceEqDiff, Nat.reduceAdd]))⟩
        · replace hv_718 := ite_f hv_718 hb_721
          have e_hv_718 := Option.some.inj hv_718; subst e_hv_718
          exact ⟨_, [(4, .bool false)], [.box [i64 a_713.Epoch, i64 a_713.Other, i64 a_713.First, .sl false (L (cSl cU8) a_713.Queue), i64 a_713.Next, .sl false (L cApi_Packet a_713.Early), i64 a_713.SentAt] false, .box [i64 b_714.Epoch, i64 b_714.Other, i64 b_714.First, .sl false (L (cSl cU8) b_714.Queue), i64 b_714.Next, .sl false (L cApi_Packet b_714.Early), i64 b_714.SentAt] false], orcs_nil, by simp only [go_sem, reduceIte, Nat.reduceLT, Nat.reduceEqDiff, Nat.reduceAdd, hb_719, hb_720, hb_721], (weak_sel [] (by decide) rfl (by simp only [go_sem, reduceIte, Nat.reduceLT, Nat.reduceEqDiff, Nat.reduceAdd]) (by simp only [go_sem, reduceIte, Nat.reduceLT, Nat.reduceEqDiff, Nat.reduceAdd]))⟩
      · replace hv_718 := ite_f hv_718 hb_720
        have e_hv_718 := Option.some.inj hv_718; subst e_hv_718
        exact ⟨_, [(4, .bool false)], [.box [i64 a_713.Epoch, i64 a_713.Other, i64 a_713.First, .sl false (L (cSl cU8) a_713.Queue), i64 a_713.Next, .sl false (L cApi_Packet a_713.Early), i64 a_713.SentAt] false, .box [i64 b_714.Epoch, i64 b_714.Other, i64 b_714.First, .sl false (L (cSl cU8) b_714.Queue), i64 b_714.Next, .sl false (L cApi_Packet b_714.Early), i64 b_714.SentAt] false], orcs_nil, by simp only [go_sem, reduceIte, Nat.reduceLT, Nat.reduceEqDiff, Nat.reduceAdd, hb_719, hb_720], (weak_sel [] (by decide) rfl (by simp only [go_sem, reduceIte, Nat.reduceLT, Nat.reduceEqDiff, Nat.reduceAdd]) (by simp only [go_sem, reduceIte, Nat.reduceLT, Nat.reduceEqDiff, Nat.reduceAdd]))⟩
    · replace hv_718 := ite_f hv_718 hb_719
      have e_hv_718 := Option.some.inj hv_718; subst e_hv_718
      exact ⟨_, [(4, .bool false)], [.box [i64 a_713.Epoch, i64 a_713.Other, i64 a_713.First, .sl false (L (cSl cU8) a_713.Queue), i64 a_713.Next, .sl false (L cApi_Packet a_713.Early), i64 a_713.SentAt] false, .box [i64 b_714.Epoch, i64 b_714.Other, i64 b_714.First, .sl false (L (cSl cU8) b_714.Queue), i64 b_714.Next, .sl false (L cApi_Packet b_714.Early), i64 b_714.SentAt] false], orcs_nil, by simp only [go_sem, reduceIte, Nat.reduceLT, Nat.reduceEqDiff, Nat.reduceAdd, hb_719], (weak_sel [] (by decide) rfl (by simp only [go_sem, reduceIte, Nat.reduceLT, Nat.reduceEqDiff, Nat.reduceAdd]) (by simp only [go_sem, reduceIte, Nat.reduceLT, Nat.reduceEqDiff, Nat.reduceAdd]))⟩
  refine run_ret ?_
  obtain rfl := Option.some.inj h
  refine wkP_of (Weak.refl _ _) ?_
  refine ret_ok (.inr rfl) ?_
  simp only [go_sem, reduceIte, Nat.reduceLT, Nat.reduceEqDiff, Nat.reduceAdd]

theorem window_side_keep_1_con {e_727 : Api_Packet} {seq_728 : Int} {r : Int} (h : window_side_keep_1 e_727 seq_728 = some r) : Con B 57 [.agg [i64 e_727.Epoch, i64 e_727.To, i64 e_727.Seq, i64 e_727.Ack, .sl false (L cU8 e_727.Data)], i64 seq_728] [] (fun r' σ' => r' = i64 r ∧ σ' = []) := by
  refine con_walk (N := 9) (rs := [.tmp 4]) ok Try.func57 rfl (by decide +kernel) rfl rfl (Nat.le_of_ble_eq_true rfl) (fun F => ?_)
  have hE := ok.env F
  unfold window_side_keep_1 at h
  show Run (B.env F) 0 _ ⟨asFr 9 [(0, .agg [i64 e_727.Epoch, i64 e_727.To, i64 e_727.Seq, i64 e_727.Ack, .sl false (L cU8 e_727.Data)]), (1, i64 seq_728)], []⟩ _
  refine run_wkP ?_
  refine run_textE hE [1, 2] (fr' := [(1, i64 seq_728), (2, .ref 0 0)]) (σ' := [.box [i64 e_727.Epoch, i64 e_727.To, i64 e_727.Seq, i64 e_727.Ack, .sl false (L cU8 e_727.Data)] false]) ⟨_, orcs_nil, ?_⟩ ?_
  · simp only [go_sem, reduceIte, Nat.reduceLT, Nat.reduceEqDiff, Nat.reduceAdd]
  refine run_textE hE [4] (fr' := [(4, i64 ((w64 (e_727.Seq - seq_728))))]) (σ' := [.box [i64 e_727.Epoch, i64 e_727.To, i64 e_727.Seq, i64 e_727.Ack, .sl false (L cU8 e_727.Data)] false]) ⟨_, orcs_nil, ?_⟩ ?_
  · simp only [go_sem, reduceIte, Nat.reduceLT, Nat.reduceEqDiff, Nat.reduceAdd]
  refine run_ret ?_
  obtain rfl := Option.some.inj h
  refine wkP_of (Weak.refl _ _) ?_
  refine ret_ok (.inr rfl) ?_
  simp only [go_sem, reduceIte, Nat.reduceLT, Nat.reduceEqDiff, Nat.reduceAdd]

theorem slices_BinarySearchFunc_56_con {x_729 : List Api_Packet} {target_730 : Int} {cmp_731 : Api_Packet → Int → Option (Int)} {fcmp_731 : Nat} (hfcmp_731 : ∀ {a0 : Api_Packet} {a1 : Int} {r : Int}, cmp_731 a0 a1 = some r → Con B fcmp_731 [.agg [i64 a0.Epoch, i64 a0.To, i64 a0.Seq, i64 a0.Ack, .sl false (L cU8 a0.Data)], i64 a1] [] (fun r' σ' => r' = i64 r ∧ σ' = [])) {r : Int × Bool} (h : slices_BinarySearchFunc_56 x_729 target_730 cmp_731 = some r) : Con B 56 [.sl false (L cApi_Packet x_729), i64 target_730, .fn fcmp_731 []] [] (fun r' σ' => r' = .tup [i64 r.1, .bool r.2] ∧ σ' = []) := by
  refine con_walk (N := 49) (rs := [.tmp 6, .tmp 7]) ok Try.func56 rfl (by decide +kernel) rfl rfl (Nat.le_of_ble_eq_true rfl) (fun F => ?_)
  have hE := ok.env F
  unfold slices_BinarySearchFunc_56 at h
  show Run (B.env F) 0 _ ⟨asFr 49 [(0, .sl false (L cApi_Packet x_729)), (1, i64 target_730), (2, .fn fcmp_731 [])], []⟩ _
  refine run_wkP ?_
  refine run_textE hE [0, 1, 2] (fr' := [(0, .sl false (L cApi_Packet x_729)), (1, i64 target_730), (2, .fn fcmp_731 [])]) (σ' := []) ⟨_, orcs_nil, ?_⟩ ?_
  · simp only [go_sem, reduceIte, Nat.reduceLT, Nat.reduceEqDiff, Nat.reduceAdd]
  refine run_textE hE [0, 1, 2, 8] (fr' := [(0, .sl false (L cApi_Packet x_729)), (1, i64 target_730), (2, .fn fcmp_731 []), (8, i64 ((x_729.length : Int)))]) (σ' := []) ⟨_, orcs_nil, ?_⟩ ?_
  · simp only [go_sem, reduceIte, Nat.reduceLT, Nat.reduceEqDiff, Nat.reduceAdd]
  refine run_textE hE [0, 1, 2, 8, 9, 10] (fr' := [(0, .sl false (L cApi_Packet x_729)), (1, i64 target_730), (2, .fn fcmp_731 []), (8, i64 ((x_729.length : Int))), (9, i64 0), (10, i64 ((x_729.length : Int)))]) (σ' := []) ⟨_, orcs_nil, ?_⟩ ?_
  · simp only [go_sem, reduceIte, Nat.reduceLT, Nat.reduceEqDiff, Nat.reduceAdd]
  replace h := bind_some1 h; obtain ⟨j_756, hA_757, hj_758⟩ := h
  refine run_join (fun (v : Int) => (⟨asFr 49 [(0, .sl false (L cApi_Packet x_729)), (1, i64 target_730), (2, .fn fcmp_731 []), (8, i64 ((x_729.length : Int))), (9, i64 v)], []⟩ : St)) (fun v => v = j_756) ?_ ?_
  · have h := hA_757; clear hA_757
    refine run_block ?_
    replace h := bind_some1 h; obtain ⟨x_772, hx_773, hj_774⟩ := h
    refine run_loopO hx_773 (fun (v : Int × Int) => (⟨asFr 49 [(0, .sl false (L cApi_Packet x_729)), (1, i64 target_730), (2, .fn fcmp_731 []), (8, i64 ((x_729.length : Int))), (9, i64 v.1), (10, i64 v.2)], []⟩ : St)) (weak_sel [] (by decide) rfl (by simp only [go_sem, reduceIte, Nat.reduceLT, Nat.reduceEqDiff, Nat.reduceAdd]) (by simp only [go_sem, reduceIte, Nat.reduceLT, Nat.reduceEqDiff, Nat.reduceAdd])) ?_
    rintro ⟨i_764, j_765⟩ o_775 h hxx_776
    replace h : slices_BinarySearchFunc_56_b1 x_729 target_730 cmp_731 i_764 j_765 = some o_775 := h
    unfold slices_BinarySearchFunc_56_b1 at h
    refine run_seq ?_
    refine run_textE hE [0, 1, 2, 8, 9, 10, 17] (fr' := [(0, .sl false (L cApi_Packet x_729)), (1, i64 target_730), (2, .fn fcmp_731 []), (8, i64 ((x_729.length : Int))), (9, i64 i_764), (10, i64 j_765), (17, .bool ((decide (i_764 < j_765))))]) (σ' := []) ⟨_, orcs_nil, ?_⟩ ?_
    · simp only [go_sem, reduceIte, Nat.reduceLT, Nat.reduceEqDiff, Nat.reduceAdd]
    refine run_condL (b := (decide (i_764 < j_765))) rfl (by decide) (fun hb => ?_) (fun hb => ?_)
    · replace h := ite_t h hb
      refine run_skip ?_
      refine thenK_n ?_
      refine run_block ?_
      replace h := lt1_some h; obtain ⟨h_777, hz_778, h⟩ := h
      refine run_textE hE [0, 1, 2, 8, 9, 10, 11] (fr' := [(0, .sl false (L cApi_Packet x_729)), (1, i64 target_730), (2, .fn fcmp_731 []), (8, i64 ((x_729.length : Int))), (9, i64 i_764), (10, i64 j_765), (11, i64 h_777)]) (σ' := []) ⟨_, orcs_nil, ?_⟩ ?_
      · subst hz_778; simp only [go_sem, reduceIte, Nat.reduceLT, Nat.reduceEqDiff, Nat.reduceAdd]
      replace h := chk_some h; obtain ⟨hc_780, h⟩ := h
      replace h := bind_some1 h; obtain ⟨y_779, hy_781, h⟩ := h
      refine run_textE hE [0, 1, 2, 8, 9, 10, 11, 31] (fr' := [(0, .sl false (L cApi_Packet x_729)), (1, i64 target_730), (2, .fn fcmp_731 []), (8, i64 ((x_729.length : Int))), (9, i64 i_764), (10, i64 j_765), (11, i64 h_777), (31, .bool ((decide (y_779 < 0))))]) (σ' := []) ⟨_, orcs_ok (l := [(30, fcmp_731, [.agg [i64 ((nth x_729 h_777.toNat).Epoch), i64 ((nth x_729 h_777.toNat).To), i64 ((nth x_729 h_777.toNat).Seq), i64 ((nth x_729 h_777.toNat).Ack), .sl false (L cU8 ((nth x_729 h_777.toNat).Data))], i64 target_730], i64 y_779)]) ⟨hfcmp_731  hy_781, trivial⟩, ?_⟩ ?_
      · simp only [go_sem, reduceIte, Nat.reduceLT, Nat.reduceEqDiff, Nat.reduceAdd, Int.reduceToNat, hc_780, hc_780.2, lt_le hc_780.2]
      refine run_condL (b := (decide (y_779 < 0))) rfl (by decide) (fun hb => ?_) (fun hb => ?_)
      · replace h := ite_t h hb
        refine run_textE0 hE (wk_block wk_lp) [0, 1, 2, 8, 9, 10] (fr' := [(0, .sl false (L cApi_Packet x_729)), (1, i64 target_730), (2, .fn fcmp_731 []), (8, i64 ((x_729.length : Int))), (9, i64 ((w64 (h_777 + 1)))), (10, i64 j_765)]) (σ' := []) ⟨_, orcs_nil, ?_⟩ ?_
        · simp only [go_sem, reduceIte, Nat.reduceLT, Nat.reduceEqDiff, Nat.reduceAdd]
        refine blockK_n ?_
        obtain rfl := Option.some.inj h
        exact lpK_n (((w64 (h_777 + 1)), j_765)) rfl (weak_sel [] (by decide) rfl (by simp only [go_sem, reduceIte, Nat.reduceLT, Nat.reduceEqDiff, Nat.reduceAdd]) (by simp only [go_sem, reduceIte, Nat.reduceLT, Nat.reduceEqDiff, Nat.reduceAdd]))
      · replace h := ite_f h hb
        refine run_textE0 hE (wk_block wk_lp) [0, 1, 2, 8, 9, 10] (fr' := [(0, .sl false (L cApi_Packet x_729)), (1, i64 target_730), (2, .fn fcmp_731 []), (8, i64 ((x_729.length : Int))), (9, i64 i_764), (10, i64 h_777)]) (σ' := []) ⟨_, orcs_nil, ?_⟩ ?_
        · simp only [go_sem, reduceIte, Nat.reduceLT, Nat.reduceEqDiff, Nat.reduceAdd]
        refine blockK_n ?_
        obtain rfl := Option.some.inj h
        exact lpK_n ((i_764, h_777)) rfl (weak_sel [] (by decide) rfl (by simp only [go_sem, reduceIte, Nat.reduceLT, Nat.reduceEqDiff, Nat.reduceAdd]) (by simp only [go_sem, reduceIte, Nat.reduceLT, Nat.reduceEqDiff, Nat.reduceAdd]))
    · replace h := ite_f h hb
      refine run_exit ?_
      refine thenK_x ?_
      obtain rfl := Option.some.inj h
      have ex_x_772 := hxx_776 _ rfl
      subst ex_x_772
      have h := hj_774; clear hj_774
      refine lpK_x ?_
      refine blockK_x ?_
      obtain rfl := Option.some.inj h
      exact joinK_n i_764 rfl ((weak_sel (l' := [(0, .sl false (L cApi_Packet x_729)), (1, i64 target_730), (2, .fn fcmp_731 []), (8, i64 ((x_729.length : Int))), (9, i64 i_764)]) (σ' := []) [] (by decide) rfl (by simp only [go_sem, reduceIte, Nat.reduceLT, Nat.reduceEqDiff, Nat.reduceAdd]) (by simp only [go_sem, reduceIte, Nat.reduceLT, Nat.reduceEqDiff, Nat.reduceAdd])).trans (weak_sel [] (by decide) rfl (by simp only [go_sem, reduceIte, Nat.reduceLT, Nat.reduceEqDiff, Nat.reduceAdd]) (by simp only [go_sem, reduceIte, Nat.reduceLT, Nat.reduceEqDiff, Nat.reduceAdd])))
  rintro i_755 rfl
  have h := hj_758; clear hj_758
  replace h := bind_some1 h; obtain ⟨t_783, hv_784, h⟩ := h
  refine run_textW hE [6, 7] (fr' := [(6, i64 i_755), (7, .bool t_783)]) (σ' := []) ?_ ?_
  · rcases Bool.eq_false_or_eq_true ((decide (i_755 < (x_729.length : Int)))) with hb_785 | hb_785
    · replace hv_784 := ite_t hv_784 hb_785
      replace hv_784 := chk_some hv_784; obtain ⟨hc_786, hv_784⟩ := hv_784
      replace hv_784 := bind_some1 hv_784; obtain ⟨y_782, hy_787, hv_784⟩ := hv_784
      have e_hv_784 := Option.some.inj hv_784; subst e_hv_784
      exact ⟨_, [(6, i64 i_755), (7, .bool ((y_782 == 0)))], [], orcs_ok (l := [(46, fcmp_731, [.agg [i64 ((nth x_729 i_755.toNat).Epoch), i64 ((nth x_729 i_755.toNat).To), i64 ((nth x_729 i_755.toNat).Seq), i64 ((nth x_729 i_755.toNat).Ack), .sl false (L cU8 ((nth x_729 i_755.toNat).Data))], i64 target_730], i64 y_782)]) ⟨hfcmp_731  hy_787, trivial⟩, by simp only [go_sem, reduceIte, Nat.reduceLT, Nat.reduceEqDiff, Nat.reduceAdd, Int.reduceToNat, hb_785, hc_786, hc_786.2, lt_le hc_786.2], (weak_sel [] (by decide) rfl (by simp only [go_sem, reduceIte, Nat.reduceLT, Nat.reduceEqDiff, Nat.reduceAdd]) (by simp only [go_sem, reduceIte, Nat.reduceLT, Nat.reduceEqDiff, Nat.reduceAdd]))⟩
    · replace hv_784 := ite_f hv_784 hb_785
      have e_hv_784 := Option.some.inj hv_784; subst e_hv_784
      exact ⟨_, [(6, i64 i_755), (7, .bool false)], [], orcs_nil, by simp only [go_sem, reduceIte, Nat.reduceLT, Nat.reduceEqDiff, Nat.reduceAdd, Int.reduceToNat, hb_785], (weak_sel [] (by decide) rfl (by simp only [go_sem, reduceIte, Nat.reduceLT, Nat.reduceEqDiff, Nat.reduceAdd]) (by simp only [go_sem, reduceIte, Nat.reduceLT, Nat.reduceEqDiff, Nat.reduceAdd]))⟩
  refine run_ret ?_
  obtain rfl := Option.some.inj h
  refine wkP_of (Weak.refl _ _) ?_
  refine ret_ok (.inr rfl) ?_
  simp only [go_sem, reduceIte, Nat.reduceLT, Nat.reduceEqDiff, Nat.reduceAdd]

theorem window_side_take_con {s_788 : Window_side} {data_789 : List UInt8} {r : Window_side} (h : window_side_take s_788 data_789 = some r) : Con B 60 [.ref 0 0, .sl false (L cU8 data_789)] [.box [i64 s_788.Peer.Epoch, i64 s_788.Peer.Other, i64 s_788.Peer.First, .sl false (L (cSl cU8) s_788.Peer.Queue), i64 s_788.Peer.Next, .sl false (L cApi_Packet s_788.Peer.Early), i64 s_788.Peer.SentAt, .bs false 1 (s_788.delivered.length) 0 (s_788.delivered.length)] false, .buf 1 (L (cSl cU8) s_788.delivered) false] (fun r' σ' => r' = .tup [] ∧ σ' = [.box [i64 r.Peer.Epoch, i64 r.Peer.Other, i64 r.Peer.First, .sl false (L (cSl cU8) r.Peer.Queue), i64 r.Peer.Next, .sl false (L cApi_Packet r.Peer.Early), i64 r.Peer.SentAt, .bs false 1 (r.delivered.length) 0 (r.delivered.length)] false, .buf 1 (L (cSl cU8) r.delivered) false]) := by
  refine con_walk_own (N := 24) (rs := []) 2 rfl ok Try.func60 rfl (by decide +kernel) rfl rfl (Nat.le_of_ble_eq_true rfl) (fun F => ?_)
  have hE := ok.env F
  unfold window_side_take at h
  show Run (B.env F) 2 _ ⟨asFr 24 [(0, .ref 0 0), (1, .sl false (L cU8 data_789))], [.box [i64 s_788.Peer.Epoch, i64 s_788.Peer.Other, i64 s_788.Peer.First, .sl false (L (cSl cU8) s_788.Peer.Queue), i64 s_788.Peer.Next, .sl false (L cApi_Packet s_788.Peer.Early), i64 s_788.Peer.SentAt, .bs false 1 (s_788.delivered.length) 0 (s_788.delivered.length)] false, .buf 1 (L (cSl cU8) s_788.delivered) false]⟩ _
  refine run_wkP ?_
  replace h := bind_some1 h; obtain ⟨y_797, hy_798, h⟩ := h
  replace h := chk_some h; obtain ⟨hc_799, h⟩ := h
  replace h := lt1_some h; obtain ⟨l_800, hz_801, h⟩ := h
  refine run_drawE hE mixed [[], [], [1], [1, 2], [1, 2, 3], [], [5], [5, 6], [1, 2, 3, 4, 5, 6, 7], [0, 1, 2, 3, 4, 5, 6, 7, 8], [0, 1, 2, 3, 4, 5, 6, 7, 8, 9], [0, 1, 2, 3, 4, 5, 6, 7, 8, 9, 10]] (by kernel_rfl) (by kernel_rfl) [0] (fr' := [(0, .ref 0 0)]) (σ' := [.box [i64 s_788.Peer.Epoch, i64 s_788.Peer.Other, i64 s_788.Peer.First, .sl false (L (cSl cU8) s_788.Peer.Queue), i64 s_788.Peer.Next, .sl false (L cApi_Packet s_788.Peer.Early), i64 s_788.Peer.SentAt, .bs false 1 (l_800.length) 0 (l_800.length)] false, .buf 1 (L (cSl cU8) l_800) false, .buf 1 (L (cSl cU8) (([y_797] : List (List UInt8)))) false]) ⟨_, orcs_ok (l := [(10, 39, [.sl false (L cU8 data_789)], .sl false (L cU8 y_797))]) ⟨window_own_con  hy_798, trivial⟩, ?_⟩ ?_
  · subst hz_801; simp only [go_sem, reduceIte, Nat.reduceLT, Nat.reduceEqDiff, Nat.reduceAdd, Nat.reduceBEq, Nat.reduceMul, Nat.reduceSub, Nat.reduceGT, Nat.reducePow, Nat.reduceLeDiff, Int.reduceToNat, hc_799]
  replace h := lt1_some h; obtain ⟨f_802, hz_803, h⟩ := h
  refine run_textE0 hE wk_wkP [] (fr' := []) (σ' := [.box [i64 s_788.Peer.Epoch, i64 s_788.Peer.Other, i64 s_788.Peer.First, .sl false (L (cSl cU8) s_788.Peer.Queue), i64 f_802, .sl false (L cApi_Packet s_788.Peer.Early), i64 s_788.Peer.SentAt, .bs false 1 (l_800.length) 0 (l_800.length)] false, .buf 1 (L (cSl cU8) l_800) false, .buf 1 (L (cSl cU8) (([y_797] : List (List UInt8)))) false]) ⟨_, orcs_nil, ?_⟩ ?_
  · subst hz_803; simp only [go_sem, reduceIte, Nat.reduceLT, Nat.reduceEqDiff, Nat.reduceAdd, Nat.reduceLeDiff]
  obtain rfl := Option.some.inj h
  refine wkP_of (Weak.refl _ _) ?_
  refine ret_own (.inl rfl) [0, 1] (by decide) rfl ?_ ?_
  · simp only [go_sem, reduceIte, Nat.reduceLT, Nat.reduceEqDiff, Nat.reduceAdd]
  · simp only [go_sem, reduceIte, Nat.reduceLT, Nat.reduceEqDiff, Nat.reduceAdd]

end Go.Proofs.Ytomjphpnpcgacaa
