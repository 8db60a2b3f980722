/-
  The library and the walks, part 1.
-/
import Derived.Test.YtomjphpnpcgacaaProg
import Derived.Test.YtomjphpnpcgacaaR43
import Derived.Test.YtomjphpnpcgacaaRows
import Derived.Test.YtomjphpnpcgacaaR30
import Derived.WalkKit
import Derived.ProofKit
import Derived.OpenShut
import Derived.JoinedCond
import Derived.KernelRfl
import Derived.Test.YtomjphpnpcgacaaR41
import Derived.Lib.Overlaps
import Derived.Lib.Walk
import Derived.Shelf.RegionOpenPlain
import Derived.Shelf.Spec.SlicesInsert
/-
  Types, and rules for the operations at them.
-/
namespace Go.Proofs.Ytomjphpnpcgacaa
open Go.Rv
set_option linter.unusedVariables false
set_option linter.unusedSimpArgs false
set_option maxRecDepth 20000

attribute [go_sem_proc] reduceIte Nat.reduceLT Nat.reduceEqDiff Nat.reduceAdd

noncomputable def B : Base := baseOwn Try.prog (fun _ => none) (fun f => [23, 24, 25, 26, 38, 41, 42, 43, 46, 47, 58, 59, 60].contains f)
theorem ok : B.Ok := baseOwn_ok _ _ _
theorem own5 (F : Addr → Prop) : (B.env F).own 5 = false := rfl
attribute [go_sem] own5
theorem own6 (F : Addr → Prop) : (B.env F).own 6 = false := rfl
attribute [go_sem] own6
theorem own10 (F : Addr → Prop) : (B.env F).own 10 = false := rfl
attribute [go_sem] own10
theorem own12 (F : Addr → Prop) : (B.env F).own 12 = false := rfl
attribute [go_sem] own12
theorem own14 (F : Addr → Prop) : (B.env F).own 14 = false := rfl
attribute [go_sem] own14
theorem own16 (F : Addr → Prop) : (B.env F).own 16 = false := rfl
attribute [go_sem] own16
theorem own20 (F : Addr → Prop) : (B.env F).own 20 = false := rfl
attribute [go_sem] own20
theorem own22 (F : Addr → Prop) : (B.env F).own 22 = false := rfl
attribute [go_sem] own22
theorem own23 (F : Addr → Prop) : (B.env F).own 23 = true := rfl
attribute [go_sem] own23
theorem own24 (F : Addr → Prop) : (B.env F).own 24 = true := rfl
attribute [go_sem] own24
theorem own25 (F : Addr → Prop) : (B.env F).own 25 = true := rfl
attribute [go_sem] own25
theorem own26 (F : Addr → Prop) : (B.env F).own 26 = true := rfl
attribute [go_sem] own26
theorem own27 (F : Addr → Prop) : (B.env F).own 27 = false := rfl
attribute [go_sem] own27
theorem own30 (F : Addr → Prop) : (B.env F).own 30 = false := rfl
attribute [go_sem] own30
theorem own35 (F : Addr → Prop) : (B.env F).own 35 = false := rfl
attribute [go_sem] own35
theorem own37 (F : Addr → Prop) : (B.env F).own 37 = false := rfl
attribute [go_sem] own37
theorem own38 (F : Addr → Prop) : (B.env F).own 38 = true := rfl
attribute [go_sem] own38
theorem own39 (F : Addr → Prop) : (B.env F).own 39 = false := rfl
attribute [go_sem] own39
theorem own41 (F : Addr → Prop) : (B.env F).own 41 = true := rfl
attribute [go_sem] own41
theorem own42 (F : Addr → Prop) : (B.env F).own 42 = true := rfl
attribute [go_sem] own42
theorem own43 (F : Addr → Prop) : (B.env F).own 43 = true := rfl
attribute [go_sem] own43
theorem own46 (F : Addr → Prop) : (B.env F).own 46 = true := rfl
attribute [go_sem] own46
theorem own47 (F : Addr → Prop) : (B.env F).own 47 = true := rfl
attribute [go_sem] own47
theorem own56 (F : Addr → Prop) : (B.env F).own 56 = false := rfl
attribute [go_sem] own56
theorem own57 (F : Addr → Prop) : (B.env F).own 57 = false := rfl
attribute [go_sem] own57
theorem own58 (F : Addr → Prop) : (B.env F).own 58 = true := rfl
attribute [go_sem] own58
theorem own59 (F : Addr → Prop) : (B.env F).own 59 = true := rfl
attribute [go_sem] own59
theorem own60 (F : Addr → Prop) : (B.env F).own 60 = true := rfl
attribute [go_sem] own60
theorem mixed : Try.prog.follows .mixedOrders = true := by kernel_rfl

structure Pk where
  Epoch : Int
  To : Int
  Seq : Int
  Ack : Int
  Data : List UInt8
  deriving DecidableEq, Inhabited
def cK (x : Pk) : List AV := [i64 x.Epoch, i64 x.To, i64 x.Seq, i64 x.Ack, .sl false (L cU8 x.Data)]
attribute [go_sem] cK
structure Pe where
  Epoch : Int
  Other : Int
  First : Int
  Queue : List (List UInt8)
  Next : Int
  Early : List Pk
  SentAt : Int
  deriving DecidableEq, Inhabited
def cPe (x : Pe) : List AV := [i64 x.Epoch, i64 x.Other, i64 x.First, .sl false (L (cSl cU8) x.Queue), i64 x.Next, .sl false (L cK x.Early), i64 x.SentAt]
attribute [go_sem] cPe
structure Window_side where
  Peer : Pe
  dz : List (List UInt8)
  deriving DecidableEq, Inhabited
def cWindow_side (x : Window_side) : List AV := [i64 x.Peer.Epoch, i64 x.Peer.Other, i64 x.Peer.First, .sl false (L (cSl cU8) x.Peer.Queue), i64 x.Peer.Next, .sl false (L cK x.Peer.Early), i64 x.Peer.SentAt, .sl false (L (cSl cU8) x.dz)]
attribute [go_sem] cWindow_side
structure Pq where
  p : (Pe × Pe)
  way : ((List Pk) × (List Pk))
  oz : ((List (List UInt8)) × (List (List UInt8)))
  dz : ((List (List UInt8)) × (List (List UInt8)))
  now : Int
  resets : Int
  deriving DecidableEq, Inhabited
def cWagonpoollaw12_pair (x : Pq) : List AV := [i64 x.p.1.Epoch, i64 x.p.1.Other, i64 x.p.1.First, .sl false (L (cSl cU8) x.p.1.Queue), i64 x.p.1.Next, .sl false (L cK x.p.1.Early), i64 x.p.1.SentAt, i64 x.p.2.Epoch, i64 x.p.2.Other, i64 x.p.2.First, .sl false (L (cSl cU8) x.p.2.Queue), i64 x.p.2.Next, .sl false (L cK x.p.2.Early), i64 x.p.2.SentAt, .sl false (L cK x.way.1), .sl false (L cK x.way.2), .sl false (L (cSl cU8) x.oz.1), .sl false (L (cSl cU8) x.oz.2), .sl false (L (cSl cU8) x.dz.1), .sl false (L (cSl cU8) x.dz.2), i64 x.now, i64 x.resets]
attribute [go_sem] cWagonpoollaw12_pair
structure Aq where
  Kind : Int
  Side : Int
  N : Int
  Data : List UInt8
  deriving DecidableEq, Inhabited
def cAq (x : Aq) : List AV := [i64 x.Kind, i64 x.Side, i64 x.N, .sl false (L cU8 x.Data)]
attribute [go_sem] cAq
theorem tt3 : tabOf Try.prog 3 = some ⟨.int .i64, 1, 8, [i64 0]⟩ := by kernel_rfl
theorem tb3 (F : Addr → Prop) : (B.env F).tab 3 = some ⟨.int .i64, 1, 8, [i64 0]⟩ := tt3
attribute [go_sem] tb3
theorem tt5 : tabOf Try.prog 5 = some ⟨.int .u8, 1, 1, [u8 ((0 : UInt8))]⟩ := by kernel_rfl
theorem tb5 (F : Addr → Prop) : (B.env F).tab 5 = some ⟨.int .u8, 1, 1, [u8 ((0 : UInt8))]⟩ := tt5
attribute [go_sem] tb5
theorem tt9 : tabOf Try.prog 9 = some ⟨.string, 1, 16, [.str (([] : List UInt8))]⟩ := by kernel_rfl
theorem tb9 (F : Addr → Prop) : (B.env F).tab 9 = some ⟨.string, 1, 16, [.str (([] : List UInt8))]⟩ := tt9
attribute [go_sem] tb9
theorem tt22 : tabOf Try.prog 22 = some ⟨.slice 26, 1, 24, [.sl true (L (cSl cU8) ([]))]⟩ := by kernel_rfl
theorem tb22 (F : Addr → Prop) : (B.env F).tab 22 = some ⟨.slice 26, 1, 24, [.sl true (L (cSl cU8) ([]))]⟩ := tt22
attribute [go_sem] tb22
theorem tt23 : tabOf Try.prog 23 = some ⟨.slice 39, 1, 24, [.sl true (L cK ([]))]⟩ := by kernel_rfl
theorem tb23 (F : Addr → Prop) : (B.env F).tab 23 = some ⟨.slice 39, 1, 24, [.sl true (L cK ([]))]⟩ := tt23
attribute [go_sem] tb23
theorem tt25 : tabOf Try.prog 25 = some ⟨.struct #[⟨"Epoch", 3, 0, false, "", "", 0⟩, ⟨"Other", 3, 1, false, "", "", 8⟩, ⟨"First", 3, 2, false, "", "", 16⟩, ⟨"Queue", 22, 3, false, "", "", 24⟩, ⟨"Next", 3, 4, false, "", "", 48⟩, ⟨"Early", 23, 5, false, "", "", 56⟩, ⟨"SentAt", 3, 6, false, "", "", 80⟩], 7, 88, [i64 0, i64 0, i64 0, .sl true (L (cSl cU8) ([])), i64 0, .sl true (L cK ([])), i64 0]⟩ := by kernel_rfl
theorem tb25 (F : Addr → Prop) : (B.env F).tab 25 = some ⟨.struct #[⟨"Epoch", 3, 0, false, "", "", 0⟩, ⟨"Other", 3, 1, false, "", "", 8⟩, ⟨"First", 3, 2, false, "", "", 16⟩, ⟨"Queue", 22, 3, false, "", "", 24⟩, ⟨"Next", 3, 4, false, "", "", 48⟩, ⟨"Early", 23, 5, false, "", "", 56⟩, ⟨"SentAt", 3, 6, false, "", "", 80⟩], 7, 88, [i64 0, i64 0, i64 0, .sl true (L (cSl cU8) ([])), i64 0, .sl true (L cK ([])), i64 0]⟩ := tt25
attribute [go_sem] tb25
theorem tt26 : tabOf Try.prog 26 = some ⟨.slice 5, 1, 24, [.sl true (L cU8 ([]))]⟩ := by kernel_rfl
theorem tb26 (F : Addr → Prop) : (B.env F).tab 26 = some ⟨.slice 5, 1, 24, [.sl true (L cU8 ([]))]⟩ := tt26
attribute [go_sem] tb26
theorem tt29 : tabOf Try.prog 29 = some ⟨.int .i64, 1, 8, [i64 0]⟩ := by kernel_rfl
theorem tb29 (F : Addr → Prop) : (B.env F).tab 29 = some ⟨.int .i64, 1, 8, [i64 0]⟩ := tt29
attribute [go_sem] tb29
theorem tt39 : tabOf Try.prog 39 = some ⟨.struct #[⟨"Epoch", 3, 0, false, "", "", 0⟩, ⟨"To", 3, 1, false, "", "", 8⟩, ⟨"Seq", 3, 2, false, "", "", 16⟩, ⟨"Ack", 3, 3, false, "", "", 24⟩, ⟨"Data", 26, 4, false, "", "", 32⟩], 5, 56, [i64 0, i64 0, i64 0, i64 0, .sl true (L cU8 ([]))]⟩ := by kernel_rfl
theorem tb39 (F : Addr → Prop) : (B.env F).tab 39 = some ⟨.struct #[⟨"Epoch", 3, 0, false, "", "", 0⟩, ⟨"To", 3, 1, false, "", "", 8⟩, ⟨"Seq", 3, 2, false, "", "", 16⟩, ⟨"Ack", 3, 3, false, "", "", 24⟩, ⟨"Data", 26, 4, false, "", "", 32⟩], 5, 56, [i64 0, i64 0, i64 0, i64 0, .sl true (L cU8 ([]))]⟩ := tt39
attribute [go_sem] tb39
theorem tt44 : tabOf Try.prog 44 = some ⟨.slice 49, 1, 24, [.sl true (L cAq ([]))]⟩ := by kernel_rfl
theorem tb44 (F : Addr → Prop) : (B.env F).tab 44 = some ⟨.slice 49, 1, 24, [.sl true (L cAq ([]))]⟩ := tt44
attribute [go_sem] tb44
theorem tt49 : tabOf Try.prog 49 = some ⟨.struct #[⟨"Kind", 3, 0, false, "", "", 0⟩, ⟨"Side", 3, 1, false, "", "", 8⟩, ⟨"N", 3, 2, false, "", "", 16⟩, ⟨"Data", 26, 3, false, "", "", 24⟩], 4, 48, [i64 0, i64 0, i64 0, .sl true (L cU8 ([]))]⟩ := by kernel_rfl
theorem tb49 (F : Addr → Prop) : (B.env F).tab 49 = some ⟨.struct #[⟨"Kind", 3, 0, false, "", "", 0⟩, ⟨"Side", 3, 1, false, "", "", 8⟩, ⟨"N", 3, 2, false, "", "", 16⟩, ⟨"Data", 26, 3, false, "", "", 24⟩], 4, 48, [i64 0, i64 0, i64 0, .sl true (L cU8 ([]))]⟩ := tt49
attribute [go_sem] tb49
theorem tt52 : tabOf Try.prog 52 = some ⟨.array 2 25, 14, 176, [i64 0, i64 0, i64 0, .sl true (L (cSl cU8) ([])), i64 0, .sl true (L cK ([])), i64 0, i64 0, i64 0, i64 0, .sl true (L (cSl cU8) ([])), i64 0, .sl true (L cK ([])), i64 0]⟩ := by kernel_rfl
theorem tb52 (F : Addr → Prop) : (B.env F).tab 52 = some ⟨.array 2 25, 14, 176, [i64 0, i64 0, i64 0, .sl true (L (cSl cU8) ([])), i64 0, .sl true (L cK ([])), i64 0, i64 0, i64 0, i64 0, .sl true (L (cSl cU8) ([])), i64 0, .sl true (L cK ([])), i64 0]⟩ := tt52
attribute [go_sem] tb52
theorem tt53 : tabOf Try.prog 53 = some ⟨.array 2 23, 2, 48, [.sl true (L cK ([])), .sl true (L cK ([]))]⟩ := by kernel_rfl
theorem tb53 (F : Addr → Prop) : (B.env F).tab 53 = some ⟨.array 2 23, 2, 48, [.sl true (L cK ([])), .sl true (L cK ([]))]⟩ := tt53
attribute [go_sem] tb53
theorem tt54 : tabOf Try.prog 54 = some ⟨.array 2 22, 2, 48, [.sl true (L (cSl cU8) ([])), .sl true (L (cSl cU8) ([]))]⟩ := by kernel_rfl
theorem tb54 (F : Addr → Prop) : (B.env F).tab 54 = some ⟨.array 2 22, 2, 48, [.sl true (L (cSl cU8) ([])), .sl true (L (cSl cU8) ([]))]⟩ := tt54
attribute [go_sem] tb54
theorem tt56 : tabOf Try.prog 56 = some ⟨.struct #[⟨"p", 52, 0, false, "", "wagonpool/wagonpoollaw12", 0⟩, ⟨"way", 53, 14, false, "", "wagonpool/wagonpoollaw12", 176⟩, ⟨"offered", 54, 16, false, "", "wagonpool/wagonpoollaw12", 224⟩, ⟨"delivered", 54, 18, false, "", "wagonpool/wagonpoollaw12", 272⟩, ⟨"now", 3, 20, false, "", "wagonpool/wagonpoollaw12", 320⟩, ⟨"resets", 3, 21, false, "", "wagonpool/wagonpoollaw12", 328⟩], 22, 336, [i64 0, i64 0, i64 0, .sl true (L (cSl cU8) ([])), i64 0, .sl true (L cK ([])), i64 0, i64 0, i64 0, i64 0, .sl true (L (cSl cU8) ([])), i64 0, .sl true (L cK ([])), i64 0, .sl true (L cK ([])), .sl true (L cK ([])), .sl true (L (cSl cU8) ([])), .sl true (L (cSl cU8) ([])), .sl true (L (cSl cU8) ([])), .sl true (L (cSl cU8) ([])), i64 0, i64 0]⟩ := by kernel_rfl
theorem tb56 (F : Addr → Prop) : (B.env F).tab 56 = some ⟨.struct #[⟨"p", 52, 0, false, "", "wagonpool/wagonpoollaw12", 0⟩, ⟨"way", 53, 14, false, "", "wagonpool/wagonpoollaw12", 176⟩, ⟨"offered", 54, 16, false, "", "wagonpool/wagonpoollaw12", 224⟩, ⟨"delivered", 54, 18, false, "", "wagonpool/wagonpoollaw12", 272⟩, ⟨"now", 3, 20, false, "", "wagonpool/wagonpoollaw12", 320⟩, ⟨"resets", 3, 21, false, "", "wagonpool/wagonpoollaw12", 328⟩], 22, 336, [i64 0, i64 0, i64 0, .sl true (L (cSl cU8) ([])), i64 0, .sl true (L cK ([])), i64 0, i64 0, i64 0, i64 0, .sl true (L (cSl cU8) ([])), i64 0, .sl true (L cK ([])), i64 0, .sl true (L cK ([])), .sl true (L cK ([])), .sl true (L (cSl cU8) ([])), .sl true (L (cSl cU8) ([])), .sl true (L (cSl cU8) ([])), .sl true (L (cSl cU8) ([])), i64 0, i64 0]⟩ := tt56
attribute [go_sem] tb56
theorem tt79 : tabOf Try.prog 79 = some ⟨.struct #[⟨"Peer", 25, 0, true, "", "", 0⟩, ⟨"delivered", 22, 7, false, "", "wagonpool/window", 88⟩], 8, 112, [i64 0, i64 0, i64 0, .sl true (L (cSl cU8) ([])), i64 0, .sl true (L cK ([])), i64 0, .sl true (L (cSl cU8) ([]))]⟩ := by kernel_rfl
theorem tb79 (F : Addr → Prop) : (B.env F).tab 79 = some ⟨.struct #[⟨"Peer", 25, 0, true, "", "", 0⟩, ⟨"delivered", 22, 7, false, "", "wagonpool/window", 88⟩], 8, 112, [i64 0, i64 0, i64 0, .sl true (L (cSl cU8) ([])), i64 0, .sl true (L cK ([])), i64 0, .sl true (L (cSl cU8) ([]))]⟩ := tt79
attribute [go_sem] tb79
theorem tt80 : tabOf Try.prog 80 = some ⟨.func #[39] #[] false, 1, 8, [.val .nilFunc]⟩ := by kernel_rfl
theorem tb80 (F : Addr → Prop) : (B.env F).tab 80 = some ⟨.func #[39] #[] false, 1, 8, [.val .nilFunc]⟩ := tt80
attribute [go_sem] tb80
theorem tt81 : tabOf Try.prog 81 = some ⟨.slice 80, 1, 24, [.sl true []]⟩ := by kernel_rfl
theorem tb81 (F : Addr → Prop) : (B.env F).tab 81 = some ⟨.slice 80, 1, 24, [.sl true []]⟩ := tt81
attribute [go_sem] tb81
theorem tt86 : tabOf Try.prog 86 = some ⟨.int .u64, 1, 8, [u64 ((0 : UInt64))]⟩ := by kernel_rfl
theorem tb86 (F : Addr → Prop) : (B.env F).tab 86 = some ⟨.int .u64, 1, 8, [u64 ((0 : UInt64))]⟩ := tt86
attribute [go_sem] tb86
theorem tt99 : tabOf Try.prog 99 = some ⟨.func #[39, 3] #[3] false, 1, 8, [.val .nilFunc]⟩ := by kernel_rfl
theorem tb99 (F : Addr → Prop) : (B.env F).tab 99 = some ⟨.func #[39, 3] #[3] false, 1, 8, [.val .nilFunc]⟩ := tt99
attribute [go_sem] tb99
theorem tt109 : tabOf Try.prog 109 = some ⟨.int .u64, 1, 8, [u64 ((0 : UInt64))]⟩ := by kernel_rfl
theorem tb109 (F : Addr → Prop) : (B.env F).tab 109 = some ⟨.int .u64, 1, 8, [u64 ((0 : UInt64))]⟩ := tt109
attribute [go_sem] tb109
theorem ku64x1 : AV.int .u64 1 = u64 1 := rfl
attribute [go_sem] ku64x1
theorem ku8x120 : AV.int .u8 120 = u8 120 := rfl
attribute [go_sem] ku8x120
theorem ixsl22 {F} {σ : Store} (f : Bool) (l : List (List UInt8)) (x : AV) : indexAddrA (B.env F) σ 22 (.sl f (L (cSl cU8) l)) x = match idx x l.length with
    | some i => some (.rp ((cSl cU8) (nth l i)))
    | none => none := ixA_sl (cSl cU8) (tb22 F) (tb26 F) (fun _ => rfl) f l x
attribute [go_sem] ixsl22
theorem ixsl23 {F} {σ : Store} (f : Bool) (l : List Pk) (x : AV) : indexAddrA (B.env F) σ 23 (.sl f (L cK l)) x = match idx x l.length with
    | some i => some (.rp (cK (nth l i)))
    | none => none := ixA_sl cK (tb23 F) (tb39 F) (fun _ => rfl) f l x
attribute [go_sem] ixsl23
theorem mks26 {F} {σ : Store} (l c : Int) : makeSliceA (B.env F) σ 26 (i64 l) (i64 c) = if Mk l c 1 then some (.bs (l == c) σ.length l.toNat 0 l.toNat, σ ++ [.buf 1 (List.replicate l.toNat [u8 ((0 : UInt8))]) false]) else none := make_eq (tb26 F) (tb5 F) (by decide) l c
attribute [go_sem] mks26
theorem app22x22 {F} {σ : Store} (s x : AV) : builtinA (B.env F) σ .append [22, 22] [s, x] = match view σ x with
      | some new => if strBad x 1 = true then none else if ∀ cs ∈ new, cs.length = 1 then (match s with
          | .sl full els =>
            if els = [] ∧ full = true then
              if Fits new.length 24 then some (.bs false σ.length new.length 0 new.length, σ ++ [.buf 1 new false]) else none
            else if new = [] then some (.sl full els, σ)
            else if full = true ∧ (∀ cs ∈ els, cs.length = 1) ∧ Fits (els.length + new.length) 24
            then some (.bs false σ.length (els.length + new.length) 0 (els.length + new.length), σ ++ [.buf 1 (els ++ new) false]) else none
          | .bs full id tot off len => match σ[id]? with
            | some (.buf k els ro) =>
              if els.length = tot ∧ k = 1 ∧ Fits (len + new.length) 24 then
                if off = 0 ∧ len = tot then some (.bs false id (tot + new.length) 0 (tot + new.length), σ.set id (.buf k (els ++ new) ro))
                else if new = [] then some (.bs full id tot off len, σ)
                else if full then some (.bs false σ.length (len + new.length) 0 (len + new.length), σ ++ [.buf k ((els.drop off).take len ++ new) false])
                else none
              else none
            | _ => none
          | _ => none)
        else none
      | none => none := append_eq (tb22 F) (tb26 F) (by decide) (tb22 F) (.inl ⟨_, rfl⟩) s x []
attribute [go_sem] app22x22
theorem app23x23 {F} {σ : Store} (s x : AV) : builtinA (B.env F) σ .append [23, 23] [s, x] = match view σ x with
      | some new => if strBad x 5 = true then none else if ∀ cs ∈ new, cs.length = 5 then (match s with
          | .sl full els =>
            if els = [] ∧ full = true then
              if Fits new.length 56 then some (.bs false σ.length new.length 0 new.length, σ ++ [.buf 5 new false]) else none
            else if new = [] then some (.sl full els, σ)
            else if full = true ∧ (∀ cs ∈ els, cs.length = 5) ∧ Fits (els.length + new.length) 56
            then some (.bs false σ.length (els.length + new.length) 0 (els.length + new.length), σ ++ [.buf 5 (els ++ new) false]) else none
          | .bs full id tot off len => match σ[id]? with
            | some (.buf k els ro) =>
              if els.length = tot ∧ k = 5 ∧ Fits (len + new.length) 56 then
                if off = 0 ∧ len = tot then some (.bs false id (tot + new.length) 0 (tot + new.length), σ.set id (.buf k (els ++ new) ro))
                else if new = [] then some (.bs full id tot off len, σ)
                else if full then some (.bs false σ.length (len + new.length) 0 (len + new.length), σ ++ [.buf k ((els.drop off).take len ++ new) false])
                else none
              else none
            | _ => none
          | _ => none)
        else none
      | none => none := append_eq (tb23 F) (tb39 F) (by decide) (tb23 F) (.inl ⟨_, rfl⟩) s x []
attribute [go_sem] app23x23
theorem ixbs81 {F} {σ : Store} (f : Bool) (id tot off len : Nat) (x : AV) : indexAddrA (B.env F) σ 81 (.bs f id tot off len) x = match σ[id]?, idx x len with
    | some (.buf k els _), some i => if els.length = tot ∧ k = 1 then some (.eref id tot (off + i) 0) else none
    | _, _ => none := ixA_bs (tb81 F) (tb80 F) (by decide) f id tot off len x
attribute [go_sem] ixbs81
theorem ixar52 {F} {σ : Store} (id off : Nat) (x : AV) : indexAddrA (B.env F) σ 52 (.ref id off) x = match idx x 2 with
    | some i => some (.ref id (off + i * 7))
    | none => none := ixA_arr (tb52 F) (tb25 F) id off x
attribute [go_sem] ixar52
theorem ixar53 {F} {σ : Store} (id off : Nat) (x : AV) : indexAddrA (B.env F) σ 53 (.ref id off) x = match idx x 2 with
    | some i => some (.ref id (off + i * 1))
    | none => none := ixA_arr (tb53 F) (tb23 F) id off x
attribute [go_sem] ixar53
theorem ixar54 {F} {σ : Store} (id off : Nat) (x : AV) : indexAddrA (B.env F) σ 54 (.ref id off) x = match idx x 2 with
    | some i => some (.ref id (off + i * 1))
    | none => none := ixA_arr (tb54 F) (tb22 F) id off x
attribute [go_sem] ixar54
theorem ixbs23 {F} {σ : Store} (f : Bool) (id tot off len : Nat) (x : AV) : indexAddrA (B.env F) σ 23 (.bs f id tot off len) x = match σ[id]?, idx x len with
    | some (.buf k els _), some i => if els.length = tot ∧ k = 5 then some (.eref id tot (off + i) 0) else none
    | _, _ => none := ixA_bs (tb23 F) (tb39 F) (by decide) f id tot off len x
attribute [go_sem] ixbs23
theorem ixsl44 {F} {σ : Store} (f : Bool) (l : List Aq) (x : AV) : indexAddrA (B.env F) σ 44 (.sl f (L cAq l)) x = match idx x l.length with
    | some i => some (.rp (cAq (nth l i)))
    | none => none := ixA_sl cAq (tb44 F) (tb49 F) (fun _ => rfl) f l x
attribute [go_sem] ixsl44
end Go.Proofs.Ytomjphpnpcgacaa
/-
  What the functions compute, as plain programs.
-/
namespace Go.Proofs.Ytomjphpnpcgacaa
open Go.Rv
set_option linter.unusedVariables false
set_option linter.unusedSimpArgs false
set_option maxRecDepth 20000

def window_between (em : Int) (en : Int) (eo : Int) : Option (Bool) :=
  (if (decide (em ≥ en)) = true then
    some ((decide (em ≤ eo)))
  else
    some false : Option (Bool)).bind fun ew =>
  some ew

def window_valid_b1 (t : Pe) (aX : Int) : Option ((Int) ⊕ ((Unit) ⊕ ((Unit) ⊕ (Bool)))) :=
  if (decide (aX < (t.Queue.length : Int))) = true then
    if InR aX t.Queue.length then
      if (decide (((nth t.Queue aX.toNat).length : Int) > 8000)) = true then
        ((some false).bind fun ep => some (.inr ep)).bind fun eq => some (.inr (.inr eq))
      else
        some (.inl ((w64 (aX + 1))))
    else none
  else
    some (.inr (.inl (())))
def window_valid_b2 (t : Pe) (be : Int) (al : Int) : Option ((Int × Int) ⊕ ((Unit) ⊕ ((Unit) ⊕ (Bool)))) :=
  if (decide (al < (t.Early.length : Int))) = true then
    if InR al t.Early.length then
      lt1 ((nth t.Early al.toNat).Epoch) fun (cQ : Int) =>
      lt1 ((nth t.Early al.toNat).To) fun (cR : Int) =>
      lt1 ((nth t.Early al.toNat).Seq) fun (aY : Int) =>
      lt1 ((nth t.Early al.toNat).Ack) fun (cS : Int) =>
      lt1 ((nth t.Early al.toNat).Data) fun (cT : List UInt8) =>
      (if (decide (aY ≤ be)) = true then
        some true
      else
        if (decide (aY ≥ (mn64 ((w64 (t.Next + 64))) 1099511627776))) = true then
          some true
        else
          if (decide ((cT.length : Int) > 8000)) = true then
            some true
          else
            if (cQ != 0) = true then
              some true
            else
              if (cR != 0) = true then
                some true
              else
                some ((cS != 0)) : Option (Bool)).bind fun cU =>
      if cU = true then
        ((some false).bind fun cV => some (.inr cV)).bind fun cW => some (.inr (.inr cW))
      else
        some (.inl ((aY, (w64 (al + 1)))))
    else none
  else
    some (.inr (.inl (())))
def window_valid (t : Pe) : Option (Bool) :=
  ((window_between t.Epoch 0 1073741824).bind fun ex =>
  if (!ex) = true then
    some true
  else
    (window_between t.Other ((-1)) 1073741824).bind fun ey =>
    if (!ey) = true then
      some true
    else
      (window_between t.SentAt ((-1)) 1073741824).bind fun er =>
      some ((!er)) : Option (Bool)).bind fun es =>
  if es = true then
    some false
  else
    ((window_between t.First 0 1099511627776).bind fun et =>
    if (!et) = true then
      some true
    else
      (window_between t.Next 0 1099511627776).bind fun eu =>
      if (!eu) = true then
        some true
      else
        if (decide ((t.Queue.length : Int) > 256)) = true then
          some true
        else
          some ((decide ((w64 (t.First + (t.Queue.length : Int))) > 1099511627776))) : Option (Bool)).bind fun ev =>
    if ev = true then
      some false
    else
      ((loopO (fun (v : Int) => window_valid_b1 t v) 0).bind fun x => match x with
      | .inl () =>
        some (.inl (()))
      | .inr z => some z : Option ((Unit) ⊕ (Bool))).bind fun x => match x with
      | .inl () =>
        ((loopO (fun (v : Int × Int) => window_valid_b2 t v.1 v.2) ((t.Next, 0))).bind fun x => match x with
        | .inl () =>
          some (.inl (()))
        | .inr z => some z : Option ((Unit) ⊕ (Bool))).bind fun x => match x with
        | .inl () =>
          some true
        | .inr z => some z
      | .inr z => some z

def window_New (aM : Int) : Option (Pe × Int) :=
  (window_between aM 0 1073741824).bind fun cX =>
  if (!cX) = true then
    some ((({ Epoch := 0, Other := 0, First := 0, Queue := [], Next := 0, Early := [], SentAt := 0 } : Pe), 1))
  else
    some ((({ Epoch := aM, Other := (-1), First := 0, Queue := [], Next := 0, Early := [], SentAt := (-1) } : Pe), 0))

def window_own (az : List UInt8) : Option (List UInt8) :=
  if Mk ((az.length : Int)) ((az.length : Int)) 1 then
    lt1 ((List.replicate (((az.length : Int)).toNat) ((0 : UInt8)))) fun (bh : List UInt8) =>
    lt1 ((ovl bh (az.take (min az.length bh.length)) 0)) fun (cY : List UInt8) =>
    some cY
  else none

def slices_Clone_38 (bi : List (List UInt8)) : Option (List (List UInt8)) :=
  if Fits (0 + bi.length) 24 then
    lt1 (((([] : List (List UInt8))) ++ bi)) fun (cZ : List (List UInt8)) =>
    some cZ
  else none

def slices_Clone_59 (bj : List Pk) : Option (List Pk) :=
  if Fits (0 + bj.length) 56 then
    lt1 (((([] : List Pk)) ++ bj)) fun (c0 : List Pk) =>
    some c0
  else none

def window_Offer (aa : Pe) (aU : List UInt8) : Option (Pe × Int) :=
  (window_valid aa).bind fun c1 =>
  if (!c1) = true then
    some ((({ Epoch := 0, Other := 0, First := 0, Queue := [], Next := 0, Early := [], SentAt := 0 } : Pe), 1))
  else
    if (decide ((aU.length : Int) > 8000)) = true then
      some ((({ Epoch := 0, Other := 0, First := 0, Queue := [], Next := 0, Early := [], SentAt := 0 } : Pe), 2))
    else
      (if ((aa.Queue.length : Int) == 256) = true then
        some true
      else
        some (((w64 (aa.First + (aa.Queue.length : Int))) == 1099511627776)) : Option (Bool)).bind fun c2 =>
      if c2 = true then
        some ((({ Epoch := 0, Other := 0, First := 0, Queue := [], Next := 0, Early := [], SentAt := 0 } : Pe), 120))
      else
        (slices_Clone_38 aa.Queue).bind fun bk =>
        (window_own aU).bind fun c3 =>
        if Fits (bk.length + 1) 24 then
          lt1 ((bk ++ (([c3] : List (List UInt8))))) fun (c4 : List (List UInt8)) =>
          some ((({ Epoch := aa.Epoch, Other := aa.Other, First := aa.First, Queue := c4, Next := aa.Next, Early := aa.Early, SentAt := aa.SentAt } : Pe), 0))
        else none

def window_Emit_b1 (f : Pe) (aO : List (List UInt8)) (aZ : Int) (aA : Int) (a0 : List Pk) : Option ((Int × List Pk) ⊕ (List Pk)) :=
  if (decide (aA < aZ)) = true then
    if InR aA aO.length then
      (window_own (nth aO aA.toNat)).bind fun c5 =>
      lt1 ((w64 (f.First + aA))) fun (c6 : Int) =>
      if Fits (a0.length + 1) 56 then
        lt1 ((a0 ++ (([({ Epoch := f.Epoch, To := f.Other, Seq := c6, Ack := f.Next, Data := c5 } : Pk)] : List Pk)))) fun (c7 : List Pk) =>
        some (.inl (((w64 (aA + 1)), c7)))
      else none
    else none
  else
    some (.inr a0)
def window_Emit (f : Pe) (aq : Int) : Option (Pe × List Pk) :=
  ((window_valid f).bind fun c8 =>
  if (!c8) = true then
    some true
  else
    (window_between aq 0 1073741824).bind fun c9 =>
    some ((!c9)) : Option (Bool)).bind fun da =>
  if da = true then
    some ((f, []))
  else
    (if (decide (f.SentAt < 0)) = true then
      some true
    else
      if (decide (f.SentAt > aq)) = true then
        some true
      else
        some ((decide ((w64 (aq - f.SentAt)) ≥ 10))) : Option (Bool)).bind fun bL =>
    (if ((f.Queue.length : Int) == 0) = true then
      some true
    else
      some ((!bL)) : Option (Bool)).bind fun db =>
    if db = true then
      lt1 (([({ Epoch := f.Epoch, To := f.Other, Seq := (-1), Ack := f.Next, Data := [] } : Pk)] : List Pk)) fun (dc : List Pk) =>
      some ((f, dc))
    else
      (if InB ((mn64 16 ((f.Queue.length : Int)))) f.Queue.length then
        lt1 ((f.Queue.take (((mn64 16 ((f.Queue.length : Int)))).toNat))) fun (aO : List (List UInt8)) =>
        lt1 ((((f.Queue.take (((mn64 16 ((f.Queue.length : Int)))).toNat))).length : Int)) fun (aZ : Int) =>
        (loopO (fun (v : Int × List Pk) => window_Emit_b1 f aO aZ v.1 v.2) ((0, []))).bind fun dd =>
        some dd
      else none : Option (List Pk)).bind fun de =>
      some ((({ Epoch := f.Epoch, Other := f.Other, First := f.First, Queue := f.Queue, Next := f.Next, Early := f.Early, SentAt := aq } : Pe), de))

def r12_SamePacket (aB : Pk) (aC : Pk) : Option (Bool) :=
  (if (aB.Epoch == aC.Epoch) = true then
    if (aB.To == aC.To) = true then
      if (aB.Seq == aC.Seq) = true then
        if (aB.Ack == aC.Ack) = true then
          some ((aB.Data == aC.Data))
        else
          some false
      else
        some false
    else
      some false
  else
    some false : Option (Bool)).bind fun df =>
  some df

def r12_SameMessages_b1 (ar : List (List UInt8)) (aD : List (List UInt8)) (au : Int) : Option ((Int) ⊕ ((Unit) ⊕ ((Unit) ⊕ (Bool)))) :=
  if (decide (au < (ar.length : Int))) = true then
    if InR au ar.length then
      if InR au aD.length then
        if (!((nth ar au.toNat) == (nth aD au.toNat))) = true then
          ((some false).bind fun dg => some (.inr dg)).bind fun dh => some (.inr (.inr dh))
        else
          some (.inl ((w64 (au + 1))))
      else none
    else none
  else
    some (.inr (.inl (())))
def r12_SameMessages (ar : List (List UInt8)) (aD : List (List UInt8)) : Option (Bool) :=
  if ((ar.length : Int) != (aD.length : Int)) = true then
    some false
  else
    ((loopO (fun (v : Int) => r12_SameMessages_b1 ar aD v) 0).bind fun x => match x with
    | .inl () =>
      some (.inl (()))
    | .inr z => some z : Option ((Unit) ⊕ (Bool))).bind fun x => match x with
    | .inl () =>
      some true
    | .inr z => some z

def window_side_keep_1 (di : Pk) (bM : Int) : Option (Int) :=
  some ((w64 (di.Seq - bM)))

def slices_BinarySearchFunc_56_b1 (am : List Pk) (af : Int) (av : Pk → Int → Option (Int)) (aP : Int) (a1 : Int) : Option ((Int × Int) ⊕ (Int)) :=
  if (decide (aP < a1)) = true then
    lt1 ((w64 (((shr64 ((UInt64.ofInt ((w64 (aP + a1))))) ((1 : UInt64)).toNat)).toNat : Int))) fun (aQ : Int) =>
    if InR aQ am.length then
      (av (nth am aQ.toNat) af).bind fun dj =>
      if (decide (dj < 0)) = true then
        some (.inl (((w64 (aQ + 1)), a1)))
      else
        some (.inl ((aP, aQ)))
    else none
  else
    some (.inr aP)
def slices_BinarySearchFunc_56 (am : List Pk) (af : Int) (av : Pk → Int → Option (Int)) : Option (Int × Bool) :=
  ((loopO (fun (v : Int × Int) => slices_BinarySearchFunc_56_b1 am af av v.1 v.2) ((0, (am.length : Int)))).bind fun dk =>
  some dk : Option (Int)).bind fun aR =>
  (if (decide (aR < (am.length : Int))) = true then
    if InR aR am.length then
      (av (nth am aR.toNat) af).bind fun dl =>
      some ((dl == 0))
    else none
  else
    some false : Option (Bool)).bind fun dm =>
  some ((aR, dm))

def window_side_take (ag : Window_side) (bf : List UInt8) : Option (Window_side) :=
  (window_own bf).bind fun dn =>
  if Fits (ag.dz.length + 1) 24 then
    lt1 ((ag.dz ++ (([dn] : List (List UInt8))))) fun (dp : List (List UInt8)) =>
    lt1 ((w64 (ag.Peer.Next + 1))) fun (dq : Int) =>
    some (({ Peer := ({ Epoch := ag.Peer.Epoch, Other := ag.Peer.Other, First := ag.Peer.First, Queue := ag.Peer.Queue, Next := dq, Early := ag.Peer.Early, SentAt := ag.Peer.SentAt } : Pe), dz := dp } : Window_side))
  else none

def window_side_acknowledge (y : Window_side) (bl : Pk) : Option (Window_side) :=
  lt1 ((w64 (bl.Ack - y.Peer.First))) fun (aE : Int) =>
  (if (decide (aE > 0)) = true then
    some ((decide (aE ≤ (y.Peer.Queue.length : Int))))
  else
    some false : Option (Bool)).bind fun dr =>
  if dr = true then
    if InB aE y.Peer.Queue.length then
      lt1 (((y.Peer.Queue.drop aE.toNat).take (y.Peer.Queue.length - aE.toNat))) fun (ds : List (List UInt8)) =>
      some (({ Peer := ({ Epoch := y.Peer.Epoch, Other := y.Peer.Other, First := bl.Ack, Queue := ds, Next := y.Peer.Next, Early := y.Peer.Early, SentAt := (-1) } : Pe), dz := y.dz } : Window_side))
    else none
  else
    some (({ Peer := y.Peer, dz := y.dz } : Window_side))

def window_side_deliver_b1 (bm : Int) (bn : Int) (bo : Int) (bp : List (List UInt8)) (a2 : Int) (ap : List Pk) (bq : Int) (br : List (List UInt8)) : Option ((Int × Int × Int × List (List UInt8) × Int × List Pk × Int × List (List UInt8)) ⊕ (Int × Int × Int × List (List UInt8) × Int × List Pk × Int × List (List UInt8))) :=
  (if (decide ((ap.length : Int) > 0)) = true then
    if InR 0 ap.length then
      some (((nth ap 0).Seq == a2))
    else none
  else
    some false : Option (Bool)).bind fun dt =>
  if dt = true then
    if InR 0 ap.length then
      (window_side_take (({ Peer := ({ Epoch := bm, Other := bn, First := bo, Queue := bp, Next := a2, Early := ap, SentAt := bq } : Pe), dz := br } : Window_side)) ((nth ap 0).Data)).bind fun ae =>
      lt1 ae.dz fun (du : List (List UInt8)) =>
      if InB 1 ae.Peer.Early.length then
        lt1 (((ae.Peer.Early.drop 1).take (ae.Peer.Early.length - 1))) fun (dv : List Pk) =>
        some (.inl ((ae.Peer.Epoch, ae.Peer.Other, ae.Peer.First, ae.Peer.Queue, ae.Peer.Next, dv, ae.Peer.SentAt, du)))
      else none
    else none
  else
    some (.inr ((bm, bn, bo, bp, a2, ap, bq, br)))
def window_side_deliver (aF : Window_side) (bs : Pk) : Option (Window_side) :=
  if (bs.Seq != aF.Peer.Next) = true then
    some (({ Peer := aF.Peer, dz := aF.dz } : Window_side))
  else
    (window_side_take (({ Peer := aF.Peer, dz := aF.dz } : Window_side)) bs.Data).bind fun an =>
    lt1 an.dz fun (dw : List (List UInt8)) =>
    (loopO (fun (v : Int × Int × Int × List (List UInt8) × Int × List Pk × Int × List (List UInt8)) => window_side_deliver_b1 v.1 v.2.1 v.2.2.1 v.2.2.2.1 v.2.2.2.2.1 v.2.2.2.2.2.1 v.2.2.2.2.2.2.1 v.2.2.2.2.2.2.2) ((an.Peer.Epoch, an.Peer.Other, an.Peer.First, an.Peer.Queue, an.Peer.Next, an.Peer.Early, an.Peer.SentAt, dw))).bind fun (dx, dy, dA, dB, dC, dD, dE, dF) =>
    some (({ Peer := ({ Epoch := dx, Other := dy, First := dA, Queue := dB, Next := dC, Early := dD, SentAt := dE } : Pe), dz := dF } : Window_side))

def slices_Insert_58 (s : List Pk) (i : Int) (v : List Pk) : Option (List Pk) := insertO 56 s i v

def window_side_keep (r : Window_side) (aG : Pk) : Option (Window_side) :=
  (if (decide (aG.Seq ≤ r.Peer.Next)) = true then
    some true
  else
    some ((decide (aG.Seq ≥ (w64 (r.Peer.Next + 64))))) : Option (Bool)).bind fun dG =>
  if dG = true then
    some (({ Peer := r.Peer, dz := r.dz } : Window_side))
  else
    (slices_BinarySearchFunc_56 r.Peer.Early aG.Seq window_side_keep_1).bind fun bt =>
    if (!bt.2) = true then
      (slices_Clone_59 r.Peer.Early).bind fun dH =>
      (window_own aG.Data).bind fun dI =>
      (slices_Insert_58 dH bt.1 (([({ Epoch := 0, To := 0, Seq := aG.Seq, Ack := 0, Data := dI } : Pk)] : List Pk))).bind fun dJ =>
      some (({ Peer := ({ Epoch := r.Peer.Epoch, Other := r.Peer.Other, First := r.Peer.First, Queue := r.Peer.Queue, Next := r.Peer.Next, Early := dJ, SentAt := r.Peer.SentAt } : Pe), dz := r.dz } : Window_side))
    else
      some (({ Peer := r.Peer, dz := r.dz } : Window_side))

def window_Accept (u : Pe) (ab : Pk) : Option (Pe × List (List UInt8) × Bool) :=
  ((window_between ab.Epoch 0 1073741824).bind fun dK =>
  if dK = true then
    (window_between ab.Seq ((-1)) 1099511627775).bind fun dL =>
    if dL = true then
      (window_between ab.Ack 0 1099511627776).bind fun dM =>
      if dM = true then
        some ((decide ((ab.Data.length : Int) ≤ 8000)))
      else
        some false
    else
      some false
  else
    some false : Option (Bool)).bind fun bg =>
  (if (!bg) = true then
    some true
  else
    (window_valid u).bind fun dN =>
    if (!dN) = true then
      some true
    else
      some ((decide (ab.Epoch < u.Other))) : Option (Bool)).bind fun dO =>
  if dO = true then
    some ((u, [], false))
  else
    lt1 ((decide (ab.Epoch > u.Other))) fun (aN : Bool) =>
    (if aN = true then
      some ((ab.Epoch, 0, [], 0, [], (-1)))
    else
      some ((u.Other, u.First, u.Queue, u.Next, u.Early, u.SentAt)) : Option (Int × Int × List (List UInt8) × Int × List Pk × Int)).bind fun (bu, bv, bw, bx, bz, bA) =>
    (if (ab.To == u.Epoch) = true then
      (window_side_acknowledge (({ Peer := ({ Epoch := u.Epoch, Other := bu, First := bv, Queue := bw, Next := bx, Early := bz, SentAt := bA } : Pe), dz := [] } : Window_side)) ab).bind fun bB =>
      lt1 bB.dz fun (dP : List (List UInt8)) =>
      (window_side_keep (({ Peer := bB.Peer, dz := dP } : Window_side)) ab).bind fun bC =>
      lt1 bC.dz fun (dQ : List (List UInt8)) =>
      (window_side_deliver (({ Peer := bC.Peer, dz := dQ } : Window_side)) ab).bind fun ao =>
      lt1 ao.dz fun (dR : List (List UInt8)) =>
      some ((ao.Peer.Epoch, ao.Peer.Other, ao.Peer.First, ao.Peer.Queue, ao.Peer.Next, ao.Peer.Early, ao.Peer.SentAt, dR))
    else
      some ((u.Epoch, bu, bv, bw, bx, bz, bA, [])) : Option (Int × Int × Int × List (List UInt8) × Int × List Pk × Int × List (List UInt8))).bind fun (dS, dT, dU, dV, dW, dX, dY, dZ) =>
    some ((({ Epoch := dS, Other := dT, First := dU, Queue := dV, Next := dW, Early := dX, SentAt := dY } : Pe), dZ, aN))

def law12_sane  : Option (Bool) :=
  (window_New 3).bind fun bD =>
  (window_New 5).bind fun bE =>
  (window_New ((-1))).bind fun d0 =>
  (window_Emit bD.1 0).bind fun aw =>
  (if (bD.2 != 0) = true then
    some true
  else
    if (bE.2 != 0) = true then
      some true
    else
      if (d0.2 != 1) = true then
        some true
      else
        if ((aw.2.length : Int) != 1) = true then
          some true
        else
          if InR 0 aw.2.length then
            (r12_SamePacket (nth aw.2 0) (({ Epoch := 3, To := (-1), Seq := (-1), Ack := 0, Data := [] } : Pk))).bind fun d1 =>
            some ((!d1))
          else none : Option (Bool)).bind fun d2 =>
  if d2 = true then
    some false
  else
    if InR 0 aw.2.length then
      (window_Accept bE.1 (nth aw.2 0)).bind fun a3 =>
      (window_Emit a3.1 1).bind fun aH =>
      (if ((a3.2.1.length : Int) != 0) = true then
        some true
      else
        if (!a3.2.2) = true then
          some true
        else
          if (aH.1.Other != 3) = true then
            some true
          else
            some (((aH.2.length : Int) != 1)) : Option (Bool)).bind fun d3 =>
      if d3 = true then
        some false
      else
        if InR 0 aH.2.length then
          (window_Accept aw.1 (nth aH.2 0)).bind fun bF =>
          (window_Offer bF.1 (([(120 : UInt8)] : List UInt8))).bind fun bG =>
          (window_Emit bG.1 7).bind fun ah =>
          (if (!bF.2.2) = true then
            some true
          else
            if (bG.2 != 0) = true then
              some true
            else
              if ((ah.2.length : Int) != 1) = true then
                some true
              else
                if InR 0 ah.2.length then
                  (r12_SamePacket (nth ah.2 0) (({ Epoch := 3, To := 5, Seq := 0, Ack := 0, Data := ([(120 : UInt8)] : List UInt8) } : Pk))).bind fun d4 =>
                  some ((!d4))
                else none : Option (Bool)).bind fun d5 =>
          if d5 = true then
            some false
          else
            (window_Emit ah.1 8).bind fun a4 =>
            (window_Emit ah.1 17).bind fun a5 =>
            if InR 0 ah.2.length then
              (window_Accept aH.1 (nth ah.2 0)).bind fun aI =>
              if InR 0 ah.2.length then
                (window_Accept aI.1 (nth ah.2 0)).bind fun d6 =>
                (if ((a4.2.length : Int) == 1) = true then
                  if InR 0 a4.2.length then
                    if ((nth a4.2 0).Seq == (-1)) = true then
                      if ((a5.2.length : Int) == 1) = true then
                        if InR 0 a5.2.length then
                          if ((nth a5.2 0).Seq == 0) = true then
                            if ((aI.2.1.length : Int) == 1) = true then
                              if InR 0 aI.2.1.length then
                                if ((nth aI.2.1 0) == (([120] : List UInt8))) = true then
                                  if (aI.1.Next == 1) = true then
                                    some (((d6.2.1.length : Int) == 0))
                                  else
                                    some false
                                else
                                  some false
                              else none
                            else
                              some false
                          else
                            some false
                        else none
                      else
                        some false
                    else
                      some false
                  else none
                else
                  some false : Option (Bool)).bind fun d7 =>
                some d7
              else none
            else none
        else none
    else none

def law12_at (d8 : Int) (aJ : Int) : Option (Int) :=
  if ¬(UInt64.ofInt aJ) = 0 then
    lt1 ((w64 ((((UInt64.ofInt d8) % (UInt64.ofInt aJ))).toNat : Int))) fun (d9 : Int) =>
    some d9
  else none

def law12_begin  : Option (Pq × Bool) :=
  (window_New 0).bind fun bH =>
  (window_New 0).bind fun bI =>
  (if (bH.2 == 0) = true then
    some ((bI.2 == 0))
  else
    some false : Option (Bool)).bind fun ea =>
  some ((({ p := (bH.1, bI.1), way := ([], []), oz := ([], []), dz := ([], []), now := 0, resets := 0 } : Pq), ea))

def law12_pair_emit_c0 (d : Pq) : Option (List Pk × Pq × Nat × Nat × Nat × Nat × Nat × Nat) :=
  (window_Emit d.p.1 d.now).bind fun ax =>
  if (decide ((ax.2.length : Int) > 16)) = true then
    some (([], ({ p := (ax.1, d.p.2), way := (d.way.1, d.way.2), oz := (d.oz.1, d.oz.2), dz := (d.dz.1, d.dz.2), now := d.now, resets := d.resets } : Pq), d.way.1.length, d.way.2.length, d.oz.1.length, d.oz.2.length, d.dz.1.length, d.dz.2.length))
  else
    if Fits (d.way.2.length + ax.2.length) 56 then
      lt1 ((d.way.2 ++ ax.2)) fun (ai : List Pk) =>
      (if (decide ((ai.length : Int) > 200)) = true then
        if InB ((w64 ((ai.length : Int) - 200))) ai.length then
          lt1 (((w64 ((ai.length : Int) - 200))).toNat) fun (eb : Nat) =>
          lt1 ((ai.length - ((w64 ((ai.length : Int) - 200))).toNat)) fun (ez : Nat) =>
          some ((ai.drop eb))
        else none
      else
        some ai : Option (List Pk)).bind fun ec =>
      some ((ax.2, ({ p := (ax.1, d.p.2), way := (d.way.1, ec), oz := (d.oz.1, d.oz.2), dz := (d.dz.1, d.dz.2), now := d.now, resets := d.resets } : Pq), d.way.1.length, ai.length, d.oz.1.length, d.oz.2.length, d.dz.1.length, d.dz.2.length))
    else none

def law12_pair_emit_c1 (e : Pq) : Option (List Pk × Pq × Nat × Nat × Nat × Nat × Nat × Nat) :=
  (window_Emit e.p.2 e.now).bind fun ay =>
  if (decide ((ay.2.length : Int) > 16)) = true then
    some (([], ({ p := (e.p.1, ay.1), way := (e.way.1, e.way.2), oz := (e.oz.1, e.oz.2), dz := (e.dz.1, e.dz.2), now := e.now, resets := e.resets } : Pq), e.way.1.length, e.way.2.length, e.oz.1.length, e.oz.2.length, e.dz.1.length, e.dz.2.length))
  else
    if Fits (e.way.1.length + ay.2.length) 56 then
      lt1 ((e.way.1 ++ ay.2)) fun (aj : List Pk) =>
      (if (decide ((aj.length : Int) > 200)) = true then
        if InB ((w64 ((aj.length : Int) - 200))) aj.length then
          lt1 (((w64 ((aj.length : Int) - 200))).toNat) fun (ed : Nat) =>
          lt1 ((aj.length - ((w64 ((aj.length : Int) - 200))).toNat)) fun (eA : Nat) =>
          some ((aj.drop ed))
        else none
      else
        some aj : Option (List Pk)).bind fun ee =>
      some ((ay.2, ({ p := (e.p.1, ay.1), way := (ee, e.way.2), oz := (e.oz.1, e.oz.2), dz := (e.dz.1, e.dz.2), now := e.now, resets := e.resets } : Pq), aj.length, e.way.2.length, e.oz.1.length, e.oz.2.length, e.dz.1.length, e.dz.2.length))
    else none

def law12_pair_accept_c0 (n : Pq) (ef : Pk) : Option (Pq × Nat × Nat × Nat × Nat × Nat × Nat) :=
  (window_Accept n.p.1 ef).bind fun aS =>
  (if aS.2.2 = true then
    some (((w64 (n.resets + 1)), [], []))
  else
    some ((n.resets, n.oz.1, n.dz.1)) : Option (Int × List (List UInt8) × List (List UInt8))).bind fun (eg, eh, bJ) =>
  if Fits (bJ.length + aS.2.1.length) 24 then
    lt1 ((bJ ++ aS.2.1)) fun (ei : List (List UInt8)) =>
    some ((({ p := (aS.1, n.p.2), way := (n.way.1, n.way.2), oz := (eh, n.oz.2), dz := (ei, n.dz.2), now := n.now, resets := eg } : Pq), n.way.1.length, n.way.2.length, n.oz.1.length, n.oz.2.length, n.dz.1.length, n.dz.2.length))
  else none

def law12_pair_accept_c1 (o : Pq) (ej : Pk) : Option (Pq × Nat × Nat × Nat × Nat × Nat × Nat) :=
  (window_Accept o.p.2 ej).bind fun aT =>
  (if aT.2.2 = true then
    some (((w64 (o.resets + 1)), [], []))
  else
    some ((o.resets, o.oz.2, o.dz.2)) : Option (Int × List (List UInt8) × List (List UInt8))).bind fun (ek, el, bK) =>
  if Fits (bK.length + aT.2.1.length) 24 then
    lt1 ((bK ++ aT.2.1)) fun (bN : List (List UInt8)) =>
    some ((({ p := (o.p.1, aT.1), way := (o.way.1, o.way.2), oz := (o.oz.1, el), dz := (o.dz.1, bN), now := o.now, resets := ek } : Pq), o.way.1.length, o.way.2.length, o.oz.1.length, o.oz.2.length, o.dz.1.length, o.dz.2.length))
  else none

def law12_pair_act (a : Pq) (c : Aq) : Option (Pq × Nat × Nat × Nat × Nat × Nat × Nat) :=
  lt1 ((and64 c.Side 1)) fun (bO : Int) =>
  if (bO == 0) = true then
    lt1 ((a.way.1.length : Int)) fun (aK : Int) =>
    (if ((and64 c.Kind 7) == 0) = true then
      some (((and64 c.Kind 7) == 0))
    else
      some (((and64 c.Kind 7) == 5)) : Option (Bool)).bind fun bP =>
    if bP = true then
      (window_Offer a.p.1 c.Data).bind fun a6 =>
      if (a6.2 == 0) = true then
        if Fits (a.oz.1.length + 1) 24 then
          lt1 ((a.oz.1 ++ (([c.Data] : List (List UInt8))))) fun (a7 : List (List UInt8)) =>
          some ((({ p := (a6.1, a.p.2), way := (a.way.1, a.way.2), oz := (a7, a.oz.2), dz := (a.dz.1, a.dz.2), now := a.now, resets := a.resets } : Pq), a.way.1.length, a.way.2.length, a7.length, a.oz.2.length, a.dz.1.length, a.dz.2.length))
        else none
      else
        some ((({ p := (a.p.1, a.p.2), way := (a.way.1, a.way.2), oz := (a.oz.1, a.oz.2), dz := (a.dz.1, a.dz.2), now := a.now, resets := a.resets } : Pq), a.way.1.length, a.way.2.length, a.oz.1.length, a.oz.2.length, a.dz.1.length, a.dz.2.length))
    else
      (if ((and64 c.Kind 7) == 1) = true then
        some (((and64 c.Kind 7) == 1))
      else
        some (((and64 c.Kind 7) == 6)) : Option (Bool)).bind fun bQ =>
      if bQ = true then
        lt1 ((w64 (a.now + (and64 c.N 15)))) fun (bR : Int) =>
        (law12_pair_emit_c0 (({ p := (a.p.1, a.p.2), way := (a.way.1, a.way.2), oz := (a.oz.1, a.oz.2), dz := (a.dz.1, a.dz.2), now := bR, resets := a.resets } : Pq))).bind fun j =>
        some ((({ p := (j.2.1.p.1, j.2.1.p.2), way := (j.2.1.way.1, j.2.1.way.2), oz := (j.2.1.oz.1, j.2.1.oz.2), dz := (j.2.1.dz.1, j.2.1.dz.2), now := j.2.1.now, resets := j.2.1.resets } : Pq), j.2.2.1, j.2.2.2.1, j.2.2.2.2.1, j.2.2.2.2.2.1, j.2.2.2.2.2.2.1, j.2.2.2.2.2.2.2))
      else
        (if ((and64 c.Kind 7) == 2) = true then
          some (((and64 c.Kind 7) == 2))
        else
          some (((and64 c.Kind 7) == 7)) : Option (Bool)).bind fun bS =>
        if bS = true then
          if (decide (aK > 0)) = true then
            (law12_at c.N aK).bind fun a8 =>
            if InR a8 a.way.1.length then
              (law12_pair_accept_c0 (({ p := (a.p.1, a.p.2), way := (a.way.1, a.way.2), oz := (a.oz.1, a.oz.2), dz := (a.dz.1, a.dz.2), now := a.now, resets := a.resets } : Pq)) (nth a.way.1 a8.toNat)).bind fun k =>
              some ((({ p := (k.1.p.1, k.1.p.2), way := (k.1.way.1, k.1.way.2), oz := (k.1.oz.1, k.1.oz.2), dz := (k.1.dz.1, k.1.dz.2), now := k.1.now, resets := k.1.resets } : Pq), k.2.1, k.2.2.1, k.2.2.2.1, k.2.2.2.2.1, k.2.2.2.2.2.1, k.2.2.2.2.2.2))
            else none
          else
            some ((({ p := (a.p.1, a.p.2), way := (a.way.1, a.way.2), oz := (a.oz.1, a.oz.2), dz := (a.dz.1, a.dz.2), now := a.now, resets := a.resets } : Pq), a.way.1.length, a.way.2.length, a.oz.1.length, a.oz.2.length, a.dz.1.length, a.dz.2.length))
        else
          if ((and64 c.Kind 7) == 3) = true then
            if (decide (aK > 0)) = true then
              (law12_at c.N aK).bind fun ac =>
              if InB ac a.way.1.length then
                if Fits (0 + ((a.way.1.take ac.toNat)).length) 56 then
                  if InB ((w64 (ac + 1))) a.way.1.length then
                    if Fits ((((([] : List Pk)) ++ ((a.way.1.take ac.toNat)))).length + (((a.way.1.drop (((w64 (ac + 1))).toNat)).take ((a.way.1.length - ((w64 (ac + 1))).toNat)))).length) 56 then
                      lt1 (((((([] : List Pk)) ++ ((a.way.1.take ac.toNat)))) ++ (((a.way.1.drop (((w64 (ac + 1))).toNat)).take ((a.way.1.length - ((w64 (ac + 1))).toNat)))))) fun (bT : List Pk) =>
                      some ((({ p := (a.p.1, a.p.2), way := (bT, a.way.2), oz := (a.oz.1, a.oz.2), dz := (a.dz.1, a.dz.2), now := a.now, resets := a.resets } : Pq), a.way.1.length, a.way.2.length, a.oz.1.length, a.oz.2.length, a.dz.1.length, a.dz.2.length))
                    else none
                  else none
                else none
              else none
            else
              some ((({ p := (a.p.1, a.p.2), way := (a.way.1, a.way.2), oz := (a.oz.1, a.oz.2), dz := (a.dz.1, a.dz.2), now := a.now, resets := a.resets } : Pq), a.way.1.length, a.way.2.length, a.oz.1.length, a.oz.2.length, a.dz.1.length, a.dz.2.length))
          else
            if ((and64 c.Kind 7) == 4) = true then
              (window_New ((w64 (a.p.1.Epoch + 1)))).bind fun a9 =>
              if (a9.2 == 0) = true then
                some ((({ p := (a9.1, a.p.2), way := (a.way.1, a.way.2), oz := ([], a.oz.2), dz := ([], a.dz.2), now := a.now, resets := a.resets } : Pq), a.way.1.length, a.way.2.length, a.oz.1.length, a.oz.2.length, a.dz.1.length, a.dz.2.length))
              else
                some ((({ p := (a.p.1, a.p.2), way := (a.way.1, a.way.2), oz := (a.oz.1, a.oz.2), dz := (a.dz.1, a.dz.2), now := a.now, resets := a.resets } : Pq), a.way.1.length, a.way.2.length, a.oz.1.length, a.oz.2.length, a.dz.1.length, a.dz.2.length))
            else
              some ((({ p := (a.p.1, a.p.2), way := (a.way.1, a.way.2), oz := (a.oz.1, a.oz.2), dz := (a.dz.1, a.dz.2), now := a.now, resets := a.resets } : Pq), a.way.1.length, a.way.2.length, a.oz.1.length, a.oz.2.length, a.dz.1.length, a.dz.2.length))
  else
    lt1 ((a.way.2.length : Int)) fun (aL : Int) =>
    (if ((and64 c.Kind 7) == 0) = true then
      some (((and64 c.Kind 7) == 0))
    else
      some (((and64 c.Kind 7) == 5)) : Option (Bool)).bind fun bU =>
    if bU = true then
      (window_Offer a.p.2 c.Data).bind fun ba =>
      if (ba.2 == 0) = true then
        if Fits (a.oz.2.length + 1) 24 then
          lt1 ((a.oz.2 ++ (([c.Data] : List (List UInt8))))) fun (bb : List (List UInt8)) =>
          some ((({ p := (a.p.1, ba.1), way := (a.way.1, a.way.2), oz := (a.oz.1, bb), dz := (a.dz.1, a.dz.2), now := a.now, resets := a.resets } : Pq), a.way.1.length, a.way.2.length, a.oz.1.length, bb.length, a.dz.1.length, a.dz.2.length))
        else none
      else
        some ((({ p := (a.p.1, a.p.2), way := (a.way.1, a.way.2), oz := (a.oz.1, a.oz.2), dz := (a.dz.1, a.dz.2), now := a.now, resets := a.resets } : Pq), a.way.1.length, a.way.2.length, a.oz.1.length, a.oz.2.length, a.dz.1.length, a.dz.2.length))
    else
      (if ((and64 c.Kind 7) == 1) = true then
        some (((and64 c.Kind 7) == 1))
      else
        some (((and64 c.Kind 7) == 6)) : Option (Bool)).bind fun bV =>
      if bV = true then
        lt1 ((w64 (a.now + (and64 c.N 15)))) fun (bW : Int) =>
        (law12_pair_emit_c1 (({ p := (a.p.1, a.p.2), way := (a.way.1, a.way.2), oz := (a.oz.1, a.oz.2), dz := (a.dz.1, a.dz.2), now := bW, resets := a.resets } : Pq))).bind fun l =>
        some ((({ p := (l.2.1.p.1, l.2.1.p.2), way := (l.2.1.way.1, l.2.1.way.2), oz := (l.2.1.oz.1, l.2.1.oz.2), dz := (l.2.1.dz.1, l.2.1.dz.2), now := l.2.1.now, resets := l.2.1.resets } : Pq), l.2.2.1, l.2.2.2.1, l.2.2.2.2.1, l.2.2.2.2.2.1, l.2.2.2.2.2.2.1, l.2.2.2.2.2.2.2))
      else
        (if ((and64 c.Kind 7) == 2) = true then
          some (((and64 c.Kind 7) == 2))
        else
          some (((and64 c.Kind 7) == 7)) : Option (Bool)).bind fun bX =>
        if bX = true then
          if (decide (aL > 0)) = true then
            (law12_at c.N aL).bind fun bc =>
            if InR bc a.way.2.length then
              (law12_pair_accept_c1 (({ p := (a.p.1, a.p.2), way := (a.way.1, a.way.2), oz := (a.oz.1, a.oz.2), dz := (a.dz.1, a.dz.2), now := a.now, resets := a.resets } : Pq)) (nth a.way.2 bc.toNat)).bind fun m =>
              some ((({ p := (m.1.p.1, m.1.p.2), way := (m.1.way.1, m.1.way.2), oz := (m.1.oz.1, m.1.oz.2), dz := (m.1.dz.1, m.1.dz.2), now := m.1.now, resets := m.1.resets } : Pq), m.2.1, m.2.2.1, m.2.2.2.1, m.2.2.2.2.1, m.2.2.2.2.2.1, m.2.2.2.2.2.2))
            else none
          else
            some ((({ p := (a.p.1, a.p.2), way := (a.way.1, a.way.2), oz := (a.oz.1, a.oz.2), dz := (a.dz.1, a.dz.2), now := a.now, resets := a.resets } : Pq), a.way.1.length, a.way.2.length, a.oz.1.length, a.oz.2.length, a.dz.1.length, a.dz.2.length))
        else
          if ((and64 c.Kind 7) == 3) = true then
            if (decide (aL > 0)) = true then
              (law12_at c.N aL).bind fun ad =>
              if InB ad a.way.2.length then
                if Fits (0 + ((a.way.2.take ad.toNat)).length) 56 then
                  if InB ((w64 (ad + 1))) a.way.2.length then
                    if Fits ((((([] : List Pk)) ++ ((a.way.2.take ad.toNat)))).length + (((a.way.2.drop (((w64 (ad + 1))).toNat)).take ((a.way.2.length - ((w64 (ad + 1))).toNat)))).length) 56 then
                      lt1 (((((([] : List Pk)) ++ ((a.way.2.take ad.toNat)))) ++ (((a.way.2.drop (((w64 (ad + 1))).toNat)).take ((a.way.2.length - ((w64 (ad + 1))).toNat)))))) fun (bY : List Pk) =>
                      some ((({ p := (a.p.1, a.p.2), way := (a.way.1, bY), oz := (a.oz.1, a.oz.2), dz := (a.dz.1, a.dz.2), now := a.now, resets := a.resets } : Pq), a.way.1.length, a.way.2.length, a.oz.1.length, a.oz.2.length, a.dz.1.length, a.dz.2.length))
                    else none
                  else none
                else none
              else none
            else
              some ((({ p := (a.p.1, a.p.2), way := (a.way.1, a.way.2), oz := (a.oz.1, a.oz.2), dz := (a.dz.1, a.dz.2), now := a.now, resets := a.resets } : Pq), a.way.1.length, a.way.2.length, a.oz.1.length, a.oz.2.length, a.dz.1.length, a.dz.2.length))
          else
            if ((and64 c.Kind 7) == 4) = true then
              (window_New ((w64 (a.p.2.Epoch + 1)))).bind fun bd =>
              if (bd.2 == 0) = true then
                some ((({ p := (a.p.1, bd.1), way := (a.way.1, a.way.2), oz := (a.oz.1, []), dz := (a.dz.1, []), now := a.now, resets := a.resets } : Pq), a.way.1.length, a.way.2.length, a.oz.1.length, a.oz.2.length, a.dz.1.length, a.dz.2.length))
              else
                some ((({ p := (a.p.1, a.p.2), way := (a.way.1, a.way.2), oz := (a.oz.1, a.oz.2), dz := (a.dz.1, a.dz.2), now := a.now, resets := a.resets } : Pq), a.way.1.length, a.way.2.length, a.oz.1.length, a.oz.2.length, a.dz.1.length, a.dz.2.length))
            else
              some ((({ p := (a.p.1, a.p.2), way := (a.way.1, a.way.2), oz := (a.oz.1, a.oz.2), dz := (a.dz.1, a.dz.2), now := a.now, resets := a.resets } : Pq), a.way.1.length, a.way.2.length, a.oz.1.length, a.oz.2.length, a.dz.1.length, a.dz.2.length))

def law12_pair_right (b : Pq) : Option (Bool × Pq × Nat × Nat × Nat × Nat × Nat × Nat) :=
  (((if (b.p.1.Other != b.p.2.Epoch) = true then
    some true
  else
    some ((b.p.2.Other != b.p.1.Epoch)) : Option (Bool)).bind fun bZ =>
  if bZ = true then
    some (.inl (()))
  else
    lt1 ((b.dz.1.length : Int)) fun (aV : Int) =>
    (if (decide (aV > (b.oz.2.length : Int))) = true then
      some true
    else
      if InB aV b.oz.2.length then
        (r12_SameMessages b.dz.1 ((b.oz.2.take aV.toNat))).bind fun b0 =>
        some ((!b0))
      else none : Option (Bool)).bind fun b1 =>
    if b1 = true then
      ((some ((false, ({ p := (b.p.1, b.p.2), way := (b.way.1, b.way.2), oz := (b.oz.1, b.oz.2), dz := (b.dz.1, b.dz.2), now := b.now, resets := b.resets } : Pq), b.way.1.length, b.way.2.length, b.oz.1.length, b.oz.2.length, b.dz.1.length, b.dz.2.length))).bind fun b2 => some (.inr b2)).bind fun b3 => some (.inr b3)
    else
      some (.inl (())) : Option ((Unit) ⊕ ((Unit) ⊕ (Bool × Pq × Nat × Nat × Nat × Nat × Nat × Nat)))).bind fun x => match x with
  | .inl () =>
    ((if (b.p.2.Other != b.p.1.Epoch) = true then
      some true
    else
      some ((b.p.1.Other != b.p.2.Epoch)) : Option (Bool)).bind fun b4 =>
    if b4 = true then
      some (.inl (()))
    else
      lt1 ((b.dz.2.length : Int)) fun (aW : Int) =>
      (if (decide (aW > (b.oz.1.length : Int))) = true then
        some true
      else
        if InB aW b.oz.1.length then
          (r12_SameMessages b.dz.2 ((b.oz.1.take aW.toNat))).bind fun b5 =>
          some ((!b5))
        else none : Option (Bool)).bind fun b6 =>
      if b6 = true then
        ((some ((false, ({ p := (b.p.1, b.p.2), way := (b.way.1, b.way.2), oz := (b.oz.1, b.oz.2), dz := (b.dz.1, b.dz.2), now := b.now, resets := b.resets } : Pq), b.way.1.length, b.way.2.length, b.oz.1.length, b.oz.2.length, b.dz.1.length, b.dz.2.length))).bind fun b7 => some (.inr b7)).bind fun b8 => some (.inr b8)
      else
        some (.inl (())) : Option ((Unit) ⊕ ((Unit) ⊕ (Bool × Pq × Nat × Nat × Nat × Nat × Nat × Nat)))).bind fun x => match x with
    | .inl () =>
      some (.inl (()))
    | .inr z => some z
  | .inr z => some z : Option ((Unit) ⊕ (Bool × Pq × Nat × Nat × Nat × Nat × Nat × Nat))).bind fun x => match x with
  | .inl () =>
    some ((true, ({ p := (b.p.1, b.p.2), way := (b.way.1, b.way.2), oz := (b.oz.1, b.oz.2), dz := (b.dz.1, b.dz.2), now := b.now, resets := b.resets } : Pq), b.way.1.length, b.way.2.length, b.oz.1.length, b.oz.2.length, b.dz.1.length, b.dz.2.length))
  | .inr z => some z

def law12_WindowDelivers_b1 (q : List Aq) (ak : Int) (b9 : Int) (ca : Int) (cb : Int) (cc : List (List UInt8)) (cd : Int) (ce : List Pk) (cf : Int) (cg : Int) (ch : Int) (ci : Int) (cj : List (List UInt8)) (ck : Int) (cl : List Pk) (cm : Int) (cn : Int) (co : Int) (cp : List Pk) (cq : List Pk) (cr : List (List UInt8)) (cs : List (List UInt8)) (ct : List (List UInt8)) (cu : List (List UInt8)) : Option ((Int × Int × Int × Int × List (List UInt8) × Int × List Pk × Int × Int × Int × Int × List (List UInt8) × Int × List Pk × Int × Int × Int × List Pk × List Pk × List (List UInt8) × List (List UInt8) × List (List UInt8) × List (List UInt8)) ⊕ ((Unit) ⊕ ((Unit) ⊕ (Bool)))) :=
  (if (decide (ak < (q.length : Int))) = true then
    some ((decide (ak < 150)))
  else
    some false : Option (Bool)).bind fun cv =>
  if cv = true then
    if InR ak q.length then
      lt1 ((decide ((((nth q ak.toNat).Data).length : Int) > 100))) fun (cw : Bool) =>
      if cw = true then
        ((some true).bind fun cx => some (.inr cx)).bind fun cy => some (.inr (.inr cy))
      else
        if InR ak q.length then
          (law12_pair_act (({ p := (({ Epoch := b9, Other := ca, First := cb, Queue := cc, Next := cd, Early := ce, SentAt := cf } : Pe), ({ Epoch := cg, Other := ch, First := ci, Queue := cj, Next := ck, Early := cl, SentAt := cm } : Pe)), way := (cp, cq), oz := (cr, cs), dz := (ct, cu), now := cn, resets := co } : Pq)) (nth q ak.toNat)).bind fun w =>
          lt1 w.1.way.1 fun (cz : List Pk) =>
          lt1 w.1.way.2 fun (cA : List Pk) =>
          lt1 w.1.oz.1 fun (cB : List (List UInt8)) =>
          lt1 w.1.oz.2 fun (cC : List (List UInt8)) =>
          lt1 w.1.dz.1 fun (cD : List (List UInt8)) =>
          lt1 w.1.dz.2 fun (cE : List (List UInt8)) =>
          (law12_pair_right (({ p := (w.1.p.1, w.1.p.2), way := (cz, cA), oz := (cB, cC), dz := (cD, cE), now := w.1.now, resets := w.1.resets } : Pq))).bind fun g =>
          lt1 g.2.1.way.1 fun (cF : List Pk) =>
          lt1 g.2.1.way.2 fun (cG : List Pk) =>
          lt1 g.2.1.oz.1 fun (cH : List (List UInt8)) =>
          lt1 g.2.1.oz.2 fun (cI : List (List UInt8)) =>
          lt1 g.2.1.dz.1 fun (cJ : List (List UInt8)) =>
          lt1 g.2.1.dz.2 fun (cL : List (List UInt8)) =>
          if (!g.1) = true then
            ((some false).bind fun cM => some (.inr cM)).bind fun cN => some (.inr (.inr cN))
          else
            some (.inl (((w64 (ak + 1)), g.2.1.p.1.Epoch, g.2.1.p.1.Other, g.2.1.p.1.First, g.2.1.p.1.Queue, g.2.1.p.1.Next, g.2.1.p.1.Early, g.2.1.p.1.SentAt, g.2.1.p.2.Epoch, g.2.1.p.2.Other, g.2.1.p.2.First, g.2.1.p.2.Queue, g.2.1.p.2.Next, g.2.1.p.2.Early, g.2.1.p.2.SentAt, g.2.1.now, g.2.1.resets, cF, cG, cH, cI, cJ, cL)))
        else none
    else none
  else
    some (.inr (.inl (())))
def law12_WindowDelivers (q : List Aq) : Option (Bool) :=
  law12_begin.bind fun h =>
  (law12_sane.bind fun cO =>
  if (!cO) = true then
    some true
  else
    some ((!h.2)) : Option (Bool)).bind fun cP =>
  if cP = true then
    some false
  else
    ((loopO (fun (v : Int × Int × Int × Int × List (List UInt8) × Int × List Pk × Int × Int × Int × Int × List (List UInt8) × Int × List Pk × Int × Int × Int × List Pk × List Pk × List (List UInt8) × List (List UInt8) × List (List UInt8) × List (List UInt8)) => law12_WindowDelivers_b1 q v.1 v.2.1 v.2.2.1 v.2.2.2.1 v.2.2.2.2.1 v.2.2.2.2.2.1 v.2.2.2.2.2.2.1 v.2.2.2.2.2.2.2.1 v.2.2.2.2.2.2.2.2.1 v.2.2.2.2.2.2.2.2.2.1 v.2.2.2.2.2.2.2.2.2.2.1 v.2.2.2.2.2.2.2.2.2.2.2.1 v.2.2.2.2.2.2.2.2.2.2.2.2.1 v.2.2.2.2.2.2.2.2.2.2.2.2.2.1 v.2.2.2.2.2.2.2.2.2.2.2.2.2.2.1 v.2.2.2.2.2.2.2.2.2.2.2.2.2.2.2.1 v.2.2.2.2.2.2.2.2.2.2.2.2.2.2.2.2.1 v.2.2.2.2.2.2.2.2.2.2.2.2.2.2.2.2.2.1 v.2.2.2.2.2.2.2.2.2.2.2.2.2.2.2.2.2.2.1 v.2.2.2.2.2.2.2.2.2.2.2.2.2.2.2.2.2.2.2.1 v.2.2.2.2.2.2.2.2.2.2.2.2.2.2.2.2.2.2.2.2.1 v.2.2.2.2.2.2.2.2.2.2.2.2.2.2.2.2.2.2.2.2.2.1 v.2.2.2.2.2.2.2.2.2.2.2.2.2.2.2.2.2.2.2.2.2.2) ((0, h.1.p.1.Epoch, h.1.p.1.Other, h.1.p.1.First, h.1.p.1.Queue, h.1.p.1.Next, h.1.p.1.Early, h.1.p.1.SentAt, h.1.p.2.Epoch, h.1.p.2.Other, h.1.p.2.First, h.1.p.2.Queue, h.1.p.2.Next, h.1.p.2.Early, h.1.p.2.SentAt, h.1.now, h.1.resets, [], [], [], [], [], []))).bind fun x => match x with
    | .inl () =>
      some (.inl (()))
    | .inr z => some z : Option ((Unit) ⊕ (Bool))).bind fun x => match x with
    | .inl () =>
      some true
    | .inr z => some z

end Go.Proofs.Ytomjphpnpcgacaa
/-
  Readings of arguments of chapter 12.
-/
namespace Go.Proofs.Ytomjphpnpcgacaa
open Go.Rv Go.ChangeShapes Go.WideShapes Go.ChangeAt Go.RowKit
set_option linter.unusedVariables false

theorem bulk_all (H : Type) (l : List (DataW H)) : (l.map (Rows.uptoBulk (H := H))).sum = Rows.uptoBulkAll l := by
  induction l with
  | nil => rfl
  | cons x l ih => simp only [List.map_cons, List.sum_cons, ih, Rows.uptoBulkAll]

theorem bulk_ok : BulkOk (fun H => Rows.uptoBulk (H := H)) where
  one := fun H d => by
    cases d with
    | lit l => cases l <;> simp [Rows.uptoBulk]
    | _ => simp [Rows.uptoBulk]
  str := fun H l => by simp [Rows.uptoBulk]
  slice := fun H e s => by rw [bulk_all]; simp only [Rows.uptoBulk]; omega
  agg := fun H p => by rw [bulk_all]; simp only [Rows.uptoBulk]; omega

theorem cells_of_3 : Try.prog.cellsOf 3 = 1 := by kernel_rfl
theorem cells_of_5 : Try.prog.cellsOf 5 = 1 := by kernel_rfl
theorem cells_of_26 : Try.prog.cellsOf 26 = 1 := by kernel_rfl
theorem cells_of_22 : Try.prog.cellsOf 22 = 1 := by kernel_rfl
theorem cells_of_23 : Try.prog.cellsOf 23 = 1 := by kernel_rfl
theorem cells_of_39 : Try.prog.cellsOf 39 = 5 := by kernel_rfl
theorem cells_of_25 : Try.prog.cellsOf 25 = 7 := by kernel_rfl
theorem opens3 : Opens Try.prog (fun H => Rows.uptoBulk (H := H)) 3 cI64 (fun _ => 1) (fun x => -9223372036854775808 ≤ x ∧ x ≤ 9223372036854775807) := opens_i64 bulk_ok Try.underlying3
theorem opens26 : Opens Try.prog (fun H => Rows.uptoBulk (H := H)) 26 (cSl cU8) (fun _ => 0) (fun _ => True) :=
  fun H enc W pr hpr fuel cs d ps h => by
    obtain ⟨x, h1, _, _, h4⟩ := opens_slice bulk_ok Try.underlying26 cells_of_5 (fun _ => rfl) (opens_u8 bulk_ok Try.underlying5) H enc W pr hpr fuel cs d ps h
    exact ⟨x, h1, Nat.zero_le _, trivial, h4⟩
theorem opens22 : Opens Try.prog (fun H => Rows.uptoBulk (H := H)) 22 (cSl (cSl cU8)) (fun _ => 0) (fun _ => True) :=
  fun H enc W pr hpr fuel cs d ps h => by
    obtain ⟨x, h1, _, _, h4⟩ := opens_slice bulk_ok Try.underlying22 cells_of_26 (fun _ => rfl) opens26 H enc W pr hpr fuel cs d ps h
    exact ⟨x, h1, Nat.zero_le _, trivial, h4⟩
theorem opens39 : Opens Try.prog (fun H => Rows.uptoBulk (H := H)) 39 cK (fun _ => 0) (fun _ => True) :=
  opens_struct bulk_ok Try.underlying39 (n := 5) cells_of_39
    (opensFs_cons (k := 1) rfl cells_of_3 (fun _ => rfl) opens3 (opensFs_cons (k := 1) rfl cells_of_3 (fun _ => rfl) opens3 (opensFs_cons (k := 1) rfl cells_of_3 (fun _ => rfl) opens3 (opensFs_cons (k := 1) rfl cells_of_3 (fun _ => rfl) opens3 (opensFs_cons (k := 1) rfl cells_of_26 (fun _ => rfl) opens26 opensFs_nil)))))
    (fun x => (⟨x.1, x.2.1, x.2.2.1, x.2.2.2.1, x.2.2.2.2.1⟩ : Pk)) (fun _ => rfl) (fun _ => rfl) (fun _ => Nat.zero_le _) (fun _ _ => trivial)
theorem opens23 : Opens Try.prog (fun H => Rows.uptoBulk (H := H)) 23 (cSl cK) (fun _ => 0) (fun _ => True) :=
  fun H enc W pr hpr fuel cs d ps h => by
    obtain ⟨x, h1, _, _, h4⟩ := opens_slice bulk_ok Try.underlying23 cells_of_39 (fun _ => rfl) opens39 H enc W pr hpr fuel cs d ps h
    exact ⟨x, h1, Nat.zero_le _, trivial, h4⟩
theorem opens25 : Opens Try.prog (fun H => Rows.uptoBulk (H := H)) 25 cPe (fun _ => 0) (fun _ => True) :=
  opens_struct bulk_ok Try.underlying25 (n := 7) cells_of_25
    (opensFs_cons (k := 1) rfl cells_of_3 (fun _ => rfl) opens3 (opensFs_cons (k := 1) rfl cells_of_3 (fun _ => rfl) opens3 (opensFs_cons (k := 1) rfl cells_of_3 (fun _ => rfl) opens3 (opensFs_cons (k := 1) rfl cells_of_22 (fun _ => rfl) opens22 (opensFs_cons (k := 1) rfl cells_of_3 (fun _ => rfl) opens3 (opensFs_cons (k := 1) rfl cells_of_23 (fun _ => rfl) opens23 (opensFs_cons (k := 1) rfl cells_of_3 (fun _ => rfl) opens3 opensFs_nil)))))))
    (fun x => (⟨x.1, x.2.1, x.2.2.1, x.2.2.2.1, x.2.2.2.2.1, x.2.2.2.2.2.1, x.2.2.2.2.2.2.1⟩ : Pe)) (fun _ => rfl) (fun _ => rfl) (fun _ => Nat.zero_le _) (fun _ _ => trivial)

theorem opens58 : Opens Try.prog (fun H => Rows.uptoBulk (H := H)) 58 (cSl cI64) (fun _ => 0) (fun _ => True) :=
  fun H enc W pr hpr fuel cs d ps h => by
    obtain ⟨x, h1, _, _, h4⟩ := opens_slice bulk_ok Try.underlying58 cells_of_3 (fun _ => rfl) opens3 H enc W pr hpr fuel cs d ps h
    exact ⟨x, h1, Nat.zero_le _, trivial, h4⟩

theorem own : ownKnob Try.prog.godebug = none := by kernel_rfl
theorem laid_ok : laidOutB Try.prog = true := by kernel_rfl
theorem G_none : ∀ i, B.G i = none := fun _ => rfl
end Go.Proofs.Ytomjphpnpcgacaa
/-
  Readings of scripts.
-/
namespace Go.Proofs.Ytomjphpnpcgacaa
open Go.Rv Go.ChangeShapes Go.WideShapes Go.ChangeAt Go.RowKit
set_option linter.unusedVariables false

theorem cells_of_49 : Try.prog.cellsOf 49 = 4 := by kernel_rfl
theorem opens49 : Opens Try.prog (fun H => Rows.uptoBulk (H := H)) 49 cAq (fun _ => 0) (fun _ => True) :=
  opens_struct bulk_ok Try.underlying49 (n := 4) cells_of_49
    (opensFs_cons (k := 1) rfl cells_of_3 (fun _ => rfl) opens3 (opensFs_cons (k := 1) rfl cells_of_3 (fun _ => rfl) opens3 (opensFs_cons (k := 1) rfl cells_of_3 (fun _ => rfl) opens3 (opensFs_cons (k := 1) rfl cells_of_26 (fun _ => rfl) opens26 opensFs_nil))))
    (fun x => (⟨x.1, x.2.1, x.2.2.1, x.2.2.2.1⟩ : Aq)) (fun _ => rfl) (fun _ => rfl) (fun _ => Nat.zero_le _) (fun _ _ => trivial)
theorem opens44 : Opens Try.prog (fun H => Rows.uptoBulk (H := H)) 44 (cSl cAq) (fun _ => 0) (fun _ => True) :=
  fun H enc W pr hpr fuel cs d ps h => by
    obtain ⟨x, h1, _, _, h4⟩ := opens_slice bulk_ok Try.underlying44 cells_of_49 (fun _ => rfl) opens49 H enc W pr hpr fuel cs d ps h
    exact ⟨x, h1, Nat.zero_le _, trivial, h4⟩
end Go.Proofs.Ytomjphpnpcgacaa
/-
  What the later functions compute.
-/
namespace Go.Proofs.Ytomjphpnpcgacaa
open Go.Rv
set_option linter.unusedVariables false
set_option linter.unusedSimpArgs false
set_option maxRecDepth 20000

def law12_pair_swap_b1 (h : List Pk × Pq × Nat × Nat × Nat × Nat × Nat × Nat) (r : Int) (u : Int) (w : Int) (y : Int) (aa : List (List UInt8)) (ab : Int) (ac : List Pk) (ad : Int) (ae : Int) (af : Int) (ag : Int) (ah : List (List UInt8)) (ai : Int) (aj : List Pk) (ak : Int) (al : Int) (am : Int) (an : List Pk) (ao : List Pk) (ap : List (List UInt8)) (aq : List (List UInt8)) (ar : List (List UInt8)) (au : List (List UInt8)) : Option ((Int × Int × Int × Int × List (List UInt8) × Int × List Pk × Int × Int × Int × Int × List (List UInt8) × Int × List Pk × Int × Int × Int × List Pk × List Pk × List (List UInt8) × List (List UInt8) × List (List UInt8) × List (List UInt8)) ⊕ (Int × Int × Int × List (List UInt8) × Int × List Pk × Int × Int × Int × Int × List (List UInt8) × Int × List Pk × Int × Int × Int × List Pk × List Pk × List (List UInt8) × List (List UInt8) × List (List UInt8) × List (List UInt8))) :=
  if (decide (r < (h.1.length : Int))) = true then
    if InR r h.1.length then
      (law12_pair_accept_c1 (({ p := (({ Epoch := u, Other := w, First := y, Queue := aa, Next := ab, Early := ac, SentAt := ad } : Pe), ({ Epoch := ae, Other := af, First := ag, Queue := ah, Next := ai, Early := aj, SentAt := ak } : Pe)), way := (an, ao), oz := (ap, aq), dz := (ar, au), now := al, resets := am } : Pq)) (nth h.1 r.toNat)).bind fun c =>
      lt1 c.1.way.1 fun (bY : List Pk) =>
      lt1 c.1.way.2 fun (bZ : List Pk) =>
      lt1 c.1.oz.1 fun (b0 : List (List UInt8)) =>
      lt1 c.1.oz.2 fun (b1 : List (List UInt8)) =>
      lt1 c.1.dz.1 fun (b2 : List (List UInt8)) =>
      lt1 c.1.dz.2 fun (b3 : List (List UInt8)) =>
      some (.inl (((w64 (r + 1)), c.1.p.1.Epoch, c.1.p.1.Other, c.1.p.1.First, c.1.p.1.Queue, c.1.p.1.Next, c.1.p.1.Early, c.1.p.1.SentAt, c.1.p.2.Epoch, c.1.p.2.Other, c.1.p.2.First, c.1.p.2.Queue, c.1.p.2.Next, c.1.p.2.Early, c.1.p.2.SentAt, c.1.now, c.1.resets, bY, bZ, b0, b1, b2, b3)))
    else none
  else
    some (.inr ((u, w, y, aa, ab, ac, ad, ae, af, ag, ah, ai, aj, ak, al, am, an, ao, ap, aq, ar, au)))
def law12_pair_swap_b2 (a : List Pk × Pq × Nat × Nat × Nat × Nat × Nat × Nat) (s : Int) (av : Int) (aw : Int) (ax : Int) (ay : List (List UInt8)) (az : Int) (aA : List Pk) (aB : Int) (aC : Int) (aD : Int) (aE : Int) (aF : List (List UInt8)) (aG : Int) (aH : List Pk) (aI : Int) (aJ : Int) (aK : Int) (aL : List Pk) (aM : List Pk) (aN : List (List UInt8)) (aO : List (List UInt8)) (aP : List (List UInt8)) (aQ : List (List UInt8)) : Option ((Int × Int × Int × Int × List (List UInt8) × Int × List Pk × Int × Int × Int × Int × List (List UInt8) × Int × List Pk × Int × Int × Int × List Pk × List Pk × List (List UInt8) × List (List UInt8) × List (List UInt8) × List (List UInt8)) ⊕ (Int × Int × Int × List (List UInt8) × Int × List Pk × Int × Int × Int × Int × List (List UInt8) × Int × List Pk × Int × Int × Int × List Pk × List Pk × List (List UInt8) × List (List UInt8) × List (List UInt8) × List (List UInt8))) :=
  if (decide (s < (a.1.length : Int))) = true then
    if InR s a.1.length then
      (law12_pair_accept_c0 (({ p := (({ Epoch := av, Other := aw, First := ax, Queue := ay, Next := az, Early := aA, SentAt := aB } : Pe), ({ Epoch := aC, Other := aD, First := aE, Queue := aF, Next := aG, Early := aH, SentAt := aI } : Pe)), way := (aL, aM), oz := (aN, aO), dz := (aP, aQ), now := aJ, resets := aK } : Pq)) (nth a.1 s.toNat)).bind fun d =>
      lt1 d.1.way.1 fun (b4 : List Pk) =>
      lt1 d.1.way.2 fun (b5 : List Pk) =>
      lt1 d.1.oz.1 fun (b6 : List (List UInt8)) =>
      lt1 d.1.oz.2 fun (b7 : List (List UInt8)) =>
      lt1 d.1.dz.1 fun (b8 : List (List UInt8)) =>
      lt1 d.1.dz.2 fun (b9 : List (List UInt8)) =>
      some (.inl (((w64 (s + 1)), d.1.p.1.Epoch, d.1.p.1.Other, d.1.p.1.First, d.1.p.1.Queue, d.1.p.1.Next, d.1.p.1.Early, d.1.p.1.SentAt, d.1.p.2.Epoch, d.1.p.2.Other, d.1.p.2.First, d.1.p.2.Queue, d.1.p.2.Next, d.1.p.2.Early, d.1.p.2.SentAt, d.1.now, d.1.resets, b4, b5, b6, b7, b8, b9)))
    else none
  else
    some (.inr ((av, aw, ax, ay, az, aA, aB, aC, aD, aE, aF, aG, aH, aI, aJ, aK, aL, aM, aN, aO, aP, aQ)))
def law12_pair_swap (k : Pq) : Option (Pq × Nat × Nat × Nat × Nat × Nat × Nat) :=
  (law12_pair_emit_c0 (({ p := (k.p.1, k.p.2), way := (k.way.1, k.way.2), oz := (k.oz.1, k.oz.2), dz := (k.dz.1, k.dz.2), now := (w64 (k.now + 10)), resets := k.resets } : Pq))).bind fun h =>
  lt1 h.2.1.way.1 fun (ca : List Pk) =>
  lt1 h.2.1.way.2 fun (cb : List Pk) =>
  lt1 h.2.1.oz.1 fun (cc : List (List UInt8)) =>
  lt1 h.2.1.oz.2 fun (cd : List (List UInt8)) =>
  lt1 h.2.1.dz.1 fun (ce : List (List UInt8)) =>
  lt1 h.2.1.dz.2 fun (cf : List (List UInt8)) =>
  (law12_pair_emit_c1 (({ p := (h.2.1.p.1, h.2.1.p.2), way := (ca, cb), oz := (cc, cd), dz := (ce, cf), now := h.2.1.now, resets := h.2.1.resets } : Pq))).bind fun a =>
  lt1 a.2.1.way.1 fun (cg : List Pk) =>
  lt1 a.2.1.way.2 fun (ch : List Pk) =>
  lt1 a.2.1.oz.1 fun (ci : List (List UInt8)) =>
  lt1 a.2.1.oz.2 fun (cj : List (List UInt8)) =>
  lt1 a.2.1.dz.1 fun (ck : List (List UInt8)) =>
  lt1 a.2.1.dz.2 fun (cl : List (List UInt8)) =>
  ((loopO (fun (v : Int × Int × Int × Int × List (List UInt8) × Int × List Pk × Int × Int × Int × Int × List (List UInt8) × Int × List Pk × Int × Int × Int × List Pk × List Pk × List (List UInt8) × List (List UInt8) × List (List UInt8) × List (List UInt8)) => law12_pair_swap_b1 h v.1 v.2.1 v.2.2.1 v.2.2.2.1 v.2.2.2.2.1 v.2.2.2.2.2.1 v.2.2.2.2.2.2.1 v.2.2.2.2.2.2.2.1 v.2.2.2.2.2.2.2.2.1 v.2.2.2.2.2.2.2.2.2.1 v.2.2.2.2.2.2.2.2.2.2.1 v.2.2.2.2.2.2.2.2.2.2.2.1 v.2.2.2.2.2.2.2.2.2.2.2.2.1 v.2.2.2.2.2.2.2.2.2.2.2.2.2.1 v.2.2.2.2.2.2.2.2.2.2.2.2.2.2.1 v.2.2.2.2.2.2.2.2.2.2.2.2.2.2.2.1 v.2.2.2.2.2.2.2.2.2.2.2.2.2.2.2.2.1 v.2.2.2.2.2.2.2.2.2.2.2.2.2.2.2.2.2.1 v.2.2.2.2.2.2.2.2.2.2.2.2.2.2.2.2.2.2.1 v.2.2.2.2.2.2.2.2.2.2.2.2.2.2.2.2.2.2.2.1 v.2.2.2.2.2.2.2.2.2.2.2.2.2.2.2.2.2.2.2.2.1 v.2.2.2.2.2.2.2.2.2.2.2.2.2.2.2.2.2.2.2.2.2.1 v.2.2.2.2.2.2.2.2.2.2.2.2.2.2.2.2.2.2.2.2.2.2) ((0, a.2.1.p.1.Epoch, a.2.1.p.1.Other, a.2.1.p.1.First, a.2.1.p.1.Queue, a.2.1.p.1.Next, a.2.1.p.1.Early, a.2.1.p.1.SentAt, a.2.1.p.2.Epoch, a.2.1.p.2.Other, a.2.1.p.2.First, a.2.1.p.2.Queue, a.2.1.p.2.Next, a.2.1.p.2.Early, a.2.1.p.2.SentAt, a.2.1.now, a.2.1.resets, cg, ch, ci, cj, ck, cl))).bind fun (cm, cn, co, cp, cq, cr, cs, ct, cu, cv, cw, cx, cy, cz, cA, cB, cC, cD, cE, cF, cG, cH) =>
  some ((cm, cn, co, cp, cq, cr, cs, ct, cu, cv, cw, cx, cy, cz, cA, cB, cC, cD, cE, cF, cG, cH)) : Option (Int × Int × Int × List (List UInt8) × Int × List Pk × Int × Int × Int × Int × List (List UInt8) × Int × List Pk × Int × Int × Int × List Pk × List Pk × List (List UInt8) × List (List UInt8) × List (List UInt8) × List (List UInt8))).bind fun (cI, cJ, cL, cM, cN, cO, cP, cQ, cR, cS, cT, cU, cV, cW, cX, cY, cZ, c0, c1, c2, c3, c4) =>
  (loopO (fun (v : Int × Int × Int × Int × List (List UInt8) × Int × List Pk × Int × Int × Int × Int × List (List UInt8) × Int × List Pk × Int × Int × Int × List Pk × List Pk × List (List UInt8) × List (List UInt8) × List (List UInt8) × List (List UInt8)) => law12_pair_swap_b2 a v.1 v.2.1 v.2.2.1 v.2.2.2.1 v.2.2.2.2.1 v.2.2.2.2.2.1 v.2.2.2.2.2.2.1 v.2.2.2.2.2.2.2.1 v.2.2.2.2.2.2.2.2.1 v.2.2.2.2.2.2.2.2.2.1 v.2.2.2.2.2.2.2.2.2.2.1 v.2.2.2.2.2.2.2.2.2.2.2.1 v.2.2.2.2.2.2.2.2.2.2.2.2.1 v.2.2.2.2.2.2.2.2.2.2.2.2.2.1 v.2.2.2.2.2.2.2.2.2.2.2.2.2.2.1 v.2.2.2.2.2.2.2.2.2.2.2.2.2.2.2.1 v.2.2.2.2.2.2.2.2.2.2.2.2.2.2.2.2.1 v.2.2.2.2.2.2.2.2.2.2.2.2.2.2.2.2.2.1 v.2.2.2.2.2.2.2.2.2.2.2.2.2.2.2.2.2.2.1 v.2.2.2.2.2.2.2.2.2.2.2.2.2.2.2.2.2.2.2.1 v.2.2.2.2.2.2.2.2.2.2.2.2.2.2.2.2.2.2.2.2.1 v.2.2.2.2.2.2.2.2.2.2.2.2.2.2.2.2.2.2.2.2.2.1 v.2.2.2.2.2.2.2.2.2.2.2.2.2.2.2.2.2.2.2.2.2.2) ((0, cI, cJ, cL, cM, cN, cO, cP, cQ, cR, cS, cT, cU, cV, cW, cX, cY, cZ, c0, c1, c2, c3, c4))).bind fun (c5, c6, c7, c8, c9, da, db, dc, dd, de, df, dg, dh, di, dj, dk, dl, dm, dn, dp, dq, dr) =>
  some ((({ p := (({ Epoch := c5, Other := c6, First := c7, Queue := c8, Next := c9, Early := da, SentAt := db } : Pe), ({ Epoch := dc, Other := dd, First := de, Queue := df, Next := dg, Early := dh, SentAt := di } : Pe)), way := (dl, dm), oz := (dn, dp), dz := (dq, dr), now := dj, resets := dk } : Pq), h.2.2.1, h.2.2.2.1, h.2.2.2.2.1, h.2.2.2.2.2.1, h.2.2.2.2.2.2.1, h.2.2.2.2.2.2.2))

def law12_WindowCompletes_b1 (j : List Aq) (n : Int) (aR : Int) (aS : Int) (aT : Int) (aU : List (List UInt8)) (aV : Int) (aW : List Pk) (aX : Int) (aY : Int) (aZ : Int) (a0 : Int) (a1 : List (List UInt8)) (a2 : Int) (a3 : List Pk) (a4 : Int) (a5 : Int) (a6 : Int) (a7 : List Pk) (a8 : List Pk) (a9 : List (List UInt8)) (ba : List (List UInt8)) (bb : List (List UInt8)) (bc : List (List UInt8)) : Option ((Int × Int × Int × Int × List (List UInt8) × Int × List Pk × Int × Int × Int × Int × List (List UInt8) × Int × List Pk × Int × Int × Int × List Pk × List Pk × List (List UInt8) × List (List UInt8) × List (List UInt8) × List (List UInt8)) ⊕ ((Int × Int × Int × List (List UInt8) × Int × List Pk × Int × Int × Int × Int × List (List UInt8) × Int × List Pk × Int × Int × Int × List Pk × List Pk × List (List UInt8) × List (List UInt8) × List (List UInt8) × List (List UInt8)) ⊕ ((Int × Int × Int × List (List UInt8) × Int × List Pk × Int × Int × Int × Int × List (List UInt8) × Int × List Pk × Int × Int × Int × List Pk × List Pk × List (List UInt8) × List (List UInt8) × List (List UInt8) × List (List UInt8)) ⊕ (Bool)))) :=
  (if (decide (n < (j.length : Int))) = true then
    some ((decide (n < 100)))
  else
    some false : Option (Bool)).bind fun ds =>
  if ds = true then
    if InR n j.length then
      lt1 ((decide ((((nth j n.toNat).Data).length : Int) > 100))) fun (dt : Bool) =>
      if dt = true then
        ((some true).bind fun du => some (.inr du)).bind fun dv => some (.inr (.inr dv))
      else
        if InR n j.length then
          (law12_pair_act (({ p := (({ Epoch := aR, Other := aS, First := aT, Queue := aU, Next := aV, Early := aW, SentAt := aX } : Pe), ({ Epoch := aY, Other := aZ, First := a0, Queue := a1, Next := a2, Early := a3, SentAt := a4 } : Pe)), way := (a7, a8), oz := (a9, ba), dz := (bb, bc), now := a5, resets := a6 } : Pq)) (nth j n.toNat)).bind fun e =>
          lt1 e.1.way.1 fun (dw : List Pk) =>
          lt1 e.1.way.2 fun (dx : List Pk) =>
          lt1 e.1.oz.1 fun (dy : List (List UInt8)) =>
          lt1 e.1.oz.2 fun (dA : List (List UInt8)) =>
          lt1 e.1.dz.1 fun (dB : List (List UInt8)) =>
          lt1 e.1.dz.2 fun (dC : List (List UInt8)) =>
          some (.inl (((w64 (n + 1)), e.1.p.1.Epoch, e.1.p.1.Other, e.1.p.1.First, e.1.p.1.Queue, e.1.p.1.Next, e.1.p.1.Early, e.1.p.1.SentAt, e.1.p.2.Epoch, e.1.p.2.Other, e.1.p.2.First, e.1.p.2.Queue, e.1.p.2.Next, e.1.p.2.Early, e.1.p.2.SentAt, e.1.now, e.1.resets, dw, dx, dy, dA, dB, dC)))
        else none
    else none
  else
    some (.inr (.inl ((aR, aS, aT, aU, aV, aW, aX, aY, aZ, a0, a1, a2, a3, a4, a5, a6, a7, a8, a9, ba, bb, bc))))
def law12_WindowCompletes_b2 (m : List (List UInt8)) (q : Int) (bd : Int) (be : Int) (bf : Int) (bg : List (List UInt8)) (bh : Int) (bi : List Pk) (bj : Int) (bk : Int) (bl : Int) (bm : Int) (bn : List (List UInt8)) (bo : Int) (bp : List Pk) (bq : Int) (br : Int) (bs : Int) (bt : List Pk) (bu : List Pk) (bv : List (List UInt8)) (bw : List (List UInt8)) (bx : List (List UInt8)) (bz : List (List UInt8)) : Option ((Int × Int × Int × Int × List (List UInt8) × Int × List Pk × Int × Int × Int × Int × List (List UInt8) × Int × List Pk × Int × Int × Int × List Pk × List Pk × List (List UInt8) × List (List UInt8) × List (List UInt8) × List (List UInt8)) ⊕ (Int × Int × Int × List (List UInt8) × Int × List Pk × Int × Int × Int × Int × List (List UInt8) × Int × List Pk × Int × Int × Int × List Pk × List Pk × List (List UInt8) × List (List UInt8) × List (List UInt8) × List (List UInt8))) :=
  (if (decide (q < (m.length : Int))) = true then
    some ((decide (q < 40)))
  else
    some false : Option (Bool)).bind fun dD =>
  if dD = true then
    if InR q m.length then
      (law12_pair_act (({ p := (({ Epoch := bd, Other := be, First := bf, Queue := bg, Next := bh, Early := bi, SentAt := bj } : Pe), ({ Epoch := bk, Other := bl, First := bm, Queue := bn, Next := bo, Early := bp, SentAt := bq } : Pe)), way := (bt, bu), oz := (bv, bw), dz := (bx, bz), now := br, resets := bs } : Pq)) (({ Kind := 0, Side := q, N := 0, Data := nth m q.toNat } : Aq))).bind fun f =>
      lt1 f.1.way.1 fun (dE : List Pk) =>
      lt1 f.1.way.2 fun (dF : List Pk) =>
      lt1 f.1.oz.1 fun (dG : List (List UInt8)) =>
      lt1 f.1.oz.2 fun (dH : List (List UInt8)) =>
      lt1 f.1.dz.1 fun (dI : List (List UInt8)) =>
      lt1 f.1.dz.2 fun (dJ : List (List UInt8)) =>
      some (.inl (((w64 (q + 1)), f.1.p.1.Epoch, f.1.p.1.Other, f.1.p.1.First, f.1.p.1.Queue, f.1.p.1.Next, f.1.p.1.Early, f.1.p.1.SentAt, f.1.p.2.Epoch, f.1.p.2.Other, f.1.p.2.First, f.1.p.2.Queue, f.1.p.2.Next, f.1.p.2.Early, f.1.p.2.SentAt, f.1.now, f.1.resets, dE, dF, dG, dH, dI, dJ)))
    else none
  else
    some (.inr ((bd, be, bf, bg, bh, bi, bj, bk, bl, bm, bn, bo, bp, bq, br, bs, bt, bu, bv, bw, bx, bz)))
def law12_WindowCompletes_b3 (o : Int) (t : Int) (bA : Int) (bB : Int) (bC : Int) (bD : List (List UInt8)) (bE : Int) (bF : List Pk) (bG : Int) (bH : Int) (bI : Int) (bJ : Int) (bK : List (List UInt8)) (bL : Int) (bM : List Pk) (bN : Int) (bO : Int) (bP : Int) (bQ : List Pk) (bR : List Pk) (bS : List (List UInt8)) (bT : List (List UInt8)) (bU : List (List UInt8)) (bV : List (List UInt8)) : Option ((Int × Int × Int × Int × List (List UInt8) × Int × List Pk × Int × Int × Int × Int × List (List UInt8) × Int × List Pk × Int × Int × Int × List Pk × List Pk × List (List UInt8) × List (List UInt8) × List (List UInt8) × List (List UInt8)) ⊕ (Int × Int × Int × List (List UInt8) × Int × List Pk × Int × Int × Int × Int × List (List UInt8) × Int × List Pk × Int × Int × Int × List Pk × List Pk × List (List UInt8) × List (List UInt8) × List (List UInt8) × List (List UInt8))) :=
  (if (decide (t < o)) = true then
    some ((decide (t < 50)))
  else
    some false : Option (Bool)).bind fun dK =>
  if dK = true then
    (law12_pair_swap (({ p := (({ Epoch := bA, Other := bB, First := bC, Queue := bD, Next := bE, Early := bF, SentAt := bG } : Pe), ({ Epoch := bH, Other := bI, First := bJ, Queue := bK, Next := bL, Early := bM, SentAt := bN } : Pe)), way := (bQ, bR), oz := (bS, bT), dz := (bU, bV), now := bO, resets := bP } : Pq))).bind fun g =>
    lt1 g.1.way.1 fun (dL : List Pk) =>
    lt1 g.1.way.2 fun (dM : List Pk) =>
    lt1 g.1.oz.1 fun (dN : List (List UInt8)) =>
    lt1 g.1.oz.2 fun (dO : List (List UInt8)) =>
    lt1 g.1.dz.1 fun (dP : List (List UInt8)) =>
    lt1 g.1.dz.2 fun (dQ : List (List UInt8)) =>
    some (.inl (((w64 (t + 1)), g.1.p.1.Epoch, g.1.p.1.Other, g.1.p.1.First, g.1.p.1.Queue, g.1.p.1.Next, g.1.p.1.Early, g.1.p.1.SentAt, g.1.p.2.Epoch, g.1.p.2.Other, g.1.p.2.First, g.1.p.2.Queue, g.1.p.2.Next, g.1.p.2.Early, g.1.p.2.SentAt, g.1.now, g.1.resets, dL, dM, dN, dO, dP, dQ)))
  else
    some (.inr ((bA, bB, bC, bD, bE, bF, bG, bH, bI, bJ, bK, bL, bM, bN, bO, bP, bQ, bR, bS, bT, bU, bV)))
def law12_WindowCompletes (j : List Aq) (m : List (List UInt8)) : Option (Bool) :=
  law12_begin.bind fun i =>
  (law12_sane.bind fun dR =>
  if (!dR) = true then
    some true
  else
    some ((!i.2)) : Option (Bool)).bind fun dS =>
  if dS = true then
    some false
  else
    ((loopO (fun (v : Int × Int × Int × Int × List (List UInt8) × Int × List Pk × Int × Int × Int × Int × List (List UInt8) × Int × List Pk × Int × Int × Int × List Pk × List Pk × List (List UInt8) × List (List UInt8) × List (List UInt8) × List (List UInt8)) => law12_WindowCompletes_b1 j v.1 v.2.1 v.2.2.1 v.2.2.2.1 v.2.2.2.2.1 v.2.2.2.2.2.1 v.2.2.2.2.2.2.1 v.2.2.2.2.2.2.2.1 v.2.2.2.2.2.2.2.2.1 v.2.2.2.2.2.2.2.2.2.1 v.2.2.2.2.2.2.2.2.2.2.1 v.2.2.2.2.2.2.2.2.2.2.2.1 v.2.2.2.2.2.2.2.2.2.2.2.2.1 v.2.2.2.2.2.2.2.2.2.2.2.2.2.1 v.2.2.2.2.2.2.2.2.2.2.2.2.2.2.1 v.2.2.2.2.2.2.2.2.2.2.2.2.2.2.2.1 v.2.2.2.2.2.2.2.2.2.2.2.2.2.2.2.2.1 v.2.2.2.2.2.2.2.2.2.2.2.2.2.2.2.2.2.1 v.2.2.2.2.2.2.2.2.2.2.2.2.2.2.2.2.2.2.1 v.2.2.2.2.2.2.2.2.2.2.2.2.2.2.2.2.2.2.2.1 v.2.2.2.2.2.2.2.2.2.2.2.2.2.2.2.2.2.2.2.2.1 v.2.2.2.2.2.2.2.2.2.2.2.2.2.2.2.2.2.2.2.2.2.1 v.2.2.2.2.2.2.2.2.2.2.2.2.2.2.2.2.2.2.2.2.2.2) ((0, i.1.p.1.Epoch, i.1.p.1.Other, i.1.p.1.First, i.1.p.1.Queue, i.1.p.1.Next, i.1.p.1.Early, i.1.p.1.SentAt, i.1.p.2.Epoch, i.1.p.2.Other, i.1.p.2.First, i.1.p.2.Queue, i.1.p.2.Next, i.1.p.2.Early, i.1.p.2.SentAt, i.1.now, i.1.resets, [], [], [], [], [], []))).bind fun x => match x with
    | .inl (dT, dU, dV, dW, dX, dY, dZ, d0, d1, d2, d3, d4, d5, d6, d7, d8, d9, ea, eb, ec, ed, ee) =>
      some (.inl ((dT, dU, dV, dW, dX, dY, dZ, d0, d1, d2, d3, d4, d5, d6, d7, d8, d9, ea, eb, ec, ed, ee)))
    | .inr z => some z : Option ((Int × Int × Int × List (List UInt8) × Int × List Pk × Int × Int × Int × Int × List (List UInt8) × Int × List Pk × Int × Int × Int × List Pk × List Pk × List (List UInt8) × List (List UInt8) × List (List UInt8) × List (List UInt8)) ⊕ (Bool))).bind fun x => match x with
    | .inl (ef, eg, eh, ei, ej, ek, el, em, en, eo, ep, eq, er, es, et, eu, ev, ew, ex, ey, ez, eA) =>
      (law12_pair_swap (({ p := (({ Epoch := ef, Other := eg, First := eh, Queue := ei, Next := ej, Early := ek, SentAt := el } : Pe), ({ Epoch := em, Other := en, First := eo, Queue := ep, Next := eq, Early := er, SentAt := es } : Pe)), way := (ev, ew), oz := (ex, ey), dz := (ez, eA), now := et, resets := eu } : Pq))).bind fun l =>
      lt1 l.1.way.1 fun (eB : List Pk) =>
      lt1 l.1.way.2 fun (eC : List Pk) =>
      lt1 l.1.oz.1 fun (eD : List (List UInt8)) =>
      lt1 l.1.oz.2 fun (eE : List (List UInt8)) =>
      lt1 l.1.dz.1 fun (eF : List (List UInt8)) =>
      lt1 l.1.dz.2 fun (eG : List (List UInt8)) =>
      (law12_pair_swap (({ p := (l.1.p.1, l.1.p.2), way := (eB, eC), oz := (eD, eE), dz := (eF, eG), now := l.1.now, resets := l.1.resets } : Pq))).bind fun b =>
      lt1 b.1.way.1 fun (eH : List Pk) =>
      lt1 b.1.way.2 fun (eI : List Pk) =>
      lt1 b.1.oz.1 fun (eJ : List (List UInt8)) =>
      lt1 b.1.oz.2 fun (eK : List (List UInt8)) =>
      lt1 b.1.dz.1 fun (eL : List (List UInt8)) =>
      lt1 b.1.dz.2 fun (eM : List (List UInt8)) =>
      ((loopO (fun (v : Int × Int × Int × Int × List (List UInt8) × Int × List Pk × Int × Int × Int × Int × List (List UInt8) × Int × List Pk × Int × Int × Int × List Pk × List Pk × List (List UInt8) × List (List UInt8) × List (List UInt8) × List (List UInt8)) => law12_WindowCompletes_b2 m v.1 v.2.1 v.2.2.1 v.2.2.2.1 v.2.2.2.2.1 v.2.2.2.2.2.1 v.2.2.2.2.2.2.1 v.2.2.2.2.2.2.2.1 v.2.2.2.2.2.2.2.2.1 v.2.2.2.2.2.2.2.2.2.1 v.2.2.2.2.2.2.2.2.2.2.1 v.2.2.2.2.2.2.2.2.2.2.2.1 v.2.2.2.2.2.2.2.2.2.2.2.2.1 v.2.2.2.2.2.2.2.2.2.2.2.2.2.1 v.2.2.2.2.2.2.2.2.2.2.2.2.2.2.1 v.2.2.2.2.2.2.2.2.2.2.2.2.2.2.2.1 v.2.2.2.2.2.2.2.2.2.2.2.2.2.2.2.2.1 v.2.2.2.2.2.2.2.2.2.2.2.2.2.2.2.2.2.1 v.2.2.2.2.2.2.2.2.2.2.2.2.2.2.2.2.2.2.1 v.2.2.2.2.2.2.2.2.2.2.2.2.2.2.2.2.2.2.2.1 v.2.2.2.2.2.2.2.2.2.2.2.2.2.2.2.2.2.2.2.2.1 v.2.2.2.2.2.2.2.2.2.2.2.2.2.2.2.2.2.2.2.2.2.1 v.2.2.2.2.2.2.2.2.2.2.2.2.2.2.2.2.2.2.2.2.2.2) ((0, b.1.p.1.Epoch, b.1.p.1.Other, b.1.p.1.First, b.1.p.1.Queue, b.1.p.1.Next, b.1.p.1.Early, b.1.p.1.SentAt, b.1.p.2.Epoch, b.1.p.2.Other, b.1.p.2.First, b.1.p.2.Queue, b.1.p.2.Next, b.1.p.2.Early, b.1.p.2.SentAt, b.1.now, b.1.resets, eH, eI, eJ, eK, eL, eM))).bind fun (eN, eO, eP, eQ, eR, eS, eT, eU, eV, eW, eX, eY, eZ, e0, e1, e2, e3, e4, e5, e6, e7, e8) =>
      some ((eN, eO, eP, eQ, eR, eS, eT, eU, eV, eW, eX, eY, eZ, e0, e1, e2, e3, e4, e5, e6, e7, e8)) : Option (Int × Int × Int × List (List UInt8) × Int × List Pk × Int × Int × Int × Int × List (List UInt8) × Int × List Pk × Int × Int × Int × List Pk × List Pk × List (List UInt8) × List (List UInt8) × List (List UInt8) × List (List UInt8))).bind fun (e9, fa, fb, bW, fc, fd, fe, ff, fg, fh, bX, fi, fj, fk, fl, fm, fn, fo, fp, fq, fr, fs) =>
      lt1 ((w64 ((w64 (2 * (w64 ((w64 (((mx64 ((bW.length : Int)) ((bX.length : Int))) : Int).tdiv 16)) + 1)))) + 3))) fun (o : Int) =>
      ((loopO (fun (v : Int × Int × Int × Int × List (List UInt8) × Int × List Pk × Int × Int × Int × Int × List (List UInt8) × Int × List Pk × Int × Int × Int × List Pk × List Pk × List (List UInt8) × List (List UInt8) × List (List UInt8) × List (List UInt8)) => law12_WindowCompletes_b3 o v.1 v.2.1 v.2.2.1 v.2.2.2.1 v.2.2.2.2.1 v.2.2.2.2.2.1 v.2.2.2.2.2.2.1 v.2.2.2.2.2.2.2.1 v.2.2.2.2.2.2.2.2.1 v.2.2.2.2.2.2.2.2.2.1 v.2.2.2.2.2.2.2.2.2.2.1 v.2.2.2.2.2.2.2.2.2.2.2.1 v.2.2.2.2.2.2.2.2.2.2.2.2.1 v.2.2.2.2.2.2.2.2.2.2.2.2.2.1 v.2.2.2.2.2.2.2.2.2.2.2.2.2.2.1 v.2.2.2.2.2.2.2.2.2.2.2.2.2.2.2.1 v.2.2.2.2.2.2.2.2.2.2.2.2.2.2.2.2.1 v.2.2.2.2.2.2.2.2.2.2.2.2.2.2.2.2.2.1 v.2.2.2.2.2.2.2.2.2.2.2.2.2.2.2.2.2.2.1 v.2.2.2.2.2.2.2.2.2.2.2.2.2.2.2.2.2.2.2.1 v.2.2.2.2.2.2.2.2.2.2.2.2.2.2.2.2.2.2.2.2.1 v.2.2.2.2.2.2.2.2.2.2.2.2.2.2.2.2.2.2.2.2.2.1 v.2.2.2.2.2.2.2.2.2.2.2.2.2.2.2.2.2.2.2.2.2.2) ((0, e9, fa, fb, bW, fc, fd, fe, ff, fg, fh, bX, fi, fj, fk, fl, fm, fn, fo, fp, fq, fr, fs))).bind fun (ft, fu, fv, fw, fx, fy, fz, fA, fB, fC, fD, fE, fF, fG, fH, fI, fJ, fK, fL, fM, fN, fO) =>
      some ((ft, fu, fv, fw, fx, fy, fz, fA, fB, fC, fD, fE, fF, fG, fH, fI, fJ, fK, fL, fM, fN, fO)) : Option (Int × Int × Int × List (List UInt8) × Int × List Pk × Int × Int × Int × Int × List (List UInt8) × Int × List Pk × Int × Int × Int × List Pk × List Pk × List (List UInt8) × List (List UInt8) × List (List UInt8) × List (List UInt8))).bind fun (f0, f1, f2, fP, f3, f4, f5, f6, f7, f8, fQ, f9, ga, gb, gc, fR, gd, ge, fS, fT, fU, fV) =>
      (if (fR != b.1.resets) = true then
        some true
      else
        if ((fP.length : Int) != 0) = true then
          some true
        else
          some (((fQ.length : Int) != 0)) : Option (Bool)).bind fun fW =>
      if fW = true then
        some false
      else
        ((r12_SameMessages fU fT).bind fun fX =>
        if fX = true then
          (r12_SameMessages fV fS).bind fun fY =>
          some fY
        else
          some false : Option (Bool)).bind fun fZ =>
        some fZ
    | .inr z => some z

end Go.Proofs.Ytomjphpnpcgacaa
/-
  The functions compute just that.
-/
namespace Go.Proofs.Ytomjphpnpcgacaa
open Go.Rv
set_option linter.unusedVariables false
set_option linter.unusedSimpArgs false
set_option maxRecDepth 20000
set_option maxHeartbeats 4000000

theorem r12_SamePacket_con {a : Pk} {c : Pk} {r : Bool} (h : r12_SamePacket a c = some r) : Con B 30 [.agg [i64 a.Epoch, i64 a.To, i64 a.Seq, i64 a.Ack, .sl false (L cU8 a.Data)], .agg [i64 c.Epoch, i64 c.To, i64 c.Seq, i64 c.Ack, .sl false (L cU8 c.Data)]] [] (fun r' σ' => r' = .bool r ∧ σ' = []) := by
  refine con_walk (N := 40) (rs := [.tmp 4]) ok Try.func30 rfl (by decide +kernel) rfl rfl (Nat.le_of_ble_eq_true rfl) (fun F => ?_)
  have hE := ok.env F
  unfold r12_SamePacket at h
  show Run (B.env F) 0 _ ⟨asFr 40 [(0, .agg [i64 a.Epoch, i64 a.To, i64 a.Seq, i64 a.Ack, .sl false (L cU8 a.Data)]), (1, .agg [i64 c.Epoch, i64 c.To, i64 c.Seq, i64 c.Ack, .sl false (L cU8 c.Data)])], []⟩ _
  refine run_wkP ?_
  refine run_textE hE [2, 3] (fr' := [(2, .ref 0 0), (3, .ref 1 0)]) (σ' := [.box [i64 a.Epoch, i64 a.To, i64 a.Seq, i64 a.Ack, .sl false (L cU8 a.Data)] false, .box [i64 c.Epoch, i64 c.To, i64 c.Seq, i64 c.Ack, .sl false (L cU8 c.Data)] false]) ⟨_, orcs_nil, ?_⟩ ?_
  · simp only [go_sem]
  replace h := bind_some1 h; obtain ⟨ax, g, h⟩ := h
  refine run_textW hE [4] (fr' := [(4, .bool ax)]) (σ' := []) ?_ ?_
  · rcases Bool.eq_false_or_eq_true ((a.Epoch == c.Epoch)) with q | q
    · replace g := ite_t g q
      rcases Bool.eq_false_or_eq_true ((a.To == c.To)) with t | t
      · replace g := ite_t g t
        rcases Bool.eq_false_or_eq_true ((a.Seq == c.Seq)) with w | w
        · replace g := ite_t g w
          rcases Bool.eq_false_or_eq_true ((a.Ack == c.Ack)) with y | y
          · replace g := ite_t g y
            have e_hv_313 := Option.some.inj g; subst e_hv_313
            exact ⟨_, [(4, .bool ((a.Data == c.Data)))], [.box [i64 a.Epoch, i64 a.To, i64 a.Seq, i64 a.Ack, .sl false (L cU8 a.Data)] false, .box [i64 c.Epoch, i64 c.To, i64 c.Seq, i64 c.Ack, .sl false (L cU8 c.Data)] false], orcs_nil, by simp only [go_sem, q, t, w, y], (weak_sel [] (by decide) rfl (by simp only [go_sem]) (by simp only [go_sem]))⟩
          · replace g := ite_f g y
            have e_hv_313 := Option.some.inj g; subst e_hv_313
            exact ⟨_, [(4, .bool false)], [.box [i64 a.Epoch, i64 a.To, i64 a.Seq, i64 a.Ack, .sl false (L cU8 a.Data)] false, .box [i64 c.Epoch, i64 c.To, i64 c.Seq, i64 c.Ack, .sl false (L cU8 c.Data)] false], orcs_nil, by simp only [go_sem, q, t, w, y], (weak_sel [] (by decide) rfl (by simp only [go_sem]) (by simp only [go_sem]))⟩
        · replace g := ite_f g w
          have e_hv_313 := Option.some.inj g; subst e_hv_313
          exact ⟨_, [(4, .bool false)], [.box [i64 a.Epoch, i64 a.To, i64 a.Seq, i64 a.Ack, .sl false (L cU8 a.Data)] false, .box [i64 c.Epoch, i64 c.To, i64 c.Seq, i64 c.Ack, .sl false (L cU8 c.Data)] false], orcs_nil, by simp only [go_sem, q, t, w], (weak_sel [] (by decide) rfl (by simp only [go_sem]) (by simp only [go_sem]))⟩
      · replace g := ite_f g t
        have e_hv_313 := Option.some.inj g; subst e_hv_313
        exact ⟨_, [(4, .bool false)], [.box [i64 a.Epoch, i64 a.To, i64 a.Seq, i64 a.Ack, .sl false (L cU8 a.Data)] false, .box [i64 c.Epoch, i64 c.To, i64 c.Seq, i64 c.Ack, .sl false (L cU8 c.Data)] false], orcs_nil, by simp only [go_sem, q, t], (weak_sel [] (by decide) rfl (by simp only [go_sem]) (by simp only [go_sem]))⟩
    · replace g := ite_f g q
      have e_hv_313 := Option.some.inj g; subst e_hv_313
      exact ⟨_, [(4, .bool false)], [.box [i64 a.Epoch, i64 a.To, i64 a.Seq, i64 a.Ack, .sl false (L cU8 a.Data)] false, .box [i64 c.Epoch, i64 c.To, i64 c.Seq, i64 c.Ack, .sl false (L cU8 c.Data)] false], orcs_nil, by simp only [go_sem, q], (weak_sel [] (by decide) rfl (by simp only [go_sem]) (by simp only [go_sem]))⟩
  refine run_ret ?_
  obtain rfl := Option.some.inj h
  refine wkP_of (Weak.refl _ _) ?_
  refine ret_ok (.inr rfl) ?_
  simp only [go_sem]

theorem r12_SameMessages_con {j : List (List UInt8)} {m : List (List UInt8)} {r : Bool} (h : r12_SameMessages j m = some r) : Con B 22 [.sl false (L (cSl cU8) j), .sl false (L (cSl cU8) m)] [] (fun r' σ' => r' = .bool r ∧ σ' = []) := by
  refine con_walk (N := 28) (rs := [.tmp 4]) ok Try.func22 rfl (by decide +kernel) rfl rfl (Nat.le_of_ble_eq_true rfl) (fun F => ?_)
  have hE := ok.env F
  unfold r12_SameMessages at h
  show Run (B.env F) 0 _ ⟨asFr 28 [(0, .sl false (L (cSl cU8) j)), (1, .sl false (L (cSl cU8) m))], []⟩ _
  refine run_wkP ?_
  refine run_textE hE [0, 1] (fr' := [(0, .sl false (L (cSl cU8) j)), (1, .sl false (L (cSl cU8) m))]) (σ' := []) ⟨_, orcs_nil, ?_⟩ ?_
  · simp only [go_sem]
  refine run_seq ?_
  refine run_textE hE [0, 1, 10] (fr' := [(0, .sl false (L (cSl cU8) j)), (1, .sl false (L (cSl cU8) m)), (10, .bool (((j.length : Int) != (m.length : Int))))]) (σ' := []) ⟨_, orcs_nil, ?_⟩ ?_
  · simp only [go_sem]
  refine run_condL (b := ((j.length : Int) != (m.length : Int))) rfl (by decide) (fun hb => ?_) (fun hb => ?_)
  · replace h := ite_t h hb
    refine run_textE hE [4] (fr' := [(4, .bool false)]) (σ' := []) ⟨_, orcs_nil, ?_⟩ ?_
    · simp only [go_sem]
    refine run_ret ?_
    refine thenK_r ?_
    obtain rfl := Option.some.inj h
    refine wkP_of (Weak.refl _ _) ?_
    refine ret_ok (.inr rfl) ?_
    simp only [go_sem]
  · replace h := ite_f h hb
    refine run_skip ?_
    refine thenK_n ?_
    replace h := bind_some1 h; obtain ⟨ay, ak, ac⟩ := h
    refine run_join (fun (v : Unit) => (⟨asFr 28 [], []⟩ : St)) (fun v => .inl v = ay) ?_ ?_
    · have h := ak; clear ak
      refine run_textE hE [0, 1, 5] (fr' := [(0, .sl false (L (cSl cU8) j)), (1, .sl false (L (cSl cU8) m)), (5, i64 0)]) (σ' := []) ⟨_, orcs_nil, ?_⟩ ?_
      · simp only [go_sem]
      refine run_block ?_
      replace h := bind_some1 h; obtain ⟨aD, aq, ad⟩ := h
      refine run_loopO aq (fun (v : Int) => (⟨asFr 28 [(0, .sl false (L (cSl cU8) j)), (1, .sl false (L (cSl cU8) m)), (5, i64 v)], []⟩ : St)) (weak_sel [] (by decide) rfl (by simp only [go_sem]) (by simp only [go_sem])) ?_
      rintro n az h ai
      replace h : r12_SameMessages_b1 j m n = some az := h
      unfold r12_SameMessages_b1 at h
      refine run_seq ?_
      refine run_textE hE [0, 1, 5, 14] (fr' := [(0, .sl false (L (cSl cU8) j)), (1, .sl false (L (cSl cU8) m)), (5, i64 n), (14, .bool ((decide (n < (j.length : Int)))))]) (σ' := []) ⟨_, orcs_nil, ?_⟩ ?_
      · simp only [go_sem]
      refine run_condL (b := (decide (n < (j.length : Int)))) rfl (by decide) (fun hb => ?_) (fun hb => ?_)
      · replace h := ite_t h hb
        refine run_skip ?_
        refine thenK_n ?_
        refine run_seq ?_
        refine run_block ?_
        replace h := chk_some h; obtain ⟨ae, h⟩ := h
        replace h := chk_some h; obtain ⟨af, h⟩ := h
        refine run_drawE hE mixed [[], [], [0, 1], [0, 1, 2], [0, 1, 2, 3], [], [], [5, 6], [5, 6, 7], [5, 6, 7, 8], [0, 1, 2, 3, 4, 5, 6, 7, 8, 9]] (by kernel_rfl) (by kernel_rfl) [0, 1, 5, 27] (fr' := [(0, .sl false (L (cSl cU8) j)), (1, .sl false (L (cSl cU8) m)), (5, i64 n), (27, .bool ((!((nth j n.toNat) == (nth m n.toNat)))))]) (σ' := []) ⟨_, orcs_nil, ?_⟩ ?_
        · simp only [go_sem, Int.reduceToNat, ae, ae.2, lt_le ae.2, af, af.2, lt_le af.2]
        refine run_condL (b := (!((nth j n.toNat) == (nth m n.toNat)))) rfl (by decide) (fun hb => ?_) (fun hb => ?_)
        · replace h := ite_t h hb
          refine run_textE hE [4] (fr' := [(4, .bool false)]) (σ' := []) ⟨_, orcs_nil, ?_⟩ ?_
          · simp only [go_sem]
          refine run_ret ?_
          refine blockK_r ?_
          refine thenK_r ?_
          refine lpK_r ?_
          replace h := bind_some1 h; obtain ⟨aE, h, e_z_358⟩ := h
          obtain rfl := Option.some.inj e_z_358
          have ex_z_358 := ai _ rfl
          subst ex_z_358
          obtain rfl := Option.some.inj ad
          refine blockK_r ?_
          refine joinK_r ?_
          replace h := bind_some1 h; obtain ⟨aF, h, e_z_357⟩ := h
          obtain rfl := Option.some.inj e_z_357
          obtain rfl := Option.some.inj ac
          obtain rfl := Option.some.inj h
          refine wkP_of (Weak.refl _ _) ?_
          refine ret_ok (.inr rfl) ?_
          simp only [go_sem]
        · replace h := ite_f h hb
          refine run_skip ?_
          refine blockK_n ?_
          refine thenK_n ?_
          refine run_textE0 hE wk_lp [0, 1, 5] (fr' := [(0, .sl false (L (cSl cU8) j)), (1, .sl false (L (cSl cU8) m)), (5, i64 ((w64 (n + 1))))]) (σ' := []) ⟨_, orcs_nil, ?_⟩ ?_
          · simp only [go_sem]
          obtain rfl := Option.some.inj h
          exact lpK_n ((w64 (n + 1))) rfl (weak_sel [] (by decide) rfl (by simp only [go_sem]) (by simp only [go_sem]))
      · replace h := ite_f h hb
        refine run_exit ?_
        refine thenK_x ?_
        obtain rfl := Option.some.inj h
        have ex_x_350 := ai _ rfl
        subst ex_x_350
        have h := ad; clear ad
        refine lpK_x ?_
        refine blockK_x ?_
        obtain rfl := Option.some.inj h
        exact joinK_n (()) rfl ((weak_sel (l' := []) (σ' := []) [] (by decide) rfl (by simp only [go_sem]) (by simp only [go_sem])).trans (weak_sel [] (by decide) rfl (by simp only [go_sem]) (by simp only [go_sem])))
    rintro ⟨⟩ rfl
    have h := ac; clear ac
    refine run_textE hE [4] (fr' := [(4, .bool true)]) (σ' := []) ⟨_, orcs_nil, ?_⟩ ?_
    · simp only [go_sem]
    refine run_ret ?_
    obtain rfl := Option.some.inj h
    refine wkP_of (Weak.refl _ _) ?_
    refine ret_ok (.inr rfl) ?_
    simp only [go_sem]

theorem window_side_keep_1_con {i : Pk} {x : Int} {r : Int} (h : window_side_keep_1 i x = some r) : Con B 57 [.agg [i64 i.Epoch, i64 i.To, i64 i.Seq, i64 i.Ack, .sl false (L cU8 i.Data)], i64 x] [] (fun r' σ' => r' = i64 r ∧ σ' = []) := by
  refine con_walk (N := 9) (rs := [.tmp 4]) ok Try.func57 rfl (by decide +kernel) rfl rfl (Nat.le_of_ble_eq_true rfl) (fun F => ?_)
  have hE := ok.env F
  unfold window_side_keep_1 at h
  show Run (B.env F) 0 _ ⟨asFr 9 [(0, .agg [i64 i.Epoch, i64 i.To, i64 i.Seq, i64 i.Ack, .sl false (L cU8 i.Data)]), (1, i64 x)], []⟩ _
  refine run_wkP ?_
  refine run_textE hE [1, 2] (fr' := [(1, i64 x), (2, .ref 0 0)]) (σ' := [.box [i64 i.Epoch, i64 i.To, i64 i.Seq, i64 i.Ack, .sl false (L cU8 i.Data)] false]) ⟨_, orcs_nil, ?_⟩ ?_
  · simp only [go_sem]
  refine run_textE hE [4] (fr' := [(4, i64 ((w64 (i.Seq - x))))]) (σ' := [.box [i64 i.Epoch, i64 i.To, i64 i.Seq, i64 i.Ack, .sl false (L cU8 i.Data)] false]) ⟨_, orcs_nil, ?_⟩ ?_
  · simp only [go_sem]
  refine run_ret ?_
  obtain rfl := Option.some.inj h
  refine wkP_of (Weak.refl _ _) ?_
  refine ret_ok (.inr rfl) ?_
  simp only [go_sem]

theorem slices_BinarySearchFunc_56_con {d : List Pk} {e : Int} {aa : Pk → Int → Option (Int)} {f : Nat} (ab : ∀ {a0 : Pk} {a1 : Int} {r : Int}, aa a0 a1 = some r → Con B f [.agg [i64 a0.Epoch, i64 a0.To, i64 a0.Seq, i64 a0.Ack, .sl false (L cU8 a0.Data)], i64 a1] [] (fun r' σ' => r' = i64 r ∧ σ' = [])) {r : Int × Bool} (h : slices_BinarySearchFunc_56 d e aa = some r) : Con B 56 [.sl false (L cK d), i64 e, .fn f []] [] (fun r' σ' => r' = .tup [i64 r.1, .bool r.2] ∧ σ' = []) := by
  refine con_walk (N := 49) (rs := [.tmp 6, .tmp 7]) ok Try.func56 rfl (by decide +kernel) rfl rfl (Nat.le_of_ble_eq_true rfl) (fun F => ?_)
  have hE := ok.env F
  unfold slices_BinarySearchFunc_56 at h
  show Run (B.env F) 0 _ ⟨asFr 49 [(0, .sl false (L cK d)), (1, i64 e), (2, .fn f [])], []⟩ _
  refine run_wkP ?_
  refine run_textE hE [0, 1, 2] (fr' := [(0, .sl false (L cK d)), (1, i64 e), (2, .fn f [])]) (σ' := []) ⟨_, orcs_nil, ?_⟩ ?_
  · simp only [go_sem]
  refine run_textE hE [0, 1, 2, 8] (fr' := [(0, .sl false (L cK d)), (1, i64 e), (2, .fn f []), (8, i64 ((d.length : Int)))]) (σ' := []) ⟨_, orcs_nil, ?_⟩ ?_
  · simp only [go_sem]
  refine run_textE hE [0, 1, 2, 8, 9, 10] (fr' := [(0, .sl false (L cK d)), (1, i64 e), (2, .fn f []), (8, i64 ((d.length : Int))), (9, i64 0), (10, i64 ((d.length : Int)))]) (σ' := []) ⟨_, orcs_nil, ?_⟩ ?_
  · simp only [go_sem]
  replace h := bind_some1 h; obtain ⟨aA, al, am⟩ := h
  refine run_join (fun (v : Int) => (⟨asFr 49 [(0, .sl false (L cK d)), (1, i64 e), (2, .fn f []), (8, i64 ((d.length : Int))), (9, i64 v)], []⟩ : St)) (fun v => v = aA) ?_ ?_
  · have h := al; clear al
    refine run_block ?_
    replace h := bind_some1 h; obtain ⟨aG, ar, an⟩ := h
    refine run_loopO ar (fun (v : Int × Int) => (⟨asFr 49 [(0, .sl false (L cK d)), (1, i64 e), (2, .fn f []), (8, i64 ((d.length : Int))), (9, i64 v.1), (10, i64 v.2)], []⟩ : St)) (weak_sel [] (by decide) rfl (by simp only [go_sem]) (by simp only [go_sem])) ?_
    rintro ⟨p, u⟩ aB h ap
    replace h : slices_BinarySearchFunc_56_b1 d e aa p u = some aB := h
    unfold slices_BinarySearchFunc_56_b1 at h
    refine run_seq ?_
    refine run_textE hE [0, 1, 2, 8, 9, 10, 17] (fr' := [(0, .sl false (L cK d)), (1, i64 e), (2, .fn f []), (8, i64 ((d.length : Int))), (9, i64 p), (10, i64 u), (17, .bool ((decide (p < u))))]) (σ' := []) ⟨_, orcs_nil, ?_⟩ ?_
    · simp only [go_sem]
    refine run_condL (b := (decide (p < u))) rfl (by decide) (fun hb => ?_) (fun hb => ?_)
    · replace h := ite_t h hb
      refine run_skip ?_
      refine thenK_n ?_
      refine run_block ?_
      replace h := lt1_some h; obtain ⟨o, au, h⟩ := h
      refine run_textE hE [0, 1, 2, 8, 9, 10, 11] (fr' := [(0, .sl false (L cK d)), (1, i64 e), (2, .fn f []), (8, i64 ((d.length : Int))), (9, i64 p), (10, i64 u), (11, i64 o)]) (σ' := []) ⟨_, orcs_nil, ?_⟩ ?_
      · subst au; simp only [go_sem]
      replace h := chk_some h; obtain ⟨ag, h⟩ := h
      replace h := bind_some1 h; obtain ⟨aj, av, h⟩ := h
      refine run_textE hE [0, 1, 2, 8, 9, 10, 11, 31] (fr' := [(0, .sl false (L cK d)), (1, i64 e), (2, .fn f []), (8, i64 ((d.length : Int))), (9, i64 p), (10, i64 u), (11, i64 o), (31, .bool ((decide (aj < 0))))]) (σ' := []) ⟨_, orcs_ok (l := [(30, f, [.agg [i64 ((nth d o.toNat).Epoch), i64 ((nth d o.toNat).To), i64 ((nth d o.toNat).Seq), i64 ((nth d o.toNat).Ack), .sl false (L cU8 ((nth d o.toNat).Data))], i64 e], i64 aj)]) ⟨ab  av, trivial⟩, ?_⟩ ?_
      · simp only [go_sem, Int.reduceToNat, ag, ag.2, lt_le ag.2]
      refine run_condL (b := (decide (aj < 0))) rfl (by decide) (fun hb => ?_) (fun hb => ?_)
      · replace h := ite_t h hb
        refine run_textE0 hE (wk_block wk_lp) [0, 1, 2, 8, 9, 10] (fr' := [(0, .sl false (L cK d)), (1, i64 e), (2, .fn f []), (8, i64 ((d.length : Int))), (9, i64 ((w64 (o + 1)))), (10, i64 u)]) (σ' := []) ⟨_, orcs_nil, ?_⟩ ?_
        · simp only [go_sem]
        refine blockK_n ?_
        obtain rfl := Option.some.inj h
        exact lpK_n (((w64 (o + 1)), u)) rfl (weak_sel [] (by decide) rfl (by simp only [go_sem]) (by simp only [go_sem]))
      · replace h := ite_f h hb
        refine run_textE0 hE (wk_block wk_lp) [0, 1, 2, 8, 9, 10] (fr' := [(0, .sl false (L cK d)), (1, i64 e), (2, .fn f []), (8, i64 ((d.length : Int))), (9, i64 p), (10, i64 o)]) (σ' := []) ⟨_, orcs_nil, ?_⟩ ?_
        · simp only [go_sem]
        refine blockK_n ?_
        obtain rfl := Option.some.inj h
        exact lpK_n ((p, o)) rfl (weak_sel [] (by decide) rfl (by simp only [go_sem]) (by simp only [go_sem]))
    · replace h := ite_f h hb
      refine run_exit ?_
      refine thenK_x ?_
      obtain rfl := Option.some.inj h
      have ex_x_404 := ap _ rfl
      subst ex_x_404
      have h := an; clear an
      refine lpK_x ?_
      refine blockK_x ?_
      obtain rfl := Option.some.inj h
      exact joinK_n p rfl ((weak_sel (l' := [(0, .sl false (L cK d)), (1, i64 e), (2, .fn f []), (8, i64 ((d.length : Int))), (9, i64 p)]) (σ' := []) [] (by decide) rfl (by simp only [go_sem]) (by simp only [go_sem])).trans (weak_sel [] (by decide) rfl (by simp only [go_sem]) (by simp only [go_sem])))
  rintro s rfl
  have h := am; clear am
  replace h := bind_some1 h; obtain ⟨aC, k, h⟩ := h
  refine run_textW hE [6, 7] (fr' := [(6, i64 s), (7, .bool aC)]) (σ' := []) ?_ ?_
  · rcases Bool.eq_false_or_eq_true ((decide (s < (d.length : Int)))) with z | z
    · replace k := ite_t k z
      replace k := chk_some k; obtain ⟨ah, k⟩ := k
      replace k := bind_some1 k; obtain ⟨ao, aw, k⟩ := k
      have e_hv_416 := Option.some.inj k; subst e_hv_416
      exact ⟨_, [(6, i64 s), (7, .bool ((ao == 0)))], [], orcs_ok (l := [(46, f, [.agg [i64 ((nth d s.toNat).Epoch), i64 ((nth d s.toNat).To), i64 ((nth d s.toNat).Seq), i64 ((nth d s.toNat).Ack), .sl false (L cU8 ((nth d s.toNat).Data))], i64 e], i64 ao)]) ⟨ab  aw, trivial⟩, by simp only [go_sem, Int.reduceToNat, z, ah, ah.2, lt_le ah.2], (weak_sel [] (by decide) rfl (by simp only [go_sem]) (by simp only [go_sem]))⟩
    · replace k := ite_f k z
      have e_hv_416 := Option.some.inj k; subst e_hv_416
      exact ⟨_, [(6, i64 s), (7, .bool false)], [], orcs_nil, by simp only [go_sem, Int.reduceToNat, z], (weak_sel [] (by decide) rfl (by simp only [go_sem]) (by simp only [go_sem]))⟩
  refine run_ret ?_
  obtain rfl := Option.some.inj h
  refine wkP_of (Weak.refl _ _) ?_
  refine ret_ok (.inr rfl) ?_
  simp only [go_sem]

end Go.Proofs.Ytomjphpnpcgacaa
/-
  The functions compute just that.
-/
namespace Go.Proofs.Ytomjphpnpcgacaa
open Go.Rv
set_option linter.unusedVariables false
set_option linter.unusedSimpArgs false
set_option maxRecDepth 20000
set_option maxHeartbeats 4000000

theorem window_between_con {e : Int} {b : Int} {c : Int} {r : Bool} (h : window_between e b c = some r) : Con B 35 [i64 e, i64 b, i64 c] [] (fun r' σ' => r' = .bool r ∧ σ' = []) := by
  refine con_walk (N := 15) (rs := [.tmp 6]) ok Try.func35 rfl (by decide +kernel) rfl rfl (Nat.le_of_ble_eq_true rfl) (fun F => ?_)
  have hE := ok.env F
  unfold window_between at h
  show Run (B.env F) 0 _ ⟨asFr 15 [(0, i64 e), (1, i64 b), (2, i64 c)], []⟩ _
  refine run_wkP ?_
  refine run_textE hE [0, 1, 2] (fr' := [(0, i64 e), (1, i64 b), (2, i64 c)]) (σ' := []) ⟨_, orcs_nil, ?_⟩ ?_
  · simp only [go_sem]
  replace h := bind_some1 h; obtain ⟨f, a, h⟩ := h
  refine run_textW hE [6] (fr' := [(6, .bool f)]) (σ' := []) ?_ ?_
  · rcases Bool.eq_false_or_eq_true ((decide (e ≥ b))) with d | d
    · replace a := ite_t a d
      have e_hv_5 := Option.some.inj a; subst e_hv_5
      exact ⟨_, [(6, .bool ((decide (e ≤ c))))], [], orcs_nil, by simp only [go_sem, d], (weak_sel [] (by decide) rfl (by simp only [go_sem]) (by simp only [go_sem]))⟩
    · replace a := ite_f a d
      have e_hv_5 := Option.some.inj a; subst e_hv_5
      exact ⟨_, [(6, .bool false)], [], orcs_nil, by simp only [go_sem, d], (weak_sel [] (by decide) rfl (by simp only [go_sem]) (by simp only [go_sem]))⟩
  refine run_ret ?_
  obtain rfl := Option.some.inj h
  refine wkP_of (Weak.refl _ _) ?_
  refine ret_ok (.inr rfl) ?_
  simp only [go_sem]

end Go.Proofs.Ytomjphpnpcgacaa
/-
  The functions compute just that.
-/
namespace Go.Proofs.Ytomjphpnpcgacaa
open Go.Rv
set_option linter.unusedVariables false
set_option linter.unusedSimpArgs false
set_option maxRecDepth 20000
set_option maxHeartbeats 4000000

theorem window_valid_con {a : Pe} {r : Bool} (h : window_valid a = some r) : Con B 37 [.agg [i64 a.Epoch, i64 a.Other, i64 a.First, .sl false (L (cSl cU8) a.Queue), i64 a.Next, .sl false (L cK a.Early), i64 a.SentAt]] [] (fun r' σ' => r' = .bool r ∧ σ' = []) := by
  refine con_walk (N := 106) (rs := [.tmp 2]) ok Try.func37 rfl (by decide +kernel) rfl rfl (Nat.le_of_ble_eq_true rfl) (fun F => ?_)
  have hE := ok.env F
  unfold window_valid at h
  show Run (B.env F) 0 _ ⟨asFr 106 [(0, .agg [i64 a.Epoch, i64 a.Other, i64 a.First, .sl false (L (cSl cU8) a.Queue), i64 a.Next, .sl false (L cK a.Early), i64 a.SentAt])], []⟩ _
  refine run_wkP ?_
  refine run_textE hE [1] (fr' := [(1, .ref 0 0)]) (σ' := [.box [i64 a.Epoch, i64 a.Other, i64 a.First, .sl false (L (cSl cU8) a.Queue), i64 a.Next, .sl false (L cK a.Early), i64 a.SentAt] false]) ⟨_, orcs_nil, ?_⟩ ?_
  · simp only [go_sem]
  refine run_seq ?_
  replace h := bind_some1 h; obtain ⟨av, e, h⟩ := h
  refine run_textW hE [1, 23] (fr' := [(1, .ref 0 0), (23, .bool av)]) (σ' := [.box [i64 a.Epoch, i64 a.Other, i64 a.First, .sl false (L (cSl cU8) a.Queue), i64 a.Next, .sl false (L cK a.Early), i64 a.SentAt] false]) ?_ ?_
  · replace e := bind_some1 e; obtain ⟨ap, ah, e⟩ := e
    rcases Bool.eq_false_or_eq_true ((!ap)) with x | x
    · replace e := ite_t e x
      have e_hv_12 := Option.some.inj e; subst e_hv_12
      exact ⟨_, [(1, .ref 0 0), (23, .bool true)], [.box [i64 a.Epoch, i64 a.Other, i64 a.First, .sl false (L (cSl cU8) a.Queue), i64 a.Next, .sl false (L cK a.Early), i64 a.SentAt] false], orcs_ok (l := [(10, 35, [i64 a.Epoch, i64 0, i64 1073741824], .bool ap)]) ⟨window_between_con  ah, trivial⟩, by simp only [go_sem, x], (weak_sel [0] (by decide) rfl (by simp only [go_sem]) (by simp only [go_sem]))⟩
    · replace e := ite_f e x
      replace e := bind_some1 e; obtain ⟨aw, aq, e⟩ := e
      rcases Bool.eq_false_or_eq_true ((!aw)) with z | z
      · replace e := ite_t e z
        have e_hv_12 := Option.some.inj e; subst e_hv_12
        exact ⟨_, [(1, .ref 0 0), (23, .bool true)], [.box [i64 a.Epoch, i64 a.Other, i64 a.First, .sl false (L (cSl cU8) a.Queue), i64 a.Next, .sl false (L cK a.Early), i64 a.SentAt] false], orcs_ok (l := [(10, 35, [i64 a.Epoch, i64 0, i64 1073741824], .bool ap), (15, 35, [i64 a.Other, i64 ((-1)), i64 1073741824], .bool aw)]) ⟨window_between_con  ah, window_between_con  aq, trivial⟩, by simp only [go_sem, x, z], (weak_sel [0] (by decide) rfl (by simp only [go_sem]) (by simp only [go_sem]))⟩
      · replace e := ite_f e z
        replace e := bind_some1 e; obtain ⟨ax, aF, e⟩ := e
        have e_hv_12 := Option.some.inj e; subst e_hv_12
        exact ⟨_, [(1, .ref 0 0), (23, .bool ((!ax)))], [.box [i64 a.Epoch, i64 a.Other, i64 a.First, .sl false (L (cSl cU8) a.Queue), i64 a.Next, .sl false (L cK a.Early), i64 a.SentAt] false], orcs_ok (l := [(10, 35, [i64 a.Epoch, i64 0, i64 1073741824], .bool ap), (15, 35, [i64 a.Other, i64 ((-1)), i64 1073741824], .bool aw), (21, 35, [i64 a.SentAt, i64 ((-1)), i64 1073741824], .bool ax)]) ⟨window_between_con  ah, window_between_con  aq, window_between_con  aF, trivial⟩, by simp only [go_sem, x, z], (weak_sel [0] (by decide) rfl (by simp only [go_sem]) (by simp only [go_sem]))⟩
  refine run_condL (b := av) rfl (by decide) (fun hb => ?_) (fun hb => ?_)
  · replace h := ite_t h hb
    refine run_textE hE [2] (fr' := [(2, .bool false)]) (σ' := [.box [i64 a.Epoch, i64 a.Other, i64 a.First, .sl false (L (cSl cU8) a.Queue), i64 a.Next, .sl false (L cK a.Early), i64 a.SentAt] false]) ⟨_, orcs_nil, ?_⟩ ?_
    · simp only [go_sem]
    refine run_ret ?_
    refine thenK_r ?_
    obtain rfl := Option.some.inj h
    refine wkP_of (Weak.refl _ _) ?_
    refine ret_ok (.inr rfl) ?_
    simp only [go_sem]
  · replace h := ite_f h hb
    refine run_skip ?_
    refine thenK_n ?_
    refine run_seq ?_
    replace h := bind_some1 h; obtain ⟨ay, d, h⟩ := h
    refine run_textW hE [1, 48] (fr' := [(1, .ref 0 0), (48, .bool ay)]) (σ' := [.box [i64 a.Epoch, i64 a.Other, i64 a.First, .sl false (L (cSl cU8) a.Queue), i64 a.Next, .sl false (L cK a.Early), i64 a.SentAt] false]) ?_ ?_
    · replace d := bind_some1 d; obtain ⟨ac, ab, d⟩ := d
      rcases Bool.eq_false_or_eq_true ((!ac)) with t | t
      · replace d := ite_t d t
        have e_hv_21 := Option.some.inj d; subst e_hv_21
        exact ⟨_, [(1, .ref 0 0), (48, .bool true)], [.box [i64 a.Epoch, i64 a.Other, i64 a.First, .sl false (L (cSl cU8) a.Queue), i64 a.Next, .sl false (L cK a.Early), i64 a.SentAt] false], orcs_ok (l := [(26, 35, [i64 a.First, i64 0, i64 1099511627776], .bool ac)]) ⟨window_between_con  ab, trivial⟩, by simp only [go_sem, t], (weak_sel [0] (by decide) rfl (by simp only [go_sem]) (by simp only [go_sem]))⟩
      · replace d := ite_f d t
        replace d := bind_some1 d; obtain ⟨ai, aj, d⟩ := d
        rcases Bool.eq_false_or_eq_true ((!ai)) with y | y
        · replace d := ite_t d y
          have e_hv_21 := Option.some.inj d; subst e_hv_21
          exact ⟨_, [(1, .ref 0 0), (48, .bool true)], [.box [i64 a.Epoch, i64 a.Other, i64 a.First, .sl false (L (cSl cU8) a.Queue), i64 a.Next, .sl false (L cK a.Early), i64 a.SentAt] false], orcs_ok (l := [(26, 35, [i64 a.First, i64 0, i64 1099511627776], .bool ac), (31, 35, [i64 a.Next, i64 0, i64 1099511627776], .bool ai)]) ⟨window_between_con  ab, window_between_con  aj, trivial⟩, by simp only [go_sem, t, y], (weak_sel [0] (by decide) rfl (by simp only [go_sem]) (by simp only [go_sem]))⟩
        · replace d := ite_f d y
          rcases Bool.eq_false_or_eq_true ((decide ((a.Queue.length : Int) > 256))) with aa | aa
          · replace d := ite_t d aa
            have e_hv_21 := Option.some.inj d; subst e_hv_21
            exact ⟨_, [(1, .ref 0 0), (48, .bool true)], [.box [i64 a.Epoch, i64 a.Other, i64 a.First, .sl false (L (cSl cU8) a.Queue), i64 a.Next, .sl false (L cK a.Early), i64 a.SentAt] false], orcs_ok (l := [(26, 35, [i64 a.First, i64 0, i64 1099511627776], .bool ac), (31, 35, [i64 a.Next, i64 0, i64 1099511627776], .bool ai)]) ⟨window_between_con  ab, window_between_con  aj, trivial⟩, by simp only [go_sem, t, y, aa], (weak_sel [0] (by decide) rfl (by simp only [go_sem]) (by simp only [go_sem]))⟩
          · replace d := ite_f d aa
            have e_hv_21 := Option.some.inj d; subst e_hv_21
            exact ⟨_, [(1, .ref 0 0), (48, .bool ((decide ((w64 (a.First + (a.Queue.length : Int))) > 1099511627776))))], [.box [i64 a.Epoch, i64 a.Other, i64 a.First, .sl false (L (cSl cU8) a.Queue), i64 a.Next, .sl false (L cK a.Early), i64 a.SentAt] false], orcs_ok (l := [(26, 35, [i64 a.First, i64 0, i64 1099511627776], .bool ac), (31, 35, [i64 a.Next, i64 0, i64 1099511627776], .bool ai)]) ⟨window_between_con  ab, window_between_con  aj, trivial⟩, by simp only [go_sem, t, y, aa], (weak_sel [0] (by decide) rfl (by simp only [go_sem]) (by simp only [go_sem]))⟩
    refine run_condL (b := ay) rfl (by decide) (fun hb => ?_) (fun hb => ?_)
    · replace h := ite_t h hb
      refine run_textE hE [2] (fr' := [(2, .bool false)]) (σ' := [.box [i64 a.Epoch, i64 a.Other, i64 a.First, .sl false (L (cSl cU8) a.Queue), i64 a.Next, .sl false (L cK a.Early), i64 a.SentAt] false]) ⟨_, orcs_nil, ?_⟩ ?_
      · simp only [go_sem]
      refine run_ret ?_
      refine thenK_r ?_
      obtain rfl := Option.some.inj h
      refine wkP_of (Weak.refl _ _) ?_
      refine ret_ok (.inr rfl) ?_
      simp only [go_sem]
    · replace h := ite_f h hb
      refine run_skip ?_
      refine thenK_n ?_
      replace h := bind_some1 h; obtain ⟨aJ, ar, ak⟩ := h
      refine run_join (fun (v : Unit) => (⟨asFr 106 [(1, .ref 0 0)], [.box [i64 a.Epoch, i64 a.Other, i64 a.First, .sl false (L (cSl cU8) a.Queue), i64 a.Next, .sl false (L cK a.Early), i64 a.SentAt] false]⟩ : St)) (fun v => .inl v = aJ) ?_ ?_
      · have h := ar; clear ar
        refine run_textE hE [1, 50, 51, 52] (fr' := [(1, .ref 0 0), (50, .sl false (L (cSl cU8) a.Queue)), (51, i64 ((a.Queue.length : Int))), (52, i64 0)]) (σ' := [.box [i64 a.Epoch, i64 a.Other, i64 a.First, .sl false (L (cSl cU8) a.Queue), i64 a.Next, .sl false (L cK a.Early), i64 a.SentAt] false]) ⟨_, orcs_nil, ?_⟩ ?_
        · simp only [go_sem]
        refine run_block ?_
        replace h := bind_some1 h; obtain ⟨aO, aG, al⟩ := h
        refine run_loopO aG (fun (v : Int) => (⟨asFr 106 [(1, .ref 0 0), (50, .sl false (L (cSl cU8) a.Queue)), (51, i64 ((a.Queue.length : Int))), (52, i64 v)], [.box [i64 a.Epoch, i64 a.Other, i64 a.First, .sl false (L (cSl cU8) a.Queue), i64 a.Next, .sl false (L cK a.Early), i64 a.SentAt] false]⟩ : St)) (weak_sel [0] (by decide) rfl (by simp only [go_sem]) (by simp only [go_sem])) ?_
        rintro p aK h an
        replace h : window_valid_b1 a p = some aK := h
        unfold window_valid_b1 at h
        refine run_textE hE [1, 50, 51, 52, 53] (fr' := [(1, .ref 0 0), (50, .sl false (L (cSl cU8) a.Queue)), (51, i64 ((a.Queue.length : Int))), (52, i64 p), (53, .bool ((decide (p < (a.Queue.length : Int)))))]) (σ' := [.box [i64 a.Epoch, i64 a.Other, i64 a.First, .sl false (L (cSl cU8) a.Queue), i64 a.Next, .sl false (L cK a.Early), i64 a.SentAt] false]) ⟨_, orcs_nil, ?_⟩ ?_
        · simp only [go_sem]
        refine run_seq ?_
        refine run_condL (b := (decide (p < (a.Queue.length : Int)))) rfl (by decide) (fun hb => ?_) (fun hb => ?_)
        · replace h := ite_t h hb
          refine run_skip ?_
          refine thenK_n ?_
          refine run_seq ?_
          refine run_block ?_
          replace h := chk_some h; obtain ⟨am, h⟩ := h
          refine run_textE hE [1, 4, 50, 51, 52] (fr' := [(1, .ref 0 0), (4, .sl false (L cU8 (nth a.Queue p.toNat))), (50, .sl false (L (cSl cU8) a.Queue)), (51, i64 ((a.Queue.length : Int))), (52, i64 p)]) (σ' := [.box [i64 a.Epoch, i64 a.Other, i64 a.First, .sl false (L (cSl cU8) a.Queue), i64 a.Next, .sl false (L cK a.Early), i64 a.SentAt] false]) ⟨_, orcs_nil, ?_⟩ ?_
          · simp only [go_sem, Int.reduceToNat, am, am.2, lt_le am.2]
          refine run_textE hE [1, 50, 51, 52, 58] (fr' := [(1, .ref 0 0), (50, .sl false (L (cSl cU8) a.Queue)), (51, i64 ((a.Queue.length : Int))), (52, i64 p), (58, .bool ((decide (((nth a.Queue p.toNat).length : Int) > 8000))))]) (σ' := [.box [i64 a.Epoch, i64 a.Other, i64 a.First, .sl false (L (cSl cU8) a.Queue), i64 a.Next, .sl false (L cK a.Early), i64 a.SentAt] false]) ⟨_, orcs_nil, ?_⟩ ?_
          · simp only [go_sem]
          refine run_condL (b := (decide (((nth a.Queue p.toNat).length : Int) > 8000))) rfl (by decide) (fun hb => ?_) (fun hb => ?_)
          · replace h := ite_t h hb
            refine run_textE hE [2] (fr' := [(2, .bool false)]) (σ' := [.box [i64 a.Epoch, i64 a.Other, i64 a.First, .sl false (L (cSl cU8) a.Queue), i64 a.Next, .sl false (L cK a.Early), i64 a.SentAt] false]) ⟨_, orcs_nil, ?_⟩ ?_
            · simp only [go_sem]
            refine run_ret ?_
            refine blockK_r ?_
            refine thenK_r ?_
            refine lpK_r ?_
            replace h := bind_some1 h; obtain ⟨aP, h, e_z_59⟩ := h
            obtain rfl := Option.some.inj e_z_59
            have ex_z_59 := an _ rfl
            subst ex_z_59
            obtain rfl := Option.some.inj al
            refine blockK_r ?_
            refine joinK_r ?_
            replace h := bind_some1 h; obtain ⟨aQ, h, e_z_58⟩ := h
            obtain rfl := Option.some.inj e_z_58
            obtain rfl := Option.some.inj ak
            obtain rfl := Option.some.inj h
            refine wkP_of (Weak.refl _ _) ?_
            refine ret_ok (.inr rfl) ?_
            simp only [go_sem]
          · replace h := ite_f h hb
            refine run_skip ?_
            refine blockK_n ?_
            refine thenK_n ?_
            refine run_textE0 hE wk_lp [1, 50, 51, 52] (fr' := [(1, .ref 0 0), (50, .sl false (L (cSl cU8) a.Queue)), (51, i64 ((a.Queue.length : Int))), (52, i64 ((w64 (p + 1))))]) (σ' := [.box [i64 a.Epoch, i64 a.Other, i64 a.First, .sl false (L (cSl cU8) a.Queue), i64 a.Next, .sl false (L cK a.Early), i64 a.SentAt] false]) ⟨_, orcs_nil, ?_⟩ ?_
            · simp only [go_sem]
            obtain rfl := Option.some.inj h
            exact lpK_n ((w64 (p + 1))) rfl (weak_sel [0] (by decide) rfl (by simp only [go_sem]) (by simp only [go_sem]))
        · replace h := ite_f h hb
          refine run_exit ?_
          refine thenK_x ?_
          obtain rfl := Option.some.inj h
          have ex_x_52 := an _ rfl
          subst ex_x_52
          have h := al; clear al
          refine lpK_x ?_
          refine blockK_x ?_
          obtain rfl := Option.some.inj h
          exact joinK_n (()) rfl ((weak_sel (l' := [(1, .ref 0 0)]) (σ' := [.box [i64 a.Epoch, i64 a.Other, i64 a.First, .sl false (L (cSl cU8) a.Queue), i64 a.Next, .sl false (L cK a.Early), i64 a.SentAt] false]) [0] (by decide) rfl (by simp only [go_sem]) (by simp only [go_sem])).trans (weak_sel [0] (by decide) rfl (by simp only [go_sem]) (by simp only [go_sem])))
      rintro ⟨⟩ rfl
      have h := ak; clear ak
      refine run_textE hE [1, 5] (fr' := [(1, .ref 0 0), (5, i64 a.Next)]) (σ' := [.box [i64 a.Epoch, i64 a.Other, i64 a.First, .sl false (L (cSl cU8) a.Queue), i64 a.Next, .sl false (L cK a.Early), i64 a.SentAt] false]) ⟨_, orcs_nil, ?_⟩ ?_
      · simp only [go_sem]
      replace h := bind_some1 h; obtain ⟨aH, ao, ad⟩ := h
      refine run_join (fun (v : Unit) => (⟨asFr 106 [], []⟩ : St)) (fun v => .inl v = aH) ?_ ?_
      · have h := ao; clear ao
        refine run_textE hE [1, 5, 63, 64, 65] (fr' := [(1, .ref 0 0), (5, i64 a.Next), (63, .sl false (L cK a.Early)), (64, i64 ((a.Early.length : Int))), (65, i64 0)]) (σ' := [.box [i64 a.Epoch, i64 a.Other, i64 a.First, .sl false (L (cSl cU8) a.Queue), i64 a.Next, .sl false (L cK a.Early), i64 a.SentAt] false]) ⟨_, orcs_nil, ?_⟩ ?_
        · simp only [go_sem]
        refine run_block ?_
        replace h := bind_some1 h; obtain ⟨aL, az, ae⟩ := h
        refine run_loopO az (fun (v : Int × Int) => (⟨asFr 106 [(1, .ref 0 0), (5, i64 v.1), (63, .sl false (L cK a.Early)), (64, i64 ((a.Early.length : Int))), (65, i64 v.2)], [.box [i64 a.Epoch, i64 a.Other, i64 a.First, .sl false (L (cSl cU8) a.Queue), i64 a.Next, .sl false (L cK a.Early), i64 a.SentAt] false]⟩ : St)) (weak_sel [0] (by decide) rfl (by simp only [go_sem]) (by simp only [go_sem])) ?_
        rintro ⟨u, g⟩ aI h ag
        replace h : window_valid_b2 a u g = some aI := h
        unfold window_valid_b2 at h
        refine run_textE hE [1, 5, 63, 64, 65, 66] (fr' := [(1, .ref 0 0), (5, i64 u), (63, .sl false (L cK a.Early)), (64, i64 ((a.Early.length : Int))), (65, i64 g), (66, .bool ((decide (g < (a.Early.length : Int)))))]) (σ' := [.box [i64 a.Epoch, i64 a.Other, i64 a.First, .sl false (L (cSl cU8) a.Queue), i64 a.Next, .sl false (L cK a.Early), i64 a.SentAt] false]) ⟨_, orcs_nil, ?_⟩ ?_
        · simp only [go_sem]
        refine run_seq ?_
        refine run_condL (b := (decide (g < (a.Early.length : Int)))) rfl (by decide) (fun hb => ?_) (fun hb => ?_)
        · replace h := ite_t h hb
          refine run_skip ?_
          refine thenK_n ?_
          refine run_seq ?_
          refine run_block ?_
          replace h := chk_some h; obtain ⟨af, h⟩ := h
          replace h := lt1_some h; obtain ⟨i, aA, h⟩ := h
          replace h := lt1_some h; obtain ⟨j, aB, h⟩ := h
          replace h := lt1_some h; obtain ⟨f, aC, h⟩ := h
          replace h := lt1_some h; obtain ⟨k, aD, h⟩ := h
          replace h := lt1_some h; obtain ⟨m, aE, h⟩ := h
          refine run_textE hE [1, 5, 7, 63, 64, 65] (fr' := [(1, .ref 0 0), (5, i64 u), (7, .ref 1 0), (63, .sl false (L cK a.Early)), (64, i64 ((a.Early.length : Int))), (65, i64 g)]) (σ' := [.box [i64 a.Epoch, i64 a.Other, i64 a.First, .sl false (L (cSl cU8) a.Queue), i64 a.Next, .sl false (L cK a.Early), i64 a.SentAt] false, .box [i64 i, i64 j, i64 f, i64 k, .sl false (L cU8 m)] false]) ⟨_, orcs_nil, ?_⟩ ?_
          · subst aE; subst aD; subst aC; subst aB; subst aA; simp only [go_sem, Int.reduceToNat, Nat.reduceLeDiff, af, af.2, lt_le af.2]
          refine run_seq ?_
          replace h := bind_some1 h; obtain ⟨au, c, h⟩ := h
          refine run_textW hE [1, 7, 63, 64, 65, 102] (fr' := [(1, .ref 0 0), (7, .ref 1 0), (63, .sl false (L cK a.Early)), (64, i64 ((a.Early.length : Int))), (65, i64 g), (102, .bool au)]) (σ' := [.box [i64 a.Epoch, i64 a.Other, i64 a.First, .sl false (L (cSl cU8) a.Queue), i64 a.Next, .sl false (L cK a.Early), i64 a.SentAt] false, .box [i64 i, i64 j, i64 f, i64 k, .sl false (L cU8 m)] false]) ?_ ?_
          · rcases Bool.eq_false_or_eq_true ((decide (f ≤ u))) with n | n
            · replace c := ite_t c n
              have e_hv_169 := Option.some.inj c; subst e_hv_169
              exact ⟨_, [(1, .ref 0 0), (7, .ref 1 0), (63, .sl false (L cK a.Early)), (64, i64 ((a.Early.length : Int))), (65, i64 g), (102, .bool true)], [.box [i64 a.Epoch, i64 a.Other, i64 a.First, .sl false (L (cSl cU8) a.Queue), i64 a.Next, .sl false (L cK a.Early), i64 a.SentAt] false, .box [i64 i, i64 j, i64 f, i64 k, .sl false (L cU8 m)] false], orcs_nil, by simp only [go_sem, n], (weak_sel [0, 1] (by decide) rfl (by simp only [go_sem]) (by simp only [go_sem]))⟩
            · replace c := ite_f c n
              rcases Bool.eq_false_or_eq_true ((decide (f ≥ (mn64 ((w64 (a.Next + 64))) 1099511627776)))) with o | o
              · replace c := ite_t c o
                have e_hv_169 := Option.some.inj c; subst e_hv_169
                exact ⟨_, [(1, .ref 0 0), (7, .ref 1 0), (63, .sl false (L cK a.Early)), (64, i64 ((a.Early.length : Int))), (65, i64 g), (102, .bool true)], [.box [i64 a.Epoch, i64 a.Other, i64 a.First, .sl false (L (cSl cU8) a.Queue), i64 a.Next, .sl false (L cK a.Early), i64 a.SentAt] false, .box [i64 i, i64 j, i64 f, i64 k, .sl false (L cU8 m)] false], orcs_nil, by simp only [go_sem, n, o], (weak_sel [0, 1] (by decide) rfl (by simp only [go_sem]) (by simp only [go_sem]))⟩
              · replace c := ite_f c o
                rcases Bool.eq_false_or_eq_true ((decide ((m.length : Int) > 8000))) with q | q
                · replace c := ite_t c q
                  have e_hv_169 := Option.some.inj c; subst e_hv_169
                  exact ⟨_, [(1, .ref 0 0), (7, .ref 1 0), (63, .sl false (L cK a.Early)), (64, i64 ((a.Early.length : Int))), (65, i64 g), (102, .bool true)], [.box [i64 a.Epoch, i64 a.Other, i64 a.First, .sl false (L (cSl cU8) a.Queue), i64 a.Next, .sl false (L cK a.Early), i64 a.SentAt] false, .box [i64 i, i64 j, i64 f, i64 k, .sl false (L cU8 m)] false], orcs_nil, by simp only [go_sem, n, o, q], (weak_sel [0, 1] (by decide) rfl (by simp only [go_sem]) (by simp only [go_sem]))⟩
                · replace c := ite_f c q
                  rcases Bool.eq_false_or_eq_true ((i != 0)) with s | s
                  · replace c := ite_t c s
                    have e_hv_169 := Option.some.inj c; subst e_hv_169
                    exact ⟨_, [(1, .ref 0 0), (7, .ref 1 0), (63, .sl false (L cK a.Early)), (64, i64 ((a.Early.length : Int))), (65, i64 g), (102, .bool true)], [.box [i64 a.Epoch, i64 a.Other, i64 a.First, .sl false (L (cSl cU8) a.Queue), i64 a.Next, .sl false (L cK a.Early), i64 a.SentAt] false, .box [i64 i, i64 j, i64 f, i64 k, .sl false (L cU8 m)] false], orcs_nil, by simp only [go_sem, n, o, q, s], (weak_sel [0, 1] (by decide) rfl (by simp only [go_sem]) (by simp only [go_sem]))⟩
                  · replace c := ite_f c s
                    rcases Bool.eq_false_or_eq_true ((j != 0)) with w | w
                    · replace c := ite_t c w
                      have e_hv_169 := Option.some.inj c; subst e_hv_169
                      exact ⟨_, [(1, .ref 0 0), (7, .ref 1 0), (63, .sl false (L cK a.Early)), (64, i64 ((a.Early.length : Int))), (65, i64 g), (102, .bool true)], [.box [i64 a.Epoch, i64 a.Other, i64 a.First, .sl false (L (cSl cU8) a.Queue), i64 a.Next, .sl false (L cK a.Early), i64 a.SentAt] false, .box [i64 i, i64 j, i64 f, i64 k, .sl false (L cU8 m)] false], orcs_nil, by simp only [go_sem, n, o, q, s, w], (weak_sel [0, 1] (by decide) rfl (by simp only [go_sem]) (by simp only [go_sem]))⟩
                    · replace c := ite_f c w
                      have e_hv_169 := Option.some.inj c; subst e_hv_169
                      exact ⟨_, [(1, .ref 0 0), (7, .ref 1 0), (63, .sl false (L cK a.Early)), (64, i64 ((a.Early.length : Int))), (65, i64 g), (102, .bool ((k != 0)))], [.box [i64 a.Epoch, i64 a.Other, i64 a.First, .sl false (L (cSl cU8) a.Queue), i64 a.Next, .sl false (L cK a.Early), i64 a.SentAt] false, .box [i64 i, i64 j, i64 f, i64 k, .sl false (L cU8 m)] false], orcs_nil, by simp only [go_sem, n, o, q, s, w], (weak_sel [0, 1] (by decide) rfl (by simp only [go_sem]) (by simp only [go_sem]))⟩
          refine run_condL (b := au) rfl (by decide) (fun hb => ?_) (fun hb => ?_)
          · replace h := ite_t h hb
            refine run_textE hE [2] (fr' := [(2, .bool false)]) (σ' := [.box [i64 a.Epoch, i64 a.Other, i64 a.First, .sl false (L (cSl cU8) a.Queue), i64 a.Next, .sl false (L cK a.Early), i64 a.SentAt] false, .box [i64 i, i64 j, i64 f, i64 k, .sl false (L cU8 m)] false]) ⟨_, orcs_nil, ?_⟩ ?_
            · simp only [go_sem]
            refine run_ret ?_
            refine thenK_r ?_
            refine blockK_r ?_
            refine thenK_r ?_
            refine lpK_r ?_
            replace h := bind_some1 h; obtain ⟨aM, h, e_z_176⟩ := h
            obtain rfl := Option.some.inj e_z_176
            have ex_z_176 := ag _ rfl
            subst ex_z_176
            obtain rfl := Option.some.inj ae
            refine blockK_r ?_
            refine joinK_r ?_
            replace h := bind_some1 h; obtain ⟨aN, h, e_z_175⟩ := h
            obtain rfl := Option.some.inj e_z_175
            obtain rfl := Option.some.inj ad
            obtain rfl := Option.some.inj h
            refine wkP_of (Weak.refl _ _) ?_
            refine ret_ok (.inr rfl) ?_
            simp only [go_sem]
          · replace h := ite_f h hb
            refine run_skip ?_
            refine thenK_n ?_
            refine run_textE0 hE (wk_block wk_then) [1, 5, 63, 64, 65] (fr' := [(1, .ref 0 0), (5, i64 f), (63, .sl false (L cK a.Early)), (64, i64 ((a.Early.length : Int))), (65, i64 g)]) (σ' := [.box [i64 a.Epoch, i64 a.Other, i64 a.First, .sl false (L (cSl cU8) a.Queue), i64 a.Next, .sl false (L cK a.Early), i64 a.SentAt] false, .box [i64 i, i64 j, i64 f, i64 k, .sl false (L cU8 m)] false]) ⟨_, orcs_nil, ?_⟩ ?_
            · simp only [go_sem]
            refine blockK_n ?_
            refine thenK_n ?_
            refine run_textE0 hE wk_lp [1, 5, 63, 64, 65] (fr' := [(1, .ref 0 0), (5, i64 f), (63, .sl false (L cK a.Early)), (64, i64 ((a.Early.length : Int))), (65, i64 ((w64 (g + 1))))]) (σ' := [.box [i64 a.Epoch, i64 a.Other, i64 a.First, .sl false (L (cSl cU8) a.Queue), i64 a.Next, .sl false (L cK a.Early), i64 a.SentAt] false, .box [i64 i, i64 j, i64 f, i64 k, .sl false (L cU8 m)] false]) ⟨_, orcs_nil, ?_⟩ ?_
            · simp only [go_sem]
            obtain rfl := Option.some.inj h
            exact lpK_n ((f, (w64 (g + 1)))) rfl (weak_sel [0] (by decide) rfl (by simp only [go_sem]) (by simp only [go_sem]))
        · replace h := ite_f h hb
          refine run_exit ?_
          refine thenK_x ?_
          obtain rfl := Option.some.inj h
          have ex_x_152 := ag _ rfl
          subst ex_x_152
          have h := ae; clear ae
          refine lpK_x ?_
          refine blockK_x ?_
          obtain rfl := Option.some.inj h
          exact joinK_n (()) rfl ((weak_sel (l' := []) (σ' := []) [] (by decide) rfl (by simp only [go_sem]) (by simp only [go_sem])).trans (weak_sel [] (by decide) rfl (by simp only [go_sem]) (by simp only [go_sem])))
      rintro ⟨⟩ rfl
      have h := ad; clear ad
      refine run_textE hE [2] (fr' := [(2, .bool true)]) (σ' := []) ⟨_, orcs_nil, ?_⟩ ?_
      · simp only [go_sem]
      refine run_ret ?_
      obtain rfl := Option.some.inj h
      refine wkP_of (Weak.refl _ _) ?_
      refine ret_ok (.inr rfl) ?_
      simp only [go_sem]

end Go.Proofs.Ytomjphpnpcgacaa
/-
  The functions compute just that.
-/
namespace Go.Proofs.Ytomjphpnpcgacaa
open Go.Rv
set_option linter.unusedVariables false
set_option linter.unusedSimpArgs false
set_option maxRecDepth 20000
set_option maxHeartbeats 4000000

theorem window_New_con {d : Int} {r : Pe × Int} (h : window_New d = some r) : Con B 12 [i64 d] [] (fun r' σ' => r' = .tup [.agg [i64 r.1.Epoch, i64 r.1.Other, i64 r.1.First, .sl false (L (cSl cU8) r.1.Queue), i64 r.1.Next, .sl false (L cK r.1.Early), i64 r.1.SentAt], i64 r.2] ∧ σ' = []) := by
  refine con_walk (N := 10) (rs := [.cell 2 25, .tmp 3]) ok Try.func12 rfl (by decide +kernel) rfl rfl (Nat.le_of_ble_eq_true rfl) (fun F => ?_)
  have hE := ok.env F
  unfold window_New at h
  show Run (B.env F) 0 _ ⟨asFr 10 [(0, i64 d)], []⟩ _
  refine run_wkP ?_
  refine run_textE hE [0, 2] (fr' := [(0, i64 d), (2, .ref 0 0)]) (σ' := [.box [i64 0, i64 0, i64 0, .sl true (L (cSl cU8) ([])), i64 0, .sl true (L cK ([])), i64 0] false]) ⟨_, orcs_nil, ?_⟩ ?_
  · simp only [go_sem]
  refine run_seq ?_
  replace h := bind_some1 h; obtain ⟨q, ab, h⟩ := h
  refine run_textE hE [0, 2, 6] (fr' := [(0, i64 d), (2, .ref 0 0), (6, .bool ((!q)))]) (σ' := [.box [i64 0, i64 0, i64 0, .sl true (L (cSl cU8) ([])), i64 0, .sl true (L cK ([])), i64 0] false]) ⟨_, orcs_ok (l := [(5, 35, [i64 d, i64 0, i64 1073741824], .bool q)]) ⟨window_between_con  ab, trivial⟩, ?_⟩ ?_
  · simp only [go_sem]
  refine run_condL (b := (!q)) rfl (by decide) (fun hb => ?_) (fun hb => ?_)
  · replace h := ite_t h hb
    refine run_textE hE [2, 3] (fr' := [(2, .ref 0 0), (3, i64 1)]) (σ' := [.box [i64 0, i64 0, i64 0, .sl true (L (cSl cU8) ([])), i64 0, .sl true (L cK ([])), i64 0] false]) ⟨_, orcs_nil, ?_⟩ ?_
    · simp only [go_sem, Nat.reduceGT, Nat.reduceLeDiff]
    refine run_ret ?_
    refine thenK_r ?_
    obtain rfl := Option.some.inj h
    refine wkP_of (Weak.refl _ _) ?_
    refine ret_ok (.inr rfl) ?_
    simp only [go_sem]
  · replace h := ite_f h hb
    refine run_skip ?_
    refine thenK_n ?_
    refine run_textE hE [2, 3] (fr' := [(2, .ref 0 0), (3, i64 0)]) (σ' := [.box [i64 d, i64 ((-1)), i64 0, .sl true (L (cSl cU8) ([])), i64 0, .sl true (L cK ([])), i64 ((-1))] false]) ⟨_, orcs_nil, ?_⟩ ?_
    · simp only [go_sem, Nat.reduceGT, Nat.reduceLeDiff]
    refine run_ret ?_
    obtain rfl := Option.some.inj h
    refine wkP_of (Weak.refl _ _) ?_
    refine ret_ok (.inr rfl) ?_
    simp only [go_sem]

theorem window_own_con {j : List UInt8} {r : List UInt8} (h : window_own j = some r) : Con B 39 [.sl false (L cU8 j)] [] (fun r' σ' => r' = .sl false (L cU8 r) ∧ σ' = []) := by
  refine con_walk (N := 11) (rs := [.tmp 2]) ok Try.func39 rfl (by decide +kernel) rfl rfl (Nat.le_of_ble_eq_true rfl) (fun F => ?_)
  have hE := ok.env F
  unfold window_own at h
  show Run (B.env F) 0 _ ⟨asFr 11 [(0, .sl false (L cU8 j))], []⟩ _
  refine run_wkP ?_
  refine run_textE hE [0] (fr' := [(0, .sl false (L cU8 j))]) (σ' := []) ⟨_, orcs_nil, ?_⟩ ?_
  · simp only [go_sem]
  replace h := chk_some h; obtain ⟨ac, h⟩ := h
  replace h := lt1_some h; obtain ⟨s, ad, h⟩ := h
  refine run_textE hE [0, 3] (fr' := [(0, .sl false (L cU8 j)), (3, .bs true 0 (s.length) 0 (s.length))]) (σ' := [.buf 1 (L cU8 s) false]) ⟨_, orcs_nil, ?_⟩ ?_
  · subst ad; simp only [go_sem, Nat.reduceBEq, Nat.reduceMul, Nat.reduceSub, Nat.reduceGT, Nat.reducePow, Nat.reduceLeDiff, Int.reduceToNat, ac]
  replace h := lt1_some h; obtain ⟨i, ae, h⟩ := h
  refine run_textE hE [3] (fr' := [(3, .bs true 0 (i.length) 0 (i.length))]) (σ' := [.buf 1 (L cU8 i) false]) ⟨_, orcs_nil, ?_⟩ ?_
  · subst ae; simp only [go_sem]
  refine run_textE hE [2] (fr' := [(2, .bs true 0 (i.length) 0 (i.length))]) (σ' := [.buf 1 (L cU8 i) false]) ⟨_, orcs_nil, ?_⟩ ?_
  · simp only [go_sem]
  refine run_ret ?_
  obtain rfl := Option.some.inj h
  refine wkP_of (Weak.refl _ _) ?_
  refine ret_ok (.inr rfl) ?_
  simp only [go_sem]

theorem slices_Clone_38_con {k : List (List UInt8)} {r : List (List UInt8)} (h : slices_Clone_38 k = some r) : Con B 38 [.sl false (L (cSl cU8) k)] [] (fun r' σ' => r' = .bs false 0 (r.length) 0 (r.length) ∧ σ' = [.buf 1 (L (cSl cU8) r) false]) := by
  refine con_walk_own (N := 8) (rs := [.tmp 2]) 0 rfl ok Try.func38 rfl (by decide +kernel) rfl rfl (Nat.le_of_ble_eq_true rfl) (fun F => ?_)
  have hE := ok.env F
  unfold slices_Clone_38 at h
  show Run (B.env F) 0 _ ⟨asFr 8 [(0, .sl false (L (cSl cU8) k))], []⟩ _
  refine run_wkP ?_
  refine run_textE hE [0] (fr' := [(0, .sl false (L (cSl cU8) k))]) (σ' := []) ⟨_, orcs_nil, ?_⟩ ?_
  · simp only [go_sem]
  refine run_seq ?_
  refine run_nilcmp hE 0 3 4 22 26 rfl rfl rfl rfl rfl rfl rfl (by decide) Try.underlying22 (fun b_ hb_ => ?_)
  cases b_
  · refine run_condL (b := false) rfl (by decide) (fun hb => ?_) (fun hb => ?_)
    · cases hb
    · refine run_skip ?_
      refine thenK_n ?_
      replace h := chk_some h; obtain ⟨y, h⟩ := h
      have o := y; simp only [List.cons_append, List.nil_append, List.length_append, List.length_cons, List.length_nil, Nat.zero_add, Nat.reduceAdd] at o
      replace h := lt1_some h; obtain ⟨t, af, h⟩ := h
      refine run_textE hE [2] (fr' := [(2, .bs false 0 (t.length) 0 (t.length))]) (σ' := [.buf 1 (L (cSl cU8) t) false]) ⟨_, orcs_nil, ?_⟩ ?_
      · subst af; simp only [go_sem, Nat.reduceBEq, Nat.reduceMul, Nat.reduceSub, Nat.reduceGT, Nat.reducePow, Nat.reduceLeDiff, Int.reduceToNat, y, o]
      refine run_ret ?_
      obtain rfl := Option.some.inj h
      refine wkP_of (Weak.refl _ _) ?_
      refine ret_own (.inr rfl) [0] (by decide) rfl ?_ ?_
      · simp only [go_sem]
      · simp only [go_sem]
  · obtain rfl : k = [] := List.map_eq_nil_iff.1 (hb_ rfl)
    replace h : some ([]) = some r := by first | exact h | (split at h <;> first | exact h | cases h)
    refine run_condL (b := true) rfl (by decide) (fun hb => ?_) (fun hb => ?_)
    · refine run_textE hE [2] (fr' := [(2, .sl true (L (cSl cU8) ([])))]) (σ' := []) ⟨_, orcs_nil, ?_⟩ ?_
      · simp only [go_sem]
      refine run_weak (weak_nil 2 1 rfl) ?_
      refine run_ret ?_
      refine thenK_r ?_
      obtain rfl := Option.some.inj h
      refine wkP_of (Weak.refl _ _) ?_
      refine ret_own (.inr rfl) [0] (by decide) rfl ?_ ?_
      · simp only [go_sem]
      · simp only [go_sem]
    · cases hb

theorem slices_Clone_59_con {n : List Pk} {r : List Pk} (h : slices_Clone_59 n = some r) : Con B 59 [.sl false (L cK n)] [] (fun r' σ' => r' = .bs false 0 (r.length) 0 (r.length) ∧ σ' = [.buf 5 (L cK r) false]) := by
  refine con_walk_own (N := 8) (rs := [.tmp 2]) 0 rfl ok Try.func59 rfl (by decide +kernel) rfl rfl (Nat.le_of_ble_eq_true rfl) (fun F => ?_)
  have hE := ok.env F
  unfold slices_Clone_59 at h
  show Run (B.env F) 0 _ ⟨asFr 8 [(0, .sl false (L cK n))], []⟩ _
  refine run_wkP ?_
  refine run_textE hE [0] (fr' := [(0, .sl false (L cK n))]) (σ' := []) ⟨_, orcs_nil, ?_⟩ ?_
  · simp only [go_sem]
  refine run_seq ?_
  refine run_nilcmp hE 0 3 4 23 39 rfl rfl rfl rfl rfl rfl rfl (by decide) Try.underlying23 (fun b_ hb_ => ?_)
  cases b_
  · refine run_condL (b := false) rfl (by decide) (fun hb => ?_) (fun hb => ?_)
    · cases hb
    · refine run_skip ?_
      refine thenK_n ?_
      replace h := chk_some h; obtain ⟨z, h⟩ := h
      have p := z; simp only [List.cons_append, List.nil_append, List.length_append, List.length_cons, List.length_nil, Nat.zero_add, Nat.reduceAdd] at p
      replace h := lt1_some h; obtain ⟨u, ag, h⟩ := h
      refine run_textE hE [2] (fr' := [(2, .bs false 0 (u.length) 0 (u.length))]) (σ' := [.buf 5 (L cK u) false]) ⟨_, orcs_nil, ?_⟩ ?_
      · subst ag; simp only [go_sem, Nat.reduceBEq, Nat.reduceMul, Nat.reduceSub, Nat.reduceGT, Nat.reducePow, Nat.reduceLeDiff, Int.reduceToNat, z, p]
      refine run_ret ?_
      obtain rfl := Option.some.inj h
      refine wkP_of (Weak.refl _ _) ?_
      refine ret_own (.inr rfl) [0] (by decide) rfl ?_ ?_
      · simp only [go_sem]
      · simp only [go_sem]
  · obtain rfl : n = [] := List.map_eq_nil_iff.1 (hb_ rfl)
    replace h : some ([]) = some r := by first | exact h | (split at h <;> first | exact h | cases h)
    refine run_condL (b := true) rfl (by decide) (fun hb => ?_) (fun hb => ?_)
    · refine run_textE hE [2] (fr' := [(2, .sl true (L cK ([])))]) (σ' := []) ⟨_, orcs_nil, ?_⟩ ?_
      · simp only [go_sem]
      refine run_weak (weak_nil 2 5 rfl) ?_
      refine run_ret ?_
      refine thenK_r ?_
      obtain rfl := Option.some.inj h
      refine wkP_of (Weak.refl _ _) ?_
      refine ret_own (.inr rfl) [0] (by decide) rfl ?_ ?_
      · simp only [go_sem]
      · simp only [go_sem]
    · cases hb

theorem window_Offer_con {a : Pe} {c : List UInt8} {r : Pe × Int} (h : window_Offer a c = some r) : Con B 14 [.agg [i64 a.Epoch, i64 a.Other, i64 a.First, .sl false (L (cSl cU8) a.Queue), i64 a.Next, .sl false (L cK a.Early), i64 a.SentAt], .sl false (L cU8 c)] [] (fun r' σ' => r' = .tup [.agg [i64 r.1.Epoch, i64 r.1.Other, i64 r.1.First, .sl false (L (cSl cU8) r.1.Queue), i64 r.1.Next, .sl false (L cK r.1.Early), i64 r.1.SentAt], i64 r.2] ∧ σ' = []) := by
  refine con_walk (N := 40) (rs := [.cell 4 25, .tmp 5]) ok Try.func14 rfl (by decide +kernel) rfl rfl (Nat.le_of_ble_eq_true rfl) (fun F => ?_)
  have hE := ok.env F
  unfold window_Offer at h
  show Run (B.env F) 0 _ ⟨asFr 40 [(0, .agg [i64 a.Epoch, i64 a.Other, i64 a.First, .sl false (L (cSl cU8) a.Queue), i64 a.Next, .sl false (L cK a.Early), i64 a.SentAt]), (1, .sl false (L cU8 c))], []⟩ _
  refine run_wkP ?_
  refine run_textE hE [1, 2, 4] (fr' := [(1, .sl false (L cU8 c)), (2, .ref 0 0), (4, .ref 1 0)]) (σ' := [.box [i64 a.Epoch, i64 a.Other, i64 a.First, .sl false (L (cSl cU8) a.Queue), i64 a.Next, .sl false (L cK a.Early), i64 a.SentAt] false, .box [i64 0, i64 0, i64 0, .sl true (L (cSl cU8) ([])), i64 0, .sl true (L cK ([])), i64 0] false]) ⟨_, orcs_nil, ?_⟩ ?_
  · simp only [go_sem]
  refine run_seq ?_
  refine run_block ?_
  replace h := bind_some1 h; obtain ⟨v, ah, h⟩ := h
  refine run_textE hE [1, 2, 4, 6] (fr' := [(1, .sl false (L cU8 c)), (2, .ref 0 0), (4, .ref 1 0), (6, .bool ((!v)))]) (σ' := [.box [i64 a.Epoch, i64 a.Other, i64 a.First, .sl false (L (cSl cU8) a.Queue), i64 a.Next, .sl false (L cK a.Early), i64 a.SentAt] false, .box [i64 0, i64 0, i64 0, .sl true (L (cSl cU8) ([])), i64 0, .sl true (L cK ([])), i64 0] false]) ⟨_, orcs_ok (l := [(8, 37, [.agg [i64 a.Epoch, i64 a.Other, i64 a.First, .sl false (L (cSl cU8) a.Queue), i64 a.Next, .sl false (L cK a.Early), i64 a.SentAt]], .bool v)]) ⟨window_valid_con  ah, trivial⟩, ?_⟩ ?_
  · simp only [go_sem]
  refine run_condL (b := (!v)) rfl (by decide) (fun hb => ?_) (fun hb => ?_)
  · replace h := ite_t h hb
    refine run_textE hE [4, 5] (fr' := [(4, .ref 1 0), (5, i64 1)]) (σ' := [.box [i64 a.Epoch, i64 a.Other, i64 a.First, .sl false (L (cSl cU8) a.Queue), i64 a.Next, .sl false (L cK a.Early), i64 a.SentAt] false, .box [i64 0, i64 0, i64 0, .sl true (L (cSl cU8) ([])), i64 0, .sl true (L cK ([])), i64 0] false]) ⟨_, orcs_nil, ?_⟩ ?_
    · simp only [go_sem, Nat.reduceGT, Nat.reduceLeDiff]
    refine run_ret ?_
    refine blockK_r ?_
    refine thenK_r ?_
    obtain rfl := Option.some.inj h
    refine wkP_of (Weak.refl _ _) ?_
    refine ret_ok (.inr rfl) ?_
    simp only [go_sem]
  · replace h := ite_f h hb
    refine run_textE hE [1, 2, 4, 11] (fr' := [(1, .sl false (L cU8 c)), (2, .ref 0 0), (4, .ref 1 0), (11, .bool ((decide ((c.length : Int) > 8000))))]) (σ' := [.box [i64 a.Epoch, i64 a.Other, i64 a.First, .sl false (L (cSl cU8) a.Queue), i64 a.Next, .sl false (L cK a.Early), i64 a.SentAt] false, .box [i64 0, i64 0, i64 0, .sl true (L (cSl cU8) ([])), i64 0, .sl true (L cK ([])), i64 0] false]) ⟨_, orcs_nil, ?_⟩ ?_
    · simp only [go_sem]
    refine run_condL (b := (decide ((c.length : Int) > 8000))) rfl (by decide) (fun hb => ?_) (fun hb => ?_)
    · replace h := ite_t h hb
      refine run_textE hE [4, 5] (fr' := [(4, .ref 1 0), (5, i64 2)]) (σ' := [.box [i64 a.Epoch, i64 a.Other, i64 a.First, .sl false (L (cSl cU8) a.Queue), i64 a.Next, .sl false (L cK a.Early), i64 a.SentAt] false, .box [i64 0, i64 0, i64 0, .sl true (L (cSl cU8) ([])), i64 0, .sl true (L cK ([])), i64 0] false]) ⟨_, orcs_nil, ?_⟩ ?_
      · simp only [go_sem, Nat.reduceGT, Nat.reduceLeDiff]
      refine run_ret ?_
      refine blockK_r ?_
      refine thenK_r ?_
      obtain rfl := Option.some.inj h
      refine wkP_of (Weak.refl _ _) ?_
      refine ret_ok (.inr rfl) ?_
      simp only [go_sem]
    · replace h := ite_f h hb
      replace h := bind_some1 h; obtain ⟨aa, f, h⟩ := h
      refine run_textW hE [1, 2, 4, 16] (fr' := [(1, .sl false (L cU8 c)), (2, .ref 0 0), (4, .ref 1 0), (16, .bool aa)]) (σ' := [.box [i64 a.Epoch, i64 a.Other, i64 a.First, .sl false (L (cSl cU8) a.Queue), i64 a.Next, .sl false (L cK a.Early), i64 a.SentAt] false, .box [i64 0, i64 0, i64 0, .sl true (L (cSl cU8) ([])), i64 0, .sl true (L cK ([])), i64 0] false]) ?_ ?_
      · rcases Bool.eq_false_or_eq_true (((a.Queue.length : Int) == 256)) with g | g
        · replace f := ite_t f g
          have e_hv_209 := Option.some.inj f; subst e_hv_209
          exact ⟨_, [(1, .sl false (L cU8 c)), (2, .ref 0 0), (4, .ref 1 0), (16, .bool true)], [.box [i64 a.Epoch, i64 a.Other, i64 a.First, .sl false (L (cSl cU8) a.Queue), i64 a.Next, .sl false (L cK a.Early), i64 a.SentAt] false, .box [i64 0, i64 0, i64 0, .sl true (L (cSl cU8) ([])), i64 0, .sl true (L cK ([])), i64 0] false], orcs_nil, by simp only [go_sem, g], (weak_sel [0, 1] (by decide) rfl (by simp only [go_sem]) (by simp only [go_sem]))⟩
        · replace f := ite_f f g
          have e_hv_209 := Option.some.inj f; subst e_hv_209
          exact ⟨_, [(1, .sl false (L cU8 c)), (2, .ref 0 0), (4, .ref 1 0), (16, .bool (((w64 (a.First + (a.Queue.length : Int))) == 1099511627776)))], [.box [i64 a.Epoch, i64 a.Other, i64 a.First, .sl false (L (cSl cU8) a.Queue), i64 a.Next, .sl false (L cK a.Early), i64 a.SentAt] false, .box [i64 0, i64 0, i64 0, .sl true (L (cSl cU8) ([])), i64 0, .sl true (L cK ([])), i64 0] false], orcs_nil, by simp only [go_sem, g], (weak_sel [0, 1] (by decide) rfl (by simp only [go_sem]) (by simp only [go_sem]))⟩
      refine run_condL (b := aa) rfl (by decide) (fun hb => ?_) (fun hb => ?_)
      · replace h := ite_t h hb
        refine run_textE hE [4, 5] (fr' := [(4, .ref 1 0), (5, i64 120)]) (σ' := [.box [i64 a.Epoch, i64 a.Other, i64 a.First, .sl false (L (cSl cU8) a.Queue), i64 a.Next, .sl false (L cK a.Early), i64 a.SentAt] false, .box [i64 0, i64 0, i64 0, .sl true (L (cSl cU8) ([])), i64 0, .sl true (L cK ([])), i64 0] false]) ⟨_, orcs_nil, ?_⟩ ?_
        · simp only [go_sem, Nat.reduceGT, Nat.reduceLeDiff]
        refine run_ret ?_
        refine blockK_r ?_
        refine thenK_r ?_
        obtain rfl := Option.some.inj h
        refine wkP_of (Weak.refl _ _) ?_
        refine ret_ok (.inr rfl) ?_
        simp only [go_sem]
      · replace h := ite_f h hb
        refine run_skip ?_
        refine blockK_n ?_
        refine thenK_n ?_
        replace h := bind_some1 h; obtain ⟨w, ai, h⟩ := h
        replace h := bind_some1 h; obtain ⟨x, aj, h⟩ := h
        replace h := chk_some h; obtain ⟨ak, h⟩ := h
        replace h := lt1_some h; obtain ⟨e, al, h⟩ := h
        refine run_textE hE [2, 4] (fr' := [(2, .ref 0 0), (4, .ref 1 0)]) (σ' := [.box [i64 a.Epoch, i64 a.Other, i64 a.First, .bs false 2 (e.length) 0 (e.length), i64 a.Next, .sl false (L cK a.Early), i64 a.SentAt] false, .box [i64 0, i64 0, i64 0, .sl true (L (cSl cU8) ([])), i64 0, .sl true (L cK ([])), i64 0] false, .buf 1 (L (cSl cU8) e) false, .buf 1 (L (cSl cU8) (([x] : List (List UInt8)))) false]) ⟨_, orcs_ok2 (l := [(35, 39, [.sl false (L cU8 c)], .sl false (L cU8 x))]) (m := [(33, 38, [.sl false (L (cSl cU8) a.Queue)], [.box [i64 a.Epoch, i64 a.Other, i64 a.First, .sl false (L (cSl cU8) a.Queue), i64 a.Next, .sl false (L cK a.Early), i64 a.SentAt] false, .box [i64 0, i64 0, i64 0, .sl true (L (cSl cU8) ([])), i64 0, .sl true (L cK ([])), i64 0] false], .bs false 2 (w.length) 0 (w.length), [.box [i64 a.Epoch, i64 a.Other, i64 a.First, .sl false (L (cSl cU8) a.Queue), i64 a.Next, .sl false (L cK a.Early), i64 a.SentAt] false, .box [i64 0, i64 0, i64 0, .sl true (L (cSl cU8) ([])), i64 0, .sl true (L cK ([])), i64 0] false, .buf 1 (L (cSl cU8) w) false])]) ⟨window_own_con  aj, trivial⟩ ⟨(wcon_call (slices_Clone_38_con ai) [] (by decide) (by simp only [go_sem]) (by simp only [go_sem]) (by simp only [go_sem]) (by simp only [go_sem]) (by simp only [go_sem])), trivial⟩, ?_⟩ ?_
        · subst al; simp only [go_sem, Nat.reduceBEq, Nat.reduceMul, Nat.reduceSub, Nat.reduceGT, Nat.reducePow, Nat.reduceLeDiff, Int.reduceToNat, ak]
        refine run_textE hE [4, 5] (fr' := [(4, .ref 1 0), (5, i64 0)]) (σ' := [.box [i64 a.Epoch, i64 a.Other, i64 a.First, .bs false 2 (e.length) 0 (e.length), i64 a.Next, .sl false (L cK a.Early), i64 a.SentAt] false, .box [i64 a.Epoch, i64 a.Other, i64 a.First, .bs false 2 (e.length) 0 (e.length), i64 a.Next, .sl false (L cK a.Early), i64 a.SentAt] false, .buf 1 (L (cSl cU8) e) false, .buf 1 (L (cSl cU8) (([x] : List (List UInt8)))) false]) ⟨_, orcs_nil, ?_⟩ ?_
        · simp only [go_sem, Nat.reduceLeDiff]
        refine run_ret ?_
        obtain rfl := Option.some.inj h
        refine wkP_of (Weak.refl _ _) ?_
        refine ret_ok (.inr rfl) ?_
        simp only [go_sem]

end Go.Proofs.Ytomjphpnpcgacaa
/-
  The functions compute just that.
-/
namespace Go.Proofs.Ytomjphpnpcgacaa
open Go.Rv
set_option linter.unusedVariables false
set_option linter.unusedSimpArgs false
set_option maxRecDepth 20000
set_option maxHeartbeats 4000000

theorem window_Emit_con {a : Pe} {c : Int} {r : Pe × List Pk} (h : window_Emit a c = some r) : Con B 16 [.agg [i64 a.Epoch, i64 a.Other, i64 a.First, .sl false (L (cSl cU8) a.Queue), i64 a.Next, .sl false (L cK a.Early), i64 a.SentAt], i64 c] [] (fun r' σ' => r' = .tup [.agg [i64 r.1.Epoch, i64 r.1.Other, i64 r.1.First, .sl false (L (cSl cU8) r.1.Queue), i64 r.1.Next, .sl false (L cK r.1.Early), i64 r.1.SentAt], .sl false (L cK r.2)] ∧ σ' = []) := by
  refine con_walk (N := 86) (rs := [.cell 4 25, .tmp 5]) ok Try.func16 rfl (by decide +kernel) rfl rfl (Nat.le_of_ble_eq_true rfl) (fun F => ?_)
  have hE := ok.env F
  unfold window_Emit at h
  show Run (B.env F) 0 _ ⟨asFr 86 [(0, .agg [i64 a.Epoch, i64 a.Other, i64 a.First, .sl false (L (cSl cU8) a.Queue), i64 a.Next, .sl false (L cK a.Early), i64 a.SentAt]), (1, i64 c)], []⟩ _
  refine run_wkP ?_
  refine run_textE hE [1, 2, 4] (fr' := [(1, i64 c), (2, .ref 0 0), (4, .ref 1 0)]) (σ' := [.box [i64 a.Epoch, i64 a.Other, i64 a.First, .sl false (L (cSl cU8) a.Queue), i64 a.Next, .sl false (L cK a.Early), i64 a.SentAt] false, .box [i64 0, i64 0, i64 0, .sl true (L (cSl cU8) ([])), i64 0, .sl true (L cK ([])), i64 0] false]) ⟨_, orcs_nil, ?_⟩ ?_
  · simp only [go_sem]
  refine run_seq ?_
  replace h := bind_some1 h; obtain ⟨ae, d, h⟩ := h
  refine run_textW hE [1, 2, 4, 19] (fr' := [(1, i64 c), (2, .ref 0 0), (4, .ref 1 0), (19, .bool ae)]) (σ' := [.box [i64 a.Epoch, i64 a.Other, i64 a.First, .sl false (L (cSl cU8) a.Queue), i64 a.Next, .sl false (L cK a.Early), i64 a.SentAt] false, .box [i64 0, i64 0, i64 0, .sl true (L (cSl cU8) ([])), i64 0, .sl true (L cK ([])), i64 0] false]) ?_ ?_
  · replace d := bind_some1 d; obtain ⟨y, aa, d⟩ := d
    rcases Bool.eq_false_or_eq_true ((!y)) with o | o
    · replace d := ite_t d o
      have e_hv_223 := Option.some.inj d; subst e_hv_223
      exact ⟨_, [(1, i64 c), (2, .ref 0 0), (4, .ref 1 0), (19, .bool true)], [.box [i64 a.Epoch, i64 a.Other, i64 a.First, .sl false (L (cSl cU8) a.Queue), i64 a.Next, .sl false (L cK a.Early), i64 a.SentAt] false, .box [i64 0, i64 0, i64 0, .sl true (L (cSl cU8) ([])), i64 0, .sl true (L cK ([])), i64 0] false], orcs_ok (l := [(13, 37, [.agg [i64 a.Epoch, i64 a.Other, i64 a.First, .sl false (L (cSl cU8) a.Queue), i64 a.Next, .sl false (L cK a.Early), i64 a.SentAt]], .bool y)]) ⟨window_valid_con  aa, trivial⟩, by simp only [go_sem, o], (weak_sel [0, 1] (by decide) rfl (by simp only [go_sem]) (by simp only [go_sem]))⟩
    · replace d := ite_f d o
      replace d := bind_some1 d; obtain ⟨af, ai, d⟩ := d
      have e_hv_223 := Option.some.inj d; subst e_hv_223
      exact ⟨_, [(1, i64 c), (2, .ref 0 0), (4, .ref 1 0), (19, .bool ((!af)))], [.box [i64 a.Epoch, i64 a.Other, i64 a.First, .sl false (L (cSl cU8) a.Queue), i64 a.Next, .sl false (L cK a.Early), i64 a.SentAt] false, .box [i64 0, i64 0, i64 0, .sl true (L (cSl cU8) ([])), i64 0, .sl true (L cK ([])), i64 0] false], orcs_ok (l := [(13, 37, [.agg [i64 a.Epoch, i64 a.Other, i64 a.First, .sl false (L (cSl cU8) a.Queue), i64 a.Next, .sl false (L cK a.Early), i64 a.SentAt]], .bool y), (17, 35, [i64 c, i64 0, i64 1073741824], .bool af)]) ⟨window_valid_con  aa, window_between_con  ai, trivial⟩, by simp only [go_sem, o], (weak_sel [0, 1] (by decide) rfl (by simp only [go_sem]) (by simp only [go_sem]))⟩
  refine run_condL (b := ae) rfl (by decide) (fun hb => ?_) (fun hb => ?_)
  · replace h := ite_t h hb
    refine run_textE hE [4, 5] (fr' := [(4, .ref 1 0), (5, .sl true (L cK ([])))]) (σ' := [.box [i64 a.Epoch, i64 a.Other, i64 a.First, .sl false (L (cSl cU8) a.Queue), i64 a.Next, .sl false (L cK a.Early), i64 a.SentAt] false, .box [i64 a.Epoch, i64 a.Other, i64 a.First, .sl false (L (cSl cU8) a.Queue), i64 a.Next, .sl false (L cK a.Early), i64 a.SentAt] false]) ⟨_, orcs_nil, ?_⟩ ?_
    · simp only [go_sem, Nat.reduceLeDiff]
    refine run_ret ?_
    refine thenK_r ?_
    obtain rfl := Option.some.inj h
    refine wkP_of (Weak.refl _ _) ?_
    refine ret_ok (.inr rfl) ?_
    simp only [go_sem]
  · replace h := ite_f h hb
    refine run_skip ?_
    refine thenK_n ?_
    refine run_textE hE [1, 2, 4, 6] (fr' := [(1, i64 c), (2, .ref 0 0), (4, .ref 1 0), (6, .ref 2 0)]) (σ' := [.box [i64 a.Epoch, i64 a.Other, i64 a.First, .sl false (L (cSl cU8) a.Queue), i64 a.Next, .sl false (L cK a.Early), i64 a.SentAt] false, .box [i64 0, i64 0, i64 0, .sl true (L (cSl cU8) ([])), i64 0, .sl true (L cK ([])), i64 0] false, .box [i64 a.Epoch, i64 a.Other, i64 ((-1)), i64 a.Next, .sl true (L cU8 ([]))] false]) ⟨_, orcs_nil, ?_⟩ ?_
    · simp only [go_sem, Nat.reduceGT, Nat.reduceLeDiff]
    replace h := bind_some1 h; obtain ⟨x, g, h⟩ := h
    refine run_textW hE [1, 2, 4, 6, 7] (fr' := [(1, i64 c), (2, .ref 0 0), (4, .ref 1 0), (6, .ref 2 0), (7, .bool x)]) (σ' := [.box [i64 a.Epoch, i64 a.Other, i64 a.First, .sl false (L (cSl cU8) a.Queue), i64 a.Next, .sl false (L cK a.Early), i64 a.SentAt] false, .box [i64 0, i64 0, i64 0, .sl true (L (cSl cU8) ([])), i64 0, .sl true (L cK ([])), i64 0] false, .box [i64 a.Epoch, i64 a.Other, i64 ((-1)), i64 a.Next, .sl true (L cU8 ([]))] false]) ?_ ?_
    · rcases Bool.eq_false_or_eq_true ((decide (a.SentAt < 0))) with k | k
      · replace g := ite_t g k
        have e_hv_228 := Option.some.inj g; subst e_hv_228
        exact ⟨_, [(1, i64 c), (2, .ref 0 0), (4, .ref 1 0), (6, .ref 2 0), (7, .bool true)], [.box [i64 a.Epoch, i64 a.Other, i64 a.First, .sl false (L (cSl cU8) a.Queue), i64 a.Next, .sl false (L cK a.Early), i64 a.SentAt] false, .box [i64 0, i64 0, i64 0, .sl true (L (cSl cU8) ([])), i64 0, .sl true (L cK ([])), i64 0] false, .box [i64 a.Epoch, i64 a.Other, i64 ((-1)), i64 a.Next, .sl true (L cU8 ([]))] false], orcs_nil, by simp only [go_sem, k], (weak_sel [0, 1, 2] (by decide) rfl (by simp only [go_sem]) (by simp only [go_sem]))⟩
      · replace g := ite_f g k
        rcases Bool.eq_false_or_eq_true ((decide (a.SentAt > c))) with p | p
        · replace g := ite_t g p
          have e_hv_228 := Option.some.inj g; subst e_hv_228
          exact ⟨_, [(1, i64 c), (2, .ref 0 0), (4, .ref 1 0), (6, .ref 2 0), (7, .bool true)], [.box [i64 a.Epoch, i64 a.Other, i64 a.First, .sl false (L (cSl cU8) a.Queue), i64 a.Next, .sl false (L cK a.Early), i64 a.SentAt] false, .box [i64 0, i64 0, i64 0, .sl true (L (cSl cU8) ([])), i64 0, .sl true (L cK ([])), i64 0] false, .box [i64 a.Epoch, i64 a.Other, i64 ((-1)), i64 a.Next, .sl true (L cU8 ([]))] false], orcs_nil, by simp only [go_sem, k, p], (weak_sel [0, 1, 2] (by decide) rfl (by simp only [go_sem]) (by simp only [go_sem]))⟩
        · replace g := ite_f g p
          have e_hv_228 := Option.some.inj g; subst e_hv_228
          exact ⟨_, [(1, i64 c), (2, .ref 0 0), (4, .ref 1 0), (6, .ref 2 0), (7, .bool ((decide ((w64 (c - a.SentAt)) ≥ 10))))], [.box [i64 a.Epoch, i64 a.Other, i64 a.First, .sl false (L (cSl cU8) a.Queue), i64 a.Next, .sl false (L cK a.Early), i64 a.SentAt] false, .box [i64 0, i64 0, i64 0, .sl true (L (cSl cU8) ([])), i64 0, .sl true (L cK ([])), i64 0] false, .box [i64 a.Epoch, i64 a.Other, i64 ((-1)), i64 a.Next, .sl true (L cU8 ([]))] false], orcs_nil, by simp only [go_sem, k, p], (weak_sel [0, 1, 2] (by decide) rfl (by simp only [go_sem]) (by simp only [go_sem]))⟩
    refine run_seq ?_
    replace h := bind_some1 h; obtain ⟨ag, m, h⟩ := h
    refine run_textW hE [1, 2, 4, 6, 51] (fr' := [(1, i64 c), (2, .ref 0 0), (4, .ref 1 0), (6, .ref 2 0), (51, .bool ag)]) (σ' := [.box [i64 a.Epoch, i64 a.Other, i64 a.First, .sl false (L (cSl cU8) a.Queue), i64 a.Next, .sl false (L cK a.Early), i64 a.SentAt] false, .box [i64 0, i64 0, i64 0, .sl true (L (cSl cU8) ([])), i64 0, .sl true (L cK ([])), i64 0] false, .box [i64 a.Epoch, i64 a.Other, i64 ((-1)), i64 a.Next, .sl true (L cU8 ([]))] false]) ?_ ?_
    · rcases Bool.eq_false_or_eq_true (((a.Queue.length : Int) == 0)) with q | q
      · replace m := ite_t m q
        have e_hv_232 := Option.some.inj m; subst e_hv_232
        exact ⟨_, [(1, i64 c), (2, .ref 0 0), (4, .ref 1 0), (6, .ref 2 0), (51, .bool true)], [.box [i64 a.Epoch, i64 a.Other, i64 a.First, .sl false (L (cSl cU8) a.Queue), i64 a.Next, .sl false (L cK a.Early), i64 a.SentAt] false, .box [i64 0, i64 0, i64 0, .sl true (L (cSl cU8) ([])), i64 0, .sl true (L cK ([])), i64 0] false, .box [i64 a.Epoch, i64 a.Other, i64 ((-1)), i64 a.Next, .sl true (L cU8 ([]))] false], orcs_nil, by simp only [go_sem, q], (weak_sel [0, 1, 2] (by decide) rfl (by simp only [go_sem]) (by simp only [go_sem]))⟩
      · replace m := ite_f m q
        have e_hv_232 := Option.some.inj m; subst e_hv_232
        exact ⟨_, [(1, i64 c), (2, .ref 0 0), (4, .ref 1 0), (6, .ref 2 0), (51, .bool ((!x)))], [.box [i64 a.Epoch, i64 a.Other, i64 a.First, .sl false (L (cSl cU8) a.Queue), i64 a.Next, .sl false (L cK a.Early), i64 a.SentAt] false, .box [i64 0, i64 0, i64 0, .sl true (L (cSl cU8) ([])), i64 0, .sl true (L cK ([])), i64 0] false, .box [i64 a.Epoch, i64 a.Other, i64 ((-1)), i64 a.Next, .sl true (L cU8 ([]))] false], orcs_nil, by simp only [go_sem, q], (weak_sel [0, 1, 2] (by decide) rfl (by simp only [go_sem]) (by simp only [go_sem]))⟩
    refine run_condL (b := ag) rfl (by decide) (fun hb => ?_) (fun hb => ?_)
    · replace h := ite_t h hb
      replace h := lt1_some h; obtain ⟨z, aj, h⟩ := h
      refine run_drawS hE mixed [[], [], [1], [0], [0, 1, 2, 3]] (by kernel_rfl) [(4, 1), (6, 2)] [] [4, 5, 6] (by kernel_rfl) (fr' := [(4, .ref 1 0), (5, .bs true 3 (z.length) 0 (z.length)), (6, .ref 2 0)]) (σ' := [.box [i64 a.Epoch, i64 a.Other, i64 a.First, .sl false (L (cSl cU8) a.Queue), i64 a.Next, .sl false (L cK a.Early), i64 a.SentAt] false, .box [i64 a.Epoch, i64 a.Other, i64 a.First, .sl false (L (cSl cU8) a.Queue), i64 a.Next, .sl false (L cK a.Early), i64 a.SentAt] false, .box [i64 a.Epoch, i64 a.Other, i64 ((-1)), i64 a.Next, .sl true (L cU8 ([]))] false, .buf 5 (L cK z) false]) ⟨rfl, rfl, trivial⟩ ⟨_, _, orcs_nil, (by simp only [XOk]), ?_⟩ ?_
      · subst aj; simp only [go_sem, Nat.reduceBEq, Nat.reduceMul, Nat.reduceSub, Nat.reduceGT, Nat.reducePow, Nat.reduceLeDiff, Int.reduceToNat]
      refine run_ret ?_
      refine thenK_r ?_
      obtain rfl := Option.some.inj h
      refine wkP_of (Weak.refl _ _) ?_
      refine ret_ok (.inr rfl) ?_
      simp only [go_sem]
    · replace h := ite_f h hb
      refine run_skip ?_
      refine thenK_n ?_
      refine run_textE hE [1, 2, 4, 6, 8] (fr' := [(1, i64 c), (2, .ref 0 0), (4, .ref 1 0), (6, .ref 2 0), (8, .sl true (L cK ([])))]) (σ' := [.box [i64 a.Epoch, i64 a.Other, i64 a.First, .sl false (L (cSl cU8) a.Queue), i64 a.Next, .sl false (L cK a.Early), i64 a.SentAt] false, .box [i64 0, i64 0, i64 0, .sl true (L (cSl cU8) ([])), i64 0, .sl true (L cK ([])), i64 0] false, .box [i64 a.Epoch, i64 a.Other, i64 ((-1)), i64 a.Next, .sl true (L cU8 ([]))] false]) ⟨_, orcs_nil, ?_⟩ ?_
      · simp only [go_sem]
      replace h := bind_some1 h; obtain ⟨au, ab, ac⟩ := h
      refine run_join (fun (v : List Pk) => (⟨asFr 86 [(1, i64 c), (2, .ref 0 0), (4, .ref 1 0), (8, .bs false 2 (v.length) 0 (v.length))], [.box [i64 a.Epoch, i64 a.Other, i64 a.First, .sl false (L (cSl cU8) a.Queue), i64 a.Next, .sl false (L cK a.Early), i64 a.SentAt] false, .box [i64 0, i64 0, i64 0, .sl true (L (cSl cU8) ([])), i64 0, .sl true (L cK ([])), i64 0] false, .buf 5 (L cK v) false]⟩ : St)) (fun v => v = au) ?_ ?_
      · have h := ab; clear ab
        replace h := chk_some h; obtain ⟨ak, h⟩ := h
        replace h := lt1_some h; obtain ⟨i, al, h⟩ := h
        replace h := lt1_some h; obtain ⟨j, am, h⟩ := h
        refine run_textE hE [1, 2, 4, 6, 8, 61, 62, 63] (fr' := [(1, i64 c), (2, .ref 0 0), (4, .ref 1 0), (6, .ref 2 0), (8, .sl true (L cK ([]))), (61, .sl false (L (cSl cU8) i)), (62, i64 j), (63, i64 0)]) (σ' := [.box [i64 a.Epoch, i64 a.Other, i64 a.First, .sl false (L (cSl cU8) a.Queue), i64 a.Next, .sl false (L cK a.Early), i64 a.SentAt] false, .box [i64 0, i64 0, i64 0, .sl true (L (cSl cU8) ([])), i64 0, .sl true (L cK ([])), i64 0] false, .box [i64 a.Epoch, i64 a.Other, i64 ((-1)), i64 a.Next, .sl true (L cU8 ([]))] false]) ⟨_, orcs_nil, ?_⟩ ?_
        · subst am; subst al; simp only [go_sem, Int.reduceToNat, ak]
        refine run_block ?_
        replace h := bind_some1 h; obtain ⟨aw, an, ad⟩ := h
        refine run_loopO an (fun (v : Int × List Pk) => (⟨asFr 86 [(1, i64 c), (2, .ref 0 0), (4, .ref 1 0), (6, .ref 2 0), (8, .bs false 3 (v.2.length) 0 (v.2.length)), (61, .sl false (L (cSl cU8) i)), (62, i64 j), (63, i64 v.1)], [.box [i64 a.Epoch, i64 a.Other, i64 a.First, .sl false (L (cSl cU8) a.Queue), i64 a.Next, .sl false (L cK a.Early), i64 a.SentAt] false, .box [i64 0, i64 0, i64 0, .sl true (L (cSl cU8) ([])), i64 0, .sl true (L cK ([])), i64 0] false, .box [i64 a.Epoch, i64 a.Other, i64 ((-1)), i64 a.Next, .sl true (L cU8 ([]))] false, .buf 5 (L cK v.2) false]⟩ : St)) ((weak_nil 8 5 rfl).trans (weak_sel [0, 1, 2, 3] (by decide) rfl (by simp only [go_sem]) (by simp only [go_sem]))) ?_
        rintro ⟨f, e⟩ av h ah
        replace h : window_Emit_b1 a i j f e = some av := h
        unfold window_Emit_b1 at h
        refine run_textE hE [1, 2, 4, 6, 8, 61, 62, 63, 64] (fr' := [(1, i64 c), (2, .ref 0 0), (4, .ref 1 0), (6, .ref 2 0), (8, .bs false 3 (e.length) 0 (e.length)), (61, .sl false (L (cSl cU8) i)), (62, i64 j), (63, i64 f), (64, .bool ((decide (f < j))))]) (σ' := [.box [i64 a.Epoch, i64 a.Other, i64 a.First, .sl false (L (cSl cU8) a.Queue), i64 a.Next, .sl false (L cK a.Early), i64 a.SentAt] false, .box [i64 0, i64 0, i64 0, .sl true (L (cSl cU8) ([])), i64 0, .sl true (L cK ([])), i64 0] false, .box [i64 a.Epoch, i64 a.Other, i64 ((-1)), i64 a.Next, .sl true (L cU8 ([]))] false, .buf 5 (L cK e) false]) ⟨_, orcs_nil, ?_⟩ ?_
        · simp only [go_sem]
        refine run_seq ?_
        refine run_condL (b := (decide (f < j))) rfl (by decide) (fun hb => ?_) (fun hb => ?_)
        · replace h := ite_t h hb
          refine run_skip ?_
          refine thenK_n ?_
          refine run_seq ?_
          refine run_block ?_
          replace h := chk_some h; obtain ⟨w, h⟩ := h
          refine run_textE hE [1, 2, 4, 6, 8, 9, 10, 61, 62, 63] (fr' := [(1, i64 c), (2, .ref 0 0), (4, .ref 1 0), (6, .ref 2 0), (8, .bs false 3 (e.length) 0 (e.length)), (9, i64 f), (10, .sl false (L cU8 (nth i f.toNat))), (61, .sl false (L (cSl cU8) i)), (62, i64 j), (63, i64 f)]) (σ' := [.box [i64 a.Epoch, i64 a.Other, i64 a.First, .sl false (L (cSl cU8) a.Queue), i64 a.Next, .sl false (L cK a.Early), i64 a.SentAt] false, .box [i64 0, i64 0, i64 0, .sl true (L (cSl cU8) ([])), i64 0, .sl true (L cK ([])), i64 0] false, .box [i64 a.Epoch, i64 a.Other, i64 ((-1)), i64 a.Next, .sl true (L cU8 ([]))] false, .buf 5 (L cK e) false]) ⟨_, orcs_nil, ?_⟩ ?_
          · simp only [go_sem, Int.reduceToNat, w, w.2, lt_le w.2]
          refine run_textE hE [1, 2, 4, 6, 8, 9, 10, 11, 61, 62, 63] (fr' := [(1, i64 c), (2, .ref 0 0), (4, .ref 1 0), (6, .ref 2 0), (8, .bs false 3 (e.length) 0 (e.length)), (9, i64 f), (10, .sl false (L cU8 (nth i f.toNat))), (11, .ref 4 0), (61, .sl false (L (cSl cU8) i)), (62, i64 j), (63, i64 f)]) (σ' := [.box [i64 a.Epoch, i64 a.Other, i64 a.First, .sl false (L (cSl cU8) a.Queue), i64 a.Next, .sl false (L cK a.Early), i64 a.SentAt] false, .box [i64 0, i64 0, i64 0, .sl true (L (cSl cU8) ([])), i64 0, .sl true (L cK ([])), i64 0] false, .box [i64 a.Epoch, i64 a.Other, i64 ((-1)), i64 a.Next, .sl true (L cU8 ([]))] false, .buf 5 (L cK e) false, .box [i64 a.Epoch, i64 a.Other, i64 ((-1)), i64 a.Next, .sl true (L cU8 ([]))] false]) ⟨_, orcs_nil, ?_⟩ ?_
          · simp only [go_sem, Nat.reduceLeDiff]
          replace h := bind_some1 h; obtain ⟨s, ao, h⟩ := h
          replace h := lt1_some h; obtain ⟨u, ap, h⟩ := h
          refine run_drawE hE mixed [[], [0], [], [0, 1, 2], [], [4], [0, 1, 2, 3], [0, 1, 2, 3, 4, 5, 6], [0, 1, 2, 3, 4, 5, 6, 7], [0, 1, 2, 3, 4, 5, 6, 7, 8]] (by kernel_rfl) (by kernel_rfl) [1, 2, 4, 6, 8, 11, 61, 62, 63] (fr' := [(1, i64 c), (2, .ref 0 0), (4, .ref 1 0), (6, .ref 2 0), (8, .bs false 3 (e.length) 0 (e.length)), (11, .ref 4 0), (61, .sl false (L (cSl cU8) i)), (62, i64 j), (63, i64 f)]) (σ' := [.box [i64 a.Epoch, i64 a.Other, i64 a.First, .sl false (L (cSl cU8) a.Queue), i64 a.Next, .sl false (L cK a.Early), i64 a.SentAt] false, .box [i64 0, i64 0, i64 0, .sl true (L (cSl cU8) ([])), i64 0, .sl true (L cK ([])), i64 0] false, .box [i64 a.Epoch, i64 a.Other, i64 ((-1)), i64 a.Next, .sl true (L cU8 ([]))] false, .buf 5 (L cK e) false, .box [i64 a.Epoch, i64 a.Other, i64 u, i64 a.Next, .sl false (L cU8 s)] false]) ⟨_, orcs_ok (l := [(74, 39, [.sl false (L cU8 (nth i f.toNat))], .sl false (L cU8 s))]) ⟨window_own_con  ao, trivial⟩, ?_⟩ ?_
          · subst ap; simp only [go_sem, Nat.reduceLeDiff]
          replace h := chk_some h; obtain ⟨aq, h⟩ := h
          replace h := lt1_some h; obtain ⟨n, ar, h⟩ := h
          refine run_textE0 hE (wk_block wk_then) [1, 2, 4, 6, 8, 61, 62, 63] (fr' := [(1, i64 c), (2, .ref 0 0), (4, .ref 1 0), (6, .ref 2 0), (8, .bs false 3 (n.length) 0 (n.length)), (61, .sl false (L (cSl cU8) i)), (62, i64 j), (63, i64 f)]) (σ' := [.box [i64 a.Epoch, i64 a.Other, i64 a.First, .sl false (L (cSl cU8) a.Queue), i64 a.Next, .sl false (L cK a.Early), i64 a.SentAt] false, .box [i64 0, i64 0, i64 0, .sl true (L (cSl cU8) ([])), i64 0, .sl true (L cK ([])), i64 0] false, .box [i64 a.Epoch, i64 a.Other, i64 ((-1)), i64 a.Next, .sl true (L cU8 ([]))] false, .buf 5 (L cK n) false, .box [i64 a.Epoch, i64 a.Other, i64 u, i64 a.Next, .sl false (L cU8 s)] false, .buf 5 (L cK (([({ Epoch := a.Epoch, To := a.Other, Seq := u, Ack := a.Next, Data := s } : Pk)] : List Pk))) false]) ⟨_, orcs_nil, ?_⟩ ?_
          · subst ar; simp only [go_sem, Nat.reduceBEq, Nat.reduceMul, Nat.reduceSub, Nat.reduceGT, Nat.reducePow, Nat.reduceLeDiff, Int.reduceToNat, aq]
          refine blockK_n ?_
          refine thenK_n ?_
          refine run_textE0 hE wk_lp [1, 2, 4, 6, 8, 61, 62, 63] (fr' := [(1, i64 c), (2, .ref 0 0), (4, .ref 1 0), (6, .ref 2 0), (8, .bs false 3 (n.length) 0 (n.length)), (61, .sl false (L (cSl cU8) i)), (62, i64 j), (63, i64 ((w64 (f + 1))))]) (σ' := [.box [i64 a.Epoch, i64 a.Other, i64 a.First, .sl false (L (cSl cU8) a.Queue), i64 a.Next, .sl false (L cK a.Early), i64 a.SentAt] false, .box [i64 0, i64 0, i64 0, .sl true (L (cSl cU8) ([])), i64 0, .sl true (L cK ([])), i64 0] false, .box [i64 a.Epoch, i64 a.Other, i64 ((-1)), i64 a.Next, .sl true (L cU8 ([]))] false, .buf 5 (L cK n) false, .box [i64 a.Epoch, i64 a.Other, i64 u, i64 a.Next, .sl false (L cU8 s)] false, .buf 5 (L cK (([({ Epoch := a.Epoch, To := a.Other, Seq := u, Ack := a.Next, Data := s } : Pk)] : List Pk))) false]) ⟨_, orcs_nil, ?_⟩ ?_
          · simp only [go_sem]
          obtain rfl := Option.some.inj h
          exact lpK_n (((w64 (f + 1)), n)) rfl (weak_sel [0, 1, 2, 3] (by decide) rfl (by simp only [go_sem]) (by simp only [go_sem]))
        · replace h := ite_f h hb
          refine run_exit ?_
          refine thenK_x ?_
          obtain rfl := Option.some.inj h
          have ex_x_297 := ah _ rfl
          subst ex_x_297
          have h := ad; clear ad
          refine lpK_x ?_
          refine blockK_x ?_
          obtain rfl := Option.some.inj h
          exact joinK_n e rfl ((weak_sel (l' := [(1, i64 c), (2, .ref 0 0), (4, .ref 1 0), (8, .bs false 2 (e.length) 0 (e.length))]) (σ' := [.box [i64 a.Epoch, i64 a.Other, i64 a.First, .sl false (L (cSl cU8) a.Queue), i64 a.Next, .sl false (L cK a.Early), i64 a.SentAt] false, .box [i64 0, i64 0, i64 0, .sl true (L (cSl cU8) ([])), i64 0, .sl true (L cK ([])), i64 0] false, .buf 5 (L cK e) false]) [0, 1, 3] (by decide) rfl (by simp only [go_sem]) (by simp only [go_sem])).trans (weak_sel [0, 1, 2] (by decide) rfl (by simp only [go_sem]) (by simp only [go_sem])))
      rintro t rfl
      have h := ac; clear ac
      refine run_textE hE [2, 4, 8] (fr' := [(2, .ref 0 0), (4, .ref 1 0), (8, .bs false 2 (t.length) 0 (t.length))]) (σ' := [.box [i64 a.Epoch, i64 a.Other, i64 a.First, .sl false (L (cSl cU8) a.Queue), i64 a.Next, .sl false (L cK a.Early), i64 c] false, .box [i64 0, i64 0, i64 0, .sl true (L (cSl cU8) ([])), i64 0, .sl true (L cK ([])), i64 0] false, .buf 5 (L cK t) false]) ⟨_, orcs_nil, ?_⟩ ?_
      · simp only [go_sem, Nat.reduceLeDiff]
      refine run_textE hE [4, 5] (fr' := [(4, .ref 1 0), (5, .bs false 2 (t.length) 0 (t.length))]) (σ' := [.box [i64 a.Epoch, i64 a.Other, i64 a.First, .sl false (L (cSl cU8) a.Queue), i64 a.Next, .sl false (L cK a.Early), i64 c] false, .box [i64 a.Epoch, i64 a.Other, i64 a.First, .sl false (L (cSl cU8) a.Queue), i64 a.Next, .sl false (L cK a.Early), i64 c] false, .buf 5 (L cK t) false]) ⟨_, orcs_nil, ?_⟩ ?_
      · simp only [go_sem, Nat.reduceLeDiff]
      refine run_ret ?_
      obtain rfl := Option.some.inj h
      refine wkP_of (Weak.refl _ _) ?_
      refine ret_ok (.inr rfl) ?_
      simp only [go_sem]

end Go.Proofs.Ytomjphpnpcgacaa
/-
  The functions compute just that.
-/
namespace Go.Proofs.Ytomjphpnpcgacaa
open Go.Rv
set_option linter.unusedVariables false
set_option linter.unusedSimpArgs false
set_option maxRecDepth 20000
set_option maxHeartbeats 4000000

theorem window_side_take_con {d : Window_side} {f : List UInt8} {r : Window_side} (h : window_side_take d f = some r) : Con B 60 [.ref 0 0, .sl false (L cU8 f)] [.box [i64 d.Peer.Epoch, i64 d.Peer.Other, i64 d.Peer.First, .sl false (L (cSl cU8) d.Peer.Queue), i64 d.Peer.Next, .sl false (L cK d.Peer.Early), i64 d.Peer.SentAt, .bs false 1 (d.dz.length) 0 (d.dz.length)] false, .buf 1 (L (cSl cU8) d.dz) false] (fun r' σ' => r' = .tup [] ∧ σ' = [.box [i64 r.Peer.Epoch, i64 r.Peer.Other, i64 r.Peer.First, .sl false (L (cSl cU8) r.Peer.Queue), i64 r.Peer.Next, .sl false (L cK r.Peer.Early), i64 r.Peer.SentAt, .bs false 1 (r.dz.length) 0 (r.dz.length)] false, .buf 1 (L (cSl cU8) r.dz) false]) := by
  refine con_walk_own (N := 24) (rs := []) 2 rfl ok Try.func60 rfl (by decide +kernel) rfl rfl (Nat.le_of_ble_eq_true rfl) (fun F => ?_)
  have hE := ok.env F
  unfold window_side_take at h
  show Run (B.env F) 2 _ ⟨asFr 24 [(0, .ref 0 0), (1, .sl false (L cU8 f))], [.box [i64 d.Peer.Epoch, i64 d.Peer.Other, i64 d.Peer.First, .sl false (L (cSl cU8) d.Peer.Queue), i64 d.Peer.Next, .sl false (L cK d.Peer.Early), i64 d.Peer.SentAt, .bs false 1 (d.dz.length) 0 (d.dz.length)] false, .buf 1 (L (cSl cU8) d.dz) false]⟩ _
  refine run_wkP ?_
  replace h := bind_some1 h; obtain ⟨k, n, h⟩ := h
  replace h := chk_some h; obtain ⟨o, h⟩ := h
  replace h := lt1_some h; obtain ⟨i, p, h⟩ := h
  refine run_drawE hE mixed [[], [], [1], [1, 2], [1, 2, 3], [], [5], [5, 6], [1, 2, 3, 4, 5, 6, 7], [0, 1, 2, 3, 4, 5, 6, 7, 8], [0, 1, 2, 3, 4, 5, 6, 7, 8, 9], [0, 1, 2, 3, 4, 5, 6, 7, 8, 9, 10]] (by kernel_rfl) (by kernel_rfl) [0] (fr' := [(0, .ref 0 0)]) (σ' := [.box [i64 d.Peer.Epoch, i64 d.Peer.Other, i64 d.Peer.First, .sl false (L (cSl cU8) d.Peer.Queue), i64 d.Peer.Next, .sl false (L cK d.Peer.Early), i64 d.Peer.SentAt, .bs false 1 (i.length) 0 (i.length)] false, .buf 1 (L (cSl cU8) i) false, .buf 1 (L (cSl cU8) (([k] : List (List UInt8)))) false]) ⟨_, orcs_ok (l := [(10, 39, [.sl false (L cU8 f)], .sl false (L cU8 k))]) ⟨window_own_con  n, trivial⟩, ?_⟩ ?_
  · subst p; simp only [go_sem, Nat.reduceBEq, Nat.reduceMul, Nat.reduceSub, Nat.reduceGT, Nat.reducePow, Nat.reduceLeDiff, Int.reduceToNat, o]
  replace h := lt1_some h; obtain ⟨v, q, h⟩ := h
  refine run_textE0 hE wk_wkP [] (fr' := []) (σ' := [.box [i64 d.Peer.Epoch, i64 d.Peer.Other, i64 d.Peer.First, .sl false (L (cSl cU8) d.Peer.Queue), i64 v, .sl false (L cK d.Peer.Early), i64 d.Peer.SentAt, .bs false 1 (i.length) 0 (i.length)] false, .buf 1 (L (cSl cU8) i) false, .buf 1 (L (cSl cU8) (([k] : List (List UInt8)))) false]) ⟨_, orcs_nil, ?_⟩ ?_
  · subst q; simp only [go_sem, Nat.reduceLeDiff]
  obtain rfl := Option.some.inj h
  refine wkP_of (Weak.refl _ _) ?_
  refine ret_own (.inl rfl) [0, 1] (by decide) rfl ?_ ?_
  · simp only [go_sem]
  · simp only [go_sem]

theorem window_side_acknowledge_con {a : Window_side} {c : Pk} {r : Window_side} (h : window_side_acknowledge a c = some r) : Con B 41 [.ref 0 0, .agg [i64 c.Epoch, i64 c.To, i64 c.Seq, i64 c.Ack, .sl false (L cU8 c.Data)]] [.box [i64 a.Peer.Epoch, i64 a.Peer.Other, i64 a.Peer.First, .sl false (L (cSl cU8) a.Peer.Queue), i64 a.Peer.Next, .sl false (L cK a.Peer.Early), i64 a.Peer.SentAt, .bs false 1 (a.dz.length) 0 (a.dz.length)] false, .buf 1 (L (cSl cU8) a.dz) false] (fun r' σ' => r' = .tup [] ∧ σ' = [.box [i64 r.Peer.Epoch, i64 r.Peer.Other, i64 r.Peer.First, .sl false (L (cSl cU8) r.Peer.Queue), i64 r.Peer.Next, .sl false (L cK r.Peer.Early), i64 r.Peer.SentAt, .bs false 1 (r.dz.length) 0 (r.dz.length)] false, .buf 1 (L (cSl cU8) r.dz) false]) := by
  refine con_walk_own (N := 46) (rs := []) 2 rfl ok Try.func41 rfl (by decide +kernel) rfl rfl (Nat.le_of_ble_eq_true rfl) (fun F => ?_)
  have hE := ok.env F
  unfold window_side_acknowledge at h
  show Run (B.env F) 2 _ ⟨asFr 46 [(0, .ref 0 0), (1, .agg [i64 c.Epoch, i64 c.To, i64 c.Seq, i64 c.Ack, .sl false (L cU8 c.Data)])], [.box [i64 a.Peer.Epoch, i64 a.Peer.Other, i64 a.Peer.First, .sl false (L (cSl cU8) a.Peer.Queue), i64 a.Peer.Next, .sl false (L cK a.Peer.Early), i64 a.Peer.SentAt, .bs false 1 (a.dz.length) 0 (a.dz.length)] false, .buf 1 (L (cSl cU8) a.dz) false]⟩ _
  refine run_wkP ?_
  refine run_textE hE [0, 3] (fr' := [(0, .ref 0 0), (3, .ref 2 0)]) (σ' := [.box [i64 a.Peer.Epoch, i64 a.Peer.Other, i64 a.Peer.First, .sl false (L (cSl cU8) a.Peer.Queue), i64 a.Peer.Next, .sl false (L cK a.Peer.Early), i64 a.Peer.SentAt, .bs false 1 (a.dz.length) 0 (a.dz.length)] false, .buf 1 (L (cSl cU8) a.dz) false, .box [i64 c.Epoch, i64 c.To, i64 c.Seq, i64 c.Ack, .sl false (L cU8 c.Data)] false]) ⟨_, orcs_nil, ?_⟩ ?_
  · simp only [go_sem]
  replace h := lt1_some h; obtain ⟨j, s, h⟩ := h
  refine run_drawE hE mixed [[], [0], [], [2], [2, 3], [2, 3, 4], [2, 3, 4, 5], [0, 1, 2, 3, 4, 5, 6], [0, 1, 2, 3, 4, 5, 6, 7]] (by kernel_rfl) (by kernel_rfl) [0, 3, 4] (fr' := [(0, .ref 0 0), (3, .ref 2 0), (4, i64 j)]) (σ' := [.box [i64 a.Peer.Epoch, i64 a.Peer.Other, i64 a.Peer.First, .sl false (L (cSl cU8) a.Peer.Queue), i64 a.Peer.Next, .sl false (L cK a.Peer.Early), i64 a.Peer.SentAt, .bs false 1 (a.dz.length) 0 (a.dz.length)] false, .buf 1 (L (cSl cU8) a.dz) false, .box [i64 c.Epoch, i64 c.To, i64 c.Seq, i64 c.Ack, .sl false (L cU8 c.Data)] false]) ⟨_, orcs_nil, ?_⟩ ?_
  · subst s; simp only [go_sem]
  replace h := bind_some1 h; obtain ⟨m, e, h⟩ := h
  refine run_textW hE [0, 3, 4, 24] (fr' := [(0, .ref 0 0), (3, .ref 2 0), (4, i64 j), (24, .bool m)]) (σ' := [.box [i64 a.Peer.Epoch, i64 a.Peer.Other, i64 a.Peer.First, .sl false (L (cSl cU8) a.Peer.Queue), i64 a.Peer.Next, .sl false (L cK a.Peer.Early), i64 a.Peer.SentAt, .bs false 1 (a.dz.length) 0 (a.dz.length)] false, .buf 1 (L (cSl cU8) a.dz) false, .box [i64 c.Epoch, i64 c.To, i64 c.Seq, i64 c.Ack, .sl false (L cU8 c.Data)] false]) ?_ ?_
  · rcases Bool.eq_false_or_eq_true ((decide (j > 0))) with g | g
    · replace e := ite_t e g
      have e_hv_449 := Option.some.inj e; subst e_hv_449
      exact ⟨_, [(0, .ref 0 0), (3, .ref 2 0), (4, i64 j), (24, .bool ((decide (j ≤ (a.Peer.Queue.length : Int)))))], [.box [i64 a.Peer.Epoch, i64 a.Peer.Other, i64 a.Peer.First, .sl false (L (cSl cU8) a.Peer.Queue), i64 a.Peer.Next, .sl false (L cK a.Peer.Early), i64 a.Peer.SentAt, .bs false 1 (a.dz.length) 0 (a.dz.length)] false, .buf 1 (L (cSl cU8) a.dz) false, .box [i64 c.Epoch, i64 c.To, i64 c.Seq, i64 c.Ack, .sl false (L cU8 c.Data)] false], orcs_nil, by simp only [go_sem, g], (weak_sel [0, 1, 2] (by decide) rfl (by simp only [go_sem]) (by simp only [go_sem]))⟩
    · replace e := ite_f e g
      have e_hv_449 := Option.some.inj e; subst e_hv_449
      exact ⟨_, [(0, .ref 0 0), (3, .ref 2 0), (4, i64 j), (24, .bool false)], [.box [i64 a.Peer.Epoch, i64 a.Peer.Other, i64 a.Peer.First, .sl false (L (cSl cU8) a.Peer.Queue), i64 a.Peer.Next, .sl false (L cK a.Peer.Early), i64 a.Peer.SentAt, .bs false 1 (a.dz.length) 0 (a.dz.length)] false, .buf 1 (L (cSl cU8) a.dz) false, .box [i64 c.Epoch, i64 c.To, i64 c.Seq, i64 c.Ack, .sl false (L cU8 c.Data)] false], orcs_nil, by simp only [go_sem, g], (weak_sel [0, 1, 2] (by decide) rfl (by simp only [go_sem]) (by simp only [go_sem]))⟩
  refine run_condL (b := m) rfl (by decide) (fun hb => ?_) (fun hb => ?_)
  · replace h := ite_t h hb
    replace h := chk_some h; obtain ⟨t, h⟩ := h
    replace h := lt1_some h; obtain ⟨w, u, h⟩ := h
    refine run_drawS0 hE mixed [[], [], [], [], [3], [3, 4], [3, 4, 5], [3, 4, 5, 6], [], [3, 4, 5, 6, 7, 8], [], [10], [0, 3, 4, 5, 6, 7, 8, 9], [0, 3, 4, 5, 6, 7, 8, 9, 12], [0, 3, 4, 5, 6, 7, 8, 9, 12, 13], [0, 3, 4, 5, 6, 7, 8, 9, 12, 13, 14], [0, 1, 3, 4, 5, 6, 7, 8, 9, 10, 11, 12, 13, 14, 15], [0, 1, 3, 4, 5, 6, 7, 8, 9, 10, 11, 12, 13, 14, 15, 16], [0, 1, 3, 4, 5, 6, 7, 8, 9, 10, 11, 12, 13, 14, 15, 16, 17], [0, 1, 3, 4, 5, 6, 7, 8, 9, 10, 11, 12, 13, 14, 15, 16, 17, 18], [0, 1, 2, 3, 4, 5, 6, 7, 8, 9, 10, 11, 12, 13, 14, 15, 16, 17, 18, 19], [0, 1, 2, 3, 4, 5, 6, 7, 8, 9, 10, 11, 12, 13, 14, 15, 16, 17, 18, 19, 20], [0, 1, 2, 3, 4, 5, 6, 7, 8, 9, 10, 11, 12, 13, 14, 15, 16, 17, 18, 19, 20, 21], [0, 1, 2, 3, 4, 5, 6, 7, 8, 9, 10, 11, 12, 13, 14, 15, 16, 17, 18, 19, 20, 21, 22]] (by kernel_rfl) [(3, 2), (35, 2), (39, 0)] [] [3, 35, 39] (by kernel_rfl) wk_wkP (fr' := [(3, .ref 2 0), (35, .ref 2 3), (39, .ref 0 3)]) (σ' := [.box [i64 a.Peer.Epoch, i64 a.Peer.Other, i64 c.Ack, .sl false (L (cSl cU8) w), i64 a.Peer.Next, .sl false (L cK a.Peer.Early), i64 ((-1)), .bs false 1 (a.dz.length) 0 (a.dz.length)] false, .buf 1 (L (cSl cU8) a.dz) false, .box [i64 c.Epoch, i64 c.To, i64 c.Seq, i64 c.Ack, .sl false (L cU8 c.Data)] false]) ⟨rfl, rfl, rfl, trivial⟩ ⟨_, _, orcs_nil, (by simp only [XOk]), ?_⟩ ?_
    · subst u; simp only [go_sem, Int.reduceToNat, Nat.reduceLeDiff, t]
    obtain rfl := Option.some.inj h
    refine wkP_of (Weak.refl _ _) ?_
    refine ret_own (.inl rfl) [0, 1] (by decide) rfl ?_ ?_
    · simp only [go_sem]
    · simp only [go_sem]
  · replace h := ite_f h hb
    refine run_skip ?_
    obtain rfl := Option.some.inj h
    refine wkP_of (Weak.refl _ _) ?_
    refine ret_own (.inl rfl) [0, 1] (by decide) rfl ?_ ?_
    · simp only [go_sem]
    · simp only [go_sem]

end Go.Proofs.Ytomjphpnpcgacaa
/-
  slices.Insert, at packets: the four roads through it, each from an explicit memory.
-/
namespace Go.Proofs.Ytomjphpnpcgacaa
open Go.Rv Go.RowKit
set_option linter.unusedVariables false
set_option linter.unusedSimpArgs false

/-- The model's answer for slices.overlaps, where the second slice lies in a block of which nothing is marked. -/
theorem run_overlaps_apart2 {P : Program} (w : World) (tS tR e : TypeId) (ht : P.underlying tS = some (.slice e)) (size : Nat) (hz : ∀ w, (Go.sizeOf e).run P w = .ok size w)
    (a b : Addr) (la ca lb cb : Nat) (hne : a.block ≠ b.block) (tA tB : TypeId) (kA kB : Nat)
    (hsa : w.shape? a.block = some (tA, kA)) (hsb : w.shape? b.block = some (tB, kB)) (hkA : kA ≠ 0)
    (hfb : w.frozen? b = false) (hfe : w.frozen? { block := b.block, off := kB } = false) :
    (Extern.SlicesOverlaps.overlaps #[tS, tS] #[tR] #[.slice (some a) la ca, .slice (some b) lb cb]).run P w = .ok (.bool false) w := by
  have hnb : (a.block != b.block) = true := by simpa using hne
  have hnb' : (a.block == b.block) = false := by simpa using hne
  change Sem.run P (α := Value) (do
    let some t := (#[tS, tS] : Array TypeId)[0]? | stuck "slices.overlaps: no parameter types"
    let .slice elem ← underlying t | stuck "slices.overlaps: slice type expected"
    let size ← sizeOf elem
    match (some a : Option Addr), (some b : Option Addr) with
    | some a, some b =>
      if la = 0 ∨ lb = 0 ∨ size = 0 then pure (Value.bool false)
      else if a.block != b.block && (← frozen a) && (← frozen b) then unsupported .addressObserved
      else do
        if a.block != b.block then do
          noView a; noView b
          if ← mayBeOne a b then return Value.bool ((← choose (.extern "sameAddr.stringBytes" 2)) == 1)
        pure (Value.bool (a.block == b.block && a.off < b.off + lb * size && b.off < a.off + la * size))
    | _, _ => pure (Value.bool false)) w = _
  by_cases h0 : la = 0 ∨ lb = 0 ∨ size = 0
  · simp [run_underlying ht, hz, h0]
  · cases kA with
    | zero => exact absurd rfl hkA
    | succ kA =>
      cases h1 : w.frozen? a <;> cases h2 : w.frozen? { block := a.block, off := kA + 1 } <;> simp [run_underlying ht, hz, h0, hnb, hnb', frozen, noView, viewAt, mayBeOne, stringish, shape, Sem.run, hsa, hsb, hfb, hfe, h1, h2]

theorem u23 : Try.prog.underlying 23 = some (.slice 39) := by kernel_rfl
theorem z39 (w : World) : (Go.sizeOf 39).run Try.prog w = .ok 5 w := run_size (ok.env fun _ => False) (tb39 (fun _ => False)) w

set_option maxHeartbeats 4000000 in
set_option maxRecDepth 100000 in
/-- There is room: in place. -/
theorem ins_shift (w : World) (β o n c i vc : Nat) (p : Addr) (cur OLD NEW : Array Value) (T : TypeId) (fz : Nat × Nat) (hi : i < n) (hroom : n + 1 ≤ c) (hn63 : n + 1 ≤ 140737488355328)
    (hh : w.heap[β]? = some (.cells cur T fz)) (hsz : o + c * 5 ≤ cur.size) (hfz : noFreeze fz 0 (cur.size + 1)) (hO : OLD.size = n * 5) (hOat : ∀ j, j < n * 5 → cur.getD (o + j) undef = OLD.getD j undef)
    (hN : NEW.size = 5) (hp : p.block ≠ β) (hNat : At w p NEW) (h1O : ∀ v ∈ OLD.toList, one v = true) (h1N : ∀ v ∈ NEW.toList, one v = true) :
    Calls Try.prog 58 #[.slice (some ⟨β, o, none⟩) n c, .int .i64 i, .slice (some p) 1 vc] w fun e w' =>
      e = .returned (.slice (some ⟨β, o, none⟩) (n + 1) c) ∧ w' = (w.drew.setRow β (seg cur (o + (i + 1) * 5) (OLD.extract (i * 5) (n * 5)))).setRow β (seg (seg cur (o + (i + 1) * 5) (OLD.extract (i * 5) (n * 5))) (o + i * 5) NEW) := by
  have mixed : Try.prog.follows Departure.mixedOrders = true := by kernel_rfl
  have u23 := u23
  have z39 := z39
  have ru23 := run_underlying (P := Try.prog) u23
  have hz2 : ¬ ((i : Int) = (n : Int)) := by omega
  have hz3 : ¬ ((c : Int) < (n : Int) + 1) := by omega
  have hw1 : IntKind.i64.wrap ((i : Int) + 1) = (i : Int) + 1 := by rw [IntKind.wrap_i64]; omega
  have hw2 : IntKind.i64.wrap ((n : Int) + 1) = (n : Int) + 1 := by rw [IntKind.wrap_i64]; omega
  have hb1 : (0 : Int) ≤ (i : Int) + 1 := by omega
  have hin : i ≤ n := by omega
  have hb2 : ¬ (c = i + 1) := by omega
  have hb4 : ¬ (c = i) := by omega
  have htn : ((i : Int) + 1).toNat = i + 1 := by omega
  have htn2 : ((n : Int) + 1).toNat = n + 1 := by omega
  have hb3 : (i : Int) ≤ (n : Int) + 1 := by omega
  have hfzn : ∀ j, j ≤ cur.size → w.frozen? ⟨β, j, none⟩ = false := by
    intro j hj
    have := hfz.2 j (Nat.zero_le _) (by omega)
    obtain ⟨lo, hi'⟩ := fz
    simp only [World.frozen?, hh, Bool.and_eq_false_iff, decide_eq_false_iff_not]
    simp only at this
    omega
  obtain ⟨tA, kA, hsa, hkA⟩ : ∃ tA kA, w.shape? p.block = some (tA, kA) ∧ kA ≠ 0 := by
    have h0 := hNat 0 (by omega)
    rw [Addr.add_zero'] at h0
    unfold World.cell? at h0
    unfold World.shape?
    cases hq : w.heap[p.block]? with
    | none => rw [hq] at h0; cases h0
    | some ob =>
      rw [hq] at h0
      cases ob with
      | cells cs t f =>
        refine ⟨t, cs.size, rfl, fun e => ?_⟩
        simp only at h0
        split at h0
        · cases h0
        · have := (Array.getElem?_eq_some_iff.1 h0).1
          omega
      | _ => simp at h0
  have hsb : w.shape? β = some (T, cur.size) := by unfold World.shape?; rw [hh]
  have hov : ∀ lb cb, (callFunc 67 #[.slice (some p) 1 vc, .slice (some ⟨β, o + (i + 1) * 5, none⟩) lb cb]).run Try.prog w = .ok (.value (.bool false)) w := fun lb cb => by
    have hle : o + (i + 1) * 5 ≤ cur.size := by omega
    rw [run_callFunc_extern (P := Try.prog) (f := 67) (fn := Try.f67) (by kernel_rfl) (by kernel_rfl) (by kernel_rfl) (by kernel_rfl) (e := Extern.SlicesOverlaps.overlaps #[23, 23] #[4]) (by kernel_rfl),
      run_overlaps_apart2 w 23 4 39 u23 5 z39 p ⟨β, o + (i + 1) * 5, none⟩ 1 vc lb cb hp tA T kA cur.size hsa hsb hkA (hfzn _ hle) (hfzn _ (Nat.le_refl _))]
    rfl
  have hdl : (OLD.extract (i * 5) (n * 5)).size = (n - i) * 5 := by simp; omega
  have hcp1 : ∀ ty dc sc, (Builtin.copy_ #[23, 23] ty #[.slice (some ⟨β, o + (i + 1) * 5, none⟩) (n - i) dc, .slice (some ⟨β, o + i * 5, none⟩) (n + 1 - i) sc]).run Try.prog w.drew = .ok (goInt ((n - i : Nat) : Int)) (w.drew.setRow β (seg cur (o + (i + 1) * 5) (OLD.extract (i * 5) (n * 5)))) := fun ty dc sc => by
    have hmn : Nat.min (n + 1 - i) (n - i) = n - i := by simp only [Nat.min_def]; split <;> omega
    have := run_copy_seg (P := Try.prog) (W := w.drew) (H := β) (o := o + (i + 1) * 5) (k := 5) (cur := cur) (T := T) (fz := fz) hh u23 z39 (ty := ty) (n - i) dc (n + 1 - i) sc ⟨β, o + i * 5, none⟩ (OLD.extract (i * 5) (n * 5)) (by rw [hmn, hdl])
      (at_row (w := w.drew) hh _ _ (fun j hj => by
        rw [hdl] at hj
        refine ⟨by omega, ?_⟩
        rw [Nat.add_assoc, hOat _ (by omega)]
        simp only [Array.getD_eq_getD_getElem?, Array.getElem?_extract]
        rw [if_pos (by omega)])) (hfz.sub (by omega) (by omega)) (by omega) (fun v hv => h1O v (by
          rw [Array.toList_extract] at hv
          exact List.mem_of_mem_drop (List.mem_of_mem_take hv)))
    rw [hmn] at this
    exact this
  obtain ⟨R1, hR1⟩ : ∃ R1, R1 = seg cur (o + (i + 1) * 5) (OLD.extract (i * 5) (n * 5)) := ⟨_, rfl⟩
  have hR1s : R1.size = cur.size := by rw [hR1]; exact seg_size (by omega)
  obtain ⟨W1, hW1⟩ : ∃ W1, W1 = w.drew.setRow β R1 := ⟨_, rfl⟩
  have hW1h : W1.heap[β]? = some (.cells R1 T fz) := by rw [hW1]; exact setRow_heap w.drew β cur R1 T fz hh
  have hW1c : At W1 p NEW := hNat.mono fun j u hj hc => by
    rw [hW1, ← hc]
    simp only [World.cell?, World.setRow, World.drew, Array.getElem?_modify]
    have : ¬ (β = (p.add j).block) := fun e => hp (by rw [show (p.add j).block = p.block by unfold Addr.add; split <;> rfl] at e; exact e.symm)
    rw [if_neg this]
  have hcp2 : ∀ (W : World), W.heap = W1.heap → ∀ ty dc, (Builtin.copy_ #[23, 23] ty #[.slice (some ⟨β, o + i * 5, none⟩) (n + 1 - i) dc, .slice (some p) 1 vc]).run Try.prog W = .ok (goInt ((1 : Nat) : Int)) (W.setRow β (seg R1 (o + i * 5) NEW)) := fun W hWh ty dc => by
    have hmn : Nat.min 1 (n + 1 - i) = 1 := by simp only [Nat.min_def]; split <;> omega
    have := run_copy_seg (P := Try.prog) (W := W) (H := β) (o := o + i * 5) (k := 5) (cur := R1) (T := T) (fz := fz) (by rw [hWh]; exact hW1h) u23 z39 (ty := ty) (n + 1 - i) dc 1 vc p NEW (by rw [hmn, hN])
      (hW1c.mono fun j u hj hc => by rw [← hc]; simp only [World.cell?, hWh]) (hfz.sub (by omega) (by omega)) (by omega) h1N
    rw [hmn] at this
    exact this
  rw [← hR1, ← hW1] at hcp1
  rw [← hR1, ← hW1]
  clear hOat hNat h1O h1N hsa hsb hfzn hfz hh hW1h hW1c hdl hR1 hW1 hR1s hsz
  go_enter Try.func58, Try.ntmps58
  go_wp2_with (simp only [hov])
  go_region_law_o (refine Go.Proofs.step_copy_runI rfl _ _ 23 23 rfl _ _ (by simp [Act.eval, Act.put]) (by simp [Act.eval, Act.put]) (hcp1 _ _ _) ?_)
  go_wp2_with (at_builtin; refine Go.Proofs.wpList_copy_runI _ rfl _ _ 23 23 rfl _ _ rfl rfl (hcp2 _ rfl _ _) ?_)
  go_ret
  exact ⟨rfl, rfl⟩

set_option maxHeartbeats 4000000 in
set_option maxRecDepth 100000 in
/-- At the end: what append does. -/
theorem ins_end (w : World) (base : Option Addr) (n c vc : Nat) (p : Addr) (u : Value) (w1 : World) (hnc : n ≤ c) (hnil : base = none → n = 0)
    (hrun : ∀ ty, (Builtin.append_ #[23, 23] ty #[.slice base n c, .slice (some p) 1 vc]).run Try.prog w = .ok u w1) :
    Calls Try.prog 58 #[.slice base n c, .int .i64 n, .slice (some p) 1 vc] w fun e w' => e = .returned u ∧ w' = w1 := by
  have mixed : Try.prog.follows Departure.mixedOrders = true := by kernel_rfl
  have u23 := u23
  have z39 := z39
  have ru23 := run_underlying (P := Try.prog) u23
  have hle : (n : Int) ≤ (n : Int) := Int.le_refl _
  go_enter Try.func58, Try.ntmps58
  cases base with
  | none =>
    have h0 := hnil rfl
    subst h0
    go_wp2_with (at_builtin; refine Lib.wpList_append_run _ rfl _ _ _ _ rfl _ _ rfl rfl _ _ (hrun _) ?_)
    all_goals (go_ret; exact ⟨rfl, rfl⟩)
  | some a =>
    obtain ⟨ab, ao, asp⟩ := a
    go_wp2_with (at_builtin; refine Lib.wpList_append_run _ rfl _ _ _ _ rfl _ _ rfl rfl _ _ (hrun _) ?_)
    all_goals (go_ret; exact ⟨rfl, rfl⟩)

/-- What a new row is like. -/
def growP (w : World) (H n i : Nat) (OLD NEW : Array Value) (e : Ending) (w' : World) : Prop :=
  ∃ (G : Nat) (R3 : Array Value), e = .returned (.slice (some ⟨H, 0, none⟩) (n + 1) G) ∧ n + 1 ≤ G ∧ OneMore w w' (.cells R3 39) ∧ R3.size = G * 5 ∧ ∀ j, j < (n + 1) * 5 → R3.getD j undef = insAt OLD NEW i 5 j

set_option maxHeartbeats 4000000 in
set_option maxRecDepth 100000 in
/-- There is no room: a new row. -/
theorem ins_grow (w : World) (H : Nat) (hH : H = w.heap.size) (β o n i vc : Nat) (p : Addr) (OLD NEW : Array Value) (hi : i < n) (hn63 : n + 1 ≤ 2513169434916) (hO : OLD.size = n * 5) (hOat : At w ⟨β, o, none⟩ OLD)
    (hN : NEW.size = 5) (hNat : At w p NEW) (h1O : ∀ v ∈ OLD.toList, one v = true) (h1N : ∀ v ∈ NEW.toList, one v = true) :
    Calls Try.prog 58 #[.slice (some ⟨β, o, none⟩) n n, .int .i64 i, .slice (some p) 1 vc] w (growP w H n i OLD NEW) := by
  have mixed : Try.prog.follows Departure.mixedOrders = true := by kernel_rfl
  have u23 := u23
  have z39 := z39
  have ru23 := run_underlying (P := Try.prog) u23
  have hz2 : ¬ ((i : Int) = (n : Int)) := by omega
  have hw1 : IntKind.i64.wrap ((i : Int) + 1) = (i : Int) + 1 := by rw [IntKind.wrap_i64]; omega
  have hw2 : IntKind.i64.wrap ((n : Int) + 1) = (n : Int) + 1 := by rw [IntKind.wrap_i64]; omega
  have hw3 : IntKind.i64.wrap ((n : Int) + 1 - (i : Int)) = (n : Int) + 1 - (i : Int) := by rw [IntKind.wrap_i64]; omega
  have hb1 : (0 : Int) ≤ (i : Int) + 1 := by omega
  have hin : i ≤ n := by omega
  have hb4 : ¬ (n = i) := by omega
  have htn : ((i : Int) + 1).toNat = i + 1 := by omega
  have hb3 : (i : Int) ≤ (n : Int) + 1 := by omega
  have hb5 : (i : Int) + 1 ≤ (n : Int) + 1 := by omega
  have hik : i + (n + 1 - i) = n + 1 := by omega
  have hkk : (n : Int) + 1 - (i : Int) = ((n + 1 - i : Nat) : Int) := by omega
  obtain ⟨i0, z0, hi0, hs0, hby0, hz0, hzs0, _⟩ := (ok.env fun _ => False).info 39 _ (tb39 fun _ => False)
  have hs0 : i0.size = 5 := hs0
  have hby0 : i0.bytes = 56 := hby0
  have hzs0 : z0.cells.size = 5 := hzs0
  have hbw : β < w.heap.size := cell?_lt (hOat 0 (by omega))
  have hpw : p.block < w.heap.size := by have := cell?_lt (hNat 0 (by omega)); rwa [Addr.add_zero'] at this
  have hold : (Builtin.firstCells i0.size i (.slice (some ⟨β, o, none⟩) i n)).run Try.prog w.drew = .ok (OLD.extract 0 (i * 5)).toList.toArray w.drew := by
    rw [hs0, Array.toArray_toList]
    refine first_of (w := w.drew) (fun j hj => ?_) (by simp; omega)
    have hj' : j < i * 5 := by simp at hj; omega
    have := hOat j (by omega)
    show w.cell? _ = _
    rw [this]
    simp only [Array.getD_eq_getD_getElem?, Array.getElem?_extract]
    rw [if_pos (by omega), Nat.zero_add]
  have hrz : ∀ ty, (Builtin.append_ #[23, 3] ty #[.slice (some ⟨β, o, none⟩) i n, .int .i64 ((n + 1 - i : Nat) : Int)]).run Try.prog w =
      .ok (.slice (some ⟨w.heap.size, 0, none⟩) (n + 1) (grownCap w (n + 1) n 39)) (w.drew.alloc (.cells ((OLD.extract 0 (i * 5)).toList.toArray ++ Builtin.zeroCells z0.cells (n + 1 - i) ++ Builtin.zeroCells z0.cells (grownCap w (n + 1) n 39 - (n + 1))) 39)) := fun ty => by
    have h := Lib.run_append_grow_zeros w 23 3 ty 39 i0 z0 .i64 .i64 u23 (by kernel_rfl) hi0 hz0 (some ⟨β, o, none⟩) i n (OLD.extract 0 (i * 5)).toList hold (n + 1 - i) (by omega) (by omega) (by omega) (by omega) (by rw [hby0]; omega)
      (by rw [hby0, hik]; exact growslice_fits (by omega) (by omega))
    rw [hik] at h
    exact h
  obtain ⟨G, hG⟩ : ∃ G, G = grownCap w (n + 1) n 39 := ⟨_, rfl⟩
  have hGn : n + 1 ≤ G := by rw [hG]; exact grownCap_ge w _ _ _
  rw [← hG] at hrz
  obtain ⟨R1, hR1⟩ : ∃ R1, R1 = (OLD.extract 0 (i * 5)).toList.toArray ++ Builtin.zeroCells z0.cells (n + 1 - i) ++ Builtin.zeroCells z0.cells (G - (n + 1)) := ⟨_, rfl⟩
  have hR1s : R1.size = G * 5 := by rw [hR1]; simp [Builtin.zeroCells, hzs0]; omega
  have hR1a : ∀ j, j < i * 5 → R1.getD j undef = OLD.getD j undef := fun j hj => by
    rw [hR1, Array.toArray_toList, Array.append_assoc]
    simp only [Array.getD_eq_getD_getElem?]
    rw [Array.getElem?_append_left (by simp; omega), Array.getElem?_extract, if_pos (by omega), Nat.zero_add]
  rw [← hR1] at hrz
  rw [← hH] at hrz hbw hpw
  obtain ⟨W1, hW1⟩ : ∃ W1, W1 = w.drew.alloc (.cells R1 39) := ⟨_, rfl⟩
  have hW1h : W1.heap[H]? = some (.cells R1 39 (0, 0)) := by rw [hW1, hH]; exact (oneMore_alloc w.drew _).new
  have hW1c : ∀ a u, w.cell? a = some u → W1.cell? a = some u := fun a u hc => by rw [hW1]; exact (oneMore_alloc w.drew _).cell hc
  have hW1o : W1.heap = w.heap.push (.cells R1 39) ∧ W1.os = w.os ∧ W1.tape = w.tape ∧ W1.output = w.output := by rw [hW1]; exact ⟨rfl, rfl, rfl, rfl⟩
  rw [← hW1] at hrz
  have hR2s : (seg R1 (i * 5) NEW).size = G * 5 := by rw [seg_size (by omega)]; exact hR1s
  obtain ⟨R2, hR2⟩ : ∃ R2, R2 = seg R1 (i * 5) NEW := ⟨_, rfl⟩
  rw [← hR2] at hR2s
  have hcp1 : ∀ (W : World), W.heap = W1.heap → ∀ ty dc, (Builtin.copy_ #[23, 23] ty #[.slice (some ⟨H, i * 5, none⟩) (n + 1 - i) dc, .slice (some p) 1 vc]).run Try.prog W = .ok (goInt ((1 : Nat) : Int)) (W.setRow H R2) := fun W hWh ty dc => by
    have hmn : Nat.min 1 (n + 1 - i) = 1 := by simp only [Nat.min_def]; split <;> omega
    have := run_copy_seg (P := Try.prog) (W := W) (H := H) (o := i * 5) (k := 5) (cur := R1) (T := 39) (fz := (0, 0)) (by rw [hWh]; exact hW1h) u23 z39 (ty := ty) (n + 1 - i) dc 1 vc p NEW (by rw [hmn, hN])
      (hNat.mono fun j u hj hc => by rw [← hW1c _ _ hc]; simp only [World.cell?, hWh]) (noFreeze_zero _ _) (by omega) h1N
    rw [hmn] at this
    rw [hR2]
    exact this
  have hdl : (OLD.extract (i * 5) (n * 5)).size = (n - i) * 5 := by simp; omega
  obtain ⟨R3, hR3⟩ : ∃ R3, R3 = seg R2 ((i + 1) * 5) (OLD.extract (i * 5) (n * 5)) := ⟨_, rfl⟩
  have hR3s : R3.size = G * 5 := by rw [hR3, seg_size (by omega)]; exact hR2s
  have hcp2 : ∀ (W : World), W.heap = (W1.setRow H R2).heap → ∀ ty dc sc, (Builtin.copy_ #[23, 23] ty #[.slice (some ⟨H, (i + 1) * 5, none⟩) (n - i) dc, .slice (some ⟨β, o + i * 5, none⟩) (n - i) sc]).run Try.prog W = .ok (goInt ((n - i : Nat) : Int)) (W.setRow H R3) := fun W hWh ty dc sc => by
    have hmn : Nat.min (n - i) (n - i) = n - i := Nat.min_self _
    have := run_copy_seg (P := Try.prog) (W := W) (H := H) (o := (i + 1) * 5) (k := 5) (cur := R2) (T := 39) (fz := (0, 0)) (by rw [hWh]; exact setRow_heap W1 H R1 R2 39 (0, 0) hW1h) u23 z39 (ty := ty) (n - i) dc (n - i) sc ⟨β, o + i * 5, none⟩ (OLD.extract (i * 5) (n * 5)) (by rw [hmn, hdl])
      (fun j hj => by
        rw [hdl] at hj
        have h1 := hW1c _ _ (hOat (i * 5 + j) (by omega))
        rw [add_none] at h1 ⊢
        rw [Nat.add_assoc]
        have e : W.cell? ⟨β, o + (i * 5 + j), none⟩ = W1.cell? ⟨β, o + (i * 5 + j), none⟩ := by
          simp only [World.cell?, hWh, World.setRow, Array.getElem?_modify]
          rw [if_neg (by omega)]
        rw [e, h1]
        simp only [Array.getD_eq_getD_getElem?, Array.getElem?_extract]
        rw [if_pos (by omega)]) (noFreeze_zero _ _) (by omega) (fun v hv => h1O v (by
          rw [Array.toList_extract] at hv
          exact List.mem_of_mem_drop (List.mem_of_mem_take hv)))
    rw [hmn] at this
    rw [hR3]
    exact this
  have hfin : ∀ j, j < (n + 1) * 5 → R3.getD j undef = insAt OLD NEW i 5 j := fun j hj => by
    unfold insAt
    rw [hR3, seg_getD (by omega), hdl]
    by_cases h1 : j < i * 5
    · rw [if_pos h1, if_neg (by omega), hR2, seg_getD (by omega), if_neg (by omega)]
      exact hR1a j h1
    · rw [if_neg h1]
      by_cases h2 : j < (i + 1) * 5
      · rw [if_pos h2, if_neg (by omega), hR2, seg_getD (by omega), if_pos (by omega)]
      · rw [if_neg h2, if_pos (by omega)]
        simp only [Array.getD_eq_getD_getElem?, Array.getElem?_extract]
        rw [if_pos (by omega), show i * 5 + (j - (i + 1) * 5) = j - 5 by omega]
  have hone : ∀ W : World, W.heap = ((W1.setRow H R2).setRow H R3).heap → W.os = w.os → W.tape = w.tape → W.output = w.output → OneMore w W (.cells R3 39) := fun W h1 h2 h3 h4 => ⟨by
    rw [h1]
    have e1 : (W1.setRow H R2).heap[H]? = some (.cells R2 39 (0, 0)) := setRow_heap W1 H R1 R2 39 (0, 0) hW1h
    have e2 := setRow_heap (W1.setRow H R2) H R2 R3 39 (0, 0) e1
    apply Array.ext_getElem?
    intro j
    by_cases e : j = H
    · subst e
      rw [e2, hH]
      simp
    · have : ((W1.setRow H R2).setRow H R3).heap[j]? = W1.heap[j]? := by
        simp only [World.setRow, Array.getElem?_modify]
        rw [if_neg (fun h => e h.symm), if_neg (fun h => e h.symm)]
      rw [this, hW1o.1, Array.getElem?_push, Array.getElem?_push, if_neg (by omega), if_neg (by omega)], h2, h3, h4⟩
  have hos := hW1o.2.1
  have htp := hW1o.2.2.1
  have hou := hW1o.2.2.2
  have hGi : ¬ (G = i) := by omega
  have hGi1 : ¬ (G = i + 1) := by omega
  clear hOat hNat h1O h1N hold hdl hR3 hR2 hR1 hW1 hG hR1a hW1h hW1c hW1o hi0 hz0 hs0 hby0 hzs0 hH
  go_enter Try.func58, Try.ntmps58
  go_wp2_with (at_builtin; first | refine Lib.wpList_append_run _ rfl _ _ _ _ rfl _ _ rfl rfl _ _ (hrz _) ?_ | refine Go.Proofs.wpList_copy_runI _ rfl _ _ 23 23 rfl _ _ rfl rfl (hcp1 _ rfl _ _) ?_)
  go_region_law_o (refine Go.Proofs.step_copy_runI rfl _ _ 23 23 rfl _ _ (by simp [Act.eval, Act.put]) (by simp [Act.eval, Act.put]) (hcp2 (W1.setRow H R2).drew rfl _ (G - (i + 1)) (n - i)) ?_)
  go_wp2
  go_ret
  exact ⟨G, R3, rfl, hGn, hone _ rfl hos htp hou, hR3s, hfin⟩
end Go.Proofs.Ytomjphpnpcgacaa
/-
  slices.Insert, at packets, as a contract of the library R.
-/
namespace Go.Proofs.Ytomjphpnpcgacaa
open Go.Rv Go.RowKit
set_option linter.unusedVariables false
set_option linter.unusedSimpArgs false
set_option maxRecDepth 20000

theorem elsRep_g {w : World} {pr : Addr → Prop} {g : Gh} {k : Nat} {vs : Array Value} {els : List (List AV)} (h : ElsRep w pr [] k vs els) : ElsRep w pr g k vs els :=
  ⟨h.1, fun i cs j x h1 h2 => ⟨(h.2 i cs j x h1 h2).1.mono (fun a u hc hp => ⟨hc, hp⟩) (GLe.nil _), (h.2 i cs j x h1 h2).2⟩⟩

theorem L_ins (s : List Pk) (x : Pk) (i : Nat) : L cK (s.take i ++ [x] ++ s.drop i) = (L cK s).take i ++ [cK x] ++ (L cK s).drop i := by
  simp [L]

theorem con_insert58 {s : List Pk} {i : Int} {v r : List Pk} (h : insertO 56 s i v = some r) : Con B 58 [.bs false 0 (s.length) 0 (s.length), i64 i, .sl false (L cK v)] [.buf 5 (L cK s) false] (fun r' σ' => r' = .bs false 0 (r.length) 0 (r.length) ∧ σ' = [.buf 5 (L cK r) false]) := by
  unfold insertO at h
  split at h
  case isFalse => cases h
  rename_i hc
  obtain ⟨hi, hv1, hfit⟩ := hc
  obtain ⟨x, rfl⟩ := List.length_eq_one_iff.1 hv1
  obtain ⟨k, rfl⟩ : ∃ k : Nat, i = (k : Int) := ⟨i.toNat, by unfold InB at hi; omega⟩
  have hk : k ≤ s.length := by unfold InB at hi; omega
  rw [Int.toNat_natCast] at h
  simp only [Option.some.injEq] at h
  subst h
  obtain ⟨n, hn⟩ : ∃ n, n = s.length := ⟨_, rfl⟩
  have hfit1 : n + 1 ≤ 2513169434916 ∧ (n + 1) * 56 ≤ 140737488355328 := by unfold Fits maxLen roomB at hfit; omega
  obtain ⟨els, hels⟩ : ∃ els, els = L cK s := ⟨_, rfl⟩
  have hel : els.length = n := by rw [hels, hn]; simp [L]
  have hes : ∀ c ∈ els, c.length = 5 := by rw [hels]; intro c hc; simp only [L, List.mem_map] at hc; obtain ⟨y, _, rfl⟩ := hc; rfl
  have hcx : (cK x).length = 5 := rfl
  rw [L_ins, ← hels, show (s.take k ++ [x] ++ s.drop k).length = n + 1 by simp; omega, ← hn]
  rw [show L cK [x] = [cK x] from rfl]
  generalize cK x = cx at hcx
  have hsz' : ∀ c ∈ els.take k ++ [cx] ++ els.drop k, c.length = 5 := insSize hes hcx
  have hlen' : (els.take k ++ [cx] ++ els.drop k).length = n + 1 := by simp; omega
  refine ⟨fun F w g vs hm ha => .inl ⟨⟨Try.f58, _, Try.func58, rfl, by decide +kernel⟩, ?_⟩⟩
  obtain ⟨vs⟩ := vs
  match vs, ha with
  | [a0, a1, a2], ⟨h0, h1, h2, _⟩ =>
    have hu := rep_int h1
    subst hu
    obtain ⟨a2a, a2l, a2c, rfl⟩ : ∃ a l c, a2 = .slice a l c := by cases h2; exact ⟨_, _, _, rfl⟩
    obtain ⟨e1, p, NEW, rfl, hNr, hNat, hNp⟩ := rows_sl (k := 5) h2 (by intro c hc; rw [List.mem_singleton] at hc; rw [hc]; exact hcx) (by simp)
    have e1 : 1 = a2l := e1
    subst e1
    have hN5 : NEW.size = 5 := by have := hNr.1; simpa using this
    have h1N : ∀ u ∈ NEW.toList, one u = true := elsRep_one hNr (by intro c hc; rw [List.mem_singleton] at hc; rw [hc]; exact hcx)
    have hσ0 : ([ABlk.buf 5 els false] : Store)[0]? = some (.buf 5 els false) := rfl
    by_cases hend : k = n
    · -- at the end
      subst hend
      have hy : appendA (B.env F) [.buf 5 els false] 23 (.bs false 0 k 0 k) (.sl false [cx]) = some (.bs false 0 (k + 1) 0 (k + 1), [.buf 5 (els ++ [cx]) false]) := by
        unfold appendA
        have hfa : k + 1 ≤ maxLen ∧ (k + 1) * 56 ≤ roomB := by unfold maxLen roomB; omega
        simp [tb23, tb39, view, strBad, hel, hcx, hfa]
      obtain ⟨u, w', g', hr, hm', hle, hev, hrep⟩ := append_sound (u := 23) (ty := 0) (ok.env F) hm h0 h2 (tb23 F) (by intro k' e'; cases e') hy
      have hrep0 := h0
      cases h0 with
      | bs _ _ _ _ _ _ _ b hgb hbx htot hat ho =>
        obtain ⟨k1, k2, k3, k4, k5, k6, k7⟩ := hm.blk 0 b _ hgb hσ0
        obtain ⟨a, cap, rfl, q2, q3, q4, q5⟩ := hat (by omega)
        refine (ins_end w a k cap a2c p u w' q2 (fun e => ?_) (fun ty => hr)).mono fun e w2 ⟨e1, e2⟩ => ?_
        · subst e
          rcases q5 with q5 | ⟨β, _, q5, _⟩
          · omega
          · cases q5
        · subst e1 e2
          refine ⟨u, _, _, g', rfl, ⟨rfl, ?_⟩, hm', hev.of_gle hle, hrep⟩
          rw [show els.take k = els by rw [← hel]; exact List.take_length, show els.drop k = [] by rw [← hel]; exact List.drop_length, List.append_nil]
    have hkn : k < n := by omega
    rw [show n = els.length from hel.symm] at h0
    obtain ⟨b, β, cap, arr, T, fz, hgb, hbx, hbro, hbk, hbl, hβ, rfl, hcap, hce, hh, hsz, hfz, _, hOr⟩ := rows_bs hm hσ0 h0 (by omega)
    rw [hel] at hbl hcap hOr
    simp only [hel]
    have hfz : noFreeze fz 0 (arr.size + 1) := hfz
    obtain ⟨OLD, hOLD⟩ : ∃ OLD, OLD = arr.extract b.o (b.o + n * 5) := ⟨_, rfl⟩
    rw [← hOLD] at hOr
    have hOs : OLD.size = n * 5 := by have := hOr.1; rw [hel] at this; exact this
    have h1O : ∀ u ∈ OLD.toList, one u = true := elsRep_one hOr hes
    have hOg : ∀ j, j < n * 5 → arr.getD (b.o + j) undef = OLD.getD j undef := fun j hj => by
      rw [hOLD]
      simp only [Array.getD_eq_getD_getElem?, Array.getElem?_extract]
      rw [if_pos (by omega)]
    have hOat : At w ⟨β, b.o, none⟩ OLD := at_row hh b.o OLD fun j hj => ⟨by omega, hOg j (by omega)⟩
    have hpβ : p.block ≠ β := fun e => by
      have hp := hNp 0 (by simp)
      rw [Addr.add_zero'] at hp
      have := (hp.2 0 b hgb (by rw [hβ, e])).1
      rw [hbro] at this
      cases this
    have hins := fun m c j x hm hj => insRep (i := k) hOr (elsRep_g (g := g) hNr) hes hcx (by omega) m c j x hm hj
    rw [hel] at hins
    by_cases hfull : cap = n
    · -- no room
      subst hfull
      refine (ins_grow w w.heap.size rfl β b.o cap k a2c p OLD NEW hkn (by omega) hOs hOat hN5 hNat h1O h1N).mono ?_
      rintro e w' ⟨G, R3, rfl, hG, hone, hRs, hR⟩
      have hmv := mem_move (b' := { blk := some w.heap.size, o := 0, k := 5, len := cap + 1, ce := G, isBox := false, ro := false }) (ab' := .buf 5 (els.take k ++ [cx] ++ els.drop k) false) hm hone hgb rfl (.inr ⟨hbx, rfl, by rw [hbl]; exact Nat.lt_succ_self _⟩) (by
        intro hcells hle
        refine ⟨rfl, rfl, rfl, hlen'.symm, fun i cs hi => hsz' cs (List.mem_of_getElem? hi), fun e => (by cases e), fun β' hβ' => ?_⟩
        cases hβ'
        refine ⟨R3, 39, (0, 0), hone.new, by simp; omega, by rw [hlen']; exact hG, noFreeze_zero _ _, fun m c j y hmm hj => ?_⟩
        obtain ⟨q1, q2, q3⟩ := hins m c j y hmm hj
        rw [show 0 + m * 5 + j = m * 5 + j by omega, hR _ q1]
        exact ⟨q2.mono hcells hle, q3⟩)
      refine ⟨_, _, _, _, rfl, ⟨rfl, rfl⟩, hmv.1, hmv.2.2.of_gle hmv.2.1, ?_⟩
      refine .bs _ _ _ _ _ _ _ _ (set_self hgb) rfl (Nat.le_refl _) (fun _ => ?_) rfl
      exact ⟨_, G, rfl, hG, (by intro h; cases h), by simp, .inr ⟨_, rfl, by simp, by simp⟩⟩
    · -- room
      have hc1 : n + 1 ≤ cap := by omega
      have hcs : b.o + cap * 5 ≤ arr.size := by
        have : cap * 5 ≤ b.ce * 5 := Nat.mul_le_mul_right 5 hce
        omega
      refine (ins_shift w β b.o n cap k a2c p arr OLD NEW T fz hkn hc1 (by omega) hh hcs hfz hOs hOg hN5 hpβ hNat h1O h1N).mono ?_
      rintro e w' ⟨rfl, rfl⟩
      have hd : (OLD.extract (k * 5) (n * 5)).size = (n - k) * 5 := by simp; omega
      obtain ⟨R1, hR1⟩ : ∃ R1, R1 = seg arr (b.o + (k + 1) * 5) (OLD.extract (k * 5) (n * 5)) := ⟨_, rfl⟩
      have hR1s : R1.size = arr.size := by rw [hR1]; exact seg_size (by omega)
      rw [← hR1]
      obtain ⟨R2, hR2⟩ : ∃ R2, R2 = seg R1 (b.o + k * 5) NEW := ⟨_, rfl⟩
      have hR2s : R2.size = arr.size := by rw [hR2, seg_size (by omega)]; exact hR1s
      rw [← hR2]
      have hR : ∀ j, j < (n + 1) * 5 → R2.getD (b.o + j) undef = insAt OLD NEW k 5 j := fun j hj => by
        unfold insAt
        rw [hR2, seg_getD (by omega)]
        by_cases h1 : j < k * 5
        · rw [if_pos h1, if_neg (by omega), hR1, seg_getD (by omega), if_neg (by omega)]
          exact hOg j (by omega)
        · rw [if_neg h1]
          by_cases h2 : j < (k + 1) * 5
          · rw [if_pos h2, if_pos (by omega), show b.o + j - (b.o + k * 5) = j - k * 5 by omega]
          · rw [if_neg h2, if_neg (by omega), hR1, seg_getD (by omega), if_pos (by omega)]
            simp only [Array.getD_eq_getD_getElem?, Array.getElem?_extract]
            rw [if_pos (by omega), show k * 5 + (b.o + j - (b.o + (k + 1) * 5)) = j - 5 by omega]
      have hx1 : (w.drew.setRow β R1).heap[β]? = some (.cells R1 T fz) := setRow_heap w.drew β arr R1 T fz hh
      have hw : Wrote w ((w.drew.setRow β R1).setRow β R2) β arr R2 T fz := by
        refine ⟨hh, setRow_heap _ β R1 R2 T fz hx1, hR2s, ?_, by simp [World.setRow], rfl, rfl, rfl⟩
        intro j hj
        simp only [World.setRow, World.drew, Array.getElem?_modify]
        rw [if_neg (fun e => hj e.symm), if_neg (fun e => hj e.symm)]
      have hmw := mem_write (b' := { b with len := n + 1 }) (ab' := .buf 5 (els.take k ++ [cx] ++ els.drop k) false) hm hw hgb hβ hβ (.inr ⟨hbx, hbx, by rw [hbl]; exact Nat.lt_succ_self _⟩) (by
        intro hro
        rw [hbro] at hro; cases hro) (by
        intro hcells hle
        refine ⟨hbx, hbro, hbk, hlen'.symm, fun i cs hi => hsz' cs (List.mem_of_getElem? hi), fun e => (by rw [hβ] at e; cases e), fun β' hβ' => ?_⟩
        simp only at hβ'
        rw [hβ] at hβ'; cases hβ'
        refine ⟨R2, T, fz, hw.now, by rw [hR2s]; exact hsz, by rw [hlen']; simp only; omega, by rw [hR2s]; exact hfz, fun m c j y hmm hj => ?_⟩
        obtain ⟨q1, q2, q3⟩ := hins m c j y hmm hj
        simp only
        rw [Nat.add_assoc, hR _ q1]
        exact ⟨q2.mono hcells hle, q3⟩)
      refine ⟨_, _, _, _, rfl, ⟨rfl, rfl⟩, hmw.1, hmw.2.2.of_gle hmw.2.1, ?_⟩
      refine .bs _ _ _ _ _ _ _ _ (set_self hgb) hbx (Nat.le_refl _) (fun _ => ?_) rfl
      exact ⟨_, cap, rfl, hc1, (by intro h; cases h), by simp, .inr ⟨β, hβ, by simp, by simpa using hce⟩⟩
end Go.Proofs.Ytomjphpnpcgacaa
/-
  The functions compute just that.
-/
namespace Go.Proofs.Ytomjphpnpcgacaa
open Go.Rv
set_option linter.unusedVariables false
set_option linter.unusedSimpArgs false
set_option maxRecDepth 20000
set_option maxHeartbeats 4000000

theorem window_side_deliver_con {a : Window_side} {c : Pk} {r : Window_side} (h : window_side_deliver a c = some r) : Con B 43 [.ref 0 0, .agg [i64 c.Epoch, i64 c.To, i64 c.Seq, i64 c.Ack, .sl false (L cU8 c.Data)]] [.box [i64 a.Peer.Epoch, i64 a.Peer.Other, i64 a.Peer.First, .sl false (L (cSl cU8) a.Peer.Queue), i64 a.Peer.Next, .sl false (L cK a.Peer.Early), i64 a.Peer.SentAt, .bs false 1 (a.dz.length) 0 (a.dz.length)] false, .buf 1 (L (cSl cU8) a.dz) false] (fun r' σ' => r' = .tup [] ∧ σ' = [.box [i64 r.Peer.Epoch, i64 r.Peer.Other, i64 r.Peer.First, .sl false (L (cSl cU8) r.Peer.Queue), i64 r.Peer.Next, .sl false (L cK r.Peer.Early), i64 r.Peer.SentAt, .bs false 1 (r.dz.length) 0 (r.dz.length)] false, .buf 1 (L (cSl cU8) r.dz) false]) := by
  refine con_walk_own (N := 59) (rs := []) 2 rfl ok Try.func43 rfl (by decide +kernel) rfl rfl (Nat.le_of_ble_eq_true rfl) (fun F => ?_)
  have hE := ok.env F
  unfold window_side_deliver at h
  show Run (B.env F) 2 _ ⟨asFr 59 [(0, .ref 0 0), (1, .agg [i64 c.Epoch, i64 c.To, i64 c.Seq, i64 c.Ack, .sl false (L cU8 c.Data)])], [.box [i64 a.Peer.Epoch, i64 a.Peer.Other, i64 a.Peer.First, .sl false (L (cSl cU8) a.Peer.Queue), i64 a.Peer.Next, .sl false (L cK a.Peer.Early), i64 a.Peer.SentAt, .bs false 1 (a.dz.length) 0 (a.dz.length)] false, .buf 1 (L (cSl cU8) a.dz) false]⟩ _
  refine run_wkP ?_
  refine run_textE hE [0, 3] (fr' := [(0, .ref 0 0), (3, .ref 2 0)]) (σ' := [.box [i64 a.Peer.Epoch, i64 a.Peer.Other, i64 a.Peer.First, .sl false (L (cSl cU8) a.Peer.Queue), i64 a.Peer.Next, .sl false (L cK a.Peer.Early), i64 a.Peer.SentAt, .bs false 1 (a.dz.length) 0 (a.dz.length)] false, .buf 1 (L (cSl cU8) a.dz) false, .box [i64 c.Epoch, i64 c.To, i64 c.Seq, i64 c.Ack, .sl false (L cU8 c.Data)] false]) ⟨_, orcs_nil, ?_⟩ ?_
  · simp only [go_sem]
  refine run_seq ?_
  refine run_drawE hE mixed [[], [0], [], [2], [2, 3], [2, 3, 4], [2, 3, 4, 5], [0, 1, 2, 3, 4, 5, 6]] (by kernel_rfl) (by kernel_rfl) [0, 3, 11] (fr' := [(0, .ref 0 0), (3, .ref 2 0), (11, .bool ((c.Seq != a.Peer.Next)))]) (σ' := [.box [i64 a.Peer.Epoch, i64 a.Peer.Other, i64 a.Peer.First, .sl false (L (cSl cU8) a.Peer.Queue), i64 a.Peer.Next, .sl false (L cK a.Peer.Early), i64 a.Peer.SentAt, .bs false 1 (a.dz.length) 0 (a.dz.length)] false, .buf 1 (L (cSl cU8) a.dz) false, .box [i64 c.Epoch, i64 c.To, i64 c.Seq, i64 c.Ack, .sl false (L cU8 c.Data)] false]) ⟨_, orcs_nil, ?_⟩ ?_
  · simp only [go_sem]
  refine run_condL (b := (c.Seq != a.Peer.Next)) rfl (by decide) (fun hb => ?_) (fun hb => ?_)
  · replace h := ite_t h hb
    refine run_ret ?_
    refine thenK_r ?_
    obtain rfl := Option.some.inj h
    refine wkP_of (Weak.refl _ _) ?_
    refine ret_own (.inr rfl) [0, 1] (by decide) rfl ?_ ?_
    · simp only [go_sem]
    · simp only [go_sem]
  · replace h := ite_f h hb
    refine run_skip ?_
    refine thenK_n ?_
    replace h := bind_some1 h; obtain ⟨e, ae, h⟩ := h
    replace h := lt1_some h; obtain ⟨x, af, h⟩ := h
    refine run_textE hE [0] (fr' := [(0, .ref 0 0)]) (σ' := [.box [i64 e.Peer.Epoch, i64 e.Peer.Other, i64 e.Peer.First, .sl false (L (cSl cU8) e.Peer.Queue), i64 e.Peer.Next, .sl false (L cK e.Peer.Early), i64 e.Peer.SentAt, .bs false 1 (x.length) 0 (x.length)] false, .buf 1 (L (cSl cU8) x) false, .box [i64 c.Epoch, i64 c.To, i64 c.Seq, i64 c.Ack, .sl false (L cU8 c.Data)] false]) ⟨_, orcs_ok2 (l := []) (m := [(15, 60, [.ref 0 0, .sl false (L cU8 c.Data)], [.box [i64 a.Peer.Epoch, i64 a.Peer.Other, i64 a.Peer.First, .sl false (L (cSl cU8) a.Peer.Queue), i64 a.Peer.Next, .sl false (L cK a.Peer.Early), i64 a.Peer.SentAt, .bs false 1 (a.dz.length) 0 (a.dz.length)] false, .buf 1 (L (cSl cU8) a.dz) false, .box [i64 c.Epoch, i64 c.To, i64 c.Seq, i64 c.Ack, .sl false (L cU8 c.Data)] false], .tup [], [.box [i64 e.Peer.Epoch, i64 e.Peer.Other, i64 e.Peer.First, .sl false (L (cSl cU8) e.Peer.Queue), i64 e.Peer.Next, .sl false (L cK e.Peer.Early), i64 e.Peer.SentAt, .bs false 1 (e.dz.length) 0 (e.dz.length)] false, .buf 1 (L (cSl cU8) e.dz) false, .box [i64 c.Epoch, i64 c.To, i64 c.Seq, i64 c.Ack, .sl false (L cU8 c.Data)] false])]) trivial ⟨(wcon_call (window_side_take_con ae) [0, 1] (by decide) (by simp only [go_sem]) (by simp only [go_sem]) (by simp only [go_sem]) (by simp only [go_sem]) (by simp only [go_sem])), trivial⟩, ?_⟩ ?_
    · subst af; simp only [go_sem]
    refine run_block ?_
    replace h := bind_some1 h; obtain ⟨am, ag, y⟩ := h
    refine run_loopO ag (fun (v : Int × Int × Int × List (List UInt8) × Int × List Pk × Int × List (List UInt8)) => (⟨asFr 59 [(0, .ref 0 0)], [.box [i64 v.1, i64 v.2.1, i64 v.2.2.1, .sl false (L (cSl cU8) v.2.2.2.1), i64 v.2.2.2.2.1, .sl false (L cK v.2.2.2.2.2.1), i64 v.2.2.2.2.2.2.1, .bs false 1 (v.2.2.2.2.2.2.2.length) 0 (v.2.2.2.2.2.2.2.length)] false, .buf 1 (L (cSl cU8) v.2.2.2.2.2.2.2) false]⟩ : St)) (weak_sel [0, 1] (by decide) rfl (by simp only [go_sem]) (by simp only [go_sem])) ?_
    rintro ⟨p, q, t, u, o, j, w, f⟩ al h ad
    replace h : window_side_deliver_b1 p q t u o j w f = some al := h
    unfold window_side_deliver_b1 at h
    refine run_seq ?_
    replace h := bind_some1 h; obtain ⟨ab, g, h⟩ := h
    refine run_drawW hE mixed [[], [0], [0, 1], [0, 1, 2], [0, 1, 2, 3], [0, 1, 2, 3, 4], [0, 1, 2, 3, 4, 5], [0, 1, 2, 3, 4, 5, 6], [0, 1, 2, 3, 4, 5, 6, 7], [0, 1, 2, 3, 4, 5, 6, 7, 8], [0, 1, 2, 3, 4, 5, 6, 7, 8, 9], [0, 1, 2, 3, 4, 5, 6, 7, 8, 9, 10], [0, 1, 2, 3, 4, 5, 6, 7, 8, 9, 10, 11], [0, 1, 2, 3, 4, 5, 6, 7, 8, 9, 10, 11, 12], [0, 1, 2, 3, 4, 5, 6, 7, 8, 9, 10, 11, 12, 13], [0, 1, 2, 3, 4, 5, 6, 7, 8, 9, 10, 11, 12, 13, 14], [0, 1, 2, 3, 4, 5, 6, 7], [0, 1, 2, 3, 4, 5, 6, 7, 16], [0, 1, 2, 3, 4, 5, 6, 7, 16, 17], [0, 1, 2, 3, 4, 5, 6, 7, 16, 17, 18], [0, 1, 2, 3, 4, 5, 6, 7, 16, 17, 18, 19], [0, 1, 2, 3, 4, 5, 6, 7, 8, 9, 10, 11, 12, 13, 14, 15, 16, 17, 18, 19, 20], [0, 1, 2, 3, 4, 5, 6, 7, 8, 9, 10, 11, 12, 13, 14, 15, 16, 17, 18, 19, 20, 21]] (by kernel_rfl) (by kernel_rfl) [0, 38] (fr' := [(0, .ref 0 0), (38, .bool ab)]) (σ' := [.box [i64 p, i64 q, i64 t, .sl false (L (cSl cU8) u), i64 o, .sl false (L cK j), i64 w, .bs false 1 (f.length) 0 (f.length)] false, .buf 1 (L (cSl cU8) f) false]) ?_ ?_
    · rcases Bool.eq_false_or_eq_true ((decide ((j.length : Int) > 0))) with n | n
      · replace g := ite_t g n
        replace g := chk_some g; obtain ⟨z, g⟩ := g
        have e_hv_567 := Option.some.inj g; subst e_hv_567
        exact ⟨_, [(0, .ref 0 0), (38, .bool (((nth j 0).Seq == o)))], [.box [i64 p, i64 q, i64 t, .sl false (L (cSl cU8) u), i64 o, .sl false (L cK j), i64 w, .bs false 1 (f.length) 0 (f.length)] false, .buf 1 (L (cSl cU8) f) false], orcs_nil, by simp only [go_sem, Int.reduceToNat, n, z, (show 0 < j.length from z.2)], (weak_sel [0, 1] (by decide) rfl (by simp only [go_sem]) (by simp only [go_sem]))⟩
      · replace g := ite_f g n
        have e_hv_567 := Option.some.inj g; subst e_hv_567
        exact ⟨_, [(0, .ref 0 0), (38, .bool false)], [.box [i64 p, i64 q, i64 t, .sl false (L (cSl cU8) u), i64 o, .sl false (L cK j), i64 w, .bs false 1 (f.length) 0 (f.length)] false, .buf 1 (L (cSl cU8) f) false], orcs_nil, by simp only [go_sem, Int.reduceToNat, n], (weak_sel [0, 1] (by decide) rfl (by simp only [go_sem]) (by simp only [go_sem]))⟩
    refine run_condL (b := ab) rfl (by decide) (fun hb => ?_) (fun hb => ?_)
    · replace h := ite_t h hb
      refine run_skip ?_
      refine thenK_n ?_
      refine run_block ?_
      replace h := chk_some h; obtain ⟨aa, h⟩ := h
      replace h := bind_some1 h; obtain ⟨d, ah, h⟩ := h
      replace h := lt1_some h; obtain ⟨k, ai, h⟩ := h
      refine run_textE hE [0] (fr' := [(0, .ref 0 0)]) (σ' := [.box [i64 d.Peer.Epoch, i64 d.Peer.Other, i64 d.Peer.First, .sl false (L (cSl cU8) d.Peer.Queue), i64 d.Peer.Next, .sl false (L cK d.Peer.Early), i64 d.Peer.SentAt, .bs false 1 (k.length) 0 (k.length)] false, .buf 1 (L (cSl cU8) k) false]) ⟨_, orcs_ok2 (l := []) (m := [(48, 60, [.ref 0 0, .sl false (L cU8 ((nth j 0).Data))], [.box [i64 p, i64 q, i64 t, .sl false (L (cSl cU8) u), i64 o, .sl false (L cK j), i64 w, .bs false 1 (f.length) 0 (f.length)] false, .buf 1 (L (cSl cU8) f) false], .tup [], [.box [i64 d.Peer.Epoch, i64 d.Peer.Other, i64 d.Peer.First, .sl false (L (cSl cU8) d.Peer.Queue), i64 d.Peer.Next, .sl false (L cK d.Peer.Early), i64 d.Peer.SentAt, .bs false 1 (d.dz.length) 0 (d.dz.length)] false, .buf 1 (L (cSl cU8) d.dz) false])]) trivial ⟨(wcon_call (window_side_take_con ah) [0, 1] (by decide) (by simp only [go_sem]) (by simp only [go_sem]) (by simp only [go_sem]) (by simp only [go_sem]) (by simp only [go_sem])), trivial⟩, ?_⟩ ?_
      · subst ai; simp only [go_sem, Int.reduceToNat, aa, (show 0 < j.length from aa.2)]
      replace h := chk_some h; obtain ⟨aj, h⟩ := h
      replace h := lt1_some h; obtain ⟨ac, ak, h⟩ := h
      refine run_textE0 hE (wk_block wk_lp) [0] (fr' := [(0, .ref 0 0)]) (σ' := [.box [i64 d.Peer.Epoch, i64 d.Peer.Other, i64 d.Peer.First, .sl false (L (cSl cU8) d.Peer.Queue), i64 d.Peer.Next, .sl false (L cK ac), i64 d.Peer.SentAt, .bs false 1 (k.length) 0 (k.length)] false, .buf 1 (L (cSl cU8) k) false]) ⟨_, orcs_nil, ?_⟩ ?_
      · subst ak; simp only [go_sem, Int.reduceToNat, Nat.reduceLeDiff, aj]
      refine blockK_n ?_
      obtain rfl := Option.some.inj h
      exact lpK_n ((d.Peer.Epoch, d.Peer.Other, d.Peer.First, d.Peer.Queue, d.Peer.Next, ac, d.Peer.SentAt, k)) rfl (weak_sel [0, 1] (by decide) rfl (by simp only [go_sem]) (by simp only [go_sem]))
    · replace h := ite_f h hb
      refine run_exit ?_
      refine thenK_x ?_
      obtain rfl := Option.some.inj h
      have ex_x_561 := ad _ rfl
      subst ex_x_561
      have h := y; clear y
      refine lpK_x ?_
      refine blockK_x ?_
      obtain rfl := Option.some.inj h
      refine wkP_of (Weak.refl _ _) ?_
      refine ret_own (.inl rfl) [0, 1] (by decide) rfl ?_ ?_
      · simp only [go_sem]
      · simp only [go_sem]

theorem slices_Insert_58_con {s : List Pk} {i : Int} {v : List Pk} {r : List Pk} (h : slices_Insert_58 s i v = some r) : Con B 58 [.bs false 0 (s.length) 0 (s.length), i64 i, .sl false (L cK v)] [.buf 5 (L cK s) false] (fun r' σ' => r' = .bs false 0 (r.length) 0 (r.length) ∧ σ' = [.buf 5 (L cK r) false]) :=
  con_insert58 h

end Go.Proofs.Ytomjphpnpcgacaa
/-
  The functions compute just that.
-/
namespace Go.Proofs.Ytomjphpnpcgacaa
open Go.Rv
set_option linter.unusedVariables false
set_option linter.unusedSimpArgs false
set_option maxRecDepth 20000
set_option maxHeartbeats 4000000

theorem window_side_keep_con {a : Window_side} {c : Pk} {r : Window_side} (h : window_side_keep a c = some r) : Con B 42 [.ref 0 0, .agg [i64 c.Epoch, i64 c.To, i64 c.Seq, i64 c.Ack, .sl false (L cU8 c.Data)]] [.box [i64 a.Peer.Epoch, i64 a.Peer.Other, i64 a.Peer.First, .sl false (L (cSl cU8) a.Peer.Queue), i64 a.Peer.Next, .sl false (L cK a.Peer.Early), i64 a.Peer.SentAt, .bs false 1 (a.dz.length) 0 (a.dz.length)] false, .buf 1 (L (cSl cU8) a.dz) false] (fun r' σ' => r' = .tup [] ∧ σ' = [.box [i64 r.Peer.Epoch, i64 r.Peer.Other, i64 r.Peer.First, .sl false (L (cSl cU8) r.Peer.Queue), i64 r.Peer.Next, .sl false (L cK r.Peer.Early), i64 r.Peer.SentAt, .bs false 1 (r.dz.length) 0 (r.dz.length)] false, .buf 1 (L (cSl cU8) r.dz) false]) := by
  refine con_walk_own (N := 57) (rs := []) 2 rfl ok Try.func42 rfl (by decide +kernel) rfl rfl (Nat.le_of_ble_eq_true rfl) (fun F => ?_)
  have hE := ok.env F
  unfold window_side_keep at h
  show Run (B.env F) 2 _ ⟨asFr 57 [(0, .ref 0 0), (1, .agg [i64 c.Epoch, i64 c.To, i64 c.Seq, i64 c.Ack, .sl false (L cU8 c.Data)])], [.box [i64 a.Peer.Epoch, i64 a.Peer.Other, i64 a.Peer.First, .sl false (L (cSl cU8) a.Peer.Queue), i64 a.Peer.Next, .sl false (L cK a.Peer.Early), i64 a.Peer.SentAt, .bs false 1 (a.dz.length) 0 (a.dz.length)] false, .buf 1 (L (cSl cU8) a.dz) false]⟩ _
  refine run_wkP ?_
  refine run_textE hE [0, 3] (fr' := [(0, .ref 0 0), (3, .ref 2 0)]) (σ' := [.box [i64 a.Peer.Epoch, i64 a.Peer.Other, i64 a.Peer.First, .sl false (L (cSl cU8) a.Peer.Queue), i64 a.Peer.Next, .sl false (L cK a.Peer.Early), i64 a.Peer.SentAt, .bs false 1 (a.dz.length) 0 (a.dz.length)] false, .buf 1 (L (cSl cU8) a.dz) false, .box [i64 c.Epoch, i64 c.To, i64 c.Seq, i64 c.Ack, .sl false (L cU8 c.Data)] false]) ⟨_, orcs_nil, ?_⟩ ?_
  · simp only [go_sem]
  refine run_seq ?_
  replace h := bind_some1 h; obtain ⟨j, e, h⟩ := h
  refine run_drawW hE mixed [[], [0], [], [2], [2, 3], [2, 3, 4], [2, 3, 4, 5], [0, 1, 2, 3, 4, 5, 6], [0, 1, 2, 3, 4, 5, 6, 7], [0, 1, 2, 3, 4, 5, 6, 7, 8], [0, 1, 2, 3, 4, 5, 6, 7, 8, 9], [0, 1, 2, 3, 4, 5, 6, 7, 8], [0, 1, 2, 3, 4, 5, 6, 7, 8, 11], [0, 1, 2, 3, 4, 5, 6, 7, 8, 11, 12], [0, 1, 2, 3, 4, 5, 6, 7, 8, 11, 12, 13], [0, 1, 2, 3, 4, 5, 6, 7, 8, 11, 12, 13, 14], [0, 1, 2, 3, 4, 5, 6, 7, 8, 11, 12, 13, 14, 15], [0, 1, 2, 3, 4, 5, 6, 7, 8, 9, 10, 11, 12, 13, 14, 15, 16], [0, 1, 2, 3, 4, 5, 6, 7, 8, 9, 10, 11, 12, 13, 14, 15, 16, 17]] (by kernel_rfl) (by kernel_rfl) [0, 3, 24] (fr' := [(0, .ref 0 0), (3, .ref 2 0), (24, .bool j)]) (σ' := [.box [i64 a.Peer.Epoch, i64 a.Peer.Other, i64 a.Peer.First, .sl false (L (cSl cU8) a.Peer.Queue), i64 a.Peer.Next, .sl false (L cK a.Peer.Early), i64 a.Peer.SentAt, .bs false 1 (a.dz.length) 0 (a.dz.length)] false, .buf 1 (L (cSl cU8) a.dz) false, .box [i64 c.Epoch, i64 c.To, i64 c.Seq, i64 c.Ack, .sl false (L cU8 c.Data)] false]) ?_ ?_
  · rcases Bool.eq_false_or_eq_true ((decide (c.Seq ≤ a.Peer.Next))) with f | f
    · replace e := ite_t e f
      have e_hv_592 := Option.some.inj e; subst e_hv_592
      exact ⟨_, [(0, .ref 0 0), (3, .ref 2 0), (24, .bool true)], [.box [i64 a.Peer.Epoch, i64 a.Peer.Other, i64 a.Peer.First, .sl false (L (cSl cU8) a.Peer.Queue), i64 a.Peer.Next, .sl false (L cK a.Peer.Early), i64 a.Peer.SentAt, .bs false 1 (a.dz.length) 0 (a.dz.length)] false, .buf 1 (L (cSl cU8) a.dz) false, .box [i64 c.Epoch, i64 c.To, i64 c.Seq, i64 c.Ack, .sl false (L cU8 c.Data)] false], orcs_nil, by simp only [go_sem, f], (weak_sel [0, 1, 2] (by decide) rfl (by simp only [go_sem]) (by simp only [go_sem]))⟩
    · replace e := ite_f e f
      have e_hv_592 := Option.some.inj e; subst e_hv_592
      exact ⟨_, [(0, .ref 0 0), (3, .ref 2 0), (24, .bool ((decide (c.Seq ≥ (w64 (a.Peer.Next + 64))))))], [.box [i64 a.Peer.Epoch, i64 a.Peer.Other, i64 a.Peer.First, .sl false (L (cSl cU8) a.Peer.Queue), i64 a.Peer.Next, .sl false (L cK a.Peer.Early), i64 a.Peer.SentAt, .bs false 1 (a.dz.length) 0 (a.dz.length)] false, .buf 1 (L (cSl cU8) a.dz) false, .box [i64 c.Epoch, i64 c.To, i64 c.Seq, i64 c.Ack, .sl false (L cU8 c.Data)] false], orcs_nil, by simp only [go_sem, f], (weak_sel [0, 1, 2] (by decide) rfl (by simp only [go_sem]) (by simp only [go_sem]))⟩
  refine run_condL (b := j) rfl (by decide) (fun hb => ?_) (fun hb => ?_)
  · replace h := ite_t h hb
    refine run_ret ?_
    refine thenK_r ?_
    obtain rfl := Option.some.inj h
    refine wkP_of (Weak.refl _ _) ?_
    refine ret_own (.inr rfl) [0, 1] (by decide) rfl ?_ ?_
    · simp only [go_sem]
    · simp only [go_sem]
  · replace h := ite_f h hb
    refine run_skip ?_
    refine thenK_n ?_
    replace h := bind_some1 h; obtain ⟨d, n, h⟩ := h
    refine run_drawE hE mixed [[], [0], [0, 1], [0, 1, 2], [0, 1, 2, 3], [], [5], [0, 1, 2, 3, 4, 5, 6], [0, 1, 2, 3, 4, 5, 6, 7], [0, 1, 2, 3, 4, 5, 6, 7, 8], [0, 1, 2, 3, 4, 5, 6, 7, 8], [0, 1, 2, 3, 4, 5, 6, 7, 8, 9], [0, 1, 2, 3, 4, 5, 6, 7, 8, 9, 10, 11]] (by kernel_rfl) (by kernel_rfl) [0, 3, 4, 5] (fr' := [(0, .ref 0 0), (3, .ref 2 0), (4, i64 d.1), (5, .bool d.2)]) (σ' := [.box [i64 a.Peer.Epoch, i64 a.Peer.Other, i64 a.Peer.First, .sl false (L (cSl cU8) a.Peer.Queue), i64 a.Peer.Next, .sl false (L cK a.Peer.Early), i64 a.Peer.SentAt, .bs false 1 (a.dz.length) 0 (a.dz.length)] false, .buf 1 (L (cSl cU8) a.dz) false, .box [i64 c.Epoch, i64 c.To, i64 c.Seq, i64 c.Ack, .sl false (L cU8 c.Data)] false]) ⟨_, orcs_ok (l := [(33, 56, [.sl false (L cK a.Peer.Early), i64 c.Seq, .fn 57 []], .tup [i64 d.1, .bool d.2])]) ⟨slices_BinarySearchFunc_56_con (fun h => window_side_keep_1_con h) n, trivial⟩, ?_⟩ ?_
    · simp only [go_sem]
    refine run_textE hE [0, 3, 4, 37] (fr' := [(0, .ref 0 0), (3, .ref 2 0), (4, i64 d.1), (37, .bool ((!d.2)))]) (σ' := [.box [i64 a.Peer.Epoch, i64 a.Peer.Other, i64 a.Peer.First, .sl false (L (cSl cU8) a.Peer.Queue), i64 a.Peer.Next, .sl false (L cK a.Peer.Early), i64 a.Peer.SentAt, .bs false 1 (a.dz.length) 0 (a.dz.length)] false, .buf 1 (L (cSl cU8) a.dz) false, .box [i64 c.Epoch, i64 c.To, i64 c.Seq, i64 c.Ack, .sl false (L cU8 c.Data)] false]) ⟨_, orcs_nil, ?_⟩ ?_
    · simp only [go_sem]
    refine run_condL (b := (!d.2)) rfl (by decide) (fun hb => ?_) (fun hb => ?_)
    · replace h := ite_t h hb
      replace h := bind_some1 h; obtain ⟨g, o, h⟩ := h
      replace h := bind_some1 h; obtain ⟨k, p, h⟩ := h
      replace h := bind_some1 h; obtain ⟨i, q, h⟩ := h
      refine run_drawS0 hE mixed [[], [], [1], [1, 2], [1, 2, 3], [1, 2, 3, 4], [1, 2, 3, 4, 5], [], [], [8], [], [10], [1, 2, 3, 4, 5, 6, 10, 11], [1, 2, 3, 4, 5, 6, 8, 9, 10, 11, 12], [1, 2, 3, 4, 5, 6, 8, 9, 10, 11, 12, 13], [1, 2, 3, 4, 5, 6, 7, 8, 9, 10, 11, 12, 13, 14], [0, 1, 2, 3, 4, 5, 6, 7, 8, 9, 10, 11, 12, 13, 14, 15], [0, 1, 2, 3, 4, 5, 6, 7, 8, 9, 10, 11, 12, 13, 14, 15, 16], [0, 1, 2, 3, 4, 5, 6, 7, 8, 9, 10, 11, 12, 13, 14, 15, 16, 17], [0, 1, 2, 3, 4, 5, 6, 7, 8, 9, 10, 11, 12, 13, 14, 15, 16, 17, 18]] (by kernel_rfl) [(3, 2), (46, 2), (48, 2)] [(44, 2)] [3, 46, 48] (by kernel_rfl) wk_wkP (fr' := [(3, .ref 2 0), (46, .ref 2 2), (48, .ref 2 4)]) (σ' := [.box [i64 a.Peer.Epoch, i64 a.Peer.Other, i64 a.Peer.First, .sl false (L (cSl cU8) a.Peer.Queue), i64 a.Peer.Next, .bs false 3 (i.length) 0 (i.length), i64 a.Peer.SentAt, .bs false 1 (a.dz.length) 0 (a.dz.length)] false, .buf 1 (L (cSl cU8) a.dz) false, .box [i64 c.Epoch, i64 c.To, i64 c.Seq, i64 c.Ack, .sl false (L cU8 c.Data)] false, .buf 5 (L cK i) false]) ⟨rfl, rfl, rfl, trivial⟩ ⟨_, _, orcs_ok2 (l := [(50, 39, [.sl false (L cU8 c.Data)], .sl false (L cU8 k))]) (m := [(44, 59, [.sl false (L cK a.Peer.Early)], [.box [i64 a.Peer.Epoch, i64 a.Peer.Other, i64 a.Peer.First, .sl false (L (cSl cU8) a.Peer.Queue), i64 a.Peer.Next, .sl false (L cK a.Peer.Early), i64 a.Peer.SentAt, .bs false 1 (a.dz.length) 0 (a.dz.length)] false, .buf 1 (L (cSl cU8) a.dz) false, .box [i64 c.Epoch, i64 c.To, i64 c.Seq, i64 c.Ack, .sl false (L cU8 c.Data)] false], .bs false 3 (g.length) 0 (g.length), [.box [i64 a.Peer.Epoch, i64 a.Peer.Other, i64 a.Peer.First, .sl false (L (cSl cU8) a.Peer.Queue), i64 a.Peer.Next, .sl false (L cK a.Peer.Early), i64 a.Peer.SentAt, .bs false 1 (a.dz.length) 0 (a.dz.length)] false, .buf 1 (L (cSl cU8) a.dz) false, .box [i64 c.Epoch, i64 c.To, i64 c.Seq, i64 c.Ack, .sl false (L cU8 c.Data)] false, .buf 5 (L cK g) false]), (53, 58, [.bs false 3 (g.length) 0 (g.length), i64 d.1, .sl false (L cK (([({ Epoch := 0, To := 0, Seq := c.Seq, Ack := 0, Data := k } : Pk)] : List Pk)))], [.box [i64 a.Peer.Epoch, i64 a.Peer.Other, i64 a.Peer.First, .sl false (L (cSl cU8) a.Peer.Queue), i64 a.Peer.Next, .sl false (L cK a.Peer.Early), i64 a.Peer.SentAt, .bs false 1 (a.dz.length) 0 (a.dz.length)] false, .buf 1 (L (cSl cU8) a.dz) false, .box [i64 c.Epoch, i64 c.To, i64 c.Seq, i64 c.Ack, .sl false (L cU8 c.Data)] false, .buf 5 (L cK g) false], .bs false 3 (i.length) 0 (i.length), [.box [i64 a.Peer.Epoch, i64 a.Peer.Other, i64 a.Peer.First, .sl false (L (cSl cU8) a.Peer.Queue), i64 a.Peer.Next, .sl false (L cK a.Peer.Early), i64 a.Peer.SentAt, .bs false 1 (a.dz.length) 0 (a.dz.length)] false, .buf 1 (L (cSl cU8) a.dz) false, .box [i64 c.Epoch, i64 c.To, i64 c.Seq, i64 c.Ack, .sl false (L cU8 c.Data)] false, .buf 5 (L cK i) false])]) ⟨window_own_con  p, trivial⟩ ⟨(wcon_call (slices_Clone_59_con o) [] (by decide) (by simp only [go_sem]) (by simp only [go_sem]) (by simp only [go_sem]) (by simp only [go_sem]) (by simp only [go_sem])), (wcon_call (slices_Insert_58_con q) [3] (by decide) (by simp only [go_sem]) (by simp only [go_sem]) (by simp only [go_sem]) (by simp only [go_sem]) (by simp only [go_sem])), trivial⟩, (by repeat' (first | exact trivial | (refine And.intro ?_ ?_) | exact fun _ => rfl | exact fun h => absurd h (by decide))), ?_⟩ ?_
      · simp only [go_sem, Nat.reduceBEq, Nat.reduceMul, Nat.reduceSub, Nat.reduceGT, Nat.reducePow, Nat.reduceLeDiff, Int.reduceToNat]
      obtain rfl := Option.some.inj h
      refine wkP_of ((weak_freeze_box 0 5 rfl rfl rfl (by simp only [go_sem]) (by simp only [go_sem])).trans (Weak.refl _ _)) ?_
      refine ret_own (.inl rfl) [0, 1] (by decide) rfl ?_ ?_
      · simp only [go_sem]
      · simp only [go_sem]
    · replace h := ite_f h hb
      refine run_skip ?_
      obtain rfl := Option.some.inj h
      refine wkP_of (Weak.refl _ _) ?_
      refine ret_own (.inl rfl) [0, 1] (by decide) rfl ?_ ?_
      · simp only [go_sem]
      · simp only [go_sem]

end Go.Proofs.Ytomjphpnpcgacaa
