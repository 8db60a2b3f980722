/-
  The library and the walks, part 1.
-/
import Derived.Test.YtomjphpnpcgacaaProg
import Derived.Test.YtomjphpnpcgacaaR43
import Derived.Test.YtomjphpnpcgacaaRows
import Derived.Test.YtomjphpnpcgacaaR30
import Derived.WalkKit
import Derived.ProofKit
import Derived.OpenShut
import Derived.JoinedCond
import Derived.KernelRfl
import Derived.Test.YtomjphpnpcgacaaR41
import Derived.Lib.Overlaps
import Derived.Lib.Walk
import Derived.Shelf.RegionOpenPlain
import Derived.Shelf.Spec.SlicesInsert
/-
  Types, and rules for the operations at them.
-/
namespace Go.Proofs.Ytomjphpnpcgacaa
open Go.Rv
set_option linter.unusedVariables false
set_option linter.unusedSimpArgs false
set_option maxRecDepth 20000

attribute [go_sem_proc] reduceIte Nat.reduceLT Nat.reduceEqDiff Nat.reduceAdd

noncomputable def B : Base := baseOwn Try.prog (fun _ => none) (fun f => [23, 24, 25, 26, 38, 41, 42, 43, 46, 47, 58, 59, 60].contains f)
theorem ok : B.Ok := baseOwn_ok _ _ _
theorem own5 (F : Addr → Prop) : (B.env F).own 5 = false := rfl
attribute [go_sem] own5
theorem own6 (F : Addr → Prop) : (B.env F).own 6 = false := rfl
attribute [go_sem] own6
theorem own10 (F : Addr → Prop) : (B.env F).own 10 = false := rfl
attribute [go_sem] own10
theorem own12 (F : Addr → Prop) : (B.env F).own 12 = false := rfl
attribute [go_sem] own12
theorem own14 (F : Addr → Prop) : (B.env F).own 14 = false := rfl
attribute [go_sem] own14
theorem own16 (F : Addr → Prop) : (B.env F).own 16 = false := rfl
attribute [go_sem] own16
theorem own20 (F : Addr → Prop) : (B.env F).own 20 = false := rfl
attribute [go_sem] own20
theorem own22 (F : Addr → Prop) : (B.env F).own 22 = false := rfl
attribute [go_sem] own22
theorem own23 (F : Addr → Prop) : (B.env F).own 23 = true := rfl
attribute [go_sem] own23
theorem own24 (F : Addr → Prop) : (B.env F).own 24 = true := rfl
attribute [go_sem] own24
theorem own25 (F : Addr → Prop) : (B.env F).own 25 = true := rfl
attribute [go_sem] own25
theorem own26 (F : Addr → Prop) : (B.env F).own 26 = true := rfl
attribute [go_sem] own26
theorem own27 (F : Addr → Prop) : (B.env F).own 27 = false := rfl
attribute [go_sem] own27
theorem own30 (F : Addr → Prop) : (B.env F).own 30 = false := rfl
attribute [go_sem] own30
theorem own35 (F : Addr → Prop) : (B.env F).own 35 = false := rfl
attribute [go_sem] own35
theorem own37 (F : Addr → Prop) : (B.env F).own 37 = false := rfl
attribute [go_sem] own37
theorem own38 (F : Addr → Prop) : (B.env F).own 38 = true := rfl
attribute [go_sem] own38
theorem own39 (F : Addr → Prop) : (B.env F).own 39 = false := rfl
attribute [go_sem] own39
theorem own41 (F : Addr → Prop) : (B.env F).own 41 = true := rfl
attribute [go_sem] own41
theorem own42 (F : Addr → Prop) : (B.env F).own 42 = true := rfl
attribute [go_sem] own42
theorem own43 (F : Addr → Prop) : (B.env F).own 43 = true := rfl
attribute [go_sem] own43
theorem own46 (F : Addr → Prop) : (B.env F).own 46 = true := rfl
attribute [go_sem] own46
theorem own47 (F : Addr → Prop) : (B.env F).own 47 = true := rfl
attribute [go_sem] own47
theorem own56 (F : Addr → Prop) : (B.env F).own 56 = false := rfl
attribute [go_sem] own56
theorem own57 (F : Addr → Prop) : (B.env F).own 57 = false := rfl
attribute [go_sem] own57
theorem own58 (F : Addr → Prop) : (B.env F).own 58 = true := rfl
attribute [go_sem] own58
theorem own59 (F : Addr → Prop) : (B.env F).own 59 = true := rfl
attribute [go_sem] own59
theorem own60 (F : Addr → Prop) : (B.env F).own 60 = true := rfl
attribute [go_sem] own60
theorem mixed : Try.prog.follows .mixedOrders = true := by kernel_rfl

structure Api_Packet where
  Epoch : Int
  To : Int
  Seq : Int
  Ack : Int
  Data : List UInt8
  deriving DecidableEq, Inhabited
def cApi_Packet (x : Api_Packet) : List AV := [i64 x.Epoch, i64 x.To, i64 x.Seq, i64 x.Ack, .sl false (L cU8 x.Data)]
attribute [go_sem] cApi_Packet
structure Api_Peer where
  Epoch : Int
  Other : Int
  First : Int
  Queue : List (List UInt8)
  Next : Int
  Early : List Api_Packet
  SentAt : Int
  deriving DecidableEq, Inhabited
def cApi_Peer (x : Api_Peer) : List AV := [i64 x.Epoch, i64 x.Other, i64 x.First, .sl false (L (cSl cU8) x.Queue), i64 x.Next, .sl false (L cApi_Packet x.Early), i64 x.SentAt]
attribute [go_sem] cApi_Peer
structure Window_side where
  Peer : Api_Peer
  delivered : List (List UInt8)
  deriving DecidableEq, Inhabited
def cWindow_side (x : Window_side) : List AV := [i64 x.Peer.Epoch, i64 x.Peer.Other, i64 x.Peer.First, .sl false (L (cSl cU8) x.Peer.Queue), i64 x.Peer.Next, .sl false (L cApi_Packet x.Peer.Early), i64 x.Peer.SentAt, .sl false (L (cSl cU8) x.delivered)]
attribute [go_sem] cWindow_side
structure Wagonpoollaw12_pair where
  p : (Api_Peer × Api_Peer)
  way : ((List Api_Packet) × (List Api_Packet))
  offered : ((List (List UInt8)) × (List (List UInt8)))
  delivered : ((List (List UInt8)) × (List (List UInt8)))
  now : Int
  resets : Int
  deriving DecidableEq, Inhabited
def cWagonpoollaw12_pair (x : Wagonpoollaw12_pair) : List AV := [i64 x.p.1.Epoch, i64 x.p.1.Other, i64 x.p.1.First, .sl false (L (cSl cU8) x.p.1.Queue), i64 x.p.1.Next, .sl false (L cApi_Packet x.p.1.Early), i64 x.p.1.SentAt, i64 x.p.2.Epoch, i64 x.p.2.Other, i64 x.p.2.First, .sl false (L (cSl cU8) x.p.2.Queue), i64 x.p.2.Next, .sl false (L cApi_Packet x.p.2.Early), i64 x.p.2.SentAt, .sl false (L cApi_Packet x.way.1), .sl false (L cApi_Packet x.way.2), .sl false (L (cSl cU8) x.offered.1), .sl false (L (cSl cU8) x.offered.2), .sl false (L (cSl cU8) x.delivered.1), .sl false (L (cSl cU8) x.delivered.2), i64 x.now, i64 x.resets]
attribute [go_sem] cWagonpoollaw12_pair
structure Wagonpoollaw12_Act where
  Kind : Int
  Side : Int
  N : Int
  Data : List UInt8
  deriving DecidableEq, Inhabited
def cWagonpoollaw12_Act (x : Wagonpoollaw12_Act) : List AV := [i64 x.Kind, i64 x.Side, i64 x.N, .sl false (L cU8 x.Data)]
attribute [go_sem] cWagonpoollaw12_Act
theorem tt3 : tabOf Try.prog 3 = some ⟨.int .i64, 1, 8, [i64 0]⟩ := by kernel_rfl
theorem tb3 (F : Addr → Prop) : (B.env F).tab 3 = some ⟨.int .i64, 1, 8, [i64 0]⟩ := tt3
attribute [go_sem] tb3
theorem tt5 : tabOf Try.prog 5 = some ⟨.int .u8, 1, 1, [u8 ((0 : UInt8))]⟩ := by kernel_rfl
theorem tb5 (F : Addr → Prop) : (B.env F).tab 5 = some ⟨.int .u8, 1, 1, [u8 ((0 : UInt8))]⟩ := tt5
attribute [go_sem] tb5
theorem tt9 : tabOf Try.prog 9 = some ⟨.string, 1, 16, [.str (([] : List UInt8))]⟩ := by kernel_rfl
theorem tb9 (F : Addr → Prop) : (B.env F).tab 9 = some ⟨.string, 1, 16, [.str (([] : List UInt8))]⟩ := tt9
attribute [go_sem] tb9
theorem tt22 : tabOf Try.prog 22 = some ⟨.slice 26, 1, 24, [.sl true (L (cSl cU8) ([]))]⟩ := by kernel_rfl
theorem tb22 (F : Addr → Prop) : (B.env F).tab 22 = some ⟨.slice 26, 1, 24, [.sl true (L (cSl cU8) ([]))]⟩ := tt22
attribute [go_sem] tb22
theorem tt23 : tabOf Try.prog 23 = some ⟨.slice 39, 1, 24, [.sl true (L cApi_Packet ([]))]⟩ := by kernel_rfl
theorem tb23 (F : Addr → Prop) : (B.env F).tab 23 = some ⟨.slice 39, 1, 24, [.sl true (L cApi_Packet ([]))]⟩ := tt23
attribute [go_sem] tb23
theorem tt25 : tabOf Try.prog 25 = some ⟨.struct #[⟨"Epoch", 3, 0, false, "", "", 0⟩, ⟨"Other", 3, 1, false, "", "", 8⟩, ⟨"First", 3, 2, false, "", "", 16⟩, ⟨"Queue", 22, 3, false, "", "", 24⟩, ⟨"Next", 3, 4, false, "", "", 48⟩, ⟨"Early", 23, 5, false, "", "", 56⟩, ⟨"SentAt", 3, 6, false, "", "", 80⟩], 7, 88, [i64 0, i64 0, i64 0, .sl true (L (cSl cU8) ([])), i64 0, .sl true (L cApi_Packet ([])), i64 0]⟩ := by kernel_rfl
theorem tb25 (F : Addr → Prop) : (B.env F).tab 25 = some ⟨.struct #[⟨"Epoch", 3, 0, false, "", "", 0⟩, ⟨"Other", 3, 1, false, "", "", 8⟩, ⟨"First", 3, 2, false, "", "", 16⟩, ⟨"Queue", 22, 3, false, "", "", 24⟩, ⟨"Next", 3, 4, false, "", "", 48⟩, ⟨"Early", 23, 5, false, "", "", 56⟩, ⟨"SentAt", 3, 6, false, "", "", 80⟩], 7, 88, [i64 0, i64 0, i64 0, .sl true (L (cSl cU8) ([])), i64 0, .sl true (L cApi_Packet ([])), i64 0]⟩ := tt25
attribute [go_sem] tb25
theorem tt26 : tabOf Try.prog 26 = some ⟨.slice 5, 1, 24, [.sl true (L cU8 ([]))]⟩ := by kernel_rfl
theorem tb26 (F : Addr → Prop) : (B.env F).tab 26 = some ⟨.slice 5, 1, 24, [.sl true (L cU8 ([]))]⟩ := tt26
attribute [go_sem] tb26
theorem tt29 : tabOf Try.prog 29 = some ⟨.int .i64, 1, 8, [i64 0]⟩ := by kernel_rfl
theorem tb29 (F : Addr → Prop) : (B.env F).tab 29 = some ⟨.int .i64, 1, 8, [i64 0]⟩ := tt29
attribute [go_sem] tb29
theorem tt39 : tabOf Try.prog 39 = some ⟨.struct #[⟨"Epoch", 3, 0, false, "", "", 0⟩, ⟨"To", 3, 1, false, "", "", 8⟩, ⟨"Seq", 3, 2, false, "", "", 16⟩, ⟨"Ack", 3, 3, false, "", "", 24⟩, ⟨"Data", 26, 4, false, "", "", 32⟩], 5, 56, [i64 0, i64 0, i64 0, i64 0, .sl true (L cU8 ([]))]⟩ := by kernel_rfl
theorem tb39 (F : Addr → Prop) : (B.env F).tab 39 = some ⟨.struct #[⟨"Epoch", 3, 0, false, "", "", 0⟩, ⟨"To", 3, 1, false, "", "", 8⟩, ⟨"Seq", 3, 2, false, "", "", 16⟩, ⟨"Ack", 3, 3, false, "", "", 24⟩, ⟨"Data", 26, 4, false, "", "", 32⟩], 5, 56, [i64 0, i64 0, i64 0, i64 0, .sl true (L cU8 ([]))]⟩ := tt39
attribute [go_sem] tb39
theorem tt44 : tabOf Try.prog 44 = some ⟨.slice 49, 1, 24, [.sl true (L cWagonpoollaw12_Act ([]))]⟩ := by kernel_rfl
theorem tb44 (F : Addr → Prop) : (B.env F).tab 44 = some ⟨.slice 49, 1, 24, [.sl true (L cWagonpoollaw12_Act ([]))]⟩ := tt44
attribute [go_sem] tb44
theorem tt49 : tabOf Try.prog 49 = some ⟨.struct #[⟨"Kind", 3, 0, false, "", "", 0⟩, ⟨"Side", 3, 1, false, "", "", 8⟩, ⟨"N", 3, 2, false, "", "", 16⟩, ⟨"Data", 26, 3, false, "", "", 24⟩], 4, 48, [i64 0, i64 0, i64 0, .sl true (L cU8 ([]))]⟩ := by kernel_rfl
theorem tb49 (F : Addr → Prop) : (B.env F).tab 49 = some ⟨.struct #[⟨"Kind", 3, 0, false, "", "", 0⟩, ⟨"Side", 3, 1, false, "", "", 8⟩, ⟨"N", 3, 2, false, "", "", 16⟩, ⟨"Data", 26, 3, false, "", "", 24⟩], 4, 48, [i64 0, i64 0, i64 0, .sl true (L cU8 ([]))]⟩ := tt49
attribute [go_sem] tb49
theorem tt52 : tabOf Try.prog 52 = some ⟨.array 2 25, 14, 176, [i64 0, i64 0, i64 0, .sl true (L (cSl cU8) ([])), i64 0, .sl true (L cApi_Packet ([])), i64 0, i64 0, i64 0, i64 0, .sl true (L (cSl cU8) ([])), i64 0, .sl true (L cApi_Packet ([])), i64 0]⟩ := by kernel_rfl
theorem tb52 (F : Addr → Prop) : (B.env F).tab 52 = some ⟨.array 2 25, 14, 176, [i64 0, i64 0, i64 0, .sl true (L (cSl cU8) ([])), i64 0, .sl true (L cApi_Packet ([])), i64 0, i64 0, i64 0, i64 0, .sl true (L (cSl cU8) ([])), i64 0, .sl true (L cApi_Packet ([])), i64 0]⟩ := tt52
attribute [go_sem] tb52
theorem tt53 : tabOf Try.prog 53 = some ⟨.array 2 23, 2, 48, [.sl true (L cApi_Packet ([])), .sl true (L cApi_Packet ([]))]⟩ := by kernel_rfl
theorem tb53 (F : Addr → Prop) : (B.env F).tab 53 = some ⟨.array 2 23, 2, 48, [.sl true (L cApi_Packet ([])), .sl true (L cApi_Packet ([]))]⟩ := tt53
attribute [go_sem] tb53
theorem tt54 : tabOf Try.prog 54 = some ⟨.array 2 22, 2, 48, [.sl true (L (cSl cU8) ([])), .sl true (L (cSl cU8) ([]))]⟩ := by kernel_rfl
theorem tb54 (F : Addr → Prop) : (B.env F).tab 54 = some ⟨.array 2 22, 2, 48, [.sl true (L (cSl cU8) ([])), .sl true (L (cSl cU8) ([]))]⟩ := tt54
attribute [go_sem] tb54
theorem tt56 : tabOf Try.prog 56 = some ⟨.struct #[⟨"p", 52, 0, false, "", "wagonpool/wagonpoollaw12", 0⟩, ⟨"way", 53, 14, false, "", "wagonpool/wagonpoollaw12", 176⟩, ⟨"offered", 54, 16, false, "", "wagonpool/wagonpoollaw12", 224⟩, ⟨"delivered", 54, 18, false, "", "wagonpool/wagonpoollaw12", 272⟩, ⟨"now", 3, 20, false, "", "wagonpool/wagonpoollaw12", 320⟩, ⟨"resets", 3, 21, false, "", "wagonpool/wagonpoollaw12", 328⟩], 22, 336, [i64 0, i64 0, i64 0, .sl true (L (cSl cU8) ([])), i64 0, .sl true (L cApi_Packet ([])), i64 0, i64 0, i64 0, i64 0, .sl true (L (cSl cU8) ([])), i64 0, .sl true (L cApi_Packet ([])), i64 0, .sl true (L cApi_Packet ([])), .sl true (L cApi_Packet ([])), .sl true (L (cSl cU8) ([])), .sl true (L (cSl cU8) ([])), .sl true (L (cSl cU8) ([])), .sl true (L (cSl cU8) ([])), i64 0, i64 0]⟩ := by kernel_rfl
theorem tb56 (F : Addr → Prop) : (B.env F).tab 56 = some ⟨.struct #[⟨"p", 52, 0, false, "", "wagonpool/wagonpoollaw12", 0⟩, ⟨"way", 53, 14, false, "", "wagonpool/wagonpoollaw12", 176⟩, ⟨"offered", 54, 16, false, "", "wagonpool/wagonpoollaw12", 224⟩, ⟨"delivered", 54, 18, false, "", "wagonpool/wagonpoollaw12", 272⟩, ⟨"now", 3, 20, false, "", "wagonpool/wagonpoollaw12", 320⟩, ⟨"resets", 3, 21, false, "", "wagonpool/wagonpoollaw12", 328⟩], 22, 336, [i64 0, i64 0, i64 0, .sl true (L (cSl cU8) ([])), i64 0, .sl true (L cApi_Packet ([])), i64 0, i64 0, i64 0, i64 0, .sl true (L (cSl cU8) ([])), i64 0, .sl true (L cApi_Packet ([])), i64 0, .sl true (L cApi_Packet ([])), .sl true (L cApi_Packet ([])), .sl true (L (cSl cU8) ([])), .sl true (L (cSl cU8) ([])), .sl true (L (cSl cU8) ([])), .sl true (L (cSl cU8) ([])), i64 0, i64 0]⟩ := tt56
attribute [go_sem] tb56
theorem tt79 : tabOf Try.prog 79 = some ⟨.struct #[⟨"Peer", 25, 0, true, "", "", 0⟩, ⟨"delivered", 22, 7, false, "", "wagonpool/window", 88⟩], 8, 112, [i64 0, i64 0, i64 0, .sl true (L (cSl cU8) ([])), i64 0, .sl true (L cApi_Packet ([])), i64 0, .sl true (L (cSl cU8) ([]))]⟩ := by kernel_rfl
theorem tb79 (F : Addr → Prop) : (B.env F).tab 79 = some ⟨.struct #[⟨"Peer", 25, 0, true, "", "", 0⟩, ⟨"delivered", 22, 7, false, "", "wagonpool/window", 88⟩], 8, 112, [i64 0, i64 0, i64 0, .sl true (L (cSl cU8) ([])), i64 0, .sl true (L cApi_Packet ([])), i64 0, .sl true (L (cSl cU8) ([]))]⟩ := tt79
attribute [go_sem] tb79
theorem tt80 : tabOf Try.prog 80 = some ⟨.func #[39] #[] false, 1, 8, [.val .nilFunc]⟩ := by kernel_rfl
theorem tb80 (F : Addr → Prop) : (B.env F).tab 80 = some ⟨.func #[39] #[] false, 1, 8, [.val .nilFunc]⟩ := tt80
attribute [go_sem] tb80
theorem tt81 : tabOf Try.prog 81 = some ⟨.slice 80, 1, 24, [.sl true []]⟩ := by kernel_rfl
theorem tb81 (F : Addr → Prop) : (B.env F).tab 81 = some ⟨.slice 80, 1, 24, [.sl true []]⟩ := tt81
attribute [go_sem] tb81
theorem tt86 : tabOf Try.prog 86 = some ⟨.int .u64, 1, 8, [u64 ((0 : UInt64))]⟩ := by kernel_rfl
theorem tb86 (F : Addr → Prop) : (B.env F).tab 86 = some ⟨.int .u64, 1, 8, [u64 ((0 : UInt64))]⟩ := tt86
attribute [go_sem] tb86
theorem tt99 : tabOf Try.prog 99 = some ⟨.func #[39, 3] #[3] false, 1, 8, [.val .nilFunc]⟩ := by kernel_rfl
theorem tb99 (F : Addr → Prop) : (B.env F).tab 99 = some ⟨.func #[39, 3] #[3] false, 1, 8, [.val .nilFunc]⟩ := tt99
attribute [go_sem] tb99
theorem tt109 : tabOf Try.prog 109 = some ⟨.int .u64, 1, 8, [u64 ((0 : UInt64))]⟩ := by kernel_rfl
theorem tb109 (F : Addr → Prop) : (B.env F).tab 109 = some ⟨.int .u64, 1, 8, [u64 ((0 : UInt64))]⟩ := tt109
attribute [go_sem] tb109
theorem ku64x1 : AV.int .u64 1 = u64 1 := rfl
attribute [go_sem] ku64x1
theorem ku8x120 : AV.int .u8 120 = u8 120 := rfl
attribute [go_sem] ku8x120
theorem ixsl22 {F} {σ : Store} (f : Bool) (l : List (List UInt8)) (x : AV) : indexAddrA (B.env F) σ 22 (.sl f (L (cSl cU8) l)) x = match idx x l.length with
    | some i => some (.rp ((cSl cU8) (nth l i)))
    | none => none := ixA_sl (cSl cU8) (tb22 F) (tb26 F) (fun _ => rfl) f l x
attribute [go_sem] ixsl22
theorem ixsl23 {F} {σ : Store} (f : Bool) (l : List Api_Packet) (x : AV) : indexAddrA (B.env F) σ 23 (.sl f (L cApi_Packet l)) x = match idx x l.length with
    | some i => some (.rp (cApi_Packet (nth l i)))
    | none => none := ixA_sl cApi_Packet (tb23 F) (tb39 F) (fun _ => rfl) f l x
attribute [go_sem] ixsl23
theorem mks26 {F} {σ : Store} (l c : Int) : makeSliceA (B.env F) σ 26 (i64 l) (i64 c) = if Mk l c 1 then some (.bs (l == c) σ.length l.toNat 0 l.toNat, σ ++ [.buf 1 (List.replicate l.toNat [u8 ((0 : UInt8))]) false]) else none := make_eq (tb26 F) (tb5 F) (by decide) l c
attribute [go_sem] mks26
theorem app22x22 {F} {σ : Store} (s x : AV) : builtinA (B.env F) σ .append [22, 22] [s, x] = match view σ x with
      | some new => if strBad x 1 = true then none else if ∀ cs ∈ new, cs.length = 1 then (match s with
          | .sl full els =>
            if els = [] ∧ full = true then
              if Fits new.length 24 then some (.bs false σ.length new.length 0 new.length, σ ++ [.buf 1 new false]) else none
            else if new = [] then some (.sl full els, σ)
            else if full = true ∧ (∀ cs ∈ els, cs.length = 1) ∧ Fits (els.length + new.length) 24
            then some (.bs false σ.length (els.length + new.length) 0 (els.length + new.length), σ ++ [.buf 1 (els ++ new) false]) else none
          | .bs full id tot off len => match σ[id]? with
            | some (.buf k els ro) =>
              if els.length = tot ∧ k = 1 ∧ Fits (len + new.length) 24 then
                if off = 0 ∧ len = tot then some (.bs false id (tot + new.length) 0 (tot + new.length), σ.set id (.buf k (els ++ new) ro))
                else if new = [] then some (.bs full id tot off len, σ)
                else if full then some (.bs false σ.length (len + new.length) 0 (len + new.length), σ ++ [.buf k ((els.drop off).take len ++ new) false])
                else none
              else none
            | _ => none
          | _ => none)
        else none
      | none => none := append_eq (tb22 F) (tb26 F) (by decide) (tb22 F) (.inl ⟨_, rfl⟩) s x []
attribute [go_sem] app22x22
theorem app23x23 {F} {σ : Store} (s x : AV) : builtinA (B.env F) σ .append [23, 23] [s, x] = match view σ x with
      | some new => if strBad x 5 = true then none else if ∀ cs ∈ new, cs.length = 5 then (match s with
          | .sl full els =>
            if els = [] ∧ full = true then
              if Fits new.length 56 then some (.bs false σ.length new.length 0 new.length, σ ++ [.buf 5 new false]) else none
            else if new = [] then some (.sl full els, σ)
            else if full = true ∧ (∀ cs ∈ els, cs.length = 5) ∧ Fits (els.length + new.length) 56
            then some (.bs false σ.length (els.length + new.length) 0 (els.length + new.length), σ ++ [.buf 5 (els ++ new) false]) else none
          | .bs full id tot off len => match σ[id]? with
            | some (.buf k els ro) =>
              if els.length = tot ∧ k = 5 ∧ Fits (len + new.length) 56 then
                if off = 0 ∧ len = tot then some (.bs false id (tot + new.length) 0 (tot + new.length), σ.set id (.buf k (els ++ new) ro))
                else if new = [] then some (.bs full id tot off len, σ)
                else if full then some (.bs false σ.length (len + new.length) 0 (len + new.length), σ ++ [.buf k ((els.drop off).take len ++ new) false])
                else none
              else none
            | _ => none
          | _ => none)
        else none
      | none => none := append_eq (tb23 F) (tb39 F) (by decide) (tb23 F) (.inl ⟨_, rfl⟩) s x []
attribute [go_sem] app23x23
theorem ixbs81 {F} {σ : Store} (f : Bool) (id tot off len : Nat) (x : AV) : indexAddrA (B.env F) σ 81 (.bs f id tot off len) x = match σ[id]?, idx x len with
    | some (.buf k els _), some i => if els.length = tot ∧ k = 1 then some (.eref id tot (off + i) 0) else none
    | _, _ => none := ixA_bs (tb81 F) (tb80 F) (by decide) f id tot off len x
attribute [go_sem] ixbs81
theorem ixar52 {F} {σ : Store} (id off : Nat) (x : AV) : indexAddrA (B.env F) σ 52 (.ref id off) x = match idx x 2 with
    | some i => some (.ref id (off + i * 7))
    | none => none := ixA_arr (tb52 F) (tb25 F) id off x
attribute [go_sem] ixar52
theorem ixar53 {F} {σ : Store} (id off : Nat) (x : AV) : indexAddrA (B.env F) σ 53 (.ref id off) x = match idx x 2 with
    | some i => some (.ref id (off + i * 1))
    | none => none := ixA_arr (tb53 F) (tb23 F) id off x
attribute [go_sem] ixar53
theorem ixar54 {F} {σ : Store} (id off : Nat) (x : AV) : indexAddrA (B.env F) σ 54 (.ref id off) x = match idx x 2 with
    | some i => some (.ref id (off + i * 1))
    | none => none := ixA_arr (tb54 F) (tb22 F) id off x
attribute [go_sem] ixar54
theorem ixbs23 {F} {σ : Store} (f : Bool) (id tot off len : Nat) (x : AV) : indexAddrA (B.env F) σ 23 (.bs f id tot off len) x = match σ[id]?, idx x len with
    | some (.buf k els _), some i => if els.length = tot ∧ k = 5 then some (.eref id tot (off + i) 0) else none
    | _, _ => none := ixA_bs (tb23 F) (tb39 F) (by decide) f id tot off len x
attribute [go_sem] ixbs23
theorem ixsl44 {F} {σ : Store} (f : Bool) (l : List Wagonpoollaw12_Act) (x : AV) : indexAddrA (B.env F) σ 44 (.sl f (L cWagonpoollaw12_Act l)) x = match idx x l.length with
    | some i => some (.rp (cWagonpoollaw12_Act (nth l i)))
    | none => none := ixA_sl cWagonpoollaw12_Act (tb44 F) (tb49 F) (fun _ => rfl) f l x
attribute [go_sem] ixsl44
end Go.Proofs.Ytomjphpnpcgacaa
/-
  What the functions compute, as plain programs.
-/
namespace Go.Proofs.Ytomjphpnpcgacaa
open Go.Rv
set_option linter.unusedVariables false
set_option linter.unusedSimpArgs false
set_option maxRecDepth 20000

def window_between (n_1 : Int) (lo_2 : Int) (hi_3 : Int) : Option (Bool) :=
  (if (decide (n_1 ≥ lo_2)) = true then
    some ((decide (n_1 ≤ hi_3)))
  else
    some false : Option (Bool)).bind fun t_4 =>
  some t_4

def window_valid_b1 (p_7 : Api_Peer) (t_48 : Int) : Option ((Int) ⊕ ((Unit) ⊕ ((Unit) ⊕ (Bool)))) :=
  if (decide (t_48 < (p_7.Queue.length : Int))) = true then
    if InR t_48 p_7.Queue.length then
      if (decide (((nth p_7.Queue t_48.toNat).length : Int) > 8000)) = true then
        ((some false).bind fun z_58 => some (.inr z_58)).bind fun z_59 => some (.inr (.inr z_59))
      else
        some (.inl ((w64 (t_48 + 1))))
    else none
  else
    some (.inr (.inl (())))
def window_valid_b2 (p_7 : Api_Peer) (last_130 : Int) (t_131 : Int) : Option ((Int × Int) ⊕ ((Unit) ⊕ ((Unit) ⊕ (Bool)))) :=
  if (decide (t_131 < (p_7.Early.length : Int))) = true then
    if InR t_131 p_7.Early.length then
      lt1 ((nth p_7.Early t_131.toNat).Epoch) fun (f_158 : Int) =>
      lt1 ((nth p_7.Early t_131.toNat).To) fun (f_159 : Int) =>
      lt1 ((nth p_7.Early t_131.toNat).Seq) fun (f_160 : Int) =>
      lt1 ((nth p_7.Early t_131.toNat).Ack) fun (f_161 : Int) =>
      lt1 ((nth p_7.Early t_131.toNat).Data) fun (f_162 : List UInt8) =>
      (if (decide (f_160 ≤ last_130)) = true then
        some true
      else
        if (decide (f_160 ≥ (mn64 ((w64 (p_7.Next + 64))) 1099511627776))) = true then
          some true
        else
          if (decide ((f_162.length : Int) > 8000)) = true then
            some true
          else
            if (f_158 != 0) = true then
              some true
            else
              if (f_159 != 0) = true then
                some true
              else
                some ((f_161 != 0)) : Option (Bool)).bind fun t_168 =>
      if t_168 = true then
        ((some false).bind fun z_175 => some (.inr z_175)).bind fun z_176 => some (.inr (.inr z_176))
      else
        some (.inl ((f_160, (w64 (t_131 + 1)))))
    else none
  else
    some (.inr (.inl (())))
def window_valid (p_7 : Api_Peer) : Option (Bool) :=
  ((window_between p_7.Epoch 0 1073741824).bind fun y_8 =>
  if (!y_8) = true then
    some true
  else
    (window_between p_7.Other ((-1)) 1073741824).bind fun y_9 =>
    if (!y_9) = true then
      some true
    else
      (window_between p_7.SentAt ((-1)) 1073741824).bind fun y_10 =>
      some ((!y_10)) : Option (Bool)).bind fun t_11 =>
  if t_11 = true then
    some false
  else
    ((window_between p_7.First 0 1099511627776).bind fun y_18 =>
    if (!y_18) = true then
      some true
    else
      (window_between p_7.Next 0 1099511627776).bind fun y_19 =>
      if (!y_19) = true then
        some true
      else
        if (decide ((p_7.Queue.length : Int) > 256)) = true then
          some true
        else
          some ((decide ((w64 (p_7.First + (p_7.Queue.length : Int))) > 1099511627776))) : Option (Bool)).bind fun t_20 =>
    if t_20 = true then
      some false
    else
      ((loopO (fun (v : Int) => window_valid_b1 p_7 v) 0).bind fun x => match x with
      | .inl () =>
        some (.inl (()))
      | .inr z => some z : Option ((Unit) ⊕ (Bool))).bind fun x => match x with
      | .inl () =>
        ((loopO (fun (v : Int × Int) => window_valid_b2 p_7 v.1 v.2) ((p_7.Next, 0))).bind fun x => match x with
        | .inl () =>
          some (.inl (()))
        | .inr z => some z : Option ((Unit) ⊕ (Bool))).bind fun x => match x with
        | .inl () =>
          some true
        | .inr z => some z
      | .inr z => some z

def window_New (epoch_177 : Int) : Option (Api_Peer × Int) :=
  (window_between epoch_177 0 1073741824).bind fun y_178 =>
  if (!y_178) = true then
    some ((({ Epoch := 0, Other := 0, First := 0, Queue := [], Next := 0, Early := [], SentAt := 0 } : Api_Peer), 1))
  else
    some ((({ Epoch := epoch_177, Other := (-1), First := 0, Queue := [], Next := 0, Early := [], SentAt := (-1) } : Api_Peer), 0))

def window_own (b_180 : List UInt8) : Option (List UInt8) :=
  if Mk ((b_180.length : Int)) ((b_180.length : Int)) 1 then
    lt1 ((List.replicate (((b_180.length : Int)).toNat) ((0 : UInt8)))) fun (l_182 : List UInt8) =>
    lt1 ((ovl l_182 (b_180.take (min b_180.length l_182.length)) 0)) fun (l_184 : List UInt8) =>
    some l_184
  else none

def slices_Clone_38 (s_186 : List (List UInt8)) : Option (List (List UInt8)) :=
  if Fits (0 + s_186.length) 24 then
    lt1 (((([] : List (List UInt8))) ++ s_186)) fun (l_193 : List (List UInt8)) =>
    some l_193
  else none

def slices_Clone_59 (s_195 : List Api_Packet) : Option (List Api_Packet) :=
  if Fits (0 + s_195.length) 56 then
    lt1 (((([] : List Api_Packet)) ++ s_195)) fun (l_202 : List Api_Packet) =>
    some l_202
  else none

def window_Offer (p_204 : Api_Peer) (data_205 : List UInt8) : Option (Api_Peer × Int) :=
  (window_valid p_204).bind fun y_206 =>
  if (!y_206) = true then
    some ((({ Epoch := 0, Other := 0, First := 0, Queue := [], Next := 0, Early := [], SentAt := 0 } : Api_Peer), 1))
  else
    if (decide ((data_205.length : Int) > 8000)) = true then
      some ((({ Epoch := 0, Other := 0, First := 0, Queue := [], Next := 0, Early := [], SentAt := 0 } : Api_Peer), 2))
    else
      (if ((p_204.Queue.length : Int) == 256) = true then
        some true
      else
        some (((w64 (p_204.First + (p_204.Queue.length : Int))) == 1099511627776)) : Option (Bool)).bind fun t_208 =>
      if t_208 = true then
        some ((({ Epoch := 0, Other := 0, First := 0, Queue := [], Next := 0, Early := [], SentAt := 0 } : Api_Peer), 120))
      else
        (slices_Clone_38 p_204.Queue).bind fun y_211 =>
        (window_own data_205).bind fun y_212 =>
        if Fits (y_211.length + 1) 24 then
          lt1 ((y_211 ++ (([y_212] : List (List UInt8))))) fun (l_216 : List (List UInt8)) =>
          some ((({ Epoch := p_204.Epoch, Other := p_204.Other, First := p_204.First, Queue := l_216, Next := p_204.Next, Early := p_204.Early, SentAt := p_204.SentAt } : Api_Peer), 0))
        else none

def window_Emit_b1 (p_218 : Api_Peer) (t_276 : List (List UInt8)) (t_277 : Int) (t_286 : Int) (l_287 : List Api_Packet) : Option ((Int × List Api_Packet) ⊕ (List Api_Packet)) :=
  if (decide (t_286 < t_277)) = true then
    if InR t_286 t_276.length then
      (window_own (nth t_276 t_286.toNat)).bind fun y_303 =>
      lt1 ((w64 (p_218.First + t_286))) fun (f_305 : Int) =>
      if Fits (l_287.length + 1) 56 then
        lt1 ((l_287 ++ (([({ Epoch := p_218.Epoch, To := p_218.Other, Seq := f_305, Ack := p_218.Next, Data := y_303 } : Api_Packet)] : List Api_Packet)))) fun (l_308 : List Api_Packet) =>
        some (.inl (((w64 (t_286 + 1)), l_308)))
      else none
    else none
  else
    some (.inr l_287)
def window_Emit (p_218 : Api_Peer) (now_219 : Int) : Option (Api_Peer × List Api_Packet) :=
  ((window_valid p_218).bind fun y_220 =>
  if (!y_220) = true then
    some true
  else
    (window_between now_219 0 1073741824).bind fun y_221 =>
    some ((!y_221)) : Option (Bool)).bind fun t_222 =>
  if t_222 = true then
    some ((p_218, []))
  else
    (if (decide (p_218.SentAt < 0)) = true then
      some true
    else
      if (decide (p_218.SentAt > now_219)) = true then
        some true
      else
        some ((decide ((w64 (now_219 - p_218.SentAt)) ≥ 10))) : Option (Bool)).bind fun due_227 =>
    (if ((p_218.Queue.length : Int) == 0) = true then
      some true
    else
      some ((!due_227)) : Option (Bool)).bind fun t_231 =>
    if t_231 = true then
      lt1 (([({ Epoch := p_218.Epoch, To := p_218.Other, Seq := (-1), Ack := p_218.Next, Data := [] } : Api_Packet)] : List Api_Packet)) fun (l_234 : List Api_Packet) =>
      some ((p_218, l_234))
    else
      (if InB ((mn64 16 ((p_218.Queue.length : Int)))) p_218.Queue.length then
        lt1 ((p_218.Queue.take (((mn64 16 ((p_218.Queue.length : Int)))).toNat))) fun (t_276 : List (List UInt8)) =>
        lt1 ((((p_218.Queue.take (((mn64 16 ((p_218.Queue.length : Int)))).toNat))).length : Int)) fun (t_277 : Int) =>
        (loopO (fun (v : Int × List Api_Packet) => window_Emit_b1 p_218 t_276 t_277 v.1 v.2) ((0, []))).bind fun l_296 =>
        some l_296
      else none : Option (List Api_Packet)).bind fun l_271 =>
      some ((({ Epoch := p_218.Epoch, Other := p_218.Other, First := p_218.First, Queue := p_218.Queue, Next := p_218.Next, Early := p_218.Early, SentAt := now_219 } : Api_Peer), l_271))

def r12_SamePacket (a_310 : Api_Packet) (b_311 : Api_Packet) : Option (Bool) :=
  (if (a_310.Epoch == b_311.Epoch) = true then
    if (a_310.To == b_311.To) = true then
      if (a_310.Seq == b_311.Seq) = true then
        if (a_310.Ack == b_311.Ack) = true then
          some ((a_310.Data == b_311.Data))
        else
          some false
      else
        some false
    else
      some false
  else
    some false : Option (Bool)).bind fun t_312 =>
  some t_312

def r12_SameMessages_b1 (a_318 : List (List UInt8)) (b_319 : List (List UInt8)) (i_345 : Int) : Option ((Int) ⊕ ((Unit) ⊕ ((Unit) ⊕ (Bool)))) :=
  if (decide (i_345 < (a_318.length : Int))) = true then
    if InR i_345 a_318.length then
      if InR i_345 b_319.length then
        if (!((nth a_318 i_345.toNat) == (nth b_319 i_345.toNat))) = true then
          ((some false).bind fun z_357 => some (.inr z_357)).bind fun z_358 => some (.inr (.inr z_358))
        else
          some (.inl ((w64 (i_345 + 1))))
      else none
    else none
  else
    some (.inr (.inl (())))
def r12_SameMessages (a_318 : List (List UInt8)) (b_319 : List (List UInt8)) : Option (Bool) :=
  if ((a_318.length : Int) != (b_319.length : Int)) = true then
    some false
  else
    ((loopO (fun (v : Int) => r12_SameMessages_b1 a_318 b_319 v) 0).bind fun x => match x with
    | .inl () =>
      some (.inl (()))
    | .inr z => some z : Option ((Unit) ⊕ (Bool))).bind fun x => match x with
    | .inl () =>
      some true
    | .inr z => some z

def window_side_keep_1 (e_359 : Api_Packet) (seq_360 : Int) : Option (Int) :=
  some ((w64 (e_359.Seq - seq_360)))

def slices_BinarySearchFunc_56_b1 (x_361 : List Api_Packet) (target_362 : Int) (cmp_363 : Api_Packet → Int → Option (Int)) (i_396 : Int) (j_397 : Int) : Option ((Int × Int) ⊕ (Int)) :=
  if (decide (i_396 < j_397)) = true then
    lt1 ((w64 (((shr64 ((UInt64.ofInt ((w64 (i_396 + j_397))))) ((1 : UInt64)).toNat)).toNat : Int))) fun (h_409 : Int) =>
    if InR h_409 x_361.length then
      (cmp_363 (nth x_361 h_409.toNat) target_362).bind fun y_411 =>
      if (decide (y_411 < 0)) = true then
        some (.inl (((w64 (h_409 + 1)), j_397)))
      else
        some (.inl ((i_396, h_409)))
    else none
  else
    some (.inr i_396)
def slices_BinarySearchFunc_56 (x_361 : List Api_Packet) (target_362 : Int) (cmp_363 : Api_Packet → Int → Option (Int)) : Option (Int × Bool) :=
  ((loopO (fun (v : Int × Int) => slices_BinarySearchFunc_56_b1 x_361 target_362 cmp_363 v.1 v.2) ((0, (x_361.length : Int)))).bind fun i_403 =>
  some i_403 : Option (Int)).bind fun i_387 =>
  (if (decide (i_387 < (x_361.length : Int))) = true then
    if InR i_387 x_361.length then
      (cmp_363 (nth x_361 i_387.toNat) target_362).bind fun y_414 =>
      some ((y_414 == 0))
    else none
  else
    some false : Option (Bool)).bind fun t_415 =>
  some ((i_387, t_415))

def window_side_take (s_420 : Window_side) (data_421 : List UInt8) : Option (Window_side) :=
  (window_own data_421).bind fun y_429 =>
  if Fits (s_420.delivered.length + 1) 24 then
    lt1 ((s_420.delivered ++ (([y_429] : List (List UInt8))))) fun (l_432 : List (List UInt8)) =>
    lt1 ((w64 (s_420.Peer.Next + 1))) fun (f_434 : Int) =>
    some (({ Peer := ({ Epoch := s_420.Peer.Epoch, Other := s_420.Peer.Other, First := s_420.Peer.First, Queue := s_420.Peer.Queue, Next := f_434, Early := s_420.Peer.Early, SentAt := s_420.Peer.SentAt } : Api_Peer), delivered := l_432 } : Window_side))
  else none

def window_side_acknowledge (s_436 : Window_side) (k_437 : Api_Packet) : Option (Window_side) :=
  lt1 ((w64 (k_437.Ack - s_436.Peer.First))) fun (n_446 : Int) =>
  (if (decide (n_446 > 0)) = true then
    some ((decide (n_446 ≤ (s_436.Peer.Queue.length : Int))))
  else
    some false : Option (Bool)).bind fun t_448 =>
  if t_448 = true then
    if InB n_446 s_436.Peer.Queue.length then
      lt1 (((s_436.Peer.Queue.drop n_446.toNat).take (s_436.Peer.Queue.length - n_446.toNat))) fun (f_452 : List (List UInt8)) =>
      some (({ Peer := ({ Epoch := s_436.Peer.Epoch, Other := s_436.Peer.Other, First := k_437.Ack, Queue := f_452, Next := s_436.Peer.Next, Early := s_436.Peer.Early, SentAt := (-1) } : Api_Peer), delivered := s_436.delivered } : Window_side))
    else none
  else
    some (({ Peer := s_436.Peer, delivered := s_436.delivered } : Window_side))

def window_side_deliver_b1 (f_533 : Int) (f_534 : Int) (f_535 : Int) (f_536 : List (List UInt8)) (f_537 : Int) (f_538 : List Api_Packet) (f_539 : Int) (l_540 : List (List UInt8)) : Option ((Int × Int × Int × List (List UInt8) × Int × List Api_Packet × Int × List (List UInt8)) ⊕ (Int × Int × Int × List (List UInt8) × Int × List Api_Packet × Int × List (List UInt8))) :=
  (if (decide ((f_538.length : Int) > 0)) = true then
    if InR 0 f_538.length then
      some (((nth f_538 0).Seq == f_537))
    else none
  else
    some false : Option (Bool)).bind fun t_566 =>
  if t_566 = true then
    if InR 0 f_538.length then
      (window_side_take (({ Peer := ({ Epoch := f_533, Other := f_534, First := f_535, Queue := f_536, Next := f_537, Early := f_538, SentAt := f_539 } : Api_Peer), delivered := l_540 } : Window_side)) ((nth f_538 0).Data)).bind fun y_570 =>
      lt1 y_570.delivered fun (l_573 : List (List UInt8)) =>
      if InB 1 y_570.Peer.Early.length then
        lt1 (((y_570.Peer.Early.drop 1).take (y_570.Peer.Early.length - 1))) fun (f_576 : List Api_Packet) =>
        some (.inl ((y_570.Peer.Epoch, y_570.Peer.Other, y_570.Peer.First, y_570.Peer.Queue, y_570.Peer.Next, f_576, y_570.Peer.SentAt, l_573)))
      else none
    else none
  else
    some (.inr ((f_533, f_534, f_535, f_536, f_537, f_538, f_539, l_540)))
def window_side_deliver (s_454 : Window_side) (k_455 : Api_Packet) : Option (Window_side) :=
  if (k_455.Seq != s_454.Peer.Next) = true then
    some (({ Peer := s_454.Peer, delivered := s_454.delivered } : Window_side))
  else
    (window_side_take (({ Peer := s_454.Peer, delivered := s_454.delivered } : Window_side)) k_455.Data).bind fun y_517 =>
    lt1 y_517.delivered fun (l_519 : List (List UInt8)) =>
    (loopO (fun (v : Int × Int × Int × List (List UInt8) × Int × List Api_Packet × Int × List (List UInt8)) => window_side_deliver_b1 v.1 v.2.1 v.2.2.1 v.2.2.2.1 v.2.2.2.2.1 v.2.2.2.2.2.1 v.2.2.2.2.2.2.1 v.2.2.2.2.2.2.2) ((y_517.Peer.Epoch, y_517.Peer.Other, y_517.Peer.First, y_517.Peer.Queue, y_517.Peer.Next, y_517.Peer.Early, y_517.Peer.SentAt, l_519))).bind fun (f_553, f_554, f_555, f_556, f_557, f_558, f_559, l_560) =>
    some (({ Peer := ({ Epoch := f_553, Other := f_554, First := f_555, Queue := f_556, Next := f_557, Early := f_558, SentAt := f_559 } : Api_Peer), delivered := l_560 } : Window_side))

def slices_Insert_58 (s : List Api_Packet) (i : Int) (v : List Api_Packet) : Option (List Api_Packet) := insertO 56 s i v

def window_side_keep (s_578 : Window_side) (k_579 : Api_Packet) : Option (Window_side) :=
  (if (decide (k_579.Seq ≤ s_578.Peer.Next)) = true then
    some true
  else
    some ((decide (k_579.Seq ≥ (w64 (s_578.Peer.Next + 64))))) : Option (Bool)).bind fun t_591 =>
  if t_591 = true then
    some (({ Peer := s_578.Peer, delivered := s_578.delivered } : Window_side))
  else
    (slices_BinarySearchFunc_56 s_578.Peer.Early k_579.Seq window_side_keep_1).bind fun y_594 =>
    if (!y_594.2) = true then
      (slices_Clone_59 s_578.Peer.Early).bind fun y_596 =>
      (window_own k_579.Data).bind fun y_597 =>
      (slices_Insert_58 y_596 y_594.1 (([({ Epoch := 0, To := 0, Seq := k_579.Seq, Ack := 0, Data := y_597 } : Api_Packet)] : List Api_Packet))).bind fun y_598 =>
      some (({ Peer := ({ Epoch := s_578.Peer.Epoch, Other := s_578.Peer.Other, First := s_578.Peer.First, Queue := s_578.Peer.Queue, Next := s_578.Peer.Next, Early := y_598, SentAt := s_578.Peer.SentAt } : Api_Peer), delivered := s_578.delivered } : Window_side))
    else
      some (({ Peer := s_578.Peer, delivered := s_578.delivered } : Window_side))

def window_Accept (p_602 : Api_Peer) (k_603 : Api_Packet) : Option (Api_Peer × List (List UInt8) × Bool) :=
  ((window_between k_603.Epoch 0 1073741824).bind fun y_604 =>
  if y_604 = true then
    (window_between k_603.Seq ((-1)) 1099511627775).bind fun y_605 =>
    if y_605 = true then
      (window_between k_603.Ack 0 1099511627776).bind fun y_606 =>
      if y_606 = true then
        some ((decide ((k_603.Data.length : Int) ≤ 8000)))
      else
        some false
    else
      some false
  else
    some false : Option (Bool)).bind fun fine_607 =>
  (if (!fine_607) = true then
    some true
  else
    (window_valid p_602).bind fun y_615 =>
    if (!y_615) = true then
      some true
    else
      some ((decide (k_603.Epoch < p_602.Other))) : Option (Bool)).bind fun t_616 =>
  if t_616 = true then
    some ((p_602, [], false))
  else
    lt1 ((decide (k_603.Epoch > p_602.Other))) fun (reset_621 : Bool) =>
    (if reset_621 = true then
      some ((k_603.Epoch, 0, [], 0, [], (-1)))
    else
      some ((p_602.Other, p_602.First, p_602.Queue, p_602.Next, p_602.Early, p_602.SentAt)) : Option (Int × Int × List (List UInt8) × Int × List Api_Packet × Int)).bind fun (f_623, f_624, f_625, f_626, f_627, f_628) =>
    (if (k_603.To == p_602.Epoch) = true then
      (window_side_acknowledge (({ Peer := ({ Epoch := p_602.Epoch, Other := f_623, First := f_624, Queue := f_625, Next := f_626, Early := f_627, SentAt := f_628 } : Api_Peer), delivered := [] } : Window_side)) k_603).bind fun y_662 =>
      lt1 y_662.delivered fun (l_664 : List (List UInt8)) =>
      (window_side_keep (({ Peer := y_662.Peer, delivered := l_664 } : Window_side)) k_603).bind fun y_668 =>
      lt1 y_668.delivered fun (l_670 : List (List UInt8)) =>
      (window_side_deliver (({ Peer := y_668.Peer, delivered := l_670 } : Window_side)) k_603).bind fun y_674 =>
      lt1 y_674.delivered fun (l_676 : List (List UInt8)) =>
      some ((y_674.Peer.Epoch, y_674.Peer.Other, y_674.Peer.First, y_674.Peer.Queue, y_674.Peer.Next, y_674.Peer.Early, y_674.Peer.SentAt, l_676))
    else
      some ((p_602.Epoch, f_623, f_624, f_625, f_626, f_627, f_628, [])) : Option (Int × Int × Int × List (List UInt8) × Int × List Api_Packet × Int × List (List UInt8))).bind fun (f_650, f_651, f_652, f_653, f_654, f_655, f_656, l_657) =>
    some ((({ Epoch := f_650, Other := f_651, First := f_652, Queue := f_653, Next := f_654, Early := f_655, SentAt := f_656 } : Api_Peer), l_657, reset_621))

def law12_sane  : Option (Bool) :=
  (window_New 3).bind fun y_679 =>
  (window_New 5).bind fun y_681 =>
  (window_New ((-1))).bind fun y_683 =>
  (window_Emit y_679.1 0).bind fun y_685 =>
  (if (y_679.2 != 0) = true then
    some true
  else
    if (y_681.2 != 0) = true then
      some true
    else
      if (y_683.2 != 1) = true then
        some true
      else
        if ((y_685.2.length : Int) != 1) = true then
          some true
        else
          if InR 0 y_685.2.length then
            (r12_SamePacket (nth y_685.2 0) (({ Epoch := 3, To := (-1), Seq := (-1), Ack := 0, Data := [] } : Api_Packet))).bind fun y_687 =>
            some ((!y_687))
          else none : Option (Bool)).bind fun t_688 =>
  if t_688 = true then
    some false
  else
    if InR 0 y_685.2.length then
      (window_Accept y_681.1 (nth y_685.2 0)).bind fun y_696 =>
      (window_Emit y_696.1 1).bind fun y_699 =>
      (if ((y_696.2.1.length : Int) != 0) = true then
        some true
      else
        if (!y_696.2.2) = true then
          some true
        else
          if (y_699.1.Other != 3) = true then
            some true
          else
            some (((y_699.2.length : Int) != 1)) : Option (Bool)).bind fun t_701 =>
      if t_701 = true then
        some false
      else
        if InR 0 y_699.2.length then
          (window_Accept y_685.1 (nth y_699.2 0)).bind fun y_706 =>
          (window_Offer y_706.1 (([(120 : UInt8)] : List UInt8))).bind fun y_709 =>
          (window_Emit y_709.1 7).bind fun y_711 =>
          (if (!y_706.2.2) = true then
            some true
          else
            if (y_709.2 != 0) = true then
              some true
            else
              if ((y_711.2.length : Int) != 1) = true then
                some true
              else
                if InR 0 y_711.2.length then
                  (r12_SamePacket (nth y_711.2 0) (({ Epoch := 3, To := 5, Seq := 0, Ack := 0, Data := ([(120 : UInt8)] : List UInt8) } : Api_Packet))).bind fun y_713 =>
                  some ((!y_713))
                else none : Option (Bool)).bind fun t_714 =>
          if t_714 = true then
            some false
          else
            (window_Emit y_711.1 8).bind fun y_721 =>
            (window_Emit y_711.1 17).bind fun y_723 =>
            if InR 0 y_711.2.length then
              (window_Accept y_699.1 (nth y_711.2 0)).bind fun y_725 =>
              if InR 0 y_711.2.length then
                (window_Accept y_725.1 (nth y_711.2 0)).bind fun y_728 =>
                (if ((y_721.2.length : Int) == 1) = true then
                  if InR 0 y_721.2.length then
                    if ((nth y_721.2 0).Seq == (-1)) = true then
                      if ((y_723.2.length : Int) == 1) = true then
                        if InR 0 y_723.2.length then
                          if ((nth y_723.2 0).Seq == 0) = true then
                            if ((y_725.2.1.length : Int) == 1) = true then
                              if InR 0 y_725.2.1.length then
                                if ((nth y_725.2.1 0) == (([120] : List UInt8))) = true then
                                  if (y_725.1.Next == 1) = true then
                                    some (((y_728.2.1.length : Int) == 0))
                                  else
                                    some false
                                else
                                  some false
                              else none
                            else
                              some false
                          else
                            some false
                        else none
                      else
                        some false
                    else
                      some false
                  else none
                else
                  some false : Option (Bool)).bind fun t_731 =>
                some t_731
              else none
            else none
        else none
    else none

def law12_at (n_743 : Int) (length_744 : Int) : Option (Int) :=
  if ¬(UInt64.ofInt length_744) = 0 then
    lt1 ((w64 ((((UInt64.ofInt n_743) % (UInt64.ofInt length_744))).toNat : Int))) fun (t_746 : Int) =>
    some t_746
  else none

def law12_begin  : Option (Wagonpoollaw12_pair × Bool) :=
  (window_New 0).bind fun y_755 =>
  (window_New 0).bind fun y_757 =>
  (if (y_755.2 == 0) = true then
    some ((y_757.2 == 0))
  else
    some false : Option (Bool)).bind fun t_759 =>
  some ((({ p := (y_755.1, y_757.1), way := ([], []), offered := ([], []), delivered := ([], []), now := 0, resets := 0 } : Wagonpoollaw12_pair), t_759))

def law12_pair_emit_c0 (s_762 : Wagonpoollaw12_pair) : Option (List Api_Packet × Wagonpoollaw12_pair × Nat × Nat × Nat × Nat × Nat × Nat) :=
  (window_Emit s_762.p.1 s_762.now).bind fun y_804 =>
  if (decide ((y_804.2.length : Int) > 16)) = true then
    some (([], ({ p := (y_804.1, s_762.p.2), way := (s_762.way.1, s_762.way.2), offered := (s_762.offered.1, s_762.offered.2), delivered := (s_762.delivered.1, s_762.delivered.2), now := s_762.now, resets := s_762.resets } : Wagonpoollaw12_pair), s_762.way.1.length, s_762.way.2.length, s_762.offered.1.length, s_762.offered.2.length, s_762.delivered.1.length, s_762.delivered.2.length))
  else
    if Fits (s_762.way.2.length + y_804.2.length) 56 then
      lt1 ((s_762.way.2 ++ y_804.2)) fun (l_813 : List Api_Packet) =>
      (if (decide ((l_813.length : Int) > 200)) = true then
        if InB ((w64 ((l_813.length : Int) - 200))) l_813.length then
          lt1 (((w64 ((l_813.length : Int) - 200))).toNat) fun (f_841 : Nat) =>
          lt1 ((l_813.length - ((w64 ((l_813.length : Int) - 200))).toNat)) fun (f_842 : Nat) =>
          some ((l_813.drop f_841))
        else none
      else
        some l_813 : Option (List Api_Packet)).bind fun l_828 =>
      some ((y_804.2, ({ p := (y_804.1, s_762.p.2), way := (s_762.way.1, l_828), offered := (s_762.offered.1, s_762.offered.2), delivered := (s_762.delivered.1, s_762.delivered.2), now := s_762.now, resets := s_762.resets } : Wagonpoollaw12_pair), s_762.way.1.length, l_813.length, s_762.offered.1.length, s_762.offered.2.length, s_762.delivered.1.length, s_762.delivered.2.length))
    else none

def law12_pair_emit_c1 (s_845 : Wagonpoollaw12_pair) : Option (List Api_Packet × Wagonpoollaw12_pair × Nat × Nat × Nat × Nat × Nat × Nat) :=
  (window_Emit s_845.p.2 s_845.now).bind fun y_887 =>
  if (decide ((y_887.2.length : Int) > 16)) = true then
    some (([], ({ p := (s_845.p.1, y_887.1), way := (s_845.way.1, s_845.way.2), offered := (s_845.offered.1, s_845.offered.2), delivered := (s_845.delivered.1, s_845.delivered.2), now := s_845.now, resets := s_845.resets } : Wagonpoollaw12_pair), s_845.way.1.length, s_845.way.2.length, s_845.offered.1.length, s_845.offered.2.length, s_845.delivered.1.length, s_845.delivered.2.length))
  else
    if Fits (s_845.way.1.length + y_887.2.length) 56 then
      lt1 ((s_845.way.1 ++ y_887.2)) fun (l_896 : List Api_Packet) =>
      (if (decide ((l_896.length : Int) > 200)) = true then
        if InB ((w64 ((l_896.length : Int) - 200))) l_896.length then
          lt1 (((w64 ((l_896.length : Int) - 200))).toNat) fun (f_924 : Nat) =>
          lt1 ((l_896.length - ((w64 ((l_896.length : Int) - 200))).toNat)) fun (f_925 : Nat) =>
          some ((l_896.drop f_924))
        else none
      else
        some l_896 : Option (List Api_Packet)).bind fun l_911 =>
      some ((y_887.2, ({ p := (s_845.p.1, y_887.1), way := (l_911, s_845.way.2), offered := (s_845.offered.1, s_845.offered.2), delivered := (s_845.delivered.1, s_845.delivered.2), now := s_845.now, resets := s_845.resets } : Wagonpoollaw12_pair), l_896.length, s_845.way.2.length, s_845.offered.1.length, s_845.offered.2.length, s_845.delivered.1.length, s_845.delivered.2.length))
    else none

def law12_pair_accept_c0 (s_928 : Wagonpoollaw12_pair) (k_929 : Api_Packet) : Option (Wagonpoollaw12_pair × Nat × Nat × Nat × Nat × Nat × Nat) :=
  (window_Accept s_928.p.1 k_929).bind fun y_949 =>
  (if y_949.2.2 = true then
    some (((w64 (s_928.resets + 1)), [], []))
  else
    some ((s_928.resets, s_928.offered.1, s_928.delivered.1)) : Option (Int × List (List UInt8) × List (List UInt8))).bind fun (f_955, l_956, l_957) =>
  if Fits (l_957.length + y_949.2.1.length) 24 then
    lt1 ((l_957 ++ y_949.2.1)) fun (l_966 : List (List UInt8)) =>
    some ((({ p := (y_949.1, s_928.p.2), way := (s_928.way.1, s_928.way.2), offered := (l_956, s_928.offered.2), delivered := (l_966, s_928.delivered.2), now := s_928.now, resets := f_955 } : Wagonpoollaw12_pair), s_928.way.1.length, s_928.way.2.length, s_928.offered.1.length, s_928.offered.2.length, s_928.delivered.1.length, s_928.delivered.2.length))
  else none

def law12_pair_accept_c1 (s_968 : Wagonpoollaw12_pair) (k_969 : Api_Packet) : Option (Wagonpoollaw12_pair × Nat × Nat × Nat × Nat × Nat × Nat) :=
  (window_Accept s_968.p.2 k_969).bind fun y_989 =>
  (if y_989.2.2 = true then
    some (((w64 (s_968.resets + 1)), [], []))
  else
    some ((s_968.resets, s_968.offered.2, s_968.delivered.2)) : Option (Int × List (List UInt8) × List (List UInt8))).bind fun (f_995, l_996, l_997) =>
  if Fits (l_997.length + y_989.2.1.length) 24 then
    lt1 ((l_997 ++ y_989.2.1)) fun (l_1006 : List (List UInt8)) =>
    some ((({ p := (s_968.p.1, y_989.1), way := (s_968.way.1, s_968.way.2), offered := (s_968.offered.1, l_996), delivered := (s_968.delivered.1, l_1006), now := s_968.now, resets := f_995 } : Wagonpoollaw12_pair), s_968.way.1.length, s_968.way.2.length, s_968.offered.1.length, s_968.offered.2.length, s_968.delivered.1.length, s_968.delivered.2.length))
  else none

def law12_pair_act (s_1008 : Wagonpoollaw12_pair) (a_1009 : Wagonpoollaw12_Act) : Option (Wagonpoollaw12_pair × Nat × Nat × Nat × Nat × Nat × Nat) :=
  lt1 ((and64 a_1009.Side 1)) fun (i_1118 : Int) =>
  if (i_1118 == 0) = true then
    lt1 ((s_1008.way.1.length : Int)) fun (n_1121 : Int) =>
    (if ((and64 a_1009.Kind 7) == 0) = true then
      some (((and64 a_1009.Kind 7) == 0))
    else
      some (((and64 a_1009.Kind 7) == 5)) : Option (Bool)).bind fun t_1123 =>
    if t_1123 = true then
      (window_Offer s_1008.p.1 a_1009.Data).bind fun y_1127 =>
      if (y_1127.2 == 0) = true then
        if Fits (s_1008.offered.1.length + 1) 24 then
          lt1 ((s_1008.offered.1 ++ (([a_1009.Data] : List (List UInt8))))) fun (l_1134 : List (List UInt8)) =>
          some ((({ p := (y_1127.1, s_1008.p.2), way := (s_1008.way.1, s_1008.way.2), offered := (l_1134, s_1008.offered.2), delivered := (s_1008.delivered.1, s_1008.delivered.2), now := s_1008.now, resets := s_1008.resets } : Wagonpoollaw12_pair), s_1008.way.1.length, s_1008.way.2.length, l_1134.length, s_1008.offered.2.length, s_1008.delivered.1.length, s_1008.delivered.2.length))
        else none
      else
        some ((({ p := (s_1008.p.1, s_1008.p.2), way := (s_1008.way.1, s_1008.way.2), offered := (s_1008.offered.1, s_1008.offered.2), delivered := (s_1008.delivered.1, s_1008.delivered.2), now := s_1008.now, resets := s_1008.resets } : Wagonpoollaw12_pair), s_1008.way.1.length, s_1008.way.2.length, s_1008.offered.1.length, s_1008.offered.2.length, s_1008.delivered.1.length, s_1008.delivered.2.length))
    else
      (if ((and64 a_1009.Kind 7) == 1) = true then
        some (((and64 a_1009.Kind 7) == 1))
      else
        some (((and64 a_1009.Kind 7) == 6)) : Option (Bool)).bind fun t_1136 =>
      if t_1136 = true then
        lt1 ((w64 (s_1008.now + (and64 a_1009.N 15)))) fun (f_1140 : Int) =>
        (law12_pair_emit_c0 (({ p := (s_1008.p.1, s_1008.p.2), way := (s_1008.way.1, s_1008.way.2), offered := (s_1008.offered.1, s_1008.offered.2), delivered := (s_1008.delivered.1, s_1008.delivered.2), now := f_1140, resets := s_1008.resets } : Wagonpoollaw12_pair))).bind fun y_1142 =>
        some ((({ p := (y_1142.2.1.p.1, y_1142.2.1.p.2), way := (y_1142.2.1.way.1, y_1142.2.1.way.2), offered := (y_1142.2.1.offered.1, y_1142.2.1.offered.2), delivered := (y_1142.2.1.delivered.1, y_1142.2.1.delivered.2), now := y_1142.2.1.now, resets := y_1142.2.1.resets } : Wagonpoollaw12_pair), y_1142.2.2.1, y_1142.2.2.2.1, y_1142.2.2.2.2.1, y_1142.2.2.2.2.2.1, y_1142.2.2.2.2.2.2.1, y_1142.2.2.2.2.2.2.2))
      else
        (if ((and64 a_1009.Kind 7) == 2) = true then
          some (((and64 a_1009.Kind 7) == 2))
        else
          some (((and64 a_1009.Kind 7) == 7)) : Option (Bool)).bind fun t_1144 =>
        if t_1144 = true then
          if (decide (n_1121 > 0)) = true then
            (law12_at a_1009.N n_1121).bind fun y_1148 =>
            if InR y_1148 s_1008.way.1.length then
              (law12_pair_accept_c0 (({ p := (s_1008.p.1, s_1008.p.2), way := (s_1008.way.1, s_1008.way.2), offered := (s_1008.offered.1, s_1008.offered.2), delivered := (s_1008.delivered.1, s_1008.delivered.2), now := s_1008.now, resets := s_1008.resets } : Wagonpoollaw12_pair)) (nth s_1008.way.1 y_1148.toNat)).bind fun y_1149 =>
              some ((({ p := (y_1149.1.p.1, y_1149.1.p.2), way := (y_1149.1.way.1, y_1149.1.way.2), offered := (y_1149.1.offered.1, y_1149.1.offered.2), delivered := (y_1149.1.delivered.1, y_1149.1.delivered.2), now := y_1149.1.now, resets := y_1149.1.resets } : Wagonpoollaw12_pair), y_1149.2.1, y_1149.2.2.1, y_1149.2.2.2.1, y_1149.2.2.2.2.1, y_1149.2.2.2.2.2.1, y_1149.2.2.2.2.2.2))
            else none
          else
            some ((({ p := (s_1008.p.1, s_1008.p.2), way := (s_1008.way.1, s_1008.way.2), offered := (s_1008.offered.1, s_1008.offered.2), delivered := (s_1008.delivered.1, s_1008.delivered.2), now := s_1008.now, resets := s_1008.resets } : Wagonpoollaw12_pair), s_1008.way.1.length, s_1008.way.2.length, s_1008.offered.1.length, s_1008.offered.2.length, s_1008.delivered.1.length, s_1008.delivered.2.length))
        else
          if ((and64 a_1009.Kind 7) == 3) = true then
            if (decide (n_1121 > 0)) = true then
              (law12_at a_1009.N n_1121).bind fun y_1154 =>
              if InB y_1154 s_1008.way.1.length then
                if Fits (0 + ((s_1008.way.1.take y_1154.toNat)).length) 56 then
                  if InB ((w64 (y_1154 + 1))) s_1008.way.1.length then
                    if Fits ((((([] : List Api_Packet)) ++ ((s_1008.way.1.take y_1154.toNat)))).length + (((s_1008.way.1.drop (((w64 (y_1154 + 1))).toNat)).take ((s_1008.way.1.length - ((w64 (y_1154 + 1))).toNat)))).length) 56 then
                      lt1 (((((([] : List Api_Packet)) ++ ((s_1008.way.1.take y_1154.toNat)))) ++ (((s_1008.way.1.drop (((w64 (y_1154 + 1))).toNat)).take ((s_1008.way.1.length - ((w64 (y_1154 + 1))).toNat)))))) fun (l_1165 : List Api_Packet) =>
                      some ((({ p := (s_1008.p.1, s_1008.p.2), way := (l_1165, s_1008.way.2), offered := (s_1008.offered.1, s_1008.offered.2), delivered := (s_1008.delivered.1, s_1008.delivered.2), now := s_1008.now, resets := s_1008.resets } : Wagonpoollaw12_pair), s_1008.way.1.length, s_1008.way.2.length, s_1008.offered.1.length, s_1008.offered.2.length, s_1008.delivered.1.length, s_1008.delivered.2.length))
                    else none
                  else none
                else none
              else none
            else
              some ((({ p := (s_1008.p.1, s_1008.p.2), way := (s_1008.way.1, s_1008.way.2), offered := (s_1008.offered.1, s_1008.offered.2), delivered := (s_1008.delivered.1, s_1008.delivered.2), now := s_1008.now, resets := s_1008.resets } : Wagonpoollaw12_pair), s_1008.way.1.length, s_1008.way.2.length, s_1008.offered.1.length, s_1008.offered.2.length, s_1008.delivered.1.length, s_1008.delivered.2.length))
          else
            if ((and64 a_1009.Kind 7) == 4) = true then
              (window_New ((w64 (s_1008.p.1.Epoch + 1)))).bind fun y_1167 =>
              if (y_1167.2 == 0) = true then
                some ((({ p := (y_1167.1, s_1008.p.2), way := (s_1008.way.1, s_1008.way.2), offered := ([], s_1008.offered.2), delivered := ([], s_1008.delivered.2), now := s_1008.now, resets := s_1008.resets } : Wagonpoollaw12_pair), s_1008.way.1.length, s_1008.way.2.length, s_1008.offered.1.length, s_1008.offered.2.length, s_1008.delivered.1.length, s_1008.delivered.2.length))
              else
                some ((({ p := (s_1008.p.1, s_1008.p.2), way := (s_1008.way.1, s_1008.way.2), offered := (s_1008.offered.1, s_1008.offered.2), delivered := (s_1008.delivered.1, s_1008.delivered.2), now := s_1008.now, resets := s_1008.resets } : Wagonpoollaw12_pair), s_1008.way.1.length, s_1008.way.2.length, s_1008.offered.1.length, s_1008.offered.2.length, s_1008.delivered.1.length, s_1008.delivered.2.length))
            else
              some ((({ p := (s_1008.p.1, s_1008.p.2), way := (s_1008.way.1, s_1008.way.2), offered := (s_1008.offered.1, s_1008.offered.2), delivered := (s_1008.delivered.1, s_1008.delivered.2), now := s_1008.now, resets := s_1008.resets } : Wagonpoollaw12_pair), s_1008.way.1.length, s_1008.way.2.length, s_1008.offered.1.length, s_1008.offered.2.length, s_1008.delivered.1.length, s_1008.delivered.2.length))
  else
    lt1 ((s_1008.way.2.length : Int)) fun (n_1174 : Int) =>
    (if ((and64 a_1009.Kind 7) == 0) = true then
      some (((and64 a_1009.Kind 7) == 0))
    else
      some (((and64 a_1009.Kind 7) == 5)) : Option (Bool)).bind fun t_1176 =>
    if t_1176 = true then
      (window_Offer s_1008.p.2 a_1009.Data).bind fun y_1180 =>
      if (y_1180.2 == 0) = true then
        if Fits (s_1008.offered.2.length + 1) 24 then
          lt1 ((s_1008.offered.2 ++ (([a_1009.Data] : List (List UInt8))))) fun (l_1187 : List (List UInt8)) =>
          some ((({ p := (s_1008.p.1, y_1180.1), way := (s_1008.way.1, s_1008.way.2), offered := (s_1008.offered.1, l_1187), delivered := (s_1008.delivered.1, s_1008.delivered.2), now := s_1008.now, resets := s_1008.resets } : Wagonpoollaw12_pair), s_1008.way.1.length, s_1008.way.2.length, s_1008.offered.1.length, l_1187.length, s_1008.delivered.1.length, s_1008.delivered.2.length))
        else none
      else
        some ((({ p := (s_1008.p.1, s_1008.p.2), way := (s_1008.way.1, s_1008.way.2), offered := (s_1008.offered.1, s_1008.offered.2), delivered := (s_1008.delivered.1, s_1008.delivered.2), now := s_1008.now, resets := s_1008.resets } : Wagonpoollaw12_pair), s_1008.way.1.length, s_1008.way.2.length, s_1008.offered.1.length, s_1008.offered.2.length, s_1008.delivered.1.length, s_1008.delivered.2.length))
    else
      (if ((and64 a_1009.Kind 7) == 1) = true then
        some (((and64 a_1009.Kind 7) == 1))
      else
        some (((and64 a_1009.Kind 7) == 6)) : Option (Bool)).bind fun t_1189 =>
      if t_1189 = true then
        lt1 ((w64 (s_1008.now + (and64 a_1009.N 15)))) fun (f_1193 : Int) =>
        (law12_pair_emit_c1 (({ p := (s_1008.p.1, s_1008.p.2), way := (s_1008.way.1, s_1008.way.2), offered := (s_1008.offered.1, s_1008.offered.2), delivered := (s_1008.delivered.1, s_1008.delivered.2), now := f_1193, resets := s_1008.resets } : Wagonpoollaw12_pair))).bind fun y_1195 =>
        some ((({ p := (y_1195.2.1.p.1, y_1195.2.1.p.2), way := (y_1195.2.1.way.1, y_1195.2.1.way.2), offered := (y_1195.2.1.offered.1, y_1195.2.1.offered.2), delivered := (y_1195.2.1.delivered.1, y_1195.2.1.delivered.2), now := y_1195.2.1.now, resets := y_1195.2.1.resets } : Wagonpoollaw12_pair), y_1195.2.2.1, y_1195.2.2.2.1, y_1195.2.2.2.2.1, y_1195.2.2.2.2.2.1, y_1195.2.2.2.2.2.2.1, y_1195.2.2.2.2.2.2.2))
      else
        (if ((and64 a_1009.Kind 7) == 2) = true then
          some (((and64 a_1009.Kind 7) == 2))
        else
          some (((and64 a_1009.Kind 7) == 7)) : Option (Bool)).bind fun t_1197 =>
        if t_1197 = true then
          if (decide (n_1174 > 0)) = true then
            (law12_at a_1009.N n_1174).bind fun y_1201 =>
            if InR y_1201 s_1008.way.2.length then
              (law12_pair_accept_c1 (({ p := (s_1008.p.1, s_1008.p.2), way := (s_1008.way.1, s_1008.way.2), offered := (s_1008.offered.1, s_1008.offered.2), delivered := (s_1008.delivered.1, s_1008.delivered.2), now := s_1008.now, resets := s_1008.resets } : Wagonpoollaw12_pair)) (nth s_1008.way.2 y_1201.toNat)).bind fun y_1202 =>
              some ((({ p := (y_1202.1.p.1, y_1202.1.p.2), way := (y_1202.1.way.1, y_1202.1.way.2), offered := (y_1202.1.offered.1, y_1202.1.offered.2), delivered := (y_1202.1.delivered.1, y_1202.1.delivered.2), now := y_1202.1.now, resets := y_1202.1.resets } : Wagonpoollaw12_pair), y_1202.2.1, y_1202.2.2.1, y_1202.2.2.2.1, y_1202.2.2.2.2.1, y_1202.2.2.2.2.2.1, y_1202.2.2.2.2.2.2))
            else none
          else
            some ((({ p := (s_1008.p.1, s_1008.p.2), way := (s_1008.way.1, s_1008.way.2), offered := (s_1008.offered.1, s_1008.offered.2), delivered := (s_1008.delivered.1, s_1008.delivered.2), now := s_1008.now, resets := s_1008.resets } : Wagonpoollaw12_pair), s_1008.way.1.length, s_1008.way.2.length, s_1008.offered.1.length, s_1008.offered.2.length, s_1008.delivered.1.length, s_1008.delivered.2.length))
        else
          if ((and64 a_1009.Kind 7) == 3) = true then
            if (decide (n_1174 > 0)) = true then
              (law12_at a_1009.N n_1174).bind fun y_1207 =>
              if InB y_1207 s_1008.way.2.length then
                if Fits (0 + ((s_1008.way.2.take y_1207.toNat)).length) 56 then
                  if InB ((w64 (y_1207 + 1))) s_1008.way.2.length then
                    if Fits ((((([] : List Api_Packet)) ++ ((s_1008.way.2.take y_1207.toNat)))).length + (((s_1008.way.2.drop (((w64 (y_1207 + 1))).toNat)).take ((s_1008.way.2.length - ((w64 (y_1207 + 1))).toNat)))).length) 56 then
                      lt1 (((((([] : List Api_Packet)) ++ ((s_1008.way.2.take y_1207.toNat)))) ++ (((s_1008.way.2.drop (((w64 (y_1207 + 1))).toNat)).take ((s_1008.way.2.length - ((w64 (y_1207 + 1))).toNat)))))) fun (l_1218 : List Api_Packet) =>
                      some ((({ p := (s_1008.p.1, s_1008.p.2), way := (s_1008.way.1, l_1218), offered := (s_1008.offered.1, s_1008.offered.2), delivered := (s_1008.delivered.1, s_1008.delivered.2), now := s_1008.now, resets := s_1008.resets } : Wagonpoollaw12_pair), s_1008.way.1.length, s_1008.way.2.length, s_1008.offered.1.length, s_1008.offered.2.length, s_1008.delivered.1.length, s_1008.delivered.2.length))
                    else none
                  else none
                else none
              else none
            else
              some ((({ p := (s_1008.p.1, s_1008.p.2), way := (s_1008.way.1, s_1008.way.2), offered := (s_1008.offered.1, s_1008.offered.2), delivered := (s_1008.delivered.1, s_1008.delivered.2), now := s_1008.now, resets := s_1008.resets } : Wagonpoollaw12_pair), s_1008.way.1.length, s_1008.way.2.length, s_1008.offered.1.length, s_1008.offered.2.length, s_1008.delivered.1.length, s_1008.delivered.2.length))
          else
            if ((and64 a_1009.Kind 7) == 4) = true then
              (window_New ((w64 (s_1008.p.2.Epoch + 1)))).bind fun y_1220 =>
              if (y_1220.2 == 0) = true then
                some ((({ p := (s_1008.p.1, y_1220.1), way := (s_1008.way.1, s_1008.way.2), offered := (s_1008.offered.1, []), delivered := (s_1008.delivered.1, []), now := s_1008.now, resets := s_1008.resets } : Wagonpoollaw12_pair), s_1008.way.1.length, s_1008.way.2.length, s_1008.offered.1.length, s_1008.offered.2.length, s_1008.delivered.1.length, s_1008.delivered.2.length))
              else
                some ((({ p := (s_1008.p.1, s_1008.p.2), way := (s_1008.way.1, s_1008.way.2), offered := (s_1008.offered.1, s_1008.offered.2), delivered := (s_1008.delivered.1, s_1008.delivered.2), now := s_1008.now, resets := s_1008.resets } : Wagonpoollaw12_pair), s_1008.way.1.length, s_1008.way.2.length, s_1008.offered.1.length, s_1008.offered.2.length, s_1008.delivered.1.length, s_1008.delivered.2.length))
            else
              some ((({ p := (s_1008.p.1, s_1008.p.2), way := (s_1008.way.1, s_1008.way.2), offered := (s_1008.offered.1, s_1008.offered.2), delivered := (s_1008.delivered.1, s_1008.delivered.2), now := s_1008.now, resets := s_1008.resets } : Wagonpoollaw12_pair), s_1008.way.1.length, s_1008.way.2.length, s_1008.offered.1.length, s_1008.offered.2.length, s_1008.delivered.1.length, s_1008.delivered.2.length))

def law12_pair_right (s_1226 : Wagonpoollaw12_pair) : Option (Bool × Wagonpoollaw12_pair × Nat × Nat × Nat × Nat × Nat × Nat) :=
  (((if (s_1226.p.1.Other != s_1226.p.2.Epoch) = true then
    some true
  else
    some ((s_1226.p.2.Other != s_1226.p.1.Epoch)) : Option (Bool)).bind fun t_1585 =>
  if t_1585 = true then
    some (.inl (()))
  else
    lt1 ((s_1226.delivered.1.length : Int)) fun (n_1595 : Int) =>
    (if (decide (n_1595 > (s_1226.offered.2.length : Int))) = true then
      some true
    else
      if InB n_1595 s_1226.offered.2.length then
        (r12_SameMessages s_1226.delivered.1 ((s_1226.offered.2.take n_1595.toNat))).bind fun y_1597 =>
        some ((!y_1597))
      else none : Option (Bool)).bind fun t_1598 =>
    if t_1598 = true then
      ((some ((false, ({ p := (s_1226.p.1, s_1226.p.2), way := (s_1226.way.1, s_1226.way.2), offered := (s_1226.offered.1, s_1226.offered.2), delivered := (s_1226.delivered.1, s_1226.delivered.2), now := s_1226.now, resets := s_1226.resets } : Wagonpoollaw12_pair), s_1226.way.1.length, s_1226.way.2.length, s_1226.offered.1.length, s_1226.offered.2.length, s_1226.delivered.1.length, s_1226.delivered.2.length))).bind fun z_1608 => some (.inr z_1608)).bind fun z_1609 => some (.inr z_1609)
    else
      some (.inl (())) : Option ((Unit) ⊕ ((Unit) ⊕ (Bool × Wagonpoollaw12_pair × Nat × Nat × Nat × Nat × Nat × Nat)))).bind fun x => match x with
  | .inl () =>
    ((if (s_1226.p.2.Other != s_1226.p.1.Epoch) = true then
      some true
    else
      some ((s_1226.p.1.Other != s_1226.p.2.Epoch)) : Option (Bool)).bind fun t_1639 =>
    if t_1639 = true then
      some (.inl (()))
    else
      lt1 ((s_1226.delivered.2.length : Int)) fun (n_1649 : Int) =>
      (if (decide (n_1649 > (s_1226.offered.1.length : Int))) = true then
        some true
      else
        if InB n_1649 s_1226.offered.1.length then
          (r12_SameMessages s_1226.delivered.2 ((s_1226.offered.1.take n_1649.toNat))).bind fun y_1651 =>
          some ((!y_1651))
        else none : Option (Bool)).bind fun t_1652 =>
      if t_1652 = true then
        ((some ((false, ({ p := (s_1226.p.1, s_1226.p.2), way := (s_1226.way.1, s_1226.way.2), offered := (s_1226.offered.1, s_1226.offered.2), delivered := (s_1226.delivered.1, s_1226.delivered.2), now := s_1226.now, resets := s_1226.resets } : Wagonpoollaw12_pair), s_1226.way.1.length, s_1226.way.2.length, s_1226.offered.1.length, s_1226.offered.2.length, s_1226.delivered.1.length, s_1226.delivered.2.length))).bind fun z_1662 => some (.inr z_1662)).bind fun z_1663 => some (.inr z_1663)
      else
        some (.inl (())) : Option ((Unit) ⊕ ((Unit) ⊕ (Bool × Wagonpoollaw12_pair × Nat × Nat × Nat × Nat × Nat × Nat)))).bind fun x => match x with
    | .inl () =>
      some (.inl (()))
    | .inr z => some z
  | .inr z => some z : Option ((Unit) ⊕ (Bool × Wagonpoollaw12_pair × Nat × Nat × Nat × Nat × Nat × Nat))).bind fun x => match x with
  | .inl () =>
    some ((true, ({ p := (s_1226.p.1, s_1226.p.2), way := (s_1226.way.1, s_1226.way.2), offered := (s_1226.offered.1, s_1226.offered.2), delivered := (s_1226.delivered.1, s_1226.delivered.2), now := s_1226.now, resets := s_1226.resets } : Wagonpoollaw12_pair), s_1226.way.1.length, s_1226.way.2.length, s_1226.offered.1.length, s_1226.offered.2.length, s_1226.delivered.1.length, s_1226.delivered.2.length))
  | .inr z => some z

def law12_WindowDelivers_b1 (script_2348 : List Wagonpoollaw12_Act) (i_2539 : Int) (f_2540 : Int) (f_2541 : Int) (f_2542 : Int) (f_2543 : List (List UInt8)) (f_2544 : Int) (f_2545 : List Api_Packet) (f_2546 : Int) (f_2547 : Int) (f_2548 : Int) (f_2549 : Int) (f_2550 : List (List UInt8)) (f_2551 : Int) (f_2552 : List Api_Packet) (f_2553 : Int) (f_2554 : Int) (f_2555 : Int) (l_2556 : List Api_Packet) (l_2557 : List Api_Packet) (l_2558 : List (List UInt8)) (l_2559 : List (List UInt8)) (l_2560 : List (List UInt8)) (l_2561 : List (List UInt8)) : Option ((Int × Int × Int × Int × List (List UInt8) × Int × List Api_Packet × Int × Int × Int × Int × List (List UInt8) × Int × List Api_Packet × Int × Int × Int × List Api_Packet × List Api_Packet × List (List UInt8) × List (List UInt8) × List (List UInt8) × List (List UInt8)) ⊕ ((Unit) ⊕ ((Unit) ⊕ (Bool)))) :=
  (if (decide (i_2539 < (script_2348.length : Int))) = true then
    some ((decide (i_2539 < 150)))
  else
    some false : Option (Bool)).bind fun t_2606 =>
  if t_2606 = true then
    if InR i_2539 script_2348.length then
      lt1 ((decide ((((nth script_2348 i_2539.toNat).Data).length : Int) > 100))) fun (t_2610 : Bool) =>
      if t_2610 = true then
        ((some true).bind fun z_2612 => some (.inr z_2612)).bind fun z_2613 => some (.inr (.inr z_2613))
      else
        if InR i_2539 script_2348.length then
          (law12_pair_act (({ p := (({ Epoch := f_2540, Other := f_2541, First := f_2542, Queue := f_2543, Next := f_2544, Early := f_2545, SentAt := f_2546 } : Api_Peer), ({ Epoch := f_2547, Other := f_2548, First := f_2549, Queue := f_2550, Next := f_2551, Early := f_2552, SentAt := f_2553 } : Api_Peer)), way := (l_2556, l_2557), offered := (l_2558, l_2559), delivered := (l_2560, l_2561), now := f_2554, resets := f_2555 } : Wagonpoollaw12_pair)) (nth script_2348 i_2539.toNat)).bind fun y_2614 =>
          lt1 y_2614.1.way.1 fun (l_2617 : List Api_Packet) =>
          lt1 y_2614.1.way.2 fun (l_2618 : List Api_Packet) =>
          lt1 y_2614.1.offered.1 fun (l_2619 : List (List UInt8)) =>
          lt1 y_2614.1.offered.2 fun (l_2620 : List (List UInt8)) =>
          lt1 y_2614.1.delivered.1 fun (l_2621 : List (List UInt8)) =>
          lt1 y_2614.1.delivered.2 fun (l_2622 : List (List UInt8)) =>
          (law12_pair_right (({ p := (y_2614.1.p.1, y_2614.1.p.2), way := (l_2617, l_2618), offered := (l_2619, l_2620), delivered := (l_2621, l_2622), now := y_2614.1.now, resets := y_2614.1.resets } : Wagonpoollaw12_pair))).bind fun y_2629 =>
          lt1 y_2629.2.1.way.1 fun (l_2631 : List Api_Packet) =>
          lt1 y_2629.2.1.way.2 fun (l_2632 : List Api_Packet) =>
          lt1 y_2629.2.1.offered.1 fun (l_2633 : List (List UInt8)) =>
          lt1 y_2629.2.1.offered.2 fun (l_2634 : List (List UInt8)) =>
          lt1 y_2629.2.1.delivered.1 fun (l_2635 : List (List UInt8)) =>
          lt1 y_2629.2.1.delivered.2 fun (l_2636 : List (List UInt8)) =>
          if (!y_2629.1) = true then
            ((some false).bind fun z_2643 => some (.inr z_2643)).bind fun z_2644 => some (.inr (.inr z_2644))
          else
            some (.inl (((w64 (i_2539 + 1)), y_2629.2.1.p.1.Epoch, y_2629.2.1.p.1.Other, y_2629.2.1.p.1.First, y_2629.2.1.p.1.Queue, y_2629.2.1.p.1.Next, y_2629.2.1.p.1.Early, y_2629.2.1.p.1.SentAt, y_2629.2.1.p.2.Epoch, y_2629.2.1.p.2.Other, y_2629.2.1.p.2.First, y_2629.2.1.p.2.Queue, y_2629.2.1.p.2.Next, y_2629.2.1.p.2.Early, y_2629.2.1.p.2.SentAt, y_2629.2.1.now, y_2629.2.1.resets, l_2631, l_2632, l_2633, l_2634, l_2635, l_2636)))
        else none
    else none
  else
    some (.inr (.inl (())))
def law12_WindowDelivers (script_2348 : List Wagonpoollaw12_Act) : Option (Bool) :=
  law12_begin.bind fun y_2349 =>
  (law12_sane.bind fun y_2351 =>
  if (!y_2351) = true then
    some true
  else
    some ((!y_2349.2)) : Option (Bool)).bind fun t_2352 =>
  if t_2352 = true then
    some false
  else
    ((loopO (fun (v : Int × Int × Int × Int × List (List UInt8) × Int × List Api_Packet × Int × Int × Int × Int × List (List UInt8) × Int × List Api_Packet × Int × Int × Int × List Api_Packet × List Api_Packet × List (List UInt8) × List (List UInt8) × List (List UInt8) × List (List UInt8)) => law12_WindowDelivers_b1 script_2348 v.1 v.2.1 v.2.2.1 v.2.2.2.1 v.2.2.2.2.1 v.2.2.2.2.2.1 v.2.2.2.2.2.2.1 v.2.2.2.2.2.2.2.1 v.2.2.2.2.2.2.2.2.1 v.2.2.2.2.2.2.2.2.2.1 v.2.2.2.2.2.2.2.2.2.2.1 v.2.2.2.2.2.2.2.2.2.2.2.1 v.2.2.2.2.2.2.2.2.2.2.2.2.1 v.2.2.2.2.2.2.2.2.2.2.2.2.2.1 v.2.2.2.2.2.2.2.2.2.2.2.2.2.2.1 v.2.2.2.2.2.2.2.2.2.2.2.2.2.2.2.1 v.2.2.2.2.2.2.2.2.2.2.2.2.2.2.2.2.1 v.2.2.2.2.2.2.2.2.2.2.2.2.2.2.2.2.2.1 v.2.2.2.2.2.2.2.2.2.2.2.2.2.2.2.2.2.2.1 v.2.2.2.2.2.2.2.2.2.2.2.2.2.2.2.2.2.2.2.1 v.2.2.2.2.2.2.2.2.2.2.2.2.2.2.2.2.2.2.2.2.1 v.2.2.2.2.2.2.2.2.2.2.2.2.2.2.2.2.2.2.2.2.2.1 v.2.2.2.2.2.2.2.2.2.2.2.2.2.2.2.2.2.2.2.2.2.2) ((0, y_2349.1.p.1.Epoch, y_2349.1.p.1.Other, y_2349.1.p.1.First, y_2349.1.p.1.Queue, y_2349.1.p.1.Next, y_2349.1.p.1.Early, y_2349.1.p.1.SentAt, y_2349.1.p.2.Epoch, y_2349.1.p.2.Other, y_2349.1.p.2.First, y_2349.1.p.2.Queue, y_2349.1.p.2.Next, y_2349.1.p.2.Early, y_2349.1.p.2.SentAt, y_2349.1.now, y_2349.1.resets, [], [], [], [], [], []))).bind fun x => match x with
    | .inl () =>
      some (.inl (()))
    | .inr z => some z : Option ((Unit) ⊕ (Bool))).bind fun x => match x with
    | .inl () =>
      some true
    | .inr z => some z

end Go.Proofs.Ytomjphpnpcgacaa
/-
  Readings of arguments of chapter 12.
-/
namespace Go.Proofs.Ytomjphpnpcgacaa
open Go.Rv Go.ChangeShapes Go.WideShapes Go.ChangeAt Go.RowKit
set_option linter.unusedVariables false

theorem bulk_all (H : Type) (l : List (DataW H)) : (l.map (Rows.uptoBulk (H := H))).sum = Rows.uptoBulkAll l := by
  induction l with
  | nil => rfl
  | cons x l ih => simp only [List.map_cons, List.sum_cons, ih, Rows.uptoBulkAll]

theorem bulk_ok : BulkOk (fun H => Rows.uptoBulk (H := H)) where
  one := fun H d => by
    cases d with
    | lit l => cases l <;> simp [Rows.uptoBulk]
    | _ => simp [Rows.uptoBulk]
  str := fun H l => by simp [Rows.uptoBulk]
  slice := fun H e s => by rw [bulk_all]; simp only [Rows.uptoBulk]; omega
  agg := fun H p => by rw [bulk_all]; simp only [Rows.uptoBulk]; omega

theorem cells_of_3 : Try.prog.cellsOf 3 = 1 := by kernel_rfl
theorem cells_of_5 : Try.prog.cellsOf 5 = 1 := by kernel_rfl
theorem cells_of_26 : Try.prog.cellsOf 26 = 1 := by kernel_rfl
theorem cells_of_22 : Try.prog.cellsOf 22 = 1 := by kernel_rfl
theorem cells_of_23 : Try.prog.cellsOf 23 = 1 := by kernel_rfl
theorem cells_of_39 : Try.prog.cellsOf 39 = 5 := by kernel_rfl
theorem cells_of_25 : Try.prog.cellsOf 25 = 7 := by kernel_rfl
theorem opens3 : Opens Try.prog (fun H => Rows.uptoBulk (H := H)) 3 cI64 (fun _ => 1) (fun x => -9223372036854775808 ≤ x ∧ x ≤ 9223372036854775807) := opens_i64 bulk_ok Try.underlying3
theorem opens26 : Opens Try.prog (fun H => Rows.uptoBulk (H := H)) 26 (cSl cU8) (fun _ => 0) (fun _ => True) :=
  fun H enc W pr hpr fuel cs d ps h => by
    obtain ⟨x, h1, _, _, h4⟩ := opens_slice bulk_ok Try.underlying26 cells_of_5 (fun _ => rfl) (opens_u8 bulk_ok Try.underlying5) H enc W pr hpr fuel cs d ps h
    exact ⟨x, h1, Nat.zero_le _, trivial, h4⟩
theorem opens22 : Opens Try.prog (fun H => Rows.uptoBulk (H := H)) 22 (cSl (cSl cU8)) (fun _ => 0) (fun _ => True) :=
  fun H enc W pr hpr fuel cs d ps h => by
    obtain ⟨x, h1, _, _, h4⟩ := opens_slice bulk_ok Try.underlying22 cells_of_26 (fun _ => rfl) opens26 H enc W pr hpr fuel cs d ps h
    exact ⟨x, h1, Nat.zero_le _, trivial, h4⟩
theorem opens39 : Opens Try.prog (fun H => Rows.uptoBulk (H := H)) 39 cApi_Packet (fun _ => 0) (fun _ => True) :=
  opens_struct bulk_ok Try.underlying39 (n := 5) cells_of_39
    (opensFs_cons (k := 1) rfl cells_of_3 (fun _ => rfl) opens3 (opensFs_cons (k := 1) rfl cells_of_3 (fun _ => rfl) opens3 (opensFs_cons (k := 1) rfl cells_of_3 (fun _ => rfl) opens3 (opensFs_cons (k := 1) rfl cells_of_3 (fun _ => rfl) opens3 (opensFs_cons (k := 1) rfl cells_of_26 (fun _ => rfl) opens26 opensFs_nil)))))
    (fun x => (⟨x.1, x.2.1, x.2.2.1, x.2.2.2.1, x.2.2.2.2.1⟩ : Api_Packet)) (fun _ => rfl) (fun _ => rfl) (fun _ => Nat.zero_le _) (fun _ _ => trivial)
theorem opens23 : Opens Try.prog (fun H => Rows.uptoBulk (H := H)) 23 (cSl cApi_Packet) (fun _ => 0) (fun _ => True) :=
  fun H enc W pr hpr fuel cs d ps h => by
    obtain ⟨x, h1, _, _, h4⟩ := opens_slice bulk_ok Try.underlying23 cells_of_39 (fun _ => rfl) opens39 H enc W pr hpr fuel cs d ps h
    exact ⟨x, h1, Nat.zero_le _, trivial, h4⟩
theorem opens25 : Opens Try.prog (fun H => Rows.uptoBulk (H := H)) 25 cApi_Peer (fun _ => 0) (fun _ => True) :=
  opens_struct bulk_ok Try.underlying25 (n := 7) cells_of_25
    (opensFs_cons (k := 1) rfl cells_of_3 (fun _ => rfl) opens3 (opensFs_cons (k := 1) rfl cells_of_3 (fun _ => rfl) opens3 (opensFs_cons (k := 1) rfl cells_of_3 (fun _ => rfl) opens3 (opensFs_cons (k := 1) rfl cells_of_22 (fun _ => rfl) opens22 (opensFs_cons (k := 1) rfl cells_of_3 (fun _ => rfl) opens3 (opensFs_cons (k := 1) rfl cells_of_23 (fun _ => rfl) opens23 (opensFs_cons (k := 1) rfl cells_of_3 (fun _ => rfl) opens3 opensFs_nil)))))))
    (fun x => (⟨x.1, x.2.1, x.2.2.1, x.2.2.2.1, x.2.2.2.2.1, x.2.2.2.2.2.1, x.2.2.2.2.2.2.1⟩ : Api_Peer)) (fun _ => rfl) (fun _ => rfl) (fun _ => Nat.zero_le _) (fun _ _ => trivial)

theorem opens58 : Opens Try.prog (fun H => Rows.uptoBulk (H := H)) 58 (cSl cI64) (fun _ => 0) (fun _ => True) :=
  fun H enc W pr hpr fuel cs d ps h => by
    obtain ⟨x, h1, _, _, h4⟩ := opens_slice bulk_ok Try.underlying58 cells_of_3 (fun _ => rfl) opens3 H enc W pr hpr fuel cs d ps h
    exact ⟨x, h1, Nat.zero_le _, trivial, h4⟩

theorem own : ownKnob Try.prog.godebug = none := by kernel_rfl
theorem laid_ok : laidOutB Try.prog = true := by kernel_rfl
theorem G_none : ∀ i, B.G i = none := fun _ => rfl
end Go.Proofs.Ytomjphpnpcgacaa
/-
  Readings of scripts.
-/
namespace Go.Proofs.Ytomjphpnpcgacaa
open Go.Rv Go.ChangeShapes Go.WideShapes Go.ChangeAt Go.RowKit
set_option linter.unusedVariables false

theorem cells_of_49 : Try.prog.cellsOf 49 = 4 := by kernel_rfl
theorem opens49 : Opens Try.prog (fun H => Rows.uptoBulk (H := H)) 49 cWagonpoollaw12_Act (fun _ => 0) (fun _ => True) :=
  opens_struct bulk_ok Try.underlying49 (n := 4) cells_of_49
    (opensFs_cons (k := 1) rfl cells_of_3 (fun _ => rfl) opens3 (opensFs_cons (k := 1) rfl cells_of_3 (fun _ => rfl) opens3 (opensFs_cons (k := 1) rfl cells_of_3 (fun _ => rfl) opens3 (opensFs_cons (k := 1) rfl cells_of_26 (fun _ => rfl) opens26 opensFs_nil))))
    (fun x => (⟨x.1, x.2.1, x.2.2.1, x.2.2.2.1⟩ : Wagonpoollaw12_Act)) (fun _ => rfl) (fun _ => rfl) (fun _ => Nat.zero_le _) (fun _ _ => trivial)
theorem opens44 : Opens Try.prog (fun H => Rows.uptoBulk (H := H)) 44 (cSl cWagonpoollaw12_Act) (fun _ => 0) (fun _ => True) :=
  fun H enc W pr hpr fuel cs d ps h => by
    obtain ⟨x, h1, _, _, h4⟩ := opens_slice bulk_ok Try.underlying44 cells_of_49 (fun _ => rfl) opens49 H enc W pr hpr fuel cs d ps h
    exact ⟨x, h1, Nat.zero_le _, trivial, h4⟩
end Go.Proofs.Ytomjphpnpcgacaa
/-
  The functions compute just that.
-/
namespace Go.Proofs.Ytomjphpnpcgacaa
open Go.Rv
set_option linter.unusedVariables false
set_option linter.unusedSimpArgs false
set_option maxRecDepth 20000
set_option maxHeartbeats 4000000

theorem window_between_con {n_1 : Int} {lo_2 : Int} {hi_3 : Int} {r : Bool} (h : window_between n_1 lo_2 hi_3 = some r) : Con B 35 [i64 n_1, i64 lo_2, i64 hi_3] [] (fun r' σ' => r' = .bool r ∧ σ' = []) := by
  refine con_walk (N := 15) (rs := [.tmp 6]) ok Try.func35 rfl (by decide +kernel) rfl rfl (Nat.le_of_ble_eq_true rfl) (fun F => ?_)
  have hE := ok.env F
  unfold window_between at h
  show Run (B.env F) 0 _ ⟨asFr 15 [(0, i64 n_1), (1, i64 lo_2), (2, i64 hi_3)], []⟩ _
  refine run_wkP ?_
  refine run_textE hE [0, 1, 2] (fr' := [(0, i64 n_1), (1, i64 lo_2), (2, i64 hi_3)]) (σ' := []) ⟨_, orcs_nil, ?_⟩ ?_
  · simp only [go_sem]
  replace h := bind_some1 h; obtain ⟨t_4, hv_5, h⟩ := h
  refine run_textW hE [6] (fr' := [(6, .bool t_4)]) (σ' := []) ?_ ?_
  · rcases Bool.eq_false_or_eq_true ((decide (n_1 ≥ lo_2))) with hb_6 | hb_6
    · replace hv_5 := ite_t hv_5 hb_6
      have e_hv_5 := Option.some.inj hv_5; subst e_hv_5
      exact ⟨_, [(6, .bool ((decide (n_1 ≤ hi_3))))], [], orcs_nil, by simp only [go_sem, hb_6], (weak_sel [] (by decide) rfl (by simp only [go_sem]) (by simp only [go_sem]))⟩
    · replace hv_5 := ite_f hv_5 hb_6
      have e_hv_5 := Option.some.inj hv_5; subst e_hv_5
      exact ⟨_, [(6, .bool false)], [], orcs_nil, by simp only [go_sem, hb_6], (weak_sel [] (by decide) rfl (by simp only [go_sem]) (by simp only [go_sem]))⟩
  refine run_ret ?_
  obtain rfl := Option.some.inj h
  refine wkP_of (Weak.refl _ _) ?_
  refine ret_ok (.inr rfl) ?_
  simp only [go_sem]

end Go.Proofs.Ytomjphpnpcgacaa
/-
  The functions compute just that.
-/
namespace Go.Proofs.Ytomjphpnpcgacaa
open Go.Rv
set_option linter.unusedVariables false
set_option linter.unusedSimpArgs false
set_option maxRecDepth 20000
set_option maxHeartbeats 4000000

theorem window_valid_con {p_7 : Api_Peer} {r : Bool} (h : window_valid p_7 = some r) : Con B 37 [.agg [i64 p_7.Epoch, i64 p_7.Other, i64 p_7.First, .sl false (L (cSl cU8) p_7.Queue), i64 p_7.Next, .sl false (L cApi_Packet p_7.Early), i64 p_7.SentAt]] [] (fun r' σ' => r' = .bool r ∧ σ' = []) := by
  refine con_walk (N := 106) (rs := [.tmp 2]) ok Try.func37 rfl (by decide +kernel) rfl rfl (Nat.le_of_ble_eq_true rfl) (fun F => ?_)
  have hE := ok.env F
  unfold window_valid at h
  show Run (B.env F) 0 _ ⟨asFr 106 [(0, .agg [i64 p_7.Epoch, i64 p_7.Other, i64 p_7.First, .sl false (L (cSl cU8) p_7.Queue), i64 p_7.Next, .sl false (L cApi_Packet p_7.Early), i64 p_7.SentAt])], []⟩ _
  refine run_wkP ?_
  refine run_textE hE [1] (fr' := [(1, .ref 0 0)]) (σ' := [.box [i64 p_7.Epoch, i64 p_7.Other, i64 p_7.First, .sl false (L (cSl cU8) p_7.Queue), i64 p_7.Next, .sl false (L cApi_Packet p_7.Early), i64 p_7.SentAt] false]) ⟨_, orcs_nil, ?_⟩ ?_
  · simp only [go_sem]
  refine run_seq ?_
  replace h := bind_some1 h; obtain ⟨t_11, hv_12, h⟩ := h
  refine run_textW hE [1, 23] (fr' := [(1, .ref 0 0), (23, .bool t_11)]) (σ' := [.box [i64 p_7.Epoch, i64 p_7.Other, i64 p_7.First, .sl false (L (cSl cU8) p_7.Queue), i64 p_7.Next, .sl false (L cApi_Packet p_7.Early), i64 p_7.SentAt] false]) ?_ ?_
  · replace hv_12 := bind_some1 hv_12; obtain ⟨y_8, hy_13, hv_12⟩ := hv_12
    rcases Bool.eq_false_or_eq_true ((!y_8)) with hb_14 | hb_14
    · replace hv_12 := ite_t hv_12 hb_14
      have e_hv_12 := Option.some.inj hv_12; subst e_hv_12
      exact ⟨_, [(1, .ref 0 0), (23, .bool true)], [.box [i64 p_7.Epoch, i64 p_7.Other, i64 p_7.First, .sl false (L (cSl cU8) p_7.Queue), i64 p_7.Next, .sl false (L cApi_Packet p_7.Early), i64 p_7.SentAt] false], orcs_ok (l := [(10, 35, [i64 p_7.Epoch, i64 0, i64 1073741824], .bool y_8)]) ⟨window_between_con  hy_13, trivial⟩, by simp only [go_sem, hb_14], (weak_sel [0] (by decide) rfl (by simp only [go_sem]) (by simp only [go_sem]))⟩
    · replace hv_12 := ite_f hv_12 hb_14
      replace hv_12 := bind_some1 hv_12; obtain ⟨y_9, hy_15, hv_12⟩ := hv_12
      rcases Bool.eq_false_or_eq_true ((!y_9)) with hb_16 | hb_16
      · replace hv_12 := ite_t hv_12 hb_16
        have e_hv_12 := Option.some.inj hv_12; subst e_hv_12
        exact ⟨_, [(1, .ref 0 0), (23, .bool true)], [.box [i64 p_7.Epoch, i64 p_7.Other, i64 p_7.First, .sl false (L (cSl cU8) p_7.Queue), i64 p_7.Next, .sl false (L cApi_Packet p_7.Early), i64 p_7.SentAt] false], orcs_ok (l := [(10, 35, [i64 p_7.Epoch, i64 0, i64 1073741824], .bool y_8), (15, 35, [i64 p_7.Other, i64 ((-1)), i64 1073741824], .bool y_9)]) ⟨window_between_con  hy_13, window_between_con  hy_15, trivial⟩, by simp only [go_sem, hb_14, hb_16], (weak_sel [0] (by decide) rfl (by simp only [go_sem]) (by simp only [go_sem]))⟩
      · replace hv_12 := ite_f hv_12 hb_16
        replace hv_12 := bind_some1 hv_12; obtain ⟨y_10, hy_17, hv_12⟩ := hv_12
        have e_hv_12 := Option.some.inj hv_12; subst e_hv_12
        exact ⟨_, [(1, .ref 0 0), (23, .bool ((!y_10)))], [.box [i64 p_7.Epoch, i64 p_7.Other, i64 p_7.First, .sl false (L (cSl cU8) p_7.Queue), i64 p_7.Next, .sl false (L cApi_Packet p_7.Early), i64 p_7.SentAt] false], orcs_ok (l := [(10, 35, [i64 p_7.Epoch, i64 0, i64 1073741824], .bool y_8), (15, 35, [i64 p_7.Other, i64 ((-1)), i64 1073741824], .bool y_9), (21, 35, [i64 p_7.SentAt, i64 ((-1)), i64 1073741824], .bool y_10)]) ⟨window_between_con  hy_13, window_between_con  hy_15, window_between_con  hy_17, trivial⟩, by simp only [go_sem, hb_14, hb_16], (weak_sel [0] (by decide) rfl (by simp only [go_sem]) (by simp only [go_sem]))⟩
  refine run_condL (b := t_11) rfl (by decide) (fun hb => ?_) (fun hb => ?_)
  · replace h := ite_t h hb
    refine run_textE hE [2] (fr' := [(2, .bool false)]) (σ' := [.box [i64 p_7.Epoch, i64 p_7.Other, i64 p_7.First, .sl false (L (cSl cU8) p_7.Queue), i64 p_7.Next, .sl false (L cApi_Packet p_7.Early), i64 p_7.SentAt] false]) ⟨_, orcs_nil, ?_⟩ ?_
    · simp only [go_sem]
    refine run_ret ?_
    refine thenK_r ?_
    obtain rfl := Option.some.inj h
    refine wkP_of (Weak.refl _ _) ?_
    refine ret_ok (.inr rfl) ?_
    simp only [go_sem]
  · replace h := ite_f h hb
    refine run_skip ?_
    refine thenK_n ?_
    refine run_seq ?_
    replace h := bind_some1 h; obtain ⟨t_20, hv_21, h⟩ := h
    refine run_textW hE [1, 48] (fr' := [(1, .ref 0 0), (48, .bool t_20)]) (σ' := [.box [i64 p_7.Epoch, i64 p_7.Other, i64 p_7.First, .sl false (L (cSl cU8) p_7.Queue), i64 p_7.Next, .sl false (L cApi_Packet p_7.Early), i64 p_7.SentAt] false]) ?_ ?_
    · replace hv_21 := bind_some1 hv_21; obtain ⟨y_18, hy_22, hv_21⟩ := hv_21
      rcases Bool.eq_false_or_eq_true ((!y_18)) with hb_23 | hb_23
      · replace hv_21 := ite_t hv_21 hb_23
        have e_hv_21 := Option.some.inj hv_21; subst e_hv_21
        exact ⟨_, [(1, .ref 0 0), (48, .bool true)], [.box [i64 p_7.Epoch, i64 p_7.Other, i64 p_7.First, .sl false (L (cSl cU8) p_7.Queue), i64 p_7.Next, .sl false (L cApi_Packet p_7.Early), i64 p_7.SentAt] false], orcs_ok (l := [(26, 35, [i64 p_7.First, i64 0, i64 1099511627776], .bool y_18)]) ⟨window_between_con  hy_22, trivial⟩, by simp only [go_sem, hb_23], (weak_sel [0] (by decide) rfl (by simp only [go_sem]) (by simp only [go_sem]))⟩
      · replace hv_21 := ite_f hv_21 hb_23
        replace hv_21 := bind_some1 hv_21; obtain ⟨y_19, hy_24, hv_21⟩ := hv_21
        rcases Bool.eq_false_or_eq_true ((!y_19)) with hb_25 | hb_25
        · replace hv_21 := ite_t hv_21 hb_25
          have e_hv_21 := Option.some.inj hv_21; subst e_hv_21
          exact ⟨_, [(1, .ref 0 0), (48, .bool true)], [.box [i64 p_7.Epoch, i64 p_7.Other, i64 p_7.First, .sl false (L (cSl cU8) p_7.Queue), i64 p_7.Next, .sl false (L cApi_Packet p_7.Early), i64 p_7.SentAt] false], orcs_ok (l := [(26, 35, [i64 p_7.First, i64 0, i64 1099511627776], .bool y_18), (31, 35, [i64 p_7.Next, i64 0, i64 1099511627776], .bool y_19)]) ⟨window_between_con  hy_22, window_between_con  hy_24, trivial⟩, by simp only [go_sem, hb_23, hb_25], (weak_sel [0] (by decide) rfl (by simp only [go_sem]) (by simp only [go_sem]))⟩
        · replace hv_21 := ite_f hv_21 hb_25
          rcases Bool.eq_false_or_eq_true ((decide ((p_7.Queue.length : Int) > 256))) with hb_26 | hb_26
          · replace hv_21 := ite_t hv_21 hb_26
            have e_hv_21 := Option.some.inj hv_21; subst e_hv_21
            exact ⟨_, [(1, .ref 0 0), (48, .bool true)], [.box [i64 p_7.Epoch, i64 p_7.Other, i64 p_7.First, .sl false (L (cSl cU8) p_7.Queue), i64 p_7.Next, .sl false (L cApi_Packet p_7.Early), i64 p_7.SentAt] false], orcs_ok (l := [(26, 35, [i64 p_7.First, i64 0, i64 1099511627776], .bool y_18), (31, 35, [i64 p_7.Next, i64 0, i64 1099511627776], .bool y_19)]) ⟨window_between_con  hy_22, window_between_con  hy_24, trivial⟩, by simp only [go_sem, hb_23, hb_25, hb_26], (weak_sel [0] (by decide) rfl (by simp only [go_sem]) (by simp only [go_sem]))⟩
          · replace hv_21 := ite_f hv_21 hb_26
            have e_hv_21 := Option.some.inj hv_21; subst e_hv_21
            exact ⟨_, [(1, .ref 0 0), (48, .bool ((decide ((w64 (p_7.First + (p_7.Queue.length : Int))) > 1099511627776))))], [.box [i64 p_7.Epoch, i64 p_7.Other, i64 p_7.First, .sl false (L (cSl cU8) p_7.Queue), i64 p_7.Next, .sl false (L cApi_Packet p_7.Early), i64 p_7.SentAt] false], orcs_ok (l := [(26, 35, [i64 p_7.First, i64 0, i64 1099511627776], .bool y_18), (31, 35, [i64 p_7.Next, i64 0, i64 1099511627776], .bool y_19)]) ⟨window_between_con  hy_22, window_between_con  hy_24, trivial⟩, by simp only [go_sem, hb_23, hb_25, hb_26], (weak_sel [0] (by decide) rfl (by simp only [go_sem]) (by simp only [go_sem]))⟩
    refine run_condL (b := t_20) rfl (by decide) (fun hb => ?_) (fun hb => ?_)
    · replace h := ite_t h hb
      refine run_textE hE [2] (fr' := [(2, .bool false)]) (σ' := [.box [i64 p_7.Epoch, i64 p_7.Other, i64 p_7.First, .sl false (L (cSl cU8) p_7.Queue), i64 p_7.Next, .sl false (L cApi_Packet p_7.Early), i64 p_7.SentAt] false]) ⟨_, orcs_nil, ?_⟩ ?_
      · simp only [go_sem]
      refine run_ret ?_
      refine thenK_r ?_
      obtain rfl := Option.some.inj h
      refine wkP_of (Weak.refl _ _) ?_
      refine ret_ok (.inr rfl) ?_
      simp only [go_sem]
    · replace h := ite_f h hb
      refine run_skip ?_
      refine thenK_n ?_
      replace h := bind_some1 h; obtain ⟨j_42, hA_43, hj_44⟩ := h
      refine run_join (fun (v : Unit) => (⟨asFr 106 [(1, .ref 0 0)], [.box [i64 p_7.Epoch, i64 p_7.Other, i64 p_7.First, .sl false (L (cSl cU8) p_7.Queue), i64 p_7.Next, .sl false (L cApi_Packet p_7.Early), i64 p_7.SentAt] false]⟩ : St)) (fun v => .inl v = j_42) ?_ ?_
      · have h := hA_43; clear hA_43
        refine run_textE hE [1, 50, 51, 52] (fr' := [(1, .ref 0 0), (50, .sl false (L (cSl cU8) p_7.Queue)), (51, i64 ((p_7.Queue.length : Int))), (52, i64 0)]) (σ' := [.box [i64 p_7.Epoch, i64 p_7.Other, i64 p_7.First, .sl false (L (cSl cU8) p_7.Queue), i64 p_7.Next, .sl false (L cApi_Packet p_7.Early), i64 p_7.SentAt] false]) ⟨_, orcs_nil, ?_⟩ ?_
        · simp only [go_sem]
        refine run_block ?_
        replace h := bind_some1 h; obtain ⟨x_52, hx_53, hj_54⟩ := h
        refine run_loopO hx_53 (fun (v : Int) => (⟨asFr 106 [(1, .ref 0 0), (50, .sl false (L (cSl cU8) p_7.Queue)), (51, i64 ((p_7.Queue.length : Int))), (52, i64 v)], [.box [i64 p_7.Epoch, i64 p_7.Other, i64 p_7.First, .sl false (L (cSl cU8) p_7.Queue), i64 p_7.Next, .sl false (L cApi_Packet p_7.Early), i64 p_7.SentAt] false]⟩ : St)) (weak_sel [0] (by decide) rfl (by simp only [go_sem]) (by simp only [go_sem])) ?_
        rintro t_48 o_55 h hxx_56
        replace h : window_valid_b1 p_7 t_48 = some o_55 := h
        unfold window_valid_b1 at h
        refine run_textE hE [1, 50, 51, 52, 53] (fr' := [(1, .ref 0 0), (50, .sl false (L (cSl cU8) p_7.Queue)), (51, i64 ((p_7.Queue.length : Int))), (52, i64 t_48), (53, .bool ((decide (t_48 < (p_7.Queue.length : Int)))))]) (σ' := [.box [i64 p_7.Epoch, i64 p_7.Other, i64 p_7.First, .sl false (L (cSl cU8) p_7.Queue), i64 p_7.Next, .sl false (L cApi_Packet p_7.Early), i64 p_7.SentAt] false]) ⟨_, orcs_nil, ?_⟩ ?_
        · simp only [go_sem]
        refine run_seq ?_
        refine run_condL (b := (decide (t_48 < (p_7.Queue.length : Int)))) rfl (by decide) (fun hb => ?_) (fun hb => ?_)
        · replace h := ite_t h hb
          refine run_skip ?_
          refine thenK_n ?_
          refine run_seq ?_
          refine run_block ?_
          replace h := chk_some h; obtain ⟨hc_57, h⟩ := h
          refine run_textE hE [1, 4, 50, 51, 52] (fr' := [(1, .ref 0 0), (4, .sl false (L cU8 (nth p_7.Queue t_48.toNat))), (50, .sl false (L (cSl cU8) p_7.Queue)), (51, i64 ((p_7.Queue.length : Int))), (52, i64 t_48)]) (σ' := [.box [i64 p_7.Epoch, i64 p_7.Other, i64 p_7.First, .sl false (L (cSl cU8) p_7.Queue), i64 p_7.Next, .sl false (L cApi_Packet p_7.Early), i64 p_7.SentAt] false]) ⟨_, orcs_nil, ?_⟩ ?_
          · simp only [go_sem, Int.reduceToNat, hc_57, hc_57.2, lt_le hc_57.2]
          refine run_textE hE [1, 50, 51, 52, 58] (fr' := [(1, .ref 0 0), (50, .sl false (L (cSl cU8) p_7.Queue)), (51, i64 ((p_7.Queue.length : Int))), (52, i64 t_48), (58, .bool ((decide (((nth p_7.Queue t_48.toNat).length : Int) > 8000))))]) (σ' := [.box [i64 p_7.Epoch, i64 p_7.Other, i64 p_7.First, .sl false (L (cSl cU8) p_7.Queue), i64 p_7.Next, .sl false (L cApi_Packet p_7.Early), i64 p_7.SentAt] false]) ⟨_, orcs_nil, ?_⟩ ?_
          · simp only [go_sem]
          refine run_condL (b := (decide (((nth p_7.Queue t_48.toNat).length : Int) > 8000))) rfl (by decide) (fun hb => ?_) (fun hb => ?_)
          · replace h := ite_t h hb
            refine run_textE hE [2] (fr' := [(2, .bool false)]) (σ' := [.box [i64 p_7.Epoch, i64 p_7.Other, i64 p_7.First, .sl false (L (cSl cU8) p_7.Queue), i64 p_7.Next, .sl false (L cApi_Packet p_7.Early), i64 p_7.SentAt] false]) ⟨_, orcs_nil, ?_⟩ ?_
            · simp only [go_sem]
            refine run_ret ?_
            refine blockK_r ?_
            refine thenK_r ?_
            refine lpK_r ?_
            replace h := bind_some1 h; obtain ⟨z_59, h, e_z_59⟩ := h
            obtain rfl := Option.some.inj e_z_59
            have ex_z_59 := hxx_56 _ rfl
            subst ex_z_59
            obtain rfl := Option.some.inj hj_54
            refine blockK_r ?_
            refine joinK_r ?_
            replace h := bind_some1 h; obtain ⟨z_58, h, e_z_58⟩ := h
            obtain rfl := Option.some.inj e_z_58
            obtain rfl := Option.some.inj hj_44
            obtain rfl := Option.some.inj h
            refine wkP_of (Weak.refl _ _) ?_
            refine ret_ok (.inr rfl) ?_
            simp only [go_sem]
          · replace h := ite_f h hb
            refine run_skip ?_
            refine blockK_n ?_
            refine thenK_n ?_
            refine run_textE0 hE wk_lp [1, 50, 51, 52] (fr' := [(1, .ref 0 0), (50, .sl false (L (cSl cU8) p_7.Queue)), (51, i64 ((p_7.Queue.length : Int))), (52, i64 ((w64 (t_48 + 1))))]) (σ' := [.box [i64 p_7.Epoch, i64 p_7.Other, i64 p_7.First, .sl false (L (cSl cU8) p_7.Queue), i64 p_7.Next, .sl false (L cApi_Packet p_7.Early), i64 p_7.SentAt] false]) ⟨_, orcs_nil, ?_⟩ ?_
            · simp only [go_sem]
            obtain rfl := Option.some.inj h
            exact lpK_n ((w64 (t_48 + 1))) rfl (weak_sel [0] (by decide) rfl (by simp only [go_sem]) (by simp only [go_sem]))
        · replace h := ite_f h hb
          refine run_exit ?_
          refine thenK_x ?_
          obtain rfl := Option.some.inj h
          have ex_x_52 := hxx_56 _ rfl
          subst ex_x_52
          have h := hj_54; clear hj_54
          refine lpK_x ?_
          refine blockK_x ?_
          obtain rfl := Option.some.inj h
          exact joinK_n (()) rfl ((weak_sel (l' := [(1, .ref 0 0)]) (σ' := [.box [i64 p_7.Epoch, i64 p_7.Other, i64 p_7.First, .sl false (L (cSl cU8) p_7.Queue), i64 p_7.Next, .sl false (L cApi_Packet p_7.Early), i64 p_7.SentAt] false]) [0] (by decide) rfl (by simp only [go_sem]) (by simp only [go_sem])).trans (weak_sel [0] (by decide) rfl (by simp only [go_sem]) (by simp only [go_sem])))
      rintro ⟨⟩ rfl
      have h := hj_44; clear hj_44
      refine run_textE hE [1, 5] (fr' := [(1, .ref 0 0), (5, i64 p_7.Next)]) (σ' := [.box [i64 p_7.Epoch, i64 p_7.Other, i64 p_7.First, .sl false (L (cSl cU8) p_7.Queue), i64 p_7.Next, .sl false (L cApi_Packet p_7.Early), i64 p_7.SentAt] false]) ⟨_, orcs_nil, ?_⟩ ?_
      · simp only [go_sem]
      replace h := bind_some1 h; obtain ⟨j_117, hA_118, hj_119⟩ := h
      refine run_join (fun (v : Unit) => (⟨asFr 106 [], []⟩ : St)) (fun v => .inl v = j_117) ?_ ?_
      · have h := hA_118; clear hA_118
        refine run_textE hE [1, 5, 63, 64, 65] (fr' := [(1, .ref 0 0), (5, i64 p_7.Next), (63, .sl false (L cApi_Packet p_7.Early)), (64, i64 ((p_7.Early.length : Int))), (65, i64 0)]) (σ' := [.box [i64 p_7.Epoch, i64 p_7.Other, i64 p_7.First, .sl false (L (cSl cU8) p_7.Queue), i64 p_7.Next, .sl false (L cApi_Packet p_7.Early), i64 p_7.SentAt] false]) ⟨_, orcs_nil, ?_⟩ ?_
        · simp only [go_sem]
        refine run_block ?_
        replace h := bind_some1 h; obtain ⟨x_152, hx_153, hj_154⟩ := h
        refine run_loopO hx_153 (fun (v : Int × Int) => (⟨asFr 106 [(1, .ref 0 0), (5, i64 v.1), (63, .sl false (L cApi_Packet p_7.Early)), (64, i64 ((p_7.Early.length : Int))), (65, i64 v.2)], [.box [i64 p_7.Epoch, i64 p_7.Other, i64 p_7.First, .sl false (L (cSl cU8) p_7.Queue), i64 p_7.Next, .sl false (L cApi_Packet p_7.Early), i64 p_7.SentAt] false]⟩ : St)) (weak_sel [0] (by decide) rfl (by simp only [go_sem]) (by simp only [go_sem])) ?_
        rintro ⟨last_130, t_131⟩ o_155 h hxx_156
        replace h : window_valid_b2 p_7 last_130 t_131 = some o_155 := h
        unfold window_valid_b2 at h
        refine run_textE hE [1, 5, 63, 64, 65, 66] (fr' := [(1, .ref 0 0), (5, i64 last_130), (63, .sl false (L cApi_Packet p_7.Early)), (64, i64 ((p_7.Early.length : Int))), (65, i64 t_131), (66, .bool ((decide (t_131 < (p_7.Early.length : Int)))))]) (σ' := [.box [i64 p_7.Epoch, i64 p_7.Other, i64 p_7.First, .sl false (L (cSl cU8) p_7.Queue), i64 p_7.Next, .sl false (L cApi_Packet p_7.Early), i64 p_7.SentAt] false]) ⟨_, orcs_nil, ?_⟩ ?_
        · simp only [go_sem]
        refine run_seq ?_
        refine run_condL (b := (decide (t_131 < (p_7.Early.length : Int)))) rfl (by decide) (fun hb => ?_) (fun hb => ?_)
        · replace h := ite_t h hb
          refine run_skip ?_
          refine thenK_n ?_
          refine run_seq ?_
          refine run_block ?_
          replace h := chk_some h; obtain ⟨hc_157, h⟩ := h
          replace h := lt1_some h; obtain ⟨f_158, hz_163, h⟩ := h
          replace h := lt1_some h; obtain ⟨f_159, hz_164, h⟩ := h
          replace h := lt1_some h; obtain ⟨f_160, hz_165, h⟩ := h
          replace h := lt1_some h; obtain ⟨f_161, hz_166, h⟩ := h
          replace h := lt1_some h; obtain ⟨f_162, hz_167, h⟩ := h
          refine run_textE hE [1, 5, 7, 63, 64, 65] (fr' := [(1, .ref 0 0), (5, i64 last_130), (7, .ref 1 0), (63, .sl false (L cApi_Packet p_7.Early)), (64, i64 ((p_7.Early.length : Int))), (65, i64 t_131)]) (σ' := [.box [i64 p_7.Epoch, i64 p_7.Other, i64 p_7.First, .sl false (L (cSl cU8) p_7.Queue), i64 p_7.Next, .sl false (L cApi_Packet p_7.Early), i64 p_7.SentAt] false, .box [i64 f_158, i64 f_159, i64 f_160, i64 f_161, .sl false (L cU8 f_162)] false]) ⟨_, orcs_nil, ?_⟩ ?_
          · subst hz_167; subst hz_166; subst hz_165; subst hz_164; subst hz_163; simp only [go_sem, Int.reduceToNat, Nat.reduceLeDiff, hc_157, hc_157.2, lt_le hc_157.2]
          refine run_seq ?_
          replace h := bind_some1 h; obtain ⟨t_168, hv_169, h⟩ := h
          refine run_textW hE [1, 7, 63, 64, 65, 102] (fr' := [(1, .ref 0 0), (7, .ref 1 0), (63, .sl false (L cApi_Packet p_7.Early)), (64, i64 ((p_7.Early.length : Int))), (65, i64 t_131), (102, .bool t_168)]) (σ' := [.box [i64 p_7.Epoch, i64 p_7.Other, i64 p_7.First, .sl false (L (cSl cU8) p_7.Queue), i64 p_7.Next, .sl false (L cApi_Packet p_7.Early), i64 p_7.SentAt] false, .box [i64 f_158, i64 f_159, i64 f_160, i64 f_161, .sl false (L cU8 f_162)] false]) ?_ ?_
          · rcases Bool.eq_false_or_eq_true ((decide (f_160 ≤ last_130))) with hb_170 | hb_170
            · replace hv_169 := ite_t hv_169 hb_170
              have e_hv_169 := Option.some.inj hv_169; subst e_hv_169
              exact ⟨_, [(1, .ref 0 0), (7, .ref 1 0), (63, .sl false (L cApi_Packet p_7.Early)), (64, i64 ((p_7.Early.length : Int))), (65, i64 t_131), (102, .bool true)], [.box [i64 p_7.Epoch, i64 p_7.Other, i64 p_7.First, .sl false (L (cSl cU8) p_7.Queue), i64 p_7.Next, .sl false (L cApi_Packet p_7.Early), i64 p_7.SentAt] false, .box [i64 f_158, i64 f_159, i64 f_160, i64 f_161, .sl false (L cU8 f_162)] false], orcs_nil, by simp only [go_sem, hb_170], (weak_sel [0, 1] (by decide) rfl (by simp only [go_sem]) (by simp only [go_sem]))⟩
            · replace hv_169 := ite_f hv_169 hb_170
              rcases Bool.eq_false_or_eq_true ((decide (f_160 ≥ (mn64 ((w64 (p_7.Next + 64))) 1099511627776)))) with hb_171 | hb_171
              · replace hv_169 := ite_t hv_169 hb_171
                have e_hv_169 := Option.some.inj hv_169; subst e_hv_169
                exact ⟨_, [(1, .ref 0 0), (7, .ref 1 0), (63, .sl false (L cApi_Packet p_7.Early)), (64, i64 ((p_7.Early.length : Int))), (65, i64 t_131), (102, .bool true)], [.box [i64 p_7.Epoch, i64 p_7.Other, i64 p_7.First, .sl false (L (cSl cU8) p_7.Queue), i64 p_7.Next, .sl false (L cApi_Packet p_7.Early), i64 p_7.SentAt] false, .box [i64 f_158, i64 f_159, i64 f_160, i64 f_161, .sl false (L cU8 f_162)] false], orcs_nil, by simp only [go_sem, hb_170, hb_171], (weak_sel [0, 1] (by decide) rfl (by simp only [go_sem]) (by simp only [go_sem]))⟩
              · replace hv_169 := ite_f hv_169 hb_171
                rcases Bool.eq_false_or_eq_true ((decide ((f_162.length : Int) > 8000))) with hb_172 | hb_172
                · replace hv_169 := ite_t hv_169 hb_172
                  have e_hv_169 := Option.some.inj hv_169; subst e_hv_169
                  exact ⟨_, [(1, .ref 0 0), (7, .ref 1 0), (63, .sl false (L cApi_Packet p_7.Early)), (64, i64 ((p_7.Early.length : Int))), (65, i64 t_131), (102, .bool true)], [.box [i64 p_7.Epoch, i64 p_7.Other, i64 p_7.First, .sl false (L (cSl cU8) p_7.Queue), i64 p_7.Next, .sl false (L cApi_Packet p_7.Early), i64 p_7.SentAt] false, .box [i64 f_158, i64 f_159, i64 f_160, i64 f_161, .sl false (L cU8 f_162)] false], orcs_nil, by simp only [go_sem, hb_170, hb_171, hb_172], (weak_sel [0, 1] (by decide) rfl (by simp only [go_sem]) (by simp only [go_sem]))⟩
                · replace hv_169 := ite_f hv_169 hb_172
                  rcases Bool.eq_false_or_eq_true ((f_158 != 0)) with hb_173 | hb_173
                  · replace hv_169 := ite_t hv_169 hb_173
                    have e_hv_169 := Option.some.inj hv_169; subst e_hv_169
                    exact ⟨_, [(1, .ref 0 0), (7, .ref 1 0), (63, .sl false (L cApi_Packet p_7.Early)), (64, i64 ((p_7.Early.length : Int))), (65, i64 t_131), (102, .bool true)], [.box [i64 p_7.Epoch, i64 p_7.Other, i64 p_7.First, .sl false (L (cSl cU8) p_7.Queue), i64 p_7.Next, .sl false (L cApi_Packet p_7.Early), i64 p_7.SentAt] false, .box [i64 f_158, i64 f_159, i64 f_160, i64 f_161, .sl false (L cU8 f_162)] false], orcs_nil, by simp only [go_sem, hb_170, hb_171, hb_172, hb_173], (weak_sel [0, 1] (by decide) rfl (by simp only [go_sem]) (by simp only [go_sem]))⟩
                  · replace hv_169 := ite_f hv_169 hb_173
                    rcases Bool.eq_false_or_eq_true ((f_159 != 0)) with hb_174 | hb_174
                    · replace hv_169 := ite_t hv_169 hb_174
                      have e_hv_169 := Option.some.inj hv_169; subst e_hv_169
                      exact ⟨_, [(1, .ref 0 0), (7, .ref 1 0), (63, .sl false (L cApi_Packet p_7.Early)), (64, i64 ((p_7.Early.length : Int))), (65, i64 t_131), (102, .bool true)], [.box [i64 p_7.Epoch, i64 p_7.Other, i64 p_7.First, .sl false (L (cSl cU8) p_7.Queue), i64 p_7.Next, .sl false (L cApi_Packet p_7.Early), i64 p_7.SentAt] false, .box [i64 f_158, i64 f_159, i64 f_160, i64 f_161, .sl false (L cU8 f_162)] false], orcs_nil, by simp only [go_sem, hb_170, hb_171, hb_172, hb_173, hb_174], (weak_sel [0, 1] (by decide) rfl (by simp only [go_sem]) (by simp only [go_sem]))⟩
                    · replace hv_169 := ite_f hv_169 hb_174
                      have e_hv_169 := Option.some.inj hv_169; subst e_hv_169
                      exact ⟨_, [(1, .ref 0 0), (7, .ref 1 0), (63, .sl false (L cApi_Packet p_7.Early)), (64, i64 ((p_7.Early.length : Int))), (65, i64 t_131), (102, .bool ((f_161 != 0)))], [.box [i64 p_7.Epoch, i64 p_7.Other, i64 p_7.First, .sl false (L (cSl cU8) p_7.Queue), i64 p_7.Next, .sl false (L cApi_Packet p_7.Early), i64 p_7.SentAt] false, .box [i64 f_158, i64 f_159, i64 f_160, i64 f_161, .sl false (L cU8 f_162)] false], orcs_nil, by simp only [go_sem, hb_170, hb_171, hb_172, hb_173, hb_174], (weak_sel [0, 1] (by decide) rfl (by simp only [go_sem]) (by simp only [go_sem]))⟩
          refine run_condL (b := t_168) rfl (by decide) (fun hb => ?_) (fun hb => ?_)
          · replace h := ite_t h hb
            refine run_textE hE [2] (fr' := [(2, .bool false)]) (σ' := [.box [i64 p_7.Epoch, i64 p_7.Other, i64 p_7.First, .sl false (L (cSl cU8) p_7.Queue), i64 p_7.Next, .sl false (L cApi_Packet p_7.Early), i64 p_7.SentAt] false, .box [i64 f_158, i64 f_159, i64 f_160, i64 f_161, .sl false (L cU8 f_162)] false]) ⟨_, orcs_nil, ?_⟩ ?_
            · simp only [go_sem]
            refine run_ret ?_
            refine thenK_r ?_
            refine blockK_r ?_
            refine thenK_r ?_
            refine lpK_r ?_
            replace h := bind_some1 h; obtain ⟨z_176, h, e_z_176⟩ := h
            obtain rfl := Option.some.inj e_z_176
            have ex_z_176 := hxx_156 _ rfl
            subst ex_z_176
            obtain rfl := Option.some.inj hj_154
            refine blockK_r ?_
            refine joinK_r ?_
            replace h := bind_some1 h; obtain ⟨z_175, h, e_z_175⟩ := h
            obtain rfl := Option.some.inj e_z_175
            obtain rfl := Option.some.inj hj_119
            obtain rfl := Option.some.inj h
            refine wkP_of (Weak.refl _ _) ?_
            refine ret_ok (.inr rfl) ?_
            simp only [go_sem]
          · replace h := ite_f h hb
            refine run_skip ?_
            refine thenK_n ?_
            refine run_textE0 hE (wk_block wk_then) [1, 5, 63, 64, 65] (fr' := [(1, .ref 0 0), (5, i64 f_160), (63, .sl false (L cApi_Packet p_7.Early)), (64, i64 ((p_7.Early.length : Int))), (65, i64 t_131)]) (σ' := [.box [i64 p_7.Epoch, i64 p_7.Other, i64 p_7.First, .sl false (L (cSl cU8) p_7.Queue), i64 p_7.Next, .sl false (L cApi_Packet p_7.Early), i64 p_7.SentAt] false, .box [i64 f_158, i64 f_159, i64 f_160, i64 f_161, .sl false (L cU8 f_162)] false]) ⟨_, orcs_nil, ?_⟩ ?_
            · simp only [go_sem]
            refine blockK_n ?_
            refine thenK_n ?_
            refine run_textE0 hE wk_lp [1, 5, 63, 64, 65] (fr' := [(1, .ref 0 0), (5, i64 f_160), (63, .sl false (L cApi_Packet p_7.Early)), (64, i64 ((p_7.Early.length : Int))), (65, i64 ((w64 (t_131 + 1))))]) (σ' := [.box [i64 p_7.Epoch, i64 p_7.Other, i64 p_7.First, .sl false (L (cSl cU8) p_7.Queue), i64 p_7.Next, .sl false (L cApi_Packet p_7.Early), i64 p_7.SentAt] false, .box [i64 f_158, i64 f_159, i64 f_160, i64 f_161, .sl false (L cU8 f_162)] false]) ⟨_, orcs_nil, ?_⟩ ?_
            · simp only [go_sem]
            obtain rfl := Option.some.inj h
            exact lpK_n ((f_160, (w64 (t_131 + 1)))) rfl (weak_sel [0] (by decide) rfl (by simp only [go_sem]) (by simp only [go_sem]))
        · replace h := ite_f h hb
          refine run_exit ?_
          refine thenK_x ?_
          obtain rfl := Option.some.inj h
          have ex_x_152 := hxx_156 _ rfl
          subst ex_x_152
          have h := hj_154; clear hj_154
          refine lpK_x ?_
          refine blockK_x ?_
          obtain rfl := Option.some.inj h
          exact joinK_n (()) rfl ((weak_sel (l' := []) (σ' := []) [] (by decide) rfl (by simp only [go_sem]) (by simp only [go_sem])).trans (weak_sel [] (by decide) rfl (by simp only [go_sem]) (by simp only [go_sem])))
      rintro ⟨⟩ rfl
      have h := hj_119; clear hj_119
      refine run_textE hE [2] (fr' := [(2, .bool true)]) (σ' := []) ⟨_, orcs_nil, ?_⟩ ?_
      · simp only [go_sem]
      refine run_ret ?_
      obtain rfl := Option.some.inj h
      refine wkP_of (Weak.refl _ _) ?_
      refine ret_ok (.inr rfl) ?_
      simp only [go_sem]

end Go.Proofs.Ytomjphpnpcgacaa
/-
  The functions compute just that.
-/
namespace Go.Proofs.Ytomjphpnpcgacaa
open Go.Rv
set_option linter.unusedVariables false
set_option linter.unusedSimpArgs false
set_option maxRecDepth 20000
set_option maxHeartbeats 4000000

theorem window_New_con {epoch_177 : Int} {r : Api_Peer × Int} (h : window_New epoch_177 = some r) : Con B 12 [i64 epoch_177] [] (fun r' σ' => r' = .tup [.agg [i64 r.1.Epoch, i64 r.1.Other, i64 r.1.First, .sl false (L (cSl cU8) r.1.Queue), i64 r.1.Next, .sl false (L cApi_Packet r.1.Early), i64 r.1.SentAt], i64 r.2] ∧ σ' = []) := by
  refine con_walk (N := 10) (rs := [.cell 2 25, .tmp 3]) ok Try.func12 rfl (by decide +kernel) rfl rfl (Nat.le_of_ble_eq_true rfl) (fun F => ?_)
  have hE := ok.env F
  unfold window_New at h
  show Run (B.env F) 0 _ ⟨asFr 10 [(0, i64 epoch_177)], []⟩ _
  refine run_wkP ?_
  refine run_textE hE [0, 2] (fr' := [(0, i64 epoch_177), (2, .ref 0 0)]) (σ' := [.box [i64 0, i64 0, i64 0, .sl true (L (cSl cU8) ([])), i64 0, .sl true (L cApi_Packet ([])), i64 0] false]) ⟨_, orcs_nil, ?_⟩ ?_
  · simp only [go_sem]
  refine run_seq ?_
  replace h := bind_some1 h; obtain ⟨y_178, hy_179, h⟩ := h
  refine run_textE hE [0, 2, 6] (fr' := [(0, i64 epoch_177), (2, .ref 0 0), (6, .bool ((!y_178)))]) (σ' := [.box [i64 0, i64 0, i64 0, .sl true (L (cSl cU8) ([])), i64 0, .sl true (L cApi_Packet ([])), i64 0] false]) ⟨_, orcs_ok (l := [(5, 35, [i64 epoch_177, i64 0, i64 1073741824], .bool y_178)]) ⟨window_between_con  hy_179, trivial⟩, ?_⟩ ?_
  · simp only [go_sem]
  refine run_condL (b := (!y_178)) rfl (by decide) (fun hb => ?_) (fun hb => ?_)
  · replace h := ite_t h hb
    refine run_textE hE [2, 3] (fr' := [(2, .ref 0 0), (3, i64 1)]) (σ' := [.box [i64 0, i64 0, i64 0, .sl true (L (cSl cU8) ([])), i64 0, .sl true (L cApi_Packet ([])), i64 0] false]) ⟨_, orcs_nil, ?_⟩ ?_
    · simp only [go_sem, Nat.reduceGT, Nat.reduceLeDiff]
    refine run_ret ?_
    refine thenK_r ?_
    obtain rfl := Option.some.inj h
    refine wkP_of (Weak.refl _ _) ?_
    refine ret_ok (.inr rfl) ?_
    simp only [go_sem]
  · replace h := ite_f h hb
    refine run_skip ?_
    refine thenK_n ?_
    refine run_textE hE [2, 3] (fr' := [(2, .ref 0 0), (3, i64 0)]) (σ' := [.box [i64 epoch_177, i64 ((-1)), i64 0, .sl true (L (cSl cU8) ([])), i64 0, .sl true (L cApi_Packet ([])), i64 ((-1))] false]) ⟨_, orcs_nil, ?_⟩ ?_
    · simp only [go_sem, Nat.reduceGT, Nat.reduceLeDiff]
    refine run_ret ?_
    obtain rfl := Option.some.inj h
    refine wkP_of (Weak.refl _ _) ?_
    refine ret_ok (.inr rfl) ?_
    simp only [go_sem]

theorem window_own_con {b_180 : List UInt8} {r : List UInt8} (h : window_own b_180 = some r) : Con B 39 [.sl false (L cU8 b_180)] [] (fun r' σ' => r' = .sl false (L cU8 r) ∧ σ' = []) := by
  refine con_walk (N := 11) (rs := [.tmp 2]) ok Try.func39 rfl (by decide +kernel) rfl rfl (Nat.le_of_ble_eq_true rfl) (fun F => ?_)
  have hE := ok.env F
  unfold window_own at h
  show Run (B.env F) 0 _ ⟨asFr 11 [(0, .sl false (L cU8 b_180))], []⟩ _
  refine run_wkP ?_
  refine run_textE hE [0] (fr' := [(0, .sl false (L cU8 b_180))]) (σ' := []) ⟨_, orcs_nil, ?_⟩ ?_
  · simp only [go_sem]
  replace h := chk_some h; obtain ⟨hc_181, h⟩ := h
  replace h := lt1_some h; obtain ⟨l_182, hz_183, h⟩ := h
  refine run_textE hE [0, 3] (fr' := [(0, .sl false (L cU8 b_180)), (3, .bs true 0 (l_182.length) 0 (l_182.length))]) (σ' := [.buf 1 (L cU8 l_182) false]) ⟨_, orcs_nil, ?_⟩ ?_
  · subst hz_183; simp only [go_sem, Nat.reduceBEq, Nat.reduceMul, Nat.reduceSub, Nat.reduceGT, Nat.reducePow, Nat.reduceLeDiff, Int.reduceToNat, hc_181]
  replace h := lt1_some h; obtain ⟨l_184, hz_185, h⟩ := h
  refine run_textE hE [3] (fr' := [(3, .bs true 0 (l_184.length) 0 (l_184.length))]) (σ' := [.buf 1 (L cU8 l_184) false]) ⟨_, orcs_nil, ?_⟩ ?_
  · subst hz_185; simp only [go_sem]
  refine run_textE hE [2] (fr' := [(2, .bs true 0 (l_184.length) 0 (l_184.length))]) (σ' := [.buf 1 (L cU8 l_184) false]) ⟨_, orcs_nil, ?_⟩ ?_
  · simp only [go_sem]
  refine run_ret ?_
  obtain rfl := Option.some.inj h
  refine wkP_of (Weak.refl _ _) ?_
  refine ret_ok (.inr rfl) ?_
  simp only [go_sem]

theorem slices_Clone_38_con {s_186 : List (List UInt8)} {r : List (List UInt8)} (h : slices_Clone_38 s_186 = some r) : Con B 38 [.sl false (L (cSl cU8) s_186)] [] (fun r' σ' => r' = .bs false 0 (r.length) 0 (r.length) ∧ σ' = [.buf 1 (L (cSl cU8) r) false]) := by
  refine con_walk_own (N := 8) (rs := [.tmp 2]) 0 rfl ok Try.func38 rfl (by decide +kernel) rfl rfl (Nat.le_of_ble_eq_true rfl) (fun F => ?_)
  have hE := ok.env F
  unfold slices_Clone_38 at h
  show Run (B.env F) 0 _ ⟨asFr 8 [(0, .sl false (L (cSl cU8) s_186))], []⟩ _
  refine run_wkP ?_
  refine run_textE hE [0] (fr' := [(0, .sl false (L (cSl cU8) s_186))]) (σ' := []) ⟨_, orcs_nil, ?_⟩ ?_
  · simp only [go_sem]
  refine run_seq ?_
  refine run_nilcmp hE 0 3 4 22 26 rfl rfl rfl rfl rfl rfl rfl (by decide) Try.underlying22 (fun b_ hb_ => ?_)
  cases b_
  · refine run_condL (b := false) rfl (by decide) (fun hb => ?_) (fun hb => ?_)
    · cases hb
    · refine run_skip ?_
      refine thenK_n ?_
      replace h := chk_some h; obtain ⟨hc_191, h⟩ := h
      have hcn_192 := hc_191; simp only [List.cons_append, List.nil_append, List.length_append, List.length_cons, List.length_nil, Nat.zero_add, Nat.reduceAdd] at hcn_192
      replace h := lt1_some h; obtain ⟨l_193, hz_194, h⟩ := h
      refine run_textE hE [2] (fr' := [(2, .bs false 0 (l_193.length) 0 (l_193.length))]) (σ' := [.buf 1 (L (cSl cU8) l_193) false]) ⟨_, orcs_nil, ?_⟩ ?_
      · subst hz_194; simp only [go_sem, Nat.reduceBEq, Nat.reduceMul, Nat.reduceSub, Nat.reduceGT, Nat.reducePow, Nat.reduceLeDiff, Int.reduceToNat, hc_191, hcn_192]
      refine run_ret ?_
      obtain rfl := Option.some.inj h
      refine wkP_of (Weak.refl _ _) ?_
      refine ret_own (.inr rfl) [0] (by decide) rfl ?_ ?_
      · simp only [go_sem]
      · simp only [go_sem]
  · obtain rfl : s_186 = [] := List.map_eq_nil_iff.1 (hb_ rfl)
    replace h : some ([]) = some r := by first | exact h | (split at h <;> first | exact h | cases h)
    refine run_condL (b := true) rfl (by decide) (fun hb => ?_) (fun hb => ?_)
    · refine run_textE hE [2] (fr' := [(2, .sl true (L (cSl cU8) ([])))]) (σ' := []) ⟨_, orcs_nil, ?_⟩ ?_
      · simp only [go_sem]
      refine run_weak (weak_nil 2 1 rfl) ?_
      refine run_ret ?_
      refine thenK_r ?_
      obtain rfl := Option.some.inj h
      refine wkP_of (Weak.refl _ _) ?_
      refine ret_own (.inr rfl) [0] (by decide) rfl ?_ ?_
      · simp only [go_sem]
      · simp only [go_sem]
    · cases hb

theorem slices_Clone_59_con {s_195 : List Api_Packet} {r : List Api_Packet} (h : slices_Clone_59 s_195 = some r) : Con B 59 [.sl false (L cApi_Packet s_195)] [] (fun r' σ' => r' = .bs false 0 (r.length) 0 (r.length) ∧ σ' = [.buf 5 (L cApi_Packet r) false]) := by
  refine con_walk_own (N := 8) (rs := [.tmp 2]) 0 rfl ok Try.func59 rfl (by decide +kernel) rfl rfl (Nat.le_of_ble_eq_true rfl) (fun F => ?_)
  have hE := ok.env F
  unfold slices_Clone_59 at h
  show Run (B.env F) 0 _ ⟨asFr 8 [(0, .sl false (L cApi_Packet s_195))], []⟩ _
  refine run_wkP ?_
  refine run_textE hE [0] (fr' := [(0, .sl false (L cApi_Packet s_195))]) (σ' := []) ⟨_, orcs_nil, ?_⟩ ?_
  · simp only [go_sem]
  refine run_seq ?_
  refine run_nilcmp hE 0 3 4 23 39 rfl rfl rfl rfl rfl rfl rfl (by decide) Try.underlying23 (fun b_ hb_ => ?_)
  cases b_
  · refine run_condL (b := false) rfl (by decide) (fun hb => ?_) (fun hb => ?_)
    · cases hb
    · refine run_skip ?_
      refine thenK_n ?_
      replace h := chk_some h; obtain ⟨hc_200, h⟩ := h
      have hcn_201 := hc_200; simp only [List.cons_append, List.nil_append, List.length_append, List.length_cons, List.length_nil, Nat.zero_add, Nat.reduceAdd] at hcn_201
      replace h := lt1_some h; obtain ⟨l_202, hz_203, h⟩ := h
      refine run_textE hE [2] (fr' := [(2, .bs false 0 (l_202.length) 0 (l_202.length))]) (σ' := [.buf 5 (L cApi_Packet l_202) false]) ⟨_, orcs_nil, ?_⟩ ?_
      · subst hz_203; simp only [go_sem, Nat.reduceBEq, Nat.reduceMul, Nat.reduceSub, Nat.reduceGT, Nat.reducePow, Nat.reduceLeDiff, Int.reduceToNat, hc_200, hcn_201]
      refine run_ret ?_
      obtain rfl := Option.some.inj h
      refine wkP_of (Weak.refl _ _) ?_
      refine ret_own (.inr rfl) [0] (by decide) rfl ?_ ?_
      · simp only [go_sem]
      · simp only [go_sem]
  · obtain rfl : s_195 = [] := List.map_eq_nil_iff.1 (hb_ rfl)
    replace h : some ([]) = some r := by first | exact h | (split at h <;> first | exact h | cases h)
    refine run_condL (b := true) rfl (by decide) (fun hb => ?_) (fun hb => ?_)
    · refine run_textE hE [2] (fr' := [(2, .sl true (L cApi_Packet ([])))]) (σ' := []) ⟨_, orcs_nil, ?_⟩ ?_
      · simp only [go_sem]
      refine run_weak (weak_nil 2 5 rfl) ?_
      refine run_ret ?_
      refine thenK_r ?_
      obtain rfl := Option.some.inj h
      refine wkP_of (Weak.refl _ _) ?_
      refine ret_own (.inr rfl) [0] (by decide) rfl ?_ ?_
      · simp only [go_sem]
      · simp only [go_sem]
    · cases hb

theorem window_Offer_con {p_204 : Api_Peer} {data_205 : List UInt8} {r : Api_Peer × Int} (h : window_Offer p_204 data_205 = some r) : Con B 14 [.agg [i64 p_204.Epoch, i64 p_204.Other, i64 p_204.First, .sl false (L (cSl cU8) p_204.Queue), i64 p_204.Next, .sl false (L cApi_Packet p_204.Early), i64 p_204.SentAt], .sl false (L cU8 data_205)] [] (fun r' σ' => r' = .tup [.agg [i64 r.1.Epoch, i64 r.1.Other, i64 r.1.First, .sl false (L (cSl cU8) r.1.Queue), i64 r.1.Next, .sl false (L cApi_Packet r.1.Early), i64 r.1.SentAt], i64 r.2] ∧ σ' = []) := by
  refine con_walk (N := 40) (rs := [.cell 4 25, .tmp 5]) ok Try.func14 rfl (by decide +kernel) rfl rfl (Nat.le_of_ble_eq_true rfl) (fun F => ?_)
  have hE := ok.env F
  unfold window_Offer at h
  show Run (B.env F) 0 _ ⟨asFr 40 [(0, .agg [i64 p_204.Epoch, i64 p_204.Other, i64 p_204.First, .sl false (L (cSl cU8) p_204.Queue), i64 p_204.Next, .sl false (L cApi_Packet p_204.Early), i64 p_204.SentAt]), (1, .sl false (L cU8 data_205))], []⟩ _
  refine run_wkP ?_
  refine run_textE hE [1, 2, 4] (fr' := [(1, .sl false (L cU8 data_205)), (2, .ref 0 0), (4, .ref 1 0)]) (σ' := [.box [i64 p_204.Epoch, i64 p_204.Other, i64 p_204.First, .sl false (L (cSl cU8) p_204.Queue), i64 p_204.Next, .sl false (L cApi_Packet p_204.Early), i64 p_204.SentAt] false, .box [i64 0, i64 0, i64 0, .sl true (L (cSl cU8) ([])), i64 0, .sl true (L cApi_Packet ([])), i64 0] false]) ⟨_, orcs_nil, ?_⟩ ?_
  · simp only [go_sem]
  refine run_seq ?_
  refine run_block ?_
  replace h := bind_some1 h; obtain ⟨y_206, hy_207, h⟩ := h
  refine run_textE hE [1, 2, 4, 6] (fr' := [(1, .sl false (L cU8 data_205)), (2, .ref 0 0), (4, .ref 1 0), (6, .bool ((!y_206)))]) (σ' := [.box [i64 p_204.Epoch, i64 p_204.Other, i64 p_204.First, .sl false (L (cSl cU8) p_204.Queue), i64 p_204.Next, .sl false (L cApi_Packet p_204.Early), i64 p_204.SentAt] false, .box [i64 0, i64 0, i64 0, .sl true (L (cSl cU8) ([])), i64 0, .sl true (L cApi_Packet ([])), i64 0] false]) ⟨_, orcs_ok (l := [(8, 37, [.agg [i64 p_204.Epoch, i64 p_204.Other, i64 p_204.First, .sl false (L (cSl cU8) p_204.Queue), i64 p_204.Next, .sl false (L cApi_Packet p_204.Early), i64 p_204.SentAt]], .bool y_206)]) ⟨window_valid_con  hy_207, trivial⟩, ?_⟩ ?_
  · simp only [go_sem]
  refine run_condL (b := (!y_206)) rfl (by decide) (fun hb => ?_) (fun hb => ?_)
  · replace h := ite_t h hb
    refine run_textE hE [4, 5] (fr' := [(4, .ref 1 0), (5, i64 1)]) (σ' := [.box [i64 p_204.Epoch, i64 p_204.Other, i64 p_204.First, .sl false (L (cSl cU8) p_204.Queue), i64 p_204.Next, .sl false (L cApi_Packet p_204.Early), i64 p_204.SentAt] false, .box [i64 0, i64 0, i64 0, .sl true (L (cSl cU8) ([])), i64 0, .sl true (L cApi_Packet ([])), i64 0] false]) ⟨_, orcs_nil, ?_⟩ ?_
    · simp only [go_sem, Nat.reduceGT, Nat.reduceLeDiff]
    refine run_ret ?_
    refine blockK_r ?_
    refine thenK_r ?_
    obtain rfl := Option.some.inj h
    refine wkP_of (Weak.refl _ _) ?_
    refine ret_ok (.inr rfl) ?_
    simp only [go_sem]
  · replace h := ite_f h hb
    refine run_textE hE [1, 2, 4, 11] (fr' := [(1, .sl false (L cU8 data_205)), (2, .ref 0 0), (4, .ref 1 0), (11, .bool ((decide ((data_205.length : Int) > 8000))))]) (σ' := [.box [i64 p_204.Epoch, i64 p_204.Other, i64 p_204.First, .sl false (L (cSl cU8) p_204.Queue), i64 p_204.Next, .sl false (L cApi_Packet p_204.Early), i64 p_204.SentAt] false, .box [i64 0, i64 0, i64 0, .sl true (L (cSl cU8) ([])), i64 0, .sl true (L cApi_Packet ([])), i64 0] false]) ⟨_, orcs_nil, ?_⟩ ?_
    · simp only [go_sem]
    refine run_condL (b := (decide ((data_205.length : Int) > 8000))) rfl (by decide) (fun hb => ?_) (fun hb => ?_)
    · replace h := ite_t h hb
      refine run_textE hE [4, 5] (fr' := [(4, .ref 1 0), (5, i64 2)]) (σ' := [.box [i64 p_204.Epoch, i64 p_204.Other, i64 p_204.First, .sl false (L (cSl cU8) p_204.Queue), i64 p_204.Next, .sl false (L cApi_Packet p_204.Early), i64 p_204.SentAt] false, .box [i64 0, i64 0, i64 0, .sl true (L (cSl cU8) ([])), i64 0, .sl true (L cApi_Packet ([])), i64 0] false]) ⟨_, orcs_nil, ?_⟩ ?_
      · simp only [go_sem, Nat.reduceGT, Nat.reduceLeDiff]
      refine run_ret ?_
      refine blockK_r ?_
      refine thenK_r ?_
      obtain rfl := Option.some.inj h
      refine wkP_of (Weak.refl _ _) ?_
      refine ret_ok (.inr rfl) ?_
      simp only [go_sem]
    · replace h := ite_f h hb
      replace h := bind_some1 h; obtain ⟨t_208, hv_209, h⟩ := h
      refine run_textW hE [1, 2, 4, 16] (fr' := [(1, .sl false (L cU8 data_205)), (2, .ref 0 0), (4, .ref 1 0), (16, .bool t_208)]) (σ' := [.box [i64 p_204.Epoch, i64 p_204.Other, i64 p_204.First, .sl false (L (cSl cU8) p_204.Queue), i64 p_204.Next, .sl false (L cApi_Packet p_204.Early), i64 p_204.SentAt] false, .box [i64 0, i64 0, i64 0, .sl true (L (cSl cU8) ([])), i64 0, .sl true (L cApi_Packet ([])), i64 0] false]) ?_ ?_
      · rcases Bool.eq_false_or_eq_true (((p_204.Queue.length : Int) == 256)) with hb_210 | hb_210
        · replace hv_209 := ite_t hv_209 hb_210
          have e_hv_209 := Option.some.inj hv_209; subst e_hv_209
          exact ⟨_, [(1, .sl false (L cU8 data_205)), (2, .ref 0 0), (4, .ref 1 0), (16, .bool true)], [.box [i64 p_204.Epoch, i64 p_204.Other, i64 p_204.First, .sl false (L (cSl cU8) p_204.Queue), i64 p_204.Next, .sl false (L cApi_Packet p_204.Early), i64 p_204.SentAt] false, .box [i64 0, i64 0, i64 0, .sl true (L (cSl cU8) ([])), i64 0, .sl true (L cApi_Packet ([])), i64 0] false], orcs_nil, by simp only [go_sem, hb_210], (weak_sel [0, 1] (by decide) rfl (by simp only [go_sem]) (by simp only [go_sem]))⟩
        · replace hv_209 := ite_f hv_209 hb_210
          have e_hv_209 := Option.some.inj hv_209; subst e_hv_209
          exact ⟨_, [(1, .sl false (L cU8 data_205)), (2, .ref 0 0), (4, .ref 1 0), (16, .bool (((w64 (p_204.First + (p_204.Queue.length : Int))) == 1099511627776)))], [.box [i64 p_204.Epoch, i64 p_204.Other, i64 p_204.First, .sl false (L (cSl cU8) p_204.Queue), i64 p_204.Next, .sl false (L cApi_Packet p_204.Early), i64 p_204.SentAt] false, .box [i64 0, i64 0, i64 0, .sl true (L (cSl cU8) ([])), i64 0, .sl true (L cApi_Packet ([])), i64 0] false], orcs_nil, by simp only [go_sem, hb_210], (weak_sel [0, 1] (by decide) rfl (by simp only [go_sem]) (by simp only [go_sem]))⟩
      refine run_condL (b := t_208) rfl (by decide) (fun hb => ?_) (fun hb => ?_)
      · replace h := ite_t h hb
        refine run_textE hE [4, 5] (fr' := [(4, .ref 1 0), (5, i64 120)]) (σ' := [.box [i64 p_204.Epoch, i64 p_204.Other, i64 p_204.First, .sl false (L (cSl cU8) p_204.Queue), i64 p_204.Next, .sl false (L cApi_Packet p_204.Early), i64 p_204.SentAt] false, .box [i64 0, i64 0, i64 0, .sl true (L (cSl cU8) ([])), i64 0, .sl true (L cApi_Packet ([])), i64 0] false]) ⟨_, orcs_nil, ?_⟩ ?_
        · simp only [go_sem, Nat.reduceGT, Nat.reduceLeDiff]
        refine run_ret ?_
        refine blockK_r ?_
        refine thenK_r ?_
        obtain rfl := Option.some.inj h
        refine wkP_of (Weak.refl _ _) ?_
        refine ret_ok (.inr rfl) ?_
        simp only [go_sem]
      · replace h := ite_f h hb
        refine run_skip ?_
        refine blockK_n ?_
        refine thenK_n ?_
        replace h := bind_some1 h; obtain ⟨y_211, hy_213, h⟩ := h
        replace h := bind_some1 h; obtain ⟨y_212, hy_214, h⟩ := h
        replace h := chk_some h; obtain ⟨hc_215, h⟩ := h
        replace h := lt1_some h; obtain ⟨l_216, hz_217, h⟩ := h
        refine run_textE hE [2, 4] (fr' := [(2, .ref 0 0), (4, .ref 1 0)]) (σ' := [.box [i64 p_204.Epoch, i64 p_204.Other, i64 p_204.First, .bs false 2 (l_216.length) 0 (l_216.length), i64 p_204.Next, .sl false (L cApi_Packet p_204.Early), i64 p_204.SentAt] false, .box [i64 0, i64 0, i64 0, .sl true (L (cSl cU8) ([])), i64 0, .sl true (L cApi_Packet ([])), i64 0] false, .buf 1 (L (cSl cU8) l_216) false, .buf 1 (L (cSl cU8) (([y_212] : List (List UInt8)))) false]) ⟨_, orcs_ok2 (l := [(35, 39, [.sl false (L cU8 data_205)], .sl false (L cU8 y_212))]) (m := [(33, 38, [.sl false (L (cSl cU8) p_204.Queue)], [.box [i64 p_204.Epoch, i64 p_204.Other, i64 p_204.First, .sl false (L (cSl cU8) p_204.Queue), i64 p_204.Next, .sl false (L cApi_Packet p_204.Early), i64 p_204.SentAt] false, .box [i64 0, i64 0, i64 0, .sl true (L (cSl cU8) ([])), i64 0, .sl true (L cApi_Packet ([])), i64 0] false], .bs false 2 (y_211.length) 0 (y_211.length), [.box [i64 p_204.Epoch, i64 p_204.Other, i64 p_204.First, .sl false (L (cSl cU8) p_204.Queue), i64 p_204.Next, .sl false (L cApi_Packet p_204.Early), i64 p_204.SentAt] false, .box [i64 0, i64 0, i64 0, .sl true (L (cSl cU8) ([])), i64 0, .sl true (L cApi_Packet ([])), i64 0] false, .buf 1 (L (cSl cU8) y_211) false])]) ⟨window_own_con  hy_214, trivial⟩ ⟨(wcon_call (slices_Clone_38_con hy_213) [] (by decide) (by simp only [go_sem]) (by simp only [go_sem]) (by simp only [go_sem]) (by simp only [go_sem]) (by simp only [go_sem])), trivial⟩, ?_⟩ ?_
        · subst hz_217; simp only [go_sem, Nat.reduceBEq, Nat.reduceMul, Nat.reduceSub, Nat.reduceGT, Nat.reducePow, Nat.reduceLeDiff, Int.reduceToNat, hc_215]
        refine run_textE hE [4, 5] (fr' := [(4, .ref 1 0), (5, i64 0)]) (σ' := [.box [i64 p_204.Epoch, i64 p_204.Other, i64 p_204.First, .bs false 2 (l_216.length) 0 (l_216.length), i64 p_204.Next, .sl false (L cApi_Packet p_204.Early), i64 p_204.SentAt] false, .box [i64 p_204.Epoch, i64 p_204.Other, i64 p_204.First, .bs false 2 (l_216.length) 0 (l_216.length), i64 p_204.Next, .sl false (L cApi_Packet p_204.Early), i64 p_204.SentAt] false, .buf 1 (L (cSl cU8) l_216) false, .buf 1 (L (cSl cU8) (([y_212] : List (List UInt8)))) false]) ⟨_, orcs_nil, ?_⟩ ?_
        · simp only [go_sem, Nat.reduceLeDiff]
        refine run_ret ?_
        obtain rfl := Option.some.inj h
        refine wkP_of (Weak.refl _ _) ?_
        refine ret_ok (.inr rfl) ?_
        simp only [go_sem]

end Go.Proofs.Ytomjphpnpcgacaa
/-
  The functions compute just that.
-/
namespace Go.Proofs.Ytomjphpnpcgacaa
open Go.Rv
set_option linter.unusedVariables false
set_option linter.unusedSimpArgs false
set_option maxRecDepth 20000
set_option maxHeartbeats 4000000

theorem window_Emit_con {p_218 : Api_Peer} {now_219 : Int} {r : Api_Peer × List Api_Packet} (h : window_Emit p_218 now_219 = some r) : Con B 16 [.agg [i64 p_218.Epoch, i64 p_218.Other, i64 p_218.First, .sl false (L (cSl cU8) p_218.Queue), i64 p_218.Next, .sl false (L cApi_Packet p_218.Early), i64 p_218.SentAt], i64 now_219] [] (fun r' σ' => r' = .tup [.agg [i64 r.1.Epoch, i64 r.1.Other, i64 r.1.First, .sl false (L (cSl cU8) r.1.Queue), i64 r.1.Next, .sl false (L cApi_Packet r.1.Early), i64 r.1.SentAt], .sl false (L cApi_Packet r.2)] ∧ σ' = []) := by
  refine con_walk (N := 86) (rs := [.cell 4 25, .tmp 5]) ok Try.func16 rfl (by decide +kernel) rfl rfl (Nat.le_of_ble_eq_true rfl) (fun F => ?_)
  have hE := ok.env F
  unfold window_Emit at h
  show Run (B.env F) 0 _ ⟨asFr 86 [(0, .agg [i64 p_218.Epoch, i64 p_218.Other, i64 p_218.First, .sl false (L (cSl cU8) p_218.Queue), i64 p_218.Next, .sl false (L cApi_Packet p_218.Early), i64 p_218.SentAt]), (1, i64 now_219)], []⟩ _
  refine run_wkP ?_
  refine run_textE hE [1, 2, 4] (fr' := [(1, i64 now_219), (2, .ref 0 0), (4, .ref 1 0)]) (σ' := [.box [i64 p_218.Epoch, i64 p_218.Other, i64 p_218.First, .sl false (L (cSl cU8) p_218.Queue), i64 p_218.Next, .sl false (L cApi_Packet p_218.Early), i64 p_218.SentAt] false, .box [i64 0, i64 0, i64 0, .sl true (L (cSl cU8) ([])), i64 0, .sl true (L cApi_Packet ([])), i64 0] false]) ⟨_, orcs_nil, ?_⟩ ?_
  · simp only [go_sem]
  refine run_seq ?_
  replace h := bind_some1 h; obtain ⟨t_222, hv_223, h⟩ := h
  refine run_textW hE [1, 2, 4, 19] (fr' := [(1, i64 now_219), (2, .ref 0 0), (4, .ref 1 0), (19, .bool t_222)]) (σ' := [.box [i64 p_218.Epoch, i64 p_218.Other, i64 p_218.First, .sl false (L (cSl cU8) p_218.Queue), i64 p_218.Next, .sl false (L cApi_Packet p_218.Early), i64 p_218.SentAt] false, .box [i64 0, i64 0, i64 0, .sl true (L (cSl cU8) ([])), i64 0, .sl true (L cApi_Packet ([])), i64 0] false]) ?_ ?_
  · replace hv_223 := bind_some1 hv_223; obtain ⟨y_220, hy_224, hv_223⟩ := hv_223
    rcases Bool.eq_false_or_eq_true ((!y_220)) with hb_225 | hb_225
    · replace hv_223 := ite_t hv_223 hb_225
      have e_hv_223 := Option.some.inj hv_223; subst e_hv_223
      exact ⟨_, [(1, i64 now_219), (2, .ref 0 0), (4, .ref 1 0), (19, .bool true)], [.box [i64 p_218.Epoch, i64 p_218.Other, i64 p_218.First, .sl false (L (cSl cU8) p_218.Queue), i64 p_218.Next, .sl false (L cApi_Packet p_218.Early), i64 p_218.SentAt] false, .box [i64 0, i64 0, i64 0, .sl true (L (cSl cU8) ([])), i64 0, .sl true (L cApi_Packet ([])), i64 0] false], orcs_ok (l := [(13, 37, [.agg [i64 p_218.Epoch, i64 p_218.Other, i64 p_218.First, .sl false (L (cSl cU8) p_218.Queue), i64 p_218.Next, .sl false (L cApi_Packet p_218.Early), i64 p_218.SentAt]], .bool y_220)]) ⟨window_valid_con  hy_224, trivial⟩, by simp only [go_sem, hb_225], (weak_sel [0, 1] (by decide) rfl (by simp only [go_sem]) (by simp only [go_sem]))⟩
    · replace hv_223 := ite_f hv_223 hb_225
      replace hv_223 := bind_some1 hv_223; obtain ⟨y_221, hy_226, hv_223⟩ := hv_223
      have e_hv_223 := Option.some.inj hv_223; subst e_hv_223
      exact ⟨_, [(1, i64 now_219), (2, .ref 0 0), (4, .ref 1 0), (19, .bool ((!y_221)))], [.box [i64 p_218.Epoch, i64 p_218.Other, i64 p_218.First, .sl false (L (cSl cU8) p_218.Queue), i64 p_218.Next, .sl false (L cApi_Packet p_218.Early), i64 p_218.SentAt] false, .box [i64 0, i64 0, i64 0, .sl true (L (cSl cU8) ([])), i64 0, .sl true (L cApi_Packet ([])), i64 0] false], orcs_ok (l := [(13, 37, [.agg [i64 p_218.Epoch, i64 p_218.Other, i64 p_218.First, .sl false (L (cSl cU8) p_218.Queue), i64 p_218.Next, .sl false (L cApi_Packet p_218.Early), i64 p_218.SentAt]], .bool y_220), (17, 35, [i64 now_219, i64 0, i64 1073741824], .bool y_221)]) ⟨window_valid_con  hy_224, window_between_con  hy_226, trivial⟩, by simp only [go_sem, hb_225], (weak_sel [0, 1] (by decide) rfl (by simp only [go_sem]) (by simp only [go_sem]))⟩
  refine run_condL (b := t_222) rfl (by decide) (fun hb => ?_) (fun hb => ?_)
  · replace h := ite_t h hb
    refine run_textE hE [4, 5] (fr' := [(4, .ref 1 0), (5, .sl true (L cApi_Packet ([])))]) (σ' := [.box [i64 p_218.Epoch, i64 p_218.Other, i64 p_218.First, .sl false (L (cSl cU8) p_218.Queue), i64 p_218.Next, .sl false (L cApi_Packet p_218.Early), i64 p_218.SentAt] false, .box [i64 p_218.Epoch, i64 p_218.Other, i64 p_218.First, .sl false (L (cSl cU8) p_218.Queue), i64 p_218.Next, .sl false (L cApi_Packet p_218.Early), i64 p_218.SentAt] false]) ⟨_, orcs_nil, ?_⟩ ?_
    · simp only [go_sem, Nat.reduceLeDiff]
    refine run_ret ?_
    refine thenK_r ?_
    obtain rfl := Option.some.inj h
    refine wkP_of (Weak.refl _ _) ?_
    refine ret_ok (.inr rfl) ?_
    simp only [go_sem]
  · replace h := ite_f h hb
    refine run_skip ?_
    refine thenK_n ?_
    refine run_textE hE [1, 2, 4, 6] (fr' := [(1, i64 now_219), (2, .ref 0 0), (4, .ref 1 0), (6, .ref 2 0)]) (σ' := [.box [i64 p_218.Epoch, i64 p_218.Other, i64 p_218.First, .sl false (L (cSl cU8) p_218.Queue), i64 p_218.Next, .sl false (L cApi_Packet p_218.Early), i64 p_218.SentAt] false, .box [i64 0, i64 0, i64 0, .sl true (L (cSl cU8) ([])), i64 0, .sl true (L cApi_Packet ([])), i64 0] false, .box [i64 p_218.Epoch, i64 p_218.Other, i64 ((-1)), i64 p_218.Next, .sl true (L cU8 ([]))] false]) ⟨_, orcs_nil, ?_⟩ ?_
    · simp only [go_sem, Nat.reduceGT, Nat.reduceLeDiff]
    replace h := bind_some1 h; obtain ⟨due_227, hv_228, h⟩ := h
    refine run_textW hE [1, 2, 4, 6, 7] (fr' := [(1, i64 now_219), (2, .ref 0 0), (4, .ref 1 0), (6, .ref 2 0), (7, .bool due_227)]) (σ' := [.box [i64 p_218.Epoch, i64 p_218.Other, i64 p_218.First, .sl false (L (cSl cU8) p_218.Queue), i64 p_218.Next, .sl false (L cApi_Packet p_218.Early), i64 p_218.SentAt] false, .box [i64 0, i64 0, i64 0, .sl true (L (cSl cU8) ([])), i64 0, .sl true (L cApi_Packet ([])), i64 0] false, .box [i64 p_218.Epoch, i64 p_218.Other, i64 ((-1)), i64 p_218.Next, .sl true (L cU8 ([]))] false]) ?_ ?_
    · rcases Bool.eq_false_or_eq_true ((decide (p_218.SentAt < 0))) with hb_229 | hb_229
      · replace hv_228 := ite_t hv_228 hb_229
        have e_hv_228 := Option.some.inj hv_228; subst e_hv_228
        exact ⟨_, [(1, i64 now_219), (2, .ref 0 0), (4, .ref 1 0), (6, .ref 2 0), (7, .bool true)], [.box [i64 p_218.Epoch, i64 p_218.Other, i64 p_218.First, .sl false (L (cSl cU8) p_218.Queue), i64 p_218.Next, .sl false (L cApi_Packet p_218.Early), i64 p_218.SentAt] false, .box [i64 0, i64 0, i64 0, .sl true (L (cSl cU8) ([])), i64 0, .sl true (L cApi_Packet ([])), i64 0] false, .box [i64 p_218.Epoch, i64 p_218.Other, i64 ((-1)), i64 p_218.Next, .sl true (L cU8 ([]))] false], orcs_nil, by simp only [go_sem, hb_229], (weak_sel [0, 1, 2] (by decide) rfl (by simp only [go_sem]) (by simp only [go_sem]))⟩
      · replace hv_228 := ite_f hv_228 hb_229
        rcases Bool.eq_false_or_eq_true ((decide (p_218.SentAt > now_219))) with hb_230 | hb_230
        · replace hv_228 := ite_t hv_228 hb_230
          have e_hv_228 := Option.some.inj hv_228; subst e_hv_228
          exact ⟨_, [(1, i64 now_219), (2, .ref 0 0), (4, .ref 1 0), (6, .ref 2 0), (7, .bool true)], [.box [i64 p_218.Epoch, i64 p_218.Other, i64 p_218.First, .sl false (L (cSl cU8) p_218.Queue), i64 p_218.Next, .sl false (L cApi_Packet p_218.Early), i64 p_218.SentAt] false, .box [i64 0, i64 0, i64 0, .sl true (L (cSl cU8) ([])), i64 0, .sl true (L cApi_Packet ([])), i64 0] false, .box [i64 p_218.Epoch, i64 p_218.Other, i64 ((-1)), i64 p_218.Next, .sl true (L cU8 ([]))] false], orcs_nil, by simp only [go_sem, hb_229, hb_230], (weak_sel [0, 1, 2] (by decide) rfl (by simp only [go_sem]) (by simp only [go_sem]))⟩
        · replace hv_228 := ite_f hv_228 hb_230
          have e_hv_228 := Option.some.inj hv_228; subst e_hv_228
          exact ⟨_, [(1, i64 now_219), (2, .ref 0 0), (4, .ref 1 0), (6, .ref 2 0), (7, .bool ((decide ((w64 (now_219 - p_218.SentAt)) ≥ 10))))], [.box [i64 p_218.Epoch, i64 p_218.Other, i64 p_218.First, .sl false (L (cSl cU8) p_218.Queue), i64 p_218.Next, .sl false (L cApi_Packet p_218.Early), i64 p_218.SentAt] false, .box [i64 0, i64 0, i64 0, .sl true (L (cSl cU8) ([])), i64 0, .sl true (L cApi_Packet ([])), i64 0] false, .box [i64 p_218.Epoch, i64 p_218.Other, i64 ((-1)), i64 p_218.Next, .sl true (L cU8 ([]))] false], orcs_nil, by simp only [go_sem, hb_229, hb_230], (weak_sel [0, 1, 2] (by decide) rfl (by simp only [go_sem]) (by simp only [go_sem]))⟩
    refine run_seq ?_
    replace h := bind_some1 h; obtain ⟨t_231, hv_232, h⟩ := h
    refine run_textW hE [1, 2, 4, 6, 51] (fr' := [(1, i64 now_219), (2, .ref 0 0), (4, .ref 1 0), (6, .ref 2 0), (51, .bool t_231)]) (σ' := [.box [i64 p_218.Epoch, i64 p_218.Other, i64 p_218.First, .sl false (L (cSl cU8) p_218.Queue), i64 p_218.Next, .sl false (L cApi_Packet p_218.Early), i64 p_218.SentAt] false, .box [i64 0, i64 0, i64 0, .sl true (L (cSl cU8) ([])), i64 0, .sl true (L cApi_Packet ([])), i64 0] false, .box [i64 p_218.Epoch, i64 p_218.Other, i64 ((-1)), i64 p_218.Next, .sl true (L cU8 ([]))] false]) ?_ ?_
    · rcases Bool.eq_false_or_eq_true (((p_218.Queue.length : Int) == 0)) with hb_233 | hb_233
      · replace hv_232 := ite_t hv_232 hb_233
        have e_hv_232 := Option.some.inj hv_232; subst e_hv_232
        exact ⟨_, [(1, i64 now_219), (2, .ref 0 0), (4, .ref 1 0), (6, .ref 2 0), (51, .bool true)], [.box [i64 p_218.Epoch, i64 p_218.Other, i64 p_218.First, .sl false (L (cSl cU8) p_218.Queue), i64 p_218.Next, .sl false (L cApi_Packet p_218.Early), i64 p_218.SentAt] false, .box [i64 0, i64 0, i64 0, .sl true (L (cSl cU8) ([])), i64 0, .sl true (L cApi_Packet ([])), i64 0] false, .box [i64 p_218.Epoch, i64 p_218.Other, i64 ((-1)), i64 p_218.Next, .sl true (L cU8 ([]))] false], orcs_nil, by simp only [go_sem, hb_233], (weak_sel [0, 1, 2] (by decide) rfl (by simp only [go_sem]) (by simp only [go_sem]))⟩
      · replace hv_232 := ite_f hv_232 hb_233
        have e_hv_232 := Option.some.inj hv_232; subst e_hv_232
        exact ⟨_, [(1, i64 now_219), (2, .ref 0 0), (4, .ref 1 0), (6, .ref 2 0), (51, .bool ((!due_227)))], [.box [i64 p_218.Epoch, i64 p_218.Other, i64 p_218.First, .sl false (L (cSl cU8) p_218.Queue), i64 p_218.Next, .sl false (L cApi_Packet p_218.Early), i64 p_218.SentAt] false, .box [i64 0, i64 0, i64 0, .sl true (L (cSl cU8) ([])), i64 0, .sl true (L cApi_Packet ([])), i64 0] false, .box [i64 p_218.Epoch, i64 p_218.Other, i64 ((-1)), i64 p_218.Next, .sl true (L cU8 ([]))] false], orcs_nil, by simp only [go_sem, hb_233], (weak_sel [0, 1, 2] (by decide) rfl (by simp only [go_sem]) (by simp only [go_sem]))⟩
    refine run_condL (b := t_231) rfl (by decide) (fun hb => ?_) (fun hb => ?_)
    · replace h := ite_t h hb
      replace h := lt1_some h; obtain ⟨l_234, hz_235, h⟩ := h
      refine run_drawS hE mixed [[], [], [1], [0], [0, 1, 2, 3]] (by kernel_rfl) [(4, 1), (6, 2)] [] [4, 5, 6] (by kernel_rfl) (fr' := [(4, .ref 1 0), (5, .bs true 3 (l_234.length) 0 (l_234.length)), (6, .ref 2 0)]) (σ' := [.box [i64 p_218.Epoch, i64 p_218.Other, i64 p_218.First, .sl false (L (cSl cU8) p_218.Queue), i64 p_218.Next, .sl false (L cApi_Packet p_218.Early), i64 p_218.SentAt] false, .box [i64 p_218.Epoch, i64 p_218.Other, i64 p_218.First, .sl false (L (cSl cU8) p_218.Queue), i64 p_218.Next, .sl false (L cApi_Packet p_218.Early), i64 p_218.SentAt] false, .box [i64 p_218.Epoch, i64 p_218.Other, i64 ((-1)), i64 p_218.Next, .sl true (L cU8 ([]))] false, .buf 5 (L cApi_Packet l_234) false]) ⟨rfl, rfl, trivial⟩ ⟨_, _, orcs_nil, (by simp only [XOk]), ?_⟩ ?_
      · subst hz_235; simp only [go_sem, Nat.reduceBEq, Nat.reduceMul, Nat.reduceSub, Nat.reduceGT, Nat.reducePow, Nat.reduceLeDiff, Int.reduceToNat]
      refine run_ret ?_
      refine thenK_r ?_
      obtain rfl := Option.some.inj h
      refine wkP_of (Weak.refl _ _) ?_
      refine ret_ok (.inr rfl) ?_
      simp only [go_sem]
    · replace h := ite_f h hb
      refine run_skip ?_
      refine thenK_n ?_
      refine run_textE hE [1, 2, 4, 6, 8] (fr' := [(1, i64 now_219), (2, .ref 0 0), (4, .ref 1 0), (6, .ref 2 0), (8, .sl true (L cApi_Packet ([])))]) (σ' := [.box [i64 p_218.Epoch, i64 p_218.Other, i64 p_218.First, .sl false (L (cSl cU8) p_218.Queue), i64 p_218.Next, .sl false (L cApi_Packet p_218.Early), i64 p_218.SentAt] false, .box [i64 0, i64 0, i64 0, .sl true (L (cSl cU8) ([])), i64 0, .sl true (L cApi_Packet ([])), i64 0] false, .box [i64 p_218.Epoch, i64 p_218.Other, i64 ((-1)), i64 p_218.Next, .sl true (L cU8 ([]))] false]) ⟨_, orcs_nil, ?_⟩ ?_
      · simp only [go_sem]
      replace h := bind_some1 h; obtain ⟨j_272, hA_273, hj_274⟩ := h
      refine run_join (fun (v : List Api_Packet) => (⟨asFr 86 [(1, i64 now_219), (2, .ref 0 0), (4, .ref 1 0), (8, .bs false 2 (v.length) 0 (v.length))], [.box [i64 p_218.Epoch, i64 p_218.Other, i64 p_218.First, .sl false (L (cSl cU8) p_218.Queue), i64 p_218.Next, .sl false (L cApi_Packet p_218.Early), i64 p_218.SentAt] false, .box [i64 0, i64 0, i64 0, .sl true (L (cSl cU8) ([])), i64 0, .sl true (L cApi_Packet ([])), i64 0] false, .buf 5 (L cApi_Packet v) false]⟩ : St)) (fun v => v = j_272) ?_ ?_
      · have h := hA_273; clear hA_273
        replace h := chk_some h; obtain ⟨hc_275, h⟩ := h
        replace h := lt1_some h; obtain ⟨t_276, hz_278, h⟩ := h
        replace h := lt1_some h; obtain ⟨t_277, hz_279, h⟩ := h
        refine run_textE hE [1, 2, 4, 6, 8, 61, 62, 63] (fr' := [(1, i64 now_219), (2, .ref 0 0), (4, .ref 1 0), (6, .ref 2 0), (8, .sl true (L cApi_Packet ([]))), (61, .sl false (L (cSl cU8) t_276)), (62, i64 t_277), (63, i64 0)]) (σ' := [.box [i64 p_218.Epoch, i64 p_218.Other, i64 p_218.First, .sl false (L (cSl cU8) p_218.Queue), i64 p_218.Next, .sl false (L cApi_Packet p_218.Early), i64 p_218.SentAt] false, .box [i64 0, i64 0, i64 0, .sl true (L (cSl cU8) ([])), i64 0, .sl true (L cApi_Packet ([])), i64 0] false, .box [i64 p_218.Epoch, i64 p_218.Other, i64 ((-1)), i64 p_218.Next, .sl true (L cU8 ([]))] false]) ⟨_, orcs_nil, ?_⟩ ?_
        · subst hz_279; subst hz_278; simp only [go_sem, Int.reduceToNat, hc_275]
        refine run_block ?_
        replace h := bind_some1 h; obtain ⟨x_297, hx_298, hj_299⟩ := h
        refine run_loopO hx_298 (fun (v : Int × List Api_Packet) => (⟨asFr 86 [(1, i64 now_219), (2, .ref 0 0), (4, .ref 1 0), (6, .ref 2 0), (8, .bs false 3 (v.2.length) 0 (v.2.length)), (61, .sl false (L (cSl cU8) t_276)), (62, i64 t_277), (63, i64 v.1)], [.box [i64 p_218.Epoch, i64 p_218.Other, i64 p_218.First, .sl false (L (cSl cU8) p_218.Queue), i64 p_218.Next, .sl false (L cApi_Packet p_218.Early), i64 p_218.SentAt] false, .box [i64 0, i64 0, i64 0, .sl true (L (cSl cU8) ([])), i64 0, .sl true (L cApi_Packet ([])), i64 0] false, .box [i64 p_218.Epoch, i64 p_218.Other, i64 ((-1)), i64 p_218.Next, .sl true (L cU8 ([]))] false, .buf 5 (L cApi_Packet v.2) false]⟩ : St)) ((weak_nil 8 5 rfl).trans (weak_sel [0, 1, 2, 3] (by decide) rfl (by simp only [go_sem]) (by simp only [go_sem]))) ?_
        rintro ⟨t_286, l_287⟩ o_300 h hxx_301
        replace h : window_Emit_b1 p_218 t_276 t_277 t_286 l_287 = some o_300 := h
        unfold window_Emit_b1 at h
        refine run_textE hE [1, 2, 4, 6, 8, 61, 62, 63, 64] (fr' := [(1, i64 now_219), (2, .ref 0 0), (4, .ref 1 0), (6, .ref 2 0), (8, .bs false 3 (l_287.length) 0 (l_287.length)), (61, .sl false (L (cSl cU8) t_276)), (62, i64 t_277), (63, i64 t_286), (64, .bool ((decide (t_286 < t_277))))]) (σ' := [.box [i64 p_218.Epoch, i64 p_218.Other, i64 p_218.First, .sl false (L (cSl cU8) p_218.Queue), i64 p_218.Next, .sl false (L cApi_Packet p_218.Early), i64 p_218.SentAt] false, .box [i64 0, i64 0, i64 0, .sl true (L (cSl cU8) ([])), i64 0, .sl true (L cApi_Packet ([])), i64 0] false, .box [i64 p_218.Epoch, i64 p_218.Other, i64 ((-1)), i64 p_218.Next, .sl true (L cU8 ([]))] false, .buf 5 (L cApi_Packet l_287) false]) ⟨_, orcs_nil, ?_⟩ ?_
        · simp only [go_sem]
        refine run_seq ?_
        refine run_condL (b := (decide (t_286 < t_277))) rfl (by decide) (fun hb => ?_) (fun hb => ?_)
        · replace h := ite_t h hb
          refine run_skip ?_
          refine thenK_n ?_
          refine run_seq ?_
          refine run_block ?_
          replace h := chk_some h; obtain ⟨hc_302, h⟩ := h
          refine run_textE hE [1, 2, 4, 6, 8, 9, 10, 61, 62, 63] (fr' := [(1, i64 now_219), (2, .ref 0 0), (4, .ref 1 0), (6, .ref 2 0), (8, .bs false 3 (l_287.length) 0 (l_287.length)), (9, i64 t_286), (10, .sl false (L cU8 (nth t_276 t_286.toNat))), (61, .sl false (L (cSl cU8) t_276)), (62, i64 t_277), (63, i64 t_286)]) (σ' := [.box [i64 p_218.Epoch, i64 p_218.Other, i64 p_218.First, .sl false (L (cSl cU8) p_218.Queue), i64 p_218.Next, .sl false (L cApi_Packet p_218.Early), i64 p_218.SentAt] false, .box [i64 0, i64 0, i64 0, .sl true (L (cSl cU8) ([])), i64 0, .sl true (L cApi_Packet ([])), i64 0] false, .box [i64 p_218.Epoch, i64 p_218.Other, i64 ((-1)), i64 p_218.Next, .sl true (L cU8 ([]))] false, .buf 5 (L cApi_Packet l_287) false]) ⟨_, orcs_nil, ?_⟩ ?_
          · simp only [go_sem, Int.reduceToNat, hc_302, hc_302.2, lt_le hc_302.2]
          refine run_textE hE [1, 2, 4, 6, 8, 9, 10, 11, 61, 62, 63] (fr' := [(1, i64 now_219), (2, .ref 0 0), (4, .ref 1 0), (6, .ref 2 0), (8, .bs false 3 (l_287.length) 0 (l_287.length)), (9, i64 t_286), (10, .sl false (L cU8 (nth t_276 t_286.toNat))), (11, .ref 4 0), (61, .sl false (L (cSl cU8) t_276)), (62, i64 t_277), (63, i64 t_286)]) (σ' := [.box [i64 p_218.Epoch, i64 p_218.Other, i64 p_218.First, .sl false (L (cSl cU8) p_218.Queue), i64 p_218.Next, .sl false (L cApi_Packet p_218.Early), i64 p_218.SentAt] false, .box [i64 0, i64 0, i64 0, .sl true (L (cSl cU8) ([])), i64 0, .sl true (L cApi_Packet ([])), i64 0] false, .box [i64 p_218.Epoch, i64 p_218.Other, i64 ((-1)), i64 p_218.Next, .sl true (L cU8 ([]))] false, .buf 5 (L cApi_Packet l_287) false, .box [i64 p_218.Epoch, i64 p_218.Other, i64 ((-1)), i64 p_218.Next, .sl true (L cU8 ([]))] false]) ⟨_, orcs_nil, ?_⟩ ?_
          · simp only [go_sem, Nat.reduceLeDiff]
          replace h := bind_some1 h; obtain ⟨y_303, hy_304, h⟩ := h
          replace h := lt1_some h; obtain ⟨f_305, hz_306, h⟩ := h
          refine run_drawE hE mixed [[], [0], [], [0, 1, 2], [], [4], [0, 1, 2, 3], [0, 1, 2, 3, 4, 5, 6], [0, 1, 2, 3, 4, 5, 6, 7], [0, 1, 2, 3, 4, 5, 6, 7, 8]] (by kernel_rfl) (by kernel_rfl) [1, 2, 4, 6, 8, 11, 61, 62, 63] (fr' := [(1, i64 now_219), (2, .ref 0 0), (4, .ref 1 0), (6, .ref 2 0), (8, .bs false 3 (l_287.length) 0 (l_287.length)), (11, .ref 4 0), (61, .sl false (L (cSl cU8) t_276)), (62, i64 t_277), (63, i64 t_286)]) (σ' := [.box [i64 p_218.Epoch, i64 p_218.Other, i64 p_218.First, .sl false (L (cSl cU8) p_218.Queue), i64 p_218.Next, .sl false (L cApi_Packet p_218.Early), i64 p_218.SentAt] false, .box [i64 0, i64 0, i64 0, .sl true (L (cSl cU8) ([])), i64 0, .sl true (L cApi_Packet ([])), i64 0] false, .box [i64 p_218.Epoch, i64 p_218.Other, i64 ((-1)), i64 p_218.Next, .sl true (L cU8 ([]))] false, .buf 5 (L cApi_Packet l_287) false, .box [i64 p_218.Epoch, i64 p_218.Other, i64 f_305, i64 p_218.Next, .sl false (L cU8 y_303)] false]) ⟨_, orcs_ok (l := [(74, 39, [.sl false (L cU8 (nth t_276 t_286.toNat))], .sl false (L cU8 y_303))]) ⟨window_own_con  hy_304, trivial⟩, ?_⟩ ?_
          · subst hz_306; simp only [go_sem, Nat.reduceLeDiff]
          replace h := chk_some h; obtain ⟨hc_307, h⟩ := h
          replace h := lt1_some h; obtain ⟨l_308, hz_309, h⟩ := h
          refine run_textE0 hE (wk_block wk_then) [1, 2, 4, 6, 8, 61, 62, 63] (fr' := [(1, i64 now_219), (2, .ref 0 0), (4, .ref 1 0), (6, .ref 2 0), (8, .bs false 3 (l_308.length) 0 (l_308.length)), (61, .sl false (L (cSl cU8) t_276)), (62, i64 t_277), (63, i64 t_286)]) (σ' := [.box [i64 p_218.Epoch, i64 p_218.Other, i64 p_218.First, .sl false (L (cSl cU8) p_218.Queue), i64 p_218.Next, .sl false (L cApi_Packet p_218.Early), i64 p_218.SentAt] false, .box [i64 0, i64 0, i64 0, .sl true (L (cSl cU8) ([])), i64 0, .sl true (L cApi_Packet ([])), i64 0] false, .box [i64 p_218.Epoch, i64 p_218.Other, i64 ((-1)), i64 p_218.Next, .sl true (L cU8 ([]))] false, .buf 5 (L cApi_Packet l_308) false, .box [i64 p_218.Epoch, i64 p_218.Other, i64 f_305, i64 p_218.Next, .sl false (L cU8 y_303)] false, .buf 5 (L cApi_Packet (([({ Epoch := p_218.Epoch, To := p_218.Other, Seq := f_305, Ack := p_218.Next, Data := y_303 } : Api_Packet)] : List Api_Packet))) false]) ⟨_, orcs_nil, ?_⟩ ?_
          · subst hz_309; simp only [go_sem, Nat.reduceBEq, Nat.reduceMul, Nat.reduceSub, Nat.reduceGT, Nat.reducePow, Nat.reduceLeDiff, Int.reduceToNat, hc_307]
          refine blockK_n ?_
          refine thenK_n ?_
          refine run_textE0 hE wk_lp [1, 2, 4, 6, 8, 61, 62, 63] (fr' := [(1, i64 now_219), (2, .ref 0 0), (4, .ref 1 0), (6, .ref 2 0), (8, .bs false 3 (l_308.length) 0 (l_308.length)), (61, .sl false (L (cSl cU8) t_276)), (62, i64 t_277), (63, i64 ((w64 (t_286 + 1))))]) (σ' := [.box [i64 p_218.Epoch, i64 p_218.Other, i64 p_218.First, .sl false (L (cSl cU8) p_218.Queue), i64 p_218.Next, .sl false (L cApi_Packet p_218.Early), i64 p_218.SentAt] false, .box [i64 0, i64 0, i64 0, .sl true (L (cSl cU8) ([])), i64 0, .sl true (L cApi_Packet ([])), i64 0] false, .box [i64 p_218.Epoch, i64 p_218.Other, i64 ((-1)), i64 p_218.Next, .sl true (L cU8 ([]))] false, .buf 5 (L cApi_Packet l_308) false, .box [i64 p_218.Epoch, i64 p_218.Other, i64 f_305, i64 p_218.Next, .sl false (L cU8 y_303)] false, .buf 5 (L cApi_Packet (([({ Epoch := p_218.Epoch, To := p_218.Other, Seq := f_305, Ack := p_218.Next, Data := y_303 } : Api_Packet)] : List Api_Packet))) false]) ⟨_, orcs_nil, ?_⟩ ?_
          · simp only [go_sem]
          obtain rfl := Option.some.inj h
          exact lpK_n (((w64 (t_286 + 1)), l_308)) rfl (weak_sel [0, 1, 2, 3] (by decide) rfl (by simp only [go_sem]) (by simp only [go_sem]))
        · replace h := ite_f h hb
          refine run_exit ?_
          refine thenK_x ?_
          obtain rfl := Option.some.inj h
          have ex_x_297 := hxx_301 _ rfl
          subst ex_x_297
          have h := hj_299; clear hj_299
          refine lpK_x ?_
          refine blockK_x ?_
          obtain rfl := Option.some.inj h
          exact joinK_n l_287 rfl ((weak_sel (l' := [(1, i64 now_219), (2, .ref 0 0), (4, .ref 1 0), (8, .bs false 2 (l_287.length) 0 (l_287.length))]) (σ' := [.box [i64 p_218.Epoch, i64 p_218.Other, i64 p_218.First, .sl false (L (cSl cU8) p_218.Queue), i64 p_218.Next, .sl false (L cApi_Packet p_218.Early), i64 p_218.SentAt] false, .box [i64 0, i64 0, i64 0, .sl true (L (cSl cU8) ([])), i64 0, .sl true (L cApi_Packet ([])), i64 0] false, .buf 5 (L cApi_Packet l_287) false]) [0, 1, 3] (by decide) rfl (by simp only [go_sem]) (by simp only [go_sem])).trans (weak_sel [0, 1, 2] (by decide) rfl (by simp only [go_sem]) (by simp only [go_sem])))
      rintro l_271 rfl
      have h := hj_274; clear hj_274
      refine run_textE hE [2, 4, 8] (fr' := [(2, .ref 0 0), (4, .ref 1 0), (8, .bs false 2 (l_271.length) 0 (l_271.length))]) (σ' := [.box [i64 p_218.Epoch, i64 p_218.Other, i64 p_218.First, .sl false (L (cSl cU8) p_218.Queue), i64 p_218.Next, .sl false (L cApi_Packet p_218.Early), i64 now_219] false, .box [i64 0, i64 0, i64 0, .sl true (L (cSl cU8) ([])), i64 0, .sl true (L cApi_Packet ([])), i64 0] false, .buf 5 (L cApi_Packet l_271) false]) ⟨_, orcs_nil, ?_⟩ ?_
      · simp only [go_sem, Nat.reduceLeDiff]
      refine run_textE hE [4, 5] (fr' := [(4, .ref 1 0), (5, .bs false 2 (l_271.length) 0 (l_271.length))]) (σ' := [.box [i64 p_218.Epoch, i64 p_218.Other, i64 p_218.First, .sl false (L (cSl cU8) p_218.Queue), i64 p_218.Next, .sl false (L cApi_Packet p_218.Early), i64 now_219] false, .box [i64 p_218.Epoch, i64 p_218.Other, i64 p_218.First, .sl false (L (cSl cU8) p_218.Queue), i64 p_218.Next, .sl false (L cApi_Packet p_218.Early), i64 now_219] false, .buf 5 (L cApi_Packet l_271) false]) ⟨_, orcs_nil, ?_⟩ ?_
      · simp only [go_sem, Nat.reduceLeDiff]
      refine run_ret ?_
      obtain rfl := Option.some.inj h
      refine wkP_of (Weak.refl _ _) ?_
      refine ret_ok (.inr rfl) ?_
      simp only [go_sem]

end Go.Proofs.Ytomjphpnpcgacaa
/-
  The functions compute just that.
-/
namespace Go.Proofs.Ytomjphpnpcgacaa
open Go.Rv
set_option linter.unusedVariables false
set_option linter.unusedSimpArgs false
set_option maxRecDepth 20000
set_option maxHeartbeats 4000000

theorem r12_SamePacket_con {a_310 : Api_Packet} {b_311 : Api_Packet} {r : Bool} (h : r12_SamePacket a_310 b_311 = some r) : Con B 30 [.agg [i64 a_310.Epoch, i64 a_310.To, i64 a_310.Seq, i64 a_310.Ack, .sl false (L cU8 a_310.Data)], .agg [i64 b_311.Epoch, i64 b_311.To, i64 b_311.Seq, i64 b_311.Ack, .sl false (L cU8 b_311.Data)]] [] (fun r' σ' => r' = .bool r ∧ σ' = []) := by
  refine con_walk (N := 40) (rs := [.tmp 4]) ok Try.func30 rfl (by decide +kernel) rfl rfl (Nat.le_of_ble_eq_true rfl) (fun F => ?_)
  have hE := ok.env F
  unfold r12_SamePacket at h
  show Run (B.env F) 0 _ ⟨asFr 40 [(0, .agg [i64 a_310.Epoch, i64 a_310.To, i64 a_310.Seq, i64 a_310.Ack, .sl false (L cU8 a_310.Data)]), (1, .agg [i64 b_311.Epoch, i64 b_311.To, i64 b_311.Seq, i64 b_311.Ack, .sl false (L cU8 b_311.Data)])], []⟩ _
  refine run_wkP ?_
  refine run_textE hE [2, 3] (fr' := [(2, .ref 0 0), (3, .ref 1 0)]) (σ' := [.box [i64 a_310.Epoch, i64 a_310.To, i64 a_310.Seq, i64 a_310.Ack, .sl false (L cU8 a_310.Data)] false, .box [i64 b_311.Epoch, i64 b_311.To, i64 b_311.Seq, i64 b_311.Ack, .sl false (L cU8 b_311.Data)] false]) ⟨_, orcs_nil, ?_⟩ ?_
  · simp only [go_sem]
  replace h := bind_some1 h; obtain ⟨t_312, hv_313, h⟩ := h
  refine run_textW hE [4] (fr' := [(4, .bool t_312)]) (σ' := []) ?_ ?_
  · rcases Bool.eq_false_or_eq_true ((a_310.Epoch == b_311.Epoch)) with hb_314 | hb_314
    · replace hv_313 := ite_t hv_313 hb_314
      rcases Bool.eq_false_or_eq_true ((a_310.To == b_311.To)) with hb_315 | hb_315
      · replace hv_313 := ite_t hv_313 hb_315
        rcases Bool.eq_false_or_eq_true ((a_310.Seq == b_311.Seq)) with hb_316 | hb_316
        · replace hv_313 := ite_t hv_313 hb_316
          rcases Bool.eq_false_or_eq_true ((a_310.Ack == b_311.Ack)) with hb_317 | hb_317
          · replace hv_313 := ite_t hv_313 hb_317
            have e_hv_313 := Option.some.inj hv_313; subst e_hv_313
            exact ⟨_, [(4, .bool ((a_310.Data == b_311.Data)))], [.box [i64 a_310.Epoch, i64 a_310.To, i64 a_310.Seq, i64 a_310.Ack, .sl false (L cU8 a_310.Data)] false, .box [i64 b_311.Epoch, i64 b_311.To, i64 b_311.Seq, i64 b_311.Ack, .sl false (L cU8 b_311.Data)] false], orcs_nil, by simp only [go_sem, hb_314, hb_315, hb_316, hb_317], (weak_sel [] (by decide) rfl (by simp only [go_sem]) (by simp only [go_sem]))⟩
          · replace hv_313 := ite_f hv_313 hb_317
            have e_hv_313 := Option.some.inj hv_313; subst e_hv_313
            exact ⟨_, [(4, .bool false)], [.box [i64 a_310.Epoch, i64 a_310.To, i64 a_310.Seq, i64 a_310.Ack, .sl false (L cU8 a_310.Data)] false, .box [i64 b_311.Epoch, i64 b_311.To, i64 b_311.Seq, i64 b_311.Ack, .sl false (L cU8 b_311.Data)] false], orcs_nil, by simp only [go_sem, hb_314, hb_315, hb_316, hb_317], (weak_sel [] (by decide) rfl (by simp only [go_sem]) (by simp only [go_sem]))⟩
        · replace hv_313 := ite_f hv_313 hb_316
          have e_hv_313 := Option.some.inj hv_313; subst e_hv_313
          exact ⟨_, [(4, .bool false)], [.box [i64 a_310.Epoch, i64 a_310.To, i64 a_310.Seq, i64 a_310.Ack, .sl false (L cU8 a_310.Data)] false, .box [i64 b_311.Epoch, i64 b_311.To, i64 b_311.Seq, i64 b_311.Ack, .sl false (L cU8 b_311.Data)] false], orcs_nil, by simp only [go_sem, hb_314, hb_315, hb_316], (weak_sel [] (by decide) rfl (by simp only [go_sem]) (by simp only [go_sem]))⟩
      · replace hv_313 := ite_f hv_313 hb_315
        have e_hv_313 := Option.some.inj hv_313; subst e_hv_313
        exact ⟨_, [(4, .bool false)], [.box [i64 a_310.Epoch, i64 a_310.To, i64 a_310.Seq, i64 a_310.Ack, .sl false (L cU8 a_310.Data)] false, .box [i64 b_311.Epoch, i64 b_311.To, i64 b_311.Seq, i64 b_311.Ack, .sl false (L cU8 b_311.Data)] false], orcs_nil, by simp only [go_sem, hb_314, hb_315], (weak_sel [] (by decide) rfl (by simp only [go_sem]) (by simp only [go_sem]))⟩
    · replace hv_313 := ite_f hv_313 hb_314
      have e_hv_313 := Option.some.inj hv_313; subst e_hv_313
      exact ⟨_, [(4, .bool false)], [.box [i64 a_310.Epoch, i64 a_310.To, i64 a_310.Seq, i64 a_310.Ack, .sl false (L cU8 a_310.Data)] false, .box [i64 b_311.Epoch, i64 b_311.To, i64 b_311.Seq, i64 b_311.Ack, .sl false (L cU8 b_311.Data)] false], orcs_nil, by simp only [go_sem, hb_314], (weak_sel [] (by decide) rfl (by simp only [go_sem]) (by simp only [go_sem]))⟩
  refine run_ret ?_
  obtain rfl := Option.some.inj h
  refine wkP_of (Weak.refl _ _) ?_
  refine ret_ok (.inr rfl) ?_
  simp only [go_sem]

theorem r12_SameMessages_con {a_318 : List (List UInt8)} {b_319 : List (List UInt8)} {r : Bool} (h : r12_SameMessages a_318 b_319 = some r) : Con B 22 [.sl false (L (cSl cU8) a_318), .sl false (L (cSl cU8) b_319)] [] (fun r' σ' => r' = .bool r ∧ σ' = []) := by
  refine con_walk (N := 28) (rs := [.tmp 4]) ok Try.func22 rfl (by decide +kernel) rfl rfl (Nat.le_of_ble_eq_true rfl) (fun F => ?_)
  have hE := ok.env F
  unfold r12_SameMessages at h
  show Run (B.env F) 0 _ ⟨asFr 28 [(0, .sl false (L (cSl cU8) a_318)), (1, .sl false (L (cSl cU8) b_319))], []⟩ _
  refine run_wkP ?_
  refine run_textE hE [0, 1] (fr' := [(0, .sl false (L (cSl cU8) a_318)), (1, .sl false (L (cSl cU8) b_319))]) (σ' := []) ⟨_, orcs_nil, ?_⟩ ?_
  · simp only [go_sem]
  refine run_seq ?_
  refine run_textE hE [0, 1, 10] (fr' := [(0, .sl false (L (cSl cU8) a_318)), (1, .sl false (L (cSl cU8) b_319)), (10, .bool (((a_318.length : Int) != (b_319.length : Int))))]) (σ' := []) ⟨_, orcs_nil, ?_⟩ ?_
  · simp only [go_sem]
  refine run_condL (b := ((a_318.length : Int) != (b_319.length : Int))) rfl (by decide) (fun hb => ?_) (fun hb => ?_)
  · replace h := ite_t h hb
    refine run_textE hE [4] (fr' := [(4, .bool false)]) (σ' := []) ⟨_, orcs_nil, ?_⟩ ?_
    · simp only [go_sem]
    refine run_ret ?_
    refine thenK_r ?_
    obtain rfl := Option.some.inj h
    refine wkP_of (Weak.refl _ _) ?_
    refine ret_ok (.inr rfl) ?_
    simp only [go_sem]
  · replace h := ite_f h hb
    refine run_skip ?_
    refine thenK_n ?_
    replace h := bind_some1 h; obtain ⟨j_338, hA_339, hj_340⟩ := h
    refine run_join (fun (v : Unit) => (⟨asFr 28 [], []⟩ : St)) (fun v => .inl v = j_338) ?_ ?_
    · have h := hA_339; clear hA_339
      refine run_textE hE [0, 1, 5] (fr' := [(0, .sl false (L (cSl cU8) a_318)), (1, .sl false (L (cSl cU8) b_319)), (5, i64 0)]) (σ' := []) ⟨_, orcs_nil, ?_⟩ ?_
      · simp only [go_sem]
      refine run_block ?_
      replace h := bind_some1 h; obtain ⟨x_350, hx_351, hj_352⟩ := h
      refine run_loopO hx_351 (fun (v : Int) => (⟨asFr 28 [(0, .sl false (L (cSl cU8) a_318)), (1, .sl false (L (cSl cU8) b_319)), (5, i64 v)], []⟩ : St)) (weak_sel [] (by decide) rfl (by simp only [go_sem]) (by simp only [go_sem])) ?_
      rintro i_345 o_353 h hxx_354
      replace h : r12_SameMessages_b1 a_318 b_319 i_345 = some o_353 := h
      unfold r12_SameMessages_b1 at h
      refine run_seq ?_
      refine run_textE hE [0, 1, 5, 14] (fr' := [(0, .sl false (L (cSl cU8) a_318)), (1, .sl false (L (cSl cU8) b_319)), (5, i64 i_345), (14, .bool ((decide (i_345 < (a_318.length : Int)))))]) (σ' := []) ⟨_, orcs_nil, ?_⟩ ?_
      · simp only [go_sem]
      refine run_condL (b := (decide (i_345 < (a_318.length : Int)))) rfl (by decide) (fun hb => ?_) (fun hb => ?_)
      · replace h := ite_t h hb
        refine run_skip ?_
        refine thenK_n ?_
        refine run_seq ?_
        refine run_block ?_
        replace h := chk_some h; obtain ⟨hc_355, h⟩ := h
        replace h := chk_some h; obtain ⟨hc_356, h⟩ := h
        refine run_drawE hE mixed [[], [], [0, 1], [0, 1, 2], [0, 1, 2, 3], [], [], [5, 6], [5, 6, 7], [5, 6, 7, 8], [0, 1, 2, 3, 4, 5, 6, 7, 8, 9]] (by kernel_rfl) (by kernel_rfl) [0, 1, 5, 27] (fr' := [(0, .sl false (L (cSl cU8) a_318)), (1, .sl false (L (cSl cU8) b_319)), (5, i64 i_345), (27, .bool ((!((nth a_318 i_345.toNat) == (nth b_319 i_345.toNat)))))]) (σ' := []) ⟨_, orcs_nil, ?_⟩ ?_
        · simp only [go_sem, Int.reduceToNat, hc_355, hc_355.2, lt_le hc_355.2, hc_356, hc_356.2, lt_le hc_356.2]
        refine run_condL (b := (!((nth a_318 i_345.toNat) == (nth b_319 i_345.toNat)))) rfl (by decide) (fun hb => ?_) (fun hb => ?_)
        · replace h := ite_t h hb
          refine run_textE hE [4] (fr' := [(4, .bool false)]) (σ' := []) ⟨_, orcs_nil, ?_⟩ ?_
          · simp only [go_sem]
          refine run_ret ?_
          refine blockK_r ?_
          refine thenK_r ?_
          refine lpK_r ?_
          replace h := bind_some1 h; obtain ⟨z_358, h, e_z_358⟩ := h
          obtain rfl := Option.some.inj e_z_358
          have ex_z_358 := hxx_354 _ rfl
          subst ex_z_358
          obtain rfl := Option.some.inj hj_352
          refine blockK_r ?_
          refine joinK_r ?_
          replace h := bind_some1 h; obtain ⟨z_357, h, e_z_357⟩ := h
          obtain rfl := Option.some.inj e_z_357
          obtain rfl := Option.some.inj hj_340
          obtain rfl := Option.some.inj h
          refine wkP_of (Weak.refl _ _) ?_
          refine ret_ok (.inr rfl) ?_
          simp only [go_sem]
        · replace h := ite_f h hb
          refine run_skip ?_
          refine blockK_n ?_
          refine thenK_n ?_
          refine run_textE0 hE wk_lp [0, 1, 5] (fr' := [(0, .sl false (L (cSl cU8) a_318)), (1, .sl false (L (cSl cU8) b_319)), (5, i64 ((w64 (i_345 + 1))))]) (σ' := []) ⟨_, orcs_nil, ?_⟩ ?_
          · simp only [go_sem]
          obtain rfl := Option.some.inj h
          exact lpK_n ((w64 (i_345 + 1))) rfl (weak_sel [] (by decide) rfl (by simp only [go_sem]) (by simp only [go_sem]))
      · replace h := ite_f h hb
        refine run_exit ?_
        refine thenK_x ?_
        obtain rfl := Option.some.inj h
        have ex_x_350 := hxx_354 _ rfl
        subst ex_x_350
        have h := hj_352; clear hj_352
        refine lpK_x ?_
        refine blockK_x ?_
        obtain rfl := Option.some.inj h
        exact joinK_n (()) rfl ((weak_sel (l' := []) (σ' := []) [] (by decide) rfl (by simp only [go_sem]) (by simp only [go_sem])).trans (weak_sel [] (by decide) rfl (by simp only [go_sem]) (by simp only [go_sem])))
    rintro ⟨⟩ rfl
    have h := hj_340; clear hj_340
    refine run_textE hE [4] (fr' := [(4, .bool true)]) (σ' := []) ⟨_, orcs_nil, ?_⟩ ?_
    · simp only [go_sem]
    refine run_ret ?_
    obtain rfl := Option.some.inj h
    refine wkP_of (Weak.refl _ _) ?_
    refine ret_ok (.inr rfl) ?_
    simp only [go_sem]

theorem window_side_keep_1_con {e_359 : Api_Packet} {seq_360 : Int} {r : Int} (h : window_side_keep_1 e_359 seq_360 = some r) : Con B 57 [.agg [i64 e_359.Epoch, i64 e_359.To, i64 e_359.Seq, i64 e_359.Ack, .sl false (L cU8 e_359.Data)], i64 seq_360] [] (fun r' σ' => r' = i64 r ∧ σ' = []) := by
  refine con_walk (N := 9) (rs := [.tmp 4]) ok Try.func57 rfl (by decide +kernel) rfl rfl (Nat.le_of_ble_eq_true rfl) (fun F => ?_)
  have hE := ok.env F
  unfold window_side_keep_1 at h
  show Run (B.env F) 0 _ ⟨asFr 9 [(0, .agg [i64 e_359.Epoch, i64 e_359.To, i64 e_359.Seq, i64 e_359.Ack, .sl false (L cU8 e_359.Data)]), (1, i64 seq_360)], []⟩ _
  refine run_wkP ?_
  refine run_textE hE [1, 2] (fr' := [(1, i64 seq_360), (2, .ref 0 0)]) (σ' := [.box [i64 e_359.Epoch, i64 e_359.To, i64 e_359.Seq, i64 e_359.Ack, .sl false (L cU8 e_359.Data)] false]) ⟨_, orcs_nil, ?_⟩ ?_
  · simp only [go_sem]
  refine run_textE hE [4] (fr' := [(4, i64 ((w64 (e_359.Seq - seq_360))))]) (σ' := [.box [i64 e_359.Epoch, i64 e_359.To, i64 e_359.Seq, i64 e_359.Ack, .sl false (L cU8 e_359.Data)] false]) ⟨_, orcs_nil, ?_⟩ ?_
  · simp only [go_sem]
  refine run_ret ?_
  obtain rfl := Option.some.inj h
  refine wkP_of (Weak.refl _ _) ?_
  refine ret_ok (.inr rfl) ?_
  simp only [go_sem]

theorem slices_BinarySearchFunc_56_con {x_361 : List Api_Packet} {target_362 : Int} {cmp_363 : Api_Packet → Int → Option (Int)} {fcmp_363 : Nat} (hfcmp_363 : ∀ {a0 : Api_Packet} {a1 : Int} {r : Int}, cmp_363 a0 a1 = some r → Con B fcmp_363 [.agg [i64 a0.Epoch, i64 a0.To, i64 a0.Seq, i64 a0.Ack, .sl false (L cU8 a0.Data)], i64 a1] [] (fun r' σ' => r' = i64 r ∧ σ' = [])) {r : Int × Bool} (h : slices_BinarySearchFunc_56 x_361 target_362 cmp_363 = some r) : Con B 56 [.sl false (L cApi_Packet x_361), i64 target_362, .fn fcmp_363 []] [] (fun r' σ' => r' = .tup [i64 r.1, .bool r.2] ∧ σ' = []) := by
  refine con_walk (N := 49) (rs := [.tmp 6, .tmp 7]) ok Try.func56 rfl (by decide +kernel) rfl rfl (Nat.le_of_ble_eq_true rfl) (fun F => ?_)
  have hE := ok.env F
  unfold slices_BinarySearchFunc_56 at h
  show Run (B.env F) 0 _ ⟨asFr 49 [(0, .sl false (L cApi_Packet x_361)), (1, i64 target_362), (2, .fn fcmp_363 [])], []⟩ _
  refine run_wkP ?_
  refine run_textE hE [0, 1, 2] (fr' := [(0, .sl false (L cApi_Packet x_361)), (1, i64 target_362), (2, .fn fcmp_363 [])]) (σ' := []) ⟨_, orcs_nil, ?_⟩ ?_
  · simp only [go_sem]
  refine run_textE hE [0, 1, 2, 8] (fr' := [(0, .sl false (L cApi_Packet x_361)), (1, i64 target_362), (2, .fn fcmp_363 []), (8, i64 ((x_361.length : Int)))]) (σ' := []) ⟨_, orcs_nil, ?_⟩ ?_
  · simp only [go_sem]
  refine run_textE hE [0, 1, 2, 8, 9, 10] (fr' := [(0, .sl false (L cApi_Packet x_361)), (1, i64 target_362), (2, .fn fcmp_363 []), (8, i64 ((x_361.length : Int))), (9, i64 0), (10, i64 ((x_361.length : Int)))]) (σ' := []) ⟨_, orcs_nil, ?_⟩ ?_
  · simp only [go_sem]
  replace h := bind_some1 h; obtain ⟨j_388, hA_389, hj_390⟩ := h
  refine run_join (fun (v : Int) => (⟨asFr 49 [(0, .sl false (L cApi_Packet x_361)), (1, i64 target_362), (2, .fn fcmp_363 []), (8, i64 ((x_361.length : Int))), (9, i64 v)], []⟩ : St)) (fun v => v = j_388) ?_ ?_
  · have h := hA_389; clear hA_389
    refine run_block ?_
    replace h := bind_some1 h; obtain ⟨x_404, hx_405, hj_406⟩ := h
    refine run_loopO hx_405 (fun (v : Int × Int) => (⟨asFr 49 [(0, .sl false (L cApi_Packet x_361)), (1, i64 target_362), (2, .fn fcmp_363 []), (8, i64 ((x_361.length : Int))), (9, i64 v.1), (10, i64 v.2)], []⟩ : St)) (weak_sel [] (by decide) rfl (by simp only [go_sem]) (by simp only [go_sem])) ?_
    rintro ⟨i_396, j_397⟩ o_407 h hxx_408
    replace h : slices_BinarySearchFunc_56_b1 x_361 target_362 cmp_363 i_396 j_397 = some o_407 := h
    unfold slices_BinarySearchFunc_56_b1 at h
    refine run_seq ?_
    refine run_textE hE [0, 1, 2, 8, 9, 10, 17] (fr' := [(0, .sl false (L cApi_Packet x_361)), (1, i64 target_362), (2, .fn fcmp_363 []), (8, i64 ((x_361.length : Int))), (9, i64 i_396), (10, i64 j_397), (17, .bool ((decide (i_396 < j_397))))]) (σ' := []) ⟨_, orcs_nil, ?_⟩ ?_
    · simp only [go_sem]
    refine run_condL (b := (decide (i_396 < j_397))) rfl (by decide) (fun hb => ?_) (fun hb => ?_)
    · replace h := ite_t h hb
      refine run_skip ?_
      refine thenK_n ?_
      refine run_block ?_
      replace h := lt1_some h; obtain ⟨h_409, hz_410, h⟩ := h
      refine run_textE hE [0, 1, 2, 8, 9, 10, 11] (fr' := [(0, .sl false (L cApi_Packet x_361)), (1, i64 target_362), (2, .fn fcmp_363 []), (8, i64 ((x_361.length : Int))), (9, i64 i_396), (10, i64 j_397), (11, i64 h_409)]) (σ' := []) ⟨_, orcs_nil, ?_⟩ ?_
      · subst hz_410; simp only [go_sem]
      replace h := chk_some h; obtain ⟨hc_412, h⟩ := h
      replace h := bind_some1 h; obtain ⟨y_411, hy_413, h⟩ := h
      refine run_textE hE [0, 1, 2, 8, 9, 10, 11, 31] (fr' := [(0, .sl false (L cApi_Packet x_361)), (1, i64 target_362), (2, .fn fcmp_363 []), (8, i64 ((x_361.length : Int))), (9, i64 i_396), (10, i64 j_397), (11, i64 h_409), (31, .bool ((decide (y_411 < 0))))]) (σ' := []) ⟨_, orcs_ok (l := [(30, fcmp_363, [.agg [i64 ((nth x_361 h_409.toNat).Epoch), i64 ((nth x_361 h_409.toNat).To), i64 ((nth x_361 h_409.toNat).Seq), i64 ((nth x_361 h_409.toNat).Ack), .sl false (L cU8 ((nth x_361 h_409.toNat).Data))], i64 target_362], i64 y_411)]) ⟨hfcmp_363  hy_413, trivial⟩, ?_⟩ ?_
      · simp only [go_sem, Int.reduceToNat, hc_412, hc_412.2, lt_le hc_412.2]
      refine run_condL (b := (decide (y_411 < 0))) rfl (by decide) (fun hb => ?_) (fun hb => ?_)
      · replace h := ite_t h hb
        refine run_textE0 hE (wk_block wk_lp) [0, 1, 2, 8, 9, 10] (fr' := [(0, .sl false (L cApi_Packet x_361)), (1, i64 target_362), (2, .fn fcmp_363 []), (8, i64 ((x_361.length : Int))), (9, i64 ((w64 (h_409 + 1)))), (10, i64 j_397)]) (σ' := []) ⟨_, orcs_nil, ?_⟩ ?_
        · simp only [go_sem]
        refine blockK_n ?_
        obtain rfl := Option.some.inj h
        exact lpK_n (((w64 (h_409 + 1)), j_397)) rfl (weak_sel [] (by decide) rfl (by simp only [go_sem]) (by simp only [go_sem]))
      · replace h := ite_f h hb
        refine run_textE0 hE (wk_block wk_lp) [0, 1, 2, 8, 9, 10] (fr' := [(0, .sl false (L cApi_Packet x_361)), (1, i64 target_362), (2, .fn fcmp_363 []), (8, i64 ((x_361.length : Int))), (9, i64 i_396), (10, i64 h_409)]) (σ' := []) ⟨_, orcs_nil, ?_⟩ ?_
        · simp only [go_sem]
        refine blockK_n ?_
        obtain rfl := Option.some.inj h
        exact lpK_n ((i_396, h_409)) rfl (weak_sel [] (by decide) rfl (by simp only [go_sem]) (by simp only [go_sem]))
    · replace h := ite_f h hb
      refine run_exit ?_
      refine thenK_x ?_
      obtain rfl := Option.some.inj h
      have ex_x_404 := hxx_408 _ rfl
      subst ex_x_404
      have h := hj_406; clear hj_406
      refine lpK_x ?_
      refine blockK_x ?_
      obtain rfl := Option.some.inj h
      exact joinK_n i_396 rfl ((weak_sel (l' := [(0, .sl false (L cApi_Packet x_361)), (1, i64 target_362), (2, .fn fcmp_363 []), (8, i64 ((x_361.length : Int))), (9, i64 i_396)]) (σ' := []) [] (by decide) rfl (by simp only [go_sem]) (by simp only [go_sem])).trans (weak_sel [] (by decide) rfl (by simp only [go_sem]) (by simp only [go_sem])))
  rintro i_387 rfl
  have h := hj_390; clear hj_390
  replace h := bind_some1 h; obtain ⟨t_415, hv_416, h⟩ := h
  refine run_textW hE [6, 7] (fr' := [(6, i64 i_387), (7, .bool t_415)]) (σ' := []) ?_ ?_
  · rcases Bool.eq_false_or_eq_true ((decide (i_387 < (x_361.length : Int)))) with hb_417 | hb_417
    · replace hv_416 := ite_t hv_416 hb_417
      replace hv_416 := chk_some hv_416; obtain ⟨hc_418, hv_416⟩ := hv_416
      replace hv_416 := bind_some1 hv_416; obtain ⟨y_414, hy_419, hv_416⟩ := hv_416
      have e_hv_416 := Option.some.inj hv_416; subst e_hv_416
      exact ⟨_, [(6, i64 i_387), (7, .bool ((y_414 == 0)))], [], orcs_ok (l := [(46, fcmp_363, [.agg [i64 ((nth x_361 i_387.toNat).Epoch), i64 ((nth x_361 i_387.toNat).To), i64 ((nth x_361 i_387.toNat).Seq), i64 ((nth x_361 i_387.toNat).Ack), .sl false (L cU8 ((nth x_361 i_387.toNat).Data))], i64 target_362], i64 y_414)]) ⟨hfcmp_363  hy_419, trivial⟩, by simp only [go_sem, Int.reduceToNat, hb_417, hc_418, hc_418.2, lt_le hc_418.2], (weak_sel [] (by decide) rfl (by simp only [go_sem]) (by simp only [go_sem]))⟩
    · replace hv_416 := ite_f hv_416 hb_417
      have e_hv_416 := Option.some.inj hv_416; subst e_hv_416
      exact ⟨_, [(6, i64 i_387), (7, .bool false)], [], orcs_nil, by simp only [go_sem, Int.reduceToNat, hb_417], (weak_sel [] (by decide) rfl (by simp only [go_sem]) (by simp only [go_sem]))⟩
  refine run_ret ?_
  obtain rfl := Option.some.inj h
  refine wkP_of (Weak.refl _ _) ?_
  refine ret_ok (.inr rfl) ?_
  simp only [go_sem]

end Go.Proofs.Ytomjphpnpcgacaa
/-
  The functions compute just that.
-/
namespace Go.Proofs.Ytomjphpnpcgacaa
open Go.Rv
set_option linter.unusedVariables false
set_option linter.unusedSimpArgs false
set_option maxRecDepth 20000
set_option maxHeartbeats 4000000

theorem window_side_take_con {s_420 : Window_side} {data_421 : List UInt8} {r : Window_side} (h : window_side_take s_420 data_421 = some r) : Con B 60 [.ref 0 0, .sl false (L cU8 data_421)] [.box [i64 s_420.Peer.Epoch, i64 s_420.Peer.Other, i64 s_420.Peer.First, .sl false (L (cSl cU8) s_420.Peer.Queue), i64 s_420.Peer.Next, .sl false (L cApi_Packet s_420.Peer.Early), i64 s_420.Peer.SentAt, .bs false 1 (s_420.delivered.length) 0 (s_420.delivered.length)] false, .buf 1 (L (cSl cU8) s_420.delivered) false] (fun r' σ' => r' = .tup [] ∧ σ' = [.box [i64 r.Peer.Epoch, i64 r.Peer.Other, i64 r.Peer.First, .sl false (L (cSl cU8) r.Peer.Queue), i64 r.Peer.Next, .sl false (L cApi_Packet r.Peer.Early), i64 r.Peer.SentAt, .bs false 1 (r.delivered.length) 0 (r.delivered.length)] false, .buf 1 (L (cSl cU8) r.delivered) false]) := by
  refine con_walk_own (N := 24) (rs := []) 2 rfl ok Try.func60 rfl (by decide +kernel) rfl rfl (Nat.le_of_ble_eq_true rfl) (fun F => ?_)
  have hE := ok.env F
  unfold window_side_take at h
  show Run (B.env F) 2 _ ⟨asFr 24 [(0, .ref 0 0), (1, .sl false (L cU8 data_421))], [.box [i64 s_420.Peer.Epoch, i64 s_420.Peer.Other, i64 s_420.Peer.First, .sl false (L (cSl cU8) s_420.Peer.Queue), i64 s_420.Peer.Next, .sl false (L cApi_Packet s_420.Peer.Early), i64 s_420.Peer.SentAt, .bs false 1 (s_420.delivered.length) 0 (s_420.delivered.length)] false, .buf 1 (L (cSl cU8) s_420.delivered) false]⟩ _
  refine run_wkP ?_
  replace h := bind_some1 h; obtain ⟨y_429, hy_430, h⟩ := h
  replace h := chk_some h; obtain ⟨hc_431, h⟩ := h
  replace h := lt1_some h; obtain ⟨l_432, hz_433, h⟩ := h
  refine run_drawE hE mixed [[], [], [1], [1, 2], [1, 2, 3], [], [5], [5, 6], [1, 2, 3, 4, 5, 6, 7], [0, 1, 2, 3, 4, 5, 6, 7, 8], [0, 1, 2, 3, 4, 5, 6, 7, 8, 9], [0, 1, 2, 3, 4, 5, 6, 7, 8, 9, 10]] (by kernel_rfl) (by kernel_rfl) [0] (fr' := [(0, .ref 0 0)]) (σ' := [.box [i64 s_420.Peer.Epoch, i64 s_420.Peer.Other, i64 s_420.Peer.First, .sl false (L (cSl cU8) s_420.Peer.Queue), i64 s_420.Peer.Next, .sl false (L cApi_Packet s_420.Peer.Early), i64 s_420.Peer.SentAt, .bs false 1 (l_432.length) 0 (l_432.length)] false, .buf 1 (L (cSl cU8) l_432) false, .buf 1 (L (cSl cU8) (([y_429] : List (List UInt8)))) false]) ⟨_, orcs_ok (l := [(10, 39, [.sl false (L cU8 data_421)], .sl false (L cU8 y_429))]) ⟨window_own_con  hy_430, trivial⟩, ?_⟩ ?_
  · subst hz_433; simp only [go_sem, Nat.reduceBEq, Nat.reduceMul, Nat.reduceSub, Nat.reduceGT, Nat.reducePow, Nat.reduceLeDiff, Int.reduceToNat, hc_431]
  replace h := lt1_some h; obtain ⟨f_434, hz_435, h⟩ := h
  refine run_textE0 hE wk_wkP [] (fr' := []) (σ' := [.box [i64 s_420.Peer.Epoch, i64 s_420.Peer.Other, i64 s_420.Peer.First, .sl false (L (cSl cU8) s_420.Peer.Queue), i64 f_434, .sl false (L cApi_Packet s_420.Peer.Early), i64 s_420.Peer.SentAt, .bs false 1 (l_432.length) 0 (l_432.length)] false, .buf 1 (L (cSl cU8) l_432) false, .buf 1 (L (cSl cU8) (([y_429] : List (List UInt8)))) false]) ⟨_, orcs_nil, ?_⟩ ?_
  · subst hz_435; simp only [go_sem, Nat.reduceLeDiff]
  obtain rfl := Option.some.inj h
  refine wkP_of (Weak.refl _ _) ?_
  refine ret_own (.inl rfl) [0, 1] (by decide) rfl ?_ ?_
  · simp only [go_sem]
  · simp only [go_sem]

theorem window_side_acknowledge_con {s_436 : Window_side} {k_437 : Api_Packet} {r : Window_side} (h : window_side_acknowledge s_436 k_437 = some r) : Con B 41 [.ref 0 0, .agg [i64 k_437.Epoch, i64 k_437.To, i64 k_437.Seq, i64 k_437.Ack, .sl false (L cU8 k_437.Data)]] [.box [i64 s_436.Peer.Epoch, i64 s_436.Peer.Other, i64 s_436.Peer.First, .sl false (L (cSl cU8) s_436.Peer.Queue), i64 s_436.Peer.Next, .sl false (L cApi_Packet s_436.Peer.Early), i64 s_436.Peer.SentAt, .bs false 1 (s_436.delivered.length) 0 (s_436.delivered.length)] false, .buf 1 (L (cSl cU8) s_436.delivered) false] (fun r' σ' => r' = .tup [] ∧ σ' = [.box [i64 r.Peer.Epoch, i64 r.Peer.Other, i64 r.Peer.First, .sl false (L (cSl cU8) r.Peer.Queue), i64 r.Peer.Next, .sl false (L cApi_Packet r.Peer.Early), i64 r.Peer.SentAt, .bs false 1 (r.delivered.length) 0 (r.delivered.length)] false, .buf 1 (L (cSl cU8) r.delivered) false]) := by
  refine con_walk_own (N := 46) (rs := []) 2 rfl ok Try.func41 rfl (by decide +kernel) rfl rfl (Nat.le_of_ble_eq_true rfl) (fun F => ?_)
  have hE := ok.env F
  unfold window_side_acknowledge at h
  show Run (B.env F) 2 _ ⟨asFr 46 [(0, .ref 0 0), (1, .agg [i64 k_437.Epoch, i64 k_437.To, i64 k_437.Seq, i64 k_437.Ack, .sl false (L cU8 k_437.Data)])], [.box [i64 s_436.Peer.Epoch, i64 s_436.Peer.Other, i64 s_436.Peer.First, .sl false (L (cSl cU8) s_436.Peer.Queue), i64 s_436.Peer.Next, .sl false (L cApi_Packet s_436.Peer.Early), i64 s_436.Peer.SentAt, .bs false 1 (s_436.delivered.length) 0 (s_436.delivered.length)] false, .buf 1 (L (cSl cU8) s_436.delivered) false]⟩ _
  refine run_wkP ?_
  refine run_textE hE [0, 3] (fr' := [(0, .ref 0 0), (3, .ref 2 0)]) (σ' := [.box [i64 s_436.Peer.Epoch, i64 s_436.Peer.Other, i64 s_436.Peer.First, .sl false (L (cSl cU8) s_436.Peer.Queue), i64 s_436.Peer.Next, .sl false (L cApi_Packet s_436.Peer.Early), i64 s_436.Peer.SentAt, .bs false 1 (s_436.delivered.length) 0 (s_436.delivered.length)] false, .buf 1 (L (cSl cU8) s_436.delivered) false, .box [i64 k_437.Epoch, i64 k_437.To, i64 k_437.Seq, i64 k_437.Ack, .sl false (L cU8 k_437.Data)] false]) ⟨_, orcs_nil, ?_⟩ ?_
  · simp only [go_sem]
  replace h := lt1_some h; obtain ⟨n_446, hz_447, h⟩ := h
  refine run_drawE hE mixed [[], [0], [], [2], [2, 3], [2, 3, 4], [2, 3, 4, 5], [0, 1, 2, 3, 4, 5, 6], [0, 1, 2, 3, 4, 5, 6, 7]] (by kernel_rfl) (by kernel_rfl) [0, 3, 4] (fr' := [(0, .ref 0 0), (3, .ref 2 0), (4, i64 n_446)]) (σ' := [.box [i64 s_436.Peer.Epoch, i64 s_436.Peer.Other, i64 s_436.Peer.First, .sl false (L (cSl cU8) s_436.Peer.Queue), i64 s_436.Peer.Next, .sl false (L cApi_Packet s_436.Peer.Early), i64 s_436.Peer.SentAt, .bs false 1 (s_436.delivered.length) 0 (s_436.delivered.length)] false, .buf 1 (L (cSl cU8) s_436.delivered) false, .box [i64 k_437.Epoch, i64 k_437.To, i64 k_437.Seq, i64 k_437.Ack, .sl false (L cU8 k_437.Data)] false]) ⟨_, orcs_nil, ?_⟩ ?_
  · subst hz_447; simp only [go_sem]
  replace h := bind_some1 h; obtain ⟨t_448, hv_449, h⟩ := h
  refine run_textW hE [0, 3, 4, 24] (fr' := [(0, .ref 0 0), (3, .ref 2 0), (4, i64 n_446), (24, .bool t_448)]) (σ' := [.box [i64 s_436.Peer.Epoch, i64 s_436.Peer.Other, i64 s_436.Peer.First, .sl false (L (cSl cU8) s_436.Peer.Queue), i64 s_436.Peer.Next, .sl false (L cApi_Packet s_436.Peer.Early), i64 s_436.Peer.SentAt, .bs false 1 (s_436.delivered.length) 0 (s_436.delivered.length)] false, .buf 1 (L (cSl cU8) s_436.delivered) false, .box [i64 k_437.Epoch, i64 k_437.To, i64 k_437.Seq, i64 k_437.Ack, .sl false (L cU8 k_437.Data)] false]) ?_ ?_
  · rcases Bool.eq_false_or_eq_true ((decide (n_446 > 0))) with hb_450 | hb_450
    · replace hv_449 := ite_t hv_449 hb_450
      have e_hv_449 := Option.some.inj hv_449; subst e_hv_449
      exact ⟨_, [(0, .ref 0 0), (3, .ref 2 0), (4, i64 n_446), (24, .bool ((decide (n_446 ≤ (s_436.Peer.Queue.length : Int)))))], [.box [i64 s_436.Peer.Epoch, i64 s_436.Peer.Other, i64 s_436.Peer.First, .sl false (L (cSl cU8) s_436.Peer.Queue), i64 s_436.Peer.Next, .sl false (L cApi_Packet s_436.Peer.Early), i64 s_436.Peer.SentAt, .bs false 1 (s_436.delivered.length) 0 (s_436.delivered.length)] false, .buf 1 (L (cSl cU8) s_436.delivered) false, .box [i64 k_437.Epoch, i64 k_437.To, i64 k_437.Seq, i64 k_437.Ack, .sl false (L cU8 k_437.Data)] false], orcs_nil, by simp only [go_sem, hb_450], (weak_sel [0, 1, 2] (by decide) rfl (by simp only [go_sem]) (by simp only [go_sem]))⟩
    · replace hv_449 := ite_f hv_449 hb_450
      have e_hv_449 := Option.some.inj hv_449; subst e_hv_449
      exact ⟨_, [(0, .ref 0 0), (3, .ref 2 0), (4, i64 n_446), (24, .bool false)], [.box [i64 s_436.Peer.Epoch, i64 s_436.Peer.Other, i64 s_436.Peer.First, .sl false (L (cSl cU8) s_436.Peer.Queue), i64 s_436.Peer.Next, .sl false (L cApi_Packet s_436.Peer.Early), i64 s_436.Peer.SentAt, .bs false 1 (s_436.delivered.length) 0 (s_436.delivered.length)] false, .buf 1 (L (cSl cU8) s_436.delivered) false, .box [i64 k_437.Epoch, i64 k_437.To, i64 k_437.Seq, i64 k_437.Ack, .sl false (L cU8 k_437.Data)] false], orcs_nil, by simp only [go_sem, hb_450], (weak_sel [0, 1, 2] (by decide) rfl (by simp only [go_sem]) (by simp only [go_sem]))⟩
  refine run_condL (b := t_448) rfl (by decide) (fun hb => ?_) (fun hb => ?_)
  · replace h := ite_t h hb
    replace h := chk_some h; obtain ⟨hc_451, h⟩ := h
    replace h := lt1_some h; obtain ⟨f_452, hz_453, h⟩ := h
    refine run_drawS0 hE mixed [[], [], [], [], [3], [3, 4], [3, 4, 5], [3, 4, 5, 6], [], [3, 4, 5, 6, 7, 8], [], [10], [0, 3, 4, 5, 6, 7, 8, 9], [0, 3, 4, 5, 6, 7, 8, 9, 12], [0, 3, 4, 5, 6, 7, 8, 9, 12, 13], [0, 3, 4, 5, 6, 7, 8, 9, 12, 13, 14], [0, 1, 3, 4, 5, 6, 7, 8, 9, 10, 11, 12, 13, 14, 15], [0, 1, 3, 4, 5, 6, 7, 8, 9, 10, 11, 12, 13, 14, 15, 16], [0, 1, 3, 4, 5, 6, 7, 8, 9, 10, 11, 12, 13, 14, 15, 16, 17], [0, 1, 3, 4, 5, 6, 7, 8, 9, 10, 11, 12, 13, 14, 15, 16, 17, 18], [0, 1, 2, 3, 4, 5, 6, 7, 8, 9, 10, 11, 12, 13, 14, 15, 16, 17, 18, 19], [0, 1, 2, 3, 4, 5, 6, 7, 8, 9, 10, 11, 12, 13, 14, 15, 16, 17, 18, 19, 20], [0, 1, 2, 3, 4, 5, 6, 7, 8, 9, 10, 11, 12, 13, 14, 15, 16, 17, 18, 19, 20, 21], [0, 1, 2, 3, 4, 5, 6, 7, 8, 9, 10, 11, 12, 13, 14, 15, 16, 17, 18, 19, 20, 21, 22]] (by kernel_rfl) [(3, 2), (35, 2), (39, 0)] [] [3, 35, 39] (by kernel_rfl) wk_wkP (fr' := [(3, .ref 2 0), (35, .ref 2 3), (39, .ref 0 3)]) (σ' := [.box [i64 s_436.Peer.Epoch, i64 s_436.Peer.Other, i64 k_437.Ack, .sl false (L (cSl cU8) f_452), i64 s_436.Peer.Next, .sl false (L cApi_Packet s_436.Peer.Early), i64 ((-1)), .bs false 1 (s_436.delivered.length) 0 (s_436.delivered.length)] false, .buf 1 (L (cSl cU8) s_436.delivered) false, .box [i64 k_437.Epoch, i64 k_437.To, i64 k_437.Seq, i64 k_437.Ack, .sl false (L cU8 k_437.Data)] false]) ⟨rfl, rfl, rfl, trivial⟩ ⟨_, _, orcs_nil, (by simp only [XOk]), ?_⟩ ?_
    · subst hz_453; simp only [go_sem, Int.reduceToNat, Nat.reduceLeDiff, hc_451]
    obtain rfl := Option.some.inj h
    refine wkP_of (Weak.refl _ _) ?_
    refine ret_own (.inl rfl) [0, 1] (by decide) rfl ?_ ?_
    · simp only [go_sem]
    · simp only [go_sem]
  · replace h := ite_f h hb
    refine run_skip ?_
    obtain rfl := Option.some.inj h
    refine wkP_of (Weak.refl _ _) ?_
    refine ret_own (.inl rfl) [0, 1] (by decide) rfl ?_ ?_
    · simp only [go_sem]
    · simp only [go_sem]

end Go.Proofs.Ytomjphpnpcgacaa
/-
  slices.Insert, at packets: the four roads through it, each from an explicit memory.
-/
namespace Go.Proofs.Ytomjphpnpcgacaa
open Go.Rv Go.RowKit
set_option linter.unusedVariables false
set_option linter.unusedSimpArgs false

/-- The model's answer for slices.overlaps, where the second slice lies in a block of which nothing is marked. -/
theorem run_overlaps_apart2 {P : Program} (w : World) (tS tR e : TypeId) (ht : P.underlying tS = some (.slice e)) (size : Nat) (hz : ∀ w, (Go.sizeOf e).run P w = .ok size w)
    (a b : Addr) (la ca lb cb : Nat) (hne : a.block ≠ b.block) (tA tB : TypeId) (kA kB : Nat)
    (hsa : w.shape? a.block = some (tA, kA)) (hsb : w.shape? b.block = some (tB, kB)) (hkA : kA ≠ 0)
    (hfb : w.frozen? b = false) (hfe : w.frozen? { block := b.block, off := kB } = false) :
    (Extern.SlicesOverlaps.overlaps #[tS, tS] #[tR] #[.slice (some a) la ca, .slice (some b) lb cb]).run P w = .ok (.bool false) w := by
  have hnb : (a.block != b.block) = true := by simpa using hne
  have hnb' : (a.block == b.block) = false := by simpa using hne
  change Sem.run P (α := Value) (do
    let some t := (#[tS, tS] : Array TypeId)[0]? | stuck "slices.overlaps: no parameter types"
    let .slice elem ← underlying t | stuck "slices.overlaps: slice type expected"
    let size ← sizeOf elem
    match (some a : Option Addr), (some b : Option Addr) with
    | some a, some b =>
      if la = 0 ∨ lb = 0 ∨ size = 0 then pure (Value.bool false)
      else if a.block != b.block && (← frozen a) && (← frozen b) then unsupported .addressObserved
      else do
        if a.block != b.block then do
          noView a; noView b
          if ← mayBeOne a b then return Value.bool ((← choose (.extern "sameAddr.stringBytes" 2)) == 1)
        pure (Value.bool (a.block == b.block && a.off < b.off + lb * size && b.off < a.off + la * size))
    | _, _ => pure (Value.bool false)) w = _
  by_cases h0 : la = 0 ∨ lb = 0 ∨ size = 0
  · simp [run_underlying ht, hz, h0]
  · cases kA with
    | zero => exact absurd rfl hkA
    | succ kA =>
      cases h1 : w.frozen? a <;> cases h2 : w.frozen? { block := a.block, off := kA + 1 } <;> simp [run_underlying ht, hz, h0, hnb, hnb', frozen, noView, viewAt, mayBeOne, stringish, shape, Sem.run, hsa, hsb, hfb, hfe, h1, h2]

theorem u23 : Try.prog.underlying 23 = some (.slice 39) := by kernel_rfl
theorem z39 (w : World) : (Go.sizeOf 39).run Try.prog w = .ok 5 w := run_size (ok.env fun _ => False) (tb39 (fun _ => False)) w

set_option maxHeartbeats 4000000 in
set_option maxRecDepth 100000 in
/-- There is room: in place. -/
theorem ins_shift (w : World) (β o n c i vc : Nat) (p : Addr) (cur OLD NEW : Array Value) (T : TypeId) (fz : Nat × Nat) (hi : i < n) (hroom : n + 1 ≤ c) (hn63 : n + 1 ≤ 140737488355328)
    (hh : w.heap[β]? = some (.cells cur T fz)) (hsz : o + c * 5 ≤ cur.size) (hfz : noFreeze fz 0 (cur.size + 1)) (hO : OLD.size = n * 5) (hOat : ∀ j, j < n * 5 → cur.getD (o + j) undef = OLD.getD j undef)
    (hN : NEW.size = 5) (hp : p.block ≠ β) (hNat : At w p NEW) (h1O : ∀ v ∈ OLD.toList, one v = true) (h1N : ∀ v ∈ NEW.toList, one v = true) :
    Calls Try.prog 58 #[.slice (some ⟨β, o, none⟩) n c, .int .i64 i, .slice (some p) 1 vc] w fun e w' =>
      e = .returned (.slice (some ⟨β, o, none⟩) (n + 1) c) ∧ w' = (w.drew.setRow β (seg cur (o + (i + 1) * 5) (OLD.extract (i * 5) (n * 5)))).setRow β (seg (seg cur (o + (i + 1) * 5) (OLD.extract (i * 5) (n * 5))) (o + i * 5) NEW) := by
  have mixed : Try.prog.follows Departure.mixedOrders = true := by kernel_rfl
  have u23 := u23
  have z39 := z39
  have ru23 := run_underlying (P := Try.prog) u23
  have hz2 : ¬ ((i : Int) = (n : Int)) := by omega
  have hz3 : ¬ ((c : Int) < (n : Int) + 1) := by omega
  have hw1 : IntKind.i64.wrap ((i : Int) + 1) = (i : Int) + 1 := by rw [IntKind.wrap_i64]; omega
  have hw2 : IntKind.i64.wrap ((n : Int) + 1) = (n : Int) + 1 := by rw [IntKind.wrap_i64]; omega
  have hb1 : (0 : Int) ≤ (i : Int) + 1 := by omega
  have hin : i ≤ n := by omega
  have hb2 : ¬ (c = i + 1) := by omega
  have hb4 : ¬ (c = i) := by omega
  have htn : ((i : Int) + 1).toNat = i + 1 := by omega
  have htn2 : ((n : Int) + 1).toNat = n + 1 := by omega
  have hb3 : (i : Int) ≤ (n : Int) + 1 := by omega
  have hfzn : ∀ j, j ≤ cur.size → w.frozen? ⟨β, j, none⟩ = false := by
    intro j hj
    have := hfz.2 j (Nat.zero_le _) (by omega)
    obtain ⟨lo, hi'⟩ := fz
    simp only [World.frozen?, hh, Bool.and_eq_false_iff, decide_eq_false_iff_not]
    simp only at this
    omega
  obtain ⟨tA, kA, hsa, hkA⟩ : ∃ tA kA, w.shape? p.block = some (tA, kA) ∧ kA ≠ 0 := by
    have h0 := hNat 0 (by omega)
    rw [Addr.add_zero'] at h0
    unfold World.cell? at h0
    unfold World.shape?
    cases hq : w.heap[p.block]? with
    | none => rw [hq] at h0; cases h0
    | some ob =>
      rw [hq] at h0
      cases ob with
      | cells cs t f =>
        refine ⟨t, cs.size, rfl, fun e => ?_⟩
        simp only at h0
        split at h0
        · cases h0
        · have := (Array.getElem?_eq_some_iff.1 h0).1
          omega
      | _ => simp at h0
  have hsb : w.shape? β = some (T, cur.size) := by unfold World.shape?; rw [hh]
  have hov : ∀ lb cb, (callFunc 67 #[.slice (some p) 1 vc, .slice (some ⟨β, o + (i + 1) * 5, none⟩) lb cb]).run Try.prog w = .ok (.value (.bool false)) w := fun lb cb => by
    have hle : o + (i + 1) * 5 ≤ cur.size := by omega
    rw [run_callFunc_extern (P := Try.prog) (f := 67) (fn := Try.f67) (by kernel_rfl) (by kernel_rfl) (by kernel_rfl) (by kernel_rfl) (e := Extern.SlicesOverlaps.overlaps #[23, 23] #[4]) (by kernel_rfl),
      run_overlaps_apart2 w 23 4 39 u23 5 z39 p ⟨β, o + (i + 1) * 5, none⟩ 1 vc lb cb hp tA T kA cur.size hsa hsb hkA (hfzn _ hle) (hfzn _ (Nat.le_refl _))]
    rfl
  have hdl : (OLD.extract (i * 5) (n * 5)).size = (n - i) * 5 := by simp; omega
  have hcp1 : ∀ ty dc sc, (Builtin.copy_ #[23, 23] ty #[.slice (some ⟨β, o + (i + 1) * 5, none⟩) (n - i) dc, .slice (some ⟨β, o + i * 5, none⟩) (n + 1 - i) sc]).run Try.prog w.drew = .ok (goInt ((n - i : Nat) : Int)) (w.drew.setRow β (seg cur (o + (i + 1) * 5) (OLD.extract (i * 5) (n * 5)))) := fun ty dc sc => by
    have hmn : Nat.min (n + 1 - i) (n - i) = n - i := by simp only [Nat.min_def]; split <;> omega
    have := run_copy_seg (P := Try.prog) (W := w.drew) (H := β) (o := o + (i + 1) * 5) (k := 5) (cur := cur) (T := T) (fz := fz) hh u23 z39 (ty := ty) (n - i) dc (n + 1 - i) sc ⟨β, o + i * 5, none⟩ (OLD.extract (i * 5) (n * 5)) (by rw [hmn, hdl])
      (at_row (w := w.drew) hh _ _ (fun j hj => by
        rw [hdl] at hj
        refine ⟨by omega, ?_⟩
        rw [Nat.add_assoc, hOat _ (by omega)]
        simp only [Array.getD_eq_getD_getElem?, Array.getElem?_extract]
        rw [if_pos (by omega)])) (hfz.sub (by omega) (by omega)) (by omega) (fun v hv => h1O v (by
          rw [Array.toList_extract] at hv
          exact List.mem_of_mem_drop (List.mem_of_mem_take hv)))
    rw [hmn] at this
    exact this
  obtain ⟨R1, hR1⟩ : ∃ R1, R1 = seg cur (o + (i + 1) * 5) (OLD.extract (i * 5) (n * 5)) := ⟨_, rfl⟩
  have hR1s : R1.size = cur.size := by rw [hR1]; exact seg_size (by omega)
  obtain ⟨W1, hW1⟩ : ∃ W1, W1 = w.drew.setRow β R1 := ⟨_, rfl⟩
  have hW1h : W1.heap[β]? = some (.cells R1 T fz) := by rw [hW1]; exact setRow_heap w.drew β cur R1 T fz hh
  have hW1c : At W1 p NEW := hNat.mono fun j u hj hc => by
    rw [hW1, ← hc]
    simp only [World.cell?, World.setRow, World.drew, Array.getElem?_modify]
    have : ¬ (β = (p.add j).block) := fun e => hp (by rw [show (p.add j).block = p.block by unfold Addr.add; split <;> rfl] at e; exact e.symm)
    rw [if_neg this]
  have hcp2 : ∀ (W : World), W.heap = W1.heap → ∀ ty dc, (Builtin.copy_ #[23, 23] ty #[.slice (some ⟨β, o + i * 5, none⟩) (n + 1 - i) dc, .slice (some p) 1 vc]).run Try.prog W = .ok (goInt ((1 : Nat) : Int)) (W.setRow β (seg R1 (o + i * 5) NEW)) := fun W hWh ty dc => by
    have hmn : Nat.min 1 (n + 1 - i) = 1 := by simp only [Nat.min_def]; split <;> omega
    have := run_copy_seg (P := Try.prog) (W := W) (H := β) (o := o + i * 5) (k := 5) (cur := R1) (T := T) (fz := fz) (by rw [hWh]; exact hW1h) u23 z39 (ty := ty) (n + 1 - i) dc 1 vc p NEW (by rw [hmn, hN])
      (hW1c.mono fun j u hj hc => by rw [← hc]; simp only [World.cell?, hWh]) (hfz.sub (by omega) (by omega)) (by omega) h1N
    rw [hmn] at this
    exact this
  rw [← hR1, ← hW1] at hcp1
  rw [← hR1, ← hW1]
  clear hOat hNat h1O h1N hsa hsb hfzn hfz hh hW1h hW1c hdl hR1 hW1 hR1s hsz
  go_enter Try.func58, Try.ntmps58
  go_wp2_with (simp only [hov])
  go_region_law_o (refine Go.Proofs.step_copy_runI rfl _ _ 23 23 rfl _ _ (by simp [Act.eval, Act.put]) (by simp [Act.eval, Act.put]) (hcp1 _ _ _) ?_)
  go_wp2_with (at_builtin; refine Go.Proofs.wpList_copy_runI _ rfl _ _ 23 23 rfl _ _ rfl rfl (hcp2 _ rfl _ _) ?_)
  go_ret
  exact ⟨rfl, rfl⟩

set_option maxHeartbeats 4000000 in
set_option maxRecDepth 100000 in
/-- At the end: what append does. -/
theorem ins_end (w : World) (base : Option Addr) (n c vc : Nat) (p : Addr) (u : Value) (w1 : World) (hnc : n ≤ c) (hnil : base = none → n = 0)
    (hrun : ∀ ty, (Builtin.append_ #[23, 23] ty #[.slice base n c, .slice (some p) 1 vc]).run Try.prog w = .ok u w1) :
    Calls Try.prog 58 #[.slice base n c, .int .i64 n, .slice (some p) 1 vc] w fun e w' => e = .returned u ∧ w' = w1 := by
  have mixed : Try.prog.follows Departure.mixedOrders = true := by kernel_rfl
  have u23 := u23
  have z39 := z39
  have ru23 := run_underlying (P := Try.prog) u23
  have hle : (n : Int) ≤ (n : Int) := Int.le_refl _
  go_enter Try.func58, Try.ntmps58
  cases base with
  | none =>
    have h0 := hnil rfl
    subst h0
    go_wp2_with (at_builtin; refine Lib.wpList_append_run _ rfl _ _ _ _ rfl _ _ rfl rfl _ _ (hrun _) ?_)
    all_goals (go_ret; exact ⟨rfl, rfl⟩)
  | some a =>
    obtain ⟨ab, ao, asp⟩ := a
    go_wp2_with (at_builtin; refine Lib.wpList_append_run _ rfl _ _ _ _ rfl _ _ rfl rfl _ _ (hrun _) ?_)
    all_goals (go_ret; exact ⟨rfl, rfl⟩)

/-- What a new row is like. -/
def growP (w : World) (H n i : Nat) (OLD NEW : Array Value) (e : Ending) (w' : World) : Prop :=
  ∃ (G : Nat) (R3 : Array Value), e = .returned (.slice (some ⟨H, 0, none⟩) (n + 1) G) ∧ n + 1 ≤ G ∧ OneMore w w' (.cells R3 39) ∧ R3.size = G * 5 ∧ ∀ j, j < (n + 1) * 5 → R3.getD j undef = insAt OLD NEW i 5 j

set_option maxHeartbeats 4000000 in
set_option maxRecDepth 100000 in
/-- There is no room: a new row. -/
theorem ins_grow (w : World) (H : Nat) (hH : H = w.heap.size) (β o n i vc : Nat) (p : Addr) (OLD NEW : Array Value) (hi : i < n) (hn63 : n + 1 ≤ 2513169434916) (hO : OLD.size = n * 5) (hOat : At w ⟨β, o, none⟩ OLD)
    (hN : NEW.size = 5) (hNat : At w p NEW) (h1O : ∀ v ∈ OLD.toList, one v = true) (h1N : ∀ v ∈ NEW.toList, one v = true) :
    Calls Try.prog 58 #[.slice (some ⟨β, o, none⟩) n n, .int .i64 i, .slice (some p) 1 vc] w (growP w H n i OLD NEW) := by
  have mixed : Try.prog.follows Departure.mixedOrders = true := by kernel_rfl
  have u23 := u23
  have z39 := z39
  have ru23 := run_underlying (P := Try.prog) u23
  have hz2 : ¬ ((i : Int) = (n : Int)) := by omega
  have hw1 : IntKind.i64.wrap ((i : Int) + 1) = (i : Int) + 1 := by rw [IntKind.wrap_i64]; omega
  have hw2 : IntKind.i64.wrap ((n : Int) + 1) = (n : Int) + 1 := by rw [IntKind.wrap_i64]; omega
  have hw3 : IntKind.i64.wrap ((n : Int) + 1 - (i : Int)) = (n : Int) + 1 - (i : Int) := by rw [IntKind.wrap_i64]; omega
  have hb1 : (0 : Int) ≤ (i : Int) + 1 := by omega
  have hin : i ≤ n := by omega
  have hb4 : ¬ (n = i) := by omega
  have htn : ((i : Int) + 1).toNat = i + 1 := by omega
  have hb3 : (i : Int) ≤ (n : Int) + 1 := by omega
  have hb5 : (i : Int) + 1 ≤ (n : Int) + 1 := by omega
  have hik : i + (n + 1 - i) = n + 1 := by omega
  have hkk : (n : Int) + 1 - (i : Int) = ((n + 1 - i : Nat) : Int) := by omega
  obtain ⟨i0, z0, hi0, hs0, hby0, hz0, hzs0, _⟩ := (ok.env fun _ => False).info 39 _ (tb39 fun _ => False)
  have hs0 : i0.size = 5 := hs0
  have hby0 : i0.bytes = 56 := hby0
  have hzs0 : z0.cells.size = 5 := hzs0
  have hbw : β < w.heap.size := cell?_lt (hOat 0 (by omega))
  have hpw : p.block < w.heap.size := by have := cell?_lt (hNat 0 (by omega)); rwa [Addr.add_zero'] at this
  have hold : (Builtin.firstCells i0.size i (.slice (some ⟨β, o, none⟩) i n)).run Try.prog w.drew = .ok (OLD.extract 0 (i * 5)).toList.toArray w.drew := by
    rw [hs0, Array.toArray_toList]
    refine first_of (w := w.drew) (fun j hj => ?_) (by simp; omega)
    have hj' : j < i * 5 := by simp at hj; omega
    have := hOat j (by omega)
    show w.cell? _ = _
    rw [this]
    simp only [Array.getD_eq_getD_getElem?, Array.getElem?_extract]
    rw [if_pos (by omega), Nat.zero_add]
  have hrz : ∀ ty, (Builtin.append_ #[23, 3] ty #[.slice (some ⟨β, o, none⟩) i n, .int .i64 ((n + 1 - i : Nat) : Int)]).run Try.prog w =
      .ok (.slice (some ⟨w.heap.size, 0, none⟩) (n + 1) (grownCap w (n + 1) n 39)) (w.drew.alloc (.cells ((OLD.extract 0 (i * 5)).toList.toArray ++ Builtin.zeroCells z0.cells (n + 1 - i) ++ Builtin.zeroCells z0.cells (grownCap w (n + 1) n 39 - (n + 1))) 39)) := fun ty => by
    have h := Lib.run_append_grow_zeros w 23 3 ty 39 i0 z0 .i64 .i64 u23 (by kernel_rfl) hi0 hz0 (some ⟨β, o, none⟩) i n (OLD.extract 0 (i * 5)).toList hold (n + 1 - i) (by omega) (by omega) (by omega) (by omega) (by rw [hby0]; omega)
      (by rw [hby0, hik]; exact growslice_fits (by omega) (by omega))
    rw [hik] at h
    exact h
  obtain ⟨G, hG⟩ : ∃ G, G = grownCap w (n + 1) n 39 := ⟨_, rfl⟩
  have hGn : n + 1 ≤ G := by rw [hG]; exact grownCap_ge w _ _ _
  rw [← hG] at hrz
  obtain ⟨R1, hR1⟩ : ∃ R1, R1 = (OLD.extract 0 (i * 5)).toList.toArray ++ Builtin.zeroCells z0.cells (n + 1 - i) ++ Builtin.zeroCells z0.cells (G - (n + 1)) := ⟨_, rfl⟩
  have hR1s : R1.size = G * 5 := by rw [hR1]; simp [Builtin.zeroCells, hzs0]; omega
  have hR1a : ∀ j, j < i * 5 → R1.getD j undef = OLD.getD j undef := fun j hj => by
    rw [hR1, Array.toArray_toList, Array.append_assoc]
    simp only [Array.getD_eq_getD_getElem?]
    rw [Array.getElem?_append_left (by simp; omega), Array.getElem?_extract, if_pos (by omega), Nat.zero_add]
  rw [← hR1] at hrz
  rw [← hH] at hrz hbw hpw
  obtain ⟨W1, hW1⟩ : ∃ W1, W1 = w.drew.alloc (.cells R1 39) := ⟨_, rfl⟩
  have hW1h : W1.heap[H]? = some (.cells R1 39 (0, 0)) := by rw [hW1, hH]; exact (oneMore_alloc w.drew _).new
  have hW1c : ∀ a u, w.cell? a = some u → W1.cell? a = some u := fun a u hc => by rw [hW1]; exact (oneMore_alloc w.drew _).cell hc
  have hW1o : W1.heap = w.heap.push (.cells R1 39) ∧ W1.os = w.os ∧ W1.tape = w.tape ∧ W1.output = w.output := by rw [hW1]; exact ⟨rfl, rfl, rfl, rfl⟩
  rw [← hW1] at hrz
  have hR2s : (seg R1 (i * 5) NEW).size = G * 5 := by rw [seg_size (by omega)]; exact hR1s
  obtain ⟨R2, hR2⟩ : ∃ R2, R2 = seg R1 (i * 5) NEW := ⟨_, rfl⟩
  rw [← hR2] at hR2s
  have hcp1 : ∀ (W : World), W.heap = W1.heap → ∀ ty dc, (Builtin.copy_ #[23, 23] ty #[.slice (some ⟨H, i * 5, none⟩) (n + 1 - i) dc, .slice (some p) 1 vc]).run Try.prog W = .ok (goInt ((1 : Nat) : Int)) (W.setRow H R2) := fun W hWh ty dc => by
    have hmn : Nat.min 1 (n + 1 - i) = 1 := by simp only [Nat.min_def]; split <;> omega
    have := run_copy_seg (P := Try.prog) (W := W) (H := H) (o := i * 5) (k := 5) (cur := R1) (T := 39) (fz := (0, 0)) (by rw [hWh]; exact hW1h) u23 z39 (ty := ty) (n + 1 - i) dc 1 vc p NEW (by rw [hmn, hN])
      (hNat.mono fun j u hj hc => by rw [← hW1c _ _ hc]; simp only [World.cell?, hWh]) (noFreeze_zero _ _) (by omega) h1N
    rw [hmn] at this
    rw [hR2]
    exact this
  have hdl : (OLD.extract (i * 5) (n * 5)).size = (n - i) * 5 := by simp; omega
  obtain ⟨R3, hR3⟩ : ∃ R3, R3 = seg R2 ((i + 1) * 5) (OLD.extract (i * 5) (n * 5)) := ⟨_, rfl⟩
  have hR3s : R3.size = G * 5 := by rw [hR3, seg_size (by omega)]; exact hR2s
  have hcp2 : ∀ (W : World), W.heap = (W1.setRow H R2).heap → ∀ ty dc sc, (Builtin.copy_ #[23, 23] ty #[.slice (some ⟨H, (i + 1) * 5, none⟩) (n - i) dc, .slice (some ⟨β, o + i * 5, none⟩) (n - i) sc]).run Try.prog W = .ok (goInt ((n - i : Nat) : Int)) (W.setRow H R3) := fun W hWh ty dc sc => by
    have hmn : Nat.min (n - i) (n - i) = n - i := Nat.min_self _
    have := run_copy_seg (P := Try.prog) (W := W) (H := H) (o := (i + 1) * 5) (k := 5) (cur := R2) (T := 39) (fz := (0, 0)) (by rw [hWh]; exact setRow_heap W1 H R1 R2 39 (0, 0) hW1h) u23 z39 (ty := ty) (n - i) dc (n - i) sc ⟨β, o + i * 5, none⟩ (OLD.extract (i * 5) (n * 5)) (by rw [hmn, hdl])
      (fun j hj => by
        rw [hdl] at hj
        have h1 := hW1c _ _ (hOat (i * 5 + j) (by omega))
        rw [add_none] at h1 ⊢
        rw [Nat.add_assoc]
        have e : W.cell? ⟨β, o + (i * 5 + j), none⟩ = W1.cell? ⟨β, o + (i * 5 + j), none⟩ := by
          simp only [World.cell?, hWh, World.setRow, Array.getElem?_modify]
          rw [if_neg (by omega)]
        rw [e, h1]
        simp only [Array.getD_eq_getD_getElem?, Array.getElem?_extract]
        rw [if_pos (by omega)]) (noFreeze_zero _ _) (by omega) (fun v hv => h1O v (by
          rw [Array.toList_extract] at hv
          exact List.mem_of_mem_drop (List.mem_of_mem_take hv)))
    rw [hmn] at this
    rw [hR3]
    exact this
  have hfin : ∀ j, j < (n + 1) * 5 → R3.getD j undef = insAt OLD NEW i 5 j := fun j hj => by
    unfold insAt
    rw [hR3, seg_getD (by omega), hdl]
    by_cases h1 : j < i * 5
    · rw [if_pos h1, if_neg (by omega), hR2, seg_getD (by omega), if_neg (by omega)]
      exact hR1a j h1
    · rw [if_neg h1]
      by_cases h2 : j < (i + 1) * 5
      · rw [if_pos h2, if_neg (by omega), hR2, seg_getD (by omega), if_pos (by omega)]
      · rw [if_neg h2, if_pos (by omega)]
        simp only [Array.getD_eq_getD_getElem?, Array.getElem?_extract]
        rw [if_pos (by omega), show i * 5 + (j - (i + 1) * 5) = j - 5 by omega]
  have hone : ∀ W : World, W.heap = ((W1.setRow H R2).setRow H R3).heap → W.os = w.os → W.tape = w.tape → W.output = w.output → OneMore w W (.cells R3 39) := fun W h1 h2 h3 h4 => ⟨by
    rw [h1]
    have e1 : (W1.setRow H R2).heap[H]? = some (.cells R2 39 (0, 0)) := setRow_heap W1 H R1 R2 39 (0, 0) hW1h
    have e2 := setRow_heap (W1.setRow H R2) H R2 R3 39 (0, 0) e1
    apply Array.ext_getElem?
    intro j
    by_cases e : j = H
    · subst e
      rw [e2, hH]
      simp
    · have : ((W1.setRow H R2).setRow H R3).heap[j]? = W1.heap[j]? := by
        simp only [World.setRow, Array.getElem?_modify]
        rw [if_neg (fun h => e h.symm), if_neg (fun h => e h.symm)]
      rw [this, hW1o.1, Array.getElem?_push, Array.getElem?_push, if_neg (by omega), if_neg (by omega)], h2, h3, h4⟩
  have hos := hW1o.2.1
  have htp := hW1o.2.2.1
  have hou := hW1o.2.2.2
  have hGi : ¬ (G = i) := by omega
  have hGi1 : ¬ (G = i + 1) := by omega
  clear hOat hNat h1O h1N hold hdl hR3 hR2 hR1 hW1 hG hR1a hW1h hW1c hW1o hi0 hz0 hs0 hby0 hzs0 hH
  go_enter Try.func58, Try.ntmps58
  go_wp2_with (at_builtin; first | refine Lib.wpList_append_run _ rfl _ _ _ _ rfl _ _ rfl rfl _ _ (hrz _) ?_ | refine Go.Proofs.wpList_copy_runI _ rfl _ _ 23 23 rfl _ _ rfl rfl (hcp1 _ rfl _ _) ?_)
  go_region_law_o (refine Go.Proofs.step_copy_runI rfl _ _ 23 23 rfl _ _ (by simp [Act.eval, Act.put]) (by simp [Act.eval, Act.put]) (hcp2 (W1.setRow H R2).drew rfl _ (G - (i + 1)) (n - i)) ?_)
  go_wp2
  go_ret
  exact ⟨G, R3, rfl, hGn, hone _ rfl hos htp hou, hR3s, hfin⟩
end Go.Proofs.Ytomjphpnpcgacaa
/-
  slices.Insert, at packets, as a contract of the library R.
-/
namespace Go.Proofs.Ytomjphpnpcgacaa
open Go.Rv Go.RowKit
set_option linter.unusedVariables false
set_option linter.unusedSimpArgs false
set_option maxRecDepth 20000

theorem elsRep_g {w : World} {pr : Addr → Prop} {g : Gh} {k : Nat} {vs : Array Value} {els : List (List AV)} (h : ElsRep w pr [] k vs els) : ElsRep w pr g k vs els :=
  ⟨h.1, fun i cs j x h1 h2 => ⟨(h.2 i cs j x h1 h2).1.mono (fun a u hc hp => ⟨hc, hp⟩) (GLe.nil _), (h.2 i cs j x h1 h2).2⟩⟩

theorem L_ins (s : List Api_Packet) (x : Api_Packet) (i : Nat) : L cApi_Packet (s.take i ++ [x] ++ s.drop i) = (L cApi_Packet s).take i ++ [cApi_Packet x] ++ (L cApi_Packet s).drop i := by
  simp [L]

theorem con_insert58 {s : List Api_Packet} {i : Int} {v r : List Api_Packet} (h : insertO 56 s i v = some r) : Con B 58 [.bs false 0 (s.length) 0 (s.length), i64 i, .sl false (L cApi_Packet v)] [.buf 5 (L cApi_Packet s) false] (fun r' σ' => r' = .bs false 0 (r.length) 0 (r.length) ∧ σ' = [.buf 5 (L cApi_Packet r) false]) := by
  unfold insertO at h
  split at h
  case isFalse => cases h
  rename_i hc
  obtain ⟨hi, hv1, hfit⟩ := hc
  obtain ⟨x, rfl⟩ := List.length_eq_one_iff.1 hv1
  obtain ⟨k, rfl⟩ : ∃ k : Nat, i = (k : Int) := ⟨i.toNat, by unfold InB at hi; omega⟩
  have hk : k ≤ s.length := by unfold InB at hi; omega
  rw [Int.toNat_natCast] at h
  simp only [Option.some.injEq] at h
  subst h
  obtain ⟨n, hn⟩ : ∃ n, n = s.length := ⟨_, rfl⟩
  have hfit1 : n + 1 ≤ 2513169434916 ∧ (n + 1) * 56 ≤ 140737488355328 := by unfold Fits maxLen roomB at hfit; omega
  obtain ⟨els, hels⟩ : ∃ els, els = L cApi_Packet s := ⟨_, rfl⟩
  have hel : els.length = n := by rw [hels, hn]; simp [L]
  have hes : ∀ c ∈ els, c.length = 5 := by rw [hels]; intro c hc; simp only [L, List.mem_map] at hc; obtain ⟨y, _, rfl⟩ := hc; rfl
  have hcx : (cApi_Packet x).length = 5 := rfl
  rw [L_ins, ← hels, show (s.take k ++ [x] ++ s.drop k).length = n + 1 by simp; omega, ← hn]
  rw [show L cApi_Packet [x] = [cApi_Packet x] from rfl]
  generalize cApi_Packet x = cx at hcx
  have hsz' : ∀ c ∈ els.take k ++ [cx] ++ els.drop k, c.length = 5 := insSize hes hcx
  have hlen' : (els.take k ++ [cx] ++ els.drop k).length = n + 1 := by simp; omega
  refine ⟨fun F w g vs hm ha => .inl ⟨⟨Try.f58, _, Try.func58, rfl, by decide +kernel⟩, ?_⟩⟩
  obtain ⟨vs⟩ := vs
  match vs, ha with
  | [a0, a1, a2], ⟨h0, h1, h2, _⟩ =>
    have hu := rep_int h1
    subst hu
    obtain ⟨a2a, a2l, a2c, rfl⟩ : ∃ a l c, a2 = .slice a l c := by cases h2; exact ⟨_, _, _, rfl⟩
    obtain ⟨e1, p, NEW, rfl, hNr, hNat, hNp⟩ := rows_sl (k := 5) h2 (by intro c hc; rw [List.mem_singleton] at hc; rw [hc]; exact hcx) (by simp)
    have e1 : 1 = a2l := e1
    subst e1
    have hN5 : NEW.size = 5 := by have := hNr.1; simpa using this
    have h1N : ∀ u ∈ NEW.toList, one u = true := elsRep_one hNr (by intro c hc; rw [List.mem_singleton] at hc; rw [hc]; exact hcx)
    have hσ0 : ([ABlk.buf 5 els false] : Store)[0]? = some (.buf 5 els false) := rfl
    by_cases hend : k = n
    · -- at the end
      subst hend
      have hy : appendA (B.env F) [.buf 5 els false] 23 (.bs false 0 k 0 k) (.sl false [cx]) = some (.bs false 0 (k + 1) 0 (k + 1), [.buf 5 (els ++ [cx]) false]) := by
        unfold appendA
        have hfa : k + 1 ≤ maxLen ∧ (k + 1) * 56 ≤ roomB := by unfold maxLen roomB; omega
        simp [tb23, tb39, view, strBad, hel, hcx, hfa]
      obtain ⟨u, w', g', hr, hm', hle, hev, hrep⟩ := append_sound (u := 23) (ty := 0) (ok.env F) hm h0 h2 (tb23 F) (by intro k' e'; cases e') hy
      have hrep0 := h0
      cases h0 with
      | bs _ _ _ _ _ _ _ b hgb hbx htot hat ho =>
        obtain ⟨k1, k2, k3, k4, k5, k6, k7⟩ := hm.blk 0 b _ hgb hσ0
        obtain ⟨a, cap, rfl, q2, q3, q4, q5⟩ := hat (by omega)
        refine (ins_end w a k cap a2c p u w' q2 (fun e => ?_) (fun ty => hr)).mono fun e w2 ⟨e1, e2⟩ => ?_
        · subst e
          rcases q5 with q5 | ⟨β, _, q5, _⟩
          · omega
          · cases q5
        · subst e1 e2
          refine ⟨u, _, _, g', rfl, ⟨rfl, ?_⟩, hm', hev.of_gle hle, hrep⟩
          rw [show els.take k = els by rw [← hel]; exact List.take_length, show els.drop k = [] by rw [← hel]; exact List.drop_length, List.append_nil]
    have hkn : k < n := by omega
    rw [show n = els.length from hel.symm] at h0
    obtain ⟨b, β, cap, arr, T, fz, hgb, hbx, hbro, hbk, hbl, hβ, rfl, hcap, hce, hh, hsz, hfz, _, hOr⟩ := rows_bs hm hσ0 h0 (by omega)
    rw [hel] at hbl hcap hOr
    simp only [hel]
    have hfz : noFreeze fz 0 (arr.size + 1) := hfz
    obtain ⟨OLD, hOLD⟩ : ∃ OLD, OLD = arr.extract b.o (b.o + n * 5) := ⟨_, rfl⟩
    rw [← hOLD] at hOr
    have hOs : OLD.size = n * 5 := by have := hOr.1; rw [hel] at this; exact this
    have h1O : ∀ u ∈ OLD.toList, one u = true := elsRep_one hOr hes
    have hOg : ∀ j, j < n * 5 → arr.getD (b.o + j) undef = OLD.getD j undef := fun j hj => by
      rw [hOLD]
      simp only [Array.getD_eq_getD_getElem?, Array.getElem?_extract]
      rw [if_pos (by omega)]
    have hOat : At w ⟨β, b.o, none⟩ OLD := at_row hh b.o OLD fun j hj => ⟨by omega, hOg j (by omega)⟩
    have hpβ : p.block ≠ β := fun e => by
      have hp := hNp 0 (by simp)
      rw [Addr.add_zero'] at hp
      have := (hp.2 0 b hgb (by rw [hβ, e])).1
      rw [hbro] at this
      cases this
    have hins := fun m c j x hm hj => insRep (i := k) hOr (elsRep_g (g := g) hNr) hes hcx (by omega) m c j x hm hj
    rw [hel] at hins
    by_cases hfull : cap = n
    · -- no room
      subst hfull
      refine (ins_grow w w.heap.size rfl β b.o cap k a2c p OLD NEW hkn (by omega) hOs hOat hN5 hNat h1O h1N).mono ?_
      rintro e w' ⟨G, R3, rfl, hG, hone, hRs, hR⟩
      have hmv := mem_move (b' := { blk := some w.heap.size, o := 0, k := 5, len := cap + 1, ce := G, isBox := false, ro := false }) (ab' := .buf 5 (els.take k ++ [cx] ++ els.drop k) false) hm hone hgb rfl (.inr ⟨hbx, rfl, by rw [hbl]; exact Nat.lt_succ_self _⟩) (by
        intro hcells hle
        refine ⟨rfl, rfl, rfl, hlen'.symm, fun i cs hi => hsz' cs (List.mem_of_getElem? hi), fun e => (by cases e), fun β' hβ' => ?_⟩
        cases hβ'
        refine ⟨R3, 39, (0, 0), hone.new, by simp; omega, by rw [hlen']; exact hG, noFreeze_zero _ _, fun m c j y hmm hj => ?_⟩
        obtain ⟨q1, q2, q3⟩ := hins m c j y hmm hj
        rw [show 0 + m * 5 + j = m * 5 + j by omega, hR _ q1]
        exact ⟨q2.mono hcells hle, q3⟩)
      refine ⟨_, _, _, _, rfl, ⟨rfl, rfl⟩, hmv.1, hmv.2.2.of_gle hmv.2.1, ?_⟩
      refine .bs _ _ _ _ _ _ _ _ (set_self hgb) rfl (Nat.le_refl _) (fun _ => ?_) rfl
      exact ⟨_, G, rfl, hG, (by intro h; cases h), by simp, .inr ⟨_, rfl, by simp, by simp⟩⟩
    · -- room
      have hc1 : n + 1 ≤ cap := by omega
      have hcs : b.o + cap * 5 ≤ arr.size := by
        have : cap * 5 ≤ b.ce * 5 := Nat.mul_le_mul_right 5 hce
        omega
      refine (ins_shift w β b.o n cap k a2c p arr OLD NEW T fz hkn hc1 (by omega) hh hcs hfz hOs hOg hN5 hpβ hNat h1O h1N).mono ?_
      rintro e w' ⟨rfl, rfl⟩
      have hd : (OLD.extract (k * 5) (n * 5)).size = (n - k) * 5 := by simp; omega
      obtain ⟨R1, hR1⟩ : ∃ R1, R1 = seg arr (b.o + (k + 1) * 5) (OLD.extract (k * 5) (n * 5)) := ⟨_, rfl⟩
      have hR1s : R1.size = arr.size := by rw [hR1]; exact seg_size (by omega)
      rw [← hR1]
      obtain ⟨R2, hR2⟩ : ∃ R2, R2 = seg R1 (b.o + k * 5) NEW := ⟨_, rfl⟩
      have hR2s : R2.size = arr.size := by rw [hR2, seg_size (by omega)]; exact hR1s
      rw [← hR2]
      have hR : ∀ j, j < (n + 1) * 5 → R2.getD (b.o + j) undef = insAt OLD NEW k 5 j := fun j hj => by
        unfold insAt
        rw [hR2, seg_getD (by omega)]
        by_cases h1 : j < k * 5
        · rw [if_pos h1, if_neg (by omega), hR1, seg_getD (by omega), if_neg (by omega)]
          exact hOg j (by omega)
        · rw [if_neg h1]
          by_cases h2 : j < (k + 1) * 5
          · rw [if_pos h2, if_pos (by omega), show b.o + j - (b.o + k * 5) = j - k * 5 by omega]
          · rw [if_neg h2, if_neg (by omega), hR1, seg_getD (by omega), if_pos (by omega)]
            simp only [Array.getD_eq_getD_getElem?, Array.getElem?_extract]
            rw [if_pos (by omega), show k * 5 + (b.o + j - (b.o + (k + 1) * 5)) = j - 5 by omega]
      have hx1 : (w.drew.setRow β R1).heap[β]? = some (.cells R1 T fz) := setRow_heap w.drew β arr R1 T fz hh
      have hw : Wrote w ((w.drew.setRow β R1).setRow β R2) β arr R2 T fz := by
        refine ⟨hh, setRow_heap _ β R1 R2 T fz hx1, hR2s, ?_, by simp [World.setRow], rfl, rfl, rfl⟩
        intro j hj
        simp only [World.setRow, World.drew, Array.getElem?_modify]
        rw [if_neg (fun e => hj e.symm), if_neg (fun e => hj e.symm)]
      have hmw := mem_write (b' := { b with len := n + 1 }) (ab' := .buf 5 (els.take k ++ [cx] ++ els.drop k) false) hm hw hgb hβ hβ (.inr ⟨hbx, hbx, by rw [hbl]; exact Nat.lt_succ_self _⟩) (by
        intro hro
        rw [hbro] at hro; cases hro) (by
        intro hcells hle
        refine ⟨hbx, hbro, hbk, hlen'.symm, fun i cs hi => hsz' cs (List.mem_of_getElem? hi), fun e => (by rw [hβ] at e; cases e), fun β' hβ' => ?_⟩
        simp only at hβ'
        rw [hβ] at hβ'; cases hβ'
        refine ⟨R2, T, fz, hw.now, by rw [hR2s]; exact hsz, by rw [hlen']; simp only; omega, by rw [hR2s]; exact hfz, fun m c j y hmm hj => ?_⟩
        obtain ⟨q1, q2, q3⟩ := hins m c j y hmm hj
        simp only
        rw [Nat.add_assoc, hR _ q1]
        exact ⟨q2.mono hcells hle, q3⟩)
      refine ⟨_, _, _, _, rfl, ⟨rfl, rfl⟩, hmw.1, hmw.2.2.of_gle hmw.2.1, ?_⟩
      refine .bs _ _ _ _ _ _ _ _ (set_self hgb) hbx (Nat.le_refl _) (fun _ => ?_) rfl
      exact ⟨_, cap, rfl, hc1, (by intro h; cases h), by simp, .inr ⟨β, hβ, by simp, by simpa using hce⟩⟩
end Go.Proofs.Ytomjphpnpcgacaa
/-
  The functions compute just that.
-/
namespace Go.Proofs.Ytomjphpnpcgacaa
open Go.Rv
set_option linter.unusedVariables false
set_option linter.unusedSimpArgs false
set_option maxRecDepth 20000
set_option maxHeartbeats 4000000

theorem window_side_deliver_con {s_454 : Window_side} {k_455 : Api_Packet} {r : Window_side} (h : window_side_deliver s_454 k_455 = some r) : Con B 43 [.ref 0 0, .agg [i64 k_455.Epoch, i64 k_455.To, i64 k_455.Seq, i64 k_455.Ack, .sl false (L cU8 k_455.Data)]] [.box [i64 s_454.Peer.Epoch, i64 s_454.Peer.Other, i64 s_454.Peer.First, .sl false (L (cSl cU8) s_454.Peer.Queue), i64 s_454.Peer.Next, .sl false (L cApi_Packet s_454.Peer.Early), i64 s_454.Peer.SentAt, .bs false 1 (s_454.delivered.length) 0 (s_454.delivered.length)] false, .buf 1 (L (cSl cU8) s_454.delivered) false] (fun r' σ' => r' = .tup [] ∧ σ' = [.box [i64 r.Peer.Epoch, i64 r.Peer.Other, i64 r.Peer.First, .sl false (L (cSl cU8) r.Peer.Queue), i64 r.Peer.Next, .sl false (L cApi_Packet r.Peer.Early), i64 r.Peer.SentAt, .bs false 1 (r.delivered.length) 0 (r.delivered.length)] false, .buf 1 (L (cSl cU8) r.delivered) false]) := by
  refine con_walk_own (N := 59) (rs := []) 2 rfl ok Try.func43 rfl (by decide +kernel) rfl rfl (Nat.le_of_ble_eq_true rfl) (fun F => ?_)
  have hE := ok.env F
  unfold window_side_deliver at h
  show Run (B.env F) 2 _ ⟨asFr 59 [(0, .ref 0 0), (1, .agg [i64 k_455.Epoch, i64 k_455.To, i64 k_455.Seq, i64 k_455.Ack, .sl false (L cU8 k_455.Data)])], [.box [i64 s_454.Peer.Epoch, i64 s_454.Peer.Other, i64 s_454.Peer.First, .sl false (L (cSl cU8) s_454.Peer.Queue), i64 s_454.Peer.Next, .sl false (L cApi_Packet s_454.Peer.Early), i64 s_454.Peer.SentAt, .bs false 1 (s_454.delivered.length) 0 (s_454.delivered.length)] false, .buf 1 (L (cSl cU8) s_454.delivered) false]⟩ _
  refine run_wkP ?_
  refine run_textE hE [0, 3] (fr' := [(0, .ref 0 0), (3, .ref 2 0)]) (σ' := [.box [i64 s_454.Peer.Epoch, i64 s_454.Peer.Other, i64 s_454.Peer.First, .sl false (L (cSl cU8) s_454.Peer.Queue), i64 s_454.Peer.Next, .sl false (L cApi_Packet s_454.Peer.Early), i64 s_454.Peer.SentAt, .bs false 1 (s_454.delivered.length) 0 (s_454.delivered.length)] false, .buf 1 (L (cSl cU8) s_454.delivered) false, .box [i64 k_455.Epoch, i64 k_455.To, i64 k_455.Seq, i64 k_455.Ack, .sl false (L cU8 k_455.Data)] false]) ⟨_, orcs_nil, ?_⟩ ?_
  · simp only [go_sem]
  refine run_seq ?_
  refine run_drawE hE mixed [[], [0], [], [2], [2, 3], [2, 3, 4], [2, 3, 4, 5], [0, 1, 2, 3, 4, 5, 6]] (by kernel_rfl) (by kernel_rfl) [0, 3, 11] (fr' := [(0, .ref 0 0), (3, .ref 2 0), (11, .bool ((k_455.Seq != s_454.Peer.Next)))]) (σ' := [.box [i64 s_454.Peer.Epoch, i64 s_454.Peer.Other, i64 s_454.Peer.First, .sl false (L (cSl cU8) s_454.Peer.Queue), i64 s_454.Peer.Next, .sl false (L cApi_Packet s_454.Peer.Early), i64 s_454.Peer.SentAt, .bs false 1 (s_454.delivered.length) 0 (s_454.delivered.length)] false, .buf 1 (L (cSl cU8) s_454.delivered) false, .box [i64 k_455.Epoch, i64 k_455.To, i64 k_455.Seq, i64 k_455.Ack, .sl false (L cU8 k_455.Data)] false]) ⟨_, orcs_nil, ?_⟩ ?_
  · simp only [go_sem]
  refine run_condL (b := (k_455.Seq != s_454.Peer.Next)) rfl (by decide) (fun hb => ?_) (fun hb => ?_)
  · replace h := ite_t h hb
    refine run_ret ?_
    refine thenK_r ?_
    obtain rfl := Option.some.inj h
    refine wkP_of (Weak.refl _ _) ?_
    refine ret_own (.inr rfl) [0, 1] (by decide) rfl ?_ ?_
    · simp only [go_sem]
    · simp only [go_sem]
  · replace h := ite_f h hb
    refine run_skip ?_
    refine thenK_n ?_
    replace h := bind_some1 h; obtain ⟨y_517, hy_518, h⟩ := h
    replace h := lt1_some h; obtain ⟨l_519, hz_520, h⟩ := h
    refine run_textE hE [0] (fr' := [(0, .ref 0 0)]) (σ' := [.box [i64 y_517.Peer.Epoch, i64 y_517.Peer.Other, i64 y_517.Peer.First, .sl false (L (cSl cU8) y_517.Peer.Queue), i64 y_517.Peer.Next, .sl false (L cApi_Packet y_517.Peer.Early), i64 y_517.Peer.SentAt, .bs false 1 (l_519.length) 0 (l_519.length)] false, .buf 1 (L (cSl cU8) l_519) false, .box [i64 k_455.Epoch, i64 k_455.To, i64 k_455.Seq, i64 k_455.Ack, .sl false (L cU8 k_455.Data)] false]) ⟨_, orcs_ok2 (l := []) (m := [(15, 60, [.ref 0 0, .sl false (L cU8 k_455.Data)], [.box [i64 s_454.Peer.Epoch, i64 s_454.Peer.Other, i64 s_454.Peer.First, .sl false (L (cSl cU8) s_454.Peer.Queue), i64 s_454.Peer.Next, .sl false (L cApi_Packet s_454.Peer.Early), i64 s_454.Peer.SentAt, .bs false 1 (s_454.delivered.length) 0 (s_454.delivered.length)] false, .buf 1 (L (cSl cU8) s_454.delivered) false, .box [i64 k_455.Epoch, i64 k_455.To, i64 k_455.Seq, i64 k_455.Ack, .sl false (L cU8 k_455.Data)] false], .tup [], [.box [i64 y_517.Peer.Epoch, i64 y_517.Peer.Other, i64 y_517.Peer.First, .sl false (L (cSl cU8) y_517.Peer.Queue), i64 y_517.Peer.Next, .sl false (L cApi_Packet y_517.Peer.Early), i64 y_517.Peer.SentAt, .bs false 1 (y_517.delivered.length) 0 (y_517.delivered.length)] false, .buf 1 (L (cSl cU8) y_517.delivered) false, .box [i64 k_455.Epoch, i64 k_455.To, i64 k_455.Seq, i64 k_455.Ack, .sl false (L cU8 k_455.Data)] false])]) trivial ⟨(wcon_call (window_side_take_con hy_518) [0, 1] (by decide) (by simp only [go_sem]) (by simp only [go_sem]) (by simp only [go_sem]) (by simp only [go_sem]) (by simp only [go_sem])), trivial⟩, ?_⟩ ?_
    · subst hz_520; simp only [go_sem]
    refine run_block ?_
    replace h := bind_some1 h; obtain ⟨x_561, hx_562, hj_563⟩ := h
    refine run_loopO hx_562 (fun (v : Int × Int × Int × List (List UInt8) × Int × List Api_Packet × Int × List (List UInt8)) => (⟨asFr 59 [(0, .ref 0 0)], [.box [i64 v.1, i64 v.2.1, i64 v.2.2.1, .sl false (L (cSl cU8) v.2.2.2.1), i64 v.2.2.2.2.1, .sl false (L cApi_Packet v.2.2.2.2.2.1), i64 v.2.2.2.2.2.2.1, .bs false 1 (v.2.2.2.2.2.2.2.length) 0 (v.2.2.2.2.2.2.2.length)] false, .buf 1 (L (cSl cU8) v.2.2.2.2.2.2.2) false]⟩ : St)) (weak_sel [0, 1] (by decide) rfl (by simp only [go_sem]) (by simp only [go_sem])) ?_
    rintro ⟨f_533, f_534, f_535, f_536, f_537, f_538, f_539, l_540⟩ o_564 h hxx_565
    replace h : window_side_deliver_b1 f_533 f_534 f_535 f_536 f_537 f_538 f_539 l_540 = some o_564 := h
    unfold window_side_deliver_b1 at h
    refine run_seq ?_
    replace h := bind_some1 h; obtain ⟨t_566, hv_567, h⟩ := h
    refine run_drawW hE mixed [[], [0], [0, 1], [0, 1, 2], [0, 1, 2, 3], [0, 1, 2, 3, 4], [0, 1, 2, 3, 4, 5], [0, 1, 2, 3, 4, 5, 6], [0, 1, 2, 3, 4, 5, 6, 7], [0, 1, 2, 3, 4, 5, 6, 7, 8], [0, 1, 2, 3, 4, 5, 6, 7, 8, 9], [0, 1, 2, 3, 4, 5, 6, 7, 8, 9, 10], [0, 1, 2, 3, 4, 5, 6, 7, 8, 9, 10, 11], [0, 1, 2, 3, 4, 5, 6, 7, 8, 9, 10, 11, 12], [0, 1, 2, 3, 4, 5, 6, 7, 8, 9, 10, 11, 12, 13], [0, 1, 2, 3, 4, 5, 6, 7, 8, 9, 10, 11, 12, 13, 14], [0, 1, 2, 3, 4, 5, 6, 7], [0, 1, 2, 3, 4, 5, 6, 7, 16], [0, 1, 2, 3, 4, 5, 6, 7, 16, 17], [0, 1, 2, 3, 4, 5, 6, 7, 16, 17, 18], [0, 1, 2, 3, 4, 5, 6, 7, 16, 17, 18, 19], [0, 1, 2, 3, 4, 5, 6, 7, 8, 9, 10, 11, 12, 13, 14, 15, 16, 17, 18, 19, 20], [0, 1, 2, 3, 4, 5, 6, 7, 8, 9, 10, 11, 12, 13, 14, 15, 16, 17, 18, 19, 20, 21]] (by kernel_rfl) (by kernel_rfl) [0, 38] (fr' := [(0, .ref 0 0), (38, .bool t_566)]) (σ' := [.box [i64 f_533, i64 f_534, i64 f_535, .sl false (L (cSl cU8) f_536), i64 f_537, .sl false (L cApi_Packet f_538), i64 f_539, .bs false 1 (l_540.length) 0 (l_540.length)] false, .buf 1 (L (cSl cU8) l_540) false]) ?_ ?_
    · rcases Bool.eq_false_or_eq_true ((decide ((f_538.length : Int) > 0))) with hb_568 | hb_568
      · replace hv_567 := ite_t hv_567 hb_568
        replace hv_567 := chk_some hv_567; obtain ⟨hc_569, hv_567⟩ := hv_567
        have e_hv_567 := Option.some.inj hv_567; subst e_hv_567
        exact ⟨_, [(0, .ref 0 0), (38, .bool (((nth f_538 0).Seq == f_537)))], [.box [i64 f_533, i64 f_534, i64 f_535, .sl false (L (cSl cU8) f_536), i64 f_537, .sl false (L cApi_Packet f_538), i64 f_539, .bs false 1 (l_540.length) 0 (l_540.length)] false, .buf 1 (L (cSl cU8) l_540) false], orcs_nil, by simp only [go_sem, Int.reduceToNat, hb_568, hc_569, (show 0 < f_538.length from hc_569.2)], (weak_sel [0, 1] (by decide) rfl (by simp only [go_sem]) (by simp only [go_sem]))⟩
      · replace hv_567 := ite_f hv_567 hb_568
        have e_hv_567 := Option.some.inj hv_567; subst e_hv_567
        exact ⟨_, [(0, .ref 0 0), (38, .bool false)], [.box [i64 f_533, i64 f_534, i64 f_535, .sl false (L (cSl cU8) f_536), i64 f_537, .sl false (L cApi_Packet f_538), i64 f_539, .bs false 1 (l_540.length) 0 (l_540.length)] false, .buf 1 (L (cSl cU8) l_540) false], orcs_nil, by simp only [go_sem, Int.reduceToNat, hb_568], (weak_sel [0, 1] (by decide) rfl (by simp only [go_sem]) (by simp only [go_sem]))⟩
    refine run_condL (b := t_566) rfl (by decide) (fun hb => ?_) (fun hb => ?_)
    · replace h := ite_t h hb
      refine run_skip ?_
      refine thenK_n ?_
      refine run_block ?_
      replace h := chk_some h; obtain ⟨hc_571, h⟩ := h
      replace h := bind_some1 h; obtain ⟨y_570, hy_572, h⟩ := h
      replace h := lt1_some h; obtain ⟨l_573, hz_574, h⟩ := h
      refine run_textE hE [0] (fr' := [(0, .ref 0 0)]) (σ' := [.box [i64 y_570.Peer.Epoch, i64 y_570.Peer.Other, i64 y_570.Peer.First, .sl false (L (cSl cU8) y_570.Peer.Queue), i64 y_570.Peer.Next, .sl false (L cApi_Packet y_570.Peer.Early), i64 y_570.Peer.SentAt, .bs false 1 (l_573.length) 0 (l_573.length)] false, .buf 1 (L (cSl cU8) l_573) false]) ⟨_, orcs_ok2 (l := []) (m := [(48, 60, [.ref 0 0, .sl false (L cU8 ((nth f_538 0).Data))], [.box [i64 f_533, i64 f_534, i64 f_535, .sl false (L (cSl cU8) f_536), i64 f_537, .sl false (L cApi_Packet f_538), i64 f_539, .bs false 1 (l_540.length) 0 (l_540.length)] false, .buf 1 (L (cSl cU8) l_540) false], .tup [], [.box [i64 y_570.Peer.Epoch, i64 y_570.Peer.Other, i64 y_570.Peer.First, .sl false (L (cSl cU8) y_570.Peer.Queue), i64 y_570.Peer.Next, .sl false (L cApi_Packet y_570.Peer.Early), i64 y_570.Peer.SentAt, .bs false 1 (y_570.delivered.length) 0 (y_570.delivered.length)] false, .buf 1 (L (cSl cU8) y_570.delivered) false])]) trivial ⟨(wcon_call (window_side_take_con hy_572) [0, 1] (by decide) (by simp only [go_sem]) (by simp only [go_sem]) (by simp only [go_sem]) (by simp only [go_sem]) (by simp only [go_sem])), trivial⟩, ?_⟩ ?_
      · subst hz_574; simp only [go_sem, Int.reduceToNat, hc_571, (show 0 < f_538.length from hc_571.2)]
      replace h := chk_some h; obtain ⟨hc_575, h⟩ := h
      replace h := lt1_some h; obtain ⟨f_576, hz_577, h⟩ := h
      refine run_textE0 hE (wk_block wk_lp) [0] (fr' := [(0, .ref 0 0)]) (σ' := [.box [i64 y_570.Peer.Epoch, i64 y_570.Peer.Other, i64 y_570.Peer.First, .sl false (L (cSl cU8) y_570.Peer.Queue), i64 y_570.Peer.Next, .sl false (L cApi_Packet f_576), i64 y_570.Peer.SentAt, .bs false 1 (l_573.length) 0 (l_573.length)] false, .buf 1 (L (cSl cU8) l_573) false]) ⟨_, orcs_nil, ?_⟩ ?_
      · subst hz_577; simp only [go_sem, Int.reduceToNat, Nat.reduceLeDiff, hc_575]
      refine blockK_n ?_
      obtain rfl := Option.some.inj h
      exact lpK_n ((y_570.Peer.Epoch, y_570.Peer.Other, y_570.Peer.First, y_570.Peer.Queue, y_570.Peer.Next, f_576, y_570.Peer.SentAt, l_573)) rfl (weak_sel [0, 1] (by decide) rfl (by simp only [go_sem]) (by simp only [go_sem]))
    · replace h := ite_f h hb
      refine run_exit ?_
      refine thenK_x ?_
      obtain rfl := Option.some.inj h
      have ex_x_561 := hxx_565 _ rfl
      subst ex_x_561
      have h := hj_563; clear hj_563
      refine lpK_x ?_
      refine blockK_x ?_
      obtain rfl := Option.some.inj h
      refine wkP_of (Weak.refl _ _) ?_
      refine ret_own (.inl rfl) [0, 1] (by decide) rfl ?_ ?_
      · simp only [go_sem]
      · simp only [go_sem]

theorem slices_Insert_58_con {s : List Api_Packet} {i : Int} {v : List Api_Packet} {r : List Api_Packet} (h : slices_Insert_58 s i v = some r) : Con B 58 [.bs false 0 (s.length) 0 (s.length), i64 i, .sl false (L cApi_Packet v)] [.buf 5 (L cApi_Packet s) false] (fun r' σ' => r' = .bs false 0 (r.length) 0 (r.length) ∧ σ' = [.buf 5 (L cApi_Packet r) false]) :=
  con_insert58 h

end Go.Proofs.Ytomjphpnpcgacaa
/-
  The functions compute just that.
-/
namespace Go.Proofs.Ytomjphpnpcgacaa
open Go.Rv
set_option linter.unusedVariables false
set_option linter.unusedSimpArgs false
set_option maxRecDepth 20000
set_option maxHeartbeats 4000000

theorem window_side_keep_con {s_578 : Window_side} {k_579 : Api_Packet} {r : Window_side} (h : window_side_keep s_578 k_579 = some r) : Con B 42 [.ref 0 0, .agg [i64 k_579.Epoch, i64 k_579.To, i64 k_579.Seq, i64 k_579.Ack, .sl false (L cU8 k_579.Data)]] [.box [i64 s_578.Peer.Epoch, i64 s_578.Peer.Other, i64 s_578.Peer.First, .sl false (L (cSl cU8) s_578.Peer.Queue), i64 s_578.Peer.Next, .sl false (L cApi_Packet s_578.Peer.Early), i64 s_578.Peer.SentAt, .bs false 1 (s_578.delivered.length) 0 (s_578.delivered.length)] false, .buf 1 (L (cSl cU8) s_578.delivered) false] (fun r' σ' => r' = .tup [] ∧ σ' = [.box [i64 r.Peer.Epoch, i64 r.Peer.Other, i64 r.Peer.First, .sl false (L (cSl cU8) r.Peer.Queue), i64 r.Peer.Next, .sl false (L cApi_Packet r.Peer.Early), i64 r.Peer.SentAt, .bs false 1 (r.delivered.length) 0 (r.delivered.length)] false, .buf 1 (L (cSl cU8) r.delivered) false]) := by
  refine con_walk_own (N := 57) (rs := []) 2 rfl ok Try.func42 rfl (by decide +kernel) rfl rfl (Nat.le_of_ble_eq_true rfl) (fun F => ?_)
  have hE := ok.env F
  unfold window_side_keep at h
  show Run (B.env F) 2 _ ⟨asFr 57 [(0, .ref 0 0), (1, .agg [i64 k_579.Epoch, i64 k_579.To, i64 k_579.Seq, i64 k_579.Ack, .sl false (L cU8 k_579.Data)])], [.box [i64 s_578.Peer.Epoch, i64 s_578.Peer.Other, i64 s_578.Peer.First, .sl false (L (cSl cU8) s_578.Peer.Queue), i64 s_578.Peer.Next, .sl false (L cApi_Packet s_578.Peer.Early), i64 s_578.Peer.SentAt, .bs false 1 (s_578.delivered.length) 0 (s_578.delivered.length)] false, .buf 1 (L (cSl cU8) s_578.delivered) false]⟩ _
  refine run_wkP ?_
  refine run_textE hE [0, 3] (fr' := [(0, .ref 0 0), (3, .ref 2 0)]) (σ' := [.box [i64 s_578.Peer.Epoch, i64 s_578.Peer.Other, i64 s_578.Peer.First, .sl false (L (cSl cU8) s_578.Peer.Queue), i64 s_578.Peer.Next, .sl false (L cApi_Packet s_578.Peer.Early), i64 s_578.Peer.SentAt, .bs false 1 (s_578.delivered.length) 0 (s_578.delivered.length)] false, .buf 1 (L (cSl cU8) s_578.delivered) false, .box [i64 k_579.Epoch, i64 k_579.To, i64 k_579.Seq, i64 k_579.Ack, .sl false (L cU8 k_579.Data)] false]) ⟨_, orcs_nil, ?_⟩ ?_
  · simp only [go_sem]
  refine run_seq ?_
  replace h := bind_some1 h; obtain ⟨t_591, hv_592, h⟩ := h
  refine run_drawW hE mixed [[], [0], [], [2], [2, 3], [2, 3, 4], [2, 3, 4, 5], [0, 1, 2, 3, 4, 5, 6], [0, 1, 2, 3, 4, 5, 6, 7], [0, 1, 2, 3, 4, 5, 6, 7, 8], [0, 1, 2, 3, 4, 5, 6, 7, 8, 9], [0, 1, 2, 3, 4, 5, 6, 7, 8], [0, 1, 2, 3, 4, 5, 6, 7, 8, 11], [0, 1, 2, 3, 4, 5, 6, 7, 8, 11, 12], [0, 1, 2, 3, 4, 5, 6, 7, 8, 11, 12, 13], [0, 1, 2, 3, 4, 5, 6, 7, 8, 11, 12, 13, 14], [0, 1, 2, 3, 4, 5, 6, 7, 8, 11, 12, 13, 14, 15], [0, 1, 2, 3, 4, 5, 6, 7, 8, 9, 10, 11, 12, 13, 14, 15, 16], [0, 1, 2, 3, 4, 5, 6, 7, 8, 9, 10, 11, 12, 13, 14, 15, 16, 17]] (by kernel_rfl) (by kernel_rfl) [0, 3, 24] (fr' := [(0, .ref 0 0), (3, .ref 2 0), (24, .bool t_591)]) (σ' := [.box [i64 s_578.Peer.Epoch, i64 s_578.Peer.Other, i64 s_578.Peer.First, .sl false (L (cSl cU8) s_578.Peer.Queue), i64 s_578.Peer.Next, .sl false (L cApi_Packet s_578.Peer.Early), i64 s_578.Peer.SentAt, .bs false 1 (s_578.delivered.length) 0 (s_578.delivered.length)] false, .buf 1 (L (cSl cU8) s_578.delivered) false, .box [i64 k_579.Epoch, i64 k_579.To, i64 k_579.Seq, i64 k_579.Ack, .sl false (L cU8 k_579.Data)] false]) ?_ ?_
  · rcases Bool.eq_false_or_eq_true ((decide (k_579.Seq ≤ s_578.Peer.Next))) with hb_593 | hb_593
    · replace hv_592 := ite_t hv_592 hb_593
      have e_hv_592 := Option.some.inj hv_592; subst e_hv_592
      exact ⟨_, [(0, .ref 0 0), (3, .ref 2 0), (24, .bool true)], [.box [i64 s_578.Peer.Epoch, i64 s_578.Peer.Other, i64 s_578.Peer.First, .sl false (L (cSl cU8) s_578.Peer.Queue), i64 s_578.Peer.Next, .sl false (L cApi_Packet s_578.Peer.Early), i64 s_578.Peer.SentAt, .bs false 1 (s_578.delivered.length) 0 (s_578.delivered.length)] false, .buf 1 (L (cSl cU8) s_578.delivered) false, .box [i64 k_579.Epoch, i64 k_579.To, i64 k_579.Seq, i64 k_579.Ack, .sl false (L cU8 k_579.Data)] false], orcs_nil, by simp only [go_sem, hb_593], (weak_sel [0, 1, 2] (by decide) rfl (by simp only [go_sem]) (by simp only [go_sem]))⟩
    · replace hv_592 := ite_f hv_592 hb_593
      have e_hv_592 := Option.some.inj hv_592; subst e_hv_592
      exact ⟨_, [(0, .ref 0 0), (3, .ref 2 0), (24, .bool ((decide (k_579.Seq ≥ (w64 (s_578.Peer.Next + 64))))))], [.box [i64 s_578.Peer.Epoch, i64 s_578.Peer.Other, i64 s_578.Peer.First, .sl false (L (cSl cU8) s_578.Peer.Queue), i64 s_578.Peer.Next, .sl false (L cApi_Packet s_578.Peer.Early), i64 s_578.Peer.SentAt, .bs false 1 (s_578.delivered.length) 0 (s_578.delivered.length)] false, .buf 1 (L (cSl cU8) s_578.delivered) false, .box [i64 k_579.Epoch, i64 k_579.To, i64 k_579.Seq, i64 k_579.Ack, .sl false (L cU8 k_579.Data)] false], orcs_nil, by simp only [go_sem, hb_593], (weak_sel [0, 1, 2] (by decide) rfl (by simp only [go_sem]) (by simp only [go_sem]))⟩
  refine run_condL (b := t_591) rfl (by decide) (fun hb => ?_) (fun hb => ?_)
  · replace h := ite_t h hb
    refine run_ret ?_
    refine thenK_r ?_
    obtain rfl := Option.some.inj h
    refine wkP_of (Weak.refl _ _) ?_
    refine ret_own (.inr rfl) [0, 1] (by decide) rfl ?_ ?_
    · simp only [go_sem]
    · simp only [go_sem]
  · replace h := ite_f h hb
    refine run_skip ?_
    refine thenK_n ?_
    replace h := bind_some1 h; obtain ⟨y_594, hy_595, h⟩ := h
    refine run_drawE hE mixed [[], [0], [0, 1], [0, 1, 2], [0, 1, 2, 3], [], [5], [0, 1, 2, 3, 4, 5, 6], [0, 1, 2, 3, 4, 5, 6, 7], [0, 1, 2, 3, 4, 5, 6, 7, 8], [0, 1, 2, 3, 4, 5, 6, 7, 8], [0, 1, 2, 3, 4, 5, 6, 7, 8, 9], [0, 1, 2, 3, 4, 5, 6, 7, 8, 9, 10, 11]] (by kernel_rfl) (by kernel_rfl) [0, 3, 4, 5] (fr' := [(0, .ref 0 0), (3, .ref 2 0), (4, i64 y_594.1), (5, .bool y_594.2)]) (σ' := [.box [i64 s_578.Peer.Epoch, i64 s_578.Peer.Other, i64 s_578.Peer.First, .sl false (L (cSl cU8) s_578.Peer.Queue), i64 s_578.Peer.Next, .sl false (L cApi_Packet s_578.Peer.Early), i64 s_578.Peer.SentAt, .bs false 1 (s_578.delivered.length) 0 (s_578.delivered.length)] false, .buf 1 (L (cSl cU8) s_578.delivered) false, .box [i64 k_579.Epoch, i64 k_579.To, i64 k_579.Seq, i64 k_579.Ack, .sl false (L cU8 k_579.Data)] false]) ⟨_, orcs_ok (l := [(33, 56, [.sl false (L cApi_Packet s_578.Peer.Early), i64 k_579.Seq, .fn 57 []], .tup [i64 y_594.1, .bool y_594.2])]) ⟨slices_BinarySearchFunc_56_con (fun h => window_side_keep_1_con h) hy_595, trivial⟩, ?_⟩ ?_
    · simp only [go_sem]
    refine run_textE hE [0, 3, 4, 37] (fr' := [(0, .ref 0 0), (3, .ref 2 0), (4, i64 y_594.1), (37, .bool ((!y_594.2)))]) (σ' := [.box [i64 s_578.Peer.Epoch, i64 s_578.Peer.Other, i64 s_578.Peer.First, .sl false (L (cSl cU8) s_578.Peer.Queue), i64 s_578.Peer.Next, .sl false (L cApi_Packet s_578.Peer.Early), i64 s_578.Peer.SentAt, .bs false 1 (s_578.delivered.length) 0 (s_578.delivered.length)] false, .buf 1 (L (cSl cU8) s_578.delivered) false, .box [i64 k_579.Epoch, i64 k_579.To, i64 k_579.Seq, i64 k_579.Ack, .sl false (L cU8 k_579.Data)] false]) ⟨_, orcs_nil, ?_⟩ ?_
    · simp only [go_sem]
    refine run_condL (b := (!y_594.2)) rfl (by decide) (fun hb => ?_) (fun hb => ?_)
    · replace h := ite_t h hb
      replace h := bind_some1 h; obtain ⟨y_596, hy_599, h⟩ := h
      replace h := bind_some1 h; obtain ⟨y_597, hy_600, h⟩ := h
      replace h := bind_some1 h; obtain ⟨y_598, hy_601, h⟩ := h
      refine run_drawS0 hE mixed [[], [], [1], [1, 2], [1, 2, 3], [1, 2, 3, 4], [1, 2, 3, 4, 5], [], [], [8], [], [10], [1, 2, 3, 4, 5, 6, 10, 11], [1, 2, 3, 4, 5, 6, 8, 9, 10, 11, 12], [1, 2, 3, 4, 5, 6, 8, 9, 10, 11, 12, 13], [1, 2, 3, 4, 5, 6, 7, 8, 9, 10, 11, 12, 13, 14], [0, 1, 2, 3, 4, 5, 6, 7, 8, 9, 10, 11, 12, 13, 14, 15], [0, 1, 2, 3, 4, 5, 6, 7, 8, 9, 10, 11, 12, 13, 14, 15, 16], [0, 1, 2, 3, 4, 5, 6, 7, 8, 9, 10, 11, 12, 13, 14, 15, 16, 17], [0, 1, 2, 3, 4, 5, 6, 7, 8, 9, 10, 11, 12, 13, 14, 15, 16, 17, 18]] (by kernel_rfl) [(3, 2), (46, 2), (48, 2)] [(44, 2)] [3, 46, 48] (by kernel_rfl) wk_wkP (fr' := [(3, .ref 2 0), (46, .ref 2 2), (48, .ref 2 4)]) (σ' := [.box [i64 s_578.Peer.Epoch, i64 s_578.Peer.Other, i64 s_578.Peer.First, .sl false (L (cSl cU8) s_578.Peer.Queue), i64 s_578.Peer.Next, .bs false 3 (y_598.length) 0 (y_598.length), i64 s_578.Peer.SentAt, .bs false 1 (s_578.delivered.length) 0 (s_578.delivered.length)] false, .buf 1 (L (cSl cU8) s_578.delivered) false, .box [i64 k_579.Epoch, i64 k_579.To, i64 k_579.Seq, i64 k_579.Ack, .sl false (L cU8 k_579.Data)] false, .buf 5 (L cApi_Packet y_598) false]) ⟨rfl, rfl, rfl, trivial⟩ ⟨_, _, orcs_ok2 (l := [(50, 39, [.sl false (L cU8 k_579.Data)], .sl false (L cU8 y_597))]) (m := [(44, 59, [.sl false (L cApi_Packet s_578.Peer.Early)], [.box [i64 s_578.Peer.Epoch, i64 s_578.Peer.Other, i64 s_578.Peer.First, .sl false (L (cSl cU8) s_578.Peer.Queue), i64 s_578.Peer.Next, .sl false (L cApi_Packet s_578.Peer.Early), i64 s_578.Peer.SentAt, .bs false 1 (s_578.delivered.length) 0 (s_578.delivered.length)] false, .buf 1 (L (cSl cU8) s_578.delivered) false, .box [i64 k_579.Epoch, i64 k_579.To, i64 k_579.Seq, i64 k_579.Ack, .sl false (L cU8 k_579.Data)] false], .bs false 3 (y_596.length) 0 (y_596.length), [.box [i64 s_578.Peer.Epoch, i64 s_578.Peer.Other, i64 s_578.Peer.First, .sl false (L (cSl cU8) s_578.Peer.Queue), i64 s_578.Peer.Next, .sl false (L cApi_Packet s_578.Peer.Early), i64 s_578.Peer.SentAt, .bs false 1 (s_578.delivered.length) 0 (s_578.delivered.length)] false, .buf 1 (L (cSl cU8) s_578.delivered) false, .box [i64 k_579.Epoch, i64 k_579.To, i64 k_579.Seq, i64 k_579.Ack, .sl false (L cU8 k_579.Data)] false, .buf 5 (L cApi_Packet y_596) false]), (53, 58, [.bs false 3 (y_596.length) 0 (y_596.length), i64 y_594.1, .sl false (L cApi_Packet (([({ Epoch := 0, To := 0, Seq := k_579.Seq, Ack := 0, Data := y_597 } : Api_Packet)] : List Api_Packet)))], [.box [i64 s_578.Peer.Epoch, i64 s_578.Peer.Other, i64 s_578.Peer.First, .sl false (L (cSl cU8) s_578.Peer.Queue), i64 s_578.Peer.Next, .sl false (L cApi_Packet s_578.Peer.Early), i64 s_578.Peer.SentAt, .bs false 1 (s_578.delivered.length) 0 (s_578.delivered.length)] false, .buf 1 (L (cSl cU8) s_578.delivered) false, .box [i64 k_579.Epoch, i64 k_579.To, i64 k_579.Seq, i64 k_579.Ack, .sl false (L cU8 k_579.Data)] false, .buf 5 (L cApi_Packet y_596) false], .bs false 3 (y_598.length) 0 (y_598.length), [.box [i64 s_578.Peer.Epoch, i64 s_578.Peer.Other, i64 s_578.Peer.First, .sl false (L (cSl cU8) s_578.Peer.Queue), i64 s_578.Peer.Next, .sl false (L cApi_Packet s_578.Peer.Early), i64 s_578.Peer.SentAt, .bs false 1 (s_578.delivered.length) 0 (s_578.delivered.length)] false, .buf 1 (L (cSl cU8) s_578.delivered) false, .box [i64 k_579.Epoch, i64 k_579.To, i64 k_579.Seq, i64 k_579.Ack, .sl false (L cU8 k_579.Data)] false, .buf 5 (L cApi_Packet y_598) false])]) ⟨window_own_con  hy_600, trivial⟩ ⟨(wcon_call (slices_Clone_59_con hy_599) [] (by decide) (by simp only [go_sem]) (by simp only [go_sem]) (by simp only [go_sem]) (by simp only [go_sem]) (by simp only [go_sem])), (wcon_call (slices_Insert_58_con hy_601) [3] (by decide) (by simp only [go_sem]) (by simp only [go_sem]) (by simp only [go_sem]) (by simp only [go_sem]) (by simp only [go_sem])), trivial⟩, (by repeat' (first | exact trivial | (refine And.intro ?_ ?_) | exact fun _ => rfl | exact fun h => absurd h (by decide))), ?_⟩ ?_
      · simp only [go_sem, Nat.reduceBEq, Nat.reduceMul, Nat.reduceSub, Nat.reduceGT, Nat.reducePow, Nat.reduceLeDiff, Int.reduceToNat]
      obtain rfl := Option.some.inj h
      refine wkP_of ((weak_freeze_box 0 5 rfl rfl rfl (by simp only [go_sem]) (by simp only [go_sem])).trans (Weak.refl _ _)) ?_
      refine ret_own (.inl rfl) [0, 1] (by decide) rfl ?_ ?_
      · simp only [go_sem]
      · simp only [go_sem]
    · replace h := ite_f h hb
      refine run_skip ?_
      obtain rfl := Option.some.inj h
      refine wkP_of (Weak.refl _ _) ?_
      refine ret_own (.inl rfl) [0, 1] (by decide) rfl ?_ ?_
      · simp only [go_sem]
      · simp only [go_sem]

end Go.Proofs.Ytomjphpnpcgacaa
