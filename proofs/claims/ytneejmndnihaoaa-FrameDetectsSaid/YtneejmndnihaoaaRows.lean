/-
  No cell of these rows narrows 'for every input' (looked for: loops, veiled, ifaces, maps, wideKeys, modest, calm, conditions, laid).
  DERIVED. THE GIVEN ROWS OF THIS SEAT. 7 by the template 'for every input the law returns true; each argument reads behind the call as it read before'; 0 by the template 'total and deterministic' (their statements: YtneejmndnihaoaaTotals.lean).
  GIVEN WITH THE SEED: the statements are not yours to turn. If you find one false, say at which input.
  Laid BY PROGRAM, IN A SANDBOX (cutbox-rows.mjs): the forced cells as the released guide's own fill.sh prints them over the translation 66c55056ec5ac237… (all of the seat's roots in one cut). By AI agents, Wed Nov 11 2026. No macro, syntax, notation, axiom, sorry.
-/
import Derived.Test.YtneejmndnihaoaaChecked
import GoSem.Claim
import GoSem.ClaimJoined
import GoSem.ClaimMapViews
import Derived.JoinedTies
import Derived.KernelRfl
namespace Go.Proofs.Ytneejmndnihaoaa
/- THE CELL 'sum', in the pinned program and in every row, IS THE sha256 OF THE DUMP (.gsa) THAT YtneejmndnihaoaaProg.lean LOADS. Nothing in Lean hashes anything: it is a label: what it is worth is what the hold of that sum in a sandbox is worth. -/
noncomputable def Try.pinned : Pinned := { name := "ytneejmndnihaoaa", sum := "66c55056ec5ac237d00434af9340294d43c50e6d64a1c0634c2170716bd79a16", checked := Try.checked }
namespace Rows
def none {H : Type} : Left H := { results := [], args := [] }

/-- 'wagonpoollaw10.FrameMatchesReference': WHATEVER THE INPUT: true; the input reads as it did. -/
def frameMatchesReferenceSpec : ChangeSpec := { name := "frameMatchesReference", fn := fun _ => fun
  | [d] => { results := [.lit (.bool true)], args := [d] }
  | _ => none }
def frameMatchesReferenceRow : OpenClaim := { program := "ytneejmndnihaoaa", sum := "66c55056ec5ac237d00434af9340294d43c50e6d64a1c0634c2170716bd79a16", func := "wagonpool/wagonpoollaw10.FrameMatchesReference", spec := "frameMatchesReference", apart := false }
def FrameMatchesReferenceSaid : Prop := frameMatchesReferenceRow.holds Try.pinned (OpenSpec.ofChange frameMatchesReferenceSpec)

/-- ITS FALSE NEIGHBOUR: 'it returns false'. Refute it at one input. -/
def frameMatchesReferenceWrong : ChangeSpec := { name := "frameMatchesReference", fn := fun _ => fun
  | [d] => { results := [.lit (.bool false)], args := [d] }
  | _ => none }
def FrameMatchesReferenceWrongFalsely : Prop := frameMatchesReferenceRow.holds Try.pinned (OpenSpec.ofChange frameMatchesReferenceWrong)

/-- 'wagonpoollaw10.FrameFeedMatchesReference': WHATEVER THE INPUT: true; the input reads as it did. -/
def frameFeedMatchesReferenceSpec : ChangeSpec := { name := "frameFeedMatchesReference", fn := fun _ => fun
  | [d1, d2] => { results := [.lit (.bool true)], args := [d1, d2] }
  | _ => none }
def frameFeedMatchesReferenceRow : OpenClaim := { program := "ytneejmndnihaoaa", sum := "66c55056ec5ac237d00434af9340294d43c50e6d64a1c0634c2170716bd79a16", func := "wagonpool/wagonpoollaw10.FrameFeedMatchesReference", spec := "frameFeedMatchesReference", apart := false }
def FrameFeedMatchesReferenceSaid : Prop := frameFeedMatchesReferenceRow.holds Try.pinned (OpenSpec.ofChange frameFeedMatchesReferenceSpec)

/-- ITS FALSE NEIGHBOUR: 'it returns false'. Refute it at one input. -/
def frameFeedMatchesReferenceWrong : ChangeSpec := { name := "frameFeedMatchesReference", fn := fun _ => fun
  | [d1, d2] => { results := [.lit (.bool false)], args := [d1, d2] }
  | _ => none }
def FrameFeedMatchesReferenceWrongFalsely : Prop := frameFeedMatchesReferenceRow.holds Try.pinned (OpenSpec.ofChange frameFeedMatchesReferenceWrong)

/-- 'wagonpoollaw10.FrameRoundTrip': WHATEVER THE INPUT: true; the input reads as it did. -/
def frameRoundTripSpec : ChangeSpec := { name := "frameRoundTrip", fn := fun _ => fun
  | [d] => { results := [.lit (.bool true)], args := [d] }
  | _ => none }
def frameRoundTripRow : OpenClaim := { program := "ytneejmndnihaoaa", sum := "66c55056ec5ac237d00434af9340294d43c50e6d64a1c0634c2170716bd79a16", func := "wagonpool/wagonpoollaw10.FrameRoundTrip", spec := "frameRoundTrip", apart := false }
def FrameRoundTripSaid : Prop := frameRoundTripRow.holds Try.pinned (OpenSpec.ofChange frameRoundTripSpec)

/-- ITS FALSE NEIGHBOUR: 'it returns false'. Refute it at one input. -/
def frameRoundTripWrong : ChangeSpec := { name := "frameRoundTrip", fn := fun _ => fun
  | [d] => { results := [.lit (.bool false)], args := [d] }
  | _ => none }
def FrameRoundTripWrongFalsely : Prop := frameRoundTripRow.holds Try.pinned (OpenSpec.ofChange frameRoundTripWrong)

/-- 'wagonpoollaw10.FrameDivision': WHATEVER THE INPUT: true; the input reads as it did. -/
def frameDivisionSpec : ChangeSpec := { name := "frameDivision", fn := fun _ => fun
  | [d1, d2, d3] => { results := [.lit (.bool true)], args := [d1, d2, d3] }
  | _ => none }
def frameDivisionRow : OpenClaim := { program := "ytneejmndnihaoaa", sum := "66c55056ec5ac237d00434af9340294d43c50e6d64a1c0634c2170716bd79a16", func := "wagonpool/wagonpoollaw10.FrameDivision", spec := "frameDivision", apart := false }
def FrameDivisionSaid : Prop := frameDivisionRow.holds Try.pinned (OpenSpec.ofChange frameDivisionSpec)

/-- ITS FALSE NEIGHBOUR: 'it returns false'. Refute it at one input. -/
def frameDivisionWrong : ChangeSpec := { name := "frameDivision", fn := fun _ => fun
  | [d1, d2, d3] => { results := [.lit (.bool false)], args := [d1, d2, d3] }
  | _ => none }
def FrameDivisionWrongFalsely : Prop := frameDivisionRow.holds Try.pinned (OpenSpec.ofChange frameDivisionWrong)

/-- 'wagonpoollaw10.FrameResynchronizes': WHATEVER THE INPUT: true; the input reads as it did. -/
def frameResynchronizesSpec : ChangeSpec := { name := "frameResynchronizes", fn := fun _ => fun
  | [d1, d2, d3] => { results := [.lit (.bool true)], args := [d1, d2, d3] }
  | _ => none }
def frameResynchronizesRow : OpenClaim := { program := "ytneejmndnihaoaa", sum := "66c55056ec5ac237d00434af9340294d43c50e6d64a1c0634c2170716bd79a16", func := "wagonpool/wagonpoollaw10.FrameResynchronizes", spec := "frameResynchronizes", apart := false }
def FrameResynchronizesSaid : Prop := frameResynchronizesRow.holds Try.pinned (OpenSpec.ofChange frameResynchronizesSpec)

/-- ITS FALSE NEIGHBOUR: 'it returns false'. Refute it at one input. -/
def frameResynchronizesWrong : ChangeSpec := { name := "frameResynchronizes", fn := fun _ => fun
  | [d1, d2, d3] => { results := [.lit (.bool false)], args := [d1, d2, d3] }
  | _ => none }
def FrameResynchronizesWrongFalsely : Prop := frameResynchronizesRow.holds Try.pinned (OpenSpec.ofChange frameResynchronizesWrong)

/-- 'wagonpoollaw10.FrameTransparent': WHATEVER THE INPUT: true; the input reads as it did. -/
def frameTransparentSpec : ChangeSpec := { name := "frameTransparent", fn := fun _ => fun
  | [d] => { results := [.lit (.bool true)], args := [d] }
  | _ => none }
def frameTransparentRow : OpenClaim := { program := "ytneejmndnihaoaa", sum := "66c55056ec5ac237d00434af9340294d43c50e6d64a1c0634c2170716bd79a16", func := "wagonpool/wagonpoollaw10.FrameTransparent", spec := "frameTransparent", apart := false }
def FrameTransparentSaid : Prop := frameTransparentRow.holds Try.pinned (OpenSpec.ofChange frameTransparentSpec)

/-- ITS FALSE NEIGHBOUR: 'it returns false'. Refute it at one input. -/
def frameTransparentWrong : ChangeSpec := { name := "frameTransparent", fn := fun _ => fun
  | [d] => { results := [.lit (.bool false)], args := [d] }
  | _ => none }
def FrameTransparentWrongFalsely : Prop := frameTransparentRow.holds Try.pinned (OpenSpec.ofChange frameTransparentWrong)

/-- 'wagonpoollaw10.FrameDetects': WHATEVER THE INPUT: true; the input reads as it did. -/
def frameDetectsSpec : ChangeSpec := { name := "frameDetects", fn := fun _ => fun
  | [d1, d2, d3] => { results := [.lit (.bool true)], args := [d1, d2, d3] }
  | _ => none }
def frameDetectsRow : OpenClaim := { program := "ytneejmndnihaoaa", sum := "66c55056ec5ac237d00434af9340294d43c50e6d64a1c0634c2170716bd79a16", func := "wagonpool/wagonpoollaw10.FrameDetects", spec := "frameDetects", apart := false }
def FrameDetectsSaid : Prop := frameDetectsRow.holds Try.pinned (OpenSpec.ofChange frameDetectsSpec)

/-- ITS FALSE NEIGHBOUR: 'it returns false'. Refute it at one input. -/
def frameDetectsWrong : ChangeSpec := { name := "frameDetects", fn := fun _ => fun
  | [d1, d2, d3] => { results := [.lit (.bool false)], args := [d1, d2, d3] }
  | _ => none }
def FrameDetectsWrongFalsely : Prop := frameDetectsRow.holds Try.pinned (OpenSpec.ofChange frameDetectsWrong)

/- THE SECOND FORM. 'bulk': how many values and letters a reading holds, each counted each time it is reached (what is shared counts as often as it is met; a slice's spare places count too). A statement '..UptoSaid' is the law's where the arguments, and the package variables that the reading takes, are together of bulk at most 1048576: NARROWER than '..Said'. Prove '..Said' where nothing that the law and all that it calls make is longer than what came in: it says more and counts as full. Else prove '..UptoSaid'. A law counts once. -/
mutual
def uptoBulk {H : Type} : DataW H → Nat
  | .lit (.string bytes) => bytes.length + 1
  | .lit _ => 1
  | .nil => 1
  | .ptr d => uptoBulk d + 1
  | .slice elems spare => uptoBulkAll elems + uptoBulkAll spare + 1
  | .agg parts => uptoBulkAll parts + 1
  | .iface _ d => uptoBulk d + 1
  | .map entries => uptoBulkEntries entries + 1
  | .held _ => 1
def uptoBulkAll {H : Type} : List (DataW H) → Nat
  | [] => 0
  | d :: r => uptoBulk d + uptoBulkAll r
def uptoBulkEntries {H : Type} : List (Lit × DataW H) → Nat
  | [] => 0
  | x :: r => uptoBulkEntry x + uptoBulkEntries r
def uptoBulkEntry {H : Type} : Lit × DataW H → Nat
  | (.string bytes, d) => bytes.length + uptoBulk d + 1
  | (_, d) => uptoBulk d + 1
 end
def uptoSmall : (H : Type) → List (DataW H) → Bool := fun _ ds => decide (uptoBulkAll ds ≤ 1048576)
def OpenSpec.upto (s : _root_.Go.ChangeSpec) : _root_.Go.OpenSpec := { _root_.Go.OpenSpec.ofChange s with cond := some uptoSmall }

/-- 'wagonpoollaw10.FrameMatchesReference', WHERE WHAT IT READS IS OF BULK AT MOST 1048576: true; the input reads as it did. -/
def frameMatchesReferenceUptoRow : OpenClaim := { program := "ytneejmndnihaoaa", sum := "66c55056ec5ac237d00434af9340294d43c50e6d64a1c0634c2170716bd79a16", func := "wagonpool/wagonpoollaw10.FrameMatchesReference", spec := "frameMatchesReference", apart := false, narrowed := true }
def FrameMatchesReferenceUptoSaid : Prop := frameMatchesReferenceUptoRow.holds Try.pinned (OpenSpec.upto frameMatchesReferenceSpec)

/-- 'wagonpoollaw10.FrameFeedMatchesReference', WHERE WHAT IT READS IS OF BULK AT MOST 1048576: true; the input reads as it did. -/
def frameFeedMatchesReferenceUptoRow : OpenClaim := { program := "ytneejmndnihaoaa", sum := "66c55056ec5ac237d00434af9340294d43c50e6d64a1c0634c2170716bd79a16", func := "wagonpool/wagonpoollaw10.FrameFeedMatchesReference", spec := "frameFeedMatchesReference", apart := false, narrowed := true }
def FrameFeedMatchesReferenceUptoSaid : Prop := frameFeedMatchesReferenceUptoRow.holds Try.pinned (OpenSpec.upto frameFeedMatchesReferenceSpec)

/-- 'wagonpoollaw10.FrameRoundTrip', WHERE WHAT IT READS IS OF BULK AT MOST 1048576: true; the input reads as it did. -/
def frameRoundTripUptoRow : OpenClaim := { program := "ytneejmndnihaoaa", sum := "66c55056ec5ac237d00434af9340294d43c50e6d64a1c0634c2170716bd79a16", func := "wagonpool/wagonpoollaw10.FrameRoundTrip", spec := "frameRoundTrip", apart := false, narrowed := true }
def FrameRoundTripUptoSaid : Prop := frameRoundTripUptoRow.holds Try.pinned (OpenSpec.upto frameRoundTripSpec)

/-- 'wagonpoollaw10.FrameDivision', WHERE WHAT IT READS IS OF BULK AT MOST 1048576: true; the input reads as it did. -/
def frameDivisionUptoRow : OpenClaim := { program := "ytneejmndnihaoaa", sum := "66c55056ec5ac237d00434af9340294d43c50e6d64a1c0634c2170716bd79a16", func := "wagonpool/wagonpoollaw10.FrameDivision", spec := "frameDivision", apart := false, narrowed := true }
def FrameDivisionUptoSaid : Prop := frameDivisionUptoRow.holds Try.pinned (OpenSpec.upto frameDivisionSpec)

/-- 'wagonpoollaw10.FrameResynchronizes', WHERE WHAT IT READS IS OF BULK AT MOST 1048576: true; the input reads as it did. -/
def frameResynchronizesUptoRow : OpenClaim := { program := "ytneejmndnihaoaa", sum := "66c55056ec5ac237d00434af9340294d43c50e6d64a1c0634c2170716bd79a16", func := "wagonpool/wagonpoollaw10.FrameResynchronizes", spec := "frameResynchronizes", apart := false, narrowed := true }
def FrameResynchronizesUptoSaid : Prop := frameResynchronizesUptoRow.holds Try.pinned (OpenSpec.upto frameResynchronizesSpec)

/-- 'wagonpoollaw10.FrameTransparent', WHERE WHAT IT READS IS OF BULK AT MOST 1048576: true; the input reads as it did. -/
def frameTransparentUptoRow : OpenClaim := { program := "ytneejmndnihaoaa", sum := "66c55056ec5ac237d00434af9340294d43c50e6d64a1c0634c2170716bd79a16", func := "wagonpool/wagonpoollaw10.FrameTransparent", spec := "frameTransparent", apart := false, narrowed := true }
def FrameTransparentUptoSaid : Prop := frameTransparentUptoRow.holds Try.pinned (OpenSpec.upto frameTransparentSpec)

/-- 'wagonpoollaw10.FrameDetects', WHERE WHAT IT READS IS OF BULK AT MOST 1048576: true; the input reads as it did. -/
def frameDetectsUptoRow : OpenClaim := { program := "ytneejmndnihaoaa", sum := "66c55056ec5ac237d00434af9340294d43c50e6d64a1c0634c2170716bd79a16", func := "wagonpool/wagonpoollaw10.FrameDetects", spec := "frameDetects", apart := false, narrowed := true }
def FrameDetectsUptoSaid : Prop := frameDetectsUptoRow.holds Try.pinned (OpenSpec.upto frameDetectsSpec)

end Rows
end Go.Proofs.Ytneejmndnihaoaa
