/-
  NARROWER THAN 'FOR EVERY INPUT', by the rows' own cells (each row's printed sentence says how): WindowCodec: loops.
  DERIVED. THE GIVEN ROWS OF THIS SEAT. 7 by the template 'for every input the law returns true; each argument reads behind the call as it read before'; 0 by the template 'total and deterministic' (their statements: YtomjphpnpcgacaaTotals.lean).
  GIVEN WITH THE SEED: the statements are not yours to turn. If you find one false, say at which input.
  Laid BY PROGRAM, IN A SANDBOX (cutbox-rows.mjs): the forced cells as the released guide's own fill.sh prints them over the translation 14954b6c9c147fdf… (all of the seat's roots in one cut). By AI agents, Wed Nov 11 2026. No macro, syntax, notation, axiom, sorry.
-/
import Derived.Test.YtomjphpnpcgacaaChecked
import GoSem.Claim
import GoSem.ClaimJoined
import GoSem.ClaimMapViews
import Derived.JoinedTies
import Derived.KernelRfl
namespace Go.Proofs.Ytomjphpnpcgacaa
/- THE CELL 'sum', in the pinned program and in every row, IS THE sha256 OF THE DUMP (.gsa) THAT YtomjphpnpcgacaaProg.lean LOADS. Nothing in Lean hashes anything: it is a label: what it is worth is what the hold of that sum in a sandbox is worth. -/
noncomputable def Try.pinned : Pinned := { name := "ytomjphpnpcgacaa", sum := "14954b6c9c147fdf0f9b3990ff6d8f3684873b39413977fa3705bf8fd4d35076", checked := Try.checked }
namespace Rows
def none {H : Type} : Left H := { results := [], args := [] }

/-- 'wagonpoollaw12.WindowMatches': WHATEVER THE INPUT: true; the input reads as it did. -/
def windowMatchesSpec : ChangeSpec := { name := "windowMatches", fn := fun _ => fun
  | [d1, d2, d3, d4] => { results := [.lit (.bool true)], args := [d1, d2, d3, d4] }
  | _ => none }
def windowMatchesRow : OpenClaim := { program := "ytomjphpnpcgacaa", sum := "14954b6c9c147fdf0f9b3990ff6d8f3684873b39413977fa3705bf8fd4d35076", func := "wagonpool/wagonpoollaw12.WindowMatches", spec := "windowMatches", inPlace := ["slices.overlaps[wagonpool/api.Packet]"], unfollowed := true, recurses := true, apart := false }
def WindowMatchesSaid : Prop := windowMatchesRow.holds Try.pinned (OpenSpec.ofChange windowMatchesSpec)

/-- ITS FALSE NEIGHBOUR: 'it returns false'. Refute it at one input. -/
def windowMatchesWrong : ChangeSpec := { name := "windowMatches", fn := fun _ => fun
  | [d1, d2, d3, d4] => { results := [.lit (.bool false)], args := [d1, d2, d3, d4] }
  | _ => none }
def WindowMatchesWrongFalsely : Prop := windowMatchesRow.holds Try.pinned (OpenSpec.ofChange windowMatchesWrong)

/-- 'wagonpoollaw12.WindowMatchesAccept': WHATEVER THE INPUT: true; the input reads as it did. -/
def windowMatchesAcceptSpec : ChangeSpec := { name := "windowMatchesAccept", fn := fun _ => fun
  | [d1, d2] => { results := [.lit (.bool true)], args := [d1, d2] }
  | _ => none }
def windowMatchesAcceptRow : OpenClaim := { program := "ytomjphpnpcgacaa", sum := "14954b6c9c147fdf0f9b3990ff6d8f3684873b39413977fa3705bf8fd4d35076", func := "wagonpool/wagonpoollaw12.WindowMatchesAccept", spec := "windowMatchesAccept", inPlace := ["slices.overlaps[wagonpool/api.Packet]"], unfollowed := true, recurses := true, apart := false }
def WindowMatchesAcceptSaid : Prop := windowMatchesAcceptRow.holds Try.pinned (OpenSpec.ofChange windowMatchesAcceptSpec)

/-- ITS FALSE NEIGHBOUR: 'it returns false'. Refute it at one input. -/
def windowMatchesAcceptWrong : ChangeSpec := { name := "windowMatchesAccept", fn := fun _ => fun
  | [d1, d2] => { results := [.lit (.bool false)], args := [d1, d2] }
  | _ => none }
def WindowMatchesAcceptWrongFalsely : Prop := windowMatchesAcceptRow.holds Try.pinned (OpenSpec.ofChange windowMatchesAcceptWrong)

/-- 'wagonpoollaw12.WindowDelivers': WHATEVER THE INPUT: true; the input reads as it did. -/
def windowDeliversSpec : ChangeSpec := { name := "windowDelivers", fn := fun _ => fun
  | [d] => { results := [.lit (.bool true)], args := [d] }
  | _ => none }
def windowDeliversRow : OpenClaim := { program := "ytomjphpnpcgacaa", sum := "14954b6c9c147fdf0f9b3990ff6d8f3684873b39413977fa3705bf8fd4d35076", func := "wagonpool/wagonpoollaw12.WindowDelivers", spec := "windowDelivers", inPlace := ["slices.overlaps[wagonpool/api.Packet]"], unfollowed := true, recurses := true, apart := false }
def WindowDeliversSaid : Prop := windowDeliversRow.holds Try.pinned (OpenSpec.ofChange windowDeliversSpec)

/-- ITS FALSE NEIGHBOUR: 'it returns false'. Refute it at one input. -/
def windowDeliversWrong : ChangeSpec := { name := "windowDelivers", fn := fun _ => fun
  | [d] => { results := [.lit (.bool false)], args := [d] }
  | _ => none }
def WindowDeliversWrongFalsely : Prop := windowDeliversRow.holds Try.pinned (OpenSpec.ofChange windowDeliversWrong)

/-- 'wagonpoollaw12.WindowCompletes': WHATEVER THE INPUT: true; the input reads as it did. -/
def windowCompletesSpec : ChangeSpec := { name := "windowCompletes", fn := fun _ => fun
  | [d1, d2] => { results := [.lit (.bool true)], args := [d1, d2] }
  | _ => none }
def windowCompletesRow : OpenClaim := { program := "ytomjphpnpcgacaa", sum := "14954b6c9c147fdf0f9b3990ff6d8f3684873b39413977fa3705bf8fd4d35076", func := "wagonpool/wagonpoollaw12.WindowCompletes", spec := "windowCompletes", inPlace := ["slices.overlaps[wagonpool/api.Packet]"], unfollowed := true, recurses := true, apart := false }
def WindowCompletesSaid : Prop := windowCompletesRow.holds Try.pinned (OpenSpec.ofChange windowCompletesSpec)

/-- ITS FALSE NEIGHBOUR: 'it returns false'. Refute it at one input. -/
def windowCompletesWrong : ChangeSpec := { name := "windowCompletes", fn := fun _ => fun
  | [d1, d2] => { results := [.lit (.bool false)], args := [d1, d2] }
  | _ => none }
def WindowCompletesWrongFalsely : Prop := windowCompletesRow.holds Try.pinned (OpenSpec.ofChange windowCompletesWrong)

/-- 'wagonpoollaw12.WindowTwice': WHATEVER THE INPUT: true; the input reads as it did. -/
def windowTwiceSpec : ChangeSpec := { name := "windowTwice", fn := fun _ => fun
  | [d1, d2] => { results := [.lit (.bool true)], args := [d1, d2] }
  | _ => none }
def windowTwiceRow : OpenClaim := { program := "ytomjphpnpcgacaa", sum := "14954b6c9c147fdf0f9b3990ff6d8f3684873b39413977fa3705bf8fd4d35076", func := "wagonpool/wagonpoollaw12.WindowTwice", spec := "windowTwice", inPlace := ["slices.overlaps[wagonpool/api.Packet]"], unfollowed := true, recurses := true, apart := false }
def WindowTwiceSaid : Prop := windowTwiceRow.holds Try.pinned (OpenSpec.ofChange windowTwiceSpec)

/-- ITS FALSE NEIGHBOUR: 'it returns false'. Refute it at one input. -/
def windowTwiceWrong : ChangeSpec := { name := "windowTwice", fn := fun _ => fun
  | [d1, d2] => { results := [.lit (.bool false)], args := [d1, d2] }
  | _ => none }
def WindowTwiceWrongFalsely : Prop := windowTwiceRow.holds Try.pinned (OpenSpec.ofChange windowTwiceWrong)

/-- 'wagonpoollaw12.WindowReorders': WHATEVER THE INPUT: true; the input reads as it did. -/
def windowReordersSpec : ChangeSpec := { name := "windowReorders", fn := fun _ => fun
  | [d1, d2] => { results := [.lit (.bool true)], args := [d1, d2] }
  | _ => none }
def windowReordersRow : OpenClaim := { program := "ytomjphpnpcgacaa", sum := "14954b6c9c147fdf0f9b3990ff6d8f3684873b39413977fa3705bf8fd4d35076", func := "wagonpool/wagonpoollaw12.WindowReorders", spec := "windowReorders", inPlace := ["slices.overlaps[wagonpool/api.Packet]"], unfollowed := true, recurses := true, apart := false }
def WindowReordersSaid : Prop := windowReordersRow.holds Try.pinned (OpenSpec.ofChange windowReordersSpec)

/-- ITS FALSE NEIGHBOUR: 'it returns false'. Refute it at one input. -/
def windowReordersWrong : ChangeSpec := { name := "windowReorders", fn := fun _ => fun
  | [d1, d2] => { results := [.lit (.bool false)], args := [d1, d2] }
  | _ => none }
def WindowReordersWrongFalsely : Prop := windowReordersRow.holds Try.pinned (OpenSpec.ofChange windowReordersWrong)

/-- 'wagonpoollaw12.WindowCodec': WHATEVER THE INPUT: true; the input reads as it did. -/
def windowCodecSpec : ChangeSpec := { name := "windowCodec", fn := fun _ => fun
  | [d1, d2, d3] => { results := [.lit (.bool true)], args := [d1, d2, d3] }
  | _ => none }
def windowCodecRow : OpenClaim := { program := "ytomjphpnpcgacaa", sum := "14954b6c9c147fdf0f9b3990ff6d8f3684873b39413977fa3705bf8fd4d35076", func := "wagonpool/wagonpoollaw12.WindowCodec", spec := "windowCodec", inPlace := ["slices.overlaps[wagonpool/api.Packet]"], unfollowed := true, recurses := true, loops := true, apart := false }
def WindowCodecSaid : Prop := windowCodecRow.holds Try.pinned (OpenSpec.ofChange windowCodecSpec)

/-- ITS FALSE NEIGHBOUR: 'it returns false'. Refute it at one input. -/
def windowCodecWrong : ChangeSpec := { name := "windowCodec", fn := fun _ => fun
  | [d1, d2, d3] => { results := [.lit (.bool false)], args := [d1, d2, d3] }
  | _ => none }
def WindowCodecWrongFalsely : Prop := windowCodecRow.holds Try.pinned (OpenSpec.ofChange windowCodecWrong)

/- THE SECOND FORM. 'bulk': how many values and letters a reading holds, each counted each time it is reached (what is shared counts as often as it is met; a slice's spare places count too). A statement '..UptoSaid' is the law's where the arguments, and the package variables that the reading takes, are together of bulk at most 1048576: NARROWER than '..Said'. Prove '..Said' where nothing that the law and all that it calls make is longer than what came in: it says more and counts as full. Else prove '..UptoSaid'. A law counts once. -/
mutual
def uptoBulk {H : Type} : DataW H → Nat
  | .lit (.string bytes) => bytes.length + 1
  | .lit _ => 1
  | .nil => 1
  | .ptr d => uptoBulk d + 1
  | .slice elems spare => uptoBulkAll elems + uptoBulkAll spare + 1
  | .agg parts => uptoBulkAll parts + 1
  | .iface _ d => uptoBulk d + 1
  | .map entries => uptoBulkEntries entries + 1
  | .held _ => 1
def uptoBulkAll {H : Type} : List (DataW H) → Nat
  | [] => 0
  | d :: r => uptoBulk d + uptoBulkAll r
def uptoBulkEntries {H : Type} : List (Lit × DataW H) → Nat
  | [] => 0
  | x :: r => uptoBulkEntry x + uptoBulkEntries r
def uptoBulkEntry {H : Type} : Lit × DataW H → Nat
  | (.string bytes, d) => bytes.length + uptoBulk d + 1
  | (_, d) => uptoBulk d + 1
 end
def uptoSmall : (H : Type) → List (DataW H) → Bool := fun _ ds => decide (uptoBulkAll ds ≤ 1048576)
def OpenSpec.upto (s : _root_.Go.ChangeSpec) : _root_.Go.OpenSpec := { _root_.Go.OpenSpec.ofChange s with cond := some uptoSmall }

/-- 'wagonpoollaw12.WindowMatches', WHERE WHAT IT READS IS OF BULK AT MOST 1048576: true; the input reads as it did. -/
def windowMatchesUptoRow : OpenClaim := { program := "ytomjphpnpcgacaa", sum := "14954b6c9c147fdf0f9b3990ff6d8f3684873b39413977fa3705bf8fd4d35076", func := "wagonpool/wagonpoollaw12.WindowMatches", spec := "windowMatches", inPlace := ["slices.overlaps[wagonpool/api.Packet]"], unfollowed := true, recurses := true, apart := false, narrowed := true }
def WindowMatchesUptoSaid : Prop := windowMatchesUptoRow.holds Try.pinned (OpenSpec.upto windowMatchesSpec)

/-- 'wagonpoollaw12.WindowMatchesAccept', WHERE WHAT IT READS IS OF BULK AT MOST 1048576: true; the input reads as it did. -/
def windowMatchesAcceptUptoRow : OpenClaim := { program := "ytomjphpnpcgacaa", sum := "14954b6c9c147fdf0f9b3990ff6d8f3684873b39413977fa3705bf8fd4d35076", func := "wagonpool/wagonpoollaw12.WindowMatchesAccept", spec := "windowMatchesAccept", inPlace := ["slices.overlaps[wagonpool/api.Packet]"], unfollowed := true, recurses := true, apart := false, narrowed := true }
def WindowMatchesAcceptUptoSaid : Prop := windowMatchesAcceptUptoRow.holds Try.pinned (OpenSpec.upto windowMatchesAcceptSpec)

/-- 'wagonpoollaw12.WindowDelivers', WHERE WHAT IT READS IS OF BULK AT MOST 1048576: true; the input reads as it did. -/
def windowDeliversUptoRow : OpenClaim := { program := "ytomjphpnpcgacaa", sum := "14954b6c9c147fdf0f9b3990ff6d8f3684873b39413977fa3705bf8fd4d35076", func := "wagonpool/wagonpoollaw12.WindowDelivers", spec := "windowDelivers", inPlace := ["slices.overlaps[wagonpool/api.Packet]"], unfollowed := true, recurses := true, apart := false, narrowed := true }
def WindowDeliversUptoSaid : Prop := windowDeliversUptoRow.holds Try.pinned (OpenSpec.upto windowDeliversSpec)

/-- 'wagonpoollaw12.WindowCompletes', WHERE WHAT IT READS IS OF BULK AT MOST 1048576: true; the input reads as it did. -/
def windowCompletesUptoRow : OpenClaim := { program := "ytomjphpnpcgacaa", sum := "14954b6c9c147fdf0f9b3990ff6d8f3684873b39413977fa3705bf8fd4d35076", func := "wagonpool/wagonpoollaw12.WindowCompletes", spec := "windowCompletes", inPlace := ["slices.overlaps[wagonpool/api.Packet]"], unfollowed := true, recurses := true, apart := false, narrowed := true }
def WindowCompletesUptoSaid : Prop := windowCompletesUptoRow.holds Try.pinned (OpenSpec.upto windowCompletesSpec)

/-- 'wagonpoollaw12.WindowTwice', WHERE WHAT IT READS IS OF BULK AT MOST 1048576: true; the input reads as it did. -/
def windowTwiceUptoRow : OpenClaim := { program := "ytomjphpnpcgacaa", sum := "14954b6c9c147fdf0f9b3990ff6d8f3684873b39413977fa3705bf8fd4d35076", func := "wagonpool/wagonpoollaw12.WindowTwice", spec := "windowTwice", inPlace := ["slices.overlaps[wagonpool/api.Packet]"], unfollowed := true, recurses := true, apart := false, narrowed := true }
def WindowTwiceUptoSaid : Prop := windowTwiceUptoRow.holds Try.pinned (OpenSpec.upto windowTwiceSpec)

/-- 'wagonpoollaw12.WindowReorders', WHERE WHAT IT READS IS OF BULK AT MOST 1048576: true; the input reads as it did. -/
def windowReordersUptoRow : OpenClaim := { program := "ytomjphpnpcgacaa", sum := "14954b6c9c147fdf0f9b3990ff6d8f3684873b39413977fa3705bf8fd4d35076", func := "wagonpool/wagonpoollaw12.WindowReorders", spec := "windowReorders", inPlace := ["slices.overlaps[wagonpool/api.Packet]"], unfollowed := true, recurses := true, apart := false, narrowed := true }
def WindowReordersUptoSaid : Prop := windowReordersUptoRow.holds Try.pinned (OpenSpec.upto windowReordersSpec)

/-- 'wagonpoollaw12.WindowCodec', WHERE WHAT IT READS IS OF BULK AT MOST 1048576: true; the input reads as it did. -/
def windowCodecUptoRow : OpenClaim := { program := "ytomjphpnpcgacaa", sum := "14954b6c9c147fdf0f9b3990ff6d8f3684873b39413977fa3705bf8fd4d35076", func := "wagonpool/wagonpoollaw12.WindowCodec", spec := "windowCodec", inPlace := ["slices.overlaps[wagonpool/api.Packet]"], unfollowed := true, recurses := true, loops := true, apart := false, narrowed := true }
def WindowCodecUptoSaid : Prop := windowCodecUptoRow.holds Try.pinned (OpenSpec.upto windowCodecSpec)

end Rows
end Go.Proofs.Ytomjphpnpcgacaa
