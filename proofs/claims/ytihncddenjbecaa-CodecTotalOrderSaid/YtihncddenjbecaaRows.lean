/-
  NARROWER THAN 'FOR EVERY INPUT', by the rows' own cells (each row's printed sentence says how): CodecMatchesReference: loops · CodecRoundTrip: loops · CodecOrder: loops · CodecPrefixFree: loops · CodecTotalOrder: loops · CodecLists: loops · CodecSpoiled: loops.
  DERIVED. THE GIVEN ROWS OF THIS SEAT. 10 by the template 'for every input the law returns true; each argument reads behind the call as it read before'; 0 by the template 'total and deterministic' (their statements: YtihncddenjbecaaTotals.lean).
  GIVEN WITH THE SEED: the statements are not yours to turn. If you find one false, say at which input.
  Laid BY PROGRAM, IN A SANDBOX (cutbox-rows.mjs): the forced cells as the released guide's own fill.sh prints them over the translation 5bd8da756740efb9… (all of the seat's roots in one cut). By AI agents, Wed Nov 11 2026. No macro, syntax, notation, axiom, sorry.
-/
import Derived.Test.YtihncddenjbecaaChecked
import GoSem.Claim
import GoSem.ClaimJoined
import GoSem.ClaimMapViews
import Derived.JoinedTies
import Derived.KernelRfl
namespace Go.Proofs.Ytihncddenjbecaa
/- THE CELL 'sum', in the pinned program and in every row, IS THE sha256 OF THE DUMP (.gsa) THAT YtihncddenjbecaaProg.lean LOADS. Nothing in Lean hashes anything: it is a label: what it is worth is what the hold of that sum in a sandbox is worth. -/
noncomputable def Try.pinned : Pinned := { name := "ytihncddenjbecaa", sum := "5bd8da756740efb92c828fe9f973f5013ce9db7fcf9837063541f62c7c8c8e98", checked := Try.checked }
namespace Rows
def none {H : Type} : Left H := { results := [], args := [] }

/-- 'wagonpoollaw01.CodecMatchesReference': WHATEVER THE INPUT: true; the input reads as it did. -/
def codecMatchesReferenceSpec : ChangeSpec := { name := "codecMatchesReference", fn := fun _ => fun
  | [d1, d2] => { results := [.lit (.bool true)], args := [d1, d2] }
  | _ => none }
def codecMatchesReferenceRow : OpenClaim := { program := "ytihncddenjbecaa", sum := "5bd8da756740efb92c828fe9f973f5013ce9db7fcf9837063541f62c7c8c8e98", func := "wagonpool/wagonpoollaw01.CodecMatchesReference", spec := "codecMatchesReference", inPlace := ["internal/bytealg.Compare"], unfollowed := true, recurses := true, loops := true, apart := false }
def CodecMatchesReferenceSaid : Prop := codecMatchesReferenceRow.holds Try.pinned (OpenSpec.ofChange codecMatchesReferenceSpec)

/-- ITS FALSE NEIGHBOUR: 'it returns false'. Refute it at one input. -/
def codecMatchesReferenceWrong : ChangeSpec := { name := "codecMatchesReference", fn := fun _ => fun
  | [d1, d2] => { results := [.lit (.bool false)], args := [d1, d2] }
  | _ => none }
def CodecMatchesReferenceWrongFalsely : Prop := codecMatchesReferenceRow.holds Try.pinned (OpenSpec.ofChange codecMatchesReferenceWrong)

/-- 'wagonpoollaw01.CodecDecodeMatchesReference': WHATEVER THE INPUT: true; the input reads as it did. -/
def codecDecodeMatchesReferenceSpec : ChangeSpec := { name := "codecDecodeMatchesReference", fn := fun _ => fun
  | [d] => { results := [.lit (.bool true)], args := [d] }
  | _ => none }
def codecDecodeMatchesReferenceRow : OpenClaim := { program := "ytihncddenjbecaa", sum := "5bd8da756740efb92c828fe9f973f5013ce9db7fcf9837063541f62c7c8c8e98", func := "wagonpool/wagonpoollaw01.CodecDecodeMatchesReference", spec := "codecDecodeMatchesReference", inPlace := ["internal/bytealg.Compare"], unfollowed := true, recurses := true, apart := false }
def CodecDecodeMatchesReferenceSaid : Prop := codecDecodeMatchesReferenceRow.holds Try.pinned (OpenSpec.ofChange codecDecodeMatchesReferenceSpec)

/-- ITS FALSE NEIGHBOUR: 'it returns false'. Refute it at one input. -/
def codecDecodeMatchesReferenceWrong : ChangeSpec := { name := "codecDecodeMatchesReference", fn := fun _ => fun
  | [d] => { results := [.lit (.bool false)], args := [d] }
  | _ => none }
def CodecDecodeMatchesReferenceWrongFalsely : Prop := codecDecodeMatchesReferenceRow.holds Try.pinned (OpenSpec.ofChange codecDecodeMatchesReferenceWrong)

/-- 'wagonpoollaw01.CodecRoundTrip': WHATEVER THE INPUT: true; the input reads as it did. -/
def codecRoundTripSpec : ChangeSpec := { name := "codecRoundTrip", fn := fun _ => fun
  | [d] => { results := [.lit (.bool true)], args := [d] }
  | _ => none }
def codecRoundTripRow : OpenClaim := { program := "ytihncddenjbecaa", sum := "5bd8da756740efb92c828fe9f973f5013ce9db7fcf9837063541f62c7c8c8e98", func := "wagonpool/wagonpoollaw01.CodecRoundTrip", spec := "codecRoundTrip", inPlace := ["internal/bytealg.Compare"], unfollowed := true, recurses := true, loops := true, apart := false }
def CodecRoundTripSaid : Prop := codecRoundTripRow.holds Try.pinned (OpenSpec.ofChange codecRoundTripSpec)

/-- ITS FALSE NEIGHBOUR: 'it returns false'. Refute it at one input. -/
def codecRoundTripWrong : ChangeSpec := { name := "codecRoundTrip", fn := fun _ => fun
  | [d] => { results := [.lit (.bool false)], args := [d] }
  | _ => none }
def CodecRoundTripWrongFalsely : Prop := codecRoundTripRow.holds Try.pinned (OpenSpec.ofChange codecRoundTripWrong)

/-- 'wagonpoollaw01.CodecCanonical': WHATEVER THE INPUT: true; the input reads as it did. -/
def codecCanonicalSpec : ChangeSpec := { name := "codecCanonical", fn := fun _ => fun
  | [d] => { results := [.lit (.bool true)], args := [d] }
  | _ => none }
def codecCanonicalRow : OpenClaim := { program := "ytihncddenjbecaa", sum := "5bd8da756740efb92c828fe9f973f5013ce9db7fcf9837063541f62c7c8c8e98", func := "wagonpool/wagonpoollaw01.CodecCanonical", spec := "codecCanonical", inPlace := ["internal/bytealg.Compare"], unfollowed := true, recurses := true, apart := false }
def CodecCanonicalSaid : Prop := codecCanonicalRow.holds Try.pinned (OpenSpec.ofChange codecCanonicalSpec)

/-- ITS FALSE NEIGHBOUR: 'it returns false'. Refute it at one input. -/
def codecCanonicalWrong : ChangeSpec := { name := "codecCanonical", fn := fun _ => fun
  | [d] => { results := [.lit (.bool false)], args := [d] }
  | _ => none }
def CodecCanonicalWrongFalsely : Prop := codecCanonicalRow.holds Try.pinned (OpenSpec.ofChange codecCanonicalWrong)

/-- 'wagonpoollaw01.CodecOrder': WHATEVER THE INPUT: true; the input reads as it did. -/
def codecOrderSpec : ChangeSpec := { name := "codecOrder", fn := fun _ => fun
  | [d1, d2] => { results := [.lit (.bool true)], args := [d1, d2] }
  | _ => none }
def codecOrderRow : OpenClaim := { program := "ytihncddenjbecaa", sum := "5bd8da756740efb92c828fe9f973f5013ce9db7fcf9837063541f62c7c8c8e98", func := "wagonpool/wagonpoollaw01.CodecOrder", spec := "codecOrder", inPlace := ["internal/bytealg.Compare"], unfollowed := true, recurses := true, loops := true, apart := false }
def CodecOrderSaid : Prop := codecOrderRow.holds Try.pinned (OpenSpec.ofChange codecOrderSpec)

/-- ITS FALSE NEIGHBOUR: 'it returns false'. Refute it at one input. -/
def codecOrderWrong : ChangeSpec := { name := "codecOrder", fn := fun _ => fun
  | [d1, d2] => { results := [.lit (.bool false)], args := [d1, d2] }
  | _ => none }
def CodecOrderWrongFalsely : Prop := codecOrderRow.holds Try.pinned (OpenSpec.ofChange codecOrderWrong)

/-- 'wagonpoollaw01.CodecPrefixFree': WHATEVER THE INPUT: true; the input reads as it did. -/
def codecPrefixFreeSpec : ChangeSpec := { name := "codecPrefixFree", fn := fun _ => fun
  | [d1, d2, d3] => { results := [.lit (.bool true)], args := [d1, d2, d3] }
  | _ => none }
def codecPrefixFreeRow : OpenClaim := { program := "ytihncddenjbecaa", sum := "5bd8da756740efb92c828fe9f973f5013ce9db7fcf9837063541f62c7c8c8e98", func := "wagonpool/wagonpoollaw01.CodecPrefixFree", spec := "codecPrefixFree", inPlace := ["internal/bytealg.Compare"], unfollowed := true, recurses := true, loops := true, apart := false }
def CodecPrefixFreeSaid : Prop := codecPrefixFreeRow.holds Try.pinned (OpenSpec.ofChange codecPrefixFreeSpec)

/-- ITS FALSE NEIGHBOUR: 'it returns false'. Refute it at one input. -/
def codecPrefixFreeWrong : ChangeSpec := { name := "codecPrefixFree", fn := fun _ => fun
  | [d1, d2, d3] => { results := [.lit (.bool false)], args := [d1, d2, d3] }
  | _ => none }
def CodecPrefixFreeWrongFalsely : Prop := codecPrefixFreeRow.holds Try.pinned (OpenSpec.ofChange codecPrefixFreeWrong)

/-- 'wagonpoollaw01.CodecTotalOrder': WHATEVER THE INPUT: true; the input reads as it did. -/
def codecTotalOrderSpec : ChangeSpec := { name := "codecTotalOrder", fn := fun _ => fun
  | [d1, d2, d3] => { results := [.lit (.bool true)], args := [d1, d2, d3] }
  | _ => none }
def codecTotalOrderRow : OpenClaim := { program := "ytihncddenjbecaa", sum := "5bd8da756740efb92c828fe9f973f5013ce9db7fcf9837063541f62c7c8c8e98", func := "wagonpool/wagonpoollaw01.CodecTotalOrder", spec := "codecTotalOrder", inPlace := ["internal/bytealg.Compare"], unfollowed := true, recurses := true, loops := true, apart := false }
def CodecTotalOrderSaid : Prop := codecTotalOrderRow.holds Try.pinned (OpenSpec.ofChange codecTotalOrderSpec)

/-- ITS FALSE NEIGHBOUR: 'it returns false'. Refute it at one input. -/
def codecTotalOrderWrong : ChangeSpec := { name := "codecTotalOrder", fn := fun _ => fun
  | [d1, d2, d3] => { results := [.lit (.bool false)], args := [d1, d2, d3] }
  | _ => none }
def CodecTotalOrderWrongFalsely : Prop := codecTotalOrderRow.holds Try.pinned (OpenSpec.ofChange codecTotalOrderWrong)

/-- 'wagonpoollaw01.CodecLists': WHATEVER THE INPUT: true; the input reads as it did. -/
def codecListsSpec : ChangeSpec := { name := "codecLists", fn := fun _ => fun
  | [d] => { results := [.lit (.bool true)], args := [d] }
  | _ => none }
def codecListsRow : OpenClaim := { program := "ytihncddenjbecaa", sum := "5bd8da756740efb92c828fe9f973f5013ce9db7fcf9837063541f62c7c8c8e98", func := "wagonpool/wagonpoollaw01.CodecLists", spec := "codecLists", inPlace := ["internal/bytealg.Compare"], unfollowed := true, recurses := true, loops := true, apart := false }
def CodecListsSaid : Prop := codecListsRow.holds Try.pinned (OpenSpec.ofChange codecListsSpec)

/-- ITS FALSE NEIGHBOUR: 'it returns false'. Refute it at one input. -/
def codecListsWrong : ChangeSpec := { name := "codecLists", fn := fun _ => fun
  | [d] => { results := [.lit (.bool false)], args := [d] }
  | _ => none }
def CodecListsWrongFalsely : Prop := codecListsRow.holds Try.pinned (OpenSpec.ofChange codecListsWrong)

/-- 'wagonpoollaw01.CodecSpoiled': WHATEVER THE INPUT: true; the input reads as it did. -/
def codecSpoiledSpec : ChangeSpec := { name := "codecSpoiled", fn := fun _ => fun
  | [d1, d2, d3] => { results := [.lit (.bool true)], args := [d1, d2, d3] }
  | _ => none }
def codecSpoiledRow : OpenClaim := { program := "ytihncddenjbecaa", sum := "5bd8da756740efb92c828fe9f973f5013ce9db7fcf9837063541f62c7c8c8e98", func := "wagonpool/wagonpoollaw01.CodecSpoiled", spec := "codecSpoiled", inPlace := ["internal/bytealg.Compare"], unfollowed := true, recurses := true, loops := true, apart := false }
def CodecSpoiledSaid : Prop := codecSpoiledRow.holds Try.pinned (OpenSpec.ofChange codecSpoiledSpec)

/-- ITS FALSE NEIGHBOUR: 'it returns false'. Refute it at one input. -/
def codecSpoiledWrong : ChangeSpec := { name := "codecSpoiled", fn := fun _ => fun
  | [d1, d2, d3] => { results := [.lit (.bool false)], args := [d1, d2, d3] }
  | _ => none }
def CodecSpoiledWrongFalsely : Prop := codecSpoiledRow.holds Try.pinned (OpenSpec.ofChange codecSpoiledWrong)

/-- 'wagonpoollaw01.CodecIntegers': WHATEVER THE INPUT: true; the input reads as it did. -/
def codecIntegersSpec : ChangeSpec := { name := "codecIntegers", fn := fun _ => fun
  | [d1, d2] => { results := [.lit (.bool true)], args := [d1, d2] }
  | _ => none }
def codecIntegersRow : OpenClaim := { program := "ytihncddenjbecaa", sum := "5bd8da756740efb92c828fe9f973f5013ce9db7fcf9837063541f62c7c8c8e98", func := "wagonpool/wagonpoollaw01.CodecIntegers", spec := "codecIntegers", inPlace := ["internal/bytealg.Compare"], unfollowed := true, recurses := true, apart := false }
def CodecIntegersSaid : Prop := codecIntegersRow.holds Try.pinned (OpenSpec.ofChange codecIntegersSpec)

/-- ITS FALSE NEIGHBOUR: 'it returns false'. Refute it at one input. -/
def codecIntegersWrong : ChangeSpec := { name := "codecIntegers", fn := fun _ => fun
  | [d1, d2] => { results := [.lit (.bool false)], args := [d1, d2] }
  | _ => none }
def CodecIntegersWrongFalsely : Prop := codecIntegersRow.holds Try.pinned (OpenSpec.ofChange codecIntegersWrong)

/- THE SECOND FORM. 'bulk': how many values and letters a reading holds, each counted each time it is reached (what is shared counts as often as it is met; a slice's spare places count too). A statement '..UptoSaid' is the law's where the arguments, and the package variables that the reading takes, are together of bulk at most 1048576: NARROWER than '..Said'. Prove '..Said' where nothing that the law and all that it calls make is longer than what came in: it says more and counts as full. Else prove '..UptoSaid'. A law counts once. -/
mutual
def uptoBulk {H : Type} : DataW H → Nat
  | .lit (.string bytes) => bytes.length + 1
  | .lit _ => 1
  | .nil => 1
  | .ptr d => uptoBulk d + 1
  | .slice elems spare => uptoBulkAll elems + uptoBulkAll spare + 1
  | .agg parts => uptoBulkAll parts + 1
  | .iface _ d => uptoBulk d + 1
  | .map entries => uptoBulkEntries entries + 1
  | .held _ => 1
def uptoBulkAll {H : Type} : List (DataW H) → Nat
  | [] => 0
  | d :: r => uptoBulk d + uptoBulkAll r
def uptoBulkEntries {H : Type} : List (Lit × DataW H) → Nat
  | [] => 0
  | x :: r => uptoBulkEntry x + uptoBulkEntries r
def uptoBulkEntry {H : Type} : Lit × DataW H → Nat
  | (.string bytes, d) => bytes.length + uptoBulk d + 1
  | (_, d) => uptoBulk d + 1
 end
def uptoSmall : (H : Type) → List (DataW H) → Bool := fun _ ds => decide (uptoBulkAll ds ≤ 1048576)
def OpenSpec.upto (s : _root_.Go.ChangeSpec) : _root_.Go.OpenSpec := { _root_.Go.OpenSpec.ofChange s with cond := some uptoSmall }

/-- 'wagonpoollaw01.CodecMatchesReference', WHERE WHAT IT READS IS OF BULK AT MOST 1048576: true; the input reads as it did. -/
def codecMatchesReferenceUptoRow : OpenClaim := { program := "ytihncddenjbecaa", sum := "5bd8da756740efb92c828fe9f973f5013ce9db7fcf9837063541f62c7c8c8e98", func := "wagonpool/wagonpoollaw01.CodecMatchesReference", spec := "codecMatchesReference", inPlace := ["internal/bytealg.Compare"], unfollowed := true, recurses := true, loops := true, apart := false, narrowed := true }
def CodecMatchesReferenceUptoSaid : Prop := codecMatchesReferenceUptoRow.holds Try.pinned (OpenSpec.upto codecMatchesReferenceSpec)

/-- 'wagonpoollaw01.CodecDecodeMatchesReference', WHERE WHAT IT READS IS OF BULK AT MOST 1048576: true; the input reads as it did. -/
def codecDecodeMatchesReferenceUptoRow : OpenClaim := { program := "ytihncddenjbecaa", sum := "5bd8da756740efb92c828fe9f973f5013ce9db7fcf9837063541f62c7c8c8e98", func := "wagonpool/wagonpoollaw01.CodecDecodeMatchesReference", spec := "codecDecodeMatchesReference", inPlace := ["internal/bytealg.Compare"], unfollowed := true, recurses := true, apart := false, narrowed := true }
def CodecDecodeMatchesReferenceUptoSaid : Prop := codecDecodeMatchesReferenceUptoRow.holds Try.pinned (OpenSpec.upto codecDecodeMatchesReferenceSpec)

/-- 'wagonpoollaw01.CodecRoundTrip', WHERE WHAT IT READS IS OF BULK AT MOST 1048576: true; the input reads as it did. -/
def codecRoundTripUptoRow : OpenClaim := { program := "ytihncddenjbecaa", sum := "5bd8da756740efb92c828fe9f973f5013ce9db7fcf9837063541f62c7c8c8e98", func := "wagonpool/wagonpoollaw01.CodecRoundTrip", spec := "codecRoundTrip", inPlace := ["internal/bytealg.Compare"], unfollowed := true, recurses := true, loops := true, apart := false, narrowed := true }
def CodecRoundTripUptoSaid : Prop := codecRoundTripUptoRow.holds Try.pinned (OpenSpec.upto codecRoundTripSpec)

/-- 'wagonpoollaw01.CodecCanonical', WHERE WHAT IT READS IS OF BULK AT MOST 1048576: true; the input reads as it did. -/
def codecCanonicalUptoRow : OpenClaim := { program := "ytihncddenjbecaa", sum := "5bd8da756740efb92c828fe9f973f5013ce9db7fcf9837063541f62c7c8c8e98", func := "wagonpool/wagonpoollaw01.CodecCanonical", spec := "codecCanonical", inPlace := ["internal/bytealg.Compare"], unfollowed := true, recurses := true, apart := false, narrowed := true }
def CodecCanonicalUptoSaid : Prop := codecCanonicalUptoRow.holds Try.pinned (OpenSpec.upto codecCanonicalSpec)

/-- 'wagonpoollaw01.CodecOrder', WHERE WHAT IT READS IS OF BULK AT MOST 1048576: true; the input reads as it did. -/
def codecOrderUptoRow : OpenClaim := { program := "ytihncddenjbecaa", sum := "5bd8da756740efb92c828fe9f973f5013ce9db7fcf9837063541f62c7c8c8e98", func := "wagonpool/wagonpoollaw01.CodecOrder", spec := "codecOrder", inPlace := ["internal/bytealg.Compare"], unfollowed := true, recurses := true, loops := true, apart := false, narrowed := true }
def CodecOrderUptoSaid : Prop := codecOrderUptoRow.holds Try.pinned (OpenSpec.upto codecOrderSpec)

/-- 'wagonpoollaw01.CodecPrefixFree', WHERE WHAT IT READS IS OF BULK AT MOST 1048576: true; the input reads as it did. -/
def codecPrefixFreeUptoRow : OpenClaim := { program := "ytihncddenjbecaa", sum := "5bd8da756740efb92c828fe9f973f5013ce9db7fcf9837063541f62c7c8c8e98", func := "wagonpool/wagonpoollaw01.CodecPrefixFree", spec := "codecPrefixFree", inPlace := ["internal/bytealg.Compare"], unfollowed := true, recurses := true, loops := true, apart := false, narrowed := true }
def CodecPrefixFreeUptoSaid : Prop := codecPrefixFreeUptoRow.holds Try.pinned (OpenSpec.upto codecPrefixFreeSpec)

/-- 'wagonpoollaw01.CodecTotalOrder', WHERE WHAT IT READS IS OF BULK AT MOST 1048576: true; the input reads as it did. -/
def codecTotalOrderUptoRow : OpenClaim := { program := "ytihncddenjbecaa", sum := "5bd8da756740efb92c828fe9f973f5013ce9db7fcf9837063541f62c7c8c8e98", func := "wagonpool/wagonpoollaw01.CodecTotalOrder", spec := "codecTotalOrder", inPlace := ["internal/bytealg.Compare"], unfollowed := true, recurses := true, loops := true, apart := false, narrowed := true }
def CodecTotalOrderUptoSaid : Prop := codecTotalOrderUptoRow.holds Try.pinned (OpenSpec.upto codecTotalOrderSpec)

/-- 'wagonpoollaw01.CodecLists', WHERE WHAT IT READS IS OF BULK AT MOST 1048576: true; the input reads as it did. -/
def codecListsUptoRow : OpenClaim := { program := "ytihncddenjbecaa", sum := "5bd8da756740efb92c828fe9f973f5013ce9db7fcf9837063541f62c7c8c8e98", func := "wagonpool/wagonpoollaw01.CodecLists", spec := "codecLists", inPlace := ["internal/bytealg.Compare"], unfollowed := true, recurses := true, loops := true, apart := false, narrowed := true }
def CodecListsUptoSaid : Prop := codecListsUptoRow.holds Try.pinned (OpenSpec.upto codecListsSpec)

/-- 'wagonpoollaw01.CodecSpoiled', WHERE WHAT IT READS IS OF BULK AT MOST 1048576: true; the input reads as it did. -/
def codecSpoiledUptoRow : OpenClaim := { program := "ytihncddenjbecaa", sum := "5bd8da756740efb92c828fe9f973f5013ce9db7fcf9837063541f62c7c8c8e98", func := "wagonpool/wagonpoollaw01.CodecSpoiled", spec := "codecSpoiled", inPlace := ["internal/bytealg.Compare"], unfollowed := true, recurses := true, loops := true, apart := false, narrowed := true }
def CodecSpoiledUptoSaid : Prop := codecSpoiledUptoRow.holds Try.pinned (OpenSpec.upto codecSpoiledSpec)

/-- 'wagonpoollaw01.CodecIntegers', WHERE WHAT IT READS IS OF BULK AT MOST 1048576: true; the input reads as it did. -/
def codecIntegersUptoRow : OpenClaim := { program := "ytihncddenjbecaa", sum := "5bd8da756740efb92c828fe9f973f5013ce9db7fcf9837063541f62c7c8c8e98", func := "wagonpool/wagonpoollaw01.CodecIntegers", spec := "codecIntegers", inPlace := ["internal/bytealg.Compare"], unfollowed := true, recurses := true, apart := false, narrowed := true }
def CodecIntegersUptoSaid : Prop := codecIntegersUptoRow.holds Try.pinned (OpenSpec.upto codecIntegersSpec)

end Rows
end Go.Proofs.Ytihncddenjbecaa
