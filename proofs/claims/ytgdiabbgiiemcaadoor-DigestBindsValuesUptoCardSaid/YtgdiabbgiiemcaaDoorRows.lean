/-
  NARROWER THAN 'FOR EVERY INPUT', by the rows' own cells (each row's printed sentence says how): DigestSumMatchesReference: laid · DigestMatchesReference: laid · DigestTaggedIsSum: laid · DigestTagsSeparate: laid · DigestValues: loops, laid · DigestChainBinds: laid · DigestNumbers: laid · DigestBindsValues: loops, laid.
  DERIVED. THE GIVEN ROWS OF THIS SEAT. 8 by the template 'for every input the law returns true; each argument reads behind the call as it read before'; 0 by the template 'total and deterministic' (their statements: YtgdiabbgiiemcaaDoorTotals.lean).
  GIVEN WITH THE SEED: the statements are not yours to turn. If you find one false, say at which input.
  Laid BY PROGRAM, IN A SANDBOX (cutbox-rows.mjs): the forced cells as the released guide's own fill.sh prints them over the translation 85e43f8a03a2dfcb… (all of the seat's roots in one cut). By AI agents, Wed Nov 11 2026. No macro, syntax, notation, axiom, sorry.
-/
import Derived.Test.YtgdiabbgiiemcaaDoorChecked
import GoSem.Claim
import GoSem.ClaimJoined
import GoSem.ClaimMapViews
import Derived.JoinedTies
import Derived.KernelRfl
namespace Go.Proofs.YtgdiabbgiiemcaaDoor
/- THE CELL 'sum', in the pinned program and in every row, IS THE sha256 OF THE DUMP (.gsa) THAT YtgdiabbgiiemcaaDoorProg.lean LOADS. Nothing in Lean hashes anything: it is a label: what it is worth is what the hold of that sum in a sandbox is worth. -/
noncomputable def Tryd.pinned : Pinned := { name := "ytgdiabbgiiemcaadoor", sum := "85e43f8a03a2dfcb1d153f0d205c8299a903c6e610a0c25cbf54882c57ca3215", checked := Tryd.checked }
namespace Rows
def none {H : Type} : Left H := { results := [], args := [] }

/- WHAT THE LISTED PACKAGE-LEVEL VARIABLES READ AS WHEN THE CALL BEGINS. Each datum BY PROGRAM (the guide's laid-datum.mjs) off the statement by which the dump's own 'gosem.cut.vars' lays the variable. In a bare row this is a premise. The card (YtgdiabbgiiemcaaDoorCards.lean) ties it to the program's text. -/
def laid_wagonpool_digest_k {H : Type} : DataW H := .agg [.lit (.int .u32 1116352408), .lit (.int .u32 1899447441), .lit (.int .u32 3049323471), .lit (.int .u32 3921009573), .lit (.int .u32 961987163), .lit (.int .u32 1508970993), .lit (.int .u32 2453635748), .lit (.int .u32 2870763221), .lit (.int .u32 3624381080), .lit (.int .u32 310598401), .lit (.int .u32 607225278), .lit (.int .u32 1426881987), .lit (.int .u32 1925078388), .lit (.int .u32 2162078206), .lit (.int .u32 2614888103), .lit (.int .u32 3248222580), .lit (.int .u32 3835390401), .lit (.int .u32 4022224774), .lit (.int .u32 264347078), .lit (.int .u32 604807628), .lit (.int .u32 770255983), .lit (.int .u32 1249150122), .lit (.int .u32 1555081692), .lit (.int .u32 1996064986), .lit (.int .u32 2554220882), .lit (.int .u32 2821834349), .lit (.int .u32 2952996808), .lit (.int .u32 3210313671), .lit (.int .u32 3336571891), .lit (.int .u32 3584528711), .lit (.int .u32 113926993), .lit (.int .u32 338241895), .lit (.int .u32 666307205), .lit (.int .u32 773529912), .lit (.int .u32 1294757372), .lit (.int .u32 1396182291), .lit (.int .u32 1695183700), .lit (.int .u32 1986661051), .lit (.int .u32 2177026350), .lit (.int .u32 2456956037), .lit (.int .u32 2730485921), .lit (.int .u32 2820302411), .lit (.int .u32 3259730800), .lit (.int .u32 3345764771), .lit (.int .u32 3516065817), .lit (.int .u32 3600352804), .lit (.int .u32 4094571909), .lit (.int .u32 275423344), .lit (.int .u32 430227734), .lit (.int .u32 506948616), .lit (.int .u32 659060556), .lit (.int .u32 883997877), .lit (.int .u32 958139571), .lit (.int .u32 1322822218), .lit (.int .u32 1537002063), .lit (.int .u32 1747873779), .lit (.int .u32 1955562222), .lit (.int .u32 2024104815), .lit (.int .u32 2227730452), .lit (.int .u32 2361852424), .lit (.int .u32 2428436474), .lit (.int .u32 2756734187), .lit (.int .u32 3204031479), .lit (.int .u32 3329325298)]

/-- 'wagonpoollaw02.DigestSumMatchesReference': WHATEVER THE INPUT: true; the input reads as it did. -/
def digestSumMatchesReferenceSpec : ChangeSpec := { name := "digestSumMatchesReference", fn := fun _ => fun
  | [d] => { results := [.lit (.bool true)], args := [d] }
  | _ => none }
def digestSumMatchesReferenceRow : OpenClaim := { program := "ytgdiabbgiiemcaadoor", sum := "85e43f8a03a2dfcb1d153f0d205c8299a903c6e610a0c25cbf54882c57ca3215", func := "wagonpool/wagonpoollaw02.DigestSumMatchesReference", spec := "digestSumMatchesReference", unfollowed := true, recurses := true, named := ["wagonpool/digest.k"], apart := false, laid := [("wagonpool/digest.k", laid_wagonpool_digest_k)] }
def DigestSumMatchesReferenceSaid : Prop := digestSumMatchesReferenceRow.holds Tryd.pinned (OpenSpec.ofChange digestSumMatchesReferenceSpec)

/-- ITS FALSE NEIGHBOUR: 'it returns false'. Refute it at one input. -/
def digestSumMatchesReferenceWrong : ChangeSpec := { name := "digestSumMatchesReference", fn := fun _ => fun
  | [d] => { results := [.lit (.bool false)], args := [d] }
  | _ => none }
def DigestSumMatchesReferenceWrongFalsely : Prop := digestSumMatchesReferenceRow.holds Tryd.pinned (OpenSpec.ofChange digestSumMatchesReferenceWrong)

/-- 'wagonpoollaw02.DigestMatchesReference': WHATEVER THE INPUT: true; the input reads as it did. -/
def digestMatchesReferenceSpec : ChangeSpec := { name := "digestMatchesReference", fn := fun _ => fun
  | [d1, d2, d3] => { results := [.lit (.bool true)], args := [d1, d2, d3] }
  | _ => none }
def digestMatchesReferenceRow : OpenClaim := { program := "ytgdiabbgiiemcaadoor", sum := "85e43f8a03a2dfcb1d153f0d205c8299a903c6e610a0c25cbf54882c57ca3215", func := "wagonpool/wagonpoollaw02.DigestMatchesReference", spec := "digestMatchesReference", unfollowed := true, recurses := true, named := ["wagonpool/digest.k"], apart := false, laid := [("wagonpool/digest.k", laid_wagonpool_digest_k)] }
def DigestMatchesReferenceSaid : Prop := digestMatchesReferenceRow.holds Tryd.pinned (OpenSpec.ofChange digestMatchesReferenceSpec)

/-- ITS FALSE NEIGHBOUR: 'it returns false'. Refute it at one input. -/
def digestMatchesReferenceWrong : ChangeSpec := { name := "digestMatchesReference", fn := fun _ => fun
  | [d1, d2, d3] => { results := [.lit (.bool false)], args := [d1, d2, d3] }
  | _ => none }
def DigestMatchesReferenceWrongFalsely : Prop := digestMatchesReferenceRow.holds Tryd.pinned (OpenSpec.ofChange digestMatchesReferenceWrong)

/-- 'wagonpoollaw02.DigestTaggedIsSum': WHATEVER THE INPUT: true; the input reads as it did. -/
def digestTaggedIsSumSpec : ChangeSpec := { name := "digestTaggedIsSum", fn := fun _ => fun
  | [d1, d2, d3] => { results := [.lit (.bool true)], args := [d1, d2, d3] }
  | _ => none }
def digestTaggedIsSumRow : OpenClaim := { program := "ytgdiabbgiiemcaadoor", sum := "85e43f8a03a2dfcb1d153f0d205c8299a903c6e610a0c25cbf54882c57ca3215", func := "wagonpool/wagonpoollaw02.DigestTaggedIsSum", spec := "digestTaggedIsSum", unfollowed := true, recurses := true, named := ["wagonpool/digest.k"], apart := false, laid := [("wagonpool/digest.k", laid_wagonpool_digest_k)] }
def DigestTaggedIsSumSaid : Prop := digestTaggedIsSumRow.holds Tryd.pinned (OpenSpec.ofChange digestTaggedIsSumSpec)

/-- ITS FALSE NEIGHBOUR: 'it returns false'. Refute it at one input. -/
def digestTaggedIsSumWrong : ChangeSpec := { name := "digestTaggedIsSum", fn := fun _ => fun
  | [d1, d2, d3] => { results := [.lit (.bool false)], args := [d1, d2, d3] }
  | _ => none }
def DigestTaggedIsSumWrongFalsely : Prop := digestTaggedIsSumRow.holds Tryd.pinned (OpenSpec.ofChange digestTaggedIsSumWrong)

/-- 'wagonpoollaw02.DigestTagsSeparate': WHATEVER THE INPUT: true; the input reads as it did. -/
def digestTagsSeparateSpec : ChangeSpec := { name := "digestTagsSeparate", fn := fun _ => fun
  | [d1, d2, d3, d4] => { results := [.lit (.bool true)], args := [d1, d2, d3, d4] }
  | _ => none }
def digestTagsSeparateRow : OpenClaim := { program := "ytgdiabbgiiemcaadoor", sum := "85e43f8a03a2dfcb1d153f0d205c8299a903c6e610a0c25cbf54882c57ca3215", func := "wagonpool/wagonpoollaw02.DigestTagsSeparate", spec := "digestTagsSeparate", unfollowed := true, recurses := true, named := ["wagonpool/digest.k"], apart := false, laid := [("wagonpool/digest.k", laid_wagonpool_digest_k)] }
def DigestTagsSeparateSaid : Prop := digestTagsSeparateRow.holds Tryd.pinned (OpenSpec.ofChange digestTagsSeparateSpec)

/-- ITS FALSE NEIGHBOUR: 'it returns false'. Refute it at one input. -/
def digestTagsSeparateWrong : ChangeSpec := { name := "digestTagsSeparate", fn := fun _ => fun
  | [d1, d2, d3, d4] => { results := [.lit (.bool false)], args := [d1, d2, d3, d4] }
  | _ => none }
def DigestTagsSeparateWrongFalsely : Prop := digestTagsSeparateRow.holds Tryd.pinned (OpenSpec.ofChange digestTagsSeparateWrong)

/-- 'wagonpoollaw02.DigestValues': WHATEVER THE INPUT: true; the input reads as it did. -/
def digestValuesSpec : ChangeSpec := { name := "digestValues", fn := fun _ => fun
  | [d1, d2] => { results := [.lit (.bool true)], args := [d1, d2] }
  | _ => none }
def digestValuesRow : OpenClaim := { program := "ytgdiabbgiiemcaadoor", sum := "85e43f8a03a2dfcb1d153f0d205c8299a903c6e610a0c25cbf54882c57ca3215", func := "wagonpool/wagonpoollaw02.DigestValues", spec := "digestValues", unfollowed := true, recurses := true, named := ["wagonpool/digest.k"], loops := true, apart := false, laid := [("wagonpool/digest.k", laid_wagonpool_digest_k)] }
def DigestValuesSaid : Prop := digestValuesRow.holds Tryd.pinned (OpenSpec.ofChange digestValuesSpec)

/-- ITS FALSE NEIGHBOUR: 'it returns false'. Refute it at one input. -/
def digestValuesWrong : ChangeSpec := { name := "digestValues", fn := fun _ => fun
  | [d1, d2] => { results := [.lit (.bool false)], args := [d1, d2] }
  | _ => none }
def DigestValuesWrongFalsely : Prop := digestValuesRow.holds Tryd.pinned (OpenSpec.ofChange digestValuesWrong)

/-- 'wagonpoollaw02.DigestChainBinds': WHATEVER THE INPUT: true; the input reads as it did. -/
def digestChainBindsSpec : ChangeSpec := { name := "digestChainBinds", fn := fun _ => fun
  | [d1, d2, d3] => { results := [.lit (.bool true)], args := [d1, d2, d3] }
  | _ => none }
def digestChainBindsRow : OpenClaim := { program := "ytgdiabbgiiemcaadoor", sum := "85e43f8a03a2dfcb1d153f0d205c8299a903c6e610a0c25cbf54882c57ca3215", func := "wagonpool/wagonpoollaw02.DigestChainBinds", spec := "digestChainBinds", unfollowed := true, recurses := true, named := ["wagonpool/digest.k"], apart := false, laid := [("wagonpool/digest.k", laid_wagonpool_digest_k)] }
def DigestChainBindsSaid : Prop := digestChainBindsRow.holds Tryd.pinned (OpenSpec.ofChange digestChainBindsSpec)

/-- ITS FALSE NEIGHBOUR: 'it returns false'. Refute it at one input. -/
def digestChainBindsWrong : ChangeSpec := { name := "digestChainBinds", fn := fun _ => fun
  | [d1, d2, d3] => { results := [.lit (.bool false)], args := [d1, d2, d3] }
  | _ => none }
def DigestChainBindsWrongFalsely : Prop := digestChainBindsRow.holds Tryd.pinned (OpenSpec.ofChange digestChainBindsWrong)

/-- 'wagonpoollaw02.DigestNumbers': WHATEVER THE INPUT: true; the input reads as it did. -/
def digestNumbersSpec : ChangeSpec := { name := "digestNumbers", fn := fun _ => fun
  | [d1, d2] => { results := [.lit (.bool true)], args := [d1, d2] }
  | _ => none }
def digestNumbersRow : OpenClaim := { program := "ytgdiabbgiiemcaadoor", sum := "85e43f8a03a2dfcb1d153f0d205c8299a903c6e610a0c25cbf54882c57ca3215", func := "wagonpool/wagonpoollaw02.DigestNumbers", spec := "digestNumbers", unfollowed := true, recurses := true, named := ["wagonpool/digest.k"], apart := false, laid := [("wagonpool/digest.k", laid_wagonpool_digest_k)] }
def DigestNumbersSaid : Prop := digestNumbersRow.holds Tryd.pinned (OpenSpec.ofChange digestNumbersSpec)

/-- ITS FALSE NEIGHBOUR: 'it returns false'. Refute it at one input. -/
def digestNumbersWrong : ChangeSpec := { name := "digestNumbers", fn := fun _ => fun
  | [d1, d2] => { results := [.lit (.bool false)], args := [d1, d2] }
  | _ => none }
def DigestNumbersWrongFalsely : Prop := digestNumbersRow.holds Tryd.pinned (OpenSpec.ofChange digestNumbersWrong)

/-- 'wagonpoollaw02.DigestBindsValues': WHATEVER THE INPUT: true; the input reads as it did. -/
def digestBindsValuesSpec : ChangeSpec := { name := "digestBindsValues", fn := fun _ => fun
  | [d1, d2, d3] => { results := [.lit (.bool true)], args := [d1, d2, d3] }
  | _ => none }
def digestBindsValuesRow : OpenClaim := { program := "ytgdiabbgiiemcaadoor", sum := "85e43f8a03a2dfcb1d153f0d205c8299a903c6e610a0c25cbf54882c57ca3215", func := "wagonpool/wagonpoollaw02.DigestBindsValues", spec := "digestBindsValues", inPlace := ["internal/bytealg.Compare"], unfollowed := true, recurses := true, named := ["wagonpool/digest.k"], loops := true, apart := false, laid := [("wagonpool/digest.k", laid_wagonpool_digest_k)] }
def DigestBindsValuesSaid : Prop := digestBindsValuesRow.holds Tryd.pinned (OpenSpec.ofChange digestBindsValuesSpec)

/-- ITS FALSE NEIGHBOUR: 'it returns false'. Refute it at one input. -/
def digestBindsValuesWrong : ChangeSpec := { name := "digestBindsValues", fn := fun _ => fun
  | [d1, d2, d3] => { results := [.lit (.bool false)], args := [d1, d2, d3] }
  | _ => none }
def DigestBindsValuesWrongFalsely : Prop := digestBindsValuesRow.holds Tryd.pinned (OpenSpec.ofChange digestBindsValuesWrong)

/- THE SECOND FORM. 'bulk': how many values and letters a reading holds, each counted each time it is reached (what is shared counts as often as it is met; a slice's spare places count too). A statement '..UptoSaid' is the law's where the arguments, and the package variables that the reading takes, are together of bulk at most 1048576: NARROWER than '..Said'. Prove '..Said' where nothing that the law and all that it calls make is longer than what came in: it says more and counts as full. Else prove '..UptoSaid'. A law counts once. -/
mutual
def uptoBulk {H : Type} : DataW H → Nat
  | .lit (.string bytes) => bytes.length + 1
  | .lit _ => 1
  | .nil => 1
  | .ptr d => uptoBulk d + 1
  | .slice elems spare => uptoBulkAll elems + uptoBulkAll spare + 1
  | .agg parts => uptoBulkAll parts + 1
  | .iface _ d => uptoBulk d + 1
  | .map entries => uptoBulkEntries entries + 1
  | .held _ => 1
def uptoBulkAll {H : Type} : List (DataW H) → Nat
  | [] => 0
  | d :: r => uptoBulk d + uptoBulkAll r
def uptoBulkEntries {H : Type} : List (Lit × DataW H) → Nat
  | [] => 0
  | x :: r => uptoBulkEntry x + uptoBulkEntries r
def uptoBulkEntry {H : Type} : Lit × DataW H → Nat
  | (.string bytes, d) => bytes.length + uptoBulk d + 1
  | (_, d) => uptoBulk d + 1
 end
def uptoSmall : (H : Type) → List (DataW H) → Bool := fun _ ds => decide (uptoBulkAll ds ≤ 1048576)
def OpenSpec.upto (s : _root_.Go.ChangeSpec) : _root_.Go.OpenSpec := { _root_.Go.OpenSpec.ofChange s with cond := some uptoSmall }

/-- 'wagonpoollaw02.DigestSumMatchesReference', WHERE WHAT IT READS IS OF BULK AT MOST 1048576: true; the input reads as it did. -/
def digestSumMatchesReferenceUptoRow : OpenClaim := { program := "ytgdiabbgiiemcaadoor", sum := "85e43f8a03a2dfcb1d153f0d205c8299a903c6e610a0c25cbf54882c57ca3215", func := "wagonpool/wagonpoollaw02.DigestSumMatchesReference", spec := "digestSumMatchesReference", unfollowed := true, recurses := true, named := ["wagonpool/digest.k"], apart := false, laid := [("wagonpool/digest.k", laid_wagonpool_digest_k)], narrowed := true }
def DigestSumMatchesReferenceUptoSaid : Prop := digestSumMatchesReferenceUptoRow.holds Tryd.pinned (OpenSpec.upto digestSumMatchesReferenceSpec)

/-- 'wagonpoollaw02.DigestMatchesReference', WHERE WHAT IT READS IS OF BULK AT MOST 1048576: true; the input reads as it did. -/
def digestMatchesReferenceUptoRow : OpenClaim := { program := "ytgdiabbgiiemcaadoor", sum := "85e43f8a03a2dfcb1d153f0d205c8299a903c6e610a0c25cbf54882c57ca3215", func := "wagonpool/wagonpoollaw02.DigestMatchesReference", spec := "digestMatchesReference", unfollowed := true, recurses := true, named := ["wagonpool/digest.k"], apart := false, laid := [("wagonpool/digest.k", laid_wagonpool_digest_k)], narrowed := true }
def DigestMatchesReferenceUptoSaid : Prop := digestMatchesReferenceUptoRow.holds Tryd.pinned (OpenSpec.upto digestMatchesReferenceSpec)

/-- 'wagonpoollaw02.DigestTaggedIsSum', WHERE WHAT IT READS IS OF BULK AT MOST 1048576: true; the input reads as it did. -/
def digestTaggedIsSumUptoRow : OpenClaim := { program := "ytgdiabbgiiemcaadoor", sum := "85e43f8a03a2dfcb1d153f0d205c8299a903c6e610a0c25cbf54882c57ca3215", func := "wagonpool/wagonpoollaw02.DigestTaggedIsSum", spec := "digestTaggedIsSum", unfollowed := true, recurses := true, named := ["wagonpool/digest.k"], apart := false, laid := [("wagonpool/digest.k", laid_wagonpool_digest_k)], narrowed := true }
def DigestTaggedIsSumUptoSaid : Prop := digestTaggedIsSumUptoRow.holds Tryd.pinned (OpenSpec.upto digestTaggedIsSumSpec)

/-- 'wagonpoollaw02.DigestTagsSeparate', WHERE WHAT IT READS IS OF BULK AT MOST 1048576: true; the input reads as it did. -/
def digestTagsSeparateUptoRow : OpenClaim := { program := "ytgdiabbgiiemcaadoor", sum := "85e43f8a03a2dfcb1d153f0d205c8299a903c6e610a0c25cbf54882c57ca3215", func := "wagonpool/wagonpoollaw02.DigestTagsSeparate", spec := "digestTagsSeparate", unfollowed := true, recurses := true, named := ["wagonpool/digest.k"], apart := false, laid := [("wagonpool/digest.k", laid_wagonpool_digest_k)], narrowed := true }
def DigestTagsSeparateUptoSaid : Prop := digestTagsSeparateUptoRow.holds Tryd.pinned (OpenSpec.upto digestTagsSeparateSpec)

/-- 'wagonpoollaw02.DigestValues', WHERE WHAT IT READS IS OF BULK AT MOST 1048576: true; the input reads as it did. -/
def digestValuesUptoRow : OpenClaim := { program := "ytgdiabbgiiemcaadoor", sum := "85e43f8a03a2dfcb1d153f0d205c8299a903c6e610a0c25cbf54882c57ca3215", func := "wagonpool/wagonpoollaw02.DigestValues", spec := "digestValues", unfollowed := true, recurses := true, named := ["wagonpool/digest.k"], loops := true, apart := false, laid := [("wagonpool/digest.k", laid_wagonpool_digest_k)], narrowed := true }
def DigestValuesUptoSaid : Prop := digestValuesUptoRow.holds Tryd.pinned (OpenSpec.upto digestValuesSpec)

/-- 'wagonpoollaw02.DigestChainBinds', WHERE WHAT IT READS IS OF BULK AT MOST 1048576: true; the input reads as it did. -/
def digestChainBindsUptoRow : OpenClaim := { program := "ytgdiabbgiiemcaadoor", sum := "85e43f8a03a2dfcb1d153f0d205c8299a903c6e610a0c25cbf54882c57ca3215", func := "wagonpool/wagonpoollaw02.DigestChainBinds", spec := "digestChainBinds", unfollowed := true, recurses := true, named := ["wagonpool/digest.k"], apart := false, laid := [("wagonpool/digest.k", laid_wagonpool_digest_k)], narrowed := true }
def DigestChainBindsUptoSaid : Prop := digestChainBindsUptoRow.holds Tryd.pinned (OpenSpec.upto digestChainBindsSpec)

/-- 'wagonpoollaw02.DigestNumbers', WHERE WHAT IT READS IS OF BULK AT MOST 1048576: true; the input reads as it did. -/
def digestNumbersUptoRow : OpenClaim := { program := "ytgdiabbgiiemcaadoor", sum := "85e43f8a03a2dfcb1d153f0d205c8299a903c6e610a0c25cbf54882c57ca3215", func := "wagonpool/wagonpoollaw02.DigestNumbers", spec := "digestNumbers", unfollowed := true, recurses := true, named := ["wagonpool/digest.k"], apart := false, laid := [("wagonpool/digest.k", laid_wagonpool_digest_k)], narrowed := true }
def DigestNumbersUptoSaid : Prop := digestNumbersUptoRow.holds Tryd.pinned (OpenSpec.upto digestNumbersSpec)

/-- 'wagonpoollaw02.DigestBindsValues', WHERE WHAT IT READS IS OF BULK AT MOST 1048576: true; the input reads as it did. -/
def digestBindsValuesUptoRow : OpenClaim := { program := "ytgdiabbgiiemcaadoor", sum := "85e43f8a03a2dfcb1d153f0d205c8299a903c6e610a0c25cbf54882c57ca3215", func := "wagonpool/wagonpoollaw02.DigestBindsValues", spec := "digestBindsValues", inPlace := ["internal/bytealg.Compare"], unfollowed := true, recurses := true, named := ["wagonpool/digest.k"], loops := true, apart := false, laid := [("wagonpool/digest.k", laid_wagonpool_digest_k)], narrowed := true }
def DigestBindsValuesUptoSaid : Prop := digestBindsValuesUptoRow.holds Tryd.pinned (OpenSpec.upto digestBindsValuesSpec)

end Rows
end Go.Proofs.YtgdiabbgiiemcaaDoor
