/-
  NARROWER THAN 'FOR EVERY INPUT', by the rows' own cells (each row's printed sentence says how): TlexMatches: laid · TlexMatchesText: laid · TlexRoundTrip: laid · TlexCovers: laid · TlexJoins: laid · TlexBlanks: laid · TlexNumbers: laid.
  DERIVED. THE GIVEN ROWS OF THIS SEAT. 7 by the template 'for every input the law returns true; each argument reads behind the call as it read before'; 0 by the template 'total and deterministic' (their statements: YtballlkeogmoiaaDoorTotals.lean).
  GIVEN WITH THE SEED: the statements are not yours to turn. If you find one false, say at which input.
  Laid BY PROGRAM, IN A SANDBOX (cutbox-rows.mjs): the forced cells as the released guide's own fill.sh prints them over the translation 98142e85dc216613… (all of the seat's roots in one cut). By AI agents, Wed Nov 11 2026. No macro, syntax, notation, axiom, sorry.
-/
import Derived.Test.YtballlkeogmoiaaDoorChecked
import GoSem.Claim
import GoSem.ClaimJoined
import GoSem.ClaimMapViews
import Derived.JoinedTies
import Derived.KernelRfl
namespace Go.Proofs.YtballlkeogmoiaaDoor
/- THE CELL 'sum', in the pinned program and in every row, IS THE sha256 OF THE DUMP (.gsa) THAT YtballlkeogmoiaaDoorProg.lean LOADS. Nothing in Lean hashes anything: it is a label: what it is worth is what the hold of that sum in a sandbox is worth. -/
noncomputable def Tryd.pinned : Pinned := { name := "ytballlkeogmoiaadoor", sum := "98142e85dc2166138ae40614d53b2c17aa1c0c1a704ca9662e1856a6e458f4d2", checked := Tryd.checked }
namespace Rows
def none {H : Type} : Left H := { results := [], args := [] }

/- WHAT THE LISTED PACKAGE-LEVEL VARIABLES READ AS WHEN THE CALL BEGINS. Each datum BY PROGRAM (the guide's laid-datum.mjs) off the statement by which the dump's own 'gosem.cut.vars' lays the variable. In a bare row this is a premise. The card (YtballlkeogmoiaaDoorCards.lean) ties it to the program's text. -/
def laid_wagonpool_tlex_signs {H : Type} : DataW H := .map [(.int .u8 40, .lit (.string [40])), (.int .u8 41, .lit (.string [41])), (.int .u8 42, .lit (.string [42])), (.int .u8 43, .lit (.string [43])), (.int .u8 44, .lit (.string [44])), (.int .u8 45, .lit (.string [45])), (.int .u8 46, .lit (.string [46, 46])), (.int .u8 59, .lit (.string [59])), (.int .u8 60, .lit (.string [60])), (.int .u8 123, .lit (.string [123])), (.int .u8 125, .lit (.string [125]))]
def laid_wagonpool_tlex_reserved {H : Type} : DataW H := .map [(.string [97, 110, 100], .lit (.bool true)), (.string [98, 101, 103, 105, 110], .lit (.bool true)), (.string [99, 108, 97, 115, 115], .lit (.bool true)), (.string [99, 108, 97, 117, 115, 101], .lit (.bool true)), (.string [99, 108, 101, 97, 110, 105, 110, 103], .lit (.bool true)), (.string [99, 111, 100, 101], .lit (.bool true)), (.string [99, 111, 115, 116], .lit (.bool true)), (.string [100, 101, 109, 117, 114, 114, 97, 103, 101], .lit (.bool true)), (.string [100, 111, 119, 110], .lit (.bool true)), (.string [102, 111, 114], .lit (.bool true)), (.string [102, 114, 101, 105, 103, 104, 116], .lit (.bool true)), (.string [104, 97, 108, 102], .lit (.bool true)), (.string [104, 105, 114, 101], .lit (.bool true)), (.string [105, 102], .lit (.bool true)), (.string [105, 110], .lit (.bool true)), (.string [105, 115], .lit (.bool true)), (.string [107, 103], .lit (.bool true)), (.string [107, 109], .lit (.bool true)), (.string [108, 111, 115, 115], .lit (.bool true)), (.string [109, 97, 120], .lit (.bool true)), (.string [109, 105, 110], .lit (.bool true)), (.string [109, 105, 110, 117, 116, 101], .lit (.bool true)), (.string [109, 105, 110, 117, 116, 101, 115], .lit (.bool true)), (.string [109, 111, 110, 101, 121], .lit (.bool true)), (.string [109, 111, 110, 116, 104], .lit (.bool true)), (.string [111, 119, 110, 101, 114], .lit (.bool true)), (.string [112, 97, 114, 116], .lit (.bool true)), (.string [112, 97, 114, 116, 115], .lit (.bool true)), (.string [112, 97, 121], .lit (.bool true)), (.string [112, 101, 114], .lit (.bool true)), (.string [114, 97, 105, 108, 119, 97, 121], .lit (.bool true)), (.string [114, 101, 112, 97, 105, 114], .lit (.bool true)), (.string [115, 104, 105, 112, 112, 101, 114], .lit (.bool true)), (.string [116, 97, 114, 105, 102, 102], .lit (.bool true)), (.string [116, 121, 112, 101], .lit (.bool true)), (.string [117, 112], .lit (.bool true)), (.string [119, 101, 105, 103, 104, 116], .lit (.bool true)), (.string [119, 104, 101, 110], .lit (.bool true)), (.string [119, 111, 114, 107, 105, 110, 103], .lit (.bool true)), (.string [119, 111, 114, 116, 104], .lit (.bool true))]
def laid_math_bits_deBruijn32tab {H : Type} : DataW H := .agg [.lit (.int .u8 0), .lit (.int .u8 1), .lit (.int .u8 28), .lit (.int .u8 2), .lit (.int .u8 29), .lit (.int .u8 14), .lit (.int .u8 24), .lit (.int .u8 3), .lit (.int .u8 30), .lit (.int .u8 22), .lit (.int .u8 20), .lit (.int .u8 15), .lit (.int .u8 25), .lit (.int .u8 17), .lit (.int .u8 4), .lit (.int .u8 8), .lit (.int .u8 31), .lit (.int .u8 27), .lit (.int .u8 13), .lit (.int .u8 23), .lit (.int .u8 21), .lit (.int .u8 19), .lit (.int .u8 16), .lit (.int .u8 7), .lit (.int .u8 26), .lit (.int .u8 12), .lit (.int .u8 18), .lit (.int .u8 6), .lit (.int .u8 11), .lit (.int .u8 5), .lit (.int .u8 10), .lit (.int .u8 9)]
def laid_math_bits_deBruijn64tab {H : Type} : DataW H := .agg [.lit (.int .u8 0), .lit (.int .u8 1), .lit (.int .u8 56), .lit (.int .u8 2), .lit (.int .u8 57), .lit (.int .u8 49), .lit (.int .u8 28), .lit (.int .u8 3), .lit (.int .u8 61), .lit (.int .u8 58), .lit (.int .u8 42), .lit (.int .u8 50), .lit (.int .u8 38), .lit (.int .u8 29), .lit (.int .u8 17), .lit (.int .u8 4), .lit (.int .u8 62), .lit (.int .u8 47), .lit (.int .u8 59), .lit (.int .u8 36), .lit (.int .u8 45), .lit (.int .u8 43), .lit (.int .u8 51), .lit (.int .u8 22), .lit (.int .u8 53), .lit (.int .u8 39), .lit (.int .u8 33), .lit (.int .u8 30), .lit (.int .u8 24), .lit (.int .u8 18), .lit (.int .u8 12), .lit (.int .u8 5), .lit (.int .u8 63), .lit (.int .u8 55), .lit (.int .u8 48), .lit (.int .u8 27), .lit (.int .u8 60), .lit (.int .u8 41), .lit (.int .u8 37), .lit (.int .u8 16), .lit (.int .u8 46), .lit (.int .u8 35), .lit (.int .u8 44), .lit (.int .u8 21), .lit (.int .u8 52), .lit (.int .u8 32), .lit (.int .u8 23), .lit (.int .u8 11), .lit (.int .u8 54), .lit (.int .u8 26), .lit (.int .u8 40), .lit (.int .u8 15), .lit (.int .u8 34), .lit (.int .u8 20), .lit (.int .u8 31), .lit (.int .u8 10), .lit (.int .u8 25), .lit (.int .u8 14), .lit (.int .u8 19), .lit (.int .u8 9), .lit (.int .u8 13), .lit (.int .u8 8), .lit (.int .u8 7), .lit (.int .u8 6)]
def laid_internal_strconv_uint64pow10 {H : Type} : DataW H := .agg [.lit (.int .u64 1), .lit (.int .u64 10), .lit (.int .u64 100), .lit (.int .u64 1000), .lit (.int .u64 10000), .lit (.int .u64 100000), .lit (.int .u64 1000000), .lit (.int .u64 10000000), .lit (.int .u64 100000000), .lit (.int .u64 1000000000), .lit (.int .u64 10000000000), .lit (.int .u64 100000000000), .lit (.int .u64 1000000000000), .lit (.int .u64 10000000000000), .lit (.int .u64 100000000000000), .lit (.int .u64 1000000000000000), .lit (.int .u64 10000000000000000), .lit (.int .u64 100000000000000000), .lit (.int .u64 1000000000000000000), .lit (.int .u64 10000000000000000000)]

/-- 'wagonpoollaw15.TlexMatches': WHATEVER THE INPUT: true; the input reads as it did. -/
def tlexMatchesSpec : ChangeSpec := { name := "tlexMatches", fn := fun _ => fun
  | [d] => { results := [.lit (.bool true)], args := [d] }
  | _ => none }
def tlexMatchesRow : OpenClaim := { program := "ytballlkeogmoiaadoor", sum := "98142e85dc2166138ae40614d53b2c17aa1c0c1a704ca9662e1856a6e458f4d2", func := "wagonpool/wagonpoollaw15.TlexMatches", spec := "tlexMatches", inPlace := ["internal/bytealg.IndexByteString", "internal/abi.NoEscape", "internal/bytealg.MakeNoZero"], unfollowed := true, recurses := true, named := ["wagonpool/tlex.signs", "wagonpool/tlex.reserved"], apart := false, laid := [("wagonpool/tlex.signs", laid_wagonpool_tlex_signs), ("wagonpool/tlex.reserved", laid_wagonpool_tlex_reserved)] }
def TlexMatchesSaid : Prop := tlexMatchesRow.holds Tryd.pinned (OpenSpec.ofChange tlexMatchesSpec)

/-- ITS FALSE NEIGHBOUR: 'it returns false'. Refute it at one input. -/
def tlexMatchesWrong : ChangeSpec := { name := "tlexMatches", fn := fun _ => fun
  | [d] => { results := [.lit (.bool false)], args := [d] }
  | _ => none }
def TlexMatchesWrongFalsely : Prop := tlexMatchesRow.holds Tryd.pinned (OpenSpec.ofChange tlexMatchesWrong)

/-- 'wagonpoollaw15.TlexMatchesText': WHATEVER THE INPUT: true; the input reads as it did. -/
def tlexMatchesTextSpec : ChangeSpec := { name := "tlexMatchesText", fn := fun _ => fun
  | [d1, d2] => { results := [.lit (.bool true)], args := [d1, d2] }
  | _ => none }
def tlexMatchesTextRow : OpenClaim := { program := "ytballlkeogmoiaadoor", sum := "98142e85dc2166138ae40614d53b2c17aa1c0c1a704ca9662e1856a6e458f4d2", func := "wagonpool/wagonpoollaw15.TlexMatchesText", spec := "tlexMatchesText", inPlace := ["internal/bytealg.IndexByteString", "internal/abi.NoEscape", "internal/bytealg.MakeNoZero"], unfollowed := true, recurses := true, named := ["wagonpool/tlex.signs", "wagonpool/tlex.reserved"], apart := false, laid := [("wagonpool/tlex.signs", laid_wagonpool_tlex_signs), ("wagonpool/tlex.reserved", laid_wagonpool_tlex_reserved)] }
def TlexMatchesTextSaid : Prop := tlexMatchesTextRow.holds Tryd.pinned (OpenSpec.ofChange tlexMatchesTextSpec)

/-- ITS FALSE NEIGHBOUR: 'it returns false'. Refute it at one input. -/
def tlexMatchesTextWrong : ChangeSpec := { name := "tlexMatchesText", fn := fun _ => fun
  | [d1, d2] => { results := [.lit (.bool false)], args := [d1, d2] }
  | _ => none }
def TlexMatchesTextWrongFalsely : Prop := tlexMatchesTextRow.holds Tryd.pinned (OpenSpec.ofChange tlexMatchesTextWrong)

/-- 'wagonpoollaw15.TlexRoundTrip': WHATEVER THE INPUT: true; the input reads as it did. -/
def tlexRoundTripSpec : ChangeSpec := { name := "tlexRoundTrip", fn := fun _ => fun
  | [d] => { results := [.lit (.bool true)], args := [d] }
  | _ => none }
def tlexRoundTripRow : OpenClaim := { program := "ytballlkeogmoiaadoor", sum := "98142e85dc2166138ae40614d53b2c17aa1c0c1a704ca9662e1856a6e458f4d2", func := "wagonpool/wagonpoollaw15.TlexRoundTrip", spec := "tlexRoundTrip", inPlace := ["internal/bytealg.IndexByteString", "internal/abi.NoEscape", "internal/bytealg.MakeNoZero"], unfollowed := true, recurses := true, named := ["wagonpool/tlex.signs", "wagonpool/tlex.reserved"], apart := false, laid := [("wagonpool/tlex.signs", laid_wagonpool_tlex_signs), ("wagonpool/tlex.reserved", laid_wagonpool_tlex_reserved)] }
def TlexRoundTripSaid : Prop := tlexRoundTripRow.holds Tryd.pinned (OpenSpec.ofChange tlexRoundTripSpec)

/-- ITS FALSE NEIGHBOUR: 'it returns false'. Refute it at one input. -/
def tlexRoundTripWrong : ChangeSpec := { name := "tlexRoundTrip", fn := fun _ => fun
  | [d] => { results := [.lit (.bool false)], args := [d] }
  | _ => none }
def TlexRoundTripWrongFalsely : Prop := tlexRoundTripRow.holds Tryd.pinned (OpenSpec.ofChange tlexRoundTripWrong)

/-- 'wagonpoollaw15.TlexCovers': WHATEVER THE INPUT: true; the input reads as it did. -/
def tlexCoversSpec : ChangeSpec := { name := "tlexCovers", fn := fun _ => fun
  | [d] => { results := [.lit (.bool true)], args := [d] }
  | _ => none }
def tlexCoversRow : OpenClaim := { program := "ytballlkeogmoiaadoor", sum := "98142e85dc2166138ae40614d53b2c17aa1c0c1a704ca9662e1856a6e458f4d2", func := "wagonpool/wagonpoollaw15.TlexCovers", spec := "tlexCovers", inPlace := ["internal/bytealg.IndexByteString", "internal/abi.NoEscape", "internal/bytealg.MakeNoZero"], unfollowed := true, recurses := true, named := ["wagonpool/tlex.signs", "wagonpool/tlex.reserved"], apart := false, laid := [("wagonpool/tlex.signs", laid_wagonpool_tlex_signs), ("wagonpool/tlex.reserved", laid_wagonpool_tlex_reserved)] }
def TlexCoversSaid : Prop := tlexCoversRow.holds Tryd.pinned (OpenSpec.ofChange tlexCoversSpec)

/-- ITS FALSE NEIGHBOUR: 'it returns false'. Refute it at one input. -/
def tlexCoversWrong : ChangeSpec := { name := "tlexCovers", fn := fun _ => fun
  | [d] => { results := [.lit (.bool false)], args := [d] }
  | _ => none }
def TlexCoversWrongFalsely : Prop := tlexCoversRow.holds Tryd.pinned (OpenSpec.ofChange tlexCoversWrong)

/-- 'wagonpoollaw15.TlexJoins': WHATEVER THE INPUT: true; the input reads as it did. -/
def tlexJoinsSpec : ChangeSpec := { name := "tlexJoins", fn := fun _ => fun
  | [d1, d2] => { results := [.lit (.bool true)], args := [d1, d2] }
  | _ => none }
def tlexJoinsRow : OpenClaim := { program := "ytballlkeogmoiaadoor", sum := "98142e85dc2166138ae40614d53b2c17aa1c0c1a704ca9662e1856a6e458f4d2", func := "wagonpool/wagonpoollaw15.TlexJoins", spec := "tlexJoins", inPlace := ["internal/bytealg.IndexByteString", "internal/abi.NoEscape", "internal/bytealg.MakeNoZero"], unfollowed := true, recurses := true, named := ["wagonpool/tlex.signs", "wagonpool/tlex.reserved"], apart := false, laid := [("wagonpool/tlex.signs", laid_wagonpool_tlex_signs), ("wagonpool/tlex.reserved", laid_wagonpool_tlex_reserved)] }
def TlexJoinsSaid : Prop := tlexJoinsRow.holds Tryd.pinned (OpenSpec.ofChange tlexJoinsSpec)

/-- ITS FALSE NEIGHBOUR: 'it returns false'. Refute it at one input. -/
def tlexJoinsWrong : ChangeSpec := { name := "tlexJoins", fn := fun _ => fun
  | [d1, d2] => { results := [.lit (.bool false)], args := [d1, d2] }
  | _ => none }
def TlexJoinsWrongFalsely : Prop := tlexJoinsRow.holds Tryd.pinned (OpenSpec.ofChange tlexJoinsWrong)

/-- 'wagonpoollaw15.TlexBlanks': WHATEVER THE INPUT: true; the input reads as it did. -/
def tlexBlanksSpec : ChangeSpec := { name := "tlexBlanks", fn := fun _ => fun
  | [d1, d2, d3] => { results := [.lit (.bool true)], args := [d1, d2, d3] }
  | _ => none }
def tlexBlanksRow : OpenClaim := { program := "ytballlkeogmoiaadoor", sum := "98142e85dc2166138ae40614d53b2c17aa1c0c1a704ca9662e1856a6e458f4d2", func := "wagonpool/wagonpoollaw15.TlexBlanks", spec := "tlexBlanks", inPlace := ["internal/bytealg.IndexByteString", "internal/abi.NoEscape", "internal/bytealg.MakeNoZero"], unfollowed := true, recurses := true, named := ["wagonpool/tlex.signs", "wagonpool/tlex.reserved"], apart := false, laid := [("wagonpool/tlex.signs", laid_wagonpool_tlex_signs), ("wagonpool/tlex.reserved", laid_wagonpool_tlex_reserved)] }
def TlexBlanksSaid : Prop := tlexBlanksRow.holds Tryd.pinned (OpenSpec.ofChange tlexBlanksSpec)

/-- ITS FALSE NEIGHBOUR: 'it returns false'. Refute it at one input. -/
def tlexBlanksWrong : ChangeSpec := { name := "tlexBlanks", fn := fun _ => fun
  | [d1, d2, d3] => { results := [.lit (.bool false)], args := [d1, d2, d3] }
  | _ => none }
def TlexBlanksWrongFalsely : Prop := tlexBlanksRow.holds Tryd.pinned (OpenSpec.ofChange tlexBlanksWrong)

/-- 'wagonpoollaw15.TlexNumbers': WHATEVER THE INPUT: true; the input reads as it did. -/
def tlexNumbersSpec : ChangeSpec := { name := "tlexNumbers", fn := fun _ => fun
  | [d] => { results := [.lit (.bool true)], args := [d] }
  | _ => none }
def tlexNumbersRow : OpenClaim := { program := "ytballlkeogmoiaadoor", sum := "98142e85dc2166138ae40614d53b2c17aa1c0c1a704ca9662e1856a6e458f4d2", func := "wagonpool/wagonpoollaw15.TlexNumbers", spec := "tlexNumbers", inPlace := ["internal/bytealg.IndexByteString", "internal/abi.NoEscape", "internal/bytealg.MakeNoZero"], unfollowed := true, recurses := true, named := ["wagonpool/tlex.signs", "wagonpool/tlex.reserved", "internal/strconv.uint64pow10", "math/bits.deBruijn32tab", "math/bits.deBruijn64tab"], apart := false, laid := [("math/bits.deBruijn32tab", laid_math_bits_deBruijn32tab), ("math/bits.deBruijn64tab", laid_math_bits_deBruijn64tab), ("internal/strconv.uint64pow10", laid_internal_strconv_uint64pow10), ("wagonpool/tlex.signs", laid_wagonpool_tlex_signs), ("wagonpool/tlex.reserved", laid_wagonpool_tlex_reserved)] }
def TlexNumbersSaid : Prop := tlexNumbersRow.holds Tryd.pinned (OpenSpec.ofChange tlexNumbersSpec)

/-- ITS FALSE NEIGHBOUR: 'it returns false'. Refute it at one input. -/
def tlexNumbersWrong : ChangeSpec := { name := "tlexNumbers", fn := fun _ => fun
  | [d] => { results := [.lit (.bool false)], args := [d] }
  | _ => none }
def TlexNumbersWrongFalsely : Prop := tlexNumbersRow.holds Tryd.pinned (OpenSpec.ofChange tlexNumbersWrong)

/- THE SECOND FORM. 'bulk': how many values and letters a reading holds, each counted each time it is reached (what is shared counts as often as it is met; a slice's spare places count too). A statement '..UptoSaid' is the law's where the arguments, and the package variables that the reading takes, are together of bulk at most 1048576: NARROWER than '..Said'. Prove '..Said' where nothing that the law and all that it calls make is longer than what came in: it says more and counts as full. Else prove '..UptoSaid'. A law counts once. -/
mutual
def uptoBulk {H : Type} : DataW H → Nat
  | .lit (.string bytes) => bytes.length + 1
  | .lit _ => 1
  | .nil => 1
  | .ptr d => uptoBulk d + 1
  | .slice elems spare => uptoBulkAll elems + uptoBulkAll spare + 1
  | .agg parts => uptoBulkAll parts + 1
  | .iface _ d => uptoBulk d + 1
  | .map entries => uptoBulkEntries entries + 1
  | .held _ => 1
def uptoBulkAll {H : Type} : List (DataW H) → Nat
  | [] => 0
  | d :: r => uptoBulk d + uptoBulkAll r
def uptoBulkEntries {H : Type} : List (Lit × DataW H) → Nat
  | [] => 0
  | x :: r => uptoBulkEntry x + uptoBulkEntries r
def uptoBulkEntry {H : Type} : Lit × DataW H → Nat
  | (.string bytes, d) => bytes.length + uptoBulk d + 1
  | (_, d) => uptoBulk d + 1
 end
def uptoSmall : (H : Type) → List (DataW H) → Bool := fun _ ds => decide (uptoBulkAll ds ≤ 1048576)
def OpenSpec.upto (s : _root_.Go.ChangeSpec) : _root_.Go.OpenSpec := { _root_.Go.OpenSpec.ofChange s with cond := some uptoSmall }

/-- 'wagonpoollaw15.TlexMatches', WHERE WHAT IT READS IS OF BULK AT MOST 1048576: true; the input reads as it did. -/
def tlexMatchesUptoRow : OpenClaim := { program := "ytballlkeogmoiaadoor", sum := "98142e85dc2166138ae40614d53b2c17aa1c0c1a704ca9662e1856a6e458f4d2", func := "wagonpool/wagonpoollaw15.TlexMatches", spec := "tlexMatches", inPlace := ["internal/bytealg.IndexByteString", "internal/abi.NoEscape", "internal/bytealg.MakeNoZero"], unfollowed := true, recurses := true, named := ["wagonpool/tlex.signs", "wagonpool/tlex.reserved"], apart := false, laid := [("wagonpool/tlex.signs", laid_wagonpool_tlex_signs), ("wagonpool/tlex.reserved", laid_wagonpool_tlex_reserved)], narrowed := true }
def TlexMatchesUptoSaid : Prop := tlexMatchesUptoRow.holds Tryd.pinned (OpenSpec.upto tlexMatchesSpec)

/-- 'wagonpoollaw15.TlexMatchesText', WHERE WHAT IT READS IS OF BULK AT MOST 1048576: true; the input reads as it did. -/
def tlexMatchesTextUptoRow : OpenClaim := { program := "ytballlkeogmoiaadoor", sum := "98142e85dc2166138ae40614d53b2c17aa1c0c1a704ca9662e1856a6e458f4d2", func := "wagonpool/wagonpoollaw15.TlexMatchesText", spec := "tlexMatchesText", inPlace := ["internal/bytealg.IndexByteString", "internal/abi.NoEscape", "internal/bytealg.MakeNoZero"], unfollowed := true, recurses := true, named := ["wagonpool/tlex.signs", "wagonpool/tlex.reserved"], apart := false, laid := [("wagonpool/tlex.signs", laid_wagonpool_tlex_signs), ("wagonpool/tlex.reserved", laid_wagonpool_tlex_reserved)], narrowed := true }
def TlexMatchesTextUptoSaid : Prop := tlexMatchesTextUptoRow.holds Tryd.pinned (OpenSpec.upto tlexMatchesTextSpec)

/-- 'wagonpoollaw15.TlexRoundTrip', WHERE WHAT IT READS IS OF BULK AT MOST 1048576: true; the input reads as it did. -/
def tlexRoundTripUptoRow : OpenClaim := { program := "ytballlkeogmoiaadoor", sum := "98142e85dc2166138ae40614d53b2c17aa1c0c1a704ca9662e1856a6e458f4d2", func := "wagonpool/wagonpoollaw15.TlexRoundTrip", spec := "tlexRoundTrip", inPlace := ["internal/bytealg.IndexByteString", "internal/abi.NoEscape", "internal/bytealg.MakeNoZero"], unfollowed := true, recurses := true, named := ["wagonpool/tlex.signs", "wagonpool/tlex.reserved"], apart := false, laid := [("wagonpool/tlex.signs", laid_wagonpool_tlex_signs), ("wagonpool/tlex.reserved", laid_wagonpool_tlex_reserved)], narrowed := true }
def TlexRoundTripUptoSaid : Prop := tlexRoundTripUptoRow.holds Tryd.pinned (OpenSpec.upto tlexRoundTripSpec)

/-- 'wagonpoollaw15.TlexCovers', WHERE WHAT IT READS IS OF BULK AT MOST 1048576: true; the input reads as it did. -/
def tlexCoversUptoRow : OpenClaim := { program := "ytballlkeogmoiaadoor", sum := "98142e85dc2166138ae40614d53b2c17aa1c0c1a704ca9662e1856a6e458f4d2", func := "wagonpool/wagonpoollaw15.TlexCovers", spec := "tlexCovers", inPlace := ["internal/bytealg.IndexByteString", "internal/abi.NoEscape", "internal/bytealg.MakeNoZero"], unfollowed := true, recurses := true, named := ["wagonpool/tlex.signs", "wagonpool/tlex.reserved"], apart := false, laid := [("wagonpool/tlex.signs", laid_wagonpool_tlex_signs), ("wagonpool/tlex.reserved", laid_wagonpool_tlex_reserved)], narrowed := true }
def TlexCoversUptoSaid : Prop := tlexCoversUptoRow.holds Tryd.pinned (OpenSpec.upto tlexCoversSpec)

/-- 'wagonpoollaw15.TlexJoins', WHERE WHAT IT READS IS OF BULK AT MOST 1048576: true; the input reads as it did. -/
def tlexJoinsUptoRow : OpenClaim := { program := "ytballlkeogmoiaadoor", sum := "98142e85dc2166138ae40614d53b2c17aa1c0c1a704ca9662e1856a6e458f4d2", func := "wagonpool/wagonpoollaw15.TlexJoins", spec := "tlexJoins", inPlace := ["internal/bytealg.IndexByteString", "internal/abi.NoEscape", "internal/bytealg.MakeNoZero"], unfollowed := true, recurses := true, named := ["wagonpool/tlex.signs", "wagonpool/tlex.reserved"], apart := false, laid := [("wagonpool/tlex.signs", laid_wagonpool_tlex_signs), ("wagonpool/tlex.reserved", laid_wagonpool_tlex_reserved)], narrowed := true }
def TlexJoinsUptoSaid : Prop := tlexJoinsUptoRow.holds Tryd.pinned (OpenSpec.upto tlexJoinsSpec)

/-- 'wagonpoollaw15.TlexBlanks', WHERE WHAT IT READS IS OF BULK AT MOST 1048576: true; the input reads as it did. -/
def tlexBlanksUptoRow : OpenClaim := { program := "ytballlkeogmoiaadoor", sum := "98142e85dc2166138ae40614d53b2c17aa1c0c1a704ca9662e1856a6e458f4d2", func := "wagonpool/wagonpoollaw15.TlexBlanks", spec := "tlexBlanks", inPlace := ["internal/bytealg.IndexByteString", "internal/abi.NoEscape", "internal/bytealg.MakeNoZero"], unfollowed := true, recurses := true, named := ["wagonpool/tlex.signs", "wagonpool/tlex.reserved"], apart := false, laid := [("wagonpool/tlex.signs", laid_wagonpool_tlex_signs), ("wagonpool/tlex.reserved", laid_wagonpool_tlex_reserved)], narrowed := true }
def TlexBlanksUptoSaid : Prop := tlexBlanksUptoRow.holds Tryd.pinned (OpenSpec.upto tlexBlanksSpec)

/-- 'wagonpoollaw15.TlexNumbers', WHERE WHAT IT READS IS OF BULK AT MOST 1048576: true; the input reads as it did. -/
def tlexNumbersUptoRow : OpenClaim := { program := "ytballlkeogmoiaadoor", sum := "98142e85dc2166138ae40614d53b2c17aa1c0c1a704ca9662e1856a6e458f4d2", func := "wagonpool/wagonpoollaw15.TlexNumbers", spec := "tlexNumbers", inPlace := ["internal/bytealg.IndexByteString", "internal/abi.NoEscape", "internal/bytealg.MakeNoZero"], unfollowed := true, recurses := true, named := ["wagonpool/tlex.signs", "wagonpool/tlex.reserved", "internal/strconv.uint64pow10", "math/bits.deBruijn32tab", "math/bits.deBruijn64tab"], apart := false, laid := [("math/bits.deBruijn32tab", laid_math_bits_deBruijn32tab), ("math/bits.deBruijn64tab", laid_math_bits_deBruijn64tab), ("internal/strconv.uint64pow10", laid_internal_strconv_uint64pow10), ("wagonpool/tlex.signs", laid_wagonpool_tlex_signs), ("wagonpool/tlex.reserved", laid_wagonpool_tlex_reserved)], narrowed := true }
def TlexNumbersUptoSaid : Prop := tlexNumbersUptoRow.holds Tryd.pinned (OpenSpec.upto tlexNumbersSpec)

end Rows
end Go.Proofs.YtballlkeogmoiaaDoor
