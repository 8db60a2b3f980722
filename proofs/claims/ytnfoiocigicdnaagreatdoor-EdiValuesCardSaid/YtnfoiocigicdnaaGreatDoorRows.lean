/-
  NARROWER THAN 'FOR EVERY INPUT', by the rows' own cells (each row's printed sentence says how): EdiCheckMatchesReference: laid · EdiMatchesReference: laid · EdiParseMatchesReference: laid · EdiRoundTrip: laid · EdiParseIsCanonical: laid · EdiBinds: laid · EdiExact: laid · EdiFramed: laid · EdiValues: loops, laid.
  DERIVED. THE GIVEN ROWS OF THIS SEAT. 9 by the template 'for every input the law returns true; each argument reads behind the call as it read before'; 0 by the template 'total and deterministic' (their statements: YtnfoiocigicdnaaGreatDoorTotals.lean).
  GIVEN WITH THE SEED: the statements are not yours to turn. If you find one false, say at which input.
  Laid BY PROGRAM, IN A SANDBOX (cutbox-rows.mjs): the forced cells as the released guide's own fill.sh prints them over the translation a0b3e8158f5484ce… (all of the seat's roots in one cut). By AI agents, Wed Nov 11 2026. No macro, syntax, notation, axiom, sorry.
-/
import Derived.Test.YtnfoiocigicdnaaGreatDoorChecked
import GoSem.PinnedTables
import GoSem.Claim
import GoSem.ClaimJoined
import GoSem.ClaimMapViews
import Derived.JoinedTies
import Derived.KernelRfl
namespace Go.Proofs.YtnfoiocigicdnaaGreatDoor
/- THE CELL 'sum', in the pinned program and in every row, IS THE sha256 OF THE DUMP (.gsa) THAT YtnfoiocigicdnaaGreatDoorProg.lean LOADS. Nothing in Lean hashes anything: it is a label: what it is worth is what the hold of that sum in a sandbox is worth. -/
noncomputable def Tryz.pinned : Pinned := { name := "ytnfoiocigicdnaagreatdoor", sum := "a0b3e8158f5484ceeed212a5b3487a08fce52c7ec02234175860756b495bf64c", checked := Tryz.checked }
namespace Rows
def none {H : Type} : Left H := { results := [], args := [] }

/- WHAT THE LISTED PACKAGE-LEVEL VARIABLES READ AS WHEN THE CALL BEGINS. Each datum BY PROGRAM (the guide's laid-datum.mjs) off the statement by which the dump's own 'gosem.cut.vars' lays the variable. In a bare row this is a premise. The card (YtnfoiocigicdnaaGreatDoorCards.lean) ties it to the program's text. -/
def laid_math_bits_deBruijn32tab {H : Type} : DataW H := .agg [.lit (.int .u8 0), .lit (.int .u8 1), .lit (.int .u8 28), .lit (.int .u8 2), .lit (.int .u8 29), .lit (.int .u8 14), .lit (.int .u8 24), .lit (.int .u8 3), .lit (.int .u8 30), .lit (.int .u8 22), .lit (.int .u8 20), .lit (.int .u8 15), .lit (.int .u8 25), .lit (.int .u8 17), .lit (.int .u8 4), .lit (.int .u8 8), .lit (.int .u8 31), .lit (.int .u8 27), .lit (.int .u8 13), .lit (.int .u8 23), .lit (.int .u8 21), .lit (.int .u8 19), .lit (.int .u8 16), .lit (.int .u8 7), .lit (.int .u8 26), .lit (.int .u8 12), .lit (.int .u8 18), .lit (.int .u8 6), .lit (.int .u8 11), .lit (.int .u8 5), .lit (.int .u8 10), .lit (.int .u8 9)]
def laid_math_bits_deBruijn64tab {H : Type} : DataW H := .agg [.lit (.int .u8 0), .lit (.int .u8 1), .lit (.int .u8 56), .lit (.int .u8 2), .lit (.int .u8 57), .lit (.int .u8 49), .lit (.int .u8 28), .lit (.int .u8 3), .lit (.int .u8 61), .lit (.int .u8 58), .lit (.int .u8 42), .lit (.int .u8 50), .lit (.int .u8 38), .lit (.int .u8 29), .lit (.int .u8 17), .lit (.int .u8 4), .lit (.int .u8 62), .lit (.int .u8 47), .lit (.int .u8 59), .lit (.int .u8 36), .lit (.int .u8 45), .lit (.int .u8 43), .lit (.int .u8 51), .lit (.int .u8 22), .lit (.int .u8 53), .lit (.int .u8 39), .lit (.int .u8 33), .lit (.int .u8 30), .lit (.int .u8 24), .lit (.int .u8 18), .lit (.int .u8 12), .lit (.int .u8 5), .lit (.int .u8 63), .lit (.int .u8 55), .lit (.int .u8 48), .lit (.int .u8 27), .lit (.int .u8 60), .lit (.int .u8 41), .lit (.int .u8 37), .lit (.int .u8 16), .lit (.int .u8 46), .lit (.int .u8 35), .lit (.int .u8 44), .lit (.int .u8 21), .lit (.int .u8 52), .lit (.int .u8 32), .lit (.int .u8 23), .lit (.int .u8 11), .lit (.int .u8 54), .lit (.int .u8 26), .lit (.int .u8 40), .lit (.int .u8 15), .lit (.int .u8 34), .lit (.int .u8 20), .lit (.int .u8 31), .lit (.int .u8 10), .lit (.int .u8 25), .lit (.int .u8 14), .lit (.int .u8 19), .lit (.int .u8 9), .lit (.int .u8 13), .lit (.int .u8 8), .lit (.int .u8 7), .lit (.int .u8 6)]
def laid_internal_strconv_uint64pow10 {H : Type} : DataW H := .agg [.lit (.int .u64 1), .lit (.int .u64 10), .lit (.int .u64 100), .lit (.int .u64 1000), .lit (.int .u64 10000), .lit (.int .u64 100000), .lit (.int .u64 1000000), .lit (.int .u64 10000000), .lit (.int .u64 100000000), .lit (.int .u64 1000000000), .lit (.int .u64 10000000000), .lit (.int .u64 100000000000), .lit (.int .u64 1000000000000), .lit (.int .u64 10000000000000), .lit (.int .u64 100000000000000), .lit (.int .u64 1000000000000000), .lit (.int .u64 10000000000000000), .lit (.int .u64 100000000000000000), .lit (.int .u64 1000000000000000000), .lit (.int .u64 10000000000000000000)]
def laid_unicode_utf8_acceptRanges {H : Type} : DataW H := .agg [.agg [.lit (.int .u8 128), .lit (.int .u8 191)], .agg [.lit (.int .u8 160), .lit (.int .u8 191)], .agg [.lit (.int .u8 128), .lit (.int .u8 159)], .agg [.lit (.int .u8 144), .lit (.int .u8 191)], .agg [.lit (.int .u8 128), .lit (.int .u8 143)], .agg [.lit (.int .u8 0), .lit (.int .u8 0)], .agg [.lit (.int .u8 0), .lit (.int .u8 0)], .agg [.lit (.int .u8 0), .lit (.int .u8 0)], .agg [.lit (.int .u8 0), .lit (.int .u8 0)], .agg [.lit (.int .u8 0), .lit (.int .u8 0)], .agg [.lit (.int .u8 0), .lit (.int .u8 0)], .agg [.lit (.int .u8 0), .lit (.int .u8 0)], .agg [.lit (.int .u8 0), .lit (.int .u8 0)], .agg [.lit (.int .u8 0), .lit (.int .u8 0)], .agg [.lit (.int .u8 0), .lit (.int .u8 0)], .agg [.lit (.int .u8 0), .lit (.int .u8 0)]]
def laid_strconv_ErrRange {H : Type} : DataW H := .iface "*errors.errorString" (.ptr (.agg [.lit (.string [118, 97, 108, 117, 101, 32, 111, 117, 116, 32, 111, 102, 32, 114, 97, 110, 103, 101])]))
def laid_strconv_ErrSyntax {H : Type} : DataW H := .iface "*errors.errorString" (.ptr (.agg [.lit (.string [105, 110, 118, 97, 108, 105, 100, 32, 115, 121, 110, 116, 97, 120])]))
def laid_wagonpool_edi_tags {H : Type} : DataW H := .agg [.lit (.string []), .lit (.string [82, 69, 65, 68]), .lit (.string [83, 84, 65, 89]), .lit (.string [68, 69, 76, 73, 86, 69, 82]), .lit (.string [82, 69, 67, 69, 73, 86, 69]), .lit (.string [87, 65, 89, 66, 73, 76, 76]), .lit (.string [80, 76, 65, 67, 69, 68]), .lit (.string [82, 69, 76, 69, 65, 83, 69, 68]), .lit (.string [68, 65, 77, 65, 71, 69, 68]), .lit (.string [82, 69, 80, 65, 73, 82, 69, 68]), .lit (.string [82, 69, 67, 65, 76, 76]), .lit (.string [84, 65, 82, 73, 70, 70]), .lit (.string [65, 77, 69, 78, 68]), .lit (.string [67, 65, 78, 67, 69, 76]), .lit (.string [82, 69, 84, 82, 65, 67, 84]), .lit (.string [79, 82, 68, 69, 82])]
/-- One of Go's own tables, pinned by name: the form's constant. -/
def laid_unicode_utf8_first : DataW Unit := Go.Pinned.utf8First

/-- 'wagonpoollaw11.EdiCheckMatchesReference': WHATEVER THE INPUT: true; the input reads as it did. -/
def ediCheckMatchesReferenceSpec : ChangeSpec := { name := "ediCheckMatchesReference", fn := fun _ => fun
  | [d1, d2] => { results := [.lit (.bool true)], args := [d1, d2] }
  | _ => none }
def ediCheckMatchesReferenceRow : OpenClaim := { program := "ytnfoiocigicdnaagreatdoor", sum := "a0b3e8158f5484ceeed212a5b3487a08fce52c7ec02234175860756b495bf64c", func := "wagonpool/wagonpoollaw11.EdiCheckMatchesReference", spec := "ediCheckMatchesReference", inPlace := ["internal/abi.NoEscape", "internal/bytealg.CountString", "internal/bytealg.IndexByteString", "internal/bytealg.IndexString", "internal/bytealg.Compare"], unfollowed := true, recurses := true, named := ["wagonpool/edi.tags", "internal/strconv.uint64pow10", "math/bits.deBruijn32tab", "math/bits.deBruijn64tab", "unicode/utf8.first", "unicode/utf8.acceptRanges", "internal/bytealg.MaxLen", "strconv.ErrSyntax", "strconv.ErrRange", "math/bits.divideError", "math/bits.overflowError"], apart := false, laid := [("math/bits.deBruijn32tab", laid_math_bits_deBruijn32tab), ("math/bits.deBruijn64tab", laid_math_bits_deBruijn64tab), ("internal/strconv.uint64pow10", laid_internal_strconv_uint64pow10), ("unicode/utf8.acceptRanges", laid_unicode_utf8_acceptRanges), ("strconv.ErrRange", laid_strconv_ErrRange), ("strconv.ErrSyntax", laid_strconv_ErrSyntax), ("wagonpool/edi.tags", laid_wagonpool_edi_tags), ("unicode/utf8.first", laid_unicode_utf8_first)] }
def EdiCheckMatchesReferenceSaid : Prop := ediCheckMatchesReferenceRow.holds Tryz.pinned (OpenSpec.ofChange ediCheckMatchesReferenceSpec)

/-- ITS FALSE NEIGHBOUR: 'it returns false'. Refute it at one input. -/
def ediCheckMatchesReferenceWrong : ChangeSpec := { name := "ediCheckMatchesReference", fn := fun _ => fun
  | [d1, d2] => { results := [.lit (.bool false)], args := [d1, d2] }
  | _ => none }
def EdiCheckMatchesReferenceWrongFalsely : Prop := ediCheckMatchesReferenceRow.holds Tryz.pinned (OpenSpec.ofChange ediCheckMatchesReferenceWrong)

/-- 'wagonpoollaw11.EdiMatchesReference': WHATEVER THE INPUT: true; the input reads as it did. -/
def ediMatchesReferenceSpec : ChangeSpec := { name := "ediMatchesReference", fn := fun _ => fun
  | [d] => { results := [.lit (.bool true)], args := [d] }
  | _ => none }
def ediMatchesReferenceRow : OpenClaim := { program := "ytnfoiocigicdnaagreatdoor", sum := "a0b3e8158f5484ceeed212a5b3487a08fce52c7ec02234175860756b495bf64c", func := "wagonpool/wagonpoollaw11.EdiMatchesReference", spec := "ediMatchesReference", inPlace := ["internal/abi.NoEscape", "internal/bytealg.CountString", "internal/bytealg.IndexByteString", "internal/bytealg.IndexString", "internal/bytealg.Compare"], unfollowed := true, recurses := true, named := ["wagonpool/edi.tags", "internal/strconv.uint64pow10", "math/bits.deBruijn32tab", "math/bits.deBruijn64tab", "unicode/utf8.first", "unicode/utf8.acceptRanges", "internal/bytealg.MaxLen", "strconv.ErrSyntax", "strconv.ErrRange", "math/bits.divideError", "math/bits.overflowError"], apart := false, laid := [("math/bits.deBruijn32tab", laid_math_bits_deBruijn32tab), ("math/bits.deBruijn64tab", laid_math_bits_deBruijn64tab), ("internal/strconv.uint64pow10", laid_internal_strconv_uint64pow10), ("unicode/utf8.acceptRanges", laid_unicode_utf8_acceptRanges), ("strconv.ErrRange", laid_strconv_ErrRange), ("strconv.ErrSyntax", laid_strconv_ErrSyntax), ("wagonpool/edi.tags", laid_wagonpool_edi_tags), ("unicode/utf8.first", laid_unicode_utf8_first)] }
def EdiMatchesReferenceSaid : Prop := ediMatchesReferenceRow.holds Tryz.pinned (OpenSpec.ofChange ediMatchesReferenceSpec)

/-- ITS FALSE NEIGHBOUR: 'it returns false'. Refute it at one input. -/
def ediMatchesReferenceWrong : ChangeSpec := { name := "ediMatchesReference", fn := fun _ => fun
  | [d] => { results := [.lit (.bool false)], args := [d] }
  | _ => none }
def EdiMatchesReferenceWrongFalsely : Prop := ediMatchesReferenceRow.holds Tryz.pinned (OpenSpec.ofChange ediMatchesReferenceWrong)

/-- 'wagonpoollaw11.EdiParseMatchesReference': WHATEVER THE INPUT: true; the input reads as it did. -/
def ediParseMatchesReferenceSpec : ChangeSpec := { name := "ediParseMatchesReference", fn := fun _ => fun
  | [d] => { results := [.lit (.bool true)], args := [d] }
  | _ => none }
def ediParseMatchesReferenceRow : OpenClaim := { program := "ytnfoiocigicdnaagreatdoor", sum := "a0b3e8158f5484ceeed212a5b3487a08fce52c7ec02234175860756b495bf64c", func := "wagonpool/wagonpoollaw11.EdiParseMatchesReference", spec := "ediParseMatchesReference", inPlace := ["internal/abi.NoEscape", "internal/bytealg.CountString", "internal/bytealg.IndexByteString", "internal/bytealg.IndexString", "internal/bytealg.Compare"], unfollowed := true, recurses := true, named := ["wagonpool/edi.tags", "internal/strconv.uint64pow10", "math/bits.deBruijn32tab", "math/bits.deBruijn64tab", "unicode/utf8.first", "unicode/utf8.acceptRanges", "internal/bytealg.MaxLen", "strconv.ErrSyntax", "strconv.ErrRange", "math/bits.divideError", "math/bits.overflowError"], apart := false, laid := [("math/bits.deBruijn32tab", laid_math_bits_deBruijn32tab), ("math/bits.deBruijn64tab", laid_math_bits_deBruijn64tab), ("internal/strconv.uint64pow10", laid_internal_strconv_uint64pow10), ("unicode/utf8.acceptRanges", laid_unicode_utf8_acceptRanges), ("strconv.ErrRange", laid_strconv_ErrRange), ("strconv.ErrSyntax", laid_strconv_ErrSyntax), ("wagonpool/edi.tags", laid_wagonpool_edi_tags), ("unicode/utf8.first", laid_unicode_utf8_first)] }
def EdiParseMatchesReferenceSaid : Prop := ediParseMatchesReferenceRow.holds Tryz.pinned (OpenSpec.ofChange ediParseMatchesReferenceSpec)

/-- ITS FALSE NEIGHBOUR: 'it returns false'. Refute it at one input. -/
def ediParseMatchesReferenceWrong : ChangeSpec := { name := "ediParseMatchesReference", fn := fun _ => fun
  | [d] => { results := [.lit (.bool false)], args := [d] }
  | _ => none }
def EdiParseMatchesReferenceWrongFalsely : Prop := ediParseMatchesReferenceRow.holds Tryz.pinned (OpenSpec.ofChange ediParseMatchesReferenceWrong)

/-- 'wagonpoollaw11.EdiRoundTrip': WHATEVER THE INPUT: true; the input reads as it did. -/
def ediRoundTripSpec : ChangeSpec := { name := "ediRoundTrip", fn := fun _ => fun
  | [d] => { results := [.lit (.bool true)], args := [d] }
  | _ => none }
def ediRoundTripRow : OpenClaim := { program := "ytnfoiocigicdnaagreatdoor", sum := "a0b3e8158f5484ceeed212a5b3487a08fce52c7ec02234175860756b495bf64c", func := "wagonpool/wagonpoollaw11.EdiRoundTrip", spec := "ediRoundTrip", inPlace := ["internal/abi.NoEscape", "internal/bytealg.CountString", "internal/bytealg.IndexByteString", "internal/bytealg.IndexString", "internal/bytealg.Compare"], unfollowed := true, recurses := true, named := ["wagonpool/edi.tags", "internal/strconv.uint64pow10", "math/bits.deBruijn32tab", "math/bits.deBruijn64tab", "unicode/utf8.first", "unicode/utf8.acceptRanges", "internal/bytealg.MaxLen", "strconv.ErrSyntax", "strconv.ErrRange", "math/bits.divideError", "math/bits.overflowError"], apart := false, laid := [("math/bits.deBruijn32tab", laid_math_bits_deBruijn32tab), ("math/bits.deBruijn64tab", laid_math_bits_deBruijn64tab), ("internal/strconv.uint64pow10", laid_internal_strconv_uint64pow10), ("unicode/utf8.acceptRanges", laid_unicode_utf8_acceptRanges), ("strconv.ErrRange", laid_strconv_ErrRange), ("strconv.ErrSyntax", laid_strconv_ErrSyntax), ("wagonpool/edi.tags", laid_wagonpool_edi_tags), ("unicode/utf8.first", laid_unicode_utf8_first)] }
def EdiRoundTripSaid : Prop := ediRoundTripRow.holds Tryz.pinned (OpenSpec.ofChange ediRoundTripSpec)

/-- ITS FALSE NEIGHBOUR: 'it returns false'. Refute it at one input. -/
def ediRoundTripWrong : ChangeSpec := { name := "ediRoundTrip", fn := fun _ => fun
  | [d] => { results := [.lit (.bool false)], args := [d] }
  | _ => none }
def EdiRoundTripWrongFalsely : Prop := ediRoundTripRow.holds Tryz.pinned (OpenSpec.ofChange ediRoundTripWrong)

/-- 'wagonpoollaw11.EdiParseIsCanonical': WHATEVER THE INPUT: true; the input reads as it did. -/
def ediParseIsCanonicalSpec : ChangeSpec := { name := "ediParseIsCanonical", fn := fun _ => fun
  | [d] => { results := [.lit (.bool true)], args := [d] }
  | _ => none }
def ediParseIsCanonicalRow : OpenClaim := { program := "ytnfoiocigicdnaagreatdoor", sum := "a0b3e8158f5484ceeed212a5b3487a08fce52c7ec02234175860756b495bf64c", func := "wagonpool/wagonpoollaw11.EdiParseIsCanonical", spec := "ediParseIsCanonical", inPlace := ["internal/abi.NoEscape", "internal/bytealg.CountString", "internal/bytealg.IndexByteString", "internal/bytealg.IndexString", "internal/bytealg.Compare"], unfollowed := true, recurses := true, named := ["wagonpool/edi.tags", "internal/strconv.uint64pow10", "math/bits.deBruijn32tab", "math/bits.deBruijn64tab", "unicode/utf8.first", "unicode/utf8.acceptRanges", "internal/bytealg.MaxLen", "strconv.ErrSyntax", "strconv.ErrRange", "math/bits.divideError", "math/bits.overflowError"], apart := false, laid := [("math/bits.deBruijn32tab", laid_math_bits_deBruijn32tab), ("math/bits.deBruijn64tab", laid_math_bits_deBruijn64tab), ("internal/strconv.uint64pow10", laid_internal_strconv_uint64pow10), ("unicode/utf8.acceptRanges", laid_unicode_utf8_acceptRanges), ("strconv.ErrRange", laid_strconv_ErrRange), ("strconv.ErrSyntax", laid_strconv_ErrSyntax), ("wagonpool/edi.tags", laid_wagonpool_edi_tags), ("unicode/utf8.first", laid_unicode_utf8_first)] }
def EdiParseIsCanonicalSaid : Prop := ediParseIsCanonicalRow.holds Tryz.pinned (OpenSpec.ofChange ediParseIsCanonicalSpec)

/-- ITS FALSE NEIGHBOUR: 'it returns false'. Refute it at one input. -/
def ediParseIsCanonicalWrong : ChangeSpec := { name := "ediParseIsCanonical", fn := fun _ => fun
  | [d] => { results := [.lit (.bool false)], args := [d] }
  | _ => none }
def EdiParseIsCanonicalWrongFalsely : Prop := ediParseIsCanonicalRow.holds Tryz.pinned (OpenSpec.ofChange ediParseIsCanonicalWrong)

/-- 'wagonpoollaw11.EdiBinds': WHATEVER THE INPUT: true; the input reads as it did. -/
def ediBindsSpec : ChangeSpec := { name := "ediBinds", fn := fun _ => fun
  | [d1, d2] => { results := [.lit (.bool true)], args := [d1, d2] }
  | _ => none }
def ediBindsRow : OpenClaim := { program := "ytnfoiocigicdnaagreatdoor", sum := "a0b3e8158f5484ceeed212a5b3487a08fce52c7ec02234175860756b495bf64c", func := "wagonpool/wagonpoollaw11.EdiBinds", spec := "ediBinds", inPlace := ["internal/abi.NoEscape", "internal/bytealg.CountString", "internal/bytealg.IndexByteString", "internal/bytealg.IndexString", "internal/bytealg.Compare"], unfollowed := true, recurses := true, named := ["wagonpool/edi.tags", "internal/strconv.uint64pow10", "math/bits.deBruijn32tab", "math/bits.deBruijn64tab", "unicode/utf8.first", "unicode/utf8.acceptRanges", "internal/bytealg.MaxLen", "strconv.ErrSyntax", "strconv.ErrRange", "math/bits.divideError", "math/bits.overflowError"], apart := false, laid := [("math/bits.deBruijn32tab", laid_math_bits_deBruijn32tab), ("math/bits.deBruijn64tab", laid_math_bits_deBruijn64tab), ("internal/strconv.uint64pow10", laid_internal_strconv_uint64pow10), ("unicode/utf8.acceptRanges", laid_unicode_utf8_acceptRanges), ("strconv.ErrRange", laid_strconv_ErrRange), ("strconv.ErrSyntax", laid_strconv_ErrSyntax), ("wagonpool/edi.tags", laid_wagonpool_edi_tags), ("unicode/utf8.first", laid_unicode_utf8_first)] }
def EdiBindsSaid : Prop := ediBindsRow.holds Tryz.pinned (OpenSpec.ofChange ediBindsSpec)

/-- ITS FALSE NEIGHBOUR: 'it returns false'. Refute it at one input. -/
def ediBindsWrong : ChangeSpec := { name := "ediBinds", fn := fun _ => fun
  | [d1, d2] => { results := [.lit (.bool false)], args := [d1, d2] }
  | _ => none }
def EdiBindsWrongFalsely : Prop := ediBindsRow.holds Tryz.pinned (OpenSpec.ofChange ediBindsWrong)

/-- 'wagonpoollaw11.EdiExact': WHATEVER THE INPUT: true; the input reads as it did. -/
def ediExactSpec : ChangeSpec := { name := "ediExact", fn := fun _ => fun
  | [d1, d2, d3, d4] => { results := [.lit (.bool true)], args := [d1, d2, d3, d4] }
  | _ => none }
def ediExactRow : OpenClaim := { program := "ytnfoiocigicdnaagreatdoor", sum := "a0b3e8158f5484ceeed212a5b3487a08fce52c7ec02234175860756b495bf64c", func := "wagonpool/wagonpoollaw11.EdiExact", spec := "ediExact", inPlace := ["internal/abi.NoEscape", "internal/bytealg.CountString", "internal/bytealg.IndexByteString", "internal/bytealg.IndexString", "internal/bytealg.Compare"], unfollowed := true, recurses := true, named := ["wagonpool/edi.tags", "internal/strconv.uint64pow10", "math/bits.deBruijn32tab", "math/bits.deBruijn64tab", "unicode/utf8.first", "unicode/utf8.acceptRanges", "internal/bytealg.MaxLen", "strconv.ErrSyntax", "strconv.ErrRange", "math/bits.divideError", "math/bits.overflowError"], apart := false, laid := [("math/bits.deBruijn32tab", laid_math_bits_deBruijn32tab), ("math/bits.deBruijn64tab", laid_math_bits_deBruijn64tab), ("internal/strconv.uint64pow10", laid_internal_strconv_uint64pow10), ("unicode/utf8.acceptRanges", laid_unicode_utf8_acceptRanges), ("strconv.ErrRange", laid_strconv_ErrRange), ("strconv.ErrSyntax", laid_strconv_ErrSyntax), ("wagonpool/edi.tags", laid_wagonpool_edi_tags), ("unicode/utf8.first", laid_unicode_utf8_first)] }
def EdiExactSaid : Prop := ediExactRow.holds Tryz.pinned (OpenSpec.ofChange ediExactSpec)

/-- ITS FALSE NEIGHBOUR: 'it returns false'. Refute it at one input. -/
def ediExactWrong : ChangeSpec := { name := "ediExact", fn := fun _ => fun
  | [d1, d2, d3, d4] => { results := [.lit (.bool false)], args := [d1, d2, d3, d4] }
  | _ => none }
def EdiExactWrongFalsely : Prop := ediExactRow.holds Tryz.pinned (OpenSpec.ofChange ediExactWrong)

/-- 'wagonpoollaw11.EdiFramed': WHATEVER THE INPUT: true; the input reads as it did. -/
def ediFramedSpec : ChangeSpec := { name := "ediFramed", fn := fun _ => fun
  | [d1, d2] => { results := [.lit (.bool true)], args := [d1, d2] }
  | _ => none }
def ediFramedRow : OpenClaim := { program := "ytnfoiocigicdnaagreatdoor", sum := "a0b3e8158f5484ceeed212a5b3487a08fce52c7ec02234175860756b495bf64c", func := "wagonpool/wagonpoollaw11.EdiFramed", spec := "ediFramed", inPlace := ["internal/abi.NoEscape", "internal/bytealg.CountString", "internal/bytealg.IndexByteString", "internal/bytealg.IndexString", "internal/bytealg.Compare"], unfollowed := true, recurses := true, named := ["wagonpool/edi.tags", "internal/strconv.uint64pow10", "math/bits.deBruijn32tab", "math/bits.deBruijn64tab", "unicode/utf8.first", "unicode/utf8.acceptRanges", "internal/bytealg.MaxLen", "strconv.ErrSyntax", "strconv.ErrRange", "math/bits.divideError", "math/bits.overflowError"], apart := false, laid := [("math/bits.deBruijn32tab", laid_math_bits_deBruijn32tab), ("math/bits.deBruijn64tab", laid_math_bits_deBruijn64tab), ("internal/strconv.uint64pow10", laid_internal_strconv_uint64pow10), ("unicode/utf8.acceptRanges", laid_unicode_utf8_acceptRanges), ("strconv.ErrRange", laid_strconv_ErrRange), ("strconv.ErrSyntax", laid_strconv_ErrSyntax), ("wagonpool/edi.tags", laid_wagonpool_edi_tags), ("unicode/utf8.first", laid_unicode_utf8_first)] }
def EdiFramedSaid : Prop := ediFramedRow.holds Tryz.pinned (OpenSpec.ofChange ediFramedSpec)

/-- ITS FALSE NEIGHBOUR: 'it returns false'. Refute it at one input. -/
def ediFramedWrong : ChangeSpec := { name := "ediFramed", fn := fun _ => fun
  | [d1, d2] => { results := [.lit (.bool false)], args := [d1, d2] }
  | _ => none }
def EdiFramedWrongFalsely : Prop := ediFramedRow.holds Tryz.pinned (OpenSpec.ofChange ediFramedWrong)

/-- 'wagonpoollaw11.EdiValues': WHATEVER THE INPUT: true; the input reads as it did. -/
def ediValuesSpec : ChangeSpec := { name := "ediValues", fn := fun _ => fun
  | [d1, d2] => { results := [.lit (.bool true)], args := [d1, d2] }
  | _ => none }
def ediValuesRow : OpenClaim := { program := "ytnfoiocigicdnaagreatdoor", sum := "a0b3e8158f5484ceeed212a5b3487a08fce52c7ec02234175860756b495bf64c", func := "wagonpool/wagonpoollaw11.EdiValues", spec := "ediValues", inPlace := ["internal/abi.NoEscape", "internal/bytealg.CountString", "internal/bytealg.IndexByteString", "internal/bytealg.IndexString", "internal/bytealg.Compare"], unfollowed := true, recurses := true, named := ["wagonpool/edi.tags", "internal/strconv.uint64pow10", "math/bits.deBruijn32tab", "math/bits.deBruijn64tab", "unicode/utf8.first", "unicode/utf8.acceptRanges", "internal/bytealg.MaxLen", "strconv.ErrSyntax", "strconv.ErrRange", "math/bits.divideError", "math/bits.overflowError"], loops := true, apart := false, laid := [("math/bits.deBruijn32tab", laid_math_bits_deBruijn32tab), ("math/bits.deBruijn64tab", laid_math_bits_deBruijn64tab), ("internal/strconv.uint64pow10", laid_internal_strconv_uint64pow10), ("unicode/utf8.acceptRanges", laid_unicode_utf8_acceptRanges), ("strconv.ErrRange", laid_strconv_ErrRange), ("strconv.ErrSyntax", laid_strconv_ErrSyntax), ("wagonpool/edi.tags", laid_wagonpool_edi_tags), ("unicode/utf8.first", laid_unicode_utf8_first)] }
def EdiValuesSaid : Prop := ediValuesRow.holds Tryz.pinned (OpenSpec.ofChange ediValuesSpec)

/-- ITS FALSE NEIGHBOUR: 'it returns false'. Refute it at one input. -/
def ediValuesWrong : ChangeSpec := { name := "ediValues", fn := fun _ => fun
  | [d1, d2] => { results := [.lit (.bool false)], args := [d1, d2] }
  | _ => none }
def EdiValuesWrongFalsely : Prop := ediValuesRow.holds Tryz.pinned (OpenSpec.ofChange ediValuesWrong)

/- THE SECOND FORM. 'bulk': how many values and letters a reading holds, each counted each time it is reached (what is shared counts as often as it is met; a slice's spare places count too). A statement '..UptoSaid' is the law's where the arguments, and the package variables that the reading takes, are together of bulk at most 1048576: NARROWER than '..Said'. Prove '..Said' where nothing that the law and all that it calls make is longer than what came in: it says more and counts as full. Else prove '..UptoSaid'. A law counts once. -/
mutual
def uptoBulk {H : Type} : DataW H → Nat
  | .lit (.string bytes) => bytes.length + 1
  | .lit _ => 1
  | .nil => 1
  | .ptr d => uptoBulk d + 1
  | .slice elems spare => uptoBulkAll elems + uptoBulkAll spare + 1
  | .agg parts => uptoBulkAll parts + 1
  | .iface _ d => uptoBulk d + 1
  | .map entries => uptoBulkEntries entries + 1
  | .held _ => 1
def uptoBulkAll {H : Type} : List (DataW H) → Nat
  | [] => 0
  | d :: r => uptoBulk d + uptoBulkAll r
def uptoBulkEntries {H : Type} : List (Lit × DataW H) → Nat
  | [] => 0
  | x :: r => uptoBulkEntry x + uptoBulkEntries r
def uptoBulkEntry {H : Type} : Lit × DataW H → Nat
  | (.string bytes, d) => bytes.length + uptoBulk d + 1
  | (_, d) => uptoBulk d + 1
 end
def uptoSmall : (H : Type) → List (DataW H) → Bool := fun _ ds => decide (uptoBulkAll ds ≤ 1048576)
def OpenSpec.upto (s : _root_.Go.ChangeSpec) : _root_.Go.OpenSpec := { _root_.Go.OpenSpec.ofChange s with cond := some uptoSmall }

/-- 'wagonpoollaw11.EdiCheckMatchesReference', WHERE WHAT IT READS IS OF BULK AT MOST 1048576: true; the input reads as it did. -/
def ediCheckMatchesReferenceUptoRow : OpenClaim := { program := "ytnfoiocigicdnaagreatdoor", sum := "a0b3e8158f5484ceeed212a5b3487a08fce52c7ec02234175860756b495bf64c", func := "wagonpool/wagonpoollaw11.EdiCheckMatchesReference", spec := "ediCheckMatchesReference", inPlace := ["internal/abi.NoEscape", "internal/bytealg.CountString", "internal/bytealg.IndexByteString", "internal/bytealg.IndexString", "internal/bytealg.Compare"], unfollowed := true, recurses := true, named := ["wagonpool/edi.tags", "internal/strconv.uint64pow10", "math/bits.deBruijn32tab", "math/bits.deBruijn64tab", "unicode/utf8.first", "unicode/utf8.acceptRanges", "internal/bytealg.MaxLen", "strconv.ErrSyntax", "strconv.ErrRange", "math/bits.divideError", "math/bits.overflowError"], apart := false, laid := [("math/bits.deBruijn32tab", laid_math_bits_deBruijn32tab), ("math/bits.deBruijn64tab", laid_math_bits_deBruijn64tab), ("internal/strconv.uint64pow10", laid_internal_strconv_uint64pow10), ("unicode/utf8.acceptRanges", laid_unicode_utf8_acceptRanges), ("strconv.ErrRange", laid_strconv_ErrRange), ("strconv.ErrSyntax", laid_strconv_ErrSyntax), ("wagonpool/edi.tags", laid_wagonpool_edi_tags), ("unicode/utf8.first", laid_unicode_utf8_first)], narrowed := true }
def EdiCheckMatchesReferenceUptoSaid : Prop := ediCheckMatchesReferenceUptoRow.holds Tryz.pinned (OpenSpec.upto ediCheckMatchesReferenceSpec)

/-- 'wagonpoollaw11.EdiMatchesReference', WHERE WHAT IT READS IS OF BULK AT MOST 1048576: true; the input reads as it did. -/
def ediMatchesReferenceUptoRow : OpenClaim := { program := "ytnfoiocigicdnaagreatdoor", sum := "a0b3e8158f5484ceeed212a5b3487a08fce52c7ec02234175860756b495bf64c", func := "wagonpool/wagonpoollaw11.EdiMatchesReference", spec := "ediMatchesReference", inPlace := ["internal/abi.NoEscape", "internal/bytealg.CountString", "internal/bytealg.IndexByteString", "internal/bytealg.IndexString", "internal/bytealg.Compare"], unfollowed := true, recurses := true, named := ["wagonpool/edi.tags", "internal/strconv.uint64pow10", "math/bits.deBruijn32tab", "math/bits.deBruijn64tab", "unicode/utf8.first", "unicode/utf8.acceptRanges", "internal/bytealg.MaxLen", "strconv.ErrSyntax", "strconv.ErrRange", "math/bits.divideError", "math/bits.overflowError"], apart := false, laid := [("math/bits.deBruijn32tab", laid_math_bits_deBruijn32tab), ("math/bits.deBruijn64tab", laid_math_bits_deBruijn64tab), ("internal/strconv.uint64pow10", laid_internal_strconv_uint64pow10), ("unicode/utf8.acceptRanges", laid_unicode_utf8_acceptRanges), ("strconv.ErrRange", laid_strconv_ErrRange), ("strconv.ErrSyntax", laid_strconv_ErrSyntax), ("wagonpool/edi.tags", laid_wagonpool_edi_tags), ("unicode/utf8.first", laid_unicode_utf8_first)], narrowed := true }
def EdiMatchesReferenceUptoSaid : Prop := ediMatchesReferenceUptoRow.holds Tryz.pinned (OpenSpec.upto ediMatchesReferenceSpec)

/-- 'wagonpoollaw11.EdiParseMatchesReference', WHERE WHAT IT READS IS OF BULK AT MOST 1048576: true; the input reads as it did. -/
def ediParseMatchesReferenceUptoRow : OpenClaim := { program := "ytnfoiocigicdnaagreatdoor", sum := "a0b3e8158f5484ceeed212a5b3487a08fce52c7ec02234175860756b495bf64c", func := "wagonpool/wagonpoollaw11.EdiParseMatchesReference", spec := "ediParseMatchesReference", inPlace := ["internal/abi.NoEscape", "internal/bytealg.CountString", "internal/bytealg.IndexByteString", "internal/bytealg.IndexString", "internal/bytealg.Compare"], unfollowed := true, recurses := true, named := ["wagonpool/edi.tags", "internal/strconv.uint64pow10", "math/bits.deBruijn32tab", "math/bits.deBruijn64tab", "unicode/utf8.first", "unicode/utf8.acceptRanges", "internal/bytealg.MaxLen", "strconv.ErrSyntax", "strconv.ErrRange", "math/bits.divideError", "math/bits.overflowError"], apart := false, laid := [("math/bits.deBruijn32tab", laid_math_bits_deBruijn32tab), ("math/bits.deBruijn64tab", laid_math_bits_deBruijn64tab), ("internal/strconv.uint64pow10", laid_internal_strconv_uint64pow10), ("unicode/utf8.acceptRanges", laid_unicode_utf8_acceptRanges), ("strconv.ErrRange", laid_strconv_ErrRange), ("strconv.ErrSyntax", laid_strconv_ErrSyntax), ("wagonpool/edi.tags", laid_wagonpool_edi_tags), ("unicode/utf8.first", laid_unicode_utf8_first)], narrowed := true }
def EdiParseMatchesReferenceUptoSaid : Prop := ediParseMatchesReferenceUptoRow.holds Tryz.pinned (OpenSpec.upto ediParseMatchesReferenceSpec)

/-- 'wagonpoollaw11.EdiRoundTrip', WHERE WHAT IT READS IS OF BULK AT MOST 1048576: true; the input reads as it did. -/
def ediRoundTripUptoRow : OpenClaim := { program := "ytnfoiocigicdnaagreatdoor", sum := "a0b3e8158f5484ceeed212a5b3487a08fce52c7ec02234175860756b495bf64c", func := "wagonpool/wagonpoollaw11.EdiRoundTrip", spec := "ediRoundTrip", inPlace := ["internal/abi.NoEscape", "internal/bytealg.CountString", "internal/bytealg.IndexByteString", "internal/bytealg.IndexString", "internal/bytealg.Compare"], unfollowed := true, recurses := true, named := ["wagonpool/edi.tags", "internal/strconv.uint64pow10", "math/bits.deBruijn32tab", "math/bits.deBruijn64tab", "unicode/utf8.first", "unicode/utf8.acceptRanges", "internal/bytealg.MaxLen", "strconv.ErrSyntax", "strconv.ErrRange", "math/bits.divideError", "math/bits.overflowError"], apart := false, laid := [("math/bits.deBruijn32tab", laid_math_bits_deBruijn32tab), ("math/bits.deBruijn64tab", laid_math_bits_deBruijn64tab), ("internal/strconv.uint64pow10", laid_internal_strconv_uint64pow10), ("unicode/utf8.acceptRanges", laid_unicode_utf8_acceptRanges), ("strconv.ErrRange", laid_strconv_ErrRange), ("strconv.ErrSyntax", laid_strconv_ErrSyntax), ("wagonpool/edi.tags", laid_wagonpool_edi_tags), ("unicode/utf8.first", laid_unicode_utf8_first)], narrowed := true }
def EdiRoundTripUptoSaid : Prop := ediRoundTripUptoRow.holds Tryz.pinned (OpenSpec.upto ediRoundTripSpec)

/-- 'wagonpoollaw11.EdiParseIsCanonical', WHERE WHAT IT READS IS OF BULK AT MOST 1048576: true; the input reads as it did. -/
def ediParseIsCanonicalUptoRow : OpenClaim := { program := "ytnfoiocigicdnaagreatdoor", sum := "a0b3e8158f5484ceeed212a5b3487a08fce52c7ec02234175860756b495bf64c", func := "wagonpool/wagonpoollaw11.EdiParseIsCanonical", spec := "ediParseIsCanonical", inPlace := ["internal/abi.NoEscape", "internal/bytealg.CountString", "internal/bytealg.IndexByteString", "internal/bytealg.IndexString", "internal/bytealg.Compare"], unfollowed := true, recurses := true, named := ["wagonpool/edi.tags", "internal/strconv.uint64pow10", "math/bits.deBruijn32tab", "math/bits.deBruijn64tab", "unicode/utf8.first", "unicode/utf8.acceptRanges", "internal/bytealg.MaxLen", "strconv.ErrSyntax", "strconv.ErrRange", "math/bits.divideError", "math/bits.overflowError"], apart := false, laid := [("math/bits.deBruijn32tab", laid_math_bits_deBruijn32tab), ("math/bits.deBruijn64tab", laid_math_bits_deBruijn64tab), ("internal/strconv.uint64pow10", laid_internal_strconv_uint64pow10), ("unicode/utf8.acceptRanges", laid_unicode_utf8_acceptRanges), ("strconv.ErrRange", laid_strconv_ErrRange), ("strconv.ErrSyntax", laid_strconv_ErrSyntax), ("wagonpool/edi.tags", laid_wagonpool_edi_tags), ("unicode/utf8.first", laid_unicode_utf8_first)], narrowed := true }
def EdiParseIsCanonicalUptoSaid : Prop := ediParseIsCanonicalUptoRow.holds Tryz.pinned (OpenSpec.upto ediParseIsCanonicalSpec)

/-- 'wagonpoollaw11.EdiBinds', WHERE WHAT IT READS IS OF BULK AT MOST 1048576: true; the input reads as it did. -/
def ediBindsUptoRow : OpenClaim := { program := "ytnfoiocigicdnaagreatdoor", sum := "a0b3e8158f5484ceeed212a5b3487a08fce52c7ec02234175860756b495bf64c", func := "wagonpool/wagonpoollaw11.EdiBinds", spec := "ediBinds", inPlace := ["internal/abi.NoEscape", "internal/bytealg.CountString", "internal/bytealg.IndexByteString", "internal/bytealg.IndexString", "internal/bytealg.Compare"], unfollowed := true, recurses := true, named := ["wagonpool/edi.tags", "internal/strconv.uint64pow10", "math/bits.deBruijn32tab", "math/bits.deBruijn64tab", "unicode/utf8.first", "unicode/utf8.acceptRanges", "internal/bytealg.MaxLen", "strconv.ErrSyntax", "strconv.ErrRange", "math/bits.divideError", "math/bits.overflowError"], apart := false, laid := [("math/bits.deBruijn32tab", laid_math_bits_deBruijn32tab), ("math/bits.deBruijn64tab", laid_math_bits_deBruijn64tab), ("internal/strconv.uint64pow10", laid_internal_strconv_uint64pow10), ("unicode/utf8.acceptRanges", laid_unicode_utf8_acceptRanges), ("strconv.ErrRange", laid_strconv_ErrRange), ("strconv.ErrSyntax", laid_strconv_ErrSyntax), ("wagonpool/edi.tags", laid_wagonpool_edi_tags), ("unicode/utf8.first", laid_unicode_utf8_first)], narrowed := true }
def EdiBindsUptoSaid : Prop := ediBindsUptoRow.holds Tryz.pinned (OpenSpec.upto ediBindsSpec)

/-- 'wagonpoollaw11.EdiExact', WHERE WHAT IT READS IS OF BULK AT MOST 1048576: true; the input reads as it did. -/
def ediExactUptoRow : OpenClaim := { program := "ytnfoiocigicdnaagreatdoor", sum := "a0b3e8158f5484ceeed212a5b3487a08fce52c7ec02234175860756b495bf64c", func := "wagonpool/wagonpoollaw11.EdiExact", spec := "ediExact", inPlace := ["internal/abi.NoEscape", "internal/bytealg.CountString", "internal/bytealg.IndexByteString", "internal/bytealg.IndexString", "internal/bytealg.Compare"], unfollowed := true, recurses := true, named := ["wagonpool/edi.tags", "internal/strconv.uint64pow10", "math/bits.deBruijn32tab", "math/bits.deBruijn64tab", "unicode/utf8.first", "unicode/utf8.acceptRanges", "internal/bytealg.MaxLen", "strconv.ErrSyntax", "strconv.ErrRange", "math/bits.divideError", "math/bits.overflowError"], apart := false, laid := [("math/bits.deBruijn32tab", laid_math_bits_deBruijn32tab), ("math/bits.deBruijn64tab", laid_math_bits_deBruijn64tab), ("internal/strconv.uint64pow10", laid_internal_strconv_uint64pow10), ("unicode/utf8.acceptRanges", laid_unicode_utf8_acceptRanges), ("strconv.ErrRange", laid_strconv_ErrRange), ("strconv.ErrSyntax", laid_strconv_ErrSyntax), ("wagonpool/edi.tags", laid_wagonpool_edi_tags), ("unicode/utf8.first", laid_unicode_utf8_first)], narrowed := true }
def EdiExactUptoSaid : Prop := ediExactUptoRow.holds Tryz.pinned (OpenSpec.upto ediExactSpec)

/-- 'wagonpoollaw11.EdiFramed', WHERE WHAT IT READS IS OF BULK AT MOST 1048576: true; the input reads as it did. -/
def ediFramedUptoRow : OpenClaim := { program := "ytnfoiocigicdnaagreatdoor", sum := "a0b3e8158f5484ceeed212a5b3487a08fce52c7ec02234175860756b495bf64c", func := "wagonpool/wagonpoollaw11.EdiFramed", spec := "ediFramed", inPlace := ["internal/abi.NoEscape", "internal/bytealg.CountString", "internal/bytealg.IndexByteString", "internal/bytealg.IndexString", "internal/bytealg.Compare"], unfollowed := true, recurses := true, named := ["wagonpool/edi.tags", "internal/strconv.uint64pow10", "math/bits.deBruijn32tab", "math/bits.deBruijn64tab", "unicode/utf8.first", "unicode/utf8.acceptRanges", "internal/bytealg.MaxLen", "strconv.ErrSyntax", "strconv.ErrRange", "math/bits.divideError", "math/bits.overflowError"], apart := false, laid := [("math/bits.deBruijn32tab", laid_math_bits_deBruijn32tab), ("math/bits.deBruijn64tab", laid_math_bits_deBruijn64tab), ("internal/strconv.uint64pow10", laid_internal_strconv_uint64pow10), ("unicode/utf8.acceptRanges", laid_unicode_utf8_acceptRanges), ("strconv.ErrRange", laid_strconv_ErrRange), ("strconv.ErrSyntax", laid_strconv_ErrSyntax), ("wagonpool/edi.tags", laid_wagonpool_edi_tags), ("unicode/utf8.first", laid_unicode_utf8_first)], narrowed := true }
def EdiFramedUptoSaid : Prop := ediFramedUptoRow.holds Tryz.pinned (OpenSpec.upto ediFramedSpec)

/-- 'wagonpoollaw11.EdiValues', WHERE WHAT IT READS IS OF BULK AT MOST 1048576: true; the input reads as it did. -/
def ediValuesUptoRow : OpenClaim := { program := "ytnfoiocigicdnaagreatdoor", sum := "a0b3e8158f5484ceeed212a5b3487a08fce52c7ec02234175860756b495bf64c", func := "wagonpool/wagonpoollaw11.EdiValues", spec := "ediValues", inPlace := ["internal/abi.NoEscape", "internal/bytealg.CountString", "internal/bytealg.IndexByteString", "internal/bytealg.IndexString", "internal/bytealg.Compare"], unfollowed := true, recurses := true, named := ["wagonpool/edi.tags", "internal/strconv.uint64pow10", "math/bits.deBruijn32tab", "math/bits.deBruijn64tab", "unicode/utf8.first", "unicode/utf8.acceptRanges", "internal/bytealg.MaxLen", "strconv.ErrSyntax", "strconv.ErrRange", "math/bits.divideError", "math/bits.overflowError"], loops := true, apart := false, laid := [("math/bits.deBruijn32tab", laid_math_bits_deBruijn32tab), ("math/bits.deBruijn64tab", laid_math_bits_deBruijn64tab), ("internal/strconv.uint64pow10", laid_internal_strconv_uint64pow10), ("unicode/utf8.acceptRanges", laid_unicode_utf8_acceptRanges), ("strconv.ErrRange", laid_strconv_ErrRange), ("strconv.ErrSyntax", laid_strconv_ErrSyntax), ("wagonpool/edi.tags", laid_wagonpool_edi_tags), ("unicode/utf8.first", laid_unicode_utf8_first)], narrowed := true }
def EdiValuesUptoSaid : Prop := ediValuesUptoRow.holds Tryz.pinned (OpenSpec.upto ediValuesSpec)

end Rows
end Go.Proofs.YtnfoiocigicdnaaGreatDoor
