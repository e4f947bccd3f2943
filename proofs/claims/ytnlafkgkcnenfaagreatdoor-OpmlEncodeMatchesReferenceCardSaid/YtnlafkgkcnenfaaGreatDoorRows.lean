/-
  NARROWER THAN 'FOR EVERY INPUT', by the rows' own cells (each row's printed sentence says how): OpmlMatchesReference: laid · OpmlIsInjective: laid · OpmlIsStable: laid · OpmlEncodeMatchesReference: laid · OpmlRoundTrip: laid · OpmlOutlines: laid · OpmlDepth: laid.
  DERIVED. THE GIVEN ROWS OF THIS SEAT. 7 by the template 'for every input the law returns true; each argument reads behind the call as it read before'; 0 by the template 'total and deterministic' (their statements: YtnlafkgkcnenfaaGreatDoorTotals.lean).
  GIVEN WITH THE SEED: the statements are not yours to turn. If you find one false, say at which input.
  Laid BY PROGRAM, IN A SANDBOX (cutbox-rows.mjs): the forced cells as the released guide's own fill.sh prints them over the translation 352149b30bee404d… (all of the seat's roots in one cut). By AI agents, Wed Nov 11 2026. No macro, syntax, notation, axiom, sorry.
-/
import Derived.Test.YtnlafkgkcnenfaaGreatDoorChecked
import GoSem.PinnedTables
import GoSem.Claim
import GoSem.ClaimJoined
import GoSem.ClaimMapViews
import Derived.JoinedTies
import Derived.KernelRfl
namespace Go.Proofs.YtnlafkgkcnenfaaGreatDoor
/- THE CELL 'sum', in the pinned program and in every row, IS THE sha256 OF THE DUMP (.gsa) THAT YtnlafkgkcnenfaaGreatDoorProg.lean LOADS. Nothing in Lean hashes anything: it is a label: what it is worth is what the hold of that sum in a sandbox is worth. -/
noncomputable def Tryz.pinned : Pinned := { name := "ytnlafkgkcnenfaagreatdoor", sum := "352149b30bee404d96e4d83c0494e567434275bca73760185c0234e91792e3dd", checked := Tryz.checked }
namespace Rows
def none {H : Type} : Left H := { results := [], args := [] }

/- WHAT THE LISTED PACKAGE-LEVEL VARIABLES READ AS WHEN THE CALL BEGINS. Each datum BY PROGRAM (the guide's laid-datum.mjs) off the statement by which the dump's own 'gosem.cut.vars' lays the variable. In a bare row this is a premise. The card (YtnlafkgkcnenfaaGreatDoorCards.lean) ties it to the program's text. -/
def laid_math_bits_deBruijn32tab {H : Type} : DataW H := .agg [.lit (.int .u8 0), .lit (.int .u8 1), .lit (.int .u8 28), .lit (.int .u8 2), .lit (.int .u8 29), .lit (.int .u8 14), .lit (.int .u8 24), .lit (.int .u8 3), .lit (.int .u8 30), .lit (.int .u8 22), .lit (.int .u8 20), .lit (.int .u8 15), .lit (.int .u8 25), .lit (.int .u8 17), .lit (.int .u8 4), .lit (.int .u8 8), .lit (.int .u8 31), .lit (.int .u8 27), .lit (.int .u8 13), .lit (.int .u8 23), .lit (.int .u8 21), .lit (.int .u8 19), .lit (.int .u8 16), .lit (.int .u8 7), .lit (.int .u8 26), .lit (.int .u8 12), .lit (.int .u8 18), .lit (.int .u8 6), .lit (.int .u8 11), .lit (.int .u8 5), .lit (.int .u8 10), .lit (.int .u8 9)]
def laid_math_bits_deBruijn64tab {H : Type} : DataW H := .agg [.lit (.int .u8 0), .lit (.int .u8 1), .lit (.int .u8 56), .lit (.int .u8 2), .lit (.int .u8 57), .lit (.int .u8 49), .lit (.int .u8 28), .lit (.int .u8 3), .lit (.int .u8 61), .lit (.int .u8 58), .lit (.int .u8 42), .lit (.int .u8 50), .lit (.int .u8 38), .lit (.int .u8 29), .lit (.int .u8 17), .lit (.int .u8 4), .lit (.int .u8 62), .lit (.int .u8 47), .lit (.int .u8 59), .lit (.int .u8 36), .lit (.int .u8 45), .lit (.int .u8 43), .lit (.int .u8 51), .lit (.int .u8 22), .lit (.int .u8 53), .lit (.int .u8 39), .lit (.int .u8 33), .lit (.int .u8 30), .lit (.int .u8 24), .lit (.int .u8 18), .lit (.int .u8 12), .lit (.int .u8 5), .lit (.int .u8 63), .lit (.int .u8 55), .lit (.int .u8 48), .lit (.int .u8 27), .lit (.int .u8 60), .lit (.int .u8 41), .lit (.int .u8 37), .lit (.int .u8 16), .lit (.int .u8 46), .lit (.int .u8 35), .lit (.int .u8 44), .lit (.int .u8 21), .lit (.int .u8 52), .lit (.int .u8 32), .lit (.int .u8 23), .lit (.int .u8 11), .lit (.int .u8 54), .lit (.int .u8 26), .lit (.int .u8 40), .lit (.int .u8 15), .lit (.int .u8 34), .lit (.int .u8 20), .lit (.int .u8 31), .lit (.int .u8 10), .lit (.int .u8 25), .lit (.int .u8 14), .lit (.int .u8 19), .lit (.int .u8 9), .lit (.int .u8 13), .lit (.int .u8 8), .lit (.int .u8 7), .lit (.int .u8 6)]
def laid_internal_strconv_uint64pow10 {H : Type} : DataW H := .agg [.lit (.int .u64 1), .lit (.int .u64 10), .lit (.int .u64 100), .lit (.int .u64 1000), .lit (.int .u64 10000), .lit (.int .u64 100000), .lit (.int .u64 1000000), .lit (.int .u64 10000000), .lit (.int .u64 100000000), .lit (.int .u64 1000000000), .lit (.int .u64 10000000000), .lit (.int .u64 100000000000), .lit (.int .u64 1000000000000), .lit (.int .u64 10000000000000), .lit (.int .u64 100000000000000), .lit (.int .u64 1000000000000000), .lit (.int .u64 10000000000000000), .lit (.int .u64 100000000000000000), .lit (.int .u64 1000000000000000000), .lit (.int .u64 10000000000000000000)]
def laid_unicode_utf8_acceptRanges {H : Type} : DataW H := .agg [.agg [.lit (.int .u8 128), .lit (.int .u8 191)], .agg [.lit (.int .u8 160), .lit (.int .u8 191)], .agg [.lit (.int .u8 128), .lit (.int .u8 159)], .agg [.lit (.int .u8 144), .lit (.int .u8 191)], .agg [.lit (.int .u8 128), .lit (.int .u8 143)], .agg [.lit (.int .u8 0), .lit (.int .u8 0)], .agg [.lit (.int .u8 0), .lit (.int .u8 0)], .agg [.lit (.int .u8 0), .lit (.int .u8 0)], .agg [.lit (.int .u8 0), .lit (.int .u8 0)], .agg [.lit (.int .u8 0), .lit (.int .u8 0)], .agg [.lit (.int .u8 0), .lit (.int .u8 0)], .agg [.lit (.int .u8 0), .lit (.int .u8 0)], .agg [.lit (.int .u8 0), .lit (.int .u8 0)], .agg [.lit (.int .u8 0), .lit (.int .u8 0)], .agg [.lit (.int .u8 0), .lit (.int .u8 0)], .agg [.lit (.int .u8 0), .lit (.int .u8 0)]]
def laid_feedvault_text_startRanges {H : Type} : DataW H := .agg [.agg [.lit (.int .i32 65), .lit (.int .i32 90)], .agg [.lit (.int .i32 95), .lit (.int .i32 95)], .agg [.lit (.int .i32 97), .lit (.int .i32 122)], .agg [.lit (.int .i32 192), .lit (.int .i32 214)], .agg [.lit (.int .i32 216), .lit (.int .i32 246)], .agg [.lit (.int .i32 248), .lit (.int .i32 767)], .agg [.lit (.int .i32 880), .lit (.int .i32 893)], .agg [.lit (.int .i32 895), .lit (.int .i32 8191)], .agg [.lit (.int .i32 8204), .lit (.int .i32 8205)], .agg [.lit (.int .i32 8304), .lit (.int .i32 8591)], .agg [.lit (.int .i32 11264), .lit (.int .i32 12271)], .agg [.lit (.int .i32 12289), .lit (.int .i32 55295)], .agg [.lit (.int .i32 63744), .lit (.int .i32 64975)], .agg [.lit (.int .i32 65008), .lit (.int .i32 65533)], .agg [.lit (.int .i32 65536), .lit (.int .i32 983039)]]
def laid_feedvault_text_moreRanges {H : Type} : DataW H := .agg [.agg [.lit (.int .i32 45), .lit (.int .i32 46)], .agg [.lit (.int .i32 48), .lit (.int .i32 57)], .agg [.lit (.int .i32 183), .lit (.int .i32 183)], .agg [.lit (.int .i32 768), .lit (.int .i32 879)], .agg [.lit (.int .i32 8255), .lit (.int .i32 8256)]]
def laid_feedvault_jsonstring_letters {H : Type} : DataW H := .agg [.agg [.lit (.int .u8 98), .lit (.int .u8 8)], .agg [.lit (.int .u8 102), .lit (.int .u8 12)], .agg [.lit (.int .u8 110), .lit (.int .u8 10)], .agg [.lit (.int .u8 114), .lit (.int .u8 13)], .agg [.lit (.int .u8 116), .lit (.int .u8 9)]]
/-- One of Go's own tables, pinned by name: the form's constant. -/
def laid_unicode_utf8_first : DataW Unit := Go.Pinned.utf8First

/-- 'feedvaultlaw19.OpmlMatchesReference': WHATEVER THE INPUT: true; the input reads as it did. -/
def opmlMatchesReferenceSpec : ChangeSpec := { name := "opmlMatchesReference", fn := fun _ => fun
  | [d] => { results := [.lit (.bool true)], args := [d] }
  | _ => none }
def opmlMatchesReferenceRow : OpenClaim := { program := "ytnlafkgkcnenfaagreatdoor", sum := "352149b30bee404d96e4d83c0494e567434275bca73760185c0234e91792e3dd", func := "feedvault/feedvaultlaw19.OpmlMatchesReference", spec := "opmlMatchesReference", inPlace := ["internal/abi.NoEscape"], unfollowed := true, recurses := true, named := ["unicode/utf8.first", "unicode/utf8.acceptRanges", "internal/strconv.uint64pow10", "math/bits.deBruijn32tab", "math/bits.deBruijn64tab", "feedvault/jsonstring.letters", "feedvault/text.moreRanges", "feedvault/text.startRanges"], apart := false, laid := [("math/bits.deBruijn32tab", laid_math_bits_deBruijn32tab), ("math/bits.deBruijn64tab", laid_math_bits_deBruijn64tab), ("internal/strconv.uint64pow10", laid_internal_strconv_uint64pow10), ("unicode/utf8.acceptRanges", laid_unicode_utf8_acceptRanges), ("feedvault/text.startRanges", laid_feedvault_text_startRanges), ("feedvault/text.moreRanges", laid_feedvault_text_moreRanges), ("feedvault/jsonstring.letters", laid_feedvault_jsonstring_letters), ("unicode/utf8.first", laid_unicode_utf8_first)] }
def OpmlMatchesReferenceSaid : Prop := opmlMatchesReferenceRow.holds Tryz.pinned (OpenSpec.ofChange opmlMatchesReferenceSpec)

/-- ITS FALSE NEIGHBOUR: 'it returns false'. Refute it at one input. -/
def opmlMatchesReferenceWrong : ChangeSpec := { name := "opmlMatchesReference", fn := fun _ => fun
  | [d] => { results := [.lit (.bool false)], args := [d] }
  | _ => none }
def OpmlMatchesReferenceWrongFalsely : Prop := opmlMatchesReferenceRow.holds Tryz.pinned (OpenSpec.ofChange opmlMatchesReferenceWrong)

/-- 'feedvaultlaw19.OpmlIsInjective': WHATEVER THE INPUT: true; the input reads as it did. -/
def opmlIsInjectiveSpec : ChangeSpec := { name := "opmlIsInjective", fn := fun _ => fun
  | [d1, d2] => { results := [.lit (.bool true)], args := [d1, d2] }
  | _ => none }
def opmlIsInjectiveRow : OpenClaim := { program := "ytnlafkgkcnenfaagreatdoor", sum := "352149b30bee404d96e4d83c0494e567434275bca73760185c0234e91792e3dd", func := "feedvault/feedvaultlaw19.OpmlIsInjective", spec := "opmlIsInjective", inPlace := ["internal/abi.NoEscape"], unfollowed := true, recurses := true, named := ["unicode/utf8.first", "unicode/utf8.acceptRanges", "internal/strconv.uint64pow10", "math/bits.deBruijn32tab", "math/bits.deBruijn64tab", "feedvault/jsonstring.letters", "feedvault/text.moreRanges", "feedvault/text.startRanges"], apart := false, laid := [("math/bits.deBruijn32tab", laid_math_bits_deBruijn32tab), ("math/bits.deBruijn64tab", laid_math_bits_deBruijn64tab), ("internal/strconv.uint64pow10", laid_internal_strconv_uint64pow10), ("unicode/utf8.acceptRanges", laid_unicode_utf8_acceptRanges), ("feedvault/text.startRanges", laid_feedvault_text_startRanges), ("feedvault/text.moreRanges", laid_feedvault_text_moreRanges), ("feedvault/jsonstring.letters", laid_feedvault_jsonstring_letters), ("unicode/utf8.first", laid_unicode_utf8_first)] }
def OpmlIsInjectiveSaid : Prop := opmlIsInjectiveRow.holds Tryz.pinned (OpenSpec.ofChange opmlIsInjectiveSpec)

/-- ITS FALSE NEIGHBOUR: 'it returns false'. Refute it at one input. -/
def opmlIsInjectiveWrong : ChangeSpec := { name := "opmlIsInjective", fn := fun _ => fun
  | [d1, d2] => { results := [.lit (.bool false)], args := [d1, d2] }
  | _ => none }
def OpmlIsInjectiveWrongFalsely : Prop := opmlIsInjectiveRow.holds Tryz.pinned (OpenSpec.ofChange opmlIsInjectiveWrong)

/-- 'feedvaultlaw19.OpmlIsStable': WHATEVER THE INPUT: true; the input reads as it did. -/
def opmlIsStableSpec : ChangeSpec := { name := "opmlIsStable", fn := fun _ => fun
  | [d] => { results := [.lit (.bool true)], args := [d] }
  | _ => none }
def opmlIsStableRow : OpenClaim := { program := "ytnlafkgkcnenfaagreatdoor", sum := "352149b30bee404d96e4d83c0494e567434275bca73760185c0234e91792e3dd", func := "feedvault/feedvaultlaw19.OpmlIsStable", spec := "opmlIsStable", inPlace := ["internal/abi.NoEscape"], unfollowed := true, recurses := true, named := ["unicode/utf8.first", "unicode/utf8.acceptRanges", "internal/strconv.uint64pow10", "math/bits.deBruijn32tab", "math/bits.deBruijn64tab", "feedvault/jsonstring.letters", "feedvault/text.moreRanges", "feedvault/text.startRanges"], apart := false, laid := [("math/bits.deBruijn32tab", laid_math_bits_deBruijn32tab), ("math/bits.deBruijn64tab", laid_math_bits_deBruijn64tab), ("internal/strconv.uint64pow10", laid_internal_strconv_uint64pow10), ("unicode/utf8.acceptRanges", laid_unicode_utf8_acceptRanges), ("feedvault/text.startRanges", laid_feedvault_text_startRanges), ("feedvault/text.moreRanges", laid_feedvault_text_moreRanges), ("feedvault/jsonstring.letters", laid_feedvault_jsonstring_letters), ("unicode/utf8.first", laid_unicode_utf8_first)] }
def OpmlIsStableSaid : Prop := opmlIsStableRow.holds Tryz.pinned (OpenSpec.ofChange opmlIsStableSpec)

/-- ITS FALSE NEIGHBOUR: 'it returns false'. Refute it at one input. -/
def opmlIsStableWrong : ChangeSpec := { name := "opmlIsStable", fn := fun _ => fun
  | [d] => { results := [.lit (.bool false)], args := [d] }
  | _ => none }
def OpmlIsStableWrongFalsely : Prop := opmlIsStableRow.holds Tryz.pinned (OpenSpec.ofChange opmlIsStableWrong)

/-- 'feedvaultlaw19.OpmlEncodeMatchesReference': WHATEVER THE INPUT: true; the input reads as it did. -/
def opmlEncodeMatchesReferenceSpec : ChangeSpec := { name := "opmlEncodeMatchesReference", fn := fun _ => fun
  | [d] => { results := [.lit (.bool true)], args := [d] }
  | _ => none }
def opmlEncodeMatchesReferenceRow : OpenClaim := { program := "ytnlafkgkcnenfaagreatdoor", sum := "352149b30bee404d96e4d83c0494e567434275bca73760185c0234e91792e3dd", func := "feedvault/feedvaultlaw19.OpmlEncodeMatchesReference", spec := "opmlEncodeMatchesReference", inPlace := ["internal/abi.NoEscape"], unfollowed := true, recurses := true, named := ["unicode/utf8.first", "unicode/utf8.acceptRanges", "internal/strconv.uint64pow10", "math/bits.deBruijn32tab", "math/bits.deBruijn64tab", "feedvault/jsonstring.letters", "feedvault/text.moreRanges", "feedvault/text.startRanges"], apart := false, laid := [("math/bits.deBruijn32tab", laid_math_bits_deBruijn32tab), ("math/bits.deBruijn64tab", laid_math_bits_deBruijn64tab), ("internal/strconv.uint64pow10", laid_internal_strconv_uint64pow10), ("unicode/utf8.acceptRanges", laid_unicode_utf8_acceptRanges), ("feedvault/text.startRanges", laid_feedvault_text_startRanges), ("feedvault/text.moreRanges", laid_feedvault_text_moreRanges), ("feedvault/jsonstring.letters", laid_feedvault_jsonstring_letters), ("unicode/utf8.first", laid_unicode_utf8_first)] }
def OpmlEncodeMatchesReferenceSaid : Prop := opmlEncodeMatchesReferenceRow.holds Tryz.pinned (OpenSpec.ofChange opmlEncodeMatchesReferenceSpec)

/-- ITS FALSE NEIGHBOUR: 'it returns false'. Refute it at one input. -/
def opmlEncodeMatchesReferenceWrong : ChangeSpec := { name := "opmlEncodeMatchesReference", fn := fun _ => fun
  | [d] => { results := [.lit (.bool false)], args := [d] }
  | _ => none }
def OpmlEncodeMatchesReferenceWrongFalsely : Prop := opmlEncodeMatchesReferenceRow.holds Tryz.pinned (OpenSpec.ofChange opmlEncodeMatchesReferenceWrong)

/-- 'feedvaultlaw19.OpmlRoundTrip': WHATEVER THE INPUT: true; the input reads as it did. -/
def opmlRoundTripSpec : ChangeSpec := { name := "opmlRoundTrip", fn := fun _ => fun
  | [d] => { results := [.lit (.bool true)], args := [d] }
  | _ => none }
def opmlRoundTripRow : OpenClaim := { program := "ytnlafkgkcnenfaagreatdoor", sum := "352149b30bee404d96e4d83c0494e567434275bca73760185c0234e91792e3dd", func := "feedvault/feedvaultlaw19.OpmlRoundTrip", spec := "opmlRoundTrip", inPlace := ["internal/abi.NoEscape"], unfollowed := true, recurses := true, named := ["unicode/utf8.first", "unicode/utf8.acceptRanges", "internal/strconv.uint64pow10", "math/bits.deBruijn32tab", "math/bits.deBruijn64tab", "feedvault/jsonstring.letters", "feedvault/text.moreRanges", "feedvault/text.startRanges"], apart := false, laid := [("math/bits.deBruijn32tab", laid_math_bits_deBruijn32tab), ("math/bits.deBruijn64tab", laid_math_bits_deBruijn64tab), ("internal/strconv.uint64pow10", laid_internal_strconv_uint64pow10), ("unicode/utf8.acceptRanges", laid_unicode_utf8_acceptRanges), ("feedvault/text.startRanges", laid_feedvault_text_startRanges), ("feedvault/text.moreRanges", laid_feedvault_text_moreRanges), ("feedvault/jsonstring.letters", laid_feedvault_jsonstring_letters), ("unicode/utf8.first", laid_unicode_utf8_first)] }
def OpmlRoundTripSaid : Prop := opmlRoundTripRow.holds Tryz.pinned (OpenSpec.ofChange opmlRoundTripSpec)

/-- ITS FALSE NEIGHBOUR: 'it returns false'. Refute it at one input. -/
def opmlRoundTripWrong : ChangeSpec := { name := "opmlRoundTrip", fn := fun _ => fun
  | [d] => { results := [.lit (.bool false)], args := [d] }
  | _ => none }
def OpmlRoundTripWrongFalsely : Prop := opmlRoundTripRow.holds Tryz.pinned (OpenSpec.ofChange opmlRoundTripWrong)

/-- 'feedvaultlaw19.OpmlOutlines': WHATEVER THE INPUT: true; the input reads as it did. -/
def opmlOutlinesSpec : ChangeSpec := { name := "opmlOutlines", fn := fun _ => fun
  | [d] => { results := [.lit (.bool true)], args := [d] }
  | _ => none }
def opmlOutlinesRow : OpenClaim := { program := "ytnlafkgkcnenfaagreatdoor", sum := "352149b30bee404d96e4d83c0494e567434275bca73760185c0234e91792e3dd", func := "feedvault/feedvaultlaw19.OpmlOutlines", spec := "opmlOutlines", inPlace := ["internal/abi.NoEscape"], unfollowed := true, recurses := true, named := ["unicode/utf8.first", "unicode/utf8.acceptRanges", "internal/strconv.uint64pow10", "math/bits.deBruijn32tab", "math/bits.deBruijn64tab", "feedvault/jsonstring.letters", "feedvault/text.moreRanges", "feedvault/text.startRanges"], apart := false, laid := [("math/bits.deBruijn32tab", laid_math_bits_deBruijn32tab), ("math/bits.deBruijn64tab", laid_math_bits_deBruijn64tab), ("internal/strconv.uint64pow10", laid_internal_strconv_uint64pow10), ("unicode/utf8.acceptRanges", laid_unicode_utf8_acceptRanges), ("feedvault/text.startRanges", laid_feedvault_text_startRanges), ("feedvault/text.moreRanges", laid_feedvault_text_moreRanges), ("feedvault/jsonstring.letters", laid_feedvault_jsonstring_letters), ("unicode/utf8.first", laid_unicode_utf8_first)] }
def OpmlOutlinesSaid : Prop := opmlOutlinesRow.holds Tryz.pinned (OpenSpec.ofChange opmlOutlinesSpec)

/-- ITS FALSE NEIGHBOUR: 'it returns false'. Refute it at one input. -/
def opmlOutlinesWrong : ChangeSpec := { name := "opmlOutlines", fn := fun _ => fun
  | [d] => { results := [.lit (.bool false)], args := [d] }
  | _ => none }
def OpmlOutlinesWrongFalsely : Prop := opmlOutlinesRow.holds Tryz.pinned (OpenSpec.ofChange opmlOutlinesWrong)

/-- 'feedvaultlaw19.OpmlDepth': WHATEVER THE INPUT: true; the input reads as it did. -/
def opmlDepthSpec : ChangeSpec := { name := "opmlDepth", fn := fun _ => fun
  | [d] => { results := [.lit (.bool true)], args := [d] }
  | _ => none }
def opmlDepthRow : OpenClaim := { program := "ytnlafkgkcnenfaagreatdoor", sum := "352149b30bee404d96e4d83c0494e567434275bca73760185c0234e91792e3dd", func := "feedvault/feedvaultlaw19.OpmlDepth", spec := "opmlDepth", inPlace := ["internal/abi.NoEscape", "internal/bytealg.MakeNoZero"], unfollowed := true, recurses := true, named := ["unicode/utf8.first", "unicode/utf8.acceptRanges", "internal/strconv.uint64pow10", "math/bits.deBruijn32tab", "math/bits.deBruijn64tab", "feedvault/jsonstring.letters", "feedvault/text.moreRanges", "feedvault/text.startRanges"], apart := false, laid := [("math/bits.deBruijn32tab", laid_math_bits_deBruijn32tab), ("math/bits.deBruijn64tab", laid_math_bits_deBruijn64tab), ("internal/strconv.uint64pow10", laid_internal_strconv_uint64pow10), ("unicode/utf8.acceptRanges", laid_unicode_utf8_acceptRanges), ("feedvault/text.startRanges", laid_feedvault_text_startRanges), ("feedvault/text.moreRanges", laid_feedvault_text_moreRanges), ("feedvault/jsonstring.letters", laid_feedvault_jsonstring_letters), ("unicode/utf8.first", laid_unicode_utf8_first)] }
def OpmlDepthSaid : Prop := opmlDepthRow.holds Tryz.pinned (OpenSpec.ofChange opmlDepthSpec)

/-- ITS FALSE NEIGHBOUR: 'it returns false'. Refute it at one input. -/
def opmlDepthWrong : ChangeSpec := { name := "opmlDepth", fn := fun _ => fun
  | [d] => { results := [.lit (.bool false)], args := [d] }
  | _ => none }
def OpmlDepthWrongFalsely : Prop := opmlDepthRow.holds Tryz.pinned (OpenSpec.ofChange opmlDepthWrong)

/- THE SECOND FORM. 'bulk': how many values and letters a reading holds, each counted each time it is reached (what is shared counts as often as it is met; a slice's spare places count too). A statement '..UptoSaid' is the law's where the arguments, and the package variables that the reading takes, are together of bulk at most 1048576: NARROWER than '..Said'. Prove '..Said' where nothing that the law and all that it calls make is longer than what came in: it says more and counts as full. Else prove '..UptoSaid'. A law counts once. -/
mutual
def uptoBulk {H : Type} : DataW H → Nat
  | .lit (.string bytes) => bytes.length + 1
  | .lit _ => 1
  | .nil => 1
  | .ptr d => uptoBulk d + 1
  | .slice elems spare => uptoBulkAll elems + uptoBulkAll spare + 1
  | .agg parts => uptoBulkAll parts + 1
  | .iface _ d => uptoBulk d + 1
  | .map entries => uptoBulkEntries entries + 1
  | .held _ => 1
def uptoBulkAll {H : Type} : List (DataW H) → Nat
  | [] => 0
  | d :: r => uptoBulk d + uptoBulkAll r
def uptoBulkEntries {H : Type} : List (Lit × DataW H) → Nat
  | [] => 0
  | x :: r => uptoBulkEntry x + uptoBulkEntries r
def uptoBulkEntry {H : Type} : Lit × DataW H → Nat
  | (.string bytes, d) => bytes.length + uptoBulk d + 1
  | (_, d) => uptoBulk d + 1
 end
def uptoSmall : (H : Type) → List (DataW H) → Bool := fun _ ds => decide (uptoBulkAll ds ≤ 1048576)
def OpenSpec.upto (s : _root_.Go.ChangeSpec) : _root_.Go.OpenSpec := { _root_.Go.OpenSpec.ofChange s with cond := some uptoSmall }

/-- 'feedvaultlaw19.OpmlMatchesReference', WHERE WHAT IT READS IS OF BULK AT MOST 1048576: true; the input reads as it did. -/
def opmlMatchesReferenceUptoRow : OpenClaim := { program := "ytnlafkgkcnenfaagreatdoor", sum := "352149b30bee404d96e4d83c0494e567434275bca73760185c0234e91792e3dd", func := "feedvault/feedvaultlaw19.OpmlMatchesReference", spec := "opmlMatchesReference", inPlace := ["internal/abi.NoEscape"], unfollowed := true, recurses := true, named := ["unicode/utf8.first", "unicode/utf8.acceptRanges", "internal/strconv.uint64pow10", "math/bits.deBruijn32tab", "math/bits.deBruijn64tab", "feedvault/jsonstring.letters", "feedvault/text.moreRanges", "feedvault/text.startRanges"], apart := false, laid := [("math/bits.deBruijn32tab", laid_math_bits_deBruijn32tab), ("math/bits.deBruijn64tab", laid_math_bits_deBruijn64tab), ("internal/strconv.uint64pow10", laid_internal_strconv_uint64pow10), ("unicode/utf8.acceptRanges", laid_unicode_utf8_acceptRanges), ("feedvault/text.startRanges", laid_feedvault_text_startRanges), ("feedvault/text.moreRanges", laid_feedvault_text_moreRanges), ("feedvault/jsonstring.letters", laid_feedvault_jsonstring_letters), ("unicode/utf8.first", laid_unicode_utf8_first)], narrowed := true }
def OpmlMatchesReferenceUptoSaid : Prop := opmlMatchesReferenceUptoRow.holds Tryz.pinned (OpenSpec.upto opmlMatchesReferenceSpec)

/-- 'feedvaultlaw19.OpmlIsInjective', WHERE WHAT IT READS IS OF BULK AT MOST 1048576: true; the input reads as it did. -/
def opmlIsInjectiveUptoRow : OpenClaim := { program := "ytnlafkgkcnenfaagreatdoor", sum := "352149b30bee404d96e4d83c0494e567434275bca73760185c0234e91792e3dd", func := "feedvault/feedvaultlaw19.OpmlIsInjective", spec := "opmlIsInjective", inPlace := ["internal/abi.NoEscape"], unfollowed := true, recurses := true, named := ["unicode/utf8.first", "unicode/utf8.acceptRanges", "internal/strconv.uint64pow10", "math/bits.deBruijn32tab", "math/bits.deBruijn64tab", "feedvault/jsonstring.letters", "feedvault/text.moreRanges", "feedvault/text.startRanges"], apart := false, laid := [("math/bits.deBruijn32tab", laid_math_bits_deBruijn32tab), ("math/bits.deBruijn64tab", laid_math_bits_deBruijn64tab), ("internal/strconv.uint64pow10", laid_internal_strconv_uint64pow10), ("unicode/utf8.acceptRanges", laid_unicode_utf8_acceptRanges), ("feedvault/text.startRanges", laid_feedvault_text_startRanges), ("feedvault/text.moreRanges", laid_feedvault_text_moreRanges), ("feedvault/jsonstring.letters", laid_feedvault_jsonstring_letters), ("unicode/utf8.first", laid_unicode_utf8_first)], narrowed := true }
def OpmlIsInjectiveUptoSaid : Prop := opmlIsInjectiveUptoRow.holds Tryz.pinned (OpenSpec.upto opmlIsInjectiveSpec)

/-- 'feedvaultlaw19.OpmlIsStable', WHERE WHAT IT READS IS OF BULK AT MOST 1048576: true; the input reads as it did. -/
def opmlIsStableUptoRow : OpenClaim := { program := "ytnlafkgkcnenfaagreatdoor", sum := "352149b30bee404d96e4d83c0494e567434275bca73760185c0234e91792e3dd", func := "feedvault/feedvaultlaw19.OpmlIsStable", spec := "opmlIsStable", inPlace := ["internal/abi.NoEscape"], unfollowed := true, recurses := true, named := ["unicode/utf8.first", "unicode/utf8.acceptRanges", "internal/strconv.uint64pow10", "math/bits.deBruijn32tab", "math/bits.deBruijn64tab", "feedvault/jsonstring.letters", "feedvault/text.moreRanges", "feedvault/text.startRanges"], apart := false, laid := [("math/bits.deBruijn32tab", laid_math_bits_deBruijn32tab), ("math/bits.deBruijn64tab", laid_math_bits_deBruijn64tab), ("internal/strconv.uint64pow10", laid_internal_strconv_uint64pow10), ("unicode/utf8.acceptRanges", laid_unicode_utf8_acceptRanges), ("feedvault/text.startRanges", laid_feedvault_text_startRanges), ("feedvault/text.moreRanges", laid_feedvault_text_moreRanges), ("feedvault/jsonstring.letters", laid_feedvault_jsonstring_letters), ("unicode/utf8.first", laid_unicode_utf8_first)], narrowed := true }
def OpmlIsStableUptoSaid : Prop := opmlIsStableUptoRow.holds Tryz.pinned (OpenSpec.upto opmlIsStableSpec)

/-- 'feedvaultlaw19.OpmlEncodeMatchesReference', WHERE WHAT IT READS IS OF BULK AT MOST 1048576: true; the input reads as it did. -/
def opmlEncodeMatchesReferenceUptoRow : OpenClaim := { program := "ytnlafkgkcnenfaagreatdoor", sum := "352149b30bee404d96e4d83c0494e567434275bca73760185c0234e91792e3dd", func := "feedvault/feedvaultlaw19.OpmlEncodeMatchesReference", spec := "opmlEncodeMatchesReference", inPlace := ["internal/abi.NoEscape"], unfollowed := true, recurses := true, named := ["unicode/utf8.first", "unicode/utf8.acceptRanges", "internal/strconv.uint64pow10", "math/bits.deBruijn32tab", "math/bits.deBruijn64tab", "feedvault/jsonstring.letters", "feedvault/text.moreRanges", "feedvault/text.startRanges"], apart := false, laid := [("math/bits.deBruijn32tab", laid_math_bits_deBruijn32tab), ("math/bits.deBruijn64tab", laid_math_bits_deBruijn64tab), ("internal/strconv.uint64pow10", laid_internal_strconv_uint64pow10), ("unicode/utf8.acceptRanges", laid_unicode_utf8_acceptRanges), ("feedvault/text.startRanges", laid_feedvault_text_startRanges), ("feedvault/text.moreRanges", laid_feedvault_text_moreRanges), ("feedvault/jsonstring.letters", laid_feedvault_jsonstring_letters), ("unicode/utf8.first", laid_unicode_utf8_first)], narrowed := true }
def OpmlEncodeMatchesReferenceUptoSaid : Prop := opmlEncodeMatchesReferenceUptoRow.holds Tryz.pinned (OpenSpec.upto opmlEncodeMatchesReferenceSpec)

/-- 'feedvaultlaw19.OpmlRoundTrip', WHERE WHAT IT READS IS OF BULK AT MOST 1048576: true; the input reads as it did. -/
def opmlRoundTripUptoRow : OpenClaim := { program := "ytnlafkgkcnenfaagreatdoor", sum := "352149b30bee404d96e4d83c0494e567434275bca73760185c0234e91792e3dd", func := "feedvault/feedvaultlaw19.OpmlRoundTrip", spec := "opmlRoundTrip", inPlace := ["internal/abi.NoEscape"], unfollowed := true, recurses := true, named := ["unicode/utf8.first", "unicode/utf8.acceptRanges", "internal/strconv.uint64pow10", "math/bits.deBruijn32tab", "math/bits.deBruijn64tab", "feedvault/jsonstring.letters", "feedvault/text.moreRanges", "feedvault/text.startRanges"], apart := false, laid := [("math/bits.deBruijn32tab", laid_math_bits_deBruijn32tab), ("math/bits.deBruijn64tab", laid_math_bits_deBruijn64tab), ("internal/strconv.uint64pow10", laid_internal_strconv_uint64pow10), ("unicode/utf8.acceptRanges", laid_unicode_utf8_acceptRanges), ("feedvault/text.startRanges", laid_feedvault_text_startRanges), ("feedvault/text.moreRanges", laid_feedvault_text_moreRanges), ("feedvault/jsonstring.letters", laid_feedvault_jsonstring_letters), ("unicode/utf8.first", laid_unicode_utf8_first)], narrowed := true }
def OpmlRoundTripUptoSaid : Prop := opmlRoundTripUptoRow.holds Tryz.pinned (OpenSpec.upto opmlRoundTripSpec)

/-- 'feedvaultlaw19.OpmlOutlines', WHERE WHAT IT READS IS OF BULK AT MOST 1048576: true; the input reads as it did. -/
def opmlOutlinesUptoRow : OpenClaim := { program := "ytnlafkgkcnenfaagreatdoor", sum := "352149b30bee404d96e4d83c0494e567434275bca73760185c0234e91792e3dd", func := "feedvault/feedvaultlaw19.OpmlOutlines", spec := "opmlOutlines", inPlace := ["internal/abi.NoEscape"], unfollowed := true, recurses := true, named := ["unicode/utf8.first", "unicode/utf8.acceptRanges", "internal/strconv.uint64pow10", "math/bits.deBruijn32tab", "math/bits.deBruijn64tab", "feedvault/jsonstring.letters", "feedvault/text.moreRanges", "feedvault/text.startRanges"], apart := false, laid := [("math/bits.deBruijn32tab", laid_math_bits_deBruijn32tab), ("math/bits.deBruijn64tab", laid_math_bits_deBruijn64tab), ("internal/strconv.uint64pow10", laid_internal_strconv_uint64pow10), ("unicode/utf8.acceptRanges", laid_unicode_utf8_acceptRanges), ("feedvault/text.startRanges", laid_feedvault_text_startRanges), ("feedvault/text.moreRanges", laid_feedvault_text_moreRanges), ("feedvault/jsonstring.letters", laid_feedvault_jsonstring_letters), ("unicode/utf8.first", laid_unicode_utf8_first)], narrowed := true }
def OpmlOutlinesUptoSaid : Prop := opmlOutlinesUptoRow.holds Tryz.pinned (OpenSpec.upto opmlOutlinesSpec)

/-- 'feedvaultlaw19.OpmlDepth', WHERE WHAT IT READS IS OF BULK AT MOST 1048576: true; the input reads as it did. -/
def opmlDepthUptoRow : OpenClaim := { program := "ytnlafkgkcnenfaagreatdoor", sum := "352149b30bee404d96e4d83c0494e567434275bca73760185c0234e91792e3dd", func := "feedvault/feedvaultlaw19.OpmlDepth", spec := "opmlDepth", inPlace := ["internal/abi.NoEscape", "internal/bytealg.MakeNoZero"], unfollowed := true, recurses := true, named := ["unicode/utf8.first", "unicode/utf8.acceptRanges", "internal/strconv.uint64pow10", "math/bits.deBruijn32tab", "math/bits.deBruijn64tab", "feedvault/jsonstring.letters", "feedvault/text.moreRanges", "feedvault/text.startRanges"], apart := false, laid := [("math/bits.deBruijn32tab", laid_math_bits_deBruijn32tab), ("math/bits.deBruijn64tab", laid_math_bits_deBruijn64tab), ("internal/strconv.uint64pow10", laid_internal_strconv_uint64pow10), ("unicode/utf8.acceptRanges", laid_unicode_utf8_acceptRanges), ("feedvault/text.startRanges", laid_feedvault_text_startRanges), ("feedvault/text.moreRanges", laid_feedvault_text_moreRanges), ("feedvault/jsonstring.letters", laid_feedvault_jsonstring_letters), ("unicode/utf8.first", laid_unicode_utf8_first)], narrowed := true }
def OpmlDepthUptoSaid : Prop := opmlDepthUptoRow.holds Tryz.pinned (OpenSpec.upto opmlDepthSpec)

end Rows
end Go.Proofs.YtnlafkgkcnenfaaGreatDoor
