/-
  NARROWER THAN 'FOR EVERY INPUT', by the rows' own cells (each row's printed sentence says how): AtomMatchesReference: laid · AtomEncodeMatchesReference: laid · AtomRoundTrip: laid · AtomIsInjective: laid · AtomIsStable: laid · AtomIgnoresOthers: laid.
  DERIVED. THE GIVEN ROWS OF THIS SEAT. 6 by the template 'for every input the law returns true; each argument reads behind the call as it read before'; 0 by the template 'total and deterministic' (their statements: YtmfinhgobjbecaaGreatDoorTotals.lean).
  GIVEN WITH THE SEED: the statements are not yours to turn. If you find one false, say at which input.
  Laid BY PROGRAM, IN A SANDBOX (cutbox-rows.mjs): the forced cells as the released guide's own fill.sh prints them over the translation 547ae53955d4dd8c… (all of the seat's roots in one cut). By AI agents, Wed Nov 11 2026. No macro, syntax, notation, axiom, sorry.
-/
import Derived.Test.YtmfinhgobjbecaaGreatDoorChecked
import GoSem.PinnedTables
import GoSem.Claim
import GoSem.ClaimJoined
import GoSem.ClaimMapViews
import Derived.JoinedTies
import Derived.KernelRfl
namespace Go.Proofs.YtmfinhgobjbecaaGreatDoor
/- THE CELL 'sum', in the pinned program and in every row, IS THE sha256 OF THE DUMP (.gsa) THAT YtmfinhgobjbecaaGreatDoorProg.lean LOADS. Nothing in Lean hashes anything: it is a label: what it is worth is what the hold of that sum in a sandbox is worth. -/
noncomputable def Tryz.pinned : Pinned := { name := "ytmfinhgobjbecaagreatdoor", sum := "547ae53955d4dd8c627bee209054bc77eed48866ac46bf7656c8065245652f1d", checked := Tryz.checked }
namespace Rows
def none {H : Type} : Left H := { results := [], args := [] }

/- WHAT THE LISTED PACKAGE-LEVEL VARIABLES READ AS WHEN THE CALL BEGINS. Each datum BY PROGRAM (the guide's laid-datum.mjs) off the statement by which the dump's own 'gosem.cut.vars' lays the variable. In a bare row this is a premise. The card (YtmfinhgobjbecaaGreatDoorCards.lean) ties it to the program's text. -/
def laid_math_bits_deBruijn32tab {H : Type} : DataW H := .agg [.lit (.int .u8 0), .lit (.int .u8 1), .lit (.int .u8 28), .lit (.int .u8 2), .lit (.int .u8 29), .lit (.int .u8 14), .lit (.int .u8 24), .lit (.int .u8 3), .lit (.int .u8 30), .lit (.int .u8 22), .lit (.int .u8 20), .lit (.int .u8 15), .lit (.int .u8 25), .lit (.int .u8 17), .lit (.int .u8 4), .lit (.int .u8 8), .lit (.int .u8 31), .lit (.int .u8 27), .lit (.int .u8 13), .lit (.int .u8 23), .lit (.int .u8 21), .lit (.int .u8 19), .lit (.int .u8 16), .lit (.int .u8 7), .lit (.int .u8 26), .lit (.int .u8 12), .lit (.int .u8 18), .lit (.int .u8 6), .lit (.int .u8 11), .lit (.int .u8 5), .lit (.int .u8 10), .lit (.int .u8 9)]
def laid_math_bits_deBruijn64tab {H : Type} : DataW H := .agg [.lit (.int .u8 0), .lit (.int .u8 1), .lit (.int .u8 56), .lit (.int .u8 2), .lit (.int .u8 57), .lit (.int .u8 49), .lit (.int .u8 28), .lit (.int .u8 3), .lit (.int .u8 61), .lit (.int .u8 58), .lit (.int .u8 42), .lit (.int .u8 50), .lit (.int .u8 38), .lit (.int .u8 29), .lit (.int .u8 17), .lit (.int .u8 4), .lit (.int .u8 62), .lit (.int .u8 47), .lit (.int .u8 59), .lit (.int .u8 36), .lit (.int .u8 45), .lit (.int .u8 43), .lit (.int .u8 51), .lit (.int .u8 22), .lit (.int .u8 53), .lit (.int .u8 39), .lit (.int .u8 33), .lit (.int .u8 30), .lit (.int .u8 24), .lit (.int .u8 18), .lit (.int .u8 12), .lit (.int .u8 5), .lit (.int .u8 63), .lit (.int .u8 55), .lit (.int .u8 48), .lit (.int .u8 27), .lit (.int .u8 60), .lit (.int .u8 41), .lit (.int .u8 37), .lit (.int .u8 16), .lit (.int .u8 46), .lit (.int .u8 35), .lit (.int .u8 44), .lit (.int .u8 21), .lit (.int .u8 52), .lit (.int .u8 32), .lit (.int .u8 23), .lit (.int .u8 11), .lit (.int .u8 54), .lit (.int .u8 26), .lit (.int .u8 40), .lit (.int .u8 15), .lit (.int .u8 34), .lit (.int .u8 20), .lit (.int .u8 31), .lit (.int .u8 10), .lit (.int .u8 25), .lit (.int .u8 14), .lit (.int .u8 19), .lit (.int .u8 9), .lit (.int .u8 13), .lit (.int .u8 8), .lit (.int .u8 7), .lit (.int .u8 6)]
def laid_internal_strconv_uint64pow10 {H : Type} : DataW H := .agg [.lit (.int .u64 1), .lit (.int .u64 10), .lit (.int .u64 100), .lit (.int .u64 1000), .lit (.int .u64 10000), .lit (.int .u64 100000), .lit (.int .u64 1000000), .lit (.int .u64 10000000), .lit (.int .u64 100000000), .lit (.int .u64 1000000000), .lit (.int .u64 10000000000), .lit (.int .u64 100000000000), .lit (.int .u64 1000000000000), .lit (.int .u64 10000000000000), .lit (.int .u64 100000000000000), .lit (.int .u64 1000000000000000), .lit (.int .u64 10000000000000000), .lit (.int .u64 100000000000000000), .lit (.int .u64 1000000000000000000), .lit (.int .u64 10000000000000000000)]
def laid_unicode_utf8_acceptRanges {H : Type} : DataW H := .agg [.agg [.lit (.int .u8 128), .lit (.int .u8 191)], .agg [.lit (.int .u8 160), .lit (.int .u8 191)], .agg [.lit (.int .u8 128), .lit (.int .u8 159)], .agg [.lit (.int .u8 144), .lit (.int .u8 191)], .agg [.lit (.int .u8 128), .lit (.int .u8 143)], .agg [.lit (.int .u8 0), .lit (.int .u8 0)], .agg [.lit (.int .u8 0), .lit (.int .u8 0)], .agg [.lit (.int .u8 0), .lit (.int .u8 0)], .agg [.lit (.int .u8 0), .lit (.int .u8 0)], .agg [.lit (.int .u8 0), .lit (.int .u8 0)], .agg [.lit (.int .u8 0), .lit (.int .u8 0)], .agg [.lit (.int .u8 0), .lit (.int .u8 0)], .agg [.lit (.int .u8 0), .lit (.int .u8 0)], .agg [.lit (.int .u8 0), .lit (.int .u8 0)], .agg [.lit (.int .u8 0), .lit (.int .u8 0)], .agg [.lit (.int .u8 0), .lit (.int .u8 0)]]
def laid_feedvault_text_startRanges {H : Type} : DataW H := .agg [.agg [.lit (.int .i32 65), .lit (.int .i32 90)], .agg [.lit (.int .i32 95), .lit (.int .i32 95)], .agg [.lit (.int .i32 97), .lit (.int .i32 122)], .agg [.lit (.int .i32 192), .lit (.int .i32 214)], .agg [.lit (.int .i32 216), .lit (.int .i32 246)], .agg [.lit (.int .i32 248), .lit (.int .i32 767)], .agg [.lit (.int .i32 880), .lit (.int .i32 893)], .agg [.lit (.int .i32 895), .lit (.int .i32 8191)], .agg [.lit (.int .i32 8204), .lit (.int .i32 8205)], .agg [.lit (.int .i32 8304), .lit (.int .i32 8591)], .agg [.lit (.int .i32 11264), .lit (.int .i32 12271)], .agg [.lit (.int .i32 12289), .lit (.int .i32 55295)], .agg [.lit (.int .i32 63744), .lit (.int .i32 64975)], .agg [.lit (.int .i32 65008), .lit (.int .i32 65533)], .agg [.lit (.int .i32 65536), .lit (.int .i32 983039)]]
def laid_feedvault_text_moreRanges {H : Type} : DataW H := .agg [.agg [.lit (.int .i32 45), .lit (.int .i32 46)], .agg [.lit (.int .i32 48), .lit (.int .i32 57)], .agg [.lit (.int .i32 183), .lit (.int .i32 183)], .agg [.lit (.int .i32 768), .lit (.int .i32 879)], .agg [.lit (.int .i32 8255), .lit (.int .i32 8256)]]
def laid_feedvault_jsonstring_letters {H : Type} : DataW H := .agg [.agg [.lit (.int .u8 98), .lit (.int .u8 8)], .agg [.lit (.int .u8 102), .lit (.int .u8 12)], .agg [.lit (.int .u8 110), .lit (.int .u8 10)], .agg [.lit (.int .u8 114), .lit (.int .u8 13)], .agg [.lit (.int .u8 116), .lit (.int .u8 9)]]
/-- One of Go's own tables, pinned by name: the form's constant. -/
def laid_unicode_utf8_first : DataW Unit := Go.Pinned.utf8First

/-- 'feedvaultlaw17.AtomMatchesReference': WHATEVER THE INPUT: true; the input reads as it did. -/
def atomMatchesReferenceSpec : ChangeSpec := { name := "atomMatchesReference", fn := fun _ => fun
  | [d] => { results := [.lit (.bool true)], args := [d] }
  | _ => none }
def atomMatchesReferenceRow : OpenClaim := { program := "ytmfinhgobjbecaagreatdoor", sum := "547ae53955d4dd8c627bee209054bc77eed48866ac46bf7656c8065245652f1d", func := "feedvault/feedvaultlaw17.AtomMatchesReference", spec := "atomMatchesReference", inPlace := ["internal/abi.NoEscape"], unfollowed := true, recurses := true, named := ["unicode/utf8.first", "unicode/utf8.acceptRanges", "internal/strconv.uint64pow10", "math/bits.deBruijn32tab", "math/bits.deBruijn64tab", "feedvault/jsonstring.letters", "feedvault/text.moreRanges", "feedvault/text.startRanges"], apart := false, laid := [("math/bits.deBruijn32tab", laid_math_bits_deBruijn32tab), ("math/bits.deBruijn64tab", laid_math_bits_deBruijn64tab), ("internal/strconv.uint64pow10", laid_internal_strconv_uint64pow10), ("unicode/utf8.acceptRanges", laid_unicode_utf8_acceptRanges), ("feedvault/text.startRanges", laid_feedvault_text_startRanges), ("feedvault/text.moreRanges", laid_feedvault_text_moreRanges), ("feedvault/jsonstring.letters", laid_feedvault_jsonstring_letters), ("unicode/utf8.first", laid_unicode_utf8_first)] }
def AtomMatchesReferenceSaid : Prop := atomMatchesReferenceRow.holds Tryz.pinned (OpenSpec.ofChange atomMatchesReferenceSpec)

/-- ITS FALSE NEIGHBOUR: 'it returns false'. Refute it at one input. -/
def atomMatchesReferenceWrong : ChangeSpec := { name := "atomMatchesReference", fn := fun _ => fun
  | [d] => { results := [.lit (.bool false)], args := [d] }
  | _ => none }
def AtomMatchesReferenceWrongFalsely : Prop := atomMatchesReferenceRow.holds Tryz.pinned (OpenSpec.ofChange atomMatchesReferenceWrong)

/-- 'feedvaultlaw17.AtomEncodeMatchesReference': WHATEVER THE INPUT: true; the input reads as it did. -/
def atomEncodeMatchesReferenceSpec : ChangeSpec := { name := "atomEncodeMatchesReference", fn := fun _ => fun
  | [d] => { results := [.lit (.bool true)], args := [d] }
  | _ => none }
def atomEncodeMatchesReferenceRow : OpenClaim := { program := "ytmfinhgobjbecaagreatdoor", sum := "547ae53955d4dd8c627bee209054bc77eed48866ac46bf7656c8065245652f1d", func := "feedvault/feedvaultlaw17.AtomEncodeMatchesReference", spec := "atomEncodeMatchesReference", inPlace := ["internal/abi.NoEscape"], unfollowed := true, recurses := true, named := ["unicode/utf8.first", "unicode/utf8.acceptRanges", "internal/strconv.uint64pow10", "math/bits.deBruijn32tab", "math/bits.deBruijn64tab", "feedvault/jsonstring.letters", "feedvault/text.moreRanges", "feedvault/text.startRanges"], apart := false, laid := [("math/bits.deBruijn32tab", laid_math_bits_deBruijn32tab), ("math/bits.deBruijn64tab", laid_math_bits_deBruijn64tab), ("internal/strconv.uint64pow10", laid_internal_strconv_uint64pow10), ("unicode/utf8.acceptRanges", laid_unicode_utf8_acceptRanges), ("feedvault/text.startRanges", laid_feedvault_text_startRanges), ("feedvault/text.moreRanges", laid_feedvault_text_moreRanges), ("feedvault/jsonstring.letters", laid_feedvault_jsonstring_letters), ("unicode/utf8.first", laid_unicode_utf8_first)] }
def AtomEncodeMatchesReferenceSaid : Prop := atomEncodeMatchesReferenceRow.holds Tryz.pinned (OpenSpec.ofChange atomEncodeMatchesReferenceSpec)

/-- ITS FALSE NEIGHBOUR: 'it returns false'. Refute it at one input. -/
def atomEncodeMatchesReferenceWrong : ChangeSpec := { name := "atomEncodeMatchesReference", fn := fun _ => fun
  | [d] => { results := [.lit (.bool false)], args := [d] }
  | _ => none }
def AtomEncodeMatchesReferenceWrongFalsely : Prop := atomEncodeMatchesReferenceRow.holds Tryz.pinned (OpenSpec.ofChange atomEncodeMatchesReferenceWrong)

/-- 'feedvaultlaw17.AtomRoundTrip': WHATEVER THE INPUT: true; the input reads as it did. -/
def atomRoundTripSpec : ChangeSpec := { name := "atomRoundTrip", fn := fun _ => fun
  | [d] => { results := [.lit (.bool true)], args := [d] }
  | _ => none }
def atomRoundTripRow : OpenClaim := { program := "ytmfinhgobjbecaagreatdoor", sum := "547ae53955d4dd8c627bee209054bc77eed48866ac46bf7656c8065245652f1d", func := "feedvault/feedvaultlaw17.AtomRoundTrip", spec := "atomRoundTrip", inPlace := ["internal/abi.NoEscape"], unfollowed := true, recurses := true, named := ["unicode/utf8.first", "unicode/utf8.acceptRanges", "internal/strconv.uint64pow10", "math/bits.deBruijn32tab", "math/bits.deBruijn64tab", "feedvault/jsonstring.letters", "feedvault/text.moreRanges", "feedvault/text.startRanges"], apart := false, laid := [("math/bits.deBruijn32tab", laid_math_bits_deBruijn32tab), ("math/bits.deBruijn64tab", laid_math_bits_deBruijn64tab), ("internal/strconv.uint64pow10", laid_internal_strconv_uint64pow10), ("unicode/utf8.acceptRanges", laid_unicode_utf8_acceptRanges), ("feedvault/text.startRanges", laid_feedvault_text_startRanges), ("feedvault/text.moreRanges", laid_feedvault_text_moreRanges), ("feedvault/jsonstring.letters", laid_feedvault_jsonstring_letters), ("unicode/utf8.first", laid_unicode_utf8_first)] }
def AtomRoundTripSaid : Prop := atomRoundTripRow.holds Tryz.pinned (OpenSpec.ofChange atomRoundTripSpec)

/-- ITS FALSE NEIGHBOUR: 'it returns false'. Refute it at one input. -/
def atomRoundTripWrong : ChangeSpec := { name := "atomRoundTrip", fn := fun _ => fun
  | [d] => { results := [.lit (.bool false)], args := [d] }
  | _ => none }
def AtomRoundTripWrongFalsely : Prop := atomRoundTripRow.holds Tryz.pinned (OpenSpec.ofChange atomRoundTripWrong)

/-- 'feedvaultlaw17.AtomIsInjective': WHATEVER THE INPUT: true; the input reads as it did. -/
def atomIsInjectiveSpec : ChangeSpec := { name := "atomIsInjective", fn := fun _ => fun
  | [d1, d2] => { results := [.lit (.bool true)], args := [d1, d2] }
  | _ => none }
def atomIsInjectiveRow : OpenClaim := { program := "ytmfinhgobjbecaagreatdoor", sum := "547ae53955d4dd8c627bee209054bc77eed48866ac46bf7656c8065245652f1d", func := "feedvault/feedvaultlaw17.AtomIsInjective", spec := "atomIsInjective", inPlace := ["internal/abi.NoEscape"], unfollowed := true, recurses := true, named := ["unicode/utf8.first", "unicode/utf8.acceptRanges", "internal/strconv.uint64pow10", "math/bits.deBruijn32tab", "math/bits.deBruijn64tab", "feedvault/jsonstring.letters", "feedvault/text.moreRanges", "feedvault/text.startRanges"], apart := false, laid := [("math/bits.deBruijn32tab", laid_math_bits_deBruijn32tab), ("math/bits.deBruijn64tab", laid_math_bits_deBruijn64tab), ("internal/strconv.uint64pow10", laid_internal_strconv_uint64pow10), ("unicode/utf8.acceptRanges", laid_unicode_utf8_acceptRanges), ("feedvault/text.startRanges", laid_feedvault_text_startRanges), ("feedvault/text.moreRanges", laid_feedvault_text_moreRanges), ("feedvault/jsonstring.letters", laid_feedvault_jsonstring_letters), ("unicode/utf8.first", laid_unicode_utf8_first)] }
def AtomIsInjectiveSaid : Prop := atomIsInjectiveRow.holds Tryz.pinned (OpenSpec.ofChange atomIsInjectiveSpec)

/-- ITS FALSE NEIGHBOUR: 'it returns false'. Refute it at one input. -/
def atomIsInjectiveWrong : ChangeSpec := { name := "atomIsInjective", fn := fun _ => fun
  | [d1, d2] => { results := [.lit (.bool false)], args := [d1, d2] }
  | _ => none }
def AtomIsInjectiveWrongFalsely : Prop := atomIsInjectiveRow.holds Tryz.pinned (OpenSpec.ofChange atomIsInjectiveWrong)

/-- 'feedvaultlaw17.AtomIsStable': WHATEVER THE INPUT: true; the input reads as it did. -/
def atomIsStableSpec : ChangeSpec := { name := "atomIsStable", fn := fun _ => fun
  | [d] => { results := [.lit (.bool true)], args := [d] }
  | _ => none }
def atomIsStableRow : OpenClaim := { program := "ytmfinhgobjbecaagreatdoor", sum := "547ae53955d4dd8c627bee209054bc77eed48866ac46bf7656c8065245652f1d", func := "feedvault/feedvaultlaw17.AtomIsStable", spec := "atomIsStable", inPlace := ["internal/abi.NoEscape"], unfollowed := true, recurses := true, named := ["unicode/utf8.first", "unicode/utf8.acceptRanges", "internal/strconv.uint64pow10", "math/bits.deBruijn32tab", "math/bits.deBruijn64tab", "feedvault/jsonstring.letters", "feedvault/text.moreRanges", "feedvault/text.startRanges"], apart := false, laid := [("math/bits.deBruijn32tab", laid_math_bits_deBruijn32tab), ("math/bits.deBruijn64tab", laid_math_bits_deBruijn64tab), ("internal/strconv.uint64pow10", laid_internal_strconv_uint64pow10), ("unicode/utf8.acceptRanges", laid_unicode_utf8_acceptRanges), ("feedvault/text.startRanges", laid_feedvault_text_startRanges), ("feedvault/text.moreRanges", laid_feedvault_text_moreRanges), ("feedvault/jsonstring.letters", laid_feedvault_jsonstring_letters), ("unicode/utf8.first", laid_unicode_utf8_first)] }
def AtomIsStableSaid : Prop := atomIsStableRow.holds Tryz.pinned (OpenSpec.ofChange atomIsStableSpec)

/-- ITS FALSE NEIGHBOUR: 'it returns false'. Refute it at one input. -/
def atomIsStableWrong : ChangeSpec := { name := "atomIsStable", fn := fun _ => fun
  | [d] => { results := [.lit (.bool false)], args := [d] }
  | _ => none }
def AtomIsStableWrongFalsely : Prop := atomIsStableRow.holds Tryz.pinned (OpenSpec.ofChange atomIsStableWrong)

/-- 'feedvaultlaw17.AtomIgnoresOthers': WHATEVER THE INPUT: true; the input reads as it did. -/
def atomIgnoresOthersSpec : ChangeSpec := { name := "atomIgnoresOthers", fn := fun _ => fun
  | [d1, d2] => { results := [.lit (.bool true)], args := [d1, d2] }
  | _ => none }
def atomIgnoresOthersRow : OpenClaim := { program := "ytmfinhgobjbecaagreatdoor", sum := "547ae53955d4dd8c627bee209054bc77eed48866ac46bf7656c8065245652f1d", func := "feedvault/feedvaultlaw17.AtomIgnoresOthers", spec := "atomIgnoresOthers", inPlace := ["internal/abi.NoEscape"], unfollowed := true, recurses := true, named := ["unicode/utf8.first", "unicode/utf8.acceptRanges", "internal/strconv.uint64pow10", "math/bits.deBruijn32tab", "math/bits.deBruijn64tab", "feedvault/jsonstring.letters", "feedvault/text.moreRanges", "feedvault/text.startRanges"], apart := false, laid := [("math/bits.deBruijn32tab", laid_math_bits_deBruijn32tab), ("math/bits.deBruijn64tab", laid_math_bits_deBruijn64tab), ("internal/strconv.uint64pow10", laid_internal_strconv_uint64pow10), ("unicode/utf8.acceptRanges", laid_unicode_utf8_acceptRanges), ("feedvault/text.startRanges", laid_feedvault_text_startRanges), ("feedvault/text.moreRanges", laid_feedvault_text_moreRanges), ("feedvault/jsonstring.letters", laid_feedvault_jsonstring_letters), ("unicode/utf8.first", laid_unicode_utf8_first)] }
def AtomIgnoresOthersSaid : Prop := atomIgnoresOthersRow.holds Tryz.pinned (OpenSpec.ofChange atomIgnoresOthersSpec)

/-- ITS FALSE NEIGHBOUR: 'it returns false'. Refute it at one input. -/
def atomIgnoresOthersWrong : ChangeSpec := { name := "atomIgnoresOthers", fn := fun _ => fun
  | [d1, d2] => { results := [.lit (.bool false)], args := [d1, d2] }
  | _ => none }
def AtomIgnoresOthersWrongFalsely : Prop := atomIgnoresOthersRow.holds Tryz.pinned (OpenSpec.ofChange atomIgnoresOthersWrong)

/- THE SECOND FORM. 'bulk': how many values and letters a reading holds, each counted each time it is reached (what is shared counts as often as it is met; a slice's spare places count too). A statement '..UptoSaid' is the law's where the arguments, and the package variables that the reading takes, are together of bulk at most 1048576: NARROWER than '..Said'. Prove '..Said' where nothing that the law and all that it calls make is longer than what came in: it says more and counts as full. Else prove '..UptoSaid'. A law counts once. -/
mutual
def uptoBulk {H : Type} : DataW H → Nat
  | .lit (.string bytes) => bytes.length + 1
  | .lit _ => 1
  | .nil => 1
  | .ptr d => uptoBulk d + 1
  | .slice elems spare => uptoBulkAll elems + uptoBulkAll spare + 1
  | .agg parts => uptoBulkAll parts + 1
  | .iface _ d => uptoBulk d + 1
  | .map entries => uptoBulkEntries entries + 1
  | .held _ => 1
def uptoBulkAll {H : Type} : List (DataW H) → Nat
  | [] => 0
  | d :: r => uptoBulk d + uptoBulkAll r
def uptoBulkEntries {H : Type} : List (Lit × DataW H) → Nat
  | [] => 0
  | x :: r => uptoBulkEntry x + uptoBulkEntries r
def uptoBulkEntry {H : Type} : Lit × DataW H → Nat
  | (.string bytes, d) => bytes.length + uptoBulk d + 1
  | (_, d) => uptoBulk d + 1
 end
def uptoSmall : (H : Type) → List (DataW H) → Bool := fun _ ds => decide (uptoBulkAll ds ≤ 1048576)
def OpenSpec.upto (s : _root_.Go.ChangeSpec) : _root_.Go.OpenSpec := { _root_.Go.OpenSpec.ofChange s with cond := some uptoSmall }

/-- 'feedvaultlaw17.AtomMatchesReference', WHERE WHAT IT READS IS OF BULK AT MOST 1048576: true; the input reads as it did. -/
def atomMatchesReferenceUptoRow : OpenClaim := { program := "ytmfinhgobjbecaagreatdoor", sum := "547ae53955d4dd8c627bee209054bc77eed48866ac46bf7656c8065245652f1d", func := "feedvault/feedvaultlaw17.AtomMatchesReference", spec := "atomMatchesReference", inPlace := ["internal/abi.NoEscape"], unfollowed := true, recurses := true, named := ["unicode/utf8.first", "unicode/utf8.acceptRanges", "internal/strconv.uint64pow10", "math/bits.deBruijn32tab", "math/bits.deBruijn64tab", "feedvault/jsonstring.letters", "feedvault/text.moreRanges", "feedvault/text.startRanges"], apart := false, laid := [("math/bits.deBruijn32tab", laid_math_bits_deBruijn32tab), ("math/bits.deBruijn64tab", laid_math_bits_deBruijn64tab), ("internal/strconv.uint64pow10", laid_internal_strconv_uint64pow10), ("unicode/utf8.acceptRanges", laid_unicode_utf8_acceptRanges), ("feedvault/text.startRanges", laid_feedvault_text_startRanges), ("feedvault/text.moreRanges", laid_feedvault_text_moreRanges), ("feedvault/jsonstring.letters", laid_feedvault_jsonstring_letters), ("unicode/utf8.first", laid_unicode_utf8_first)], narrowed := true }
def AtomMatchesReferenceUptoSaid : Prop := atomMatchesReferenceUptoRow.holds Tryz.pinned (OpenSpec.upto atomMatchesReferenceSpec)

/-- 'feedvaultlaw17.AtomEncodeMatchesReference', WHERE WHAT IT READS IS OF BULK AT MOST 1048576: true; the input reads as it did. -/
def atomEncodeMatchesReferenceUptoRow : OpenClaim := { program := "ytmfinhgobjbecaagreatdoor", sum := "547ae53955d4dd8c627bee209054bc77eed48866ac46bf7656c8065245652f1d", func := "feedvault/feedvaultlaw17.AtomEncodeMatchesReference", spec := "atomEncodeMatchesReference", inPlace := ["internal/abi.NoEscape"], unfollowed := true, recurses := true, named := ["unicode/utf8.first", "unicode/utf8.acceptRanges", "internal/strconv.uint64pow10", "math/bits.deBruijn32tab", "math/bits.deBruijn64tab", "feedvault/jsonstring.letters", "feedvault/text.moreRanges", "feedvault/text.startRanges"], apart := false, laid := [("math/bits.deBruijn32tab", laid_math_bits_deBruijn32tab), ("math/bits.deBruijn64tab", laid_math_bits_deBruijn64tab), ("internal/strconv.uint64pow10", laid_internal_strconv_uint64pow10), ("unicode/utf8.acceptRanges", laid_unicode_utf8_acceptRanges), ("feedvault/text.startRanges", laid_feedvault_text_startRanges), ("feedvault/text.moreRanges", laid_feedvault_text_moreRanges), ("feedvault/jsonstring.letters", laid_feedvault_jsonstring_letters), ("unicode/utf8.first", laid_unicode_utf8_first)], narrowed := true }
def AtomEncodeMatchesReferenceUptoSaid : Prop := atomEncodeMatchesReferenceUptoRow.holds Tryz.pinned (OpenSpec.upto atomEncodeMatchesReferenceSpec)

/-- 'feedvaultlaw17.AtomRoundTrip', WHERE WHAT IT READS IS OF BULK AT MOST 1048576: true; the input reads as it did. -/
def atomRoundTripUptoRow : OpenClaim := { program := "ytmfinhgobjbecaagreatdoor", sum := "547ae53955d4dd8c627bee209054bc77eed48866ac46bf7656c8065245652f1d", func := "feedvault/feedvaultlaw17.AtomRoundTrip", spec := "atomRoundTrip", inPlace := ["internal/abi.NoEscape"], unfollowed := true, recurses := true, named := ["unicode/utf8.first", "unicode/utf8.acceptRanges", "internal/strconv.uint64pow10", "math/bits.deBruijn32tab", "math/bits.deBruijn64tab", "feedvault/jsonstring.letters", "feedvault/text.moreRanges", "feedvault/text.startRanges"], apart := false, laid := [("math/bits.deBruijn32tab", laid_math_bits_deBruijn32tab), ("math/bits.deBruijn64tab", laid_math_bits_deBruijn64tab), ("internal/strconv.uint64pow10", laid_internal_strconv_uint64pow10), ("unicode/utf8.acceptRanges", laid_unicode_utf8_acceptRanges), ("feedvault/text.startRanges", laid_feedvault_text_startRanges), ("feedvault/text.moreRanges", laid_feedvault_text_moreRanges), ("feedvault/jsonstring.letters", laid_feedvault_jsonstring_letters), ("unicode/utf8.first", laid_unicode_utf8_first)], narrowed := true }
def AtomRoundTripUptoSaid : Prop := atomRoundTripUptoRow.holds Tryz.pinned (OpenSpec.upto atomRoundTripSpec)

/-- 'feedvaultlaw17.AtomIsInjective', WHERE WHAT IT READS IS OF BULK AT MOST 1048576: true; the input reads as it did. -/
def atomIsInjectiveUptoRow : OpenClaim := { program := "ytmfinhgobjbecaagreatdoor", sum := "547ae53955d4dd8c627bee209054bc77eed48866ac46bf7656c8065245652f1d", func := "feedvault/feedvaultlaw17.AtomIsInjective", spec := "atomIsInjective", inPlace := ["internal/abi.NoEscape"], unfollowed := true, recurses := true, named := ["unicode/utf8.first", "unicode/utf8.acceptRanges", "internal/strconv.uint64pow10", "math/bits.deBruijn32tab", "math/bits.deBruijn64tab", "feedvault/jsonstring.letters", "feedvault/text.moreRanges", "feedvault/text.startRanges"], apart := false, laid := [("math/bits.deBruijn32tab", laid_math_bits_deBruijn32tab), ("math/bits.deBruijn64tab", laid_math_bits_deBruijn64tab), ("internal/strconv.uint64pow10", laid_internal_strconv_uint64pow10), ("unicode/utf8.acceptRanges", laid_unicode_utf8_acceptRanges), ("feedvault/text.startRanges", laid_feedvault_text_startRanges), ("feedvault/text.moreRanges", laid_feedvault_text_moreRanges), ("feedvault/jsonstring.letters", laid_feedvault_jsonstring_letters), ("unicode/utf8.first", laid_unicode_utf8_first)], narrowed := true }
def AtomIsInjectiveUptoSaid : Prop := atomIsInjectiveUptoRow.holds Tryz.pinned (OpenSpec.upto atomIsInjectiveSpec)

/-- 'feedvaultlaw17.AtomIsStable', WHERE WHAT IT READS IS OF BULK AT MOST 1048576: true; the input reads as it did. -/
def atomIsStableUptoRow : OpenClaim := { program := "ytmfinhgobjbecaagreatdoor", sum := "547ae53955d4dd8c627bee209054bc77eed48866ac46bf7656c8065245652f1d", func := "feedvault/feedvaultlaw17.AtomIsStable", spec := "atomIsStable", inPlace := ["internal/abi.NoEscape"], unfollowed := true, recurses := true, named := ["unicode/utf8.first", "unicode/utf8.acceptRanges", "internal/strconv.uint64pow10", "math/bits.deBruijn32tab", "math/bits.deBruijn64tab", "feedvault/jsonstring.letters", "feedvault/text.moreRanges", "feedvault/text.startRanges"], apart := false, laid := [("math/bits.deBruijn32tab", laid_math_bits_deBruijn32tab), ("math/bits.deBruijn64tab", laid_math_bits_deBruijn64tab), ("internal/strconv.uint64pow10", laid_internal_strconv_uint64pow10), ("unicode/utf8.acceptRanges", laid_unicode_utf8_acceptRanges), ("feedvault/text.startRanges", laid_feedvault_text_startRanges), ("feedvault/text.moreRanges", laid_feedvault_text_moreRanges), ("feedvault/jsonstring.letters", laid_feedvault_jsonstring_letters), ("unicode/utf8.first", laid_unicode_utf8_first)], narrowed := true }
def AtomIsStableUptoSaid : Prop := atomIsStableUptoRow.holds Tryz.pinned (OpenSpec.upto atomIsStableSpec)

/-- 'feedvaultlaw17.AtomIgnoresOthers', WHERE WHAT IT READS IS OF BULK AT MOST 1048576: true; the input reads as it did. -/
def atomIgnoresOthersUptoRow : OpenClaim := { program := "ytmfinhgobjbecaagreatdoor", sum := "547ae53955d4dd8c627bee209054bc77eed48866ac46bf7656c8065245652f1d", func := "feedvault/feedvaultlaw17.AtomIgnoresOthers", spec := "atomIgnoresOthers", inPlace := ["internal/abi.NoEscape"], unfollowed := true, recurses := true, named := ["unicode/utf8.first", "unicode/utf8.acceptRanges", "internal/strconv.uint64pow10", "math/bits.deBruijn32tab", "math/bits.deBruijn64tab", "feedvault/jsonstring.letters", "feedvault/text.moreRanges", "feedvault/text.startRanges"], apart := false, laid := [("math/bits.deBruijn32tab", laid_math_bits_deBruijn32tab), ("math/bits.deBruijn64tab", laid_math_bits_deBruijn64tab), ("internal/strconv.uint64pow10", laid_internal_strconv_uint64pow10), ("unicode/utf8.acceptRanges", laid_unicode_utf8_acceptRanges), ("feedvault/text.startRanges", laid_feedvault_text_startRanges), ("feedvault/text.moreRanges", laid_feedvault_text_moreRanges), ("feedvault/jsonstring.letters", laid_feedvault_jsonstring_letters), ("unicode/utf8.first", laid_unicode_utf8_first)], narrowed := true }
def AtomIgnoresOthersUptoSaid : Prop := atomIgnoresOthersUptoRow.holds Tryz.pinned (OpenSpec.upto atomIgnoresOthersSpec)

end Rows
end Go.Proofs.YtmfinhgobjbecaaGreatDoor
