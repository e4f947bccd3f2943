/-
  DERIVED. GIVEN WITH THE SEED: THE CARDS: each row of YtgecijhgonfldaaGreatDoorRows.lean that lists a variable, with what it lists TIED to the program's text (the seventh form; the later family's looks); each row that meets fmt, with fmt's text TOLD by the authors' own Lean function (tested against real Go, not proved from fmt's source: count such statements apart). THE CARD IS WHAT COUNTS. Prove the row's statement (the work); the ties are given (YtgecijhgonfldaaGreatDoorTie.lean); close each card by the builder's one call (the guide's Derived/Test/ToyasCard.lean, 'card_holds'). Laid BY PROGRAM, IN A SANDBOX (cutbox-door.mjs). By AI agents, Wed Nov 11 2026. No macro, syntax, notation, axiom, sorry.
-/
import Derived.Test.YtgecijhgonfldaaGreatDoorRows
import GoSem.ClaimSeven
namespace Go.Proofs.YtgecijhgonfldaaGreatDoor
namespace Rows

/-- THE TIED CARD OF 'feedvaultlaw14.NormalizeEntryMatchesReference'. -/
def normalizeEntryMatchesReferenceCard : Claim7 := { stood := { row := normalizeEntryMatchesReferenceRow, standIns := [], harness := (true, "72d915ea65909ccc7aa6754f163e0fd9742e8f384d51c925c8dce0485ea4dd84"), looks := false }, kinds := [], alts := [], laidByText := true, laidKinds := [.data, .data, .data, .data, .data, .pinned], laidTests := true, laidLooks := .later }
def NormalizeEntryMatchesReferenceCardSaid : Prop := Claim7.holds Tryz.pinned (.plain (OpenSpec.ofChange normalizeEntryMatchesReferenceSpec)) normalizeEntryMatchesReferenceCard

/-- THE TIED CARD OF 'feedvaultlaw14.NormalizeFeedMatchesReference'. -/
def normalizeFeedMatchesReferenceCard : Claim7 := { stood := { row := normalizeFeedMatchesReferenceRow, standIns := [], harness := (true, "72d915ea65909ccc7aa6754f163e0fd9742e8f384d51c925c8dce0485ea4dd84"), looks := false }, kinds := [], alts := [], laidByText := true, laidKinds := [.data, .data, .data, .data, .data, .pinned], laidTests := true, laidLooks := .later }
def NormalizeFeedMatchesReferenceCardSaid : Prop := Claim7.holds Tryz.pinned (.plain (OpenSpec.ofChange normalizeFeedMatchesReferenceSpec)) normalizeFeedMatchesReferenceCard

/-- THE TIED CARD OF 'feedvaultlaw14.NormalizeArchiveMatchesReference'. -/
def normalizeArchiveMatchesReferenceCard : Claim7 := { stood := { row := normalizeArchiveMatchesReferenceRow, standIns := [], harness := (true, "72d915ea65909ccc7aa6754f163e0fd9742e8f384d51c925c8dce0485ea4dd84"), looks := false }, kinds := [], alts := [], laidByText := true, laidKinds := [.data, .data, .data, .data, .data, .pinned], laidTests := true, laidLooks := .later }
def NormalizeArchiveMatchesReferenceCardSaid : Prop := Claim7.holds Tryz.pinned (.plain (OpenSpec.ofChange normalizeArchiveMatchesReferenceSpec)) normalizeArchiveMatchesReferenceCard

/-- THE TIED CARD OF 'feedvaultlaw14.NormalizeKeepsValid'. -/
def normalizeKeepsValidCard : Claim7 := { stood := { row := normalizeKeepsValidRow, standIns := [], harness := (true, "72d915ea65909ccc7aa6754f163e0fd9742e8f384d51c925c8dce0485ea4dd84"), looks := false }, kinds := [], alts := [], laidByText := true, laidKinds := [.data, .data, .data, .data, .data, .pinned], laidTests := true, laidLooks := .later }
def NormalizeKeepsValidCardSaid : Prop := Claim7.holds Tryz.pinned (.plain (OpenSpec.ofChange normalizeKeepsValidSpec)) normalizeKeepsValidCard

/-- THE TIED CARD OF 'feedvaultlaw14.NormalizeSplits'. -/
def normalizeSplitsCard : Claim7 := { stood := { row := normalizeSplitsRow, standIns := [], harness := (true, "72d915ea65909ccc7aa6754f163e0fd9742e8f384d51c925c8dce0485ea4dd84"), looks := false }, kinds := [], alts := [], laidByText := true, laidKinds := [.data, .data, .data, .data, .data, .pinned], laidTests := true, laidLooks := .later }
def NormalizeSplitsCardSaid : Prop := Claim7.holds Tryz.pinned (.plain (OpenSpec.ofChange normalizeSplitsSpec)) normalizeSplitsCard

/-- THE TIED CARD OF 'feedvaultlaw14.NormalizeIsolated'. -/
def normalizeIsolatedCard : Claim7 := { stood := { row := normalizeIsolatedRow, standIns := [], harness := (true, "72d915ea65909ccc7aa6754f163e0fd9742e8f384d51c925c8dce0485ea4dd84"), looks := false }, kinds := [], alts := [], laidByText := true, laidKinds := [.data, .data, .data, .data, .data, .pinned], laidTests := true, laidLooks := .later }
def NormalizeIsolatedCardSaid : Prop := Claim7.holds Tryz.pinned (.plain (OpenSpec.ofChange normalizeIsolatedSpec)) normalizeIsolatedCard

/-- THE TIED CARD OF 'feedvaultlaw14.NormalizeIgnoresOrder'. -/
def normalizeIgnoresOrderCard : Claim7 := { stood := { row := normalizeIgnoresOrderRow, standIns := [], harness := (true, "72d915ea65909ccc7aa6754f163e0fd9742e8f384d51c925c8dce0485ea4dd84"), looks := false }, kinds := [], alts := [], laidByText := true, laidKinds := [.data, .data, .data, .data, .data, .pinned], laidTests := true, laidLooks := .later }
def NormalizeIgnoresOrderCardSaid : Prop := Claim7.holds Tryz.pinned (.plain (OpenSpec.ofChange normalizeIgnoresOrderSpec)) normalizeIgnoresOrderCard

/-- THE TIED CARD OF 'feedvaultlaw15.MergeMatchesReference'. -/
def mergeMatchesReferenceCard : Claim7 := { stood := { row := mergeMatchesReferenceRow, standIns := [], harness := (true, "72d915ea65909ccc7aa6754f163e0fd9742e8f384d51c925c8dce0485ea4dd84"), looks := false }, kinds := [], alts := [], laidByText := true, laidKinds := [.data, .data, .data, .data, .data, .pinned], laidTests := true, laidLooks := .later }
def MergeMatchesReferenceCardSaid : Prop := Claim7.holds Tryz.pinned (.plain (OpenSpec.ofChange mergeMatchesReferenceSpec)) mergeMatchesReferenceCard

/-- THE TIED CARD OF 'feedvaultlaw15.MergeIsSemilattice'. -/
def mergeIsSemilatticeCard : Claim7 := { stood := { row := mergeIsSemilatticeRow, standIns := [], harness := (true, "72d915ea65909ccc7aa6754f163e0fd9742e8f384d51c925c8dce0485ea4dd84"), looks := false }, kinds := [], alts := [], laidByText := true, laidKinds := [.data, .data, .data, .data, .data, .pinned], laidTests := true, laidLooks := .later }
def MergeIsSemilatticeCardSaid : Prop := Claim7.holds Tryz.pinned (.plain (OpenSpec.ofChange mergeIsSemilatticeSpec)) mergeIsSemilatticeCard

/-- THE TIED CARD OF 'feedvaultlaw15.MergeKeepsLater'. -/
def mergeKeepsLaterCard : Claim7 := { stood := { row := mergeKeepsLaterRow, standIns := [], harness := (true, "72d915ea65909ccc7aa6754f163e0fd9742e8f384d51c925c8dce0485ea4dd84"), looks := false }, kinds := [], alts := [], laidByText := true, laidKinds := [.data, .data, .data, .data, .data, .pinned], laidTests := true, laidLooks := .later }
def MergeKeepsLaterCardSaid : Prop := Claim7.holds Tryz.pinned (.plain (OpenSpec.ofChange mergeKeepsLaterSpec)) mergeKeepsLaterCard

/-- THE TIED CARD OF 'feedvaultlaw15.MergeIncludes'. -/
def mergeIncludesCard : Claim7 := { stood := { row := mergeIncludesRow, standIns := [], harness := (true, "72d915ea65909ccc7aa6754f163e0fd9742e8f384d51c925c8dce0485ea4dd84"), looks := false }, kinds := [], alts := [], laidByText := true, laidKinds := [.data, .data, .data, .data, .data, .pinned], laidTests := true, laidLooks := .later }
def MergeIncludesCardSaid : Prop := Claim7.holds Tryz.pinned (.plain (OpenSpec.ofChange mergeIncludesSpec)) mergeIncludesCard

/-- THE TIED CARD OF 'feedvaultlaw15.MergeOrder'. -/
def mergeOrderCard : Claim7 := { stood := { row := mergeOrderRow, standIns := [], harness := (true, "72d915ea65909ccc7aa6754f163e0fd9742e8f384d51c925c8dce0485ea4dd84"), looks := false }, kinds := [], alts := [], laidByText := true, laidKinds := [.data, .data, .data, .data, .data, .pinned], laidTests := true, laidLooks := .later }
def MergeOrderCardSaid : Prop := Claim7.holds Tryz.pinned (.plain (OpenSpec.ofChange mergeOrderSpec)) mergeOrderCard

/-- THE TIED CARD OF 'feedvaultlaw15.MergeFinds'. -/
def mergeFindsCard : Claim7 := { stood := { row := mergeFindsRow, standIns := [], harness := (true, "72d915ea65909ccc7aa6754f163e0fd9742e8f384d51c925c8dce0485ea4dd84"), looks := false }, kinds := [], alts := [], laidByText := true, laidKinds := [.data, .data, .data, .data, .data, .pinned], laidTests := true, laidLooks := .later }
def MergeFindsCardSaid : Prop := Claim7.holds Tryz.pinned (.plain (OpenSpec.ofChange mergeFindsSpec)) mergeFindsCard

/-- THE SECOND FORM's CARD OF 'feedvaultlaw14.NormalizeEntryMatchesReference'. -/
def normalizeEntryMatchesReferenceUptoCard : Claim7 := { stood := { row := normalizeEntryMatchesReferenceUptoRow, standIns := [], harness := (true, "72d915ea65909ccc7aa6754f163e0fd9742e8f384d51c925c8dce0485ea4dd84"), looks := false }, kinds := [], alts := [], laidByText := true, laidKinds := [.data, .data, .data, .data, .data, .pinned], laidTests := true, laidLooks := .later }
def NormalizeEntryMatchesReferenceUptoCardSaid : Prop := Claim7.holds Tryz.pinned (.plain (OpenSpec.upto normalizeEntryMatchesReferenceSpec)) normalizeEntryMatchesReferenceUptoCard

/-- THE SECOND FORM's CARD OF 'feedvaultlaw14.NormalizeFeedMatchesReference'. -/
def normalizeFeedMatchesReferenceUptoCard : Claim7 := { stood := { row := normalizeFeedMatchesReferenceUptoRow, standIns := [], harness := (true, "72d915ea65909ccc7aa6754f163e0fd9742e8f384d51c925c8dce0485ea4dd84"), looks := false }, kinds := [], alts := [], laidByText := true, laidKinds := [.data, .data, .data, .data, .data, .pinned], laidTests := true, laidLooks := .later }
def NormalizeFeedMatchesReferenceUptoCardSaid : Prop := Claim7.holds Tryz.pinned (.plain (OpenSpec.upto normalizeFeedMatchesReferenceSpec)) normalizeFeedMatchesReferenceUptoCard

/-- THE SECOND FORM's CARD OF 'feedvaultlaw14.NormalizeArchiveMatchesReference'. -/
def normalizeArchiveMatchesReferenceUptoCard : Claim7 := { stood := { row := normalizeArchiveMatchesReferenceUptoRow, standIns := [], harness := (true, "72d915ea65909ccc7aa6754f163e0fd9742e8f384d51c925c8dce0485ea4dd84"), looks := false }, kinds := [], alts := [], laidByText := true, laidKinds := [.data, .data, .data, .data, .data, .pinned], laidTests := true, laidLooks := .later }
def NormalizeArchiveMatchesReferenceUptoCardSaid : Prop := Claim7.holds Tryz.pinned (.plain (OpenSpec.upto normalizeArchiveMatchesReferenceSpec)) normalizeArchiveMatchesReferenceUptoCard

/-- THE SECOND FORM's CARD OF 'feedvaultlaw14.NormalizeKeepsValid'. -/
def normalizeKeepsValidUptoCard : Claim7 := { stood := { row := normalizeKeepsValidUptoRow, standIns := [], harness := (true, "72d915ea65909ccc7aa6754f163e0fd9742e8f384d51c925c8dce0485ea4dd84"), looks := false }, kinds := [], alts := [], laidByText := true, laidKinds := [.data, .data, .data, .data, .data, .pinned], laidTests := true, laidLooks := .later }
def NormalizeKeepsValidUptoCardSaid : Prop := Claim7.holds Tryz.pinned (.plain (OpenSpec.upto normalizeKeepsValidSpec)) normalizeKeepsValidUptoCard

/-- THE SECOND FORM's CARD OF 'feedvaultlaw14.NormalizeSplits'. -/
def normalizeSplitsUptoCard : Claim7 := { stood := { row := normalizeSplitsUptoRow, standIns := [], harness := (true, "72d915ea65909ccc7aa6754f163e0fd9742e8f384d51c925c8dce0485ea4dd84"), looks := false }, kinds := [], alts := [], laidByText := true, laidKinds := [.data, .data, .data, .data, .data, .pinned], laidTests := true, laidLooks := .later }
def NormalizeSplitsUptoCardSaid : Prop := Claim7.holds Tryz.pinned (.plain (OpenSpec.upto normalizeSplitsSpec)) normalizeSplitsUptoCard

/-- THE SECOND FORM's CARD OF 'feedvaultlaw14.NormalizeIsolated'. -/
def normalizeIsolatedUptoCard : Claim7 := { stood := { row := normalizeIsolatedUptoRow, standIns := [], harness := (true, "72d915ea65909ccc7aa6754f163e0fd9742e8f384d51c925c8dce0485ea4dd84"), looks := false }, kinds := [], alts := [], laidByText := true, laidKinds := [.data, .data, .data, .data, .data, .pinned], laidTests := true, laidLooks := .later }
def NormalizeIsolatedUptoCardSaid : Prop := Claim7.holds Tryz.pinned (.plain (OpenSpec.upto normalizeIsolatedSpec)) normalizeIsolatedUptoCard

/-- THE SECOND FORM's CARD OF 'feedvaultlaw14.NormalizeIgnoresOrder'. -/
def normalizeIgnoresOrderUptoCard : Claim7 := { stood := { row := normalizeIgnoresOrderUptoRow, standIns := [], harness := (true, "72d915ea65909ccc7aa6754f163e0fd9742e8f384d51c925c8dce0485ea4dd84"), looks := false }, kinds := [], alts := [], laidByText := true, laidKinds := [.data, .data, .data, .data, .data, .pinned], laidTests := true, laidLooks := .later }
def NormalizeIgnoresOrderUptoCardSaid : Prop := Claim7.holds Tryz.pinned (.plain (OpenSpec.upto normalizeIgnoresOrderSpec)) normalizeIgnoresOrderUptoCard

/-- THE SECOND FORM's CARD OF 'feedvaultlaw15.MergeMatchesReference'. -/
def mergeMatchesReferenceUptoCard : Claim7 := { stood := { row := mergeMatchesReferenceUptoRow, standIns := [], harness := (true, "72d915ea65909ccc7aa6754f163e0fd9742e8f384d51c925c8dce0485ea4dd84"), looks := false }, kinds := [], alts := [], laidByText := true, laidKinds := [.data, .data, .data, .data, .data, .pinned], laidTests := true, laidLooks := .later }
def MergeMatchesReferenceUptoCardSaid : Prop := Claim7.holds Tryz.pinned (.plain (OpenSpec.upto mergeMatchesReferenceSpec)) mergeMatchesReferenceUptoCard

/-- THE SECOND FORM's CARD OF 'feedvaultlaw15.MergeIsSemilattice'. -/
def mergeIsSemilatticeUptoCard : Claim7 := { stood := { row := mergeIsSemilatticeUptoRow, standIns := [], harness := (true, "72d915ea65909ccc7aa6754f163e0fd9742e8f384d51c925c8dce0485ea4dd84"), looks := false }, kinds := [], alts := [], laidByText := true, laidKinds := [.data, .data, .data, .data, .data, .pinned], laidTests := true, laidLooks := .later }
def MergeIsSemilatticeUptoCardSaid : Prop := Claim7.holds Tryz.pinned (.plain (OpenSpec.upto mergeIsSemilatticeSpec)) mergeIsSemilatticeUptoCard

/-- THE SECOND FORM's CARD OF 'feedvaultlaw15.MergeKeepsLater'. -/
def mergeKeepsLaterUptoCard : Claim7 := { stood := { row := mergeKeepsLaterUptoRow, standIns := [], harness := (true, "72d915ea65909ccc7aa6754f163e0fd9742e8f384d51c925c8dce0485ea4dd84"), looks := false }, kinds := [], alts := [], laidByText := true, laidKinds := [.data, .data, .data, .data, .data, .pinned], laidTests := true, laidLooks := .later }
def MergeKeepsLaterUptoCardSaid : Prop := Claim7.holds Tryz.pinned (.plain (OpenSpec.upto mergeKeepsLaterSpec)) mergeKeepsLaterUptoCard

/-- THE SECOND FORM's CARD OF 'feedvaultlaw15.MergeIncludes'. -/
def mergeIncludesUptoCard : Claim7 := { stood := { row := mergeIncludesUptoRow, standIns := [], harness := (true, "72d915ea65909ccc7aa6754f163e0fd9742e8f384d51c925c8dce0485ea4dd84"), looks := false }, kinds := [], alts := [], laidByText := true, laidKinds := [.data, .data, .data, .data, .data, .pinned], laidTests := true, laidLooks := .later }
def MergeIncludesUptoCardSaid : Prop := Claim7.holds Tryz.pinned (.plain (OpenSpec.upto mergeIncludesSpec)) mergeIncludesUptoCard

/-- THE SECOND FORM's CARD OF 'feedvaultlaw15.MergeOrder'. -/
def mergeOrderUptoCard : Claim7 := { stood := { row := mergeOrderUptoRow, standIns := [], harness := (true, "72d915ea65909ccc7aa6754f163e0fd9742e8f384d51c925c8dce0485ea4dd84"), looks := false }, kinds := [], alts := [], laidByText := true, laidKinds := [.data, .data, .data, .data, .data, .pinned], laidTests := true, laidLooks := .later }
def MergeOrderUptoCardSaid : Prop := Claim7.holds Tryz.pinned (.plain (OpenSpec.upto mergeOrderSpec)) mergeOrderUptoCard

/-- THE SECOND FORM's CARD OF 'feedvaultlaw15.MergeFinds'. -/
def mergeFindsUptoCard : Claim7 := { stood := { row := mergeFindsUptoRow, standIns := [], harness := (true, "72d915ea65909ccc7aa6754f163e0fd9742e8f384d51c925c8dce0485ea4dd84"), looks := false }, kinds := [], alts := [], laidByText := true, laidKinds := [.data, .data, .data, .data, .data, .pinned], laidTests := true, laidLooks := .later }
def MergeFindsUptoCardSaid : Prop := Claim7.holds Tryz.pinned (.plain (OpenSpec.upto mergeFindsSpec)) mergeFindsUptoCard
end Rows
end Go.Proofs.YtgecijhgonfldaaGreatDoor
