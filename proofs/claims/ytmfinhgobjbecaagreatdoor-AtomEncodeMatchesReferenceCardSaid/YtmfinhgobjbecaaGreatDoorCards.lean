/-
  DERIVED. GIVEN WITH THE SEED: THE CARDS: each row of YtmfinhgobjbecaaGreatDoorRows.lean that lists a variable, with what it lists TIED to the program's text (the seventh form; the later family's looks); each row that meets fmt, with fmt's text TOLD by the authors' own Lean function (tested against real Go, not proved from fmt's source: count such statements apart). THE CARD IS WHAT COUNTS. Prove the row's statement (the work); the ties are given (YtmfinhgobjbecaaGreatDoorTie.lean); close each card by the builder's one call (the guide's Derived/Test/ToyasCard.lean, 'card_holds'). Laid BY PROGRAM, IN A SANDBOX (cutbox-door.mjs). By AI agents, Wed Nov 11 2026. No macro, syntax, notation, axiom, sorry.
-/
import Derived.Test.YtmfinhgobjbecaaGreatDoorRows
import GoSem.ClaimSeven
namespace Go.Proofs.YtmfinhgobjbecaaGreatDoor
namespace Rows

/-- THE TIED CARD OF 'feedvaultlaw17.AtomMatchesReference'. -/
def atomMatchesReferenceCard : Claim7 := { stood := { row := atomMatchesReferenceRow, standIns := [], harness := (true, "e07cf758d904cbc08ea01038dd117f5c210028e8b9bc04136c4d77d77a62be97"), looks := false }, kinds := [], alts := [], laidByText := true, laidKinds := [.data, .data, .data, .data, .data, .data, .data, .pinned], laidTests := true, laidLooks := .later }
def AtomMatchesReferenceCardSaid : Prop := Claim7.holds Tryz.pinned (.plain (OpenSpec.ofChange atomMatchesReferenceSpec)) atomMatchesReferenceCard

/-- THE TIED CARD OF 'feedvaultlaw17.AtomEncodeMatchesReference'. -/
def atomEncodeMatchesReferenceCard : Claim7 := { stood := { row := atomEncodeMatchesReferenceRow, standIns := [], harness := (true, "e07cf758d904cbc08ea01038dd117f5c210028e8b9bc04136c4d77d77a62be97"), looks := false }, kinds := [], alts := [], laidByText := true, laidKinds := [.data, .data, .data, .data, .data, .data, .data, .pinned], laidTests := true, laidLooks := .later }
def AtomEncodeMatchesReferenceCardSaid : Prop := Claim7.holds Tryz.pinned (.plain (OpenSpec.ofChange atomEncodeMatchesReferenceSpec)) atomEncodeMatchesReferenceCard

/-- THE TIED CARD OF 'feedvaultlaw17.AtomRoundTrip'. -/
def atomRoundTripCard : Claim7 := { stood := { row := atomRoundTripRow, standIns := [], harness := (true, "e07cf758d904cbc08ea01038dd117f5c210028e8b9bc04136c4d77d77a62be97"), looks := false }, kinds := [], alts := [], laidByText := true, laidKinds := [.data, .data, .data, .data, .data, .data, .data, .pinned], laidTests := true, laidLooks := .later }
def AtomRoundTripCardSaid : Prop := Claim7.holds Tryz.pinned (.plain (OpenSpec.ofChange atomRoundTripSpec)) atomRoundTripCard

/-- THE TIED CARD OF 'feedvaultlaw17.AtomIsInjective'. -/
def atomIsInjectiveCard : Claim7 := { stood := { row := atomIsInjectiveRow, standIns := [], harness := (true, "e07cf758d904cbc08ea01038dd117f5c210028e8b9bc04136c4d77d77a62be97"), looks := false }, kinds := [], alts := [], laidByText := true, laidKinds := [.data, .data, .data, .data, .data, .data, .data, .pinned], laidTests := true, laidLooks := .later }
def AtomIsInjectiveCardSaid : Prop := Claim7.holds Tryz.pinned (.plain (OpenSpec.ofChange atomIsInjectiveSpec)) atomIsInjectiveCard

/-- THE TIED CARD OF 'feedvaultlaw17.AtomIsStable'. -/
def atomIsStableCard : Claim7 := { stood := { row := atomIsStableRow, standIns := [], harness := (true, "e07cf758d904cbc08ea01038dd117f5c210028e8b9bc04136c4d77d77a62be97"), looks := false }, kinds := [], alts := [], laidByText := true, laidKinds := [.data, .data, .data, .data, .data, .data, .data, .pinned], laidTests := true, laidLooks := .later }
def AtomIsStableCardSaid : Prop := Claim7.holds Tryz.pinned (.plain (OpenSpec.ofChange atomIsStableSpec)) atomIsStableCard

/-- THE TIED CARD OF 'feedvaultlaw17.AtomIgnoresOthers'. -/
def atomIgnoresOthersCard : Claim7 := { stood := { row := atomIgnoresOthersRow, standIns := [], harness := (true, "e07cf758d904cbc08ea01038dd117f5c210028e8b9bc04136c4d77d77a62be97"), looks := false }, kinds := [], alts := [], laidByText := true, laidKinds := [.data, .data, .data, .data, .data, .data, .data, .pinned], laidTests := true, laidLooks := .later }
def AtomIgnoresOthersCardSaid : Prop := Claim7.holds Tryz.pinned (.plain (OpenSpec.ofChange atomIgnoresOthersSpec)) atomIgnoresOthersCard

/-- THE SECOND FORM's CARD OF 'feedvaultlaw17.AtomMatchesReference'. -/
def atomMatchesReferenceUptoCard : Claim7 := { stood := { row := atomMatchesReferenceUptoRow, standIns := [], harness := (true, "e07cf758d904cbc08ea01038dd117f5c210028e8b9bc04136c4d77d77a62be97"), looks := false }, kinds := [], alts := [], laidByText := true, laidKinds := [.data, .data, .data, .data, .data, .data, .data, .pinned], laidTests := true, laidLooks := .later }
def AtomMatchesReferenceUptoCardSaid : Prop := Claim7.holds Tryz.pinned (.plain (OpenSpec.upto atomMatchesReferenceSpec)) atomMatchesReferenceUptoCard

/-- THE SECOND FORM's CARD OF 'feedvaultlaw17.AtomEncodeMatchesReference'. -/
def atomEncodeMatchesReferenceUptoCard : Claim7 := { stood := { row := atomEncodeMatchesReferenceUptoRow, standIns := [], harness := (true, "e07cf758d904cbc08ea01038dd117f5c210028e8b9bc04136c4d77d77a62be97"), looks := false }, kinds := [], alts := [], laidByText := true, laidKinds := [.data, .data, .data, .data, .data, .data, .data, .pinned], laidTests := true, laidLooks := .later }
def AtomEncodeMatchesReferenceUptoCardSaid : Prop := Claim7.holds Tryz.pinned (.plain (OpenSpec.upto atomEncodeMatchesReferenceSpec)) atomEncodeMatchesReferenceUptoCard

/-- THE SECOND FORM's CARD OF 'feedvaultlaw17.AtomRoundTrip'. -/
def atomRoundTripUptoCard : Claim7 := { stood := { row := atomRoundTripUptoRow, standIns := [], harness := (true, "e07cf758d904cbc08ea01038dd117f5c210028e8b9bc04136c4d77d77a62be97"), looks := false }, kinds := [], alts := [], laidByText := true, laidKinds := [.data, .data, .data, .data, .data, .data, .data, .pinned], laidTests := true, laidLooks := .later }
def AtomRoundTripUptoCardSaid : Prop := Claim7.holds Tryz.pinned (.plain (OpenSpec.upto atomRoundTripSpec)) atomRoundTripUptoCard

/-- THE SECOND FORM's CARD OF 'feedvaultlaw17.AtomIsInjective'. -/
def atomIsInjectiveUptoCard : Claim7 := { stood := { row := atomIsInjectiveUptoRow, standIns := [], harness := (true, "e07cf758d904cbc08ea01038dd117f5c210028e8b9bc04136c4d77d77a62be97"), looks := false }, kinds := [], alts := [], laidByText := true, laidKinds := [.data, .data, .data, .data, .data, .data, .data, .pinned], laidTests := true, laidLooks := .later }
def AtomIsInjectiveUptoCardSaid : Prop := Claim7.holds Tryz.pinned (.plain (OpenSpec.upto atomIsInjectiveSpec)) atomIsInjectiveUptoCard

/-- THE SECOND FORM's CARD OF 'feedvaultlaw17.AtomIsStable'. -/
def atomIsStableUptoCard : Claim7 := { stood := { row := atomIsStableUptoRow, standIns := [], harness := (true, "e07cf758d904cbc08ea01038dd117f5c210028e8b9bc04136c4d77d77a62be97"), looks := false }, kinds := [], alts := [], laidByText := true, laidKinds := [.data, .data, .data, .data, .data, .data, .data, .pinned], laidTests := true, laidLooks := .later }
def AtomIsStableUptoCardSaid : Prop := Claim7.holds Tryz.pinned (.plain (OpenSpec.upto atomIsStableSpec)) atomIsStableUptoCard

/-- THE SECOND FORM's CARD OF 'feedvaultlaw17.AtomIgnoresOthers'. -/
def atomIgnoresOthersUptoCard : Claim7 := { stood := { row := atomIgnoresOthersUptoRow, standIns := [], harness := (true, "e07cf758d904cbc08ea01038dd117f5c210028e8b9bc04136c4d77d77a62be97"), looks := false }, kinds := [], alts := [], laidByText := true, laidKinds := [.data, .data, .data, .data, .data, .data, .data, .pinned], laidTests := true, laidLooks := .later }
def AtomIgnoresOthersUptoCardSaid : Prop := Claim7.holds Tryz.pinned (.plain (OpenSpec.upto atomIgnoresOthersSpec)) atomIgnoresOthersUptoCard
end Rows
end Go.Proofs.YtmfinhgobjbecaaGreatDoor
