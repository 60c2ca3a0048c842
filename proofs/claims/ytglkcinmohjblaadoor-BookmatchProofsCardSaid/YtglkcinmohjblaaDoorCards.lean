/-
  DERIVED. GIVEN WITH THE SEED: THE CARDS: each row of YtglkcinmohjblaaDoorRows.lean that lists a variable, with what it lists TIED to the program's text (the seventh form; the later family's looks); each row that meets fmt, with fmt's text TOLD by the authors' own Lean function (tested against real Go, not proved from fmt's source: count such statements apart). THE CARD IS WHAT COUNTS. Prove the row's statement (the work); the ties are given (YtglkcinmohjblaaDoorTie.lean); close each card by the builder's one call (the guide's Derived/Test/ToyasCard.lean, 'card_holds'). Laid BY PROGRAM, IN A SANDBOX (cutbox-door.mjs). By AI agents, Wed Nov 11 2026. No macro, syntax, notation, axiom, sorry.
-/
import Derived.Test.YtglkcinmohjblaaDoorRows
import GoSem.ClaimSeven
namespace Go.Proofs.YtglkcinmohjblaaDoor
namespace Rows

/-- THE TIED CARD OF 'gangsawlaw36.BookmatchBest'. -/
def bookmatchBestCard : Claim7 := { stood := { row := bookmatchBestRow, standIns := [], harness := (true, "0ab27042aa2702dc31f88aa2201dc85c04f10da722fb56ba93535a3aa0a4b39e"), looks := false }, kinds := [], alts := [], laidByText := true, laidKinds := [.data], laidTests := true, laidLooks := .later }
def BookmatchBestCardSaid : Prop := Claim7.holds Tryd.pinned (.plain (OpenSpec.ofChange bookmatchBestSpec)) bookmatchBestCard

/-- THE TIED CARD OF 'gangsawlaw36.BookmatchWhole'. -/
def bookmatchWholeCard : Claim7 := { stood := { row := bookmatchWholeRow, standIns := [], harness := (true, "0ab27042aa2702dc31f88aa2201dc85c04f10da722fb56ba93535a3aa0a4b39e"), looks := false }, kinds := [], alts := [], laidByText := true, laidKinds := [.data], laidTests := true, laidLooks := .later }
def BookmatchWholeCardSaid : Prop := Claim7.holds Tryd.pinned (.plain (OpenSpec.ofChange bookmatchWholeSpec)) bookmatchWholeCard

/-- THE TIED CARD OF 'gangsawlaw36.BookmatchRows'. -/
def bookmatchRowsCard : Claim7 := { stood := { row := bookmatchRowsRow, standIns := [], harness := (true, "0ab27042aa2702dc31f88aa2201dc85c04f10da722fb56ba93535a3aa0a4b39e"), looks := false }, kinds := [], alts := [], laidByText := true, laidKinds := [.data], laidTests := true, laidLooks := .later }
def BookmatchRowsCardSaid : Prop := Claim7.holds Tryd.pinned (.plain (OpenSpec.ofChange bookmatchRowsSpec)) bookmatchRowsCard

/-- THE TIED CARD OF 'gangsawlaw36.BookmatchProofs'. -/
def bookmatchProofsCard : Claim7 := { stood := { row := bookmatchProofsRow, standIns := [], harness := (true, "0ab27042aa2702dc31f88aa2201dc85c04f10da722fb56ba93535a3aa0a4b39e"), looks := false }, kinds := [], alts := [], laidByText := true, laidKinds := [.data], laidTests := true, laidLooks := .later }
def BookmatchProofsCardSaid : Prop := Claim7.holds Tryd.pinned (.plain (OpenSpec.ofChange bookmatchProofsSpec)) bookmatchProofsCard

/-- THE TIED CARD OF 'gangsawlaw36.BookmatchRuns'. -/
def bookmatchRunsCard : Claim7 := { stood := { row := bookmatchRunsRow, standIns := [], harness := (true, "0ab27042aa2702dc31f88aa2201dc85c04f10da722fb56ba93535a3aa0a4b39e"), looks := false }, kinds := [], alts := [], laidByText := true, laidKinds := [.data], laidTests := true, laidLooks := .later }
def BookmatchRunsCardSaid : Prop := Claim7.holds Tryd.pinned (.plain (OpenSpec.ofChange bookmatchRunsSpec)) bookmatchRunsCard

/-- THE TIED CARD OF 'gangsawlaw36.BookmatchReversed'. -/
def bookmatchReversedCard : Claim7 := { stood := { row := bookmatchReversedRow, standIns := [], harness := (true, "0ab27042aa2702dc31f88aa2201dc85c04f10da722fb56ba93535a3aa0a4b39e"), looks := false }, kinds := [], alts := [], laidByText := true, laidKinds := [.data], laidTests := true, laidLooks := .later }
def BookmatchReversedCardSaid : Prop := Claim7.holds Tryd.pinned (.plain (OpenSpec.ofChange bookmatchReversedSpec)) bookmatchReversedCard

/-- THE TIED CARD OF 'gangsawlaw36.BookmatchCosts'. -/
def bookmatchCostsCard : Claim7 := { stood := { row := bookmatchCostsRow, standIns := [], harness := (true, "0ab27042aa2702dc31f88aa2201dc85c04f10da722fb56ba93535a3aa0a4b39e"), looks := false }, kinds := [], alts := [], laidByText := true, laidKinds := [.data], laidTests := true, laidLooks := .later }
def BookmatchCostsCardSaid : Prop := Claim7.holds Tryd.pinned (.plain (OpenSpec.ofChange bookmatchCostsSpec)) bookmatchCostsCard

/-- THE TIED CARD OF 'gangsawlaw36.BookmatchLeast'. -/
def bookmatchLeastCard : Claim7 := { stood := { row := bookmatchLeastRow, standIns := [], harness := (true, "0ab27042aa2702dc31f88aa2201dc85c04f10da722fb56ba93535a3aa0a4b39e"), looks := false }, kinds := [], alts := [], laidByText := true, laidKinds := [.data], laidTests := true, laidLooks := .later }
def BookmatchLeastCardSaid : Prop := Claim7.holds Tryd.pinned (.plain (OpenSpec.ofChange bookmatchLeastSpec)) bookmatchLeastCard

/-- THE SECOND FORM's CARD OF 'gangsawlaw36.BookmatchBest'. -/
def bookmatchBestUptoCard : Claim7 := { stood := { row := bookmatchBestUptoRow, standIns := [], harness := (true, "0ab27042aa2702dc31f88aa2201dc85c04f10da722fb56ba93535a3aa0a4b39e"), looks := false }, kinds := [], alts := [], laidByText := true, laidKinds := [.data], laidTests := true, laidLooks := .later }
def BookmatchBestUptoCardSaid : Prop := Claim7.holds Tryd.pinned (.plain (OpenSpec.upto bookmatchBestSpec)) bookmatchBestUptoCard

/-- THE SECOND FORM's CARD OF 'gangsawlaw36.BookmatchWhole'. -/
def bookmatchWholeUptoCard : Claim7 := { stood := { row := bookmatchWholeUptoRow, standIns := [], harness := (true, "0ab27042aa2702dc31f88aa2201dc85c04f10da722fb56ba93535a3aa0a4b39e"), looks := false }, kinds := [], alts := [], laidByText := true, laidKinds := [.data], laidTests := true, laidLooks := .later }
def BookmatchWholeUptoCardSaid : Prop := Claim7.holds Tryd.pinned (.plain (OpenSpec.upto bookmatchWholeSpec)) bookmatchWholeUptoCard

/-- THE SECOND FORM's CARD OF 'gangsawlaw36.BookmatchRows'. -/
def bookmatchRowsUptoCard : Claim7 := { stood := { row := bookmatchRowsUptoRow, standIns := [], harness := (true, "0ab27042aa2702dc31f88aa2201dc85c04f10da722fb56ba93535a3aa0a4b39e"), looks := false }, kinds := [], alts := [], laidByText := true, laidKinds := [.data], laidTests := true, laidLooks := .later }
def BookmatchRowsUptoCardSaid : Prop := Claim7.holds Tryd.pinned (.plain (OpenSpec.upto bookmatchRowsSpec)) bookmatchRowsUptoCard

/-- THE SECOND FORM's CARD OF 'gangsawlaw36.BookmatchProofs'. -/
def bookmatchProofsUptoCard : Claim7 := { stood := { row := bookmatchProofsUptoRow, standIns := [], harness := (true, "0ab27042aa2702dc31f88aa2201dc85c04f10da722fb56ba93535a3aa0a4b39e"), looks := false }, kinds := [], alts := [], laidByText := true, laidKinds := [.data], laidTests := true, laidLooks := .later }
def BookmatchProofsUptoCardSaid : Prop := Claim7.holds Tryd.pinned (.plain (OpenSpec.upto bookmatchProofsSpec)) bookmatchProofsUptoCard

/-- THE SECOND FORM's CARD OF 'gangsawlaw36.BookmatchRuns'. -/
def bookmatchRunsUptoCard : Claim7 := { stood := { row := bookmatchRunsUptoRow, standIns := [], harness := (true, "0ab27042aa2702dc31f88aa2201dc85c04f10da722fb56ba93535a3aa0a4b39e"), looks := false }, kinds := [], alts := [], laidByText := true, laidKinds := [.data], laidTests := true, laidLooks := .later }
def BookmatchRunsUptoCardSaid : Prop := Claim7.holds Tryd.pinned (.plain (OpenSpec.upto bookmatchRunsSpec)) bookmatchRunsUptoCard

/-- THE SECOND FORM's CARD OF 'gangsawlaw36.BookmatchReversed'. -/
def bookmatchReversedUptoCard : Claim7 := { stood := { row := bookmatchReversedUptoRow, standIns := [], harness := (true, "0ab27042aa2702dc31f88aa2201dc85c04f10da722fb56ba93535a3aa0a4b39e"), looks := false }, kinds := [], alts := [], laidByText := true, laidKinds := [.data], laidTests := true, laidLooks := .later }
def BookmatchReversedUptoCardSaid : Prop := Claim7.holds Tryd.pinned (.plain (OpenSpec.upto bookmatchReversedSpec)) bookmatchReversedUptoCard

/-- THE SECOND FORM's CARD OF 'gangsawlaw36.BookmatchCosts'. -/
def bookmatchCostsUptoCard : Claim7 := { stood := { row := bookmatchCostsUptoRow, standIns := [], harness := (true, "0ab27042aa2702dc31f88aa2201dc85c04f10da722fb56ba93535a3aa0a4b39e"), looks := false }, kinds := [], alts := [], laidByText := true, laidKinds := [.data], laidTests := true, laidLooks := .later }
def BookmatchCostsUptoCardSaid : Prop := Claim7.holds Tryd.pinned (.plain (OpenSpec.upto bookmatchCostsSpec)) bookmatchCostsUptoCard

/-- THE SECOND FORM's CARD OF 'gangsawlaw36.BookmatchLeast'. -/
def bookmatchLeastUptoCard : Claim7 := { stood := { row := bookmatchLeastUptoRow, standIns := [], harness := (true, "0ab27042aa2702dc31f88aa2201dc85c04f10da722fb56ba93535a3aa0a4b39e"), looks := false }, kinds := [], alts := [], laidByText := true, laidKinds := [.data], laidTests := true, laidLooks := .later }
def BookmatchLeastUptoCardSaid : Prop := Claim7.holds Tryd.pinned (.plain (OpenSpec.upto bookmatchLeastSpec)) bookmatchLeastUptoCard
end Rows
end Go.Proofs.YtglkcinmohjblaaDoor
