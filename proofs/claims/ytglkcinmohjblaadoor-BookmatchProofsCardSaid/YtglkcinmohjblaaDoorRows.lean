/-
  NARROWER THAN 'FOR EVERY INPUT', by the rows' own cells (each row's printed sentence says how): BookmatchBest: laid · BookmatchWhole: laid · BookmatchRows: laid · BookmatchProofs: laid · BookmatchRuns: laid · BookmatchReversed: laid · BookmatchCosts: laid · BookmatchLeast: laid.
  DERIVED. THE GIVEN ROWS OF THIS SEAT. 8 by the template 'for every input the law returns true; each argument reads behind the call as it read before'; 0 by the template 'total and deterministic' (their statements: YtglkcinmohjblaaDoorTotals.lean).
  GIVEN WITH THE SEED: the statements are not yours to turn. If you find one false, say at which input.
  Laid BY PROGRAM, IN A SANDBOX (cutbox-rows.mjs): the forced cells as the released guide's own fill.sh prints them over the translation f6a6e43a1dd18710… (all of the seat's roots in one cut). By AI agents, Wed Nov 11 2026. No macro, syntax, notation, axiom, sorry.
-/
import Derived.Test.YtglkcinmohjblaaDoorChecked
import GoSem.Claim
import GoSem.ClaimJoined
import GoSem.ClaimMapViews
import Derived.JoinedTies
import Derived.KernelRfl
namespace Go.Proofs.YtglkcinmohjblaaDoor
/- THE CELL 'sum', in the pinned program and in every row, IS THE sha256 OF THE DUMP (.gsa) THAT YtglkcinmohjblaaDoorProg.lean LOADS. Nothing in Lean hashes anything: it is a label: what it is worth is what the hold of that sum in a sandbox is worth. -/
noncomputable def Tryd.pinned : Pinned := { name := "ytglkcinmohjblaadoor", sum := "f6a6e43a1dd187109eddceb01900dac1c82879279ba7536323d43deb5648a66f", checked := Tryd.checked }
namespace Rows
def none {H : Type} : Left H := { results := [], args := [] }

/- WHAT THE LISTED PACKAGE-LEVEL VARIABLES READ AS WHEN THE CALL BEGINS. Each datum BY PROGRAM (the guide's laid-datum.mjs) off the statement by which the dump's own 'gosem.cut.vars' lays the variable. In a bare row this is a premise. The card (YtglkcinmohjblaaDoorCards.lean) ties it to the program's text. -/
def laid_gangsaw_bookmatch_ways {H : Type} : DataW H := .agg [.lit (.bool false), .lit (.bool true)]

/-- 'gangsawlaw36.BookmatchBest': WHATEVER THE INPUT: true; the input reads as it did. -/
def bookmatchBestSpec : ChangeSpec := { name := "bookmatchBest", fn := fun _ => fun
  | [d1, d2] => { results := [.lit (.bool true)], args := [d1, d2] }
  | _ => none }
def bookmatchBestRow : OpenClaim := { program := "ytglkcinmohjblaadoor", sum := "f6a6e43a1dd187109eddceb01900dac1c82879279ba7536323d43deb5648a66f", func := "gangsaw/gangsawlaw36.BookmatchBest", spec := "bookmatchBest", unfollowed := true, recurses := true, named := ["gangsaw/bookmatch.ways"], apart := false, laid := [("gangsaw/bookmatch.ways", laid_gangsaw_bookmatch_ways)] }
def BookmatchBestSaid : Prop := bookmatchBestRow.holds Tryd.pinned (OpenSpec.ofChange bookmatchBestSpec)

/-- ITS FALSE NEIGHBOUR: 'it returns false'. Refute it at one input. -/
def bookmatchBestWrong : ChangeSpec := { name := "bookmatchBest", fn := fun _ => fun
  | [d1, d2] => { results := [.lit (.bool false)], args := [d1, d2] }
  | _ => none }
def BookmatchBestWrongFalsely : Prop := bookmatchBestRow.holds Tryd.pinned (OpenSpec.ofChange bookmatchBestWrong)

/-- 'gangsawlaw36.BookmatchWhole': WHATEVER THE INPUT: true; the input reads as it did. -/
def bookmatchWholeSpec : ChangeSpec := { name := "bookmatchWhole", fn := fun _ => fun
  | [d1, d2] => { results := [.lit (.bool true)], args := [d1, d2] }
  | _ => none }
def bookmatchWholeRow : OpenClaim := { program := "ytglkcinmohjblaadoor", sum := "f6a6e43a1dd187109eddceb01900dac1c82879279ba7536323d43deb5648a66f", func := "gangsaw/gangsawlaw36.BookmatchWhole", spec := "bookmatchWhole", unfollowed := true, recurses := true, named := ["gangsaw/bookmatch.ways"], apart := false, laid := [("gangsaw/bookmatch.ways", laid_gangsaw_bookmatch_ways)] }
def BookmatchWholeSaid : Prop := bookmatchWholeRow.holds Tryd.pinned (OpenSpec.ofChange bookmatchWholeSpec)

/-- ITS FALSE NEIGHBOUR: 'it returns false'. Refute it at one input. -/
def bookmatchWholeWrong : ChangeSpec := { name := "bookmatchWhole", fn := fun _ => fun
  | [d1, d2] => { results := [.lit (.bool false)], args := [d1, d2] }
  | _ => none }
def BookmatchWholeWrongFalsely : Prop := bookmatchWholeRow.holds Tryd.pinned (OpenSpec.ofChange bookmatchWholeWrong)

/-- 'gangsawlaw36.BookmatchRows': WHATEVER THE INPUT: true; the input reads as it did. -/
def bookmatchRowsSpec : ChangeSpec := { name := "bookmatchRows", fn := fun _ => fun
  | [d] => { results := [.lit (.bool true)], args := [d] }
  | _ => none }
def bookmatchRowsRow : OpenClaim := { program := "ytglkcinmohjblaadoor", sum := "f6a6e43a1dd187109eddceb01900dac1c82879279ba7536323d43deb5648a66f", func := "gangsaw/gangsawlaw36.BookmatchRows", spec := "bookmatchRows", unfollowed := true, recurses := true, named := ["gangsaw/bookmatch.ways"], apart := false, laid := [("gangsaw/bookmatch.ways", laid_gangsaw_bookmatch_ways)] }
def BookmatchRowsSaid : Prop := bookmatchRowsRow.holds Tryd.pinned (OpenSpec.ofChange bookmatchRowsSpec)

/-- ITS FALSE NEIGHBOUR: 'it returns false'. Refute it at one input. -/
def bookmatchRowsWrong : ChangeSpec := { name := "bookmatchRows", fn := fun _ => fun
  | [d] => { results := [.lit (.bool false)], args := [d] }
  | _ => none }
def BookmatchRowsWrongFalsely : Prop := bookmatchRowsRow.holds Tryd.pinned (OpenSpec.ofChange bookmatchRowsWrong)

/-- 'gangsawlaw36.BookmatchProofs': WHATEVER THE INPUT: true; the input reads as it did. -/
def bookmatchProofsSpec : ChangeSpec := { name := "bookmatchProofs", fn := fun _ => fun
  | [d1, d2, d3] => { results := [.lit (.bool true)], args := [d1, d2, d3] }
  | _ => none }
def bookmatchProofsRow : OpenClaim := { program := "ytglkcinmohjblaadoor", sum := "f6a6e43a1dd187109eddceb01900dac1c82879279ba7536323d43deb5648a66f", func := "gangsaw/gangsawlaw36.BookmatchProofs", spec := "bookmatchProofs", unfollowed := true, recurses := true, named := ["gangsaw/bookmatch.ways"], apart := false, laid := [("gangsaw/bookmatch.ways", laid_gangsaw_bookmatch_ways)] }
def BookmatchProofsSaid : Prop := bookmatchProofsRow.holds Tryd.pinned (OpenSpec.ofChange bookmatchProofsSpec)

/-- ITS FALSE NEIGHBOUR: 'it returns false'. Refute it at one input. -/
def bookmatchProofsWrong : ChangeSpec := { name := "bookmatchProofs", fn := fun _ => fun
  | [d1, d2, d3] => { results := [.lit (.bool false)], args := [d1, d2, d3] }
  | _ => none }
def BookmatchProofsWrongFalsely : Prop := bookmatchProofsRow.holds Tryd.pinned (OpenSpec.ofChange bookmatchProofsWrong)

/-- 'gangsawlaw36.BookmatchRuns': WHATEVER THE INPUT: true; the input reads as it did. -/
def bookmatchRunsSpec : ChangeSpec := { name := "bookmatchRuns", fn := fun _ => fun
  | [d1, d2, d3] => { results := [.lit (.bool true)], args := [d1, d2, d3] }
  | _ => none }
def bookmatchRunsRow : OpenClaim := { program := "ytglkcinmohjblaadoor", sum := "f6a6e43a1dd187109eddceb01900dac1c82879279ba7536323d43deb5648a66f", func := "gangsaw/gangsawlaw36.BookmatchRuns", spec := "bookmatchRuns", unfollowed := true, recurses := true, named := ["gangsaw/bookmatch.ways"], apart := false, laid := [("gangsaw/bookmatch.ways", laid_gangsaw_bookmatch_ways)] }
def BookmatchRunsSaid : Prop := bookmatchRunsRow.holds Tryd.pinned (OpenSpec.ofChange bookmatchRunsSpec)

/-- ITS FALSE NEIGHBOUR: 'it returns false'. Refute it at one input. -/
def bookmatchRunsWrong : ChangeSpec := { name := "bookmatchRuns", fn := fun _ => fun
  | [d1, d2, d3] => { results := [.lit (.bool false)], args := [d1, d2, d3] }
  | _ => none }
def BookmatchRunsWrongFalsely : Prop := bookmatchRunsRow.holds Tryd.pinned (OpenSpec.ofChange bookmatchRunsWrong)

/-- 'gangsawlaw36.BookmatchReversed': WHATEVER THE INPUT: true; the input reads as it did. -/
def bookmatchReversedSpec : ChangeSpec := { name := "bookmatchReversed", fn := fun _ => fun
  | [d] => { results := [.lit (.bool true)], args := [d] }
  | _ => none }
def bookmatchReversedRow : OpenClaim := { program := "ytglkcinmohjblaadoor", sum := "f6a6e43a1dd187109eddceb01900dac1c82879279ba7536323d43deb5648a66f", func := "gangsaw/gangsawlaw36.BookmatchReversed", spec := "bookmatchReversed", unfollowed := true, recurses := true, named := ["gangsaw/bookmatch.ways"], apart := false, laid := [("gangsaw/bookmatch.ways", laid_gangsaw_bookmatch_ways)] }
def BookmatchReversedSaid : Prop := bookmatchReversedRow.holds Tryd.pinned (OpenSpec.ofChange bookmatchReversedSpec)

/-- ITS FALSE NEIGHBOUR: 'it returns false'. Refute it at one input. -/
def bookmatchReversedWrong : ChangeSpec := { name := "bookmatchReversed", fn := fun _ => fun
  | [d] => { results := [.lit (.bool false)], args := [d] }
  | _ => none }
def BookmatchReversedWrongFalsely : Prop := bookmatchReversedRow.holds Tryd.pinned (OpenSpec.ofChange bookmatchReversedWrong)

/-- 'gangsawlaw36.BookmatchCosts': WHATEVER THE INPUT: true; the input reads as it did. -/
def bookmatchCostsSpec : ChangeSpec := { name := "bookmatchCosts", fn := fun _ => fun
  | [d1, d2] => { results := [.lit (.bool true)], args := [d1, d2] }
  | _ => none }
def bookmatchCostsRow : OpenClaim := { program := "ytglkcinmohjblaadoor", sum := "f6a6e43a1dd187109eddceb01900dac1c82879279ba7536323d43deb5648a66f", func := "gangsaw/gangsawlaw36.BookmatchCosts", spec := "bookmatchCosts", unfollowed := true, recurses := true, named := ["gangsaw/bookmatch.ways"], apart := false, laid := [("gangsaw/bookmatch.ways", laid_gangsaw_bookmatch_ways)] }
def BookmatchCostsSaid : Prop := bookmatchCostsRow.holds Tryd.pinned (OpenSpec.ofChange bookmatchCostsSpec)

/-- ITS FALSE NEIGHBOUR: 'it returns false'. Refute it at one input. -/
def bookmatchCostsWrong : ChangeSpec := { name := "bookmatchCosts", fn := fun _ => fun
  | [d1, d2] => { results := [.lit (.bool false)], args := [d1, d2] }
  | _ => none }
def BookmatchCostsWrongFalsely : Prop := bookmatchCostsRow.holds Tryd.pinned (OpenSpec.ofChange bookmatchCostsWrong)

/-- 'gangsawlaw36.BookmatchLeast': WHATEVER THE INPUT: true; the input reads as it did. -/
def bookmatchLeastSpec : ChangeSpec := { name := "bookmatchLeast", fn := fun _ => fun
  | [d1, d2, d3, d4] => { results := [.lit (.bool true)], args := [d1, d2, d3, d4] }
  | _ => none }
def bookmatchLeastRow : OpenClaim := { program := "ytglkcinmohjblaadoor", sum := "f6a6e43a1dd187109eddceb01900dac1c82879279ba7536323d43deb5648a66f", func := "gangsaw/gangsawlaw36.BookmatchLeast", spec := "bookmatchLeast", unfollowed := true, recurses := true, named := ["gangsaw/bookmatch.ways"], apart := false, laid := [("gangsaw/bookmatch.ways", laid_gangsaw_bookmatch_ways)] }
def BookmatchLeastSaid : Prop := bookmatchLeastRow.holds Tryd.pinned (OpenSpec.ofChange bookmatchLeastSpec)

/-- ITS FALSE NEIGHBOUR: 'it returns false'. Refute it at one input. -/
def bookmatchLeastWrong : ChangeSpec := { name := "bookmatchLeast", fn := fun _ => fun
  | [d1, d2, d3, d4] => { results := [.lit (.bool false)], args := [d1, d2, d3, d4] }
  | _ => none }
def BookmatchLeastWrongFalsely : Prop := bookmatchLeastRow.holds Tryd.pinned (OpenSpec.ofChange bookmatchLeastWrong)

/- THE SECOND FORM. 'bulk': how many values and letters a reading holds, each counted each time it is reached (what is shared counts as often as it is met; a slice's spare places count too). A statement '..UptoSaid' is the law's where the arguments, and the package variables that the reading takes, are together of bulk at most 1048576: NARROWER than '..Said'. Prove '..Said' where nothing that the law and all that it calls make is longer than what came in: it says more and counts as full. Else prove '..UptoSaid'. A law counts once. -/
mutual
def uptoBulk {H : Type} : DataW H → Nat
  | .lit (.string bytes) => bytes.length + 1
  | .lit _ => 1
  | .nil => 1
  | .ptr d => uptoBulk d + 1
  | .slice elems spare => uptoBulkAll elems + uptoBulkAll spare + 1
  | .agg parts => uptoBulkAll parts + 1
  | .iface _ d => uptoBulk d + 1
  | .map entries => uptoBulkEntries entries + 1
  | .held _ => 1
def uptoBulkAll {H : Type} : List (DataW H) → Nat
  | [] => 0
  | d :: r => uptoBulk d + uptoBulkAll r
def uptoBulkEntries {H : Type} : List (Lit × DataW H) → Nat
  | [] => 0
  | x :: r => uptoBulkEntry x + uptoBulkEntries r
def uptoBulkEntry {H : Type} : Lit × DataW H → Nat
  | (.string bytes, d) => bytes.length + uptoBulk d + 1
  | (_, d) => uptoBulk d + 1
 end
def uptoSmall : (H : Type) → List (DataW H) → Bool := fun _ ds => decide (uptoBulkAll ds ≤ 1048576)
def OpenSpec.upto (s : _root_.Go.ChangeSpec) : _root_.Go.OpenSpec := { _root_.Go.OpenSpec.ofChange s with cond := some uptoSmall }

/-- 'gangsawlaw36.BookmatchBest', WHERE WHAT IT READS IS OF BULK AT MOST 1048576: true; the input reads as it did. -/
def bookmatchBestUptoRow : OpenClaim := { program := "ytglkcinmohjblaadoor", sum := "f6a6e43a1dd187109eddceb01900dac1c82879279ba7536323d43deb5648a66f", func := "gangsaw/gangsawlaw36.BookmatchBest", spec := "bookmatchBest", unfollowed := true, recurses := true, named := ["gangsaw/bookmatch.ways"], apart := false, laid := [("gangsaw/bookmatch.ways", laid_gangsaw_bookmatch_ways)], narrowed := true }
def BookmatchBestUptoSaid : Prop := bookmatchBestUptoRow.holds Tryd.pinned (OpenSpec.upto bookmatchBestSpec)

/-- 'gangsawlaw36.BookmatchWhole', WHERE WHAT IT READS IS OF BULK AT MOST 1048576: true; the input reads as it did. -/
def bookmatchWholeUptoRow : OpenClaim := { program := "ytglkcinmohjblaadoor", sum := "f6a6e43a1dd187109eddceb01900dac1c82879279ba7536323d43deb5648a66f", func := "gangsaw/gangsawlaw36.BookmatchWhole", spec := "bookmatchWhole", unfollowed := true, recurses := true, named := ["gangsaw/bookmatch.ways"], apart := false, laid := [("gangsaw/bookmatch.ways", laid_gangsaw_bookmatch_ways)], narrowed := true }
def BookmatchWholeUptoSaid : Prop := bookmatchWholeUptoRow.holds Tryd.pinned (OpenSpec.upto bookmatchWholeSpec)

/-- 'gangsawlaw36.BookmatchRows', WHERE WHAT IT READS IS OF BULK AT MOST 1048576: true; the input reads as it did. -/
def bookmatchRowsUptoRow : OpenClaim := { program := "ytglkcinmohjblaadoor", sum := "f6a6e43a1dd187109eddceb01900dac1c82879279ba7536323d43deb5648a66f", func := "gangsaw/gangsawlaw36.BookmatchRows", spec := "bookmatchRows", unfollowed := true, recurses := true, named := ["gangsaw/bookmatch.ways"], apart := false, laid := [("gangsaw/bookmatch.ways", laid_gangsaw_bookmatch_ways)], narrowed := true }
def BookmatchRowsUptoSaid : Prop := bookmatchRowsUptoRow.holds Tryd.pinned (OpenSpec.upto bookmatchRowsSpec)

/-- 'gangsawlaw36.BookmatchProofs', WHERE WHAT IT READS IS OF BULK AT MOST 1048576: true; the input reads as it did. -/
def bookmatchProofsUptoRow : OpenClaim := { program := "ytglkcinmohjblaadoor", sum := "f6a6e43a1dd187109eddceb01900dac1c82879279ba7536323d43deb5648a66f", func := "gangsaw/gangsawlaw36.BookmatchProofs", spec := "bookmatchProofs", unfollowed := true, recurses := true, named := ["gangsaw/bookmatch.ways"], apart := false, laid := [("gangsaw/bookmatch.ways", laid_gangsaw_bookmatch_ways)], narrowed := true }
def BookmatchProofsUptoSaid : Prop := bookmatchProofsUptoRow.holds Tryd.pinned (OpenSpec.upto bookmatchProofsSpec)

/-- 'gangsawlaw36.BookmatchRuns', WHERE WHAT IT READS IS OF BULK AT MOST 1048576: true; the input reads as it did. -/
def bookmatchRunsUptoRow : OpenClaim := { program := "ytglkcinmohjblaadoor", sum := "f6a6e43a1dd187109eddceb01900dac1c82879279ba7536323d43deb5648a66f", func := "gangsaw/gangsawlaw36.BookmatchRuns", spec := "bookmatchRuns", unfollowed := true, recurses := true, named := ["gangsaw/bookmatch.ways"], apart := false, laid := [("gangsaw/bookmatch.ways", laid_gangsaw_bookmatch_ways)], narrowed := true }
def BookmatchRunsUptoSaid : Prop := bookmatchRunsUptoRow.holds Tryd.pinned (OpenSpec.upto bookmatchRunsSpec)

/-- 'gangsawlaw36.BookmatchReversed', WHERE WHAT IT READS IS OF BULK AT MOST 1048576: true; the input reads as it did. -/
def bookmatchReversedUptoRow : OpenClaim := { program := "ytglkcinmohjblaadoor", sum := "f6a6e43a1dd187109eddceb01900dac1c82879279ba7536323d43deb5648a66f", func := "gangsaw/gangsawlaw36.BookmatchReversed", spec := "bookmatchReversed", unfollowed := true, recurses := true, named := ["gangsaw/bookmatch.ways"], apart := false, laid := [("gangsaw/bookmatch.ways", laid_gangsaw_bookmatch_ways)], narrowed := true }
def BookmatchReversedUptoSaid : Prop := bookmatchReversedUptoRow.holds Tryd.pinned (OpenSpec.upto bookmatchReversedSpec)

/-- 'gangsawlaw36.BookmatchCosts', WHERE WHAT IT READS IS OF BULK AT MOST 1048576: true; the input reads as it did. -/
def bookmatchCostsUptoRow : OpenClaim := { program := "ytglkcinmohjblaadoor", sum := "f6a6e43a1dd187109eddceb01900dac1c82879279ba7536323d43deb5648a66f", func := "gangsaw/gangsawlaw36.BookmatchCosts", spec := "bookmatchCosts", unfollowed := true, recurses := true, named := ["gangsaw/bookmatch.ways"], apart := false, laid := [("gangsaw/bookmatch.ways", laid_gangsaw_bookmatch_ways)], narrowed := true }
def BookmatchCostsUptoSaid : Prop := bookmatchCostsUptoRow.holds Tryd.pinned (OpenSpec.upto bookmatchCostsSpec)

/-- 'gangsawlaw36.BookmatchLeast', WHERE WHAT IT READS IS OF BULK AT MOST 1048576: true; the input reads as it did. -/
def bookmatchLeastUptoRow : OpenClaim := { program := "ytglkcinmohjblaadoor", sum := "f6a6e43a1dd187109eddceb01900dac1c82879279ba7536323d43deb5648a66f", func := "gangsaw/gangsawlaw36.BookmatchLeast", spec := "bookmatchLeast", unfollowed := true, recurses := true, named := ["gangsaw/bookmatch.ways"], apart := false, laid := [("gangsaw/bookmatch.ways", laid_gangsaw_bookmatch_ways)], narrowed := true }
def BookmatchLeastUptoSaid : Prop := bookmatchLeastUptoRow.holds Tryd.pinned (OpenSpec.upto bookmatchLeastSpec)

end Rows
end Go.Proofs.YtglkcinmohjblaaDoor
