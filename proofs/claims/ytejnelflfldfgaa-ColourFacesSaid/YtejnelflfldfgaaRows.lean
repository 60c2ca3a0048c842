/-
  No cell of these rows narrows 'for every input' (looked for: loops, veiled, ifaces, maps, wideKeys, modest, calm, conditions, laid).
  DERIVED. THE GIVEN ROWS OF THIS SEAT. 9 by the template 'for every input the law returns true; each argument reads behind the call as it read before'; 0 by the template 'total and deterministic' (their statements: YtejnelflfldfgaaTotals.lean).
  GIVEN WITH THE SEED: the statements are not yours to turn. If you find one false, say at which input.
  Laid BY PROGRAM, IN A SANDBOX (cutbox-rows.mjs): the forced cells as the released guide's own fill.sh prints them over the translation cb95c8c355fd5f55… (all of the seat's roots in one cut). By AI agents, Wed Nov 11 2026. No macro, syntax, notation, axiom, sorry.
-/
import Derived.Test.YtejnelflfldfgaaChecked
import GoSem.Claim
import GoSem.ClaimJoined
import GoSem.ClaimMapViews
import Derived.JoinedTies
import Derived.KernelRfl
namespace Go.Proofs.Ytejnelflfldfgaa
/- THE CELL 'sum', in the pinned program and in every row, IS THE sha256 OF THE DUMP (.gsa) THAT YtejnelflfldfgaaProg.lean LOADS. Nothing in Lean hashes anything: it is a label: what it is worth is what the hold of that sum in a sandbox is worth. -/
noncomputable def Try.pinned : Pinned := { name := "ytejnelflfldfgaa", sum := "cb95c8c355fd5f558f700fa50b89bac995192b8783f7ab942aedb9a44eb18a3c", checked := Try.checked }
namespace Rows
def none {H : Type} : Left H := { results := [], args := [] }

/-- 'gangsawlaw35.ColourCodes': WHATEVER THE INPUT: true; the input reads as it did. -/
def colourCodesSpec : ChangeSpec := { name := "colourCodes", fn := fun _ => fun
  | [d] => { results := [.lit (.bool true)], args := [d] }
  | _ => none }
def colourCodesRow : OpenClaim := { program := "ytejnelflfldfgaa", sum := "cb95c8c355fd5f558f700fa50b89bac995192b8783f7ab942aedb9a44eb18a3c", func := "gangsaw/gangsawlaw35.ColourCodes", spec := "colourCodes", unfollowed := true, recurses := true, apart := false }
def ColourCodesSaid : Prop := colourCodesRow.holds Try.pinned (OpenSpec.ofChange colourCodesSpec)

/-- ITS FALSE NEIGHBOUR: 'it returns false'. Refute it at one input. -/
def colourCodesWrong : ChangeSpec := { name := "colourCodes", fn := fun _ => fun
  | [d] => { results := [.lit (.bool false)], args := [d] }
  | _ => none }
def ColourCodesWrongFalsely : Prop := colourCodesRow.holds Try.pinned (OpenSpec.ofChange colourCodesWrong)

/-- 'gangsawlaw35.ColourMismatches': WHATEVER THE INPUT: true; the input reads as it did. -/
def colourMismatchesSpec : ChangeSpec := { name := "colourMismatches", fn := fun _ => fun
  | [d1, d2, d3] => { results := [.lit (.bool true)], args := [d1, d2, d3] }
  | _ => none }
def colourMismatchesRow : OpenClaim := { program := "ytejnelflfldfgaa", sum := "cb95c8c355fd5f558f700fa50b89bac995192b8783f7ab942aedb9a44eb18a3c", func := "gangsaw/gangsawlaw35.ColourMismatches", spec := "colourMismatches", unfollowed := true, recurses := true, apart := false }
def ColourMismatchesSaid : Prop := colourMismatchesRow.holds Try.pinned (OpenSpec.ofChange colourMismatchesSpec)

/-- ITS FALSE NEIGHBOUR: 'it returns false'. Refute it at one input. -/
def colourMismatchesWrong : ChangeSpec := { name := "colourMismatches", fn := fun _ => fun
  | [d1, d2, d3] => { results := [.lit (.bool false)], args := [d1, d2, d3] }
  | _ => none }
def ColourMismatchesWrongFalsely : Prop := colourMismatchesRow.holds Try.pinned (OpenSpec.ofChange colourMismatchesWrong)

/-- 'gangsawlaw35.ColourAligns': WHATEVER THE INPUT: true; the input reads as it did. -/
def colourAlignsSpec : ChangeSpec := { name := "colourAligns", fn := fun _ => fun
  | [d1, d2, d3] => { results := [.lit (.bool true)], args := [d1, d2, d3] }
  | _ => none }
def colourAlignsRow : OpenClaim := { program := "ytejnelflfldfgaa", sum := "cb95c8c355fd5f558f700fa50b89bac995192b8783f7ab942aedb9a44eb18a3c", func := "gangsaw/gangsawlaw35.ColourAligns", spec := "colourAligns", unfollowed := true, recurses := true, apart := false }
def ColourAlignsSaid : Prop := colourAlignsRow.holds Try.pinned (OpenSpec.ofChange colourAlignsSpec)

/-- ITS FALSE NEIGHBOUR: 'it returns false'. Refute it at one input. -/
def colourAlignsWrong : ChangeSpec := { name := "colourAligns", fn := fun _ => fun
  | [d1, d2, d3] => { results := [.lit (.bool false)], args := [d1, d2, d3] }
  | _ => none }
def ColourAlignsWrongFalsely : Prop := colourAlignsRow.holds Try.pinned (OpenSpec.ofChange colourAlignsWrong)

/-- 'gangsawlaw35.ColourFaces': WHATEVER THE INPUT: true; the input reads as it did. -/
def colourFacesSpec : ChangeSpec := { name := "colourFaces", fn := fun _ => fun
  | [d1, d2, d3, d4] => { results := [.lit (.bool true)], args := [d1, d2, d3, d4] }
  | _ => none }
def colourFacesRow : OpenClaim := { program := "ytejnelflfldfgaa", sum := "cb95c8c355fd5f558f700fa50b89bac995192b8783f7ab942aedb9a44eb18a3c", func := "gangsaw/gangsawlaw35.ColourFaces", spec := "colourFaces", unfollowed := true, recurses := true, apart := false }
def ColourFacesSaid : Prop := colourFacesRow.holds Try.pinned (OpenSpec.ofChange colourFacesSpec)

/-- ITS FALSE NEIGHBOUR: 'it returns false'. Refute it at one input. -/
def colourFacesWrong : ChangeSpec := { name := "colourFaces", fn := fun _ => fun
  | [d1, d2, d3, d4] => { results := [.lit (.bool false)], args := [d1, d2, d3, d4] }
  | _ => none }
def ColourFacesWrongFalsely : Prop := colourFacesRow.holds Try.pinned (OpenSpec.ofChange colourFacesWrong)

/-- 'gangsawlaw35.ColourNearest': WHATEVER THE INPUT: true; the input reads as it did. -/
def colourNearestSpec : ChangeSpec := { name := "colourNearest", fn := fun _ => fun
  | [d1, d2, d3] => { results := [.lit (.bool true)], args := [d1, d2, d3] }
  | _ => none }
def colourNearestRow : OpenClaim := { program := "ytejnelflfldfgaa", sum := "cb95c8c355fd5f558f700fa50b89bac995192b8783f7ab942aedb9a44eb18a3c", func := "gangsaw/gangsawlaw35.ColourNearest", spec := "colourNearest", unfollowed := true, recurses := true, apart := false }
def ColourNearestSaid : Prop := colourNearestRow.holds Try.pinned (OpenSpec.ofChange colourNearestSpec)

/-- ITS FALSE NEIGHBOUR: 'it returns false'. Refute it at one input. -/
def colourNearestWrong : ChangeSpec := { name := "colourNearest", fn := fun _ => fun
  | [d1, d2, d3] => { results := [.lit (.bool false)], args := [d1, d2, d3] }
  | _ => none }
def ColourNearestWrongFalsely : Prop := colourNearestRow.holds Try.pinned (OpenSpec.ofChange colourNearestWrong)

/-- 'gangsawlaw35.ColourMetric': WHATEVER THE INPUT: true; the input reads as it did. -/
def colourMetricSpec : ChangeSpec := { name := "colourMetric", fn := fun _ => fun
  | [d1, d2, d3] => { results := [.lit (.bool true)], args := [d1, d2, d3] }
  | _ => none }
def colourMetricRow : OpenClaim := { program := "ytejnelflfldfgaa", sum := "cb95c8c355fd5f558f700fa50b89bac995192b8783f7ab942aedb9a44eb18a3c", func := "gangsaw/gangsawlaw35.ColourMetric", spec := "colourMetric", unfollowed := true, recurses := true, apart := false }
def ColourMetricSaid : Prop := colourMetricRow.holds Try.pinned (OpenSpec.ofChange colourMetricSpec)

/-- ITS FALSE NEIGHBOUR: 'it returns false'. Refute it at one input. -/
def colourMetricWrong : ChangeSpec := { name := "colourMetric", fn := fun _ => fun
  | [d1, d2, d3] => { results := [.lit (.bool false)], args := [d1, d2, d3] }
  | _ => none }
def ColourMetricWrongFalsely : Prop := colourMetricRow.holds Try.pinned (OpenSpec.ofChange colourMetricWrong)

/-- 'gangsawlaw35.ColourBest': WHATEVER THE INPUT: true; the input reads as it did. -/
def colourBestSpec : ChangeSpec := { name := "colourBest", fn := fun _ => fun
  | [d1, d2, d3, d4] => { results := [.lit (.bool true)], args := [d1, d2, d3, d4] }
  | _ => none }
def colourBestRow : OpenClaim := { program := "ytejnelflfldfgaa", sum := "cb95c8c355fd5f558f700fa50b89bac995192b8783f7ab942aedb9a44eb18a3c", func := "gangsaw/gangsawlaw35.ColourBest", spec := "colourBest", unfollowed := true, recurses := true, apart := false }
def ColourBestSaid : Prop := colourBestRow.holds Try.pinned (OpenSpec.ofChange colourBestSpec)

/-- ITS FALSE NEIGHBOUR: 'it returns false'. Refute it at one input. -/
def colourBestWrong : ChangeSpec := { name := "colourBest", fn := fun _ => fun
  | [d1, d2, d3, d4] => { results := [.lit (.bool false)], args := [d1, d2, d3, d4] }
  | _ => none }
def ColourBestWrongFalsely : Prop := colourBestRow.holds Try.pinned (OpenSpec.ofChange colourBestWrong)

/-- 'gangsawlaw35.ColourSmooths': WHATEVER THE INPUT: true; the input reads as it did. -/
def colourSmoothsSpec : ChangeSpec := { name := "colourSmooths", fn := fun _ => fun
  | [d] => { results := [.lit (.bool true)], args := [d] }
  | _ => none }
def colourSmoothsRow : OpenClaim := { program := "ytejnelflfldfgaa", sum := "cb95c8c355fd5f558f700fa50b89bac995192b8783f7ab942aedb9a44eb18a3c", func := "gangsaw/gangsawlaw35.ColourSmooths", spec := "colourSmooths", unfollowed := true, recurses := true, apart := false }
def ColourSmoothsSaid : Prop := colourSmoothsRow.holds Try.pinned (OpenSpec.ofChange colourSmoothsSpec)

/-- ITS FALSE NEIGHBOUR: 'it returns false'. Refute it at one input. -/
def colourSmoothsWrong : ChangeSpec := { name := "colourSmooths", fn := fun _ => fun
  | [d] => { results := [.lit (.bool false)], args := [d] }
  | _ => none }
def ColourSmoothsWrongFalsely : Prop := colourSmoothsRow.holds Try.pinned (OpenSpec.ofChange colourSmoothsWrong)

/-- 'gangsawlaw35.ColourTurns': WHATEVER THE INPUT: true; the input reads as it did. -/
def colourTurnsSpec : ChangeSpec := { name := "colourTurns", fn := fun _ => fun
  | [d1, d2] => { results := [.lit (.bool true)], args := [d1, d2] }
  | _ => none }
def colourTurnsRow : OpenClaim := { program := "ytejnelflfldfgaa", sum := "cb95c8c355fd5f558f700fa50b89bac995192b8783f7ab942aedb9a44eb18a3c", func := "gangsaw/gangsawlaw35.ColourTurns", spec := "colourTurns", unfollowed := true, recurses := true, apart := false }
def ColourTurnsSaid : Prop := colourTurnsRow.holds Try.pinned (OpenSpec.ofChange colourTurnsSpec)

/-- ITS FALSE NEIGHBOUR: 'it returns false'. Refute it at one input. -/
def colourTurnsWrong : ChangeSpec := { name := "colourTurns", fn := fun _ => fun
  | [d1, d2] => { results := [.lit (.bool false)], args := [d1, d2] }
  | _ => none }
def ColourTurnsWrongFalsely : Prop := colourTurnsRow.holds Try.pinned (OpenSpec.ofChange colourTurnsWrong)

/- THE SECOND FORM. 'bulk': how many values and letters a reading holds, each counted each time it is reached (what is shared counts as often as it is met; a slice's spare places count too). A statement '..UptoSaid' is the law's where the arguments, and the package variables that the reading takes, are together of bulk at most 1048576: NARROWER than '..Said'. Prove '..Said' where nothing that the law and all that it calls make is longer than what came in: it says more and counts as full. Else prove '..UptoSaid'. A law counts once. -/
mutual
def uptoBulk {H : Type} : DataW H → Nat
  | .lit (.string bytes) => bytes.length + 1
  | .lit _ => 1
  | .nil => 1
  | .ptr d => uptoBulk d + 1
  | .slice elems spare => uptoBulkAll elems + uptoBulkAll spare + 1
  | .agg parts => uptoBulkAll parts + 1
  | .iface _ d => uptoBulk d + 1
  | .map entries => uptoBulkEntries entries + 1
  | .held _ => 1
def uptoBulkAll {H : Type} : List (DataW H) → Nat
  | [] => 0
  | d :: r => uptoBulk d + uptoBulkAll r
def uptoBulkEntries {H : Type} : List (Lit × DataW H) → Nat
  | [] => 0
  | x :: r => uptoBulkEntry x + uptoBulkEntries r
def uptoBulkEntry {H : Type} : Lit × DataW H → Nat
  | (.string bytes, d) => bytes.length + uptoBulk d + 1
  | (_, d) => uptoBulk d + 1
 end
def uptoSmall : (H : Type) → List (DataW H) → Bool := fun _ ds => decide (uptoBulkAll ds ≤ 1048576)
def OpenSpec.upto (s : _root_.Go.ChangeSpec) : _root_.Go.OpenSpec := { _root_.Go.OpenSpec.ofChange s with cond := some uptoSmall }

/-- 'gangsawlaw35.ColourCodes', WHERE WHAT IT READS IS OF BULK AT MOST 1048576: true; the input reads as it did. -/
def colourCodesUptoRow : OpenClaim := { program := "ytejnelflfldfgaa", sum := "cb95c8c355fd5f558f700fa50b89bac995192b8783f7ab942aedb9a44eb18a3c", func := "gangsaw/gangsawlaw35.ColourCodes", spec := "colourCodes", unfollowed := true, recurses := true, apart := false, narrowed := true }
def ColourCodesUptoSaid : Prop := colourCodesUptoRow.holds Try.pinned (OpenSpec.upto colourCodesSpec)

/-- 'gangsawlaw35.ColourMismatches', WHERE WHAT IT READS IS OF BULK AT MOST 1048576: true; the input reads as it did. -/
def colourMismatchesUptoRow : OpenClaim := { program := "ytejnelflfldfgaa", sum := "cb95c8c355fd5f558f700fa50b89bac995192b8783f7ab942aedb9a44eb18a3c", func := "gangsaw/gangsawlaw35.ColourMismatches", spec := "colourMismatches", unfollowed := true, recurses := true, apart := false, narrowed := true }
def ColourMismatchesUptoSaid : Prop := colourMismatchesUptoRow.holds Try.pinned (OpenSpec.upto colourMismatchesSpec)

/-- 'gangsawlaw35.ColourAligns', WHERE WHAT IT READS IS OF BULK AT MOST 1048576: true; the input reads as it did. -/
def colourAlignsUptoRow : OpenClaim := { program := "ytejnelflfldfgaa", sum := "cb95c8c355fd5f558f700fa50b89bac995192b8783f7ab942aedb9a44eb18a3c", func := "gangsaw/gangsawlaw35.ColourAligns", spec := "colourAligns", unfollowed := true, recurses := true, apart := false, narrowed := true }
def ColourAlignsUptoSaid : Prop := colourAlignsUptoRow.holds Try.pinned (OpenSpec.upto colourAlignsSpec)

/-- 'gangsawlaw35.ColourFaces', WHERE WHAT IT READS IS OF BULK AT MOST 1048576: true; the input reads as it did. -/
def colourFacesUptoRow : OpenClaim := { program := "ytejnelflfldfgaa", sum := "cb95c8c355fd5f558f700fa50b89bac995192b8783f7ab942aedb9a44eb18a3c", func := "gangsaw/gangsawlaw35.ColourFaces", spec := "colourFaces", unfollowed := true, recurses := true, apart := false, narrowed := true }
def ColourFacesUptoSaid : Prop := colourFacesUptoRow.holds Try.pinned (OpenSpec.upto colourFacesSpec)

/-- 'gangsawlaw35.ColourNearest', WHERE WHAT IT READS IS OF BULK AT MOST 1048576: true; the input reads as it did. -/
def colourNearestUptoRow : OpenClaim := { program := "ytejnelflfldfgaa", sum := "cb95c8c355fd5f558f700fa50b89bac995192b8783f7ab942aedb9a44eb18a3c", func := "gangsaw/gangsawlaw35.ColourNearest", spec := "colourNearest", unfollowed := true, recurses := true, apart := false, narrowed := true }
def ColourNearestUptoSaid : Prop := colourNearestUptoRow.holds Try.pinned (OpenSpec.upto colourNearestSpec)

/-- 'gangsawlaw35.ColourMetric', WHERE WHAT IT READS IS OF BULK AT MOST 1048576: true; the input reads as it did. -/
def colourMetricUptoRow : OpenClaim := { program := "ytejnelflfldfgaa", sum := "cb95c8c355fd5f558f700fa50b89bac995192b8783f7ab942aedb9a44eb18a3c", func := "gangsaw/gangsawlaw35.ColourMetric", spec := "colourMetric", unfollowed := true, recurses := true, apart := false, narrowed := true }
def ColourMetricUptoSaid : Prop := colourMetricUptoRow.holds Try.pinned (OpenSpec.upto colourMetricSpec)

/-- 'gangsawlaw35.ColourBest', WHERE WHAT IT READS IS OF BULK AT MOST 1048576: true; the input reads as it did. -/
def colourBestUptoRow : OpenClaim := { program := "ytejnelflfldfgaa", sum := "cb95c8c355fd5f558f700fa50b89bac995192b8783f7ab942aedb9a44eb18a3c", func := "gangsaw/gangsawlaw35.ColourBest", spec := "colourBest", unfollowed := true, recurses := true, apart := false, narrowed := true }
def ColourBestUptoSaid : Prop := colourBestUptoRow.holds Try.pinned (OpenSpec.upto colourBestSpec)

/-- 'gangsawlaw35.ColourSmooths', WHERE WHAT IT READS IS OF BULK AT MOST 1048576: true; the input reads as it did. -/
def colourSmoothsUptoRow : OpenClaim := { program := "ytejnelflfldfgaa", sum := "cb95c8c355fd5f558f700fa50b89bac995192b8783f7ab942aedb9a44eb18a3c", func := "gangsaw/gangsawlaw35.ColourSmooths", spec := "colourSmooths", unfollowed := true, recurses := true, apart := false, narrowed := true }
def ColourSmoothsUptoSaid : Prop := colourSmoothsUptoRow.holds Try.pinned (OpenSpec.upto colourSmoothsSpec)

/-- 'gangsawlaw35.ColourTurns', WHERE WHAT IT READS IS OF BULK AT MOST 1048576: true; the input reads as it did. -/
def colourTurnsUptoRow : OpenClaim := { program := "ytejnelflfldfgaa", sum := "cb95c8c355fd5f558f700fa50b89bac995192b8783f7ab942aedb9a44eb18a3c", func := "gangsaw/gangsawlaw35.ColourTurns", spec := "colourTurns", unfollowed := true, recurses := true, apart := false, narrowed := true }
def ColourTurnsUptoSaid : Prop := colourTurnsUptoRow.holds Try.pinned (OpenSpec.upto colourTurnsSpec)

end Rows
end Go.Proofs.Ytejnelflfldfgaa
