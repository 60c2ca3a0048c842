/-
  No cell of these rows narrows 'for every input' (looked for: loops, veiled, ifaces, maps, wideKeys, modest, calm, conditions, laid).
  DERIVED. THE GIVEN ROWS OF THIS SEAT. 7 by the template 'for every input the law returns true; each argument reads behind the call as it read before'; 0 by the template 'total and deterministic' (their statements: YthogemdknlpnpaaTotals.lean).
  GIVEN WITH THE SEED: the statements are not yours to turn. If you find one false, say at which input.
  Laid BY PROGRAM, IN A SANDBOX (cutbox-rows.mjs): the forced cells as the released guide's own fill.sh prints them over the translation 95c46aa2f76e38a5… (all of the seat's roots in one cut). By AI agents, Wed Nov 11 2026. No macro, syntax, notation, axiom, sorry.
-/
import Derived.Test.YthogemdknlpnpaaChecked
import GoSem.Claim
import GoSem.ClaimJoined
import GoSem.ClaimMapViews
import Derived.JoinedTies
import Derived.KernelRfl
namespace Go.Proofs.Ythogemdknlpnpaa
/- THE CELL 'sum', in the pinned program and in every row, IS THE sha256 OF THE DUMP (.gsa) THAT YthogemdknlpnpaaProg.lean LOADS. Nothing in Lean hashes anything: it is a label: what it is worth is what the hold of that sum in a sandbox is worth. -/
noncomputable def Try.pinned : Pinned := { name := "ythogemdknlpnpaa", sum := "95c46aa2f76e38a5aeaf05e274c2190590743aea43bb1c1fc85cc3a5ad9a66dd", checked := Try.checked }
namespace Rows
def none {H : Type} : Left H := { results := [], args := [] }

/-- 'gangsawlaw08.PrismChecks': WHATEVER THE INPUT: true; the input reads as it did. -/
def prismChecksSpec : ChangeSpec := { name := "prismChecks", fn := fun _ => fun
  | [d] => { results := [.lit (.bool true)], args := [d] }
  | _ => none }
def prismChecksRow : OpenClaim := { program := "ythogemdknlpnpaa", sum := "95c46aa2f76e38a5aeaf05e274c2190590743aea43bb1c1fc85cc3a5ad9a66dd", func := "gangsaw/gangsawlaw08.PrismChecks", spec := "prismChecks", unfollowed := true, recurses := true, apart := false }
def PrismChecksSaid : Prop := prismChecksRow.holds Try.pinned (OpenSpec.ofChange prismChecksSpec)

/-- ITS FALSE NEIGHBOUR: 'it returns false'. Refute it at one input. -/
def prismChecksWrong : ChangeSpec := { name := "prismChecks", fn := fun _ => fun
  | [d] => { results := [.lit (.bool false)], args := [d] }
  | _ => none }
def PrismChecksWrongFalsely : Prop := prismChecksRow.holds Try.pinned (OpenSpec.ofChange prismChecksWrong)

/-- 'gangsawlaw08.PrismBoxes': WHATEVER THE INPUT: true; the input reads as it did. -/
def prismBoxesSpec : ChangeSpec := { name := "prismBoxes", fn := fun _ => fun
  | [d1, d2] => { results := [.lit (.bool true)], args := [d1, d2] }
  | _ => none }
def prismBoxesRow : OpenClaim := { program := "ythogemdknlpnpaa", sum := "95c46aa2f76e38a5aeaf05e274c2190590743aea43bb1c1fc85cc3a5ad9a66dd", func := "gangsaw/gangsawlaw08.PrismBoxes", spec := "prismBoxes", unfollowed := true, recurses := true, apart := false }
def PrismBoxesSaid : Prop := prismBoxesRow.holds Try.pinned (OpenSpec.ofChange prismBoxesSpec)

/-- ITS FALSE NEIGHBOUR: 'it returns false'. Refute it at one input. -/
def prismBoxesWrong : ChangeSpec := { name := "prismBoxes", fn := fun _ => fun
  | [d1, d2] => { results := [.lit (.bool false)], args := [d1, d2] }
  | _ => none }
def PrismBoxesWrongFalsely : Prop := prismBoxesRow.holds Try.pinned (OpenSpec.ofChange prismBoxesWrong)

/-- 'gangsawlaw08.PrismOverlaps': WHATEVER THE INPUT: true; the input reads as it did. -/
def prismOverlapsSpec : ChangeSpec := { name := "prismOverlaps", fn := fun _ => fun
  | [d1, d2] => { results := [.lit (.bool true)], args := [d1, d2] }
  | _ => none }
def prismOverlapsRow : OpenClaim := { program := "ythogemdknlpnpaa", sum := "95c46aa2f76e38a5aeaf05e274c2190590743aea43bb1c1fc85cc3a5ad9a66dd", func := "gangsaw/gangsawlaw08.PrismOverlaps", spec := "prismOverlaps", unfollowed := true, recurses := true, apart := false }
def PrismOverlapsSaid : Prop := prismOverlapsRow.holds Try.pinned (OpenSpec.ofChange prismOverlapsSpec)

/-- ITS FALSE NEIGHBOUR: 'it returns false'. Refute it at one input. -/
def prismOverlapsWrong : ChangeSpec := { name := "prismOverlaps", fn := fun _ => fun
  | [d1, d2] => { results := [.lit (.bool false)], args := [d1, d2] }
  | _ => none }
def PrismOverlapsWrongFalsely : Prop := prismOverlapsRow.holds Try.pinned (OpenSpec.ofChange prismOverlapsWrong)

/-- 'gangsawlaw08.PrismOfBoxes': WHATEVER THE INPUT: true; the input reads as it did. -/
def prismOfBoxesSpec : ChangeSpec := { name := "prismOfBoxes", fn := fun _ => fun
  | [d1, d2] => { results := [.lit (.bool true)], args := [d1, d2] }
  | _ => none }
def prismOfBoxesRow : OpenClaim := { program := "ythogemdknlpnpaa", sum := "95c46aa2f76e38a5aeaf05e274c2190590743aea43bb1c1fc85cc3a5ad9a66dd", func := "gangsaw/gangsawlaw08.PrismOfBoxes", spec := "prismOfBoxes", unfollowed := true, recurses := true, apart := false }
def PrismOfBoxesSaid : Prop := prismOfBoxesRow.holds Try.pinned (OpenSpec.ofChange prismOfBoxesSpec)

/-- ITS FALSE NEIGHBOUR: 'it returns false'. Refute it at one input. -/
def prismOfBoxesWrong : ChangeSpec := { name := "prismOfBoxes", fn := fun _ => fun
  | [d1, d2] => { results := [.lit (.bool false)], args := [d1, d2] }
  | _ => none }
def PrismOfBoxesWrongFalsely : Prop := prismOfBoxesRow.holds Try.pinned (OpenSpec.ofChange prismOfBoxesWrong)

/-- 'gangsawlaw08.PrismMeets': WHATEVER THE INPUT: true; the input reads as it did. -/
def prismMeetsSpec : ChangeSpec := { name := "prismMeets", fn := fun _ => fun
  | [d1, d2] => { results := [.lit (.bool true)], args := [d1, d2] }
  | _ => none }
def prismMeetsRow : OpenClaim := { program := "ythogemdknlpnpaa", sum := "95c46aa2f76e38a5aeaf05e274c2190590743aea43bb1c1fc85cc3a5ad9a66dd", func := "gangsaw/gangsawlaw08.PrismMeets", spec := "prismMeets", unfollowed := true, recurses := true, apart := false }
def PrismMeetsSaid : Prop := prismMeetsRow.holds Try.pinned (OpenSpec.ofChange prismMeetsSpec)

/-- ITS FALSE NEIGHBOUR: 'it returns false'. Refute it at one input. -/
def prismMeetsWrong : ChangeSpec := { name := "prismMeets", fn := fun _ => fun
  | [d1, d2] => { results := [.lit (.bool false)], args := [d1, d2] }
  | _ => none }
def PrismMeetsWrongFalsely : Prop := prismMeetsRow.holds Try.pinned (OpenSpec.ofChange prismMeetsWrong)

/-- 'gangsawlaw08.PrismShifts': WHATEVER THE INPUT: true; the input reads as it did. -/
def prismShiftsSpec : ChangeSpec := { name := "prismShifts", fn := fun _ => fun
  | [d1, d2, d3, d4] => { results := [.lit (.bool true)], args := [d1, d2, d3, d4] }
  | _ => none }
def prismShiftsRow : OpenClaim := { program := "ythogemdknlpnpaa", sum := "95c46aa2f76e38a5aeaf05e274c2190590743aea43bb1c1fc85cc3a5ad9a66dd", func := "gangsaw/gangsawlaw08.PrismShifts", spec := "prismShifts", unfollowed := true, recurses := true, apart := false }
def PrismShiftsSaid : Prop := prismShiftsRow.holds Try.pinned (OpenSpec.ofChange prismShiftsSpec)

/-- ITS FALSE NEIGHBOUR: 'it returns false'. Refute it at one input. -/
def prismShiftsWrong : ChangeSpec := { name := "prismShifts", fn := fun _ => fun
  | [d1, d2, d3, d4] => { results := [.lit (.bool false)], args := [d1, d2, d3, d4] }
  | _ => none }
def PrismShiftsWrongFalsely : Prop := prismShiftsRow.holds Try.pinned (OpenSpec.ofChange prismShiftsWrong)

/-- 'gangsawlaw08.PrismMoves': WHATEVER THE INPUT: true; the input reads as it did. -/
def prismMovesSpec : ChangeSpec := { name := "prismMoves", fn := fun _ => fun
  | [d1, d2, d3, d4, d5] => { results := [.lit (.bool true)], args := [d1, d2, d3, d4, d5] }
  | _ => none }
def prismMovesRow : OpenClaim := { program := "ythogemdknlpnpaa", sum := "95c46aa2f76e38a5aeaf05e274c2190590743aea43bb1c1fc85cc3a5ad9a66dd", func := "gangsaw/gangsawlaw08.PrismMoves", spec := "prismMoves", unfollowed := true, recurses := true, apart := false }
def PrismMovesSaid : Prop := prismMovesRow.holds Try.pinned (OpenSpec.ofChange prismMovesSpec)

/-- ITS FALSE NEIGHBOUR: 'it returns false'. Refute it at one input. -/
def prismMovesWrong : ChangeSpec := { name := "prismMoves", fn := fun _ => fun
  | [d1, d2, d3, d4, d5] => { results := [.lit (.bool false)], args := [d1, d2, d3, d4, d5] }
  | _ => none }
def PrismMovesWrongFalsely : Prop := prismMovesRow.holds Try.pinned (OpenSpec.ofChange prismMovesWrong)

/- THE SECOND FORM. 'bulk': how many values and letters a reading holds, each counted each time it is reached (what is shared counts as often as it is met; a slice's spare places count too). A statement '..UptoSaid' is the law's where the arguments, and the package variables that the reading takes, are together of bulk at most 1048576: NARROWER than '..Said'. Prove '..Said' where nothing that the law and all that it calls make is longer than what came in: it says more and counts as full. Else prove '..UptoSaid'. A law counts once. -/
mutual
def uptoBulk {H : Type} : DataW H → Nat
  | .lit (.string bytes) => bytes.length + 1
  | .lit _ => 1
  | .nil => 1
  | .ptr d => uptoBulk d + 1
  | .slice elems spare => uptoBulkAll elems + uptoBulkAll spare + 1
  | .agg parts => uptoBulkAll parts + 1
  | .iface _ d => uptoBulk d + 1
  | .map entries => uptoBulkEntries entries + 1
  | .held _ => 1
def uptoBulkAll {H : Type} : List (DataW H) → Nat
  | [] => 0
  | d :: r => uptoBulk d + uptoBulkAll r
def uptoBulkEntries {H : Type} : List (Lit × DataW H) → Nat
  | [] => 0
  | x :: r => uptoBulkEntry x + uptoBulkEntries r
def uptoBulkEntry {H : Type} : Lit × DataW H → Nat
  | (.string bytes, d) => bytes.length + uptoBulk d + 1
  | (_, d) => uptoBulk d + 1
 end
def uptoSmall : (H : Type) → List (DataW H) → Bool := fun _ ds => decide (uptoBulkAll ds ≤ 1048576)
def OpenSpec.upto (s : _root_.Go.ChangeSpec) : _root_.Go.OpenSpec := { _root_.Go.OpenSpec.ofChange s with cond := some uptoSmall }

/-- 'gangsawlaw08.PrismChecks', WHERE WHAT IT READS IS OF BULK AT MOST 1048576: true; the input reads as it did. -/
def prismChecksUptoRow : OpenClaim := { program := "ythogemdknlpnpaa", sum := "95c46aa2f76e38a5aeaf05e274c2190590743aea43bb1c1fc85cc3a5ad9a66dd", func := "gangsaw/gangsawlaw08.PrismChecks", spec := "prismChecks", unfollowed := true, recurses := true, apart := false, narrowed := true }
def PrismChecksUptoSaid : Prop := prismChecksUptoRow.holds Try.pinned (OpenSpec.upto prismChecksSpec)

/-- 'gangsawlaw08.PrismBoxes', WHERE WHAT IT READS IS OF BULK AT MOST 1048576: true; the input reads as it did. -/
def prismBoxesUptoRow : OpenClaim := { program := "ythogemdknlpnpaa", sum := "95c46aa2f76e38a5aeaf05e274c2190590743aea43bb1c1fc85cc3a5ad9a66dd", func := "gangsaw/gangsawlaw08.PrismBoxes", spec := "prismBoxes", unfollowed := true, recurses := true, apart := false, narrowed := true }
def PrismBoxesUptoSaid : Prop := prismBoxesUptoRow.holds Try.pinned (OpenSpec.upto prismBoxesSpec)

/-- 'gangsawlaw08.PrismOverlaps', WHERE WHAT IT READS IS OF BULK AT MOST 1048576: true; the input reads as it did. -/
def prismOverlapsUptoRow : OpenClaim := { program := "ythogemdknlpnpaa", sum := "95c46aa2f76e38a5aeaf05e274c2190590743aea43bb1c1fc85cc3a5ad9a66dd", func := "gangsaw/gangsawlaw08.PrismOverlaps", spec := "prismOverlaps", unfollowed := true, recurses := true, apart := false, narrowed := true }
def PrismOverlapsUptoSaid : Prop := prismOverlapsUptoRow.holds Try.pinned (OpenSpec.upto prismOverlapsSpec)

/-- 'gangsawlaw08.PrismOfBoxes', WHERE WHAT IT READS IS OF BULK AT MOST 1048576: true; the input reads as it did. -/
def prismOfBoxesUptoRow : OpenClaim := { program := "ythogemdknlpnpaa", sum := "95c46aa2f76e38a5aeaf05e274c2190590743aea43bb1c1fc85cc3a5ad9a66dd", func := "gangsaw/gangsawlaw08.PrismOfBoxes", spec := "prismOfBoxes", unfollowed := true, recurses := true, apart := false, narrowed := true }
def PrismOfBoxesUptoSaid : Prop := prismOfBoxesUptoRow.holds Try.pinned (OpenSpec.upto prismOfBoxesSpec)

/-- 'gangsawlaw08.PrismMeets', WHERE WHAT IT READS IS OF BULK AT MOST 1048576: true; the input reads as it did. -/
def prismMeetsUptoRow : OpenClaim := { program := "ythogemdknlpnpaa", sum := "95c46aa2f76e38a5aeaf05e274c2190590743aea43bb1c1fc85cc3a5ad9a66dd", func := "gangsaw/gangsawlaw08.PrismMeets", spec := "prismMeets", unfollowed := true, recurses := true, apart := false, narrowed := true }
def PrismMeetsUptoSaid : Prop := prismMeetsUptoRow.holds Try.pinned (OpenSpec.upto prismMeetsSpec)

/-- 'gangsawlaw08.PrismShifts', WHERE WHAT IT READS IS OF BULK AT MOST 1048576: true; the input reads as it did. -/
def prismShiftsUptoRow : OpenClaim := { program := "ythogemdknlpnpaa", sum := "95c46aa2f76e38a5aeaf05e274c2190590743aea43bb1c1fc85cc3a5ad9a66dd", func := "gangsaw/gangsawlaw08.PrismShifts", spec := "prismShifts", unfollowed := true, recurses := true, apart := false, narrowed := true }
def PrismShiftsUptoSaid : Prop := prismShiftsUptoRow.holds Try.pinned (OpenSpec.upto prismShiftsSpec)

/-- 'gangsawlaw08.PrismMoves', WHERE WHAT IT READS IS OF BULK AT MOST 1048576: true; the input reads as it did. -/
def prismMovesUptoRow : OpenClaim := { program := "ythogemdknlpnpaa", sum := "95c46aa2f76e38a5aeaf05e274c2190590743aea43bb1c1fc85cc3a5ad9a66dd", func := "gangsaw/gangsawlaw08.PrismMoves", spec := "prismMoves", unfollowed := true, recurses := true, apart := false, narrowed := true }
def PrismMovesUptoSaid : Prop := prismMovesUptoRow.holds Try.pinned (OpenSpec.upto prismMovesSpec)

end Rows
end Go.Proofs.Ythogemdknlpnpaa
