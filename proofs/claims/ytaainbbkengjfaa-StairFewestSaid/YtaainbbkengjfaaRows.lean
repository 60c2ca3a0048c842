/-
  No cell of these rows narrows 'for every input' (looked for: loops, veiled, ifaces, maps, wideKeys, modest, calm, conditions, laid).
  DERIVED. THE GIVEN ROWS OF THIS SEAT. 8 by the template 'for every input the law returns true; each argument reads behind the call as it read before'; 0 by the template 'total and deterministic' (their statements: YtaainbbkengjfaaTotals.lean).
  GIVEN WITH THE SEED: the statements are not yours to turn. If you find one false, say at which input.
  Laid BY PROGRAM, IN A SANDBOX (cutbox-rows.mjs): the forced cells as the released guide's own fill.sh prints them over the translation 2f2de4ed8d4cc05c… (all of the seat's roots in one cut). By AI agents, Wed Nov 11 2026. No macro, syntax, notation, axiom, sorry.
-/
import Derived.Test.YtaainbbkengjfaaChecked
import GoSem.Claim
import GoSem.ClaimJoined
import GoSem.ClaimMapViews
import Derived.JoinedTies
import Derived.KernelRfl
namespace Go.Proofs.Ytaainbbkengjfaa
/- THE CELL 'sum', in the pinned program and in every row, IS THE sha256 OF THE DUMP (.gsa) THAT YtaainbbkengjfaaProg.lean LOADS. Nothing in Lean hashes anything: it is a label: what it is worth is what the hold of that sum in a sandbox is worth. -/
noncomputable def Try.pinned : Pinned := { name := "ytaainbbkengjfaa", sum := "2f2de4ed8d4cc05cdc30e66b3f5d2510031140f62a0ad640e6f0115c4e1907ef", checked := Try.checked }
namespace Rows
def none {H : Type} : Left H := { results := [], args := [] }

/-- 'gangsawlaw42.StairChecks': WHATEVER THE INPUT: true; the input reads as it did. -/
def stairChecksSpec : ChangeSpec := { name := "stairChecks", fn := fun _ => fun
  | [d1, d2, d3] => { results := [.lit (.bool true)], args := [d1, d2, d3] }
  | _ => none }
def stairChecksRow : OpenClaim := { program := "ytaainbbkengjfaa", sum := "2f2de4ed8d4cc05cdc30e66b3f5d2510031140f62a0ad640e6f0115c4e1907ef", func := "gangsaw/gangsawlaw42.StairChecks", spec := "stairChecks", apart := false }
def StairChecksSaid : Prop := stairChecksRow.holds Try.pinned (OpenSpec.ofChange stairChecksSpec)

/-- ITS FALSE NEIGHBOUR: 'it returns false'. Refute it at one input. -/
def stairChecksWrong : ChangeSpec := { name := "stairChecks", fn := fun _ => fun
  | [d1, d2, d3] => { results := [.lit (.bool false)], args := [d1, d2, d3] }
  | _ => none }
def StairChecksWrongFalsely : Prop := stairChecksRow.holds Try.pinned (OpenSpec.ofChange stairChecksWrong)

/-- 'gangsawlaw42.StairPlans': WHATEVER THE INPUT: true; the input reads as it did. -/
def stairPlansSpec : ChangeSpec := { name := "stairPlans", fn := fun _ => fun
  | [d1, d2, d3, d4, d5] => { results := [.lit (.bool true)], args := [d1, d2, d3, d4, d5] }
  | _ => none }
def stairPlansRow : OpenClaim := { program := "ytaainbbkengjfaa", sum := "2f2de4ed8d4cc05cdc30e66b3f5d2510031140f62a0ad640e6f0115c4e1907ef", func := "gangsaw/gangsawlaw42.StairPlans", spec := "stairPlans", apart := false }
def StairPlansSaid : Prop := stairPlansRow.holds Try.pinned (OpenSpec.ofChange stairPlansSpec)

/-- ITS FALSE NEIGHBOUR: 'it returns false'. Refute it at one input. -/
def stairPlansWrong : ChangeSpec := { name := "stairPlans", fn := fun _ => fun
  | [d1, d2, d3, d4, d5] => { results := [.lit (.bool false)], args := [d1, d2, d3, d4, d5] }
  | _ => none }
def StairPlansWrongFalsely : Prop := stairPlansRow.holds Try.pinned (OpenSpec.ofChange stairPlansWrong)

/-- 'gangsawlaw42.StairStones': WHATEVER THE INPUT: true; the input reads as it did. -/
def stairStonesSpec : ChangeSpec := { name := "stairStones", fn := fun _ => fun
  | [d1, d2] => { results := [.lit (.bool true)], args := [d1, d2] }
  | _ => none }
def stairStonesRow : OpenClaim := { program := "ytaainbbkengjfaa", sum := "2f2de4ed8d4cc05cdc30e66b3f5d2510031140f62a0ad640e6f0115c4e1907ef", func := "gangsaw/gangsawlaw42.StairStones", spec := "stairStones", apart := false }
def StairStonesSaid : Prop := stairStonesRow.holds Try.pinned (OpenSpec.ofChange stairStonesSpec)

/-- ITS FALSE NEIGHBOUR: 'it returns false'. Refute it at one input. -/
def stairStonesWrong : ChangeSpec := { name := "stairStones", fn := fun _ => fun
  | [d1, d2] => { results := [.lit (.bool false)], args := [d1, d2] }
  | _ => none }
def StairStonesWrongFalsely : Prop := stairStonesRow.holds Try.pinned (OpenSpec.ofChange stairStonesWrong)

/-- 'gangsawlaw42.StairMeasures': WHATEVER THE INPUT: true; the input reads as it did. -/
def stairMeasuresSpec : ChangeSpec := { name := "stairMeasures", fn := fun _ => fun
  | [d1, d2, d3, d4, d5, d6] => { results := [.lit (.bool true)], args := [d1, d2, d3, d4, d5, d6] }
  | _ => none }
def stairMeasuresRow : OpenClaim := { program := "ytaainbbkengjfaa", sum := "2f2de4ed8d4cc05cdc30e66b3f5d2510031140f62a0ad640e6f0115c4e1907ef", func := "gangsaw/gangsawlaw42.StairMeasures", spec := "stairMeasures", apart := false }
def StairMeasuresSaid : Prop := stairMeasuresRow.holds Try.pinned (OpenSpec.ofChange stairMeasuresSpec)

/-- ITS FALSE NEIGHBOUR: 'it returns false'. Refute it at one input. -/
def stairMeasuresWrong : ChangeSpec := { name := "stairMeasures", fn := fun _ => fun
  | [d1, d2, d3, d4, d5, d6] => { results := [.lit (.bool false)], args := [d1, d2, d3, d4, d5, d6] }
  | _ => none }
def StairMeasuresWrongFalsely : Prop := stairMeasuresRow.holds Try.pinned (OpenSpec.ofChange stairMeasuresWrong)

/-- 'gangsawlaw42.StairFewest': WHATEVER THE INPUT: true; the input reads as it did. -/
def stairFewestSpec : ChangeSpec := { name := "stairFewest", fn := fun _ => fun
  | [d1, d2, d3, d4, d5, d6] => { results := [.lit (.bool true)], args := [d1, d2, d3, d4, d5, d6] }
  | _ => none }
def stairFewestRow : OpenClaim := { program := "ytaainbbkengjfaa", sum := "2f2de4ed8d4cc05cdc30e66b3f5d2510031140f62a0ad640e6f0115c4e1907ef", func := "gangsaw/gangsawlaw42.StairFewest", spec := "stairFewest", apart := false }
def StairFewestSaid : Prop := stairFewestRow.holds Try.pinned (OpenSpec.ofChange stairFewestSpec)

/-- ITS FALSE NEIGHBOUR: 'it returns false'. Refute it at one input. -/
def stairFewestWrong : ChangeSpec := { name := "stairFewest", fn := fun _ => fun
  | [d1, d2, d3, d4, d5, d6] => { results := [.lit (.bool false)], args := [d1, d2, d3, d4, d5, d6] }
  | _ => none }
def StairFewestWrongFalsely : Prop := stairFewestRow.holds Try.pinned (OpenSpec.ofChange stairFewestWrong)

/-- 'gangsawlaw42.StairLies': WHATEVER THE INPUT: true; the input reads as it did. -/
def stairLiesSpec : ChangeSpec := { name := "stairLies", fn := fun _ => fun
  | [d] => { results := [.lit (.bool true)], args := [d] }
  | _ => none }
def stairLiesRow : OpenClaim := { program := "ytaainbbkengjfaa", sum := "2f2de4ed8d4cc05cdc30e66b3f5d2510031140f62a0ad640e6f0115c4e1907ef", func := "gangsaw/gangsawlaw42.StairLies", spec := "stairLies", apart := false }
def StairLiesSaid : Prop := stairLiesRow.holds Try.pinned (OpenSpec.ofChange stairLiesSpec)

/-- ITS FALSE NEIGHBOUR: 'it returns false'. Refute it at one input. -/
def stairLiesWrong : ChangeSpec := { name := "stairLies", fn := fun _ => fun
  | [d] => { results := [.lit (.bool false)], args := [d] }
  | _ => none }
def StairLiesWrongFalsely : Prop := stairLiesRow.holds Try.pinned (OpenSpec.ofChange stairLiesWrong)

/-- 'gangsawlaw42.StairLevels': WHATEVER THE INPUT: true; the input reads as it did. -/
def stairLevelsSpec : ChangeSpec := { name := "stairLevels", fn := fun _ => fun
  | [d] => { results := [.lit (.bool true)], args := [d] }
  | _ => none }
def stairLevelsRow : OpenClaim := { program := "ytaainbbkengjfaa", sum := "2f2de4ed8d4cc05cdc30e66b3f5d2510031140f62a0ad640e6f0115c4e1907ef", func := "gangsaw/gangsawlaw42.StairLevels", spec := "stairLevels", apart := false }
def StairLevelsSaid : Prop := stairLevelsRow.holds Try.pinned (OpenSpec.ofChange stairLevelsSpec)

/-- ITS FALSE NEIGHBOUR: 'it returns false'. Refute it at one input. -/
def stairLevelsWrong : ChangeSpec := { name := "stairLevels", fn := fun _ => fun
  | [d] => { results := [.lit (.bool false)], args := [d] }
  | _ => none }
def StairLevelsWrongFalsely : Prop := stairLevelsRow.holds Try.pinned (OpenSpec.ofChange stairLevelsWrong)

/-- 'gangsawlaw42.StairSpread': WHATEVER THE INPUT: true; the input reads as it did. -/
def stairSpreadSpec : ChangeSpec := { name := "stairSpread", fn := fun _ => fun
  | [d1, d2, d3] => { results := [.lit (.bool true)], args := [d1, d2, d3] }
  | _ => none }
def stairSpreadRow : OpenClaim := { program := "ytaainbbkengjfaa", sum := "2f2de4ed8d4cc05cdc30e66b3f5d2510031140f62a0ad640e6f0115c4e1907ef", func := "gangsaw/gangsawlaw42.StairSpread", spec := "stairSpread", apart := false }
def StairSpreadSaid : Prop := stairSpreadRow.holds Try.pinned (OpenSpec.ofChange stairSpreadSpec)

/-- ITS FALSE NEIGHBOUR: 'it returns false'. Refute it at one input. -/
def stairSpreadWrong : ChangeSpec := { name := "stairSpread", fn := fun _ => fun
  | [d1, d2, d3] => { results := [.lit (.bool false)], args := [d1, d2, d3] }
  | _ => none }
def StairSpreadWrongFalsely : Prop := stairSpreadRow.holds Try.pinned (OpenSpec.ofChange stairSpreadWrong)

/- THE SECOND FORM. 'bulk': how many values and letters a reading holds, each counted each time it is reached (what is shared counts as often as it is met; a slice's spare places count too). A statement '..UptoSaid' is the law's where the arguments, and the package variables that the reading takes, are together of bulk at most 1048576: NARROWER than '..Said'. Prove '..Said' where nothing that the law and all that it calls make is longer than what came in: it says more and counts as full. Else prove '..UptoSaid'. A law counts once. -/
mutual
def uptoBulk {H : Type} : DataW H → Nat
  | .lit (.string bytes) => bytes.length + 1
  | .lit _ => 1
  | .nil => 1
  | .ptr d => uptoBulk d + 1
  | .slice elems spare => uptoBulkAll elems + uptoBulkAll spare + 1
  | .agg parts => uptoBulkAll parts + 1
  | .iface _ d => uptoBulk d + 1
  | .map entries => uptoBulkEntries entries + 1
  | .held _ => 1
def uptoBulkAll {H : Type} : List (DataW H) → Nat
  | [] => 0
  | d :: r => uptoBulk d + uptoBulkAll r
def uptoBulkEntries {H : Type} : List (Lit × DataW H) → Nat
  | [] => 0
  | x :: r => uptoBulkEntry x + uptoBulkEntries r
def uptoBulkEntry {H : Type} : Lit × DataW H → Nat
  | (.string bytes, d) => bytes.length + uptoBulk d + 1
  | (_, d) => uptoBulk d + 1
 end
def uptoSmall : (H : Type) → List (DataW H) → Bool := fun _ ds => decide (uptoBulkAll ds ≤ 1048576)
def OpenSpec.upto (s : _root_.Go.ChangeSpec) : _root_.Go.OpenSpec := { _root_.Go.OpenSpec.ofChange s with cond := some uptoSmall }

/-- 'gangsawlaw42.StairChecks', WHERE WHAT IT READS IS OF BULK AT MOST 1048576: true; the input reads as it did. -/
def stairChecksUptoRow : OpenClaim := { program := "ytaainbbkengjfaa", sum := "2f2de4ed8d4cc05cdc30e66b3f5d2510031140f62a0ad640e6f0115c4e1907ef", func := "gangsaw/gangsawlaw42.StairChecks", spec := "stairChecks", apart := false, narrowed := true }
def StairChecksUptoSaid : Prop := stairChecksUptoRow.holds Try.pinned (OpenSpec.upto stairChecksSpec)

/-- 'gangsawlaw42.StairPlans', WHERE WHAT IT READS IS OF BULK AT MOST 1048576: true; the input reads as it did. -/
def stairPlansUptoRow : OpenClaim := { program := "ytaainbbkengjfaa", sum := "2f2de4ed8d4cc05cdc30e66b3f5d2510031140f62a0ad640e6f0115c4e1907ef", func := "gangsaw/gangsawlaw42.StairPlans", spec := "stairPlans", apart := false, narrowed := true }
def StairPlansUptoSaid : Prop := stairPlansUptoRow.holds Try.pinned (OpenSpec.upto stairPlansSpec)

/-- 'gangsawlaw42.StairStones', WHERE WHAT IT READS IS OF BULK AT MOST 1048576: true; the input reads as it did. -/
def stairStonesUptoRow : OpenClaim := { program := "ytaainbbkengjfaa", sum := "2f2de4ed8d4cc05cdc30e66b3f5d2510031140f62a0ad640e6f0115c4e1907ef", func := "gangsaw/gangsawlaw42.StairStones", spec := "stairStones", apart := false, narrowed := true }
def StairStonesUptoSaid : Prop := stairStonesUptoRow.holds Try.pinned (OpenSpec.upto stairStonesSpec)

/-- 'gangsawlaw42.StairMeasures', WHERE WHAT IT READS IS OF BULK AT MOST 1048576: true; the input reads as it did. -/
def stairMeasuresUptoRow : OpenClaim := { program := "ytaainbbkengjfaa", sum := "2f2de4ed8d4cc05cdc30e66b3f5d2510031140f62a0ad640e6f0115c4e1907ef", func := "gangsaw/gangsawlaw42.StairMeasures", spec := "stairMeasures", apart := false, narrowed := true }
def StairMeasuresUptoSaid : Prop := stairMeasuresUptoRow.holds Try.pinned (OpenSpec.upto stairMeasuresSpec)

/-- 'gangsawlaw42.StairFewest', WHERE WHAT IT READS IS OF BULK AT MOST 1048576: true; the input reads as it did. -/
def stairFewestUptoRow : OpenClaim := { program := "ytaainbbkengjfaa", sum := "2f2de4ed8d4cc05cdc30e66b3f5d2510031140f62a0ad640e6f0115c4e1907ef", func := "gangsaw/gangsawlaw42.StairFewest", spec := "stairFewest", apart := false, narrowed := true }
def StairFewestUptoSaid : Prop := stairFewestUptoRow.holds Try.pinned (OpenSpec.upto stairFewestSpec)

/-- 'gangsawlaw42.StairLies', WHERE WHAT IT READS IS OF BULK AT MOST 1048576: true; the input reads as it did. -/
def stairLiesUptoRow : OpenClaim := { program := "ytaainbbkengjfaa", sum := "2f2de4ed8d4cc05cdc30e66b3f5d2510031140f62a0ad640e6f0115c4e1907ef", func := "gangsaw/gangsawlaw42.StairLies", spec := "stairLies", apart := false, narrowed := true }
def StairLiesUptoSaid : Prop := stairLiesUptoRow.holds Try.pinned (OpenSpec.upto stairLiesSpec)

/-- 'gangsawlaw42.StairLevels', WHERE WHAT IT READS IS OF BULK AT MOST 1048576: true; the input reads as it did. -/
def stairLevelsUptoRow : OpenClaim := { program := "ytaainbbkengjfaa", sum := "2f2de4ed8d4cc05cdc30e66b3f5d2510031140f62a0ad640e6f0115c4e1907ef", func := "gangsaw/gangsawlaw42.StairLevels", spec := "stairLevels", apart := false, narrowed := true }
def StairLevelsUptoSaid : Prop := stairLevelsUptoRow.holds Try.pinned (OpenSpec.upto stairLevelsSpec)

/-- 'gangsawlaw42.StairSpread', WHERE WHAT IT READS IS OF BULK AT MOST 1048576: true; the input reads as it did. -/
def stairSpreadUptoRow : OpenClaim := { program := "ytaainbbkengjfaa", sum := "2f2de4ed8d4cc05cdc30e66b3f5d2510031140f62a0ad640e6f0115c4e1907ef", func := "gangsaw/gangsawlaw42.StairSpread", spec := "stairSpread", apart := false, narrowed := true }
def StairSpreadUptoSaid : Prop := stairSpreadUptoRow.holds Try.pinned (OpenSpec.upto stairSpreadSpec)

end Rows
end Go.Proofs.Ytaainbbkengjfaa
