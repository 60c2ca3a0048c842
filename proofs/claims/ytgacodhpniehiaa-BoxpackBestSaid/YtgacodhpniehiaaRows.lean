/-
  No cell of these rows narrows 'for every input' (looked for: loops, veiled, ifaces, maps, wideKeys, modest, calm, conditions, laid).
  DERIVED. THE GIVEN ROWS OF THIS SEAT. 7 by the template 'for every input the law returns true; each argument reads behind the call as it read before'; 0 by the template 'total and deterministic' (their statements: YtgacodhpniehiaaTotals.lean).
  GIVEN WITH THE SEED: the statements are not yours to turn. If you find one false, say at which input.
  Laid BY PROGRAM, IN A SANDBOX (cutbox-rows.mjs): the forced cells as the released guide's own fill.sh prints them over the translation 3455bea6574ee4d1… (all of the seat's roots in one cut). By AI agents, Wed Nov 11 2026. No macro, syntax, notation, axiom, sorry.
-/
import Derived.Test.YtgacodhpniehiaaChecked
import GoSem.Claim
import GoSem.ClaimJoined
import GoSem.ClaimMapViews
import Derived.JoinedTies
import Derived.KernelRfl
namespace Go.Proofs.Ytgacodhpniehiaa
/- THE CELL 'sum', in the pinned program and in every row, IS THE sha256 OF THE DUMP (.gsa) THAT YtgacodhpniehiaaProg.lean LOADS. Nothing in Lean hashes anything: it is a label: what it is worth is what the hold of that sum in a sandbox is worth. -/
noncomputable def Try.pinned : Pinned := { name := "ytgacodhpniehiaa", sum := "3455bea6574ee4d1506becbc29b769968eaae1ea2549b9f21937a8f94e7a5780", checked := Try.checked }
namespace Rows
def none {H : Type} : Left H := { results := [], args := [] }

/-- 'gangsawlaw26.BoxpackValues': WHATEVER THE INPUT: true; the input reads as it did. -/
def boxpackValuesSpec : ChangeSpec := { name := "boxpackValues", fn := fun _ => fun
  | [d1, d2] => { results := [.lit (.bool true)], args := [d1, d2] }
  | _ => none }
def boxpackValuesRow : OpenClaim := { program := "ytgacodhpniehiaa", sum := "3455bea6574ee4d1506becbc29b769968eaae1ea2549b9f21937a8f94e7a5780", func := "gangsaw/gangsawlaw26.BoxpackValues", spec := "boxpackValues", unfollowed := true, recurses := true, apart := false }
def BoxpackValuesSaid : Prop := boxpackValuesRow.holds Try.pinned (OpenSpec.ofChange boxpackValuesSpec)

/-- ITS FALSE NEIGHBOUR: 'it returns false'. Refute it at one input. -/
def boxpackValuesWrong : ChangeSpec := { name := "boxpackValues", fn := fun _ => fun
  | [d1, d2] => { results := [.lit (.bool false)], args := [d1, d2] }
  | _ => none }
def BoxpackValuesWrongFalsely : Prop := boxpackValuesRow.holds Try.pinned (OpenSpec.ofChange boxpackValuesWrong)

/-- 'gangsawlaw26.BoxpackBest': WHATEVER THE INPUT: true; the input reads as it did. -/
def boxpackBestSpec : ChangeSpec := { name := "boxpackBest", fn := fun _ => fun
  | [d] => { results := [.lit (.bool true)], args := [d] }
  | _ => none }
def boxpackBestRow : OpenClaim := { program := "ytgacodhpniehiaa", sum := "3455bea6574ee4d1506becbc29b769968eaae1ea2549b9f21937a8f94e7a5780", func := "gangsaw/gangsawlaw26.BoxpackBest", spec := "boxpackBest", unfollowed := true, recurses := true, apart := false }
def BoxpackBestSaid : Prop := boxpackBestRow.holds Try.pinned (OpenSpec.ofChange boxpackBestSpec)

/-- ITS FALSE NEIGHBOUR: 'it returns false'. Refute it at one input. -/
def boxpackBestWrong : ChangeSpec := { name := "boxpackBest", fn := fun _ => fun
  | [d] => { results := [.lit (.bool false)], args := [d] }
  | _ => none }
def BoxpackBestWrongFalsely : Prop := boxpackBestRow.holds Try.pinned (OpenSpec.ofChange boxpackBestWrong)

/-- 'gangsawlaw26.BoxpackTables': WHATEVER THE INPUT: true; the input reads as it did. -/
def boxpackTablesSpec : ChangeSpec := { name := "boxpackTables", fn := fun _ => fun
  | [d1, d2] => { results := [.lit (.bool true)], args := [d1, d2] }
  | _ => none }
def boxpackTablesRow : OpenClaim := { program := "ytgacodhpniehiaa", sum := "3455bea6574ee4d1506becbc29b769968eaae1ea2549b9f21937a8f94e7a5780", func := "gangsaw/gangsawlaw26.BoxpackTables", spec := "boxpackTables", unfollowed := true, recurses := true, apart := false }
def BoxpackTablesSaid : Prop := boxpackTablesRow.holds Try.pinned (OpenSpec.ofChange boxpackTablesSpec)

/-- ITS FALSE NEIGHBOUR: 'it returns false'. Refute it at one input. -/
def boxpackTablesWrong : ChangeSpec := { name := "boxpackTables", fn := fun _ => fun
  | [d1, d2] => { results := [.lit (.bool false)], args := [d1, d2] }
  | _ => none }
def BoxpackTablesWrongFalsely : Prop := boxpackTablesRow.holds Try.pinned (OpenSpec.ofChange boxpackTablesWrong)

/-- 'gangsawlaw26.BoxpackProves': WHATEVER THE INPUT: true; the input reads as it did. -/
def boxpackProvesSpec : ChangeSpec := { name := "boxpackProves", fn := fun _ => fun
  | [d1, d2] => { results := [.lit (.bool true)], args := [d1, d2] }
  | _ => none }
def boxpackProvesRow : OpenClaim := { program := "ytgacodhpniehiaa", sum := "3455bea6574ee4d1506becbc29b769968eaae1ea2549b9f21937a8f94e7a5780", func := "gangsaw/gangsawlaw26.BoxpackProves", spec := "boxpackProves", unfollowed := true, recurses := true, apart := false }
def BoxpackProvesSaid : Prop := boxpackProvesRow.holds Try.pinned (OpenSpec.ofChange boxpackProvesSpec)

/-- ITS FALSE NEIGHBOUR: 'it returns false'. Refute it at one input. -/
def boxpackProvesWrong : ChangeSpec := { name := "boxpackProves", fn := fun _ => fun
  | [d1, d2] => { results := [.lit (.bool false)], args := [d1, d2] }
  | _ => none }
def BoxpackProvesWrongFalsely : Prop := boxpackProvesRow.holds Try.pinned (OpenSpec.ofChange boxpackProvesWrong)

/-- 'gangsawlaw26.BoxpackBounds': WHATEVER THE INPUT: true; the input reads as it did. -/
def boxpackBoundsSpec : ChangeSpec := { name := "boxpackBounds", fn := fun _ => fun
  | [d1, d2, d3] => { results := [.lit (.bool true)], args := [d1, d2, d3] }
  | _ => none }
def boxpackBoundsRow : OpenClaim := { program := "ytgacodhpniehiaa", sum := "3455bea6574ee4d1506becbc29b769968eaae1ea2549b9f21937a8f94e7a5780", func := "gangsaw/gangsawlaw26.BoxpackBounds", spec := "boxpackBounds", unfollowed := true, recurses := true, apart := false }
def BoxpackBoundsSaid : Prop := boxpackBoundsRow.holds Try.pinned (OpenSpec.ofChange boxpackBoundsSpec)

/-- ITS FALSE NEIGHBOUR: 'it returns false'. Refute it at one input. -/
def boxpackBoundsWrong : ChangeSpec := { name := "boxpackBounds", fn := fun _ => fun
  | [d1, d2, d3] => { results := [.lit (.bool false)], args := [d1, d2, d3] }
  | _ => none }
def BoxpackBoundsWrongFalsely : Prop := boxpackBoundsRow.holds Try.pinned (OpenSpec.ofChange boxpackBoundsWrong)

/-- 'gangsawlaw26.BoxpackGrows': WHATEVER THE INPUT: true; the input reads as it did. -/
def boxpackGrowsSpec : ChangeSpec := { name := "boxpackGrows", fn := fun _ => fun
  | [d1, d2, d3] => { results := [.lit (.bool true)], args := [d1, d2, d3] }
  | _ => none }
def boxpackGrowsRow : OpenClaim := { program := "ytgacodhpniehiaa", sum := "3455bea6574ee4d1506becbc29b769968eaae1ea2549b9f21937a8f94e7a5780", func := "gangsaw/gangsawlaw26.BoxpackGrows", spec := "boxpackGrows", unfollowed := true, recurses := true, apart := false }
def BoxpackGrowsSaid : Prop := boxpackGrowsRow.holds Try.pinned (OpenSpec.ofChange boxpackGrowsSpec)

/-- ITS FALSE NEIGHBOUR: 'it returns false'. Refute it at one input. -/
def boxpackGrowsWrong : ChangeSpec := { name := "boxpackGrows", fn := fun _ => fun
  | [d1, d2, d3] => { results := [.lit (.bool false)], args := [d1, d2, d3] }
  | _ => none }
def BoxpackGrowsWrongFalsely : Prop := boxpackGrowsRow.holds Try.pinned (OpenSpec.ofChange boxpackGrowsWrong)

/-- 'gangsawlaw26.BoxpackLeast': WHATEVER THE INPUT: true; the input reads as it did. -/
def boxpackLeastSpec : ChangeSpec := { name := "boxpackLeast", fn := fun _ => fun
  | [d1, d2] => { results := [.lit (.bool true)], args := [d1, d2] }
  | _ => none }
def boxpackLeastRow : OpenClaim := { program := "ytgacodhpniehiaa", sum := "3455bea6574ee4d1506becbc29b769968eaae1ea2549b9f21937a8f94e7a5780", func := "gangsaw/gangsawlaw26.BoxpackLeast", spec := "boxpackLeast", unfollowed := true, recurses := true, apart := false }
def BoxpackLeastSaid : Prop := boxpackLeastRow.holds Try.pinned (OpenSpec.ofChange boxpackLeastSpec)

/-- ITS FALSE NEIGHBOUR: 'it returns false'. Refute it at one input. -/
def boxpackLeastWrong : ChangeSpec := { name := "boxpackLeast", fn := fun _ => fun
  | [d1, d2] => { results := [.lit (.bool false)], args := [d1, d2] }
  | _ => none }
def BoxpackLeastWrongFalsely : Prop := boxpackLeastRow.holds Try.pinned (OpenSpec.ofChange boxpackLeastWrong)

/- THE SECOND FORM. 'bulk': how many values and letters a reading holds, each counted each time it is reached (what is shared counts as often as it is met; a slice's spare places count too). A statement '..UptoSaid' is the law's where the arguments, and the package variables that the reading takes, are together of bulk at most 1048576: NARROWER than '..Said'. Prove '..Said' where nothing that the law and all that it calls make is longer than what came in: it says more and counts as full. Else prove '..UptoSaid'. A law counts once. -/
mutual
def uptoBulk {H : Type} : DataW H → Nat
  | .lit (.string bytes) => bytes.length + 1
  | .lit _ => 1
  | .nil => 1
  | .ptr d => uptoBulk d + 1
  | .slice elems spare => uptoBulkAll elems + uptoBulkAll spare + 1
  | .agg parts => uptoBulkAll parts + 1
  | .iface _ d => uptoBulk d + 1
  | .map entries => uptoBulkEntries entries + 1
  | .held _ => 1
def uptoBulkAll {H : Type} : List (DataW H) → Nat
  | [] => 0
  | d :: r => uptoBulk d + uptoBulkAll r
def uptoBulkEntries {H : Type} : List (Lit × DataW H) → Nat
  | [] => 0
  | x :: r => uptoBulkEntry x + uptoBulkEntries r
def uptoBulkEntry {H : Type} : Lit × DataW H → Nat
  | (.string bytes, d) => bytes.length + uptoBulk d + 1
  | (_, d) => uptoBulk d + 1
 end
def uptoSmall : (H : Type) → List (DataW H) → Bool := fun _ ds => decide (uptoBulkAll ds ≤ 1048576)
def OpenSpec.upto (s : _root_.Go.ChangeSpec) : _root_.Go.OpenSpec := { _root_.Go.OpenSpec.ofChange s with cond := some uptoSmall }

/-- 'gangsawlaw26.BoxpackValues', WHERE WHAT IT READS IS OF BULK AT MOST 1048576: true; the input reads as it did. -/
def boxpackValuesUptoRow : OpenClaim := { program := "ytgacodhpniehiaa", sum := "3455bea6574ee4d1506becbc29b769968eaae1ea2549b9f21937a8f94e7a5780", func := "gangsaw/gangsawlaw26.BoxpackValues", spec := "boxpackValues", unfollowed := true, recurses := true, apart := false, narrowed := true }
def BoxpackValuesUptoSaid : Prop := boxpackValuesUptoRow.holds Try.pinned (OpenSpec.upto boxpackValuesSpec)

/-- 'gangsawlaw26.BoxpackBest', WHERE WHAT IT READS IS OF BULK AT MOST 1048576: true; the input reads as it did. -/
def boxpackBestUptoRow : OpenClaim := { program := "ytgacodhpniehiaa", sum := "3455bea6574ee4d1506becbc29b769968eaae1ea2549b9f21937a8f94e7a5780", func := "gangsaw/gangsawlaw26.BoxpackBest", spec := "boxpackBest", unfollowed := true, recurses := true, apart := false, narrowed := true }
def BoxpackBestUptoSaid : Prop := boxpackBestUptoRow.holds Try.pinned (OpenSpec.upto boxpackBestSpec)

/-- 'gangsawlaw26.BoxpackTables', WHERE WHAT IT READS IS OF BULK AT MOST 1048576: true; the input reads as it did. -/
def boxpackTablesUptoRow : OpenClaim := { program := "ytgacodhpniehiaa", sum := "3455bea6574ee4d1506becbc29b769968eaae1ea2549b9f21937a8f94e7a5780", func := "gangsaw/gangsawlaw26.BoxpackTables", spec := "boxpackTables", unfollowed := true, recurses := true, apart := false, narrowed := true }
def BoxpackTablesUptoSaid : Prop := boxpackTablesUptoRow.holds Try.pinned (OpenSpec.upto boxpackTablesSpec)

/-- 'gangsawlaw26.BoxpackProves', WHERE WHAT IT READS IS OF BULK AT MOST 1048576: true; the input reads as it did. -/
def boxpackProvesUptoRow : OpenClaim := { program := "ytgacodhpniehiaa", sum := "3455bea6574ee4d1506becbc29b769968eaae1ea2549b9f21937a8f94e7a5780", func := "gangsaw/gangsawlaw26.BoxpackProves", spec := "boxpackProves", unfollowed := true, recurses := true, apart := false, narrowed := true }
def BoxpackProvesUptoSaid : Prop := boxpackProvesUptoRow.holds Try.pinned (OpenSpec.upto boxpackProvesSpec)

/-- 'gangsawlaw26.BoxpackBounds', WHERE WHAT IT READS IS OF BULK AT MOST 1048576: true; the input reads as it did. -/
def boxpackBoundsUptoRow : OpenClaim := { program := "ytgacodhpniehiaa", sum := "3455bea6574ee4d1506becbc29b769968eaae1ea2549b9f21937a8f94e7a5780", func := "gangsaw/gangsawlaw26.BoxpackBounds", spec := "boxpackBounds", unfollowed := true, recurses := true, apart := false, narrowed := true }
def BoxpackBoundsUptoSaid : Prop := boxpackBoundsUptoRow.holds Try.pinned (OpenSpec.upto boxpackBoundsSpec)

/-- 'gangsawlaw26.BoxpackGrows', WHERE WHAT IT READS IS OF BULK AT MOST 1048576: true; the input reads as it did. -/
def boxpackGrowsUptoRow : OpenClaim := { program := "ytgacodhpniehiaa", sum := "3455bea6574ee4d1506becbc29b769968eaae1ea2549b9f21937a8f94e7a5780", func := "gangsaw/gangsawlaw26.BoxpackGrows", spec := "boxpackGrows", unfollowed := true, recurses := true, apart := false, narrowed := true }
def BoxpackGrowsUptoSaid : Prop := boxpackGrowsUptoRow.holds Try.pinned (OpenSpec.upto boxpackGrowsSpec)

/-- 'gangsawlaw26.BoxpackLeast', WHERE WHAT IT READS IS OF BULK AT MOST 1048576: true; the input reads as it did. -/
def boxpackLeastUptoRow : OpenClaim := { program := "ytgacodhpniehiaa", sum := "3455bea6574ee4d1506becbc29b769968eaae1ea2549b9f21937a8f94e7a5780", func := "gangsaw/gangsawlaw26.BoxpackLeast", spec := "boxpackLeast", unfollowed := true, recurses := true, apart := false, narrowed := true }
def BoxpackLeastUptoSaid : Prop := boxpackLeastUptoRow.holds Try.pinned (OpenSpec.upto boxpackLeastSpec)

end Rows
end Go.Proofs.Ytgacodhpniehiaa
