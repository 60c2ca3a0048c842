/-
  No cell of these rows narrows 'for every input' (looked for: loops, veiled, ifaces, maps, wideKeys, modest, calm, conditions, laid).
  DERIVED. THE GIVEN ROWS OF THIS SEAT. 7 by the template 'for every input the law returns true; each argument reads behind the call as it read before'; 0 by the template 'total and deterministic' (their statements: YtmmmmgdafifpiaaTotals.lean).
  GIVEN WITH THE SEED: the statements are not yours to turn. If you find one false, say at which input.
  Laid BY PROGRAM, IN A SANDBOX (cutbox-rows.mjs): the forced cells as the released guide's own fill.sh prints them over the translation 35ce8bae2cc345d3… (all of the seat's roots in one cut). By AI agents, Wed Nov 11 2026. No macro, syntax, notation, axiom, sorry.
-/
import Derived.Test.YtmmmmgdafifpiaaChecked
import GoSem.Claim
import GoSem.ClaimJoined
import GoSem.ClaimMapViews
import Derived.JoinedTies
import Derived.KernelRfl
namespace Go.Proofs.Ytmmmmgdafifpiaa
/- THE CELL 'sum', in the pinned program and in every row, IS THE sha256 OF THE DUMP (.gsa) THAT YtmmmmgdafifpiaaProg.lean LOADS. Nothing in Lean hashes anything: it is a label: what it is worth is what the hold of that sum in a sandbox is worth. -/
noncomputable def Try.pinned : Pinned := { name := "ytmmmmgdafifpiaa", sum := "35ce8bae2cc345d33cef50d795578326330f8684eaf73f45e14c7d30440badd1", checked := Try.checked }
namespace Rows
def none {H : Type} : Left H := { results := [], args := [] }

/-- 'gangsawlaw44.AnchorNeeds': WHATEVER THE INPUT: true; the input reads as it did. -/
def anchorNeedsSpec : ChangeSpec := { name := "anchorNeeds", fn := fun _ => fun
  | [d1, d2, d3] => { results := [.lit (.bool true)], args := [d1, d2, d3] }
  | _ => none }
def anchorNeedsRow : OpenClaim := { program := "ytmmmmgdafifpiaa", sum := "35ce8bae2cc345d33cef50d795578326330f8684eaf73f45e14c7d30440badd1", func := "gangsaw/gangsawlaw44.AnchorNeeds", spec := "anchorNeeds", unfollowed := true, recurses := true, apart := false }
def AnchorNeedsSaid : Prop := anchorNeedsRow.holds Try.pinned (OpenSpec.ofChange anchorNeedsSpec)

/-- ITS FALSE NEIGHBOUR: 'it returns false'. Refute it at one input. -/
def anchorNeedsWrong : ChangeSpec := { name := "anchorNeeds", fn := fun _ => fun
  | [d1, d2, d3] => { results := [.lit (.bool false)], args := [d1, d2, d3] }
  | _ => none }
def AnchorNeedsWrongFalsely : Prop := anchorNeedsRow.holds Try.pinned (OpenSpec.ofChange anchorNeedsWrong)

/-- 'gangsawlaw44.AnchorRows': WHATEVER THE INPUT: true; the input reads as it did. -/
def anchorRowsSpec : ChangeSpec := { name := "anchorRows", fn := fun _ => fun
  | [d1, d2, d3, d4] => { results := [.lit (.bool true)], args := [d1, d2, d3, d4] }
  | _ => none }
def anchorRowsRow : OpenClaim := { program := "ytmmmmgdafifpiaa", sum := "35ce8bae2cc345d33cef50d795578326330f8684eaf73f45e14c7d30440badd1", func := "gangsaw/gangsawlaw44.AnchorRows", spec := "anchorRows", unfollowed := true, recurses := true, apart := false }
def AnchorRowsSaid : Prop := anchorRowsRow.holds Try.pinned (OpenSpec.ofChange anchorRowsSpec)

/-- ITS FALSE NEIGHBOUR: 'it returns false'. Refute it at one input. -/
def anchorRowsWrong : ChangeSpec := { name := "anchorRows", fn := fun _ => fun
  | [d1, d2, d3, d4] => { results := [.lit (.bool false)], args := [d1, d2, d3, d4] }
  | _ => none }
def AnchorRowsWrongFalsely : Prop := anchorRowsRow.holds Try.pinned (OpenSpec.ofChange anchorRowsWrong)

/-- 'gangsawlaw44.AnchorChecks': WHATEVER THE INPUT: true; the input reads as it did. -/
def anchorChecksSpec : ChangeSpec := { name := "anchorChecks", fn := fun _ => fun
  | [d1, d2, d3, d4] => { results := [.lit (.bool true)], args := [d1, d2, d3, d4] }
  | _ => none }
def anchorChecksRow : OpenClaim := { program := "ytmmmmgdafifpiaa", sum := "35ce8bae2cc345d33cef50d795578326330f8684eaf73f45e14c7d30440badd1", func := "gangsaw/gangsawlaw44.AnchorChecks", spec := "anchorChecks", unfollowed := true, recurses := true, apart := false }
def AnchorChecksSaid : Prop := anchorChecksRow.holds Try.pinned (OpenSpec.ofChange anchorChecksSpec)

/-- ITS FALSE NEIGHBOUR: 'it returns false'. Refute it at one input. -/
def anchorChecksWrong : ChangeSpec := { name := "anchorChecks", fn := fun _ => fun
  | [d1, d2, d3, d4] => { results := [.lit (.bool false)], args := [d1, d2, d3, d4] }
  | _ => none }
def AnchorChecksWrongFalsely : Prop := anchorChecksRow.holds Try.pinned (OpenSpec.ofChange anchorChecksWrong)

/-- 'gangsawlaw44.AnchorKeeps': WHATEVER THE INPUT: true; the input reads as it did. -/
def anchorKeepsSpec : ChangeSpec := { name := "anchorKeeps", fn := fun _ => fun
  | [d1, d2, d3] => { results := [.lit (.bool true)], args := [d1, d2, d3] }
  | _ => none }
def anchorKeepsRow : OpenClaim := { program := "ytmmmmgdafifpiaa", sum := "35ce8bae2cc345d33cef50d795578326330f8684eaf73f45e14c7d30440badd1", func := "gangsaw/gangsawlaw44.AnchorKeeps", spec := "anchorKeeps", unfollowed := true, recurses := true, apart := false }
def AnchorKeepsSaid : Prop := anchorKeepsRow.holds Try.pinned (OpenSpec.ofChange anchorKeepsSpec)

/-- ITS FALSE NEIGHBOUR: 'it returns false'. Refute it at one input. -/
def anchorKeepsWrong : ChangeSpec := { name := "anchorKeeps", fn := fun _ => fun
  | [d1, d2, d3] => { results := [.lit (.bool false)], args := [d1, d2, d3] }
  | _ => none }
def AnchorKeepsWrongFalsely : Prop := anchorKeepsRow.holds Try.pinned (OpenSpec.ofChange anchorKeepsWrong)

/-- 'gangsawlaw44.AnchorOrder': WHATEVER THE INPUT: true; the input reads as it did. -/
def anchorOrderSpec : ChangeSpec := { name := "anchorOrder", fn := fun _ => fun
  | [d1, d2, d3] => { results := [.lit (.bool true)], args := [d1, d2, d3] }
  | _ => none }
def anchorOrderRow : OpenClaim := { program := "ytmmmmgdafifpiaa", sum := "35ce8bae2cc345d33cef50d795578326330f8684eaf73f45e14c7d30440badd1", func := "gangsaw/gangsawlaw44.AnchorOrder", spec := "anchorOrder", unfollowed := true, recurses := true, apart := false }
def AnchorOrderSaid : Prop := anchorOrderRow.holds Try.pinned (OpenSpec.ofChange anchorOrderSpec)

/-- ITS FALSE NEIGHBOUR: 'it returns false'. Refute it at one input. -/
def anchorOrderWrong : ChangeSpec := { name := "anchorOrder", fn := fun _ => fun
  | [d1, d2, d3] => { results := [.lit (.bool false)], args := [d1, d2, d3] }
  | _ => none }
def AnchorOrderWrongFalsely : Prop := anchorOrderRow.holds Try.pinned (OpenSpec.ofChange anchorOrderWrong)

/-- 'gangsawlaw44.AnchorClashes': WHATEVER THE INPUT: true; the input reads as it did. -/
def anchorClashesSpec : ChangeSpec := { name := "anchorClashes", fn := fun _ => fun
  | [d1, d2, d3, d4] => { results := [.lit (.bool true)], args := [d1, d2, d3, d4] }
  | _ => none }
def anchorClashesRow : OpenClaim := { program := "ytmmmmgdafifpiaa", sum := "35ce8bae2cc345d33cef50d795578326330f8684eaf73f45e14c7d30440badd1", func := "gangsaw/gangsawlaw44.AnchorClashes", spec := "anchorClashes", unfollowed := true, recurses := true, apart := false }
def AnchorClashesSaid : Prop := anchorClashesRow.holds Try.pinned (OpenSpec.ofChange anchorClashesSpec)

/-- ITS FALSE NEIGHBOUR: 'it returns false'. Refute it at one input. -/
def anchorClashesWrong : ChangeSpec := { name := "anchorClashes", fn := fun _ => fun
  | [d1, d2, d3, d4] => { results := [.lit (.bool false)], args := [d1, d2, d3, d4] }
  | _ => none }
def AnchorClashesWrongFalsely : Prop := anchorClashesRow.holds Try.pinned (OpenSpec.ofChange anchorClashesWrong)

/-- 'gangsawlaw44.AnchorMirrors': WHATEVER THE INPUT: true; the input reads as it did. -/
def anchorMirrorsSpec : ChangeSpec := { name := "anchorMirrors", fn := fun _ => fun
  | [d1, d2, d3] => { results := [.lit (.bool true)], args := [d1, d2, d3] }
  | _ => none }
def anchorMirrorsRow : OpenClaim := { program := "ytmmmmgdafifpiaa", sum := "35ce8bae2cc345d33cef50d795578326330f8684eaf73f45e14c7d30440badd1", func := "gangsaw/gangsawlaw44.AnchorMirrors", spec := "anchorMirrors", unfollowed := true, recurses := true, apart := false }
def AnchorMirrorsSaid : Prop := anchorMirrorsRow.holds Try.pinned (OpenSpec.ofChange anchorMirrorsSpec)

/-- ITS FALSE NEIGHBOUR: 'it returns false'. Refute it at one input. -/
def anchorMirrorsWrong : ChangeSpec := { name := "anchorMirrors", fn := fun _ => fun
  | [d1, d2, d3] => { results := [.lit (.bool false)], args := [d1, d2, d3] }
  | _ => none }
def AnchorMirrorsWrongFalsely : Prop := anchorMirrorsRow.holds Try.pinned (OpenSpec.ofChange anchorMirrorsWrong)

/- THE SECOND FORM. 'bulk': how many values and letters a reading holds, each counted each time it is reached (what is shared counts as often as it is met; a slice's spare places count too). A statement '..UptoSaid' is the law's where the arguments, and the package variables that the reading takes, are together of bulk at most 1048576: NARROWER than '..Said'. Prove '..Said' where nothing that the law and all that it calls make is longer than what came in: it says more and counts as full. Else prove '..UptoSaid'. A law counts once. -/
mutual
def uptoBulk {H : Type} : DataW H → Nat
  | .lit (.string bytes) => bytes.length + 1
  | .lit _ => 1
  | .nil => 1
  | .ptr d => uptoBulk d + 1
  | .slice elems spare => uptoBulkAll elems + uptoBulkAll spare + 1
  | .agg parts => uptoBulkAll parts + 1
  | .iface _ d => uptoBulk d + 1
  | .map entries => uptoBulkEntries entries + 1
  | .held _ => 1
def uptoBulkAll {H : Type} : List (DataW H) → Nat
  | [] => 0
  | d :: r => uptoBulk d + uptoBulkAll r
def uptoBulkEntries {H : Type} : List (Lit × DataW H) → Nat
  | [] => 0
  | x :: r => uptoBulkEntry x + uptoBulkEntries r
def uptoBulkEntry {H : Type} : Lit × DataW H → Nat
  | (.string bytes, d) => bytes.length + uptoBulk d + 1
  | (_, d) => uptoBulk d + 1
 end
def uptoSmall : (H : Type) → List (DataW H) → Bool := fun _ ds => decide (uptoBulkAll ds ≤ 1048576)
def OpenSpec.upto (s : _root_.Go.ChangeSpec) : _root_.Go.OpenSpec := { _root_.Go.OpenSpec.ofChange s with cond := some uptoSmall }

/-- 'gangsawlaw44.AnchorNeeds', WHERE WHAT IT READS IS OF BULK AT MOST 1048576: true; the input reads as it did. -/
def anchorNeedsUptoRow : OpenClaim := { program := "ytmmmmgdafifpiaa", sum := "35ce8bae2cc345d33cef50d795578326330f8684eaf73f45e14c7d30440badd1", func := "gangsaw/gangsawlaw44.AnchorNeeds", spec := "anchorNeeds", unfollowed := true, recurses := true, apart := false, narrowed := true }
def AnchorNeedsUptoSaid : Prop := anchorNeedsUptoRow.holds Try.pinned (OpenSpec.upto anchorNeedsSpec)

/-- 'gangsawlaw44.AnchorRows', WHERE WHAT IT READS IS OF BULK AT MOST 1048576: true; the input reads as it did. -/
def anchorRowsUptoRow : OpenClaim := { program := "ytmmmmgdafifpiaa", sum := "35ce8bae2cc345d33cef50d795578326330f8684eaf73f45e14c7d30440badd1", func := "gangsaw/gangsawlaw44.AnchorRows", spec := "anchorRows", unfollowed := true, recurses := true, apart := false, narrowed := true }
def AnchorRowsUptoSaid : Prop := anchorRowsUptoRow.holds Try.pinned (OpenSpec.upto anchorRowsSpec)

/-- 'gangsawlaw44.AnchorChecks', WHERE WHAT IT READS IS OF BULK AT MOST 1048576: true; the input reads as it did. -/
def anchorChecksUptoRow : OpenClaim := { program := "ytmmmmgdafifpiaa", sum := "35ce8bae2cc345d33cef50d795578326330f8684eaf73f45e14c7d30440badd1", func := "gangsaw/gangsawlaw44.AnchorChecks", spec := "anchorChecks", unfollowed := true, recurses := true, apart := false, narrowed := true }
def AnchorChecksUptoSaid : Prop := anchorChecksUptoRow.holds Try.pinned (OpenSpec.upto anchorChecksSpec)

/-- 'gangsawlaw44.AnchorKeeps', WHERE WHAT IT READS IS OF BULK AT MOST 1048576: true; the input reads as it did. -/
def anchorKeepsUptoRow : OpenClaim := { program := "ytmmmmgdafifpiaa", sum := "35ce8bae2cc345d33cef50d795578326330f8684eaf73f45e14c7d30440badd1", func := "gangsaw/gangsawlaw44.AnchorKeeps", spec := "anchorKeeps", unfollowed := true, recurses := true, apart := false, narrowed := true }
def AnchorKeepsUptoSaid : Prop := anchorKeepsUptoRow.holds Try.pinned (OpenSpec.upto anchorKeepsSpec)

/-- 'gangsawlaw44.AnchorOrder', WHERE WHAT IT READS IS OF BULK AT MOST 1048576: true; the input reads as it did. -/
def anchorOrderUptoRow : OpenClaim := { program := "ytmmmmgdafifpiaa", sum := "35ce8bae2cc345d33cef50d795578326330f8684eaf73f45e14c7d30440badd1", func := "gangsaw/gangsawlaw44.AnchorOrder", spec := "anchorOrder", unfollowed := true, recurses := true, apart := false, narrowed := true }
def AnchorOrderUptoSaid : Prop := anchorOrderUptoRow.holds Try.pinned (OpenSpec.upto anchorOrderSpec)

/-- 'gangsawlaw44.AnchorClashes', WHERE WHAT IT READS IS OF BULK AT MOST 1048576: true; the input reads as it did. -/
def anchorClashesUptoRow : OpenClaim := { program := "ytmmmmgdafifpiaa", sum := "35ce8bae2cc345d33cef50d795578326330f8684eaf73f45e14c7d30440badd1", func := "gangsaw/gangsawlaw44.AnchorClashes", spec := "anchorClashes", unfollowed := true, recurses := true, apart := false, narrowed := true }
def AnchorClashesUptoSaid : Prop := anchorClashesUptoRow.holds Try.pinned (OpenSpec.upto anchorClashesSpec)

/-- 'gangsawlaw44.AnchorMirrors', WHERE WHAT IT READS IS OF BULK AT MOST 1048576: true; the input reads as it did. -/
def anchorMirrorsUptoRow : OpenClaim := { program := "ytmmmmgdafifpiaa", sum := "35ce8bae2cc345d33cef50d795578326330f8684eaf73f45e14c7d30440badd1", func := "gangsaw/gangsawlaw44.AnchorMirrors", spec := "anchorMirrors", unfollowed := true, recurses := true, apart := false, narrowed := true }
def AnchorMirrorsUptoSaid : Prop := anchorMirrorsUptoRow.holds Try.pinned (OpenSpec.upto anchorMirrorsSpec)

end Rows
end Go.Proofs.Ytmmmmgdafifpiaa
