/-
  No cell of these rows narrows 'for every input' (looked for: loops, veiled, ifaces, maps, wideKeys, modest, calm, conditions, laid).
  DERIVED. THE GIVEN ROWS OF THIS SEAT. 7 by the template 'for every input the law returns true; each argument reads behind the call as it read before'; 0 by the template 'total and deterministic' (their statements: YtjlljjnkjhdljaaTotals.lean).
  GIVEN WITH THE SEED: the statements are not yours to turn. If you find one false, say at which input.
  Laid BY PROGRAM, IN A SANDBOX (cutbox-rows.mjs): the forced cells as the released guide's own fill.sh prints them over the translation 078b8baebb22ee4e… (all of the seat's roots in one cut). By AI agents, Wed Nov 11 2026. No macro, syntax, notation, axiom, sorry.
-/
import Derived.Test.YtjlljjnkjhdljaaChecked
import GoSem.Claim
import GoSem.ClaimJoined
import GoSem.ClaimMapViews
import Derived.JoinedTies
import Derived.KernelRfl
namespace Go.Proofs.Ytjlljjnkjhdljaa
/- THE CELL 'sum', in the pinned program and in every row, IS THE sha256 OF THE DUMP (.gsa) THAT YtjlljjnkjhdljaaProg.lean LOADS. Nothing in Lean hashes anything: it is a label: what it is worth is what the hold of that sum in a sandbox is worth. -/
noncomputable def Try.pinned : Pinned := { name := "ytjlljjnkjhdljaa", sum := "078b8baebb22ee4ea70f54f11fa234a87cb5a08c94ad3ee1370a82aa82ec1431", checked := Try.checked }
namespace Rows
def none {H : Type} : Left H := { results := [], args := [] }

/-- 'gangsawlaw40.ArchKeystones': WHATEVER THE INPUT: true; the input reads as it did. -/
def archKeystonesSpec : ChangeSpec := { name := "archKeystones", fn := fun _ => fun
  | [d] => { results := [.lit (.bool true)], args := [d] }
  | _ => none }
def archKeystonesRow : OpenClaim := { program := "ytjlljjnkjhdljaa", sum := "078b8baebb22ee4ea70f54f11fa234a87cb5a08c94ad3ee1370a82aa82ec1431", func := "gangsaw/gangsawlaw40.ArchKeystones", spec := "archKeystones", unfollowed := true, recurses := true, apart := false }
def ArchKeystonesSaid : Prop := archKeystonesRow.holds Try.pinned (OpenSpec.ofChange archKeystonesSpec)

/-- ITS FALSE NEIGHBOUR: 'it returns false'. Refute it at one input. -/
def archKeystonesWrong : ChangeSpec := { name := "archKeystones", fn := fun _ => fun
  | [d] => { results := [.lit (.bool false)], args := [d] }
  | _ => none }
def ArchKeystonesWrongFalsely : Prop := archKeystonesRow.holds Try.pinned (OpenSpec.ofChange archKeystonesWrong)

/-- 'gangsawlaw40.ArchLines': WHATEVER THE INPUT: true; the input reads as it did. -/
def archLinesSpec : ChangeSpec := { name := "archLines", fn := fun _ => fun
  | [d1, d2] => { results := [.lit (.bool true)], args := [d1, d2] }
  | _ => none }
def archLinesRow : OpenClaim := { program := "ytjlljjnkjhdljaa", sum := "078b8baebb22ee4ea70f54f11fa234a87cb5a08c94ad3ee1370a82aa82ec1431", func := "gangsaw/gangsawlaw40.ArchLines", spec := "archLines", unfollowed := true, recurses := true, apart := false }
def ArchLinesSaid : Prop := archLinesRow.holds Try.pinned (OpenSpec.ofChange archLinesSpec)

/-- ITS FALSE NEIGHBOUR: 'it returns false'. Refute it at one input. -/
def archLinesWrong : ChangeSpec := { name := "archLines", fn := fun _ => fun
  | [d1, d2] => { results := [.lit (.bool false)], args := [d1, d2] }
  | _ => none }
def ArchLinesWrongFalsely : Prop := archLinesRow.holds Try.pinned (OpenSpec.ofChange archLinesWrong)

/-- 'gangsawlaw40.ArchTemplate': WHATEVER THE INPUT: true; the input reads as it did. -/
def archTemplateSpec : ChangeSpec := { name := "archTemplate", fn := fun _ => fun
  | [d] => { results := [.lit (.bool true)], args := [d] }
  | _ => none }
def archTemplateRow : OpenClaim := { program := "ytjlljjnkjhdljaa", sum := "078b8baebb22ee4ea70f54f11fa234a87cb5a08c94ad3ee1370a82aa82ec1431", func := "gangsaw/gangsawlaw40.ArchTemplate", spec := "archTemplate", unfollowed := true, recurses := true, apart := false }
def ArchTemplateSaid : Prop := archTemplateRow.holds Try.pinned (OpenSpec.ofChange archTemplateSpec)

/-- ITS FALSE NEIGHBOUR: 'it returns false'. Refute it at one input. -/
def archTemplateWrong : ChangeSpec := { name := "archTemplate", fn := fun _ => fun
  | [d] => { results := [.lit (.bool false)], args := [d] }
  | _ => none }
def ArchTemplateWrongFalsely : Prop := archTemplateRow.holds Try.pinned (OpenSpec.ofChange archTemplateWrong)

/-- 'gangsawlaw40.ArchTemplates': WHATEVER THE INPUT: true; the input reads as it did. -/
def archTemplatesSpec : ChangeSpec := { name := "archTemplates", fn := fun _ => fun
  | [d] => { results := [.lit (.bool true)], args := [d] }
  | _ => none }
def archTemplatesRow : OpenClaim := { program := "ytjlljjnkjhdljaa", sum := "078b8baebb22ee4ea70f54f11fa234a87cb5a08c94ad3ee1370a82aa82ec1431", func := "gangsaw/gangsawlaw40.ArchTemplates", spec := "archTemplates", unfollowed := true, recurses := true, apart := false }
def ArchTemplatesSaid : Prop := archTemplatesRow.holds Try.pinned (OpenSpec.ofChange archTemplatesSpec)

/-- ITS FALSE NEIGHBOUR: 'it returns false'. Refute it at one input. -/
def archTemplatesWrong : ChangeSpec := { name := "archTemplates", fn := fun _ => fun
  | [d] => { results := [.lit (.bool false)], args := [d] }
  | _ => none }
def ArchTemplatesWrongFalsely : Prop := archTemplatesRow.holds Try.pinned (OpenSpec.ofChange archTemplatesWrong)

/-- 'gangsawlaw40.ArchMirrors': WHATEVER THE INPUT: true; the input reads as it did. -/
def archMirrorsSpec : ChangeSpec := { name := "archMirrors", fn := fun _ => fun
  | [d] => { results := [.lit (.bool true)], args := [d] }
  | _ => none }
def archMirrorsRow : OpenClaim := { program := "ytjlljjnkjhdljaa", sum := "078b8baebb22ee4ea70f54f11fa234a87cb5a08c94ad3ee1370a82aa82ec1431", func := "gangsaw/gangsawlaw40.ArchMirrors", spec := "archMirrors", unfollowed := true, recurses := true, apart := false }
def ArchMirrorsSaid : Prop := archMirrorsRow.holds Try.pinned (OpenSpec.ofChange archMirrorsSpec)

/-- ITS FALSE NEIGHBOUR: 'it returns false'. Refute it at one input. -/
def archMirrorsWrong : ChangeSpec := { name := "archMirrors", fn := fun _ => fun
  | [d] => { results := [.lit (.bool false)], args := [d] }
  | _ => none }
def ArchMirrorsWrongFalsely : Prop := archMirrorsRow.holds Try.pinned (OpenSpec.ofChange archMirrorsWrong)

/-- 'gangsawlaw40.ArchChecks': WHATEVER THE INPUT: true; the input reads as it did. -/
def archChecksSpec : ChangeSpec := { name := "archChecks", fn := fun _ => fun
  | [d] => { results := [.lit (.bool true)], args := [d] }
  | _ => none }
def archChecksRow : OpenClaim := { program := "ytjlljjnkjhdljaa", sum := "078b8baebb22ee4ea70f54f11fa234a87cb5a08c94ad3ee1370a82aa82ec1431", func := "gangsaw/gangsawlaw40.ArchChecks", spec := "archChecks", unfollowed := true, recurses := true, apart := false }
def ArchChecksSaid : Prop := archChecksRow.holds Try.pinned (OpenSpec.ofChange archChecksSpec)

/-- ITS FALSE NEIGHBOUR: 'it returns false'. Refute it at one input. -/
def archChecksWrong : ChangeSpec := { name := "archChecks", fn := fun _ => fun
  | [d] => { results := [.lit (.bool false)], args := [d] }
  | _ => none }
def ArchChecksWrongFalsely : Prop := archChecksRow.holds Try.pinned (OpenSpec.ofChange archChecksWrong)

/-- 'gangsawlaw40.ArchBack': WHATEVER THE INPUT: true; the input reads as it did. -/
def archBackSpec : ChangeSpec := { name := "archBack", fn := fun _ => fun
  | [d] => { results := [.lit (.bool true)], args := [d] }
  | _ => none }
def archBackRow : OpenClaim := { program := "ytjlljjnkjhdljaa", sum := "078b8baebb22ee4ea70f54f11fa234a87cb5a08c94ad3ee1370a82aa82ec1431", func := "gangsaw/gangsawlaw40.ArchBack", spec := "archBack", unfollowed := true, recurses := true, apart := false }
def ArchBackSaid : Prop := archBackRow.holds Try.pinned (OpenSpec.ofChange archBackSpec)

/-- ITS FALSE NEIGHBOUR: 'it returns false'. Refute it at one input. -/
def archBackWrong : ChangeSpec := { name := "archBack", fn := fun _ => fun
  | [d] => { results := [.lit (.bool false)], args := [d] }
  | _ => none }
def ArchBackWrongFalsely : Prop := archBackRow.holds Try.pinned (OpenSpec.ofChange archBackWrong)

/- THE SECOND FORM. 'bulk': how many values and letters a reading holds, each counted each time it is reached (what is shared counts as often as it is met; a slice's spare places count too). A statement '..UptoSaid' is the law's where the arguments, and the package variables that the reading takes, are together of bulk at most 1048576: NARROWER than '..Said'. Prove '..Said' where nothing that the law and all that it calls make is longer than what came in: it says more and counts as full. Else prove '..UptoSaid'. A law counts once. -/
mutual
def uptoBulk {H : Type} : DataW H → Nat
  | .lit (.string bytes) => bytes.length + 1
  | .lit _ => 1
  | .nil => 1
  | .ptr d => uptoBulk d + 1
  | .slice elems spare => uptoBulkAll elems + uptoBulkAll spare + 1
  | .agg parts => uptoBulkAll parts + 1
  | .iface _ d => uptoBulk d + 1
  | .map entries => uptoBulkEntries entries + 1
  | .held _ => 1
def uptoBulkAll {H : Type} : List (DataW H) → Nat
  | [] => 0
  | d :: r => uptoBulk d + uptoBulkAll r
def uptoBulkEntries {H : Type} : List (Lit × DataW H) → Nat
  | [] => 0
  | x :: r => uptoBulkEntry x + uptoBulkEntries r
def uptoBulkEntry {H : Type} : Lit × DataW H → Nat
  | (.string bytes, d) => bytes.length + uptoBulk d + 1
  | (_, d) => uptoBulk d + 1
 end
def uptoSmall : (H : Type) → List (DataW H) → Bool := fun _ ds => decide (uptoBulkAll ds ≤ 1048576)
def OpenSpec.upto (s : _root_.Go.ChangeSpec) : _root_.Go.OpenSpec := { _root_.Go.OpenSpec.ofChange s with cond := some uptoSmall }

/-- 'gangsawlaw40.ArchKeystones', WHERE WHAT IT READS IS OF BULK AT MOST 1048576: true; the input reads as it did. -/
def archKeystonesUptoRow : OpenClaim := { program := "ytjlljjnkjhdljaa", sum := "078b8baebb22ee4ea70f54f11fa234a87cb5a08c94ad3ee1370a82aa82ec1431", func := "gangsaw/gangsawlaw40.ArchKeystones", spec := "archKeystones", unfollowed := true, recurses := true, apart := false, narrowed := true }
def ArchKeystonesUptoSaid : Prop := archKeystonesUptoRow.holds Try.pinned (OpenSpec.upto archKeystonesSpec)

/-- 'gangsawlaw40.ArchLines', WHERE WHAT IT READS IS OF BULK AT MOST 1048576: true; the input reads as it did. -/
def archLinesUptoRow : OpenClaim := { program := "ytjlljjnkjhdljaa", sum := "078b8baebb22ee4ea70f54f11fa234a87cb5a08c94ad3ee1370a82aa82ec1431", func := "gangsaw/gangsawlaw40.ArchLines", spec := "archLines", unfollowed := true, recurses := true, apart := false, narrowed := true }
def ArchLinesUptoSaid : Prop := archLinesUptoRow.holds Try.pinned (OpenSpec.upto archLinesSpec)

/-- 'gangsawlaw40.ArchTemplate', WHERE WHAT IT READS IS OF BULK AT MOST 1048576: true; the input reads as it did. -/
def archTemplateUptoRow : OpenClaim := { program := "ytjlljjnkjhdljaa", sum := "078b8baebb22ee4ea70f54f11fa234a87cb5a08c94ad3ee1370a82aa82ec1431", func := "gangsaw/gangsawlaw40.ArchTemplate", spec := "archTemplate", unfollowed := true, recurses := true, apart := false, narrowed := true }
def ArchTemplateUptoSaid : Prop := archTemplateUptoRow.holds Try.pinned (OpenSpec.upto archTemplateSpec)

/-- 'gangsawlaw40.ArchTemplates', WHERE WHAT IT READS IS OF BULK AT MOST 1048576: true; the input reads as it did. -/
def archTemplatesUptoRow : OpenClaim := { program := "ytjlljjnkjhdljaa", sum := "078b8baebb22ee4ea70f54f11fa234a87cb5a08c94ad3ee1370a82aa82ec1431", func := "gangsaw/gangsawlaw40.ArchTemplates", spec := "archTemplates", unfollowed := true, recurses := true, apart := false, narrowed := true }
def ArchTemplatesUptoSaid : Prop := archTemplatesUptoRow.holds Try.pinned (OpenSpec.upto archTemplatesSpec)

/-- 'gangsawlaw40.ArchMirrors', WHERE WHAT IT READS IS OF BULK AT MOST 1048576: true; the input reads as it did. -/
def archMirrorsUptoRow : OpenClaim := { program := "ytjlljjnkjhdljaa", sum := "078b8baebb22ee4ea70f54f11fa234a87cb5a08c94ad3ee1370a82aa82ec1431", func := "gangsaw/gangsawlaw40.ArchMirrors", spec := "archMirrors", unfollowed := true, recurses := true, apart := false, narrowed := true }
def ArchMirrorsUptoSaid : Prop := archMirrorsUptoRow.holds Try.pinned (OpenSpec.upto archMirrorsSpec)

/-- 'gangsawlaw40.ArchChecks', WHERE WHAT IT READS IS OF BULK AT MOST 1048576: true; the input reads as it did. -/
def archChecksUptoRow : OpenClaim := { program := "ytjlljjnkjhdljaa", sum := "078b8baebb22ee4ea70f54f11fa234a87cb5a08c94ad3ee1370a82aa82ec1431", func := "gangsaw/gangsawlaw40.ArchChecks", spec := "archChecks", unfollowed := true, recurses := true, apart := false, narrowed := true }
def ArchChecksUptoSaid : Prop := archChecksUptoRow.holds Try.pinned (OpenSpec.upto archChecksSpec)

/-- 'gangsawlaw40.ArchBack', WHERE WHAT IT READS IS OF BULK AT MOST 1048576: true; the input reads as it did. -/
def archBackUptoRow : OpenClaim := { program := "ytjlljjnkjhdljaa", sum := "078b8baebb22ee4ea70f54f11fa234a87cb5a08c94ad3ee1370a82aa82ec1431", func := "gangsaw/gangsawlaw40.ArchBack", spec := "archBack", unfollowed := true, recurses := true, apart := false, narrowed := true }
def ArchBackUptoSaid : Prop := archBackUptoRow.holds Try.pinned (OpenSpec.upto archBackSpec)

end Rows
end Go.Proofs.Ytjlljjnkjhdljaa
