/-
  No cell of these rows narrows 'for every input' (looked for: loops, veiled, ifaces, maps, wideKeys, modest, calm, conditions, laid).
  DERIVED. THE GIVEN ROWS OF THIS SEAT. 5 by the template 'for every input the law returns true; each argument reads behind the call as it read before'; 0 by the template 'total and deterministic' (their statements: YtecbmcheojolnaaTotals.lean).
  GIVEN WITH THE SEED: the statements are not yours to turn. If you find one false, say at which input.
  Laid BY PROGRAM, IN A SANDBOX (cutbox-rows.mjs): the forced cells as the released guide's own fill.sh prints them over the translation c07f521eb891f9e5… (all of the seat's roots in one cut). By AI agents, Wed Nov 11 2026. No macro, syntax, notation, axiom, sorry.
-/
import Derived.Test.YtecbmcheojolnaaChecked
import GoSem.Claim
import GoSem.ClaimJoined
import GoSem.ClaimMapViews
import Derived.JoinedTies
import Derived.KernelRfl
namespace Go.Proofs.Ytecbmcheojolnaa
/- THE CELL 'sum', in the pinned program and in every row, IS THE sha256 OF THE DUMP (.gsa) THAT YtecbmcheojolnaaProg.lean LOADS. Nothing in Lean hashes anything: it is a label: what it is worth is what the hold of that sum in a sandbox is worth. -/
noncomputable def Try.pinned : Pinned := { name := "ytecbmcheojolnaa", sum := "c07f521eb891f9e5b154863b719e85b5afba7f74f81128ff4115499a52e8abbe", checked := Try.checked }
namespace Rows
def none {H : Type} : Left H := { results := [], args := [] }

/-- 'gangsawlaw20.PrecedenceCycles': WHATEVER THE INPUT: true; the input reads as it did. -/
def precedenceCyclesSpec : ChangeSpec := { name := "precedenceCycles", fn := fun _ => fun
  | [d1, d2] => { results := [.lit (.bool true)], args := [d1, d2] }
  | _ => none }
def precedenceCyclesRow : OpenClaim := { program := "ytecbmcheojolnaa", sum := "c07f521eb891f9e5b154863b719e85b5afba7f74f81128ff4115499a52e8abbe", func := "gangsaw/gangsawlaw20.PrecedenceCycles", spec := "precedenceCycles", unfollowed := true, recurses := true, apart := false }
def PrecedenceCyclesSaid : Prop := precedenceCyclesRow.holds Try.pinned (OpenSpec.ofChange precedenceCyclesSpec)

/-- ITS FALSE NEIGHBOUR: 'it returns false'. Refute it at one input. -/
def precedenceCyclesWrong : ChangeSpec := { name := "precedenceCycles", fn := fun _ => fun
  | [d1, d2] => { results := [.lit (.bool false)], args := [d1, d2] }
  | _ => none }
def PrecedenceCyclesWrongFalsely : Prop := precedenceCyclesRow.holds Try.pinned (OpenSpec.ofChange precedenceCyclesWrong)

/-- 'gangsawlaw20.PrecedenceReduces': WHATEVER THE INPUT: true; the input reads as it did. -/
def precedenceReducesSpec : ChangeSpec := { name := "precedenceReduces", fn := fun _ => fun
  | [d] => { results := [.lit (.bool true)], args := [d] }
  | _ => none }
def precedenceReducesRow : OpenClaim := { program := "ytecbmcheojolnaa", sum := "c07f521eb891f9e5b154863b719e85b5afba7f74f81128ff4115499a52e8abbe", func := "gangsaw/gangsawlaw20.PrecedenceReduces", spec := "precedenceReduces", unfollowed := true, recurses := true, apart := false }
def PrecedenceReducesSaid : Prop := precedenceReducesRow.holds Try.pinned (OpenSpec.ofChange precedenceReducesSpec)

/-- ITS FALSE NEIGHBOUR: 'it returns false'. Refute it at one input. -/
def precedenceReducesWrong : ChangeSpec := { name := "precedenceReduces", fn := fun _ => fun
  | [d] => { results := [.lit (.bool false)], args := [d] }
  | _ => none }
def PrecedenceReducesWrongFalsely : Prop := precedenceReducesRow.holds Try.pinned (OpenSpec.ofChange precedenceReducesWrong)

/-- 'gangsawlaw20.PrecedenceOrders': WHATEVER THE INPUT: true; the input reads as it did. -/
def precedenceOrdersSpec : ChangeSpec := { name := "precedenceOrders", fn := fun _ => fun
  | [d1, d2] => { results := [.lit (.bool true)], args := [d1, d2] }
  | _ => none }
def precedenceOrdersRow : OpenClaim := { program := "ytecbmcheojolnaa", sum := "c07f521eb891f9e5b154863b719e85b5afba7f74f81128ff4115499a52e8abbe", func := "gangsaw/gangsawlaw20.PrecedenceOrders", spec := "precedenceOrders", unfollowed := true, recurses := true, apart := false }
def PrecedenceOrdersSaid : Prop := precedenceOrdersRow.holds Try.pinned (OpenSpec.ofChange precedenceOrdersSpec)

/-- ITS FALSE NEIGHBOUR: 'it returns false'. Refute it at one input. -/
def precedenceOrdersWrong : ChangeSpec := { name := "precedenceOrders", fn := fun _ => fun
  | [d1, d2] => { results := [.lit (.bool false)], args := [d1, d2] }
  | _ => none }
def PrecedenceOrdersWrongFalsely : Prop := precedenceOrdersRow.holds Try.pinned (OpenSpec.ofChange precedenceOrdersWrong)

/-- 'gangsawlaw20.PrecedenceEither': WHATEVER THE INPUT: true; the input reads as it did. -/
def precedenceEitherSpec : ChangeSpec := { name := "precedenceEither", fn := fun _ => fun
  | [d] => { results := [.lit (.bool true)], args := [d] }
  | _ => none }
def precedenceEitherRow : OpenClaim := { program := "ytecbmcheojolnaa", sum := "c07f521eb891f9e5b154863b719e85b5afba7f74f81128ff4115499a52e8abbe", func := "gangsaw/gangsawlaw20.PrecedenceEither", spec := "precedenceEither", unfollowed := true, recurses := true, apart := false }
def PrecedenceEitherSaid : Prop := precedenceEitherRow.holds Try.pinned (OpenSpec.ofChange precedenceEitherSpec)

/-- ITS FALSE NEIGHBOUR: 'it returns false'. Refute it at one input. -/
def precedenceEitherWrong : ChangeSpec := { name := "precedenceEither", fn := fun _ => fun
  | [d] => { results := [.lit (.bool false)], args := [d] }
  | _ => none }
def PrecedenceEitherWrongFalsely : Prop := precedenceEitherRow.holds Try.pinned (OpenSpec.ofChange precedenceEitherWrong)

/-- 'gangsawlaw20.PrecedenceSame': WHATEVER THE INPUT: true; the input reads as it did. -/
def precedenceSameSpec : ChangeSpec := { name := "precedenceSame", fn := fun _ => fun
  | [d1, d2] => { results := [.lit (.bool true)], args := [d1, d2] }
  | _ => none }
def precedenceSameRow : OpenClaim := { program := "ytecbmcheojolnaa", sum := "c07f521eb891f9e5b154863b719e85b5afba7f74f81128ff4115499a52e8abbe", func := "gangsaw/gangsawlaw20.PrecedenceSame", spec := "precedenceSame", unfollowed := true, recurses := true, apart := false }
def PrecedenceSameSaid : Prop := precedenceSameRow.holds Try.pinned (OpenSpec.ofChange precedenceSameSpec)

/-- ITS FALSE NEIGHBOUR: 'it returns false'. Refute it at one input. -/
def precedenceSameWrong : ChangeSpec := { name := "precedenceSame", fn := fun _ => fun
  | [d1, d2] => { results := [.lit (.bool false)], args := [d1, d2] }
  | _ => none }
def PrecedenceSameWrongFalsely : Prop := precedenceSameRow.holds Try.pinned (OpenSpec.ofChange precedenceSameWrong)

/- THE SECOND FORM. 'bulk': how many values and letters a reading holds, each counted each time it is reached (what is shared counts as often as it is met; a slice's spare places count too). A statement '..UptoSaid' is the law's where the arguments, and the package variables that the reading takes, are together of bulk at most 1048576: NARROWER than '..Said'. Prove '..Said' where nothing that the law and all that it calls make is longer than what came in: it says more and counts as full. Else prove '..UptoSaid'. A law counts once. -/
mutual
def uptoBulk {H : Type} : DataW H → Nat
  | .lit (.string bytes) => bytes.length + 1
  | .lit _ => 1
  | .nil => 1
  | .ptr d => uptoBulk d + 1
  | .slice elems spare => uptoBulkAll elems + uptoBulkAll spare + 1
  | .agg parts => uptoBulkAll parts + 1
  | .iface _ d => uptoBulk d + 1
  | .map entries => uptoBulkEntries entries + 1
  | .held _ => 1
def uptoBulkAll {H : Type} : List (DataW H) → Nat
  | [] => 0
  | d :: r => uptoBulk d + uptoBulkAll r
def uptoBulkEntries {H : Type} : List (Lit × DataW H) → Nat
  | [] => 0
  | x :: r => uptoBulkEntry x + uptoBulkEntries r
def uptoBulkEntry {H : Type} : Lit × DataW H → Nat
  | (.string bytes, d) => bytes.length + uptoBulk d + 1
  | (_, d) => uptoBulk d + 1
 end
def uptoSmall : (H : Type) → List (DataW H) → Bool := fun _ ds => decide (uptoBulkAll ds ≤ 1048576)
def OpenSpec.upto (s : _root_.Go.ChangeSpec) : _root_.Go.OpenSpec := { _root_.Go.OpenSpec.ofChange s with cond := some uptoSmall }

/-- 'gangsawlaw20.PrecedenceCycles', WHERE WHAT IT READS IS OF BULK AT MOST 1048576: true; the input reads as it did. -/
def precedenceCyclesUptoRow : OpenClaim := { program := "ytecbmcheojolnaa", sum := "c07f521eb891f9e5b154863b719e85b5afba7f74f81128ff4115499a52e8abbe", func := "gangsaw/gangsawlaw20.PrecedenceCycles", spec := "precedenceCycles", unfollowed := true, recurses := true, apart := false, narrowed := true }
def PrecedenceCyclesUptoSaid : Prop := precedenceCyclesUptoRow.holds Try.pinned (OpenSpec.upto precedenceCyclesSpec)

/-- 'gangsawlaw20.PrecedenceReduces', WHERE WHAT IT READS IS OF BULK AT MOST 1048576: true; the input reads as it did. -/
def precedenceReducesUptoRow : OpenClaim := { program := "ytecbmcheojolnaa", sum := "c07f521eb891f9e5b154863b719e85b5afba7f74f81128ff4115499a52e8abbe", func := "gangsaw/gangsawlaw20.PrecedenceReduces", spec := "precedenceReduces", unfollowed := true, recurses := true, apart := false, narrowed := true }
def PrecedenceReducesUptoSaid : Prop := precedenceReducesUptoRow.holds Try.pinned (OpenSpec.upto precedenceReducesSpec)

/-- 'gangsawlaw20.PrecedenceOrders', WHERE WHAT IT READS IS OF BULK AT MOST 1048576: true; the input reads as it did. -/
def precedenceOrdersUptoRow : OpenClaim := { program := "ytecbmcheojolnaa", sum := "c07f521eb891f9e5b154863b719e85b5afba7f74f81128ff4115499a52e8abbe", func := "gangsaw/gangsawlaw20.PrecedenceOrders", spec := "precedenceOrders", unfollowed := true, recurses := true, apart := false, narrowed := true }
def PrecedenceOrdersUptoSaid : Prop := precedenceOrdersUptoRow.holds Try.pinned (OpenSpec.upto precedenceOrdersSpec)

/-- 'gangsawlaw20.PrecedenceEither', WHERE WHAT IT READS IS OF BULK AT MOST 1048576: true; the input reads as it did. -/
def precedenceEitherUptoRow : OpenClaim := { program := "ytecbmcheojolnaa", sum := "c07f521eb891f9e5b154863b719e85b5afba7f74f81128ff4115499a52e8abbe", func := "gangsaw/gangsawlaw20.PrecedenceEither", spec := "precedenceEither", unfollowed := true, recurses := true, apart := false, narrowed := true }
def PrecedenceEitherUptoSaid : Prop := precedenceEitherUptoRow.holds Try.pinned (OpenSpec.upto precedenceEitherSpec)

/-- 'gangsawlaw20.PrecedenceSame', WHERE WHAT IT READS IS OF BULK AT MOST 1048576: true; the input reads as it did. -/
def precedenceSameUptoRow : OpenClaim := { program := "ytecbmcheojolnaa", sum := "c07f521eb891f9e5b154863b719e85b5afba7f74f81128ff4115499a52e8abbe", func := "gangsaw/gangsawlaw20.PrecedenceSame", spec := "precedenceSame", unfollowed := true, recurses := true, apart := false, narrowed := true }
def PrecedenceSameUptoSaid : Prop := precedenceSameUptoRow.holds Try.pinned (OpenSpec.upto precedenceSameSpec)

end Rows
end Go.Proofs.Ytecbmcheojolnaa
