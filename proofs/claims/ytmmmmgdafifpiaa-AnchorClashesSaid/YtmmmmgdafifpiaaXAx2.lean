-- written by xprint.py, this project's own program (wip/), over the words of print.sh
import Derived.Test.YtmmmmgdafifpiaaXAx0
namespace Go.Proofs.Ytmmmmgdafifpiaa.XA
open Go.RowKit Go.Proofs.Ytmmmmgdafifpiaa.Opens Go.Proofs.YtmmmmgdafifpiaaW.PrintWords Go.Proofs.YtmmmmgdafifpiaaW.PrintLast Go.Proofs.YtmmmmgdafifpiaaW.PrintMore
attribute [local go_sem] max2_int min2_int max_two min_two max_three min_three max_four min_four cell_some cell_same   -- for this text's walks alone
set_option linter.unusedVariables false
set_option linter.unusedSimpArgs false

/-! ### arguments read as data -/
def g23 (x : S23) : Prop := (gInt .i64) x.f0 ∧ (gInt .i64) x.f1 ∧ (gInt .i64) x.f2
theorem opens23 : Opens Try.prog 23 k23 g23 := by
  have h_ : OpensAt Try.prog [(3, 0), (3, 1), (2, 2)] 0 (Kd.pair (Kd.int .i64) (Kd.pair (Kd.int .i64) (Kd.int .i64))) (gPair (gInt .i64) (gPair (gInt .i64) (gInt .i64))) := (at_cons (opens_int Try.underlying3) (by kernel_rfl) rfl (at_cons (opens_int Try.underlying3) (by kernel_rfl) rfl (at_one (opens_int Try.underlying2) (by kernel_rfl))))
  have h2 : Opens Try.prog 23 (Kd.pair (Kd.int .i64) (Kd.pair (Kd.int .i64) (Kd.int .i64))) (gPair (gInt .i64) (gPair (gInt .i64) (gInt .i64))) := opens_struct Try.underlying23 (by kernel_rfl) h_
  exact opens_iso (d := (Kd.pair (Kd.int .i64) (Kd.pair (Kd.int .i64) (Kd.int .i64)))) (g := (gPair (gInt .i64) (gPair (gInt .i64) (gInt .i64)))) h2 (fun x : S23 => (x.f0, x.f1, x.f2)) (fun a => ⟨a.1, a.2.1, a.2.2⟩) (fun _ => rfl)
def g33 (x : S33) : Prop := (gInt .i64) x.f0 ∧ (gInt .i64) x.f1 ∧ (gInt .i64) x.f2
theorem opens33 : Opens Try.prog 33 k33 g33 := by
  have h_ : OpensAt Try.prog [(3, 0), (3, 1), (3, 2)] 0 (Kd.pair (Kd.int .i64) (Kd.pair (Kd.int .i64) (Kd.int .i64))) (gPair (gInt .i64) (gPair (gInt .i64) (gInt .i64))) := (at_cons (opens_int Try.underlying3) (by kernel_rfl) rfl (at_cons (opens_int Try.underlying3) (by kernel_rfl) rfl (at_one (opens_int Try.underlying3) (by kernel_rfl))))
  have h2 : Opens Try.prog 33 (Kd.pair (Kd.int .i64) (Kd.pair (Kd.int .i64) (Kd.int .i64))) (gPair (gInt .i64) (gPair (gInt .i64) (gInt .i64))) := opens_struct Try.underlying33 (by kernel_rfl) h_
  exact opens_iso (d := (Kd.pair (Kd.int .i64) (Kd.pair (Kd.int .i64) (Kd.int .i64)))) (g := (gPair (gInt .i64) (gPair (gInt .i64) (gInt .i64)))) h2 (fun x : S33 => (x.f0, x.f1, x.f2)) (fun a => ⟨a.1, a.2.1, a.2.2⟩) (fun _ => rfl)
def g52 (x : S52) : Prop := (gInt .i64) x.f0 ∧ (gInt .i64) x.f1
theorem opens52 : Opens Try.prog 52 k52 g52 := by
  have h_ : OpensAt Try.prog [(3, 0), (3, 1)] 0 (Kd.pair (Kd.int .i64) (Kd.int .i64)) (gPair (gInt .i64) (gInt .i64)) := (at_cons (opens_int Try.underlying3) (by kernel_rfl) rfl (at_one (opens_int Try.underlying3) (by kernel_rfl)))
  have h2 : Opens Try.prog 52 (Kd.pair (Kd.int .i64) (Kd.int .i64)) (gPair (gInt .i64) (gInt .i64)) := opens_struct Try.underlying52 (by kernel_rfl) h_
  exact opens_iso (d := (Kd.pair (Kd.int .i64) (Kd.int .i64))) (g := (gPair (gInt .i64) (gInt .i64))) h2 (fun x : S52 => (x.f0, x.f1)) (fun a => ⟨a.1, a.2⟩) (fun _ => rfl)
def g54 (x : S54) : Prop := (gInt .i64) x.f0 ∧ g52 x.f1 ∧ (gInt .i64) x.f2
theorem opens54 : Opens Try.prog 54 k54 g54 := by
  have h_ : OpensAt Try.prog [(3, 0), (52, 1), (3, 3)] 0 (Kd.pair (Kd.int .i64) (Kd.pair k52 (Kd.int .i64))) (gPair (gInt .i64) (gPair g52 (gInt .i64))) := (at_cons (opens_int Try.underlying3) (by kernel_rfl) rfl (at_cons opens52 (by kernel_rfl) rfl (at_one (opens_int Try.underlying3) (by kernel_rfl))))
  have h2 : Opens Try.prog 54 (Kd.pair (Kd.int .i64) (Kd.pair k52 (Kd.int .i64))) (gPair (gInt .i64) (gPair g52 (gInt .i64))) := opens_struct Try.underlying54 (by kernel_rfl) h_
  exact opens_iso (d := (Kd.pair (Kd.int .i64) (Kd.pair k52 (Kd.int .i64)))) (g := (gPair (gInt .i64) (gPair g52 (gInt .i64)))) h2 (fun x : S54 => (x.f0, x.f1, x.f2)) (fun a => ⟨a.1, a.2.1, a.2.2⟩) (fun _ => rfl)

end Go.Proofs.Ytmmmmgdafifpiaa.XA
