-- written by xprint.py, this project's own program (wip/), over the words of print.sh
import Derived.Test.YtjlljjnkjhdljaaXAx0
namespace Go.Proofs.Ytjlljjnkjhdljaa.XA
open Go.RowKit Go.Proofs.Ytjlljjnkjhdljaa.Opens Go.Proofs.YtjlljjnkjhdljaaW.PrintWords Go.Proofs.YtjlljjnkjhdljaaW.PrintLast Go.Proofs.YtjlljjnkjhdljaaW.PrintMore
attribute [local go_sem] max2_int min2_int max_two min_two max_three min_three max_four min_four cell_some cell_same   -- for this text's walks alone
set_option linter.unusedVariables false
set_option linter.unusedSimpArgs false

/-! ### arguments read as data -/
def g46 (x : S46) : Prop := (gInt .i64) x.f0 ∧ (gInt .i64) x.f1
theorem opens46 : Opens Try.prog 46 k46 g46 := by
  have h_ : OpensAt Try.prog [(3, 0), (3, 1)] 0 (Kd.pair (Kd.int .i64) (Kd.int .i64)) (gPair (gInt .i64) (gInt .i64)) := (at_cons (opens_int Try.underlying3) (by kernel_rfl) rfl (at_one (opens_int Try.underlying3) (by kernel_rfl)))
  have h2 : Opens Try.prog 46 (Kd.pair (Kd.int .i64) (Kd.int .i64)) (gPair (gInt .i64) (gInt .i64)) := opens_struct Try.underlying46 (by kernel_rfl) h_
  exact opens_iso (d := (Kd.pair (Kd.int .i64) (Kd.int .i64))) (g := (gPair (gInt .i64) (gInt .i64))) h2 (fun x : S46 => (x.f0, x.f1)) (fun a => ⟨a.1, a.2⟩) (fun _ => rfl)

end Go.Proofs.Ytjlljjnkjhdljaa.XA
