-- written by xprint.py, this project's own program (wip/), over the words of print.sh
import Derived.Test.YthogemdknlpnpaaXAx0
namespace Go.Proofs.Ythogemdknlpnpaa.XA
open Go.RowKit Go.Proofs.Ythogemdknlpnpaa.Opens Go.Proofs.YthogemdknlpnpaaW.PrintWords Go.Proofs.YthogemdknlpnpaaW.PrintLast Go.Proofs.YthogemdknlpnpaaW.PrintMore
attribute [local go_sem] max2_int min2_int max_two min_two max_three min_three max_four min_four cell_some cell_same   -- for this text's walks alone
set_option linter.unusedVariables false
set_option linter.unusedSimpArgs false

/-! ### arguments read as data -/
def g60 (x : S60) : Prop := (gInt .i64) x.f0 ∧ (gInt .i64) x.f1
theorem opens60 : Opens Try.prog 60 k60 g60 := by
  have h_ : OpensAt Try.prog [(3, 0), (3, 1)] 0 (Kd.pair (Kd.int .i64) (Kd.int .i64)) (gPair (gInt .i64) (gInt .i64)) := (at_cons (opens_int Try.underlying3) (by kernel_rfl) rfl (at_one (opens_int Try.underlying3) (by kernel_rfl)))
  have h2 : Opens Try.prog 60 (Kd.pair (Kd.int .i64) (Kd.int .i64)) (gPair (gInt .i64) (gInt .i64)) := opens_struct Try.underlying60 (by kernel_rfl) h_
  exact opens_iso (d := (Kd.pair (Kd.int .i64) (Kd.int .i64))) (g := (gPair (gInt .i64) (gInt .i64))) h2 (fun x : S60 => (x.f0, x.f1)) (fun a => ⟨a.1, a.2⟩) (fun _ => rfl)
def g25 (x : S25) : Prop := (gSl g60) x.f0 ∧ (gInt .i64) x.f1 ∧ (gInt .i64) x.f2
theorem opens25 : Opens Try.prog 25 k25 g25 := by
  have h_ : OpensAt Try.prog [(23, 0), (3, 1), (3, 2)] 0 (Kd.pair (Kd.slice 60 k60) (Kd.pair (Kd.int .i64) (Kd.int .i64))) (gPair (gSl g60) (gPair (gInt .i64) (gInt .i64))) := (at_cons (opens_slice Try.underlying23 (by kernel_rfl) opens60) (by kernel_rfl) rfl (at_cons (opens_int Try.underlying3) (by kernel_rfl) rfl (at_one (opens_int Try.underlying3) (by kernel_rfl))))
  have h2 : Opens Try.prog 25 (Kd.pair (Kd.slice 60 k60) (Kd.pair (Kd.int .i64) (Kd.int .i64))) (gPair (gSl g60) (gPair (gInt .i64) (gInt .i64))) := opens_struct Try.underlying25 (by kernel_rfl) h_
  exact opens_iso (d := (Kd.pair (Kd.slice 60 k60) (Kd.pair (Kd.int .i64) (Kd.int .i64)))) (g := (gPair (gSl g60) (gPair (gInt .i64) (gInt .i64)))) h2 (fun x : S25 => (x.f0, x.f1, x.f2)) (fun a => ⟨a.1, a.2.1, a.2.2⟩) (fun _ => rfl)
def g30 (x : S30) : Prop := (gInt .i64) x.f0 ∧ (gInt .i64) x.f1 ∧ (gInt .i64) x.f2
theorem opens30 : Opens Try.prog 30 k30 g30 := by
  have h_ : OpensAt Try.prog [(3, 0), (3, 1), (3, 2)] 0 (Kd.pair (Kd.int .i64) (Kd.pair (Kd.int .i64) (Kd.int .i64))) (gPair (gInt .i64) (gPair (gInt .i64) (gInt .i64))) := (at_cons (opens_int Try.underlying3) (by kernel_rfl) rfl (at_cons (opens_int Try.underlying3) (by kernel_rfl) rfl (at_one (opens_int Try.underlying3) (by kernel_rfl))))
  have h2 : Opens Try.prog 30 (Kd.pair (Kd.int .i64) (Kd.pair (Kd.int .i64) (Kd.int .i64))) (gPair (gInt .i64) (gPair (gInt .i64) (gInt .i64))) := opens_struct Try.underlying30 (by kernel_rfl) h_
  exact opens_iso (d := (Kd.pair (Kd.int .i64) (Kd.pair (Kd.int .i64) (Kd.int .i64)))) (g := (gPair (gInt .i64) (gPair (gInt .i64) (gInt .i64)))) h2 (fun x : S30 => (x.f0, x.f1, x.f2)) (fun a => ⟨a.1, a.2.1, a.2.2⟩) (fun _ => rfl)
def g32 (x : S32) : Prop := g30 x.f0 ∧ g30 x.f1
theorem opens32 : Opens Try.prog 32 k32 g32 := by
  have h_ : OpensAt Try.prog [(30, 0), (30, 3)] 0 (Kd.pair k30 k30) (gPair g30 g30) := (at_cons opens30 (by kernel_rfl) rfl (at_one opens30 (by kernel_rfl)))
  have h2 : Opens Try.prog 32 (Kd.pair k30 k30) (gPair g30 g30) := opens_struct Try.underlying32 (by kernel_rfl) h_
  exact opens_iso (d := (Kd.pair k30 k30)) (g := (gPair g30 g30)) h2 (fun x : S32 => (x.f0, x.f1)) (fun a => ⟨a.1, a.2⟩) (fun _ => rfl)

end Go.Proofs.Ythogemdknlpnpaa.XA
