-- written by xprint.py, this project's own program (wip/), over the words of print.sh
import Derived.Test.YtaainbbkengjfaaXAx0
namespace Go.Proofs.Ytaainbbkengjfaa.XA
open Go.RowKit Go.Proofs.Ytaainbbkengjfaa.Opens Go.Proofs.YtaainbbkengjfaaW.PrintWords Go.Proofs.YtaainbbkengjfaaW.PrintLast Go.Proofs.YtaainbbkengjfaaW.PrintMore
attribute [local go_sem] max2_int min2_int max_two min_two max_three min_three max_four min_four   -- for this text's walks alone
set_option linter.unusedVariables false
set_option linter.unusedSimpArgs false

/-! ### arguments read as data -/
def g23 (x : S23) : Prop := (gInt .i64) x.f0 ∧ (gInt .i64) x.f1
theorem opens23 : Opens Try.prog 23 k23 g23 := by
  have h_ : OpensAt Try.prog [(3, 0), (3, 1)] 0 (Kd.pair (Kd.int .i64) (Kd.int .i64)) (gPair (gInt .i64) (gInt .i64)) := (at_cons (opens_int Try.underlying3) (by kernel_rfl) rfl (at_one (opens_int Try.underlying3) (by kernel_rfl)))
  have h2 : Opens Try.prog 23 (Kd.pair (Kd.int .i64) (Kd.int .i64)) (gPair (gInt .i64) (gInt .i64)) := opens_struct Try.underlying23 (by kernel_rfl) h_
  exact opens_iso (d := (Kd.pair (Kd.int .i64) (Kd.int .i64))) (g := (gPair (gInt .i64) (gInt .i64))) h2 (fun x : S23 => (x.f0, x.f1)) (fun a => ⟨a.1, a.2⟩) (fun _ => rfl)
def g25 (x : S25) : Prop := g23 x.f0 ∧ g23 x.f1 ∧ g23 x.f2
theorem opens25 : Opens Try.prog 25 k25 g25 := by
  have h_ : OpensAt Try.prog [(23, 0), (23, 2), (23, 4)] 0 (Kd.pair k23 (Kd.pair k23 k23)) (gPair g23 (gPair g23 g23)) := (at_cons opens23 (by kernel_rfl) rfl (at_cons opens23 (by kernel_rfl) rfl (at_one opens23 (by kernel_rfl))))
  have h2 : Opens Try.prog 25 (Kd.pair k23 (Kd.pair k23 k23)) (gPair g23 (gPair g23 g23)) := opens_struct Try.underlying25 (by kernel_rfl) h_
  exact opens_iso (d := (Kd.pair k23 (Kd.pair k23 k23))) (g := (gPair g23 (gPair g23 g23))) h2 (fun x : S25 => (x.f0, x.f1, x.f2)) (fun a => ⟨a.1, a.2.1, a.2.2⟩) (fun _ => rfl)
def g27 (x : S27) : Prop := (gInt .i64) x.f0 ∧ (gInt .i64) x.f1 ∧ (gInt .i64) x.f2 ∧ (gInt .i64) x.f3 ∧ (gInt .i64) x.f4 ∧ (gInt .i64) x.f5
theorem opens27 : Opens Try.prog 27 k27 g27 := by
  have h_ : OpensAt Try.prog [(3, 0), (3, 1), (3, 2), (3, 3), (3, 4), (3, 5)] 0 (Kd.pair (Kd.int .i64) (Kd.pair (Kd.int .i64) (Kd.pair (Kd.int .i64) (Kd.pair (Kd.int .i64) (Kd.pair (Kd.int .i64) (Kd.int .i64)))))) (gPair (gInt .i64) (gPair (gInt .i64) (gPair (gInt .i64) (gPair (gInt .i64) (gPair (gInt .i64) (gInt .i64)))))) := (at_cons (opens_int Try.underlying3) (by kernel_rfl) rfl (at_cons (opens_int Try.underlying3) (by kernel_rfl) rfl (at_cons (opens_int Try.underlying3) (by kernel_rfl) rfl (at_cons (opens_int Try.underlying3) (by kernel_rfl) rfl (at_cons (opens_int Try.underlying3) (by kernel_rfl) rfl (at_one (opens_int Try.underlying3) (by kernel_rfl)))))))
  have h2 : Opens Try.prog 27 (Kd.pair (Kd.int .i64) (Kd.pair (Kd.int .i64) (Kd.pair (Kd.int .i64) (Kd.pair (Kd.int .i64) (Kd.pair (Kd.int .i64) (Kd.int .i64)))))) (gPair (gInt .i64) (gPair (gInt .i64) (gPair (gInt .i64) (gPair (gInt .i64) (gPair (gInt .i64) (gInt .i64)))))) := opens_struct Try.underlying27 (by kernel_rfl) h_
  exact opens_iso (d := (Kd.pair (Kd.int .i64) (Kd.pair (Kd.int .i64) (Kd.pair (Kd.int .i64) (Kd.pair (Kd.int .i64) (Kd.pair (Kd.int .i64) (Kd.int .i64))))))) (g := (gPair (gInt .i64) (gPair (gInt .i64) (gPair (gInt .i64) (gPair (gInt .i64) (gPair (gInt .i64) (gInt .i64))))))) h2 (fun x : S27 => (x.f0, x.f1, x.f2, x.f3, x.f4, x.f5)) (fun a => ⟨a.1, a.2.1, a.2.2.1, a.2.2.2.1, a.2.2.2.2.1, a.2.2.2.2.2⟩) (fun _ => rfl)

end Go.Proofs.Ytaainbbkengjfaa.XA
