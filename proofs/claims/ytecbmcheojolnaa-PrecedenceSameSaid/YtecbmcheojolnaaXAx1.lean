-- written by xprint.py, this project's own program (wip/), over the words of print.sh
import Derived.Test.YtecbmcheojolnaaXAx0
namespace Go.Proofs.Ytecbmcheojolnaa.XA
open Go.RowKit Go.Proofs.Ytecbmcheojolnaa.Opens Go.Proofs.YtecbmcheojolnaaW.PrintWords Go.Proofs.YtecbmcheojolnaaW.PrintLast Go.Proofs.YtecbmcheojolnaaW.PrintMore
attribute [local go_sem] max2_int min2_int max_two min_two max_three min_three max_four min_four cell_some cell_same   -- for this text's walks alone
set_option linter.unusedVariables false
set_option linter.unusedSimpArgs false

/-! ### arguments read as data -/
def g47 (x : S47) : Prop := (gInt .i64) x.f0 ∧ (gInt .i64) x.f1
theorem opens47 : Opens Try.prog 47 k47 g47 := by
  have h_ : OpensAt Try.prog [(3, 0), (3, 1)] 0 (Kd.pair (Kd.int .i64) (Kd.int .i64)) (gPair (gInt .i64) (gInt .i64)) := (at_cons (opens_int Try.underlying3) (by kernel_rfl) rfl (at_one (opens_int Try.underlying3) (by kernel_rfl)))
  have h2 : Opens Try.prog 47 (Kd.pair (Kd.int .i64) (Kd.int .i64)) (gPair (gInt .i64) (gInt .i64)) := opens_array Try.underlying47 (by kernel_rfl) h_
  exact opens_iso (d := (Kd.pair (Kd.int .i64) (Kd.int .i64))) (g := (gPair (gInt .i64) (gInt .i64))) h2 (fun x : S47 => (x.f0, x.f1)) (fun a => ⟨a.1, a.2⟩) (fun _ => rfl)
def g24 (x : S24) : Prop := (gInt .i64) x.f0 ∧ (gSl g47) x.f1
theorem opens24 : Opens Try.prog 24 k24 g24 := by
  have h_ : OpensAt Try.prog [(3, 0), (22, 1)] 0 (Kd.pair (Kd.int .i64) (Kd.slice 47 k47)) (gPair (gInt .i64) (gSl g47)) := (at_cons (opens_int Try.underlying3) (by kernel_rfl) rfl (at_one (opens_slice Try.underlying22 (by kernel_rfl) opens47) (by kernel_rfl)))
  have h2 : Opens Try.prog 24 (Kd.pair (Kd.int .i64) (Kd.slice 47 k47)) (gPair (gInt .i64) (gSl g47)) := opens_struct Try.underlying24 (by kernel_rfl) h_
  exact opens_iso (d := (Kd.pair (Kd.int .i64) (Kd.slice 47 k47))) (g := (gPair (gInt .i64) (gSl g47))) h2 (fun x : S24 => (x.f0, x.f1)) (fun a => ⟨a.1, a.2⟩) (fun _ => rfl)

end Go.Proofs.Ytecbmcheojolnaa.XA
