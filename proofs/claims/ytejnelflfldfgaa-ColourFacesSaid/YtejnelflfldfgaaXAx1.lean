-- written by xprint.py, this project's own program (wip/), over the words of print.sh
import Derived.Test.YtejnelflfldfgaaXAx0
namespace Go.Proofs.Ytejnelflfldfgaa.XA
open Go.RowKit Go.Proofs.Ytejnelflfldfgaa.Opens Go.Proofs.YtejnelflfldfgaaW.PrintWords Go.Proofs.YtejnelflfldfgaaW.PrintLast Go.Proofs.YtejnelflfldfgaaW.PrintMore
attribute [local go_sem] max2_int min2_int max_two min_two max_three min_three max_four min_four cell_some cell_same   -- for this text's walks alone
set_option linter.unusedVariables false
set_option linter.unusedSimpArgs false

/-! ### arguments read as data -/
def g43 (x : S43) : Prop := (gInt .i64) x.f0 ∧ (gInt .i64) x.f1 ∧ (gInt .i64) x.f2
theorem opens43 : Opens Try.prog 43 k43 g43 := by
  have h_ : OpensAt Try.prog [(3, 0), (3, 1), (3, 2)] 0 (Kd.pair (Kd.int .i64) (Kd.pair (Kd.int .i64) (Kd.int .i64))) (gPair (gInt .i64) (gPair (gInt .i64) (gInt .i64))) := (at_cons (opens_int Try.underlying3) (by kernel_rfl) rfl (at_cons (opens_int Try.underlying3) (by kernel_rfl) rfl (at_one (opens_int Try.underlying3) (by kernel_rfl))))
  have h2 : Opens Try.prog 43 (Kd.pair (Kd.int .i64) (Kd.pair (Kd.int .i64) (Kd.int .i64))) (gPair (gInt .i64) (gPair (gInt .i64) (gInt .i64))) := opens_struct Try.underlying43 (by kernel_rfl) h_
  exact opens_iso (d := (Kd.pair (Kd.int .i64) (Kd.pair (Kd.int .i64) (Kd.int .i64)))) (g := (gPair (gInt .i64) (gPair (gInt .i64) (gInt .i64)))) h2 (fun x : S43 => (x.f0, x.f1, x.f2)) (fun a => ⟨a.1, a.2.1, a.2.2⟩) (fun _ => rfl)
def g45 (x : S45) : Prop := g43 x.f0 ∧ g43 x.f1
theorem opens45 : Opens Try.prog 45 k45 g45 := by
  have h_ : OpensAt Try.prog [(43, 0), (43, 3)] 0 (Kd.pair k43 k43) (gPair g43 g43) := (at_cons opens43 (by kernel_rfl) rfl (at_one opens43 (by kernel_rfl)))
  have h2 : Opens Try.prog 45 (Kd.pair k43 k43) (gPair g43 g43) := opens_struct Try.underlying45 (by kernel_rfl) h_
  exact opens_iso (d := (Kd.pair k43 k43)) (g := (gPair g43 g43)) h2 (fun x : S45 => (x.f0, x.f1)) (fun a => ⟨a.1, a.2⟩) (fun _ => rfl)
def g47 (x : S47) : Prop := gStr x.f0 ∧ gStr x.f1 ∧ (gInt .i64) x.f2 ∧ g45 x.f3 ∧ (gInt .i64) x.f4 ∧ (gSl (gInt .i64)) x.f5 ∧ (gSl (gInt .i64)) x.f6
theorem opens47 : Opens Try.prog 47 k47 g47 := by
  have h_ : OpensAt Try.prog [(9, 0), (9, 1), (3, 2), (45, 3), (3, 9), (22, 10), (22, 11)] 0 (Kd.pair Kd.string (Kd.pair Kd.string (Kd.pair (Kd.int .i64) (Kd.pair k45 (Kd.pair (Kd.int .i64) (Kd.pair (Kd.slice 3 (Kd.int .i64)) (Kd.slice 3 (Kd.int .i64)))))))) (gPair gStr (gPair gStr (gPair (gInt .i64) (gPair g45 (gPair (gInt .i64) (gPair (gSl (gInt .i64)) (gSl (gInt .i64)))))))) := (at_cons (opens_string Try.underlying9) (by kernel_rfl) rfl (at_cons (opens_string Try.underlying9) (by kernel_rfl) rfl (at_cons (opens_int Try.underlying3) (by kernel_rfl) rfl (at_cons opens45 (by kernel_rfl) rfl (at_cons (opens_int Try.underlying3) (by kernel_rfl) rfl (at_cons (opens_slice Try.underlying22 (by kernel_rfl) (opens_int Try.underlying3)) (by kernel_rfl) rfl (at_one (opens_slice Try.underlying22 (by kernel_rfl) (opens_int Try.underlying3)) (by kernel_rfl))))))))
  have h2 : Opens Try.prog 47 (Kd.pair Kd.string (Kd.pair Kd.string (Kd.pair (Kd.int .i64) (Kd.pair k45 (Kd.pair (Kd.int .i64) (Kd.pair (Kd.slice 3 (Kd.int .i64)) (Kd.slice 3 (Kd.int .i64)))))))) (gPair gStr (gPair gStr (gPair (gInt .i64) (gPair g45 (gPair (gInt .i64) (gPair (gSl (gInt .i64)) (gSl (gInt .i64)))))))) := opens_struct Try.underlying47 (by kernel_rfl) h_
  exact opens_iso (d := (Kd.pair Kd.string (Kd.pair Kd.string (Kd.pair (Kd.int .i64) (Kd.pair k45 (Kd.pair (Kd.int .i64) (Kd.pair (Kd.slice 3 (Kd.int .i64)) (Kd.slice 3 (Kd.int .i64))))))))) (g := (gPair gStr (gPair gStr (gPair (gInt .i64) (gPair g45 (gPair (gInt .i64) (gPair (gSl (gInt .i64)) (gSl (gInt .i64))))))))) h2 (fun x : S47 => (x.f0, x.f1, x.f2, x.f3, x.f4, x.f5, x.f6)) (fun a => ⟨a.1, a.2.1, a.2.2.1, a.2.2.2.1, a.2.2.2.2.1, a.2.2.2.2.2.1, a.2.2.2.2.2.2⟩) (fun _ => rfl)

end Go.Proofs.Ytejnelflfldfgaa.XA
