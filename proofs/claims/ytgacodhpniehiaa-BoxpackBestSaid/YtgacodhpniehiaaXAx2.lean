import Derived.Test.YtgacodhpniehiaaXAx0
namespace Go.Proofs.Ytgacodhpniehiaa.XA
open Go.RowKit Opens YtgacodhpniehiaaW.PrintWords YtgacodhpniehiaaW.PrintLast YtgacodhpniehiaaW.PrintMore
attribute [local go_sem] max2_int min2_int max_two min_two max_three min_three max_four min_four cell_some cell_same
set_option linter.unusedVariables false
set_option linter.unusedSimpArgs false

def g23 (x : S23) : Prop := (gInt .i64) x.f0 ∧ (gInt .i64) x.f1 ∧ (gInt .i64) x.f2
theorem opens23 : Opens Try.prog 23 k23 g23 := by
  have h_ : OpensAt Try.prog [(3, 0), (3, 1), (3, 2)] 0 (Kd.pair (Kd.int .i64) (Kd.pair (Kd.int .i64) (Kd.int .i64))) (gPair (gInt .i64) (gPair (gInt .i64) (gInt .i64))) := (at_cons (opens_int Try.underlying3) (by kernel_rfl) rfl (at_cons (opens_int Try.underlying3) (by kernel_rfl) rfl (at_one (opens_int Try.underlying3) (by kernel_rfl))))
  have h2 : Opens Try.prog 23 (Kd.pair (Kd.int .i64) (Kd.pair (Kd.int .i64) (Kd.int .i64))) (gPair (gInt .i64) (gPair (gInt .i64) (gInt .i64))) := opens_struct Try.underlying23 (by kernel_rfl) h_
  exact opens_iso (d := (Kd.pair (Kd.int .i64) (Kd.pair (Kd.int .i64) (Kd.int .i64)))) (g := (gPair (gInt .i64) (gPair (gInt .i64) (gInt .i64)))) h2 (fun x : S23 => (x.f0, x.f1, x.f2)) (fun a => ⟨a.1, a.2.1, a.2.2⟩) (fun _ => rfl)
def g56 (x : S56) : Prop := gStr x.f0 ∧ g23 x.f1 ∧ (gInt .i64) x.f2 ∧ (gInt .i64) x.f3 ∧ (gInt .i64) x.f4
theorem opens56 : Opens Try.prog 56 k56 g56 := by
  have h_ : OpensAt Try.prog [(9, 0), (23, 1), (2, 4), (3, 5), (3, 6)] 0 (Kd.pair Kd.string (Kd.pair k23 (Kd.pair (Kd.int .i64) (Kd.pair (Kd.int .i64) (Kd.int .i64))))) (gPair gStr (gPair g23 (gPair (gInt .i64) (gPair (gInt .i64) (gInt .i64))))) := (at_cons (opens_string Try.underlying9) (by kernel_rfl) rfl (at_cons opens23 (by kernel_rfl) rfl (at_cons (opens_int Try.underlying2) (by kernel_rfl) rfl (at_cons (opens_int Try.underlying3) (by kernel_rfl) rfl (at_one (opens_int Try.underlying3) (by kernel_rfl))))))
  have h2 : Opens Try.prog 56 (Kd.pair Kd.string (Kd.pair k23 (Kd.pair (Kd.int .i64) (Kd.pair (Kd.int .i64) (Kd.int .i64))))) (gPair gStr (gPair g23 (gPair (gInt .i64) (gPair (gInt .i64) (gInt .i64))))) := opens_struct Try.underlying56 (by kernel_rfl) h_
  exact opens_iso (d := (Kd.pair Kd.string (Kd.pair k23 (Kd.pair (Kd.int .i64) (Kd.pair (Kd.int .i64) (Kd.int .i64)))))) (g := (gPair gStr (gPair g23 (gPair (gInt .i64) (gPair (gInt .i64) (gInt .i64)))))) h2 (fun x : S56 => (x.f0, x.f1, x.f2, x.f3, x.f4)) (fun a => ⟨a.1, a.2.1, a.2.2.1, a.2.2.2.1, a.2.2.2.2⟩) (fun _ => rfl)
def g26 (x : S26) : Prop := g23 x.f0 ∧ (gInt .i64) x.f1 ∧ (gSl g56) x.f2
theorem opens26 : Opens Try.prog 26 k26 g26 := by
  have h_ : OpensAt Try.prog [(23, 0), (3, 3), (24, 4)] 0 (Kd.pair k23 (Kd.pair (Kd.int .i64) (Kd.slice 56 k56))) (gPair g23 (gPair (gInt .i64) (gSl g56))) := (at_cons opens23 (by kernel_rfl) rfl (at_cons (opens_int Try.underlying3) (by kernel_rfl) rfl (at_one (opens_slice Try.underlying24 (by kernel_rfl) opens56) (by kernel_rfl))))
  have h2 : Opens Try.prog 26 (Kd.pair k23 (Kd.pair (Kd.int .i64) (Kd.slice 56 k56))) (gPair g23 (gPair (gInt .i64) (gSl g56))) := opens_struct Try.underlying26 (by kernel_rfl) h_
  exact opens_iso (d := (Kd.pair k23 (Kd.pair (Kd.int .i64) (Kd.slice 56 k56)))) (g := (gPair g23 (gPair (gInt .i64) (gSl g56)))) h2 (fun x : S26 => (x.f0, x.f1, x.f2)) (fun a => ⟨a.1, a.2.1, a.2.2⟩) (fun _ => rfl)
def g61 (x : S61) : Prop := (gInt .i64) x.f0 ∧ gStr x.f1 ∧ (gInt .i64) x.f2 ∧ (gInt .i64) x.f3 ∧ (gInt .i64) x.f4 ∧ (gInt .i64) x.f5 ∧ (gInt .i64) x.f6
theorem opens61 : Opens Try.prog 61 k61 g61 := by
  have h_ : OpensAt Try.prog [(3, 0), (9, 1), (3, 2), (3, 3), (3, 4), (3, 5), (3, 6)] 0 (Kd.pair (Kd.int .i64) (Kd.pair Kd.string (Kd.pair (Kd.int .i64) (Kd.pair (Kd.int .i64) (Kd.pair (Kd.int .i64) (Kd.pair (Kd.int .i64) (Kd.int .i64))))))) (gPair (gInt .i64) (gPair gStr (gPair (gInt .i64) (gPair (gInt .i64) (gPair (gInt .i64) (gPair (gInt .i64) (gInt .i64))))))) := (at_cons (opens_int Try.underlying3) (by kernel_rfl) rfl (at_cons (opens_string Try.underlying9) (by kernel_rfl) rfl (at_cons (opens_int Try.underlying3) (by kernel_rfl) rfl (at_cons (opens_int Try.underlying3) (by kernel_rfl) rfl (at_cons (opens_int Try.underlying3) (by kernel_rfl) rfl (at_cons (opens_int Try.underlying3) (by kernel_rfl) rfl (at_one (opens_int Try.underlying3) (by kernel_rfl))))))))
  have h2 : Opens Try.prog 61 (Kd.pair (Kd.int .i64) (Kd.pair Kd.string (Kd.pair (Kd.int .i64) (Kd.pair (Kd.int .i64) (Kd.pair (Kd.int .i64) (Kd.pair (Kd.int .i64) (Kd.int .i64))))))) (gPair (gInt .i64) (gPair gStr (gPair (gInt .i64) (gPair (gInt .i64) (gPair (gInt .i64) (gPair (gInt .i64) (gInt .i64))))))) := opens_struct Try.underlying61 (by kernel_rfl) h_
  exact opens_iso (d := (Kd.pair (Kd.int .i64) (Kd.pair Kd.string (Kd.pair (Kd.int .i64) (Kd.pair (Kd.int .i64) (Kd.pair (Kd.int .i64) (Kd.pair (Kd.int .i64) (Kd.int .i64)))))))) (g := (gPair (gInt .i64) (gPair gStr (gPair (gInt .i64) (gPair (gInt .i64) (gPair (gInt .i64) (gPair (gInt .i64) (gInt .i64)))))))) h2 (fun x : S61 => (x.f0, x.f1, x.f2, x.f3, x.f4, x.f5, x.f6)) (fun a => ⟨a.1, a.2.1, a.2.2.1, a.2.2.2.1, a.2.2.2.2.1, a.2.2.2.2.2.1, a.2.2.2.2.2.2⟩) (fun _ => rfl)

end Go.Proofs.Ytgacodhpniehiaa.XA
