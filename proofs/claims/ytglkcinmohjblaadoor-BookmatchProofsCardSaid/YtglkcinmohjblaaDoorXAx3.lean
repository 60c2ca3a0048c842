import Derived.Test.YtglkcinmohjblaaDoorXAx0
namespace Go.Proofs.YtglkcinmohjblaaDoor.XA
open Go.RowKit Opens YtglkcinmohjblaaDoorW.PrintWords YtglkcinmohjblaaDoorW.PrintLast YtglkcinmohjblaaDoorW.PrintMore
attribute [local go_sem] max2_int min2_int max_two min_two max_three min_three max_four min_four cell_some cell_same
set_option linter.unusedVariables false
set_option linter.unusedSimpArgs false

def g58 (x : S58) : Prop := (gInt .i64) x.f0 ∧ (gInt .i64) x.f1 ∧ (gInt .i64) x.f2
theorem opens58 : Opens Tryd.prog 58 k58 g58 := by
  have h_ : OpensAt Tryd.prog [(3, 0), (3, 1), (3, 2)] 0 (Kd.pair (Kd.int .i64) (Kd.pair (Kd.int .i64) (Kd.int .i64))) (gPair (gInt .i64) (gPair (gInt .i64) (gInt .i64))) := (at_cons (opens_int Tryd.underlying3) (by kernel_rfl) rfl (at_cons (opens_int Tryd.underlying3) (by kernel_rfl) rfl (at_one (opens_int Tryd.underlying3) (by kernel_rfl))))
  have h2 : Opens Tryd.prog 58 (Kd.pair (Kd.int .i64) (Kd.pair (Kd.int .i64) (Kd.int .i64))) (gPair (gInt .i64) (gPair (gInt .i64) (gInt .i64))) := opens_struct Tryd.underlying58 (by kernel_rfl) h_
  exact opens_iso (d := (Kd.pair (Kd.int .i64) (Kd.pair (Kd.int .i64) (Kd.int .i64)))) (g := (gPair (gInt .i64) (gPair (gInt .i64) (gInt .i64)))) h2 (fun x : S58 => (x.f0, x.f1, x.f2)) (fun a => ⟨a.1, a.2.1, a.2.2⟩) (fun _ => rfl)
def g60 (x : S60) : Prop := g58 x.f0 ∧ g58 x.f1
theorem opens60 : Opens Tryd.prog 60 k60 g60 := by
  have h_ : OpensAt Tryd.prog [(58, 0), (58, 3)] 0 (Kd.pair k58 k58) (gPair g58 g58) := (at_cons opens58 (by kernel_rfl) rfl (at_one opens58 (by kernel_rfl)))
  have h2 : Opens Tryd.prog 60 (Kd.pair k58 k58) (gPair g58 g58) := opens_struct Tryd.underlying60 (by kernel_rfl) h_
  exact opens_iso (d := (Kd.pair k58 k58)) (g := (gPair g58 g58)) h2 (fun x : S60 => (x.f0, x.f1)) (fun a => ⟨a.1, a.2⟩) (fun _ => rfl)
def g62 (x : S62) : Prop := gStr x.f0 ∧ gStr x.f1 ∧ (gInt .i64) x.f2 ∧ g60 x.f3 ∧ (gInt .i64) x.f4 ∧ (gSl (gInt .i64)) x.f5 ∧ (gSl (gInt .i64)) x.f6
theorem opens62 : Opens Tryd.prog 62 k62 g62 := by
  have h_ : OpensAt Tryd.prog [(9, 0), (9, 1), (3, 2), (60, 3), (3, 9), (55, 10), (55, 11)] 0 (Kd.pair Kd.string (Kd.pair Kd.string (Kd.pair (Kd.int .i64) (Kd.pair k60 (Kd.pair (Kd.int .i64) (Kd.pair (Kd.slice 3 (Kd.int .i64)) (Kd.slice 3 (Kd.int .i64)))))))) (gPair gStr (gPair gStr (gPair (gInt .i64) (gPair g60 (gPair (gInt .i64) (gPair (gSl (gInt .i64)) (gSl (gInt .i64)))))))) := (at_cons (opens_string Tryd.underlying9) (by kernel_rfl) rfl (at_cons (opens_string Tryd.underlying9) (by kernel_rfl) rfl (at_cons (opens_int Tryd.underlying3) (by kernel_rfl) rfl (at_cons opens60 (by kernel_rfl) rfl (at_cons (opens_int Tryd.underlying3) (by kernel_rfl) rfl (at_cons (opens_slice Tryd.underlying55 (by kernel_rfl) (opens_int Tryd.underlying3)) (by kernel_rfl) rfl (at_one (opens_slice Tryd.underlying55 (by kernel_rfl) (opens_int Tryd.underlying3)) (by kernel_rfl))))))))
  have h2 : Opens Tryd.prog 62 (Kd.pair Kd.string (Kd.pair Kd.string (Kd.pair (Kd.int .i64) (Kd.pair k60 (Kd.pair (Kd.int .i64) (Kd.pair (Kd.slice 3 (Kd.int .i64)) (Kd.slice 3 (Kd.int .i64)))))))) (gPair gStr (gPair gStr (gPair (gInt .i64) (gPair g60 (gPair (gInt .i64) (gPair (gSl (gInt .i64)) (gSl (gInt .i64)))))))) := opens_struct Tryd.underlying62 (by kernel_rfl) h_
  exact opens_iso (d := (Kd.pair Kd.string (Kd.pair Kd.string (Kd.pair (Kd.int .i64) (Kd.pair k60 (Kd.pair (Kd.int .i64) (Kd.pair (Kd.slice 3 (Kd.int .i64)) (Kd.slice 3 (Kd.int .i64))))))))) (g := (gPair gStr (gPair gStr (gPair (gInt .i64) (gPair g60 (gPair (gInt .i64) (gPair (gSl (gInt .i64)) (gSl (gInt .i64))))))))) h2 (fun x : S62 => (x.f0, x.f1, x.f2, x.f3, x.f4, x.f5, x.f6)) (fun a => ⟨a.1, a.2.1, a.2.2.1, a.2.2.2.1, a.2.2.2.2.1, a.2.2.2.2.2.1, a.2.2.2.2.2.2⟩) (fun _ => rfl)
def g68 (x : S68) : Prop := (gInt .i64) x.f0 ∧ gBool x.f1
theorem opens68 : Opens Tryd.prog 68 k68 g68 := by
  have h_ : OpensAt Tryd.prog [(3, 0), (4, 1)] 0 (Kd.pair (Kd.int .i64) Kd.bool) (gPair (gInt .i64) gBool) := (at_cons (opens_int Tryd.underlying3) (by kernel_rfl) rfl (at_one (opens_bool Tryd.underlying4) (by kernel_rfl)))
  have h2 : Opens Tryd.prog 68 (Kd.pair (Kd.int .i64) Kd.bool) (gPair (gInt .i64) gBool) := opens_struct Tryd.underlying68 (by kernel_rfl) h_
  exact opens_iso (d := (Kd.pair (Kd.int .i64) Kd.bool)) (g := (gPair (gInt .i64) gBool)) h2 (fun x : S68 => (x.f0, x.f1)) (fun a => ⟨a.1, a.2⟩) (fun _ => rfl)
def g51 (x : S51) : Prop := (gInt .i64) x.f0 ∧ (gInt .i64) x.f1
theorem opens51 : Opens Tryd.prog 51 k51 g51 := by
  have h_ : OpensAt Tryd.prog [(2, 0), (2, 1)] 0 (Kd.pair (Kd.int .i64) (Kd.int .i64)) (gPair (gInt .i64) (gInt .i64)) := (at_cons (opens_int Tryd.underlying2) (by kernel_rfl) rfl (at_one (opens_int Tryd.underlying2) (by kernel_rfl)))
  have h2 : Opens Tryd.prog 51 (Kd.pair (Kd.int .i64) (Kd.int .i64)) (gPair (gInt .i64) (gInt .i64)) := opens_array Tryd.underlying51 (by kernel_rfl) (by have hc_ : Tryd.prog.cellsOf 2 = 1 := (by kernel_rfl); simp only [hc_]; exact h_)
  exact opens_iso (d := (Kd.pair (Kd.int .i64) (Kd.int .i64))) (g := (gPair (gInt .i64) (gInt .i64))) h2 (fun x : S51 => (x.f0, x.f1)) (fun a => ⟨a.1, a.2⟩) (fun _ => rfl)

end Go.Proofs.YtglkcinmohjblaaDoor.XA
