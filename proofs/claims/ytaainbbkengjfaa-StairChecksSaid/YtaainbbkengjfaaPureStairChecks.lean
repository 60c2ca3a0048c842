/- For all rules, flights and steps, Check, Fits, Height and Level of package stair return what the reference says. No condition. -/
import Derived.Test.YtaainbbkengjfaaMb
import Derived.Test.YtaainbbkengjfaaXAx16
namespace Go.Proofs.Ytaainbbkengjfaa.Pure
set_option linter.unusedVariables false
set_option linter.unusedSimpArgs false
open Go.RowKit Go.Proofs.Ytaainbbkengjfaa.Opens Go.Proofs.Ytaainbbkengjfaa.XA Go.Proofs.YtaainbbkengjfaaW.PrintWords Go.Proofs.YtaainbbkengjfaaW.PrintMore
theorem StairChecks : gangsawlaw42_StairChecks.Pure := by
  intro a b c d e f n r x g w l s hr hf hs
  have hs' := gInt_i64 hs
  refine ⟨300, ?_⟩
  unfold gangsawlaw42_StairChecks.f
  rw [awake_ev 200, check_f _ _ _ _ _ _ 290, rcheck_f _ _ _ _ _ _ 290, fits_f _ _ _ _ _ _ _ _ _ _ _ _ 100, rfits_f _ _ _ _ _ _ _ _ _ _ _ _ 100]
  simp only [Option.bind_some, if_true, bne_self_eq_false]
  simp only [gangsawlaw42_StairChecks.j0]
  rw [Level_f _ _ _ _ _ _ _ hs', rvalid_f]
  by_cases h : V n r x g w l
  · have hV := h
    unfold V at hV
    have hml := mul_lim (a := n) (b := g) (by omega) (by omega) (by omega) (by omega)
    rw [height_f _ _ _ _ _ _ h]
    simp only [Option.bind_some, h, decide_true, if_true]
    rw [wr (x := n - 1) (by omega), rlevel_f _ _ _ _ _ _ _ h (by omega) (by omega) 199]
    rw [show n - 1 + 1 = n by omega, show mn n x = x by unfold mn; split <;> omega, wr (x := n * g) (by omega)]
    simp only [Option.bind_some, if_true, bne_self_eq_false]
    simp only [gangsawlaw42_StairChecks.j1]
    by_cases h1 : s < 0
    · simp [h1, show ¬ (0 ≤ s ∧ s < n) by omega]
    · by_cases h2 : s ≥ n
      · simp [h1, h2, show ¬ (0 ≤ s ∧ s < n) by omega]
      · rw [rlevel_f _ _ _ _ _ _ _ h (by omega) (by omega) 198]
        simp [h1, h2, show (0 ≤ s ∧ s < n) by omega]
  · rw [height_no _ _ _ _ _ _ h]
    simp [h]
end Go.Proofs.Ytaainbbkengjfaa.Pure
