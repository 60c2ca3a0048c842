/- For all sizes, faces, numbers and rules, Row and Most of package anchor return what the reference says. No condition. -/
import Derived.Test.YtmmmmgdafifpiaaXAx26
import Derived.Test.YtmmmmgdafifpiaaMd
namespace Go.Proofs.Ytmmmmgdafifpiaa.Pure
open Go.RowKit Go.Proofs.Ytmmmmgdafifpiaa.Opens Go.Proofs.Ytmmmmgdafifpiaa.XA Go.Proofs.YtmmmmgdafifpiaaW.PrintWords Go.Proofs.YtmmmmgdafifpiaaW.PrintLast Go.Proofs.YtmmmmgdafifpiaaW.PrintMore
set_option linter.unusedVariables false
set_option linter.unusedSimpArgs false
theorem AnchorRows : gangsawlaw44_AnchorRows.Pure := by
  intro X Y Z f n e s b g1 g2 g3 g4
  refine ⟨2003, ?_⟩
  unfold gangsawlaw44_AnchorRows.f
  rw [Row_k _ _ _ _ _ _ _ _ (by omega), Most_k _ _ _ _ _ _ _ (by omega), rsized_f, ris_f, rpossible_f]
  simp only [Option.bind_some, gangsawlaw44_AnchorRows.j0, gangsawlaw44_AnchorRows.j1, gangsawlaw44_AnchorRows.j2, aw (show 200 ≤ 2000 by omega), aw (show 200 ≤ 2001 by omega), aw (show 200 ≤ 2002 by omega), if_true]
  by_cases h : Ok X Y Z f e s b
  · have h' := h
    unfold Ok at h'
    obtain ⟨h1, h2, h3⟩ := h'
    have e0 : (1 : Int) ≤ n ∧ n ≤ 16 ↔ ¬ (n < 1) ∧ ¬ (n > 16) := by omega
    by_cases h4 : 1 ≤ n ∧ n ≤ 16
    · have e1 := rrow_k (f := f) h1 h3 (n := n.toNat) (by omega) (k := 2000) (by omega)
      rw [show ((n.toNat : Nat) : Int) = n by omega] at e1
      have h5 : ¬ n < 1 := by omega
      have h6 : ¬ n > 16 := by omega
      have e2 := ck_row (f := f) h1 h3 n.toNat
      simp only [h, h1, h2, h3, h4, h5, h6, decide_true, decide_false, if_true, Bool.not_true, Bool.false_eq_true, if_false, not_true, and_self, rMost_k h (show 1400 ≤ 2002 by omega), Option.bind_some, bne_self_eq_false, e1, rcheck_k _ _ _ _ _ _ _ (show 1300 ≤ 2000 by omega), e2]
      by_cases h7 : hd X Y Z f e s n.toNat = true
      · simp only [h7, if_true, same_k (show (rw_ X Y Z f e n.toNat).length ≤ 40 by rw [rw_len]; omega) (show 50 ≤ 2000 by omega)]; rfl
      · simp [h7]
    · have h5 : ¬ (Ok X Y Z f e s b ∧ 1 ≤ n ∧ n ≤ 16) := fun q => h4 q.2
      rw [if_pos h5]
      simp only [h, h1, h2, h3, decide_true, if_true, Bool.not_true, Bool.false_eq_true, if_false, rMost_k h (show 1400 ≤ 2002 by omega), Option.bind_some, bne_self_eq_false]
      by_cases h6 : n < 1
      · simp [h6]
      · have h7 : n > 16 := by omega
        simp [h6, h7]
  · have h5 : ¬ (Ok X Y Z f e s b ∧ 1 ≤ n ∧ n ≤ 16) := fun q => h q.1
    rw [if_pos h5, if_neg h]
    unfold Ok at h
    by_cases h1 : Sz X Y Z
    · by_cases h2 : 0 ≤ f ∧ f ≤ 5
      · have h3 : ¬ Po e s b := fun q => h ⟨h1, h2, q⟩
        simp [h1, h2, h3]
      · simp [h1, h2]
    · simp [h1]
end Go.Proofs.Ytmmmmgdafifpiaa.Pure
