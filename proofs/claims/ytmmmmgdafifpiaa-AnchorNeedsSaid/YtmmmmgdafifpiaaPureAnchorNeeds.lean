/- For all masses and rules, Needed of package anchor returns what the reference says, and more mass never needs fewer. No condition. -/
import Derived.Test.YtmmmmgdafifpiaaXAx4
import Derived.Test.YtmmmmgdafifpiaaXAx18
import Derived.Test.YtmmmmgdafifpiaaXAx19
import Derived.Test.YtmmmmgdafifpiaaMa
namespace Go.Proofs.Ytmmmmgdafifpiaa.Pure
open Go.RowKit Go.Proofs.Ytmmmmgdafifpiaa.Opens Go.Proofs.Ytmmmmgdafifpiaa.XA Go.Proofs.YtmmmmgdafifpiaaW.PrintWords Go.Proofs.YtmmmmgdafifpiaaW.PrintLast Go.Proofs.YtmmmmgdafifpiaaW.PrintMore
set_option linter.unusedVariables false
set_option linter.unusedSimpArgs false
theorem nd_b {m b : Int} (hm : 0 ≤ m ∧ m ≤ 1000000000000000) (hb : 1 ≤ b ∧ b ≤ 1000000000000) : wrap64 (Int.tdiv (wrap64 ((wrap64 (m + b)) - 1)) b) = (m + b - 1) / b ∧ 0 ≤ (m + b - 1) / b := by
  rw [wr (x := m + b) (by omega), wr (x := m + b - 1) (by omega), Int.tdiv_eq_ediv_of_nonneg (by omega)]
  have h0 : 0 ≤ (m + b - 1) / b := Int.ediv_nonneg (by omega) (by omega)
  have h1 : (m + b - 1) / b ≤ m + b - 1 := Int.ediv_le_self _ (by omega)
  exact ⟨wr (by omega), h0⟩
theorem needed_k (m e s b : Int) {k : Nat} (hk : 1 ≤ k) : anchor_Needed.f k m e s b = some (if ¬ Po e s b then (0, 1) else if m < 0 ∨ m > 1000000000000000 then (0, 6) else if (m + b - 1) / b > 16 then (0, 7) else ((m + b - 1) / b, 0)) := by
  obtain ⟨k, rfl⟩ : ∃ q, k = q + 1 := ⟨k - 1, by omega⟩
  unfold anchor_Needed.f
  simp only [possible_f, Option.bind_some, anchor_Needed.j0]
  by_cases h1 : Po e s b
  · have hr := h1
    unfold Po at hr
    by_cases h2 : m < 0
    · simp [h1, h2]
    · by_cases h3 : m > 1000000000000000
      · simp [h1, h2, h3]
      · have h4 := nd_b (m := m) (b := b) (by omega) (by omega)
        rw [h4.1]
        have h5 : b ≠ 0 := by omega
        simp only [h1, h2, h3, h5, decide_true, decide_false, if_true, if_false, not_true, or_self, Bool.false_eq_true]
        split <;> rfl
  · simp [h1]
theorem AnchorNeeds : gangsawlaw44_AnchorNeeds.Pure := by
  intro m m2 e s b g1 g2 g3
  refine ⟨1002, ?_⟩
  unfold gangsawlaw44_AnchorNeeds.f
  rw [needed_k _ _ _ _ (by omega), rpossible_f, aw (by omega)]
  simp only [Option.bind_some, gangsawlaw44_AnchorNeeds.j0, gangsawlaw44_AnchorNeeds.j1, needed_k _ _ _ _ (show 1 ≤ 1000 by omega), aw (show 200 ≤ 1000 by omega), aw (show 200 ≤ 1001 by omega), if_true]
  by_cases h1 : Po e s b
  · have hr := h1
    unfold Po at hr
    by_cases h2 : m < 0
    · simp [h1, h2]
    · by_cases h3 : m > 1000000000000000
      · simp [h1, h2, h3]
      · have h4 := nd_b (m := m) (b := b) (by omega) (by omega)
        have h5 : b ≠ 0 := by omega
        have h6 : gangsawref44_Needed.f m e s b = some ((m + b - 1) / b) := by
          unfold gangsawref44_Needed.f; rw [if_neg h5, h4.1]
        simp only [h1, h2, h3, h6, decide_true, decide_false, if_true, if_false, not_true, or_self, Bool.false_eq_true, Option.bind_some]
        by_cases h7 : (m + b - 1) / b > 16
        · simp [h7]
        · simp only [h7, if_false, if_true, bne_self_eq_false, Bool.false_eq_true]
          by_cases h8 : m2 < m
          · simp only [h8, if_true, ite_self]
          · by_cases h9 : m2 < 0 ∨ m2 > 1000000000000000
            · simp [h9]
            · have : (m + b - 1) / b ≤ (m2 + b - 1) / b := Int.ediv_le_ediv (by omega) (by omega)
              simp only [h8, h9, if_false]
              split
              · simp
              · simp [this]
  · simp [h1]
end Go.Proofs.Ytmmmmgdafifpiaa.Pure
