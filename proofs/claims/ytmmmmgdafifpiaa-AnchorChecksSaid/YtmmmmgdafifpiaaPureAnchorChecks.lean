/- For all sizes, anchors, rules and faces, Check and Face of package anchor return what the reference says. No condition. -/
import Derived.Test.YtmmmmgdafifpiaaXAx28
import Derived.Test.YtmmmmgdafifpiaaMb
namespace Go.Proofs.Ytmmmmgdafifpiaa.Pure
open Go.RowKit Go.Proofs.Ytmmmmgdafifpiaa.Opens Go.Proofs.Ytmmmmgdafifpiaa.XA Go.Proofs.YtmmmmgdafifpiaaW.PrintWords Go.Proofs.YtmmmmgdafifpiaaW.PrintLast Go.Proofs.YtmmmmgdafifpiaaW.PrintMore
set_option linter.unusedVariables false
set_option linter.unusedSimpArgs false
theorem AnchorChecks : gangsawlaw44_AnchorChecks.Pure := by
  intro X Y Z l e s b f g1 g2 g3 g4
  refine ⟨2001, ?_⟩
  unfold gangsawlaw44_AnchorChecks.f
  rw [aw (by omega)]
  by_cases h : (l.length : Int) > 30
  · rw [if_pos h]; rfl
  · rw [if_neg h, Face_f, Check_k _ _ _ _ _ _ _ (by omega), rcheck_k _ _ _ _ _ _ _ (by omega), rsized_f, ris_f]
    simp only [Option.bind_some, if_true, gangsawlaw44_AnchorChecks.j0, rface_f, aw (show 200 ≤ 2000 by omega)]
    by_cases h1 : Sz X Y Z
    · by_cases h2 : 0 ≤ f ∧ f ≤ 5
      · simp [h1, h2]
      · have h3 : ¬ (Sz X Y Z ∧ 0 ≤ f ∧ f ≤ 5) := fun q => h2 q.2
        rw [if_neg h3]
        simp [h1, h2]
    · have h3 : ¬ (Sz X Y Z ∧ 0 ≤ f ∧ f ≤ 5) := fun q => h1 q.1
      rw [if_neg h3]
      simp [h1]
end Go.Proofs.Ytmmmmgdafifpiaa.Pure
