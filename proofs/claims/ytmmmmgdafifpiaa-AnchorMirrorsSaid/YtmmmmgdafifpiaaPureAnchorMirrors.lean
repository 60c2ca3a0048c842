/- The mirror image of anchors of package anchor keeps a rule exactly if they do, and its mirror image are the anchors. No condition. -/
import Derived.Test.YtmmmmgdafifpiaaXAx38
import Derived.Test.YtmmmmgdafifpiaaMe
namespace Go.Proofs.Ytmmmmgdafifpiaa.Pure
open Go.RowKit Go.Proofs.Ytmmmmgdafifpiaa.Opens Go.Proofs.Ytmmmmgdafifpiaa.XA Go.Proofs.YtmmmmgdafifpiaaW.PrintWords Go.Proofs.YtmmmmgdafifpiaaW.PrintLast Go.Proofs.YtmmmmgdafifpiaaW.PrintMore
set_option linter.unusedVariables false
set_option linter.unusedSimpArgs false
theorem AnchorMirrors : gangsawlaw44_AnchorMirrors.Pure := by
  intro X Y Z l e s b g1 g2 g3
  refine ⟨2001, ?_⟩
  unfold gangsawlaw44_AnchorMirrors.f
  rw [aw (by omega)]
  by_cases h : (l.length : Int) > 30
  · rw [if_pos h]; rfl
  · rw [if_neg h, Mirror_k _ _ _ _ (by omega)]
    simp only [Option.bind_some]
    by_cases h1 : Sz X Y Z
    · by_cases h2 : pl X Y Z l = 0
      · have h3 := ((pl_zero X Y Z l).1 h2).2.1
        simp only [h1, not_true_eq_false, if_false, h2, if_true]
        rw [Mirror_k _ _ _ _ (by omega)]
        simp only [h1, not_true_eq_false, if_false, mir_pl h2, mir_map h3, Option.bind_some, if_true]
        rw [msame_k (by omega) (by omega), Check_k _ _ _ _ _ _ _ (by omega), Check_k _ _ _ _ _ _ _ (by omega), mir_ck h2]
        simp
      · simp [h1, h2]
    · simp [h1]
end Go.Proofs.Ytmmmmgdafifpiaa.Pure
