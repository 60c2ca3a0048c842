/- Whether anchors keep a rule of package anchor does not depend on their order, and what keeps a rule still does without its last anchor. No condition. -/
import Derived.Test.YtmmmmgdafifpiaaXAx0
import Derived.Test.YtmmmmgdafifpiaaXAx30
import Derived.Test.YtmmmmgdafifpiaaMc
namespace Go.Proofs.Ytmmmmgdafifpiaa.Pure
open Go.RowKit Go.Proofs.Ytmmmmgdafifpiaa.Opens Go.Proofs.Ytmmmmgdafifpiaa.XA Go.Proofs.YtmmmmgdafifpiaaW.PrintWords Go.Proofs.YtmmmmgdafifpiaaW.PrintLast Go.Proofs.YtmmmmgdafifpiaaW.PrintMore
set_option linter.unusedVariables false
set_option linter.unusedSimpArgs false
theorem ord0 (X Y Z e s b : Int) (l : List S54) (hl : l.length ≤ 16) (hne : l ≠ []) : ∀ (m k : Nat), m ≤ l.length → m + 1500 ≤ k → gangsawlaw44_AnchorOrder.l0 k l ((l.drop m).reverse) ((m : Int) - 1) X Y Z e s b = some true := by
  intro m
  induction m with
  | zero =>
    intro k hm hk
    obtain ⟨k, rfl⟩ : ∃ q, k = q + 1 := ⟨k - 1, by omega⟩
    simp only [gangsawlaw44_AnchorOrder.l0]
    rw [if_neg (by omega), Check_k _ _ _ _ _ _ _ (by omega), List.drop_zero, Check_k _ _ _ _ _ _ _ (by omega), Check_k _ _ _ _ _ _ _ (by omega), ck_rev, aw (by omega)]
    simp only [Option.bind_some, if_true]
    have : 0 < l.length := List.length_pos_iff.2 hne
    by_cases h : ck X Y Z e s b l = 0
    · have h2 : ck X Y Z e s b (l.reverse.drop 1) = 0 := ck_tail _ _ _ _ _ _ _ (by rw [ck_rev]; exact h)
      rw [if_pos h, if_pos (by simp; omega), h2]; rfl
    · rw [if_neg h]
  | succ m ih =>
    intro k hm hk
    obtain ⟨k, rfl⟩ : ∃ q, k = q + 1 := ⟨k - 1, by omega⟩
    simp only [gangsawlaw44_AnchorOrder.l0]
    rw [show ((m + 1 : Nat) : Int) - 1 = m by omega, if_pos (by omega), if_pos (by omega), if_pos (by omega), if_pos (by simp; omega), wr (by omega)]
    have := ih k (by omega) (by omega)
    rw [drop_rd l m (by omega), List.reverse_cons] at this
    exact this
theorem AnchorOrder : gangsawlaw44_AnchorOrder.Pure := by
  intro X Y Z l e s b g1 g2 g3
  refine ⟨2001, ?_⟩
  unfold gangsawlaw44_AnchorOrder.f
  simp only [gangsawlaw44_AnchorOrder.j0, aw (show 200 ≤ 2000 by omega)]
  by_cases h : (l.length : Int) > 16
  · rw [if_pos h]; rfl
  · rw [if_neg h]
    by_cases h2 : l = []
    · subst h2; rfl
    · have h3 : ((l.length : Int) == 0) = false := by
        have : 0 < l.length := List.length_pos_iff.2 h2
        rw [beq_eq_false_iff_ne]; omega
      rw [h3]
      simp only [Bool.false_eq_true, if_false]
      rw [wr (by omega)]
      have := ord0 X Y Z e s b l (by omega) h2 l.length 2000 (by omega) (by omega)
      rw [List.drop_length] at this
      exact this
end Go.Proofs.Ytmmmmgdafifpiaa.Pure
