/- A box overlaps a prism exactly if the ranges of z overlap and nothing separates; what overlaps the prism overlaps its hull, and what is covered overlaps. No condition. -/
import Derived.Test.YthogemdknlpnpaaXAx8
import Derived.Test.YthogemdknlpnpaaXAx33
import Derived.Test.YthogemdknlpnpaaMt
namespace Go.Proofs.Ythogemdknlpnpaa.Pure
open Go.RowKit Go.Proofs.Ythogemdknlpnpaa.Opens Go.Proofs.Ythogemdknlpnpaa.XA Go.Proofs.YthogemdknlpnpaaW.PrintWords Go.Proofs.YthogemdknlpnpaaW.PrintLast Go.Proofs.Ythogemdknlpnpaa.Geo
set_option linter.unusedVariables false
set_option linter.unusedSimpArgs false
theorem PrismOverlaps : gangsawlaw08_PrismOverlaps.Pure := by
  intro l lo hi a b c d e f g g'
  refine ⟨8000, ?_⟩
  unfold gangsawlaw08_PrismOverlaps.f
  by_cases h : (l.length : Int) > 80
  · rw [if_pos h, aw (by omega)]; rfl
  · rw [if_neg h, Overlaps_k _ _ _ _ _ _ _ _ _ (by omega), Covers_k _ _ _ _ _ _ _ _ _ (by omega), Separator_k _ _ _ _ _ _ _ _ _ (by omega)]
    unfold prism_Hull.f
    rw [check_k l lo hi (by omega)]
    simp only [Option.bind_some]
    by_cases q : bo l lo hi a b c d e f = 0
    · obtain ⟨c1, b1⟩ := bo_ok q
      obtain ⟨⟨h3, hn⟩, ok, _, hz0, gl⟩ := chk_ok c1
      have hb := bx_ok b1
      have a1 := hull_k (l := l) (k := 8000) (by omega) hn lo hi (by omega)
      have m := mt_iff (l := l) (by omega) lo hi c f (show a < d by omega) (show b < e by omega)
      have si := spt_iff (l := l) (by omega) lo hi (show a < d by omega) (show b < e by omega)
      have sq := sep_q (l := l) (by omega) lo hi (show a < d by omega) (show b < e by omega)
      have cm := fun t z1 z2 => cv_mt h3 gl (lo := lo) (hi := hi) (show a < d by omega) (show b < e by omega) (show c < f by omega) t z1 z2
      have z1 : (hull l lo hi).2.2.1 = lo := (hl_z l _).1
      have z2 : (hull l lo hi).2.2.2.2.2 = hi := (hl_z l _).2
      have hcm : (cv l (q4 a b d e) && (decide (lo ≤ c) && decide (f ≤ hi))) = true → mt l lo hi (q4 a b d e) c f = true := fun t => by
        simp only [Bool.and_eq_true, decide_eq_true_eq] at t; exact cm t.1 t.2.1 t.2.2
      simp only [q, c1, a1, if_true, Option.bind_some, gangsawlaw08_PrismOverlaps.j0, gangsawlaw08_PrismOverlaps.j1, gangsawlaw08_PrismOverlaps.j2, aw (show 200 ≤ 7997 by omega), z1, z2]
      generalize (cv l (q4 a b d e) && (decide (lo ≤ c) && decide (f ≤ hi))) = C at hcm ⊢
      generalize hM : mt l lo hi (q4 a b d e) c f = M at m hcm ⊢
      generalize spt l lo hi a b d e = S at m si ⊢
      cases M
      · have hC : C = false := by cases C <;> simp_all
        subst hC
        have : ¬ (S = -1 ∧ c < hi ∧ lo < f) := fun t => absurd (m.2 t) (by decide)
        by_cases p0 : S = -1 <;> by_cases p1 : c < hi <;> by_cases p2 : lo < f <;> simp_all
      · obtain ⟨p0, p1, p2⟩ := m.1 rfl
        obtain ⟨-, y⟩ := si.1 p0
        obtain ⟨y1, y2, y3, y4⟩ := sq.1 y
        subst p0
        simp [p1, p2, show a < (hull l lo hi).2.2.2.1 by omega, show (hull l lo hi).1 < d by omega, show b < (hull l lo hi).2.2.2.2.1 by omega, show (hull l lo hi).2.1 < e by omega]
    · simp only [q, if_false, aw (show 200 ≤ 8000 by omega)]
      by_cases c1 : chk l lo hi = 0
      · have a1 := hull_k (l := l) (k := 8000) (by have := chk_ok c1; omega) (chk_ok c1).1.2 lo hi (by omega)
        simp [c1, a1]
      · simp [c1]
end Go.Proofs.Ythogemdknlpnpaa.Pure
