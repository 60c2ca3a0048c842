/- The prism of a box has its hull and area, overlaps another box exactly if the boxes overlap, and covers it exactly if the box contains it. No condition. -/
import Derived.Test.YthogemdknlpnpaaXAx0
import Derived.Test.YthogemdknlpnpaaXAx8
import Derived.Test.YthogemdknlpnpaaXAx14
import Derived.Test.YthogemdknlpnpaaXAx34
import Derived.Test.YthogemdknlpnpaaXAx35
import Derived.Test.YthogemdknlpnpaaMt
namespace Go.Proofs.Ythogemdknlpnpaa.Pure
open Go.RowKit Go.Proofs.Ythogemdknlpnpaa.Opens Go.Proofs.Ythogemdknlpnpaa.XA Go.Proofs.YthogemdknlpnpaaW.PrintWords Go.Proofs.YthogemdknlpnpaaW.PrintLast Go.Proofs.Ythogemdknlpnpaa.Geo
set_option linter.unusedVariables false
set_option linter.unusedSimpArgs false
theorem PrismOfBoxes : gangsawlaw08_PrismOfBoxes.Pure := by
  intro a b c d e f a' b' c' d' e' f' g g'
  refine ⟨8000, ?_⟩
  have B := boxed_k a b c d e f (show 20 ≤ 8000 by omega)
  by_cases b1 : bx a b c d e f = true
  · have hb := bx_ok b1
    have c1 := q4_chk b1
    have H := hull_k (l := q4 a b d e) (by rw [q4_len]; omega) (by rw [q4_len]; omega) c f (show 100 ≤ 7999 by omega)
    rw [q4_hull (by omega) (by omega)] at H
    have A := Area2_k (q4 a b d e) c f (show 6000 ≤ 7999 by omega) (fun e => ⟨by have := (chk_ok e).1; omega, (chk_ok e).1.2, (chk_ok e).2.1⟩)
    have O := fun k (h : 200 ≤ k) => Overlaps_k (q4 a b d e) c f a' b' c' d' e' f' h
    have C := fun k (h : 200 ≤ k) => Covers_k (q4 a b d e) c f a' b' c' d' e' f' h
    have m := mulb (B := 2000000) (x := d - a) (y := e - b) (by omega) (by omega)
    have w : wrap64 (wrap64 (2 * wrap64 (d - a)) * wrap64 (e - b)) = 2 * (d - a) * (e - b) := by
      rw [wr (x := d - a) (by omega), wr (x := e - b) (by omega), wr (x := 2 * (d - a)) (by omega), wr (by rw [Int.mul_assoc]; omega)]
    simp only [gangsawlaw08_PrismOfBoxes.f, prism_Of.f, prism_Hull.f, B, b1, prism_of.f, Option.bind_some, if_true, show [(⟨a, b⟩ : S60), ⟨d, b⟩, ⟨d, e⟩, ⟨a, e⟩] = q4 a b d e from rfl, check_k _ _ _ (show 100 ≤ 7999 by omega), c1, H, A, q4_area, w, gangsawlaw08_PrismOfBoxes.j0, gangsawlaw08_PrismOfBoxes.j1, gangsawlaw08_PrismOfBoxes.j2, gangsawlaw08_PrismOfBoxes.j3, gangsawlaw08_PrismOfBoxes.j4, gangsawlaw08_PrismOfBoxes.j5, gangsawlaw08_PrismOfBoxes.j6, gangsawlaw08_PrismOfBoxes.j7, gangsawlaw08_PrismOfBoxes.j8, gangsawlaw08_PrismOfBoxes.j9, O _ (show 200 ≤ 7996 by omega), C _ (show 200 ≤ 7995 by omega), aw (show 200 ≤ 7994 by omega), aw (show 200 ≤ 7991 by omega)]
    by_cases q : bo (q4 a b d e) c f a' b' c' d' e' f' = 0
    · obtain ⟨-, b2⟩ := bo_ok q
      have hb' := bx_ok b2
      have M := q4_mt (a := a) (b := b) (c := c) (d := d) (e := e) (f := f) (a' := a') (b' := b') (c' := c') (d' := d') (e' := e') (f' := f') (by omega) (by omega) (by omega) (by omega)
      have V := q4_cv (a := a) (b := b) (d := d) (e := e) (a' := a') (b' := b') (d' := d') (e' := e') (by omega) (by omega) (by omega) (by omega)
      simp only [q, if_true]
      have M' : mt (q4 a b d e) c f (q4 a' b' d' e') c' f' = decide ((a < d' ∧ a' < d ∧ b < e' ∧ b' < e) ∧ c < f' ∧ c' < f) := by rw [Bool.eq_iff_iff, decide_eq_true_eq]; exact M
      have V' : (cv (q4 a b d e) (q4 a' b' d' e') && (decide (c ≤ c') && decide (f' ≤ f))) = decide ((a ≤ a' ∧ d' ≤ d ∧ b ≤ b' ∧ e' ≤ e) ∧ c ≤ c' ∧ f' ≤ f) := by
        rw [Bool.eq_iff_iff, decide_eq_true_eq, Bool.and_eq_true, V, Bool.and_eq_true, decide_eq_true_eq, decide_eq_true_eq]
      rw [M', V']
      clear M V M' V' H A O C B c1
      have key : ∀ (P Q : Prop) [Decidable P] [Decidable Q] (x y : Bool), x = decide P → y = decide Q → ((decide P == x) = true ∧ (decide Q == y) = true) := fun P Q _ _ x y h1 h2 => by subst h1 h2; simp
      by_cases t1 : a < d' <;> by_cases t2 : a' < d <;> by_cases t3 : b < e' <;> by_cases t4 : b' < e <;> by_cases t5 : c < f' <;> by_cases t6 : c' < f <;> simp [t1, t2, t3, t4, t5, t6] <;>
        (by_cases s1 : a ≤ a' <;> by_cases s2 : d' ≤ d <;> by_cases s3 : b ≤ b' <;> by_cases s4 : e' ≤ e <;> by_cases s5 : c ≤ c' <;> simp [s1, s2, s3, s4, s5])
    · simp [q]
  · simp [gangsawlaw08_PrismOfBoxes.f, prism_Of.f, B, b1, aw (show 200 ≤ 8000 by omega)]
end Go.Proofs.Ythogemdknlpnpaa.Pure
