/- A flight that Plan returns keeps its rule, has the height, the width and the lap, and fits into the length; no flight that does so has fewer rises, or as many and a greater going. No condition. -/
import Derived.Test.YtaainbbkengjfaaMc
import Derived.Test.YtaainbbkengjfaaXAx21
namespace Go.Proofs.Ytaainbbkengjfaa.Pure
set_option linter.unusedVariables false
set_option linter.unusedSimpArgs false
open Go.RowKit Go.Proofs.Ytaainbbkengjfaa.Opens Go.Proofs.Ytaainbbkengjfaa.XA Go.Proofs.YtaainbbkengjfaaW.PrintWords Go.Proofs.YtaainbbkengjfaaW.PrintMore
theorem height_any (n r x g w l : Int) : stair_Height.f n r x g w l = some (if V n r x g w l then (n * r + x, n * g, 0) else (0, 0, 1)) := by
  by_cases h : V n r x g w l
  · rw [height_f _ _ _ _ _ _ h, if_pos h]
  · rw [height_no _ _ _ _ _ _ h, if_neg h]
/-- Another flight of the same height within the length, that keeps the rule: its numbers. -/
theorem other_of {a b c d e f h len w l n r x g : Int} (hV : V n r x g w l) (hh : n * r + x = h) (hl : n * g ≤ len) (hf : fts a b c d e f n r x g w l = 0) (hb : 1 ≤ len ∧ len ≤ 640000) :
    1 ≤ n ∧ n ≤ 64 ∧ True ∧ r = h / n ∧ x = h % n ∧ g ≤ len / n := by
  have hV' := hV
  unfold V at hV
  have hm := mul_lim (a := n) (b := r) (by omega) (by omega) (by omega) (by omega)
  have hm1 : n * 1 ≤ n * r := Int.mul_le_mul_of_nonneg_left (by omega) (by omega)
  have e1 : h / n = r := by
    rw [← hh, Int.add_comm, Int.add_mul_ediv_left _ _ (by omega), Int.ediv_eq_zero_of_lt (by omega) (by omega)]; omega
  have e2 : h % n = x := by
    rw [← hh, Int.add_comm, Int.add_mul_emod_self_left, Int.emod_eq_of_lt (by omega) (by omega)]
  have hr64 : n * r ≤ n * 10000 := Int.mul_le_mul_of_nonneg_left (by omega) (by omega)
  refine ⟨by omega, by omega, trivial, e1.symm, e2.symm, ?_⟩
  · rw [Int.le_ediv_iff_mul_le (by omega), Int.mul_comm]
    exact hl
theorem fewest1 (a b c d e f h len w l er n r x g w' l' pn pr px pg pw pq : Int) (j : Nat)
    (hP : er = 0 → V n r x g w' l' → n * r + x = h → n * g ≤ len → w' = w → l' = l → fts a b c d e f n r x g w' l' = 0 → (pn < n ∨ (pn = n ∧ pg ≥ g)))
    (hN : er ≠ 0 → V n r x g w' l' → n * r + x = h → n * g ≤ len → w' = w → l' = l → fts a b c d e f n r x g w' l' = 0 → False) :
    gangsawlaw42_StairFewest.j1 (201 + j) h len w l er a b c d e f n r x g w' l' pn pr px pg pw pq = some true := by
  rw [show 201 + j = 200 + j + 1 by omega]
  simp only [gangsawlaw42_StairFewest.j1]
  rw [height_any, fits_f]
  by_cases hV : V n r x g w' l'
  · simp only [hV, if_true, Option.bind_some]
    have h1 := fun q => hP q hV
    have h2 := fun q => hN q hV
    by_cases q0 : er = 0
    · have h1 := h1 q0
      grind
    · have h2 := h2 q0
      grind
  · simp only [hV, if_false, Option.bind_some]
    rfl
theorem StairFewest : gangsawlaw42_StairFewest.Pure := by
  intro a b c d e f h len w l n r x g w' l' hr hh hlen hw hl hfl
  by_cases hc : chk a b c d e f = 0
  · by_cases hp : inP h len w l
    · have hp' := hp
      unfold inP at hp'
      rcases plan_yes a b c d e f h len w l hc hp with ⟨n0, h1, h2, h3, h4, K, hK⟩ | ⟨h1, K, hK⟩
      · refine ⟨K + 300, ?_⟩
        unfold gangsawlaw42_StairFewest.f
        have hK := hK (K + 300) (by omega)
        simp only at hK
        rw [show K + 300 = 100 + (K + 200) by omega, awake_ev, show 100 + (K + 200) = K + 300 by omega, hK]
        simp only [Option.bind_some, if_true, pl]
        rw [show K + 300 = (200 + (K + 99)) + 1 by omega]
        simp only [gangsawlaw42_StairFewest.j0]
        have hd := div_mod hp'.1 h1
        have hV0 : V n0 (h / n0) (h % n0) (gst d f h len n0) w l := by
          unfold ftsAt fts at h3
          by_cases q : V n0 (h / n0) (h % n0) (gst d f h len n0) w l
          · exact q
          · rw [if_pos hc, if_neg q] at h3; omega
        have hgl : n0 * gst d f h len n0 ≤ len := by
          have : gst d f h len n0 ≤ len / n0 := by unfold gst mn; grind
          rw [Int.le_ediv_iff_mul_le (by omega), Int.mul_comm] at this
          exact this
        rw [height_any, if_pos hV0, fits_f]
        have h3' := h3
        unfold ftsAt at h3'
        simp only [Option.bind_some, h3', if_true, Bool.false_eq_true, if_false, hd.2.2.2.2]
        rw [if_neg (by omega), show 200 + (K + 99) = 201 + (K + 98) by omega]
        apply fewest1
        · intro _ hV ha hb ew el hf
          subst ew el
          obtain ⟨q1, q2, q3, q4, q5, q6⟩ := other_of hV ha hb hf hp'.2.1
          rw [q4, q5] at hf
          obtain ⟨z1, z2⟩ := gst_best hc hp'.1 hp'.2.1 q1 q6 hf
          by_cases lt : n < n0
          · exact absurd z2 (h4 n q1 lt)
          · by_cases eq : n = n0
            · subst eq; right; exact ⟨rfl, z1⟩
            · left; omega
        · intro q; exact absurd rfl q
      · refine ⟨K + 300, ?_⟩
        unfold gangsawlaw42_StairFewest.f
        have hK := hK (K + 300) (by omega)
        simp only at hK
        rw [show K + 300 = 100 + (K + 200) by omega, awake_ev, show 100 + (K + 200) = K + 300 by omega, hK]
        simp only [Option.bind_some, if_true, show ¬ ((9 : Int) = 0) by omega, if_false, bne_self_eq_false]
        rw [show K + 300 = (201 + (K + 98)) + 1 by omega]
        simp only [gangsawlaw42_StairFewest.j0, Bool.false_eq_true, if_false, show ¬ ((9 : Int) = 0) by omega]
        apply fewest1
        · intro q; omega
        · intro _ hV ha hb ew el hf
          subst ew el
          obtain ⟨q1, q2, q3, q4, q5, q6⟩ := other_of hV ha hb hf hp'.2.1
          rw [q4, q5] at hf
          exact h1 n q1 q2 (gst_best hc hp'.1 hp'.2.1 q1 q6 hf).2
    · refine ⟨300, ?_⟩
      unfold gangsawlaw42_StairFewest.f
      rw [awake_ev 200, plan_no2 _ _ _ _ _ _ _ _ _ _ hc hp 290]
      simp [gangsawlaw42_StairFewest.j0]
  · refine ⟨300, ?_⟩
    unfold gangsawlaw42_StairFewest.f
    rw [awake_ev 200, plan_no1 _ _ _ _ _ _ _ _ _ _ hc 290]
    have : chk a b c d e f ≠ 9 := by unfold chk; grind
    simp [gangsawlaw42_StairFewest.j0, hc, this]
end Go.Proofs.Ytaainbbkengjfaa.Pure
