/- For all rules and measures, Plan of package stair returns the flight or the error that the reference returns. No condition. -/
import Derived.Test.YtaainbbkengjfaaMd
import Derived.Test.YtaainbbkengjfaaXAx18
namespace Go.Proofs.Ytaainbbkengjfaa.Pure
set_option linter.unusedVariables false
set_option linter.unusedSimpArgs false
open Go.RowKit Go.Proofs.Ytaainbbkengjfaa.Opens Go.Proofs.Ytaainbbkengjfaa.XA Go.Proofs.YtaainbbkengjfaaW.PrintWords Go.Proofs.YtaainbbkengjfaaW.PrintMore
theorem StairPlans : gangsawlaw42_StairPlans.Pure := by
  intro a b c d e f h len w l hr hh hlen hw hl
  have fin : ∀ (res : Int × Int × Int × Int × Int × Int × Int), Ev (fun k => stair_Plan.f k a b c d e f h len w l) res → Ev (fun k => gangsawref42_Plan.f k a b c d e f h len w l) res → ∃ k, gangsawlaw42_StairPlans.f k a b c d e f h len w l = some true := by
    rintro ⟨r1, r2, r3, r4, r5, r6, r7⟩ ⟨K, hK⟩ ⟨K', hK'⟩
    refine ⟨100 + (K + K'), ?_⟩
    have h1 := hK (100 + (K + K')) (by omega)
    have h2 := hK' (100 + (K + K')) (by omega)
    simp only at h1 h2
    unfold gangsawlaw42_StairPlans.f
    rw [awake_ev, h1, h2]
    simp
  by_cases hc : chk a b c d e f = 0
  · by_cases hp : inP h len w l
    · have hp' := hp
      unfold inP at hp'
      have go : ∀ res, Ev (fun k => gangsawref42_Plan.l0 k h len w l 1 a b c d e f) res → Ev (fun k => gangsawref42_Plan.f k a b c d e f h len w l) res := by
        rintro res ⟨K, hK⟩
        refine ⟨K + 20, fun k hk => ?_⟩
        obtain ⟨j, rfl⟩ : ∃ j, k = 10 + j + 1 := ⟨k - 11, by omega⟩
        show gangsawref42_Plan.f (10 + j + 1) a b c d e f h len w l = _
        unfold gangsawref42_Plan.f
        rw [show 10 + j + 1 = 10 + (j + 1) by omega, rcheck_f, show 10 + (j + 1) = 10 + j + 1 by omega]
        simp only [hc, Option.bind_some, if_true, rin_f, gangsawref42_Plan.j0, hp', and_self, decide_true, Bool.not_true, Bool.false_eq_true, if_false]
        exact hK (10 + j) (by omega)
      rcases plan_yes a b c d e f h len w l hc hp with ⟨n0, h1, h2, h3, h4, h5⟩ | ⟨h1, h2⟩
      · exact fin _ h5 (go _ (rplan0 a b c d e f h len w l hc hp'.1 hp'.2.1 64 1 (by omega) (by omega) _ (.inl ⟨n0, h1, h2, h3, h4, rfl⟩)))
      · exact fin _ h2 (go _ (rplan0 a b c d e f h len w l hc hp'.1 hp'.2.1 64 1 (by omega) (by omega) _ (.inr ⟨h1, rfl⟩)))
    · refine fin (0, 0, 0, 0, 0, 0, 6) ⟨10, fun k hk => ?_⟩ ⟨12, fun k hk => ?_⟩
      · obtain ⟨j, rfl⟩ : ∃ j, k = 10 + j := ⟨k - 10, by omega⟩
        exact plan_no2 _ _ _ _ _ _ _ _ _ _ hc hp j
      · obtain ⟨j, rfl⟩ : ∃ j, k = 10 + j := ⟨k - 10, by omega⟩
        show gangsawref42_Plan.f (10 + j) a b c d e f h len w l = _
        unfold gangsawref42_Plan.f
        rw [rcheck_f, show 10 + j = (9 + j) + 1 by omega]
        unfold inP at hp
        simp only [hc, Option.bind_some, if_true, rin_f, gangsawref42_Plan.j0]
        grind
  · refine fin (0, 0, 0, 0, 0, 0, chk a b c d e f) ⟨10, fun k hk => ?_⟩ ⟨12, fun k hk => ?_⟩
    · obtain ⟨j, rfl⟩ : ∃ j, k = 10 + j := ⟨k - 10, by omega⟩
      exact plan_no1 _ _ _ _ _ _ _ _ _ _ hc j
    · obtain ⟨j, rfl⟩ : ∃ j, k = 10 + j := ⟨k - 10, by omega⟩
      show gangsawref42_Plan.f (10 + j) a b c d e f h len w l = _
      unfold gangsawref42_Plan.f
      rw [rcheck_f]
      simp [hc]
end Go.Proofs.Ytaainbbkengjfaa.Pure
