/- Meets of package prism reports whether two prisms overlap, or returns the first error; the order does not matter. No condition. -/
import Derived.Test.YthogemdknlpnpaaXAx37
import Derived.Test.YthogemdknlpnpaaMn
namespace Go.Proofs.Ythogemdknlpnpaa.Pure
open Go.RowKit Go.Proofs.Ythogemdknlpnpaa.Opens Go.Proofs.Ythogemdknlpnpaa.XA Go.Proofs.YthogemdknlpnpaaW.PrintWords Go.Proofs.YthogemdknlpnpaaW.PrintLast Go.Proofs.Ythogemdknlpnpaa.Geo
set_option linter.unusedVariables false
set_option linter.unusedSimpArgs false
theorem PrismMeets : gangsawlaw08_PrismMeets.Pure := by
  intro l lo hi L lo' hi' g g'
  refine ⟨8000, ?_⟩
  unfold gangsawlaw08_PrismMeets.f
  simp only [gangsawlaw08_PrismMeets.j0, gangsawlaw08_PrismMeets.j1, aw (show 200 ≤ 7999 by omega), aw (show 200 ≤ 7998 by omega), Meets_k _ _ _ _ _ _ (show 200 ≤ 7999 by omega), Meets_k _ _ _ _ _ _ (show 200 ≤ 7998 by omega), rcheck_k _ _ _ (show 6000 ≤ 7999 by omega), Option.bind_some]
  by_cases h : (l.length : Int) > 80
  · simp [h]
  by_cases h' : (L.length : Int) > 80
  · simp [h, h']
  by_cases a : chk l lo hi = 0
  · by_cases b : chk L lo' hi' = 0
    · obtain ⟨⟨a1, a2⟩, -⟩ := chk_ok a
      obtain ⟨⟨b1, b2⟩, -⟩ := chk_ok b
      have m := rmeets_k (by omega) a2 (chk_all a) (by omega) b2 (chk_all b) lo hi lo' hi' (k := 7998) (by omega)
      simp [h, h', a, b, m, mt_comm L l]
    · simp [h, h', a, b]
  · simp [h, h', a]
end Go.Proofs.Ythogemdknlpnpaa.Pure
