/- Check of package prism accepts exactly the valid prisms; Hull and Area2 return the least box and twice the area, or the first error. No condition. -/
import Derived.Test.YthogemdknlpnpaaXAx8
import Derived.Test.YthogemdknlpnpaaXAx25
import Derived.Test.YthogemdknlpnpaaMl
namespace Go.Proofs.Ythogemdknlpnpaa.Pure
open Go.RowKit Go.Proofs.Ythogemdknlpnpaa.Opens Go.Proofs.Ythogemdknlpnpaa.XA Go.Proofs.YthogemdknlpnpaaW.PrintWords Go.Proofs.YthogemdknlpnpaaW.PrintLast Go.Proofs.Ythogemdknlpnpaa.Geo
set_option linter.unusedVariables false
set_option linter.unusedSimpArgs false
theorem PrismChecks : gangsawlaw08_PrismChecks.Pure := by
  intro l lo hi g
  refine ⟨8000, ?_⟩
  unfold gangsawlaw08_PrismChecks.f
  by_cases h : (l.length : Int) > 80
  · rw [if_pos h, aw (by omega)]; rfl
  · rw [if_neg h, rcheck_k l lo hi (by omega), Area2_k l lo hi (by omega) (fun e => ⟨by have := (chk_ok e).1; omega, (chk_ok e).1.2, (chk_ok e).2.1⟩), check_k l lo hi (by omega)]
    unfold prism_Hull.f
    rw [check_k l lo hi (by omega)]
    by_cases c : chk l lo hi = 0
    · obtain ⟨⟨h3, hn⟩, ok, _⟩ := chk_ok c
      have a1 := hull_k (l := l) (k := 8000) (by omega) hn lo hi (by omega)
      have a2 := rhull_k (l := l) (k := 7999) (by omega) hn lo hi (by omega)
      have a3 := rarea_k (k := 7999) h3 hn ok lo hi (by omega)
      simp [c, a1, gangsawlaw08_PrismChecks.j0, aw (show 200 ≤ 7999 by omega), a2, a3]
    · simp [c, gangsawlaw08_PrismChecks.j0, aw (show 200 ≤ 7999 by omega)]
end Go.Proofs.Ythogemdknlpnpaa.Pure
