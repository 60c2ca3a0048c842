/- Overlaps, Covers and Separator of package prism return what they should for a prism and a box, or the first error. No condition. -/
import Derived.Test.YthogemdknlpnpaaXAx0
import Derived.Test.YthogemdknlpnpaaXAx29
import Derived.Test.YthogemdknlpnpaaXAx32
import Derived.Test.YthogemdknlpnpaaMt
namespace Go.Proofs.Ythogemdknlpnpaa.Pure
open Go.RowKit Go.Proofs.Ythogemdknlpnpaa.Opens Go.Proofs.Ythogemdknlpnpaa.XA Go.Proofs.YthogemdknlpnpaaW.PrintWords Go.Proofs.YthogemdknlpnpaaW.PrintLast Go.Proofs.Ythogemdknlpnpaa.Geo
set_option linter.unusedVariables false
set_option linter.unusedSimpArgs false
theorem PrismBoxes : gangsawlaw08_PrismBoxes.Pure := by
  intro l lo hi a b c d e f g g'
  refine ⟨8000, ?_⟩
  unfold gangsawlaw08_PrismBoxes.f
  by_cases h : (l.length : Int) > 80
  · rw [if_pos h, aw (by omega)]; rfl
  · rw [if_neg h, Overlaps_k _ _ _ _ _ _ _ _ _ (by omega), Covers_k _ _ _ _ _ _ _ _ _ (by omega), Separator_k _ _ _ _ _ _ _ _ _ (by omega), first_k _ _ _ _ _ _ _ _ _ (by omega)]
    simp only [Option.bind_some]
    by_cases q : bo l lo hi a b c d e f = 0
    · obtain ⟨c1, b1⟩ := bo_ok q
      have z := (chk_ok c1).1
      have m := rmeets_k (l := l) (L := q4 a b d e) (by omega) z.2 (chk_all c1) (by simp [q4]) (by simp [q4]) (q4_ok b1) lo hi c f (k := 7999) (by omega)
      have v := rcovers_k (l := l) (by omega) z.2 (chk_ok c1).2.1 lo hi b1 (k := 7999) (by omega)
      have s := rSeparator_k (l := l) (by omega) z.2 (chk_all c1) lo hi b1 (k := 7999) (by omega)
      simp [q, gangsawlaw08_PrismBoxes.j0, aw (show 200 ≤ 7999 by omega), gangsawref08_Of.f, show [(⟨a, b⟩ : S60), ⟨d, b⟩, ⟨d, e⟩, ⟨a, e⟩] = q4 a b d e from rfl, m, v, s]
    · simp [q, gangsawlaw08_PrismBoxes.j0, aw (show 200 ≤ 7999 by omega)]
end Go.Proofs.Ythogemdknlpnpaa.Pure
