import Derived.Test.YthogemdknlpnpaaXAx4
import Derived.Test.YthogemdknlpnpaaXAx20
import Derived.Test.YthogemdknlpnpaaMe
namespace Go.Proofs.Ythogemdknlpnpaa.Pure
open Go.RowKit Go.Proofs.Ythogemdknlpnpaa.Opens Go.Proofs.Ythogemdknlpnpaa.XA Go.Proofs.YthogemdknlpnpaaW.PrintWords Go.Proofs.YthogemdknlpnpaaW.PrintLast Go.Proofs.Ythogemdknlpnpaa.Geo
set_option linter.unusedVariables false
def okn (x : Int) : Bool := decide (-1000000 ≤ x ∧ x ≤ 1000000)
theorem far_f (x : Int) : prism_far.f x = some (!okn x) := by
  unfold prism_far.f okn
  by_cases h : x < -1000000
  · rw [if_pos h, decide_eq_false (by omega)]; rfl
  · rw [if_neg h]
    by_cases h2 : x > 1000000
    · rw [decide_eq_true h2, decide_eq_false (by omega)]; rfl
    · rw [decide_eq_false h2, decide_eq_true (by omega)]; rfl
theorem near_f (x : Int) : gangsawref08_near.f x = some (okn x) := by
  unfold gangsawref08_near.f okn
  by_cases h : x ≥ -1000000
  · simp [h]
  · simp [h]
theorem rcross_f {a b c : Int × Int} (ha : Okp a) (hb : Okp b) (hc : Okp c) : gangsawref08_Cross.f a.1 a.2 b.1 b.2 c.1 c.2 = some (cr3 a b c) := cross_f ha hb hc
end Go.Proofs.Ythogemdknlpnpaa.Pure
