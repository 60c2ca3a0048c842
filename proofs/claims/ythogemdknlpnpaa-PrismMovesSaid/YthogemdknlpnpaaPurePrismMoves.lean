/- Of, Move and Slice of package prism return the specified prisms, or the first error. No condition. -/
import Derived.Test.YthogemdknlpnpaaXAx0
import Derived.Test.YthogemdknlpnpaaXAx14
import Derived.Test.YthogemdknlpnpaaXAx29
import Derived.Test.YthogemdknlpnpaaXAx34
import Derived.Test.YthogemdknlpnpaaXAx38
import Derived.Test.YthogemdknlpnpaaXAx39
import Derived.Test.YthogemdknlpnpaaXAx44
import Derived.Test.YthogemdknlpnpaaMw
namespace Go.Proofs.Ythogemdknlpnpaa.Pure
open Go.RowKit Go.Proofs.Ythogemdknlpnpaa.Opens Go.Proofs.Ythogemdknlpnpaa.XA Go.Proofs.YthogemdknlpnpaaW.PrintWords Go.Proofs.YthogemdknlpnpaaW.PrintLast Go.Proofs.Ythogemdknlpnpaa.Geo
set_option linter.unusedVariables false
set_option linter.unusedSimpArgs false
theorem PrismMoves : gangsawlaw08_PrismMoves.Pure := by
  intro l lo hi a b c d e f x y z p q g g' g'' g3 g4
  refine ⟨8000, ?_⟩
  unfold gangsawlaw08_PrismMoves.f
  by_cases h : (l.length : Int) > 80
  · rw [if_pos h, aw (by omega)]; rfl
  · rw [if_neg h]
    have one : gangsawlaw08_PrismMoves.j0 8000 p q l lo hi a b c d e f x y z = gangsawlaw08_PrismMoves.j1 7999 p q false l lo hi x y z := by
      simp only [gangsawlaw08_PrismMoves.j0, prism_Of.f, boxed_k _ _ _ _ _ _ (show 20 ≤ 7999 by omega), valid_f, gangsawref08_Of.f, prism_of.f, Option.bind_some]
      by_cases v : bx a b c d e f = true
      · simp only [v, if_true, Option.bind_some]
        rw [same_k _ _ _ _ _ _ (by simp) (by omega)]
        simp
      · simp only [v, if_false, Option.bind_some, Bool.false_eq_true]
        rw [same_k _ _ _ _ _ _ (by simp) (by omega)]
        simp
    rw [one]
    simp only [gangsawlaw08_PrismMoves.j1, gangsawlaw08_PrismMoves.j2, Bool.false_eq_true, if_false, rcheck_k l lo hi (show 6000 ≤ 7997 by omega), Option.bind_some]
    by_cases k0 : chk l lo hi = 0
    · obtain ⟨⟨h3, hn⟩, -⟩ := chk_ok k0
      rw [Move_k k0 x y z (by omega), Slice_k k0 p q (by omega)]
      have sm := fun (M : List S60) (u v : Int) (hM : M.length < 1000) => same_k M M u v u v hM (show 1100 ≤ 7995 by omega)
      have l1 : (mvd l lo hi x y z).1.length < 1000 := by
        unfold mvd
        split
        · split
          · simp only [mv_len]; omega
          · simp
        · simp
      have l2 : (slc l lo hi p q).1.length < 1000 := by
        unfold slc
        split
        · simp
        · split
          · simp
          · simp only; omega
      simp [k0, gangsawlaw08_PrismMoves.j3, gangsawlaw08_PrismMoves.j5, gangsawlaw08_PrismMoves.j6, rMove_k k0 x y z (show 400 ≤ 7995 by omega), rSlice_f, aw (show 200 ≤ 7995 by omega), sm _ _ _ l1, sm _ _ _ l2]
    · have M : prism_Move.f 7997 l lo hi x y z = some ([], 0, 0, chk l lo hi) := by
        unfold prism_Move.f
        rw [check_k l lo hi (by omega)]
        simp [k0]
      have S : prism_Slice.f 7997 l lo hi p q = some ([], 0, 0, chk l lo hi) := by
        unfold prism_Slice.f
        rw [check_k l lo hi (by omega)]
        simp [k0]
      have sm := same_k [] [] 0 0 0 0 (by simp) (show 1100 ≤ 7996 by omega)
      simp [M, S, k0, gangsawlaw08_PrismMoves.j3, gangsawlaw08_PrismMoves.j4, aw (show 200 ≤ 7996 by omega), sm]
end Go.Proofs.Ythogemdknlpnpaa.Pure
