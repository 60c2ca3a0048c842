/- Moving a prism and a box by the same way changes nothing; a prism overlaps a box exactly if one of its two parts below and above a height does. No condition. -/
import Derived.Test.YthogemdknlpnpaaXAx0
import Derived.Test.YthogemdknlpnpaaXAx18
import Derived.Test.YthogemdknlpnpaaXAx40
import Derived.Test.YthogemdknlpnpaaMv
namespace Go.Proofs.Ythogemdknlpnpaa.Pure
open Go.RowKit Go.Proofs.Ythogemdknlpnpaa.Opens Go.Proofs.Ythogemdknlpnpaa.XA Go.Proofs.YthogemdknlpnpaaW.PrintWords Go.Proofs.YthogemdknlpnpaaW.PrintLast Go.Proofs.Ythogemdknlpnpaa.Geo
set_option linter.unusedVariables false
set_option linter.unusedSimpArgs false
theorem shifts_6 {l : List S60} {lo hi a b c d e f t : Int} (hb : bo l lo hi a b c d e f = 0) {k : Nat} (hk : 7000 ≤ k) : gangsawlaw08_PrismShifts.j6 k t (mt l lo hi (q4 a b d e) c f) l lo hi a b c d e f = some true := by
  obtain ⟨k, rfl⟩ : ∃ q, k = q + 10 := ⟨k - 10, by omega⟩
  obtain ⟨c1, b1⟩ := bo_ok hb
  obtain ⟨⟨h3, hn⟩, ok, hz, hlt, g⟩ := chk_ok c1
  have hb' := bx_ok b1
  simp only [gangsawlaw08_PrismShifts.j6, gangsawlaw08_PrismShifts.j7]
  by_cases t1 : t ≤ lo
  · simp [t1, aw (show 200 ≤ k + 8 by omega)]
  simp only [if_neg t1]
  by_cases t2 : t ≥ hi
  · simp [decide_eq_true t2, aw (show 200 ≤ k + 8 by omega)]
  simp only [decide_eq_false t2, Bool.false_eq_true, if_false]
  have s1 : slc l lo hi lo t = (l, lo, t, 0) := by
    unfold slc mx mn
    rw [if_neg (by omega), if_neg (show ¬ lo < lo by omega), if_pos (show t < hi by omega), if_neg (by omega)]
  have s2 : slc l lo hi t hi = (l, t, hi, 0) := by
    unfold slc mx mn
    rw [if_neg (by omega), if_pos (show lo < t by omega), if_neg (show ¬ hi < hi by omega), if_neg (by omega)]
  have o0 : okn lo = true := decide_eq_true (by omega)
  have o1 : okn t = true := decide_eq_true (by omega)
  have o2 : okn hi = true := decide_eq_true (by omega)
  have k1 := chk_zero h3 hn (chk_all c1) o0 o1 (show lo < t by omega) g
  have k2 := chk_zero h3 hn (chk_all c1) o1 o2 (show t < hi by omega) g
  have B1 : bo l lo t a b c d e f = 0 := by unfold bo; rw [if_pos k1, if_pos b1]
  have B2 : bo l t hi a b c d e f = 0 := by unfold bo; rw [if_pos k2, if_pos b1]
  have m0 := mt_iff (l := l) (by omega) lo hi c f (show a < d by omega) (show b < e by omega)
  have m1 := mt_iff (l := l) (by omega) lo t c f (show a < d by omega) (show b < e by omega)
  have m2 := mt_iff (l := l) (by omega) t hi c f (show a < d by omega) (show b < e by omega)
  have i0 := spt_iff (l := l) (by omega) lo hi (show a < d by omega) (show b < e by omega)
  have i1 := spt_iff (l := l) (by omega) lo t (show a < d by omega) (show b < e by omega)
  have i2 := spt_iff (l := l) (by omega) t hi (show a < d by omega) (show b < e by omega)
  simp only [gangsawlaw08_PrismShifts.j8, gangsawlaw08_PrismShifts.j9, gangsawlaw08_PrismShifts.j10, gangsawlaw08_PrismShifts.j11, Slice_k c1 _ _ (show 100 ≤ k + 7 by omega), s1, s2, Option.bind_some, Overlaps_k _ _ _ _ _ _ _ _ _ (show 200 ≤ k + 7 by omega), Overlaps_k _ _ _ _ _ _ _ _ _ (show 200 ≤ k + 6 by omega), B1, B2, if_true, aw (show 200 ≤ k + 5 by omega)]
  have key : mt l lo hi (q4 a b d e) c f = (mt l lo t (q4 a b d e) c f || mt l t hi (q4 a b d e) c f) := by
    rw [Bool.eq_iff_iff, Bool.or_eq_true, m0, m1, m2, i0, i1, i2]
    constructor
    · rintro ⟨s, u, v⟩
      by_cases w : c < t
      · exact .inl ⟨s, w, v⟩
      · exact .inr ⟨s, u, by omega⟩
    · rintro (⟨s, u, v⟩ | ⟨s, u, v⟩)
      · exact ⟨s, by omega, v⟩
      · exact ⟨s, u, by omega⟩
  rw [key]
  cases mt l lo t (q4 a b d e) c f <;> cases mt l t hi (q4 a b d e) c f <;> rfl
theorem PrismShifts : gangsawlaw08_PrismShifts.Pure := by
  intro l lo hi a b c d e f x y z t g g' g'' g3
  refine ⟨8000, ?_⟩
  unfold gangsawlaw08_PrismShifts.f
  by_cases h : (l.length : Int) > 80
  · rw [if_pos h, aw (by omega)]; rfl
  rw [if_neg h]
  simp only [gangsawlaw08_PrismShifts.j0, gangsawlaw08_PrismShifts.j1, Overlaps_k _ _ _ _ _ _ _ _ _ (show 200 ≤ 7999 by omega), Option.bind_some]
  by_cases q : bo l lo hi a b c d e f = 0
  · obtain ⟨c1, b1⟩ := bo_ok q
    obtain ⟨⟨h3, hn⟩, ok, hz, hlt, gl⟩ := chk_ok c1
    have hb := bx_ok b1
    simp only [q, if_true, gangsawlaw08_PrismShifts.j2, Move_k c1 x y z (show 400 ≤ 7997 by omega), Option.bind_some]
    by_cases m0 : (mvd l lo hi x y z).2.2.2 = 0
    · rw [if_pos m0]
      have me : (okn x && (okn y && okn z)) = true ∧ mvd l lo hi x y z = (mv x y l, lo + z, hi + z, 0) := by
        unfold mvd at m0 ⊢
        split at m0
        · rename_i u
          split at m0
          · rename_i w; exact ⟨u, by rw [if_pos u, if_pos w]⟩
          · simp at m0
        · simp at m0
      obtain ⟨me1, me2⟩ := me
      simp only [Bool.and_eq_true, okn, decide_eq_true_eq] at me1
      rw [me2]
      simp only [gangsawlaw08_box.f, Option.bind_some]
      rw [wr (x := a + x) (by omega), wr (x := b + y) (by omega), wr (x := c + z) (by omega), wr (x := d + x) (by omega), wr (x := e + y) (by omega), wr (x := f + z) (by omega), Overlaps_k _ _ _ _ _ _ _ _ _ (by omega), mv_mt x y z (by omega)]
      have s6 := fun k (hk : 7000 ≤ k) => shifts_6 (t := t) q hk
      by_cases r : bo (mv x y l) (lo + z) (hi + z) (a + x) (b + y) (c + z) (d + x) (e + y) (f + z) = 0
      · simp [r, gangsawlaw08_PrismShifts.j3, gangsawlaw08_PrismShifts.j4, gangsawlaw08_PrismShifts.j5, s6 7994 (by omega)]
      · simp [r, gangsawlaw08_PrismShifts.j3, gangsawlaw08_PrismShifts.j4, gangsawlaw08_PrismShifts.j5, s6 7994 (by omega)]
    · rw [if_neg m0]
      exact shifts_6 q (by omega)
  · simp [q, aw (show 200 ≤ 7998 by omega)]
end Go.Proofs.Ythogemdknlpnpaa.Pure
