/- Whatever the deviations of the rises within the tolerance are, the height lies in the spread, whose ends are the height less and plus the rises' tolerances. Condition: at most 64 deviations are examined (the statement's own). -/
import Derived.Test.YtaainbbkengjfaaMe
import Derived.Test.YtaainbbkengjfaaXAx24
namespace Go.Proofs.Ytaainbbkengjfaa.Pure
set_option linter.unusedVariables false
set_option linter.unusedSimpArgs false
open Go.RowKit Go.Proofs.Ytaainbbkengjfaa.Opens Go.Proofs.Ytaainbbkengjfaa.XA Go.Proofs.YtaainbbkengjfaaW.PrintWords Go.Proofs.YtaainbbkengjfaaW.PrintMore
theorem spread0 (t lo hi n h : Int) (xs : List Int) (hn : (xs.length : Int) = n) (hn64 : n ≤ 64) (ht : 0 ≤ t ∧ t ≤ 1000) (hh : 0 ≤ h ∧ h ≤ 1000000) (hlo : lo = h - n * t) (hhi : hi = h + n * t) :
    ∀ (m : Nat) (i s : Int) (k : Nat), 0 ≤ i → i + m = n → m < k → h - i * t ≤ s → s ≤ h + i * t → gangsawlaw42_StairSpread.l0 k t xs s i lo hi = some true := by
  intro m
  induction m with
  | zero =>
    intro i s k h0 hm hk h1 h2
    obtain ⟨k, rfl⟩ : ∃ q, k = q + 1 := ⟨k - 1, by omega⟩
    obtain rfl : i = n := by omega
    simp only [gangsawlaw42_StairSpread.l0]
    rw [if_neg (by omega), if_pos (by omega)]
    simp only [Option.some.injEq, decide_eq_true_eq]
    omega
  | succ m ih =>
    intro i s k h0 hm hk h1 h2
    obtain ⟨k, rfl⟩ : ∃ q, k = q + 1 := ⟨k - 1, by omega⟩
    have c1 : i < (xs.length : Int) := by omega
    have hml := mul_lim (a := i) (b := t) (by omega) (by omega) (by omega) (by omega)
    simp only [gangsawlaw42_StairSpread.l0, c1, h0, if_true]
    rw [wr (x := -t) (by omega)]
    split
    · rfl
    · split
      · rfl
      · rw [wr (x := i + 1) (by omega), wr (x := s + rd xs i) (by omega)]
        exact ih (i + 1) _ k (by omega) (by omega) (by omega) (by rw [Int.add_mul]; omega) (by rw [Int.add_mul]; omega)
theorem StairSpread : gangsawlaw42_StairSpread.Pure := by
  intro n r x g w l t xs hf ht hx
  refine ⟨400, ?_⟩
  unfold gangsawlaw42_StairSpread.f
  rw [awake_ev 300]
  by_cases h : V n r x g w l
  · have hV := h
    unfold V at hV
    rw [spread_f _ _ _ _ _ _ _ h, height_f _ _ _ _ _ _ h]
    simp only [Option.bind_some, if_true]
    by_cases q : 0 ≤ t ∧ t ≤ 1000
    · rw [if_pos q]
      simp only [if_true, gangsawlaw42_StairSpread.j0]
      have h1 := mul_lim (a := n) (b := r) (by omega) (by omega) (by omega) (by omega)
      have h2 := mul_lim (a := n) (b := t) (by omega) (by omega) (by omega) (by omega)
      by_cases q2 : (xs.length : Int) > 64
      · simp [q2]
      · simp only [q2, decide_false, Bool.false_eq_true, if_false]
        rw [wr (x := n * t) (by omega), wr (x := n * r + x - n * t) (by omega), wr (x := n * r + x + n * t) (by omega), if_pos rfl, if_pos rfl]
        simp only [gangsawlaw42_StairSpread.j1]
        by_cases q3 : (xs.length : Int) = n
        · simp only [q3, bne_self_eq_false, Bool.false_eq_true, if_false]
          exact spread0 t _ _ n (n * r + x) xs q3 (by omega) q (by omega) rfl rfl n.toNat 0 _ _ (by omega) (by omega) (by omega) (by omega) (by omega)
        · rw [wr (x := n * t) (by omega), wr (x := n * r + x - n * t) (by omega), wr (x := n * r + x + n * t) (by omega)]
          simp [q3]
    · rw [if_neg q]
      simp [gangsawlaw42_StairSpread.j0]
  · rw [spread_no _ _ _ _ _ _ _ h, height_no _ _ _ _ _ _ h]
    simp [gangsawlaw42_StairSpread.j0]
end Go.Proofs.Ytaainbbkengjfaa.Pure
