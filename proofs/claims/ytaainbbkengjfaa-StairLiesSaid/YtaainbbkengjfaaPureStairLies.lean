/- Each stone of a flight lies on the one below on a strip as wide as the lap, none overlaps another, and the last one ends at the height. No condition. -/
import Derived.Test.YtaainbbkengjfaaMe
import Derived.Test.YtaainbbkengjfaaXAx22
namespace Go.Proofs.Ytaainbbkengjfaa.Pure
set_option linter.unusedVariables false
set_option linter.unusedSimpArgs false
open Go.RowKit Go.Proofs.Ytaainbbkengjfaa.Opens Go.Proofs.Ytaainbbkengjfaa.XA Go.Proofs.YtaainbbkengjfaaW.PrintWords Go.Proofs.YtaainbbkengjfaaW.PrintMore
theorem lv_step (r x s : Int) : lv r x (s + 1) = lv r x s + (if s < x then r + 1 else r) := by
  unfold lv mn
  rw [Int.add_mul, Int.one_mul]
  split <;> split <;> split <;> omega
theorem lies0 (n r x g w l : Int) (h : V n r x g w l) : ∀ (m : Nat) (i : Int) (k : Nat), 0 ≤ i → i + m = n → 2 * m < k →
    gangsawlaw42_StairLies.l0 k (stl r x g w l n.toNat) i n r x g w l = some true := by
  have hV := h
  unfold V at hV
  intro m
  induction m with
  | zero =>
    intro i k h0 hm hk
    obtain ⟨k, rfl⟩ : ∃ q, k = q + 1 := ⟨k - 1, by omega⟩
    simp only [gangsawlaw42_StairLies.l0]
    rw [if_neg (by rw [stl_length]; omega)]
  | succ m ih =>
    intro i k h0 hm hk
    obtain ⟨k, rfl⟩ : ∃ q, k = q + 1 + 1 := ⟨k - 2, by omega⟩
    have c1 : i < ((stl r x g w l n.toNat).length : Int) := by rw [stl_length]; omega
    have hml := mul_lim (a := i) (b := g) (by omega) (by omega) (by omega) (by omega)
    have e1 : (i + 1) * g = i * g + g := by rw [Int.add_mul, Int.one_mul]
    have e2 := lv_step r x i
    simp only [gangsawlaw42_StairLies.l0, c1, h0, if_true]
    rw [stl_at _ _ _ _ _ _ _ h0 (by omega)]
    have hd : decide ((st r x g w l i).f0.f2 ≥ (st r x g w l i).f1.f2) = false := by
      rw [decide_eq_false_iff_not]
      show ¬ lv r x i ≥ lv r x (i + 1)
      rw [e2]; split <;> omega
    have a1 : ¬ (st r x g w l i).f0.f0 ≥ (st r x g w l i).f1.f0 := by show ¬ i * g ≥ (i + 1) * g + l; omega
    have a2 : (st r x g w l i).f1.f1 = w := rfl
    rw [hd, if_neg a1, if_pos a2]
    simp only [gangsawlaw42_StairLies.j2, Bool.false_eq_true, if_false, c1, h0, if_true]
    rw [wr (x := i + 1) (by omega), wr (x := i - 1) (by omega)]
    by_cases q : i > 0
    · have e3 : (i - 1 + 1) * g = i * g := by rw [show i - 1 + 1 = i by omega]
      have e4 : (i - 1) * g = i * g - g := by rw [Int.sub_mul, Int.one_mul]
      have c2 : 0 ≤ i - 1 := by omega
      have c3 : i - 1 < ((stl r x g w l n.toNat).length : Int) := by omega
      simp only [q, c2, c3, if_true]
      rw [stl_at _ _ _ _ _ _ _ h0 (by omega), stl_at _ _ _ _ _ _ _ c2 (by omega)]
      have b1 : (st r x g w l i).f0.f2 = (st r x g w l (i - 1)).f1.f2 := by show lv r x i = lv r x (i - 1 + 1); rw [show i - 1 + 1 = i by omega]
      have b2 : wrap64 ((st r x g w l (i - 1)).f1.f0 - (st r x g w l i).f0.f0) = l := by show wrap64 ((i - 1 + 1) * g + l - i * g) = l; rw [e3, wr (by omega)]; omega
      have b3 : wrap64 ((st r x g w l i).f0.f0 - (st r x g w l (i - 1)).f0.f0) = g := by show wrap64 (i * g - (i - 1) * g) = g; rw [e4, wr (by omega)]; omega
      rw [if_pos b1, if_pos b2, if_pos b3]
      exact ih (i + 1) k (by omega) (by omega) (by omega)
    · simp only [q, if_false]
      exact ih (i + 1) k (by omega) (by omega) (by omega)
theorem StairLies : gangsawlaw42_StairLies.Pure := by
  intro n r x g w l hf
  refine ⟨400, ?_⟩
  unfold gangsawlaw42_StairLies.f
  rw [awake_ev 300]
  by_cases h : V n r x g w l
  · have hV := h
    unfold V at hV
    rw [stones_f _ _ _ _ _ _ h 300, height_f _ _ _ _ _ _ h]
    have e : (((stl r x g w l n.toNat).length : Nat) : Int) = n := by rw [stl_length]; omega
    have c0 : ¬ n = 0 := by omega
    have c1 : 0 ≤ n - 1 := by omega
    have c2 : n - 1 < n := by omega
    have c3 : 0 < n := by omega
    simp only [Option.bind_some, if_true, e, c0, if_false]
    rw [wr (x := n - 1) (by omega), stl_at _ _ _ _ _ _ _ c1 (by omega), stl_at _ _ _ _ _ _ _ (by omega : (0 : Int) ≤ 0) (by omega)]
    simp only [c1, c2, c3, if_true]
    rw [if_pos (by show lv r x (n - 1 + 1) = n * r + x; rw [show n - 1 + 1 = n by omega]; unfold lv mn; split <;> omega)]
    simp only [gangsawlaw42_StairLies.j0]
    rw [if_neg (by unfold st lv mn; simp; omega)]
    exact lies0 n r x g w l h n.toNat 0 _ (by omega) (by omega) (by omega)
  · rw [stones_no _ _ _ _ _ _ h]
    simp
end Go.Proofs.Ytaainbbkengjfaa.Pure
