/- The levels of a flight rise by Rise or by one more, the greater rises first, up to the height, and Even finds at most 1. No condition. -/
import Derived.Test.YtaainbbkengjfaaMe
import Derived.Test.YtaainbbkengjfaaXAx23
namespace Go.Proofs.Ytaainbbkengjfaa.Pure
set_option linter.unusedVariables false
set_option linter.unusedSimpArgs false
open Go.RowKit Go.Proofs.Ytaainbbkengjfaa.Opens Go.Proofs.Ytaainbbkengjfaa.XA Go.Proofs.YtaainbbkengjfaaW.PrintWords Go.Proofs.YtaainbbkengjfaaW.PrintMore
theorem lv_step (r x s : Int) : lv r x (s + 1) = lv r x s + (if s < x then r + 1 else r) := by
  unfold lv mn
  rw [Int.add_mul, Int.one_mul]
  split <;> split <;> split <;> omega
def lvs (r x : Int) (n : Nat) : List Int := (List.range n).map fun (j : Nat) => lv r x ((j : Int) + 1)
theorem lvs_length (r x : Int) (n : Nat) : (lvs r x n).length = n := by simp [lvs]
theorem lvs_succ (r x : Int) (n : Nat) : lvs r x (n + 1) = lvs r x n ++ [lv r x ((n : Int) + 1)] := by simp [lvs, List.range_succ]
theorem lvs_at (r x : Int) (n : Nat) (i : Int) (h0 : 0 ≤ i) (h1 : i < n) : rd (lvs r x n) i = lv r x (i + 1) := by
  unfold rd lvs
  rw [List.getD_eq_getElem?_getD, List.getElem?_map, List.getElem?_range (by omega)]
  simp [Int.toNat_of_nonneg h0]
theorem lv_lim {n r x g w l : Int} (h : V n r x g w l) {s : Int} (h0 : 0 ≤ s) (h1 : s ≤ n) : 0 ≤ lv r x s ∧ lv r x s ≤ 640064 := by
  unfold V at h
  have := mul_lim (a := s) (b := r) (by omega) (by omega) (by omega) (by omega)
  unfold lv mn
  split <;> omega
theorem evens1 (n r x g w l : Int) (h : V n r x g w l) : ∀ (m : Nat) (i : Int) (k : Nat) (p : Int), 1 ≤ i → i + m = n → m < k → 0 ≤ p → p ≤ 1 →
    ∃ p', stair_Even.l1 k (lvs r x n.toNat) p (if i - 1 < x then r + 1 else r) i = some (p', 0) ∧ p' ≤ 1 := by
  have hV := h
  unfold V at hV
  intro m
  induction m with
  | zero =>
    intro i k p h0 hm hk hp0 hp
    obtain ⟨k, rfl⟩ : ∃ q, k = q + 1 := ⟨k - 1, by omega⟩
    simp only [stair_Even.l1]
    rw [if_neg (by rw [lvs_length]; omega)]
    exact ⟨p, rfl, hp⟩
  | succ m ih =>
    intro i k p h0 hm hk hp0 hp
    obtain ⟨k, rfl⟩ : ∃ q, k = q + 1 := ⟨k - 1, by omega⟩
    have e : (((lvs r x n.toNat).length : Nat) : Int) = n := by rw [lvs_length]; omega
    have c1 : i < n := by omega
    have c2 : 0 ≤ i := by omega
    have c3 : 0 ≤ i - 1 := by omega
    have c4 : i - 1 < n := by omega
    have e2 := lv_step r x i
    have b1 := lv_lim h (s := i) (by omega) (by omega)
    have b2 := lv_lim h (s := i + 1) (by omega) (by omega)
    simp only [stair_Even.l1, e]
    rw [wr (x := i - 1) (by omega), wr (x := i + 1) (by omega)]
    simp only [c1, c2, c3, c4, if_true]
    rw [lvs_at _ _ _ _ c2 (by omega), lvs_at _ _ _ _ c3 (by omega), show i - 1 + 1 = i by omega, wr (x := lv r x (i + 1) - lv r x i) (by omega)]
    have e3 : lv r x (i + 1) - lv r x i = if i < x then r + 1 else r := by omega
    rw [e3, wr (by split <;> split <;> omega), wr (by split <;> split <;> omega)]
    have := ih (i + 1) k (mx (mx p ((if i < x then r + 1 else r) - (if i - 1 < x then r + 1 else r))) ((if i - 1 < x then r + 1 else r) - (if i < x then r + 1 else r))) (by omega) (by omega) (by omega) (by unfold mx; grind) (by unfold mx; grind)
    rw [show i + 1 - 1 = i by omega] at this
    exact this
theorem evens0 (n r x g w l : Int) (h : V n r x g w l) : ∀ (m : Nat) (i : Int) (k : Nat), 0 ≤ i → i + m = n → m + 70 < k →
    ∃ p, stair_Even.l0 k (lvs r x n.toNat) (lv r x i) (lvs r x n.toNat) ((lvs r x n.toNat).length : Int) i = some p ∧ (if n < 2 then p = (0, 9) else p.2 = 0 ∧ p.1 ≤ 1) := by
  have hV := h
  unfold V at hV
  have e : (((lvs r x n.toNat).length : Nat) : Int) = n := by rw [lvs_length]; omega
  intro m
  induction m with
  | zero =>
    intro i k h0 hm hk
    obtain ⟨k, rfl⟩ : ∃ q, k = q + 1 := ⟨k - 1, by omega⟩
    have c1 : ¬ i < n := by omega
    simp only [stair_Even.l0, e, c1, if_false]
    by_cases h2 : n < 2
    · simp only [h2, if_true]
      exact ⟨_, rfl, rfl⟩
    · have c2 : 0 < n := by omega
      simp only [h2, c2, if_true, if_false]
      rw [lvs_at _ _ _ _ (by omega) (by omega)]
      obtain ⟨p', h3, h4⟩ := evens1 n r x g w l h (n.toNat - 1) 1 k 0 (by omega) (by omega) (by omega) (by omega) (by omega)
      have e1 := lv_step r x 0
      rw [show lv r x 0 = 0 by unfold lv mn; rw [Int.zero_mul]; split <;> omega] at e1
      rw [show (1 : Int) - 1 = 0 by omega] at h3
      rw [show lv r x (0 + 1) = if 0 < x then r + 1 else r by omega, h3]
      exact ⟨_, rfl, rfl, h4⟩
  | succ m ih =>
    intro i k h0 hm hk
    obtain ⟨k, rfl⟩ : ∃ q, k = q + 1 := ⟨k - 1, by omega⟩
    have c1 : i < n := by omega
    have e2 := lv_step r x i
    have b2 := lv_lim h (s := i + 1) (by omega) (by omega)
    simp only [stair_Even.l0, e, c1, h0, if_true]
    rw [lvs_at _ _ _ _ h0 (by omega), if_neg (by rw [e2]; split <;> omega), if_neg (by omega), wr (x := i + 1) (by omega)]
    have := ih (i + 1) k (by omega) (by omega) (by omega)
    rw [e] at this
    exact this
theorem levels0 (n r x g w l : Int) (h : V n r x g w l) : ∀ (m : Nat) (i : Nat) (k : Nat), (i : Int) + m = n → 3 * m + 200 < k →
    gangsawlaw42_StairLevels.l0 k (n * r + x) (lvs r x i) (lv r x i) (mn i x) i n r x g w l = some true := by
  have hV := h
  unfold V at hV
  intro m
  induction m with
  | zero =>
    intro i k hm hk
    obtain ⟨k, rfl⟩ : ∃ q, k = q + 1 + 1 := ⟨k - 2, by omega⟩
    simp only [gangsawlaw42_StairLevels.l0]
    rw [if_neg (by omega)]
    simp only [gangsawlaw42_StairLevels.j1, Bool.false_eq_true, if_false]
    obtain ⟨p, h1, h2⟩ := evens0 n r x g w l h n.toNat 0 k (by omega) (by omega) (by omega)
    rw [show lv r x 0 = 0 by unfold lv mn; rw [Int.zero_mul]; split <;> omega] at h1
    have e : (((lvs r x n.toNat).length : Nat) : Int) = n := by rw [lvs_length]; omega
    have ei : i = n.toNat := by omega
    subst ei
    unfold stair_Even.f
    rw [if_neg (by omega), h1]
    have en : ((n.toNat : Nat) : Int) = n := by omega
    simp only [Option.bind_some, en, e]
    rw [if_pos (by unfold lv mn; split <;> omega), if_pos (by unfold mn; split <;> omega)]
    by_cases q : n < 2
    · rw [if_pos q] at h2
      subst h2
      simp [q]
    · rw [if_neg q] at h2
      simp [q, h2]
  | succ m ih =>
    intro i k hm hk
    obtain ⟨k, rfl⟩ : ∃ q, k = q + 1 + 1 + 1 := ⟨k - 3, by omega⟩
    have e2 := lv_step r x i
    have b1 := lv_lim h (s := i) (by omega) (by omega)
    have b2 := lv_lim h (s := i + 1) (by omega) (by omega)
    have := ih (i + 1) k (by omega) (by omega)
    rw [lvs_succ] at this
    simp only [gangsawlaw42_StairLevels.l0]
    rw [if_pos (by omega), show decide ((i : Int) < 100) = true by rw [decide_eq_true_eq]; omega]
    simp only [gangsawlaw42_StairLevels.j1, if_true]
    rw [Level_f _ _ _ _ _ _ _ (by omega), if_pos h, if_pos (by omega)]
    simp only [Option.bind_some, if_true]
    rw [show ((i : Int) + 1) * r + mn ((i : Int) + 1) x = lv r x ((i : Int) + 1) from rfl, wr (x := lv r x ((i : Int) + 1) - lv r x i) (by omega), wr (x := r + 1) (by omega)]
    by_cases q : (i : Int) < x
    · rw [if_neg (by rw [e2, if_pos q]; omega), if_pos (by rw [e2, if_pos q]; omega)]
      simp only [gangsawlaw42_StairLevels.j2]
      rw [if_neg (by simp; unfold mn; split <;> omega), wr (x := lv r x ((i : Int) + 1) - lv r x i) (by omega), wr (x := r + 1) (by omega), if_pos (by rw [e2, if_pos q]; omega), if_pos (by rw [lvs_length]; omega)]
      rw [wr (x := (i : Int) + 1) (by omega), show mn (i : Int) x = i by unfold mn; split <;> omega, wr (x := (i : Int) + 1) (by omega)]
      rw [show mn (((i + 1 : Nat)) : Int) x = (i : Int) + 1 by unfold mn; split <;> omega] at this
      exact this
    · rw [if_pos (by rw [e2, if_neg q]; omega)]
      simp only [gangsawlaw42_StairLevels.j2, Bool.false_eq_true, if_false]
      rw [wr (x := lv r x ((i : Int) + 1) - lv r x i) (by omega), wr (x := r + 1) (by omega), if_neg (by rw [e2, if_neg q]; omega), if_pos (by rw [lvs_length]; omega)]
      rw [wr (x := (i : Int) + 1) (by omega), show mn (i : Int) x = x by unfold mn; split <;> omega]
      rw [show mn (((i + 1 : Nat)) : Int) x = x by unfold mn; split <;> omega] at this
      exact this
theorem StairLevels : gangsawlaw42_StairLevels.Pure := by
  intro n r x g w l hf
  refine ⟨1000, ?_⟩
  unfold gangsawlaw42_StairLevels.f
  rw [awake_ev 900]
  by_cases h : V n r x g w l
  · have hV := h
    unfold V at hV
    rw [height_f _ _ _ _ _ _ h]
    simp only [Option.bind_some, if_true]
    have := levels0 n r x g w l h n.toNat 0 1000 (by omega) (by omega)
    rw [show ((0 : Nat) : Int) = 0 from rfl, show lv r x 0 = 0 by unfold lv mn; rw [Int.zero_mul]; split <;> omega, show mn 0 x = 0 by unfold mn; split <;> omega] at this
    exact this
  · rw [height_no _ _ _ _ _ _ h]
    simp
end Go.Proofs.Ytaainbbkengjfaa.Pure
