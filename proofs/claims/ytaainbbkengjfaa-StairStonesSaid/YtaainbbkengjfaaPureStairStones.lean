/- For all flights and tolerances, Stones and Spread of package stair return what the reference says. No condition. -/
import Derived.Test.YtaainbbkengjfaaMe
import Derived.Test.YtaainbbkengjfaaXAx19
namespace Go.Proofs.Ytaainbbkengjfaa.Pure
set_option linter.unusedVariables false
set_option linter.unusedSimpArgs false
open Go.RowKit Go.Proofs.Ytaainbbkengjfaa.Opens Go.Proofs.Ytaainbbkengjfaa.XA Go.Proofs.YtaainbbkengjfaaW.PrintWords Go.Proofs.YtaainbbkengjfaaW.PrintMore
theorem rstones0 (n r x g w l : Int) (h : V n r x g w l) : ∀ (m : Nat) (i : Nat) (k : Nat), (i : Int) + m = n → m + 120 < k →
    gangsawref42_Stones.l0 k (stl r x g w l i) i n r x g w l = some (stl r x g w l n.toNat) := by
  have hV := h
  unfold V at hV
  intro m
  induction m with
  | zero =>
    intro i k hm hk
    obtain ⟨k, rfl⟩ : ∃ q, k = q + 1 := ⟨k - 1, by omega⟩
    simp only [gangsawref42_Stones.l0]
    rw [if_neg (by omega), show i = n.toNat by omega]
  | succ m ih =>
    intro i k hm hk
    obtain ⟨k, rfl⟩ : ∃ q, k = 100 + q + 1 := ⟨k - 101, by omega⟩
    have hml := mul_lim (a := i) (b := g) (by omega) (by omega) (by omega) (by omega)
    have hml2 := mul_lim (a := (i : Int) + 1) (b := g) (by omega) (by omega) (by omega) (by omega)
    simp only [gangsawref42_Stones.l0]
    rw [if_pos (by omega), wr (x := (i : Int) + 1) (by omega), wr (x := (i : Int) - 1) (by omega), rlevel_f _ _ _ _ _ _ _ h (by omega) (by omega), rlevel_f _ _ _ _ _ _ _ h (by omega) (by omega)]
    simp only [Option.bind_some]
    rw [if_pos (by rw [stl_length]; omega), wr (x := (i : Int) * g) (by omega), wr (x := ((i : Int) + 1) * g) (by omega), wr (x := ((i : Int) + 1) * g + l) (by omega), show (i : Int) - 1 + 1 = i by omega]
    have := ih (i + 1) (100 + k) (by omega) (by omega)
    rw [stl_succ] at this
    exact this
theorem same0 (xs : List S66) (hl : xs.length ≤ 1000) : ∀ (m : Nat) (i : Int) (k : Nat), 0 ≤ i → i + m = xs.length → m < k → gangsawref42_Same.l0 k xs xs i = some true := by
  intro m
  induction m with
  | zero =>
    intro i k h0 hm hk
    obtain ⟨k, rfl⟩ : ∃ q, k = q + 1 := ⟨k - 1, by omega⟩
    simp only [gangsawref42_Same.l0]
    rw [if_neg (by omega)]
  | succ m ih =>
    intro i k h0 hm hk
    obtain ⟨k, rfl⟩ : ∃ q, k = q + 1 := ⟨k - 1, by omega⟩
    have c1 : i < (xs.length : Int) := by omega
    simp only [gangsawref42_Same.l0, c1, h0, if_true, beq_self_eq_true, Bool.not_true, Bool.or_self, Bool.false_eq_true, if_false]
    rw [wr (x := i + 1) (by omega)]
    exact ih (i + 1) k (by omega) (by omega) (by omega)
theorem StairStones : gangsawlaw42_StairStones.Pure := by
  intro n r x g w l t hf ht
  refine ⟨400, ?_⟩
  unfold gangsawlaw42_StairStones.f
  rw [awake_ev 300]
  by_cases h : V n r x g w l
  · have hV := h
    unfold V at hV
    rw [stones_f _ _ _ _ _ _ h 300, rvalid_f, spread_f _ _ _ _ _ _ _ h]
    simp only [Option.bind_some, h, decide_true, if_true]
    unfold gangsawref42_Stones.f gangsawref42_Same.f
    have h1 := rstones0 n r x g w l h n.toNat 0 400 (by omega) (by omega)
    rw [show stl r x g w l 0 = [] from rfl, show ((0 : Nat) : Int) = 0 from rfl] at h1
    rw [h1]
    simp only [Option.bind_some, if_true]
    rw [same0 _ (by rw [stl_length]; omega) n.toNat 0 400 (by omega) (by rw [stl_length]; omega) (by omega)]
    simp only [Option.bind_some, gangsawlaw42_StairStones.j0, Bool.not_true, Bool.false_eq_true, if_false]
    by_cases q : 0 ≤ t ∧ t ≤ 1000
    · have h1 := mul_lim (a := n) (b := r) (by omega) (by omega) (by omega) (by omega)
      have h2 := mul_lim (a := n) (b := t) (by omega) (by omega) (by omega) (by omega)
      unfold gangsawref42_Spread.f
      rw [if_neg (by omega), if_neg (by omega), if_pos q, wr (x := n - 1) (by omega), show (399 : Nat) = 100 + 299 from rfl, rlevel_f _ _ _ _ _ _ _ h (by omega) (by omega), show n - 1 + 1 = n by omega, show mn n x = x by unfold mn; split <;> omega]
      simp only [Option.bind_some, if_true]
      rw [wr (x := n * t) (by omega), wr (by omega), wr (by omega)]
      simp
    · rw [if_neg q]
      grind
  · rw [stones_no _ _ _ _ _ _ h, rvalid_f, spread_no _ _ _ _ _ _ _ h]
    simp [h]
end Go.Proofs.Ytaainbbkengjfaa.Pure
