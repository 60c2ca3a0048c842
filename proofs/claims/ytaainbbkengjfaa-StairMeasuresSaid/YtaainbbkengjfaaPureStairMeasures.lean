/- For all levels and measures, Even and Sill of package stair return what the reference returns. Condition: at most 100 levels (the statement's own). -/
import Derived.Test.YtaainbbkengjfaaMb
import Derived.Test.YtaainbbkengjfaaXAx20
namespace Go.Proofs.Ytaainbbkengjfaa.Pure
set_option linter.unusedVariables false
set_option linter.unusedSimpArgs false
open Go.RowKit Go.Proofs.Ytaainbbkengjfaa.Opens Go.Proofs.Ytaainbbkengjfaa.XA Go.Proofs.YtaainbbkengjfaaW.PrintWords Go.Proofs.YtaainbbkengjfaaW.PrintMore
theorem even1 (xs : List Int) (hl : xs.length ≤ 64) : ∀ (m : Nat) (i : Int) (k : Nat) (p q : Int), 1 ≤ i → i + m = xs.length ∨ (m = 0 ∧ (xs.length : Int) ≤ i) → m < k →
    ∃ r, stair_Even.l1 k xs p q i = some r ∧ gangsawref42_Even.l1 k xs p q i = some r := by
  intro m
  induction m with
  | zero =>
    intro i k p q h0 hm hk
    obtain ⟨k, rfl⟩ : ∃ q, k = q + 1 := ⟨k - 1, by omega⟩
    simp only [stair_Even.l1, gangsawref42_Even.l1]
    have c1 : ¬ i < (xs.length : Int) := by omega
    simp only [c1, if_false]
    exact ⟨_, rfl, rfl⟩
  | succ m ih =>
    intro i k p q h0 hm hk
    obtain ⟨k, rfl⟩ : ∃ q, k = q + 1 := ⟨k - 1, by omega⟩
    simp only [stair_Even.l1, gangsawref42_Even.l1]
    rw [wr (x := i - 1) (by omega), wr (x := i + 1) (by omega)]
    have c1 : i < (xs.length : Int) := by omega
    have c2 : 0 ≤ i := by omega
    have c3 : 0 ≤ i - 1 := by omega
    have c4 : i - 1 < (xs.length : Int) := by omega
    simp only [c1, c2, c3, c4, if_true]
    exact ih (i + 1) k _ _ (by omega) (by omega) (by omega)
theorem even0 (xs : List Int) (hl : xs.length ≤ 64) : ∀ (m : Nat) (i : Int) (k : Nat) (p : Int), 0 ≤ i → i + m = xs.length → m + 70 < k →
    ∃ r, stair_Even.l0 k xs p xs (xs.length : Int) i = some r ∧ gangsawref42_Even.l0 k xs p i = some r := by
  intro m
  induction m with
  | zero =>
    intro i k p h0 hm hk
    obtain ⟨k, rfl⟩ : ∃ q, k = q + 1 := ⟨k - 1, by omega⟩
    simp only [stair_Even.l0, gangsawref42_Even.l0]
    have c1 : ¬ i < (xs.length : Int) := by omega
    simp only [c1, if_false]
    by_cases h2 : (xs.length : Int) < 2
    · simp only [h2, if_true]
      exact ⟨_, rfl, rfl⟩
    · have c2 : 0 < (xs.length : Int) := by omega
      simp only [h2, c2, if_true, if_false]
      exact even1 xs hl (xs.length - 1) 1 k _ _ (by omega) (by omega) (by omega)
  | succ m ih =>
    intro i k p h0 hm hk
    obtain ⟨k, rfl⟩ : ∃ q, k = q + 1 := ⟨k - 1, by omega⟩
    simp only [stair_Even.l0, gangsawref42_Even.l0]
    have c1 : i < (xs.length : Int) := by omega
    have c2 : 0 ≤ i := by omega
    rw [wr (x := i + 1) (by omega)]
    simp only [c1, c2, if_true]
    obtain ⟨r, h1, h2⟩ := ih (i + 1) k (rd xs i) (by omega) (by omega) (by omega)
    rw [h1, h2]
    split
    · exact ⟨_, rfl, rfl⟩
    · split
      · exact ⟨_, rfl, rfl⟩
      · exact ⟨_, rfl, rfl⟩
theorem even_f (xs : List Int) (j : Nat) : ∃ r, stair_Even.f (200 + j) xs = some r ∧ gangsawref42_Even.f (200 + j) xs = some r := by
  unfold stair_Even.f gangsawref42_Even.f
  by_cases h : (xs.length : Int) > 64
  · rw [if_pos h, if_pos h]
    exact ⟨_, rfl, rfl⟩
  · rw [if_neg h, if_neg h]
    exact even0 xs (by omega) xs.length 0 _ _ (by omega) (by omega) (by omega)
theorem sill_f (a b c d e : Int) : ∃ r, stair_Sill.f a b c d e = some r ∧ gangsawref42_Sill.f a b c d e = some r := by
  have h : stair_Sill.f a b c d e = gangsawref42_Sill.f a b c d e := by
    unfold stair_Sill.f gangsawref42_Sill.f
    simp only [in_f, rin_f, Option.bind_some]
  have h2 : ∃ r, stair_Sill.f a b c d e = some r := by
    unfold stair_Sill.f
    simp only [in_f, Option.bind_some]
    repeat' split
    all_goals exact ⟨_, rfl⟩
  obtain ⟨r, h2⟩ := h2
  exact ⟨r, h2, h ▸ h2⟩
theorem StairMeasures : gangsawlaw42_StairMeasures.Pure := by
  intro xs a b c d e hx ha hb hc hd he
  refine ⟨200, ?_⟩
  unfold gangsawlaw42_StairMeasures.f
  rw [awake_ev 100]
  obtain ⟨⟨r1, r2⟩, h1, h2⟩ := even_f xs 0
  obtain ⟨⟨s1, s2, s3, s4⟩, h3, h4⟩ := sill_f a b c d e
  rw [h1, h2, h3, h4]
  simp
end Go.Proofs.Ytaainbbkengjfaa.Pure
