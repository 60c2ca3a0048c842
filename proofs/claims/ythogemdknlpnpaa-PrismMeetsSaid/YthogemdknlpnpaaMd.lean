import Derived.Test.YthogemdknlpnpaaMc
namespace Go.Proofs.Ythogemdknlpnpaa.Pure
open Go.RowKit Go.Proofs.Ythogemdknlpnpaa.Opens Go.Proofs.Ythogemdknlpnpaa.XA Go.Proofs.YthogemdknlpnpaaW.PrintWords Go.Proofs.YthogemdknlpnpaaW.PrintLast Go.Proofs.Ythogemdknlpnpaa.Geo
set_option linter.unusedVariables false
theorem cnt_zero (P : Nat → Int × Int) : ∀ m k, cnt P k m = 0 → ∀ i, k ≤ i → i < k + m → ¬ Sw P i
  | 0, k, _, i, a, b => absurd a (by omega)
  | m + 1, k, h, i, a, b => by
    have bd := cnt_bd P m (k + 1)
    unfold cnt at h
    by_cases s : Sw P k
    · rw [if_pos s] at h; omega
    · rw [if_neg s] at h
      by_cases e : i = k
      · subst e; exact s
      · exact cnt_zero P m (k + 1) (by omega) i (by omega) (by omega)
/-- The count is 1 where there is just one. -/
theorem cnt_one (P : Nat → Int × Int) : ∀ m k, cnt P k m = 1 ↔ (∃ s, (k ≤ s ∧ s < k + m ∧ Sw P s) ∧ ∀ i, k ≤ i → i < k + m → Sw P i → i = s)
  | 0, k => by
    simp only [cnt]
    constructor
    · intro h; omega
    · rintro ⟨s, ⟨a, b, _⟩, _⟩; omega
  | m + 1, k => by
    have bd := cnt_bd P m (k + 1)
    unfold cnt
    by_cases s : Sw P k
    · rw [if_pos s]
      constructor
      · intro h
        exact ⟨k, ⟨Nat.le_refl _, by omega, s⟩, fun i a b c => Classical.byContradiction fun e => cnt_zero P m (k + 1) (by omega) i (by omega) (by omega) c⟩
      · rintro ⟨s', ⟨a, b, c⟩, u⟩
        have e := u k (Nat.le_refl _) (by omega) s
        subst e
        have : cnt P (k + 1) m = 0 := by
          have : ∀ m j, (∀ i, j ≤ i → i < j + m → ¬ Sw P i) → cnt P j m = 0 := by
            intro m
            induction m with
            | zero => intro j _; rfl
            | succ m ih =>
              intro j hj
              unfold cnt
              rw [if_neg (hj j (Nat.le_refl _) (by omega)), ih (j + 1) (fun i p q => hj i (by omega) (by omega))]
              rfl
          exact this m (k + 1) (fun i p q r => by have := u i (by omega) (by omega) r; omega)
        omega
    · rw [if_neg s, Int.zero_add, cnt_one P m (k + 1)]
      constructor
      · rintro ⟨s', ⟨a, b, c⟩, u⟩
        exact ⟨s', ⟨by omega, by omega, c⟩, fun i p q r => by
          by_cases e : i = k
          · subst e; exact absurd r s
          · exact u i (by omega) (by omega) r⟩
      · rintro ⟨s', ⟨a, b, c⟩, u⟩
        have : s' ≠ k := fun e => s (by rw [← e]; exact c)
        exact ⟨s', ⟨by omega, by omega, c⟩, fun i p q r => u i (by omega) (by omega) r⟩
end Go.Proofs.Ythogemdknlpnpaa.Pure
