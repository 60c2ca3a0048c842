import Derived.Test.YthogemdknlpnpaaXAx0
import Derived.Test.YthogemdknlpnpaaMi
namespace Go.Proofs.Ythogemdknlpnpaa.Pure
open Go.RowKit Go.Proofs.Ythogemdknlpnpaa.Opens Go.Proofs.Ythogemdknlpnpaa.XA Go.Proofs.YthogemdknlpnpaaW.PrintWords Go.Proofs.YthogemdknlpnpaaW.PrintLast Go.Proofs.Ythogemdknlpnpaa.Geo
set_option linter.unusedVariables false
theorem pt_red (l : List S60) (j : Nat) : pt l (j % l.length) = pt l j := by
  have := pt_mod l j 0
  simpa using this
/-- The reference's condition is Glob. -/
theorem glob_iff {l : List S60} (h3 : 3 ≤ l.length) : (∀ e, 0 ≤ e → e < l.length → ∀ m, m < l.length → m ≠ e → m ≠ (e + 1) % l.length → 0 < cr3 (pt l e) (pt l ((e + 1) % l.length)) (pt l m)) ↔ Glob (pt l) l.length := by
  constructor
  · intro h i j hj hjn
    have hi := Nat.mod_lt i (show 0 < l.length by omega)
    have key : ∀ d, d < l.length → d ≠ 0 → (i % l.length + d) % l.length ≠ i % l.length := fun d hd h0 e => by
      by_cases q : i % l.length + d < l.length
      · rw [Nat.mod_eq_of_lt q] at e; omega
      · rw [Nat.mod_eq_sub_mod (by omega), Nat.mod_eq_of_lt (by omega)] at e; omega
    have k2 : (i % l.length + j) % l.length ≠ (i % l.length + 1) % l.length := fun e => by
      by_cases q : i % l.length + 1 < l.length
      · rw [Nat.mod_eq_of_lt q] at e
        by_cases q2 : i % l.length + j < l.length
        · rw [Nat.mod_eq_of_lt q2] at e; omega
        · rw [Nat.mod_eq_sub_mod (by omega), Nat.mod_eq_of_lt (by omega)] at e; omega
      · rw [Nat.mod_eq_sub_mod (show i % l.length + 1 ≥ l.length by omega), Nat.mod_eq_of_lt (show i % l.length + 1 - l.length < l.length by omega), Nat.mod_eq_sub_mod (by omega), Nat.mod_eq_of_lt (by omega)] at e
        omega
    have := h (i % l.length) (Nat.zero_le _) hi ((i % l.length + j) % l.length) (Nat.mod_lt _ (by omega)) (key j hjn (by omega)) k2
    rwa [pt_red, pt_red, pt_red, pt_mod, pt_mod] at this
  · intro g e _ he m hm h1 h2
    rw [pt_red]
    by_cases q : e < m
    · have := g e (m - e) (by
        refine Classical.byContradiction fun p => h2 ?_
        rw [Nat.mod_eq_of_lt (by omega)]; omega) (by omega)
      rwa [show e + (m - e) = m by omega] at this
    · have := g e (m + l.length - e) (by
        refine Classical.byContradiction fun p => h2 ?_
        have : e + 1 = l.length := by omega
        rw [this, Nat.mod_self]; omega) (by omega)
      rwa [show e + (m + l.length - e) = m + l.length by omega, pt_per] at this
end Go.Proofs.Ythogemdknlpnpaa.Pure
