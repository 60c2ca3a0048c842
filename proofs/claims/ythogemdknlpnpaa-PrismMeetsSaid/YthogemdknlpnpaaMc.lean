import Derived.Test.YthogemdknlpnpaaXAx0
import Derived.Test.YthogemdknlpnpaaHa
import Derived.Test.YthogemdknlpnpaaHb
import Derived.Test.YthogemdknlpnpaaMb
namespace Go.Proofs.Ythogemdknlpnpaa.Pure
open Go.RowKit Go.Proofs.Ythogemdknlpnpaa.Opens Go.Proofs.Ythogemdknlpnpaa.XA Go.Proofs.YthogemdknlpnpaaW.PrintWords Go.Proofs.YthogemdknlpnpaaW.PrintLast Go.Proofs.Ythogemdknlpnpaa.Geo
set_option linter.unusedVariables false
instance (P : Nat → Int × Int) (i : Nat) : Decidable (Sw P i) := inferInstanceAs (Decidable (_ ∧ _))
/-- How many switches there are from k on, m edges long. -/
def cnt (P : Nat → Int × Int) : Nat → Nat → Int
  | _, 0 => 0
  | k, m + 1 => (if Sw P k then 1 else 0) + cnt P (k + 1) m
theorem cnt_bd (P : Nat → Int × Int) : ∀ m k, 0 ≤ cnt P k m ∧ cnt P k m ≤ m
  | 0, _ => by simp [cnt]
  | m + 1, k => by
    have := cnt_bd P m (k + 1)
    unfold cnt
    split <;> omega
theorem cvx_go {l : List S60} (hn : l.length < 1000) (ok : ∀ j, Okp (pt l j)) : ∀ (m k : Nat) (t : Int), k + m = l.length → 0 ≤ t → t ≤ k →
    (cvx l ((List.range' k m).map (edge_at l)) t = true ↔ (∀ j, k ≤ j → j < l.length → 0 < cr3 (pt l j) (pt l (j + 1)) (pt l (j + 2))) ∧ t + cnt (pt l) k m = 1)
  | 0, k, t, h, h0, h1 => by
    simp only [List.range'_zero, List.map_nil, cvx, cnt, decide_eq_true_eq]
    constructor
    · intro e; exact ⟨fun j a b => absurd a (by omega), by omega⟩
    · intro e; omega
  | m + 1, k, t, h, h0, h1 => by
    simp only [List.range'_succ, List.map_cons, cvx]
    rw [step_f (show k < l.length by omega) hn ok]
    by_cases q : cr3 (pt l k) (pt l (k + 1)) (pt l (k + 2)) ≤ 0
    · rw [if_pos q]
      simp only [Bool.false_eq_true, false_iff]
      rintro ⟨a, _⟩
      have := a k (Nat.le_refl _) (by omega)
      omega
    · rw [if_neg q]
      have all : (∀ j, k ≤ j → j < l.length → 0 < cr3 (pt l j) (pt l (j + 1)) (pt l (j + 2))) ↔ (∀ j, k + 1 ≤ j → j < l.length → 0 < cr3 (pt l j) (pt l (j + 1)) (pt l (j + 2))) := by
        constructor
        · intro a j b c; exact a j (by omega) c
        · intro a j b c
          by_cases e : j = k
          · subst e; omega
          · exact a j (by omega) c
      by_cases s : Sw (pt l) k
      · rw [if_pos ⟨decide_eq_false s.1, decide_eq_true s.2⟩, wr (by omega)]
        simp only []
        rw [cvx_go hn ok m (k + 1) (t + 1) (by omega) (by omega) (by omega), all]
        simp only [cnt, if_pos s]
        rw [show t + 1 + cnt (pt l) (k + 1) m = t + (1 + cnt (pt l) (k + 1) m) by omega]
      · rw [if_neg (fun e => s ⟨of_decide_eq_false e.1, of_decide_eq_true e.2⟩)]
        simp only []
        rw [cvx_go hn ok m (k + 1) t (by omega) h0 (by omega), all]
        simp only [cnt, if_neg s]
        rw [show t + cnt (pt l) (k + 1) m = t + (0 + cnt (pt l) (k + 1) m) by omega]
end Go.Proofs.Ythogemdknlpnpaa.Pure
