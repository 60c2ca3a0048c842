import Derived.Test.YthogemdknlpnpaaXAx0
import Derived.Test.YthogemdknlpnpaaXAx21
import Derived.Test.YthogemdknlpnpaaMf
namespace Go.Proofs.Ythogemdknlpnpaa.Pure
open Go.RowKit Go.Proofs.Ythogemdknlpnpaa.Opens Go.Proofs.Ythogemdknlpnpaa.XA Go.Proofs.YthogemdknlpnpaaW.PrintWords Go.Proofs.YthogemdknlpnpaaW.PrintLast Go.Proofs.Ythogemdknlpnpaa.Geo
set_option linter.unusedVariables false
theorem pt_rd {l : List S60} {j : Nat} (h : j < l.length) : pt l j = ((rd_T60 l (j : Int)).f0, (rd_T60 l (j : Int)).f1) := by
  simp only [pt, Nat.mod_eq_of_lt h]
theorem rc1 {l : List S60} (hn : l.length < 1000) (ok : ∀ j, Okp (pt l j)) {i c : Nat} (hi : i < l.length) (hc : c < l.length) : ∀ (d k j : Nat), j + d = l.length →
    (((∀ m, j ≤ m → m < l.length → m ≠ i → m ≠ c → 0 < cr3 (pt l i) (pt l c) (pt l m)) → gangsawref08_convex.l1 (d + 1 + k) l (l.length : Int) (i : Int) (c : Int) (j : Int) = gangsawref08_convex.l0 k l (l.length : Int) ((i : Int) + 1)) ∧
     ((∃ m, j ≤ m ∧ m < l.length ∧ m ≠ i ∧ m ≠ c ∧ cr3 (pt l i) (pt l c) (pt l m) ≤ 0) → gangsawref08_convex.l1 (d + 1 + k) l (l.length : Int) (i : Int) (c : Int) (j : Int) = some false))
  | 0, k, j, h => by
    rw [show 0 + 1 + k = k + 1 by omega]
    unfold gangsawref08_convex.l1
    rw [if_neg (by omega), wr (by omega)]
    exact ⟨fun _ => rfl, fun ⟨m, a, b, _⟩ => absurd a (by omega)⟩
  | d + 1, k, j, h => by
    have ih := rc1 hn ok hi hc d k (j + 1) (by omega)
    rw [show d + 1 + 1 + k = (d + 1 + k) + 1 by omega]
    unfold gangsawref08_convex.l1
    rw [if_pos (by omega), wr (x := (j : Int) + 1) (by omega)]
    rw [show ((j + 1 : Nat) : Int) = (j : Int) + 1 by omega] at ih
    by_cases e1 : j = i
    · subst e1
      rw [if_pos rfl]
      exact ⟨fun a => ih.1 (fun m p q r s => a m (by omega) q r s), fun ⟨m, p, q, r, s, u⟩ => ih.2 ⟨m, by omega, q, r, s, u⟩⟩
    · rw [if_neg (by omega)]
      by_cases e2 : j = c
      · subst e2
        rw [if_pos rfl]
        exact ⟨fun a => ih.1 (fun m p q r s => a m (by omega) q r s), fun ⟨m, p, q, r, s, u⟩ => ih.2 ⟨m, by omega, q, r, s, u⟩⟩
      · rw [if_neg (by omega), if_pos (by omega), if_pos (by omega), if_pos (by omega), if_pos (by omega), if_pos (by omega), if_pos (by omega)]
        have cf := rcross_f (ok i) (ok c) (ok j)
        rw [pt_rd hi, pt_rd hc, pt_rd (show j < l.length by omega)] at cf
        simp only [] at cf
        rw [cf, Option.bind_some, ← pt_rd hi, ← pt_rd hc, ← pt_rd (show j < l.length by omega)]
        by_cases q : cr3 (pt l i) (pt l c) (pt l j) ≤ 0
        · rw [if_pos q]
          exact ⟨fun a => absurd (a j (Nat.le_refl _) (by omega) e1 e2) (by omega), fun _ => rfl⟩
        · rw [if_neg q]
          refine ⟨fun a => ih.1 (fun m p q r s => a m (by omega) q r s), fun ⟨m, p, q', r, s, u⟩ => ih.2 ⟨m, ?_, q', r, s, u⟩⟩
          have : m ≠ j := fun e => q (by rw [← e]; exact u)
          omega
end Go.Proofs.Ythogemdknlpnpaa.Pure
