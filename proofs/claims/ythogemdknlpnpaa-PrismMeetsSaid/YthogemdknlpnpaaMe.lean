import Derived.Test.YthogemdknlpnpaaXAx0
import Derived.Test.YthogemdknlpnpaaHa
import Derived.Test.YthogemdknlpnpaaHb
import Derived.Test.YthogemdknlpnpaaMd
namespace Go.Proofs.Ythogemdknlpnpaa.Pure
open Go.RowKit Go.Proofs.Ythogemdknlpnpaa.Opens Go.Proofs.Ythogemdknlpnpaa.XA Go.Proofs.YthogemdknlpnpaaW.PrintWords Go.Proofs.YthogemdknlpnpaaW.PrintLast Go.Proofs.Ythogemdknlpnpaa.Geo
set_option linter.unusedVariables false
theorem pt_mod (l : List S60) (j d : Nat) : pt l (j % l.length + d) = pt l (j + d) := by
  simp only [pt, Nat.mod_add_mod]
theorem sw_mod (l : List S60) (j : Nat) : Sw (pt l) (j % l.length) ↔ Sw (pt l) j := by
  have h0 := pt_mod l j 0
  simp only [Nat.add_zero] at h0
  simp only [Sw, pt_mod, h0]
/-- convex says what it should: every other corner lies strictly on the left of every edge. -/
theorem convex_iff {l : List S60} (h3 : 3 ≤ l.length) (hn : l.length < 1000) (ok : ∀ j, Okp (pt l j)) : cvx l (edge_upto l l.length) 0 = true ↔ Glob (pt l) l.length := by
  have e : edge_upto l l.length = (List.range' 0 l.length).map (edge_at l) := by simp only [edge_upto, List.range_eq_range']
  rw [e, cvx_go hn ok l.length 0 0 (by omega) (by omega) (by omega), Int.zero_add, cnt_one]
  constructor
  · rintro ⟨hl, s, ⟨_, s2, s3⟩, hu⟩
    have hl' : ∀ i, 0 < cr3 (pt l i) (pt l (i + 1)) (pt l (i + 2)) := fun i => by
      have := hl (i % l.length) (Nat.zero_le _) (Nat.mod_lt _ (by omega))
      have h0 := pt_mod l i 0
      simp only [Nat.add_zero] at h0
      rwa [pt_mod, pt_mod, h0] at this
    refine glob_of h3 (pt_per l) hl' ⟨s, by omega, s3⟩ (fun i j hi hj h1 h2 => ?_)
    have a := hu (i % l.length) (Nat.zero_le _) (by have := Nat.mod_lt i (show 0 < l.length by omega); omega) ((sw_mod l i).2 hi)
    have b := hu (j % l.length) (Nat.zero_le _) (by have := Nat.mod_lt j (show 0 < l.length by omega); omega) ((sw_mod l j).2 hj)
    have ei := Nat.div_add_mod i l.length
    have ej := Nat.div_add_mod j l.length
    by_cases q : i / l.length = j / l.length
    · rw [q, a] at ei; rw [b] at ej; omega
    · exfalso
      have : i / l.length < j / l.length := Nat.lt_of_le_of_ne (Nat.div_le_div_right h1) q
      have := Nat.mul_le_mul_left l.length (show i / l.length + 1 ≤ j / l.length by omega)
      rw [Nat.mul_add] at this
      omega
  · intro g
    refine ⟨fun j _ _ => g j 2 (by omega) (by omega), ?_⟩
    obtain ⟨s, s1, s2⟩ := sw_ex h3 (pt_per l) g
    refine ⟨s, ⟨Nat.zero_le _, by omega, s2⟩, fun i _ h2 hi => ?_⟩
    rcases Nat.le_total i s with q | q
    · exact sw_one h3 (pt_per l) g hi s2 q (by omega)
    · exact (sw_one h3 (pt_per l) g s2 hi q (by omega)).symm
end Go.Proofs.Ythogemdknlpnpaa.Pure
