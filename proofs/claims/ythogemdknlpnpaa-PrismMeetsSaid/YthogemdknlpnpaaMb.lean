import Derived.Test.YthogemdknlpnpaaXAx0
import Derived.Test.YthogemdknlpnpaaHa
import Derived.Test.YthogemdknlpnpaaHb
import Derived.Test.YthogemdknlpnpaaMa
namespace Go.Proofs.Ythogemdknlpnpaa.Pure
open Go.RowKit Go.Proofs.Ythogemdknlpnpaa.Opens Go.Proofs.Ythogemdknlpnpaa.XA Go.Proofs.YthogemdknlpnpaaW.PrintWords Go.Proofs.YthogemdknlpnpaaW.PrintLast Go.Proofs.Ythogemdknlpnpaa.Geo
set_option linter.unusedVariables false
theorem idx (j d n : Nat) (hj : j < 1000) (hd : d ≤ 2) : (IntKind.i64.wrap ((j : Int) + d)).tmod (n : Int) = (((j + d) % n : Nat) : Int) := by
  rw [IntKind.wrap_i64, show ((j : Int) + d + 9223372036854775808) % 18446744073709551616 - 9223372036854775808 = ((j + d : Nat) : Int) by omega]
  rfl
theorem edge_1 {l : List S60} {j : Nat} (hj : j < l.length) : ((edge_at l j).2.1.f0, (edge_at l j).2.1.f1) = pt l j := by
  simp only [edge_at, pt, Nat.mod_eq_of_lt hj]
theorem edge_2 {l : List S60} {j : Nat} (hj : j < 1000) : ((edge_at l j).2.2.f0, (edge_at l j).2.2.f1) = pt l (j + 1) := by
  have := idx j 1 l.length hj (by omega)
  simp only [edge_at, pt]
  rw [show (j : Int) + 1 = (j : Int) + ((1 : Nat) : Int) by rfl, this]
/-- One round. -/
theorem step_f {l : List S60} {j : Nat} (hj : j < l.length) (hn : l.length < 1000) (ok : ∀ j, Okp (pt l j)) (t : Int) :
    cvx_step l (edge_at l j) t = if cr3 (pt l j) (pt l (j + 1)) (pt l (j + 2)) ≤ 0 then none else if (decide (lt2 (pt l j) (pt l (j + 1))) = false ∧ decide (lt2 (pt l (j + 1)) (pt l (j + 2))) = true) then some (wrap64 (t + 1)) else some t := by
  have e1 := edge_1 hj
  have e2 := edge_2 (l := l) (j := j) (by omega)
  have e3 : ((rd_T60 l ((IntKind.i64.wrap (((edge_at l j).1.val : Int) + 2)).tmod (l.length : Int))).f0, (rd_T60 l ((IntKind.i64.wrap (((edge_at l j).1.val : Int) + 2)).tmod (l.length : Int))).f1) = pt l (j + 2) := by
    have := idx j 2 l.length (by omega) (by omega)
    simp only [edge_at, pt, Nat.mod_eq_of_lt (show j < 1000 by omega)]
    rw [show (j : Int) + 2 = (j : Int) + ((2 : Nat) : Int) by rfl, this]
  have c := cross_f (ok j) (ok (j + 1)) (ok (j + 2))
  have u := upper_f (pt l j) (pt l (j + 1))
  have v := upper_f (pt l (j + 1)) (pt l (j + 2))
  rw [← e1, ← e2, ← e3] at c
  rw [← e1, ← e2] at u
  rw [← e2, ← e3] at v
  rw [← e1, ← e2, ← e3]
  simp only [cvx_step, c, u, v]
end Go.Proofs.Ythogemdknlpnpaa.Pure
