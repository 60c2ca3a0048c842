import Derived.Test.YthogemdknlpnpaaXAx0
import Derived.Test.YthogemdknlpnpaaXAx4
import Derived.Test.YthogemdknlpnpaaMg
namespace Go.Proofs.Ythogemdknlpnpaa.Pure
open Go.RowKit Go.Proofs.Ythogemdknlpnpaa.Opens Go.Proofs.Ythogemdknlpnpaa.XA Go.Proofs.YthogemdknlpnpaaW.PrintWords Go.Proofs.YthogemdknlpnpaaW.PrintLast Go.Proofs.Ythogemdknlpnpaa.Geo
set_option linter.unusedVariables false
theorem wr {x : Int} (h : -9223372036854775808 ≤ x ∧ x ≤ 9223372036854775807) : wrap64 x = x := by unfold wrap64; omega
/-- The corner j, the corners coming round again. -/
def pt (l : List S60) (j : Nat) : Int × Int := ((rd_T60 l ((j % l.length : Nat) : Int)).f0, (rd_T60 l ((j % l.length : Nat) : Int)).f1)
theorem pt_per (l : List S60) : Per (pt l) l.length := fun j => by simp only [pt, Nat.add_mod_right]
/-- A corner within the range. -/
def Okp (a : Int × Int) : Prop := (-1000000 ≤ a.1 ∧ a.1 ≤ 1000000) ∧ (-1000000 ≤ a.2 ∧ a.2 ≤ 1000000)
theorem mulb {x y B : Int} (h1 : -B ≤ x ∧ x ≤ B) (h2 : -B ≤ y ∧ y ≤ B) : -(B * B) ≤ x * y ∧ x * y ≤ B * B := by
  have hB : 0 ≤ B := by omega
  have a := Int.mul_nonneg (show 0 ≤ B - x by omega) (show 0 ≤ B + y by omega)
  have b := Int.mul_nonneg (show 0 ≤ B + x by omega) (show 0 ≤ B - y by omega)
  have c := Int.mul_nonneg (show 0 ≤ B - x by omega) (show 0 ≤ B - y by omega)
  have d := Int.mul_nonneg (show 0 ≤ B + x by omega) (show 0 ≤ B + y by omega)
  simp only [Int.sub_mul, Int.mul_sub, Int.add_mul, Int.mul_add] at a b c d
  have e : x * B = B * x := Int.mul_comm _ _
  omega
theorem cross_f {a b c : Int × Int} (ha : Okp a) (hb : Okp b) (hc : Okp c) : prism_cross.f a.1 a.2 b.1 b.2 c.1 c.2 = some (cr3 a b c) := by
  obtain ⟨⟨a1, a2⟩, a3, a4⟩ := ha
  obtain ⟨⟨b1, b2⟩, b3, b4⟩ := hb
  obtain ⟨⟨c1, c2⟩, c3, c4⟩ := hc
  have m1 := mulb (B := 2000000) (x := b.1 - a.1) (y := c.2 - a.2) (by omega) (by omega)
  have m2 := mulb (B := 2000000) (x := b.2 - a.2) (y := c.1 - a.1) (by omega) (by omega)
  unfold prism_cross.f cr3
  rw [wr (x := b.1 - a.1) (by omega), wr (x := c.2 - a.2) (by omega), wr (x := b.2 - a.2) (by omega), wr (x := c.1 - a.1) (by omega)]
  rw [wr (x := (b.1 - a.1) * (c.2 - a.2)) (by omega), wr (x := (b.2 - a.2) * (c.1 - a.1)) (by omega), wr (by omega)]
theorem upper_f (a b : Int × Int) : prism_upper.f a.1 a.2 b.1 b.2 = some (decide (lt2 a b)) := by
  unfold prism_upper.f
  by_cases h : b.2 > a.2
  · rw [if_pos h, decide_eq_true (show lt2 a b from .inl h)]
  · rw [if_neg h]
    by_cases h2 : b.2 = a.2
    · rw [if_pos h2]
      congr 1
      by_cases h3 : b.1 > a.1
      · rw [decide_eq_true h3, decide_eq_true (show lt2 a b from .inr ⟨h2.symm, h3⟩)]
      · rw [decide_eq_false h3, decide_eq_false (show ¬ lt2 a b by unfold lt2; omega)]
    · rw [if_neg h2, decide_eq_false (show ¬ lt2 a b by unfold lt2; omega)]
end Go.Proofs.Ythogemdknlpnpaa.Pure
