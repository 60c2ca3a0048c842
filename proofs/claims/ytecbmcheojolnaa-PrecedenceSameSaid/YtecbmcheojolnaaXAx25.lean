-- written by xprint.py, this project's own program (wip/), over the words of print.sh
import Derived.Test.YtecbmcheojolnaaXAx0
namespace Go.Proofs.Ytecbmcheojolnaa.XA
open Go.RowKit Go.Proofs.Ytecbmcheojolnaa.Opens Go.Proofs.YtecbmcheojolnaaW.PrintWords Go.Proofs.YtecbmcheojolnaaW.PrintLast Go.Proofs.YtecbmcheojolnaaW.PrintMore
attribute [local go_sem] max2_int min2_int max_two min_two max_three min_three max_four min_four cell_some cell_same   -- for this text's walks alone
set_option linter.unusedVariables false
set_option linter.unusedSimpArgs false

/-! ### rf_has: function 33 -/
def rf_has.l0 : Nat → List Int → Int → Int → Option (Bool)
  | 0, _, _, _ => none
  | k + 1, x0, x1, x5 => if x5 < (x0.length : Int) then (if 0 ≤ x5 then (if (rd x0 x5) = x1 then (some true) else (rf_has.l0 k x0 x1 (wrap64 (x5 + 1)))) else (none)) else (some false)
def rf_has.f (k : Nat) (l0 : List Int) (a1 : Int) : Option (Bool) := rf_has.l0 k l0 a1 0
theorem rf_has.mono_l : ∀ k, (∀ y0 y1 y2, LeO (rf_has.l0 k y0 y1 y2) (rf_has.l0 (k + 1) y0 y1 y2))
  | 0 => fun _ _ _ r h => by simp [rf_has.l0] at h
  | k + 1 => by
    have ih0 := rf_has.mono_l k
    intro y0 y1 y2
    unfold rf_has.l0
    repeat' first
    | (with_reducible exact ih0 _ _ _)
    | (with_reducible exact LeO.refl _)
    | (with_reducible refine LeO.ite ?_ ?_)
      
theorem rf_has.mono : ∀ a0 a1 k, LeO (rf_has.f k a0 a1) (rf_has.f (k + 1) a0 a1) := by
  intro a0 a1 k
  have ih0 := rf_has.mono_l k
  unfold rf_has.f
  repeat' (with_reducible exact ih0 _ _ _)
set_option maxHeartbeats 8000000 in
set_option maxRecDepth 100000 in
theorem rf_has.calls (k : Nat) (A0 : Option Addr) (c0 : Nat) (l0 : List Int) (a1 : Int) (r : Bool) (w : World) (hr0 : Kd.C (Kd.int .i64) w A0 l0.length l0) (hc0 : l0.length ≤ c0) (h : rf_has.f k l0 a1 = some r) :
    Calls Try.prog 33 #[.slice A0 l0.length c0, .int .i64 a1] w fun e w' => e = .returned (.bool r) ∧ Drawn0 w w' := by
  have HR0 := ak hr0
  have HC0 := ak hc0
  clear hr0 hc0
  have H : (rf_has.l0 k l0 a1 0) = some r := h
  clear h
  have H' := ak H
  clear H
  go_enter Try.func33, Try.ntmps33
  go_wp2
  go_loopg [5] k (fun kq v5 w' => ∃ (x5_1 : Int), v5 = .int .i64 x5_1 ∧ Aside0 (rf_has.l0 kq l0 a1 x5_1 = some r) ∧ Aside0 (kq ≤ k) ∧ Drawn0 w w')
  case atStart => exact ⟨(0), (by rfl), H', ⟨Nat.le_refl _⟩, by exact Drawn0.refl _⟩
  clear H'
  obtain ⟨x5_1, rfl, HA, HK1, ⟨m1, rfl⟩⟩ := hrel
  cases gk with
  | zero => exact absurd HA.1 (by simp [rf_has.l0])
  | succ k1 =>
    have H := HA.1
    clear HA
    simp only [rf_has.l0] at H
    by_cases c3 : x5_1 < (l0.length : Int)
    · rw [if_pos c3] at H
      have c3b0 : decide (x5_1 < (l0.length : Int)) = true := decide_eq_true c3
      clear c3
      by_cases c4 : 0 ≤ x5_1
      · rw [if_pos c4] at H
        have c4b0 : decide (0 ≤ x5_1) = true := decide_eq_true c4
        clear c4
        by_cases c5 : (rd l0 x5_1) = a1
        · rw [if_pos c5] at H
          have c5b0 : ((rd l0 x5_1) == a1) = true := beq_iff_eq.mpr c5
          have c5b1 : ((rd l0 x5_1) != a1) = false := bne_eq_false_iff_eq.mpr c5
          clear c5
          obtain rfl := Option.some.inj H
          have p333 : 0 ≤ (x5_1 : Int) := od_
          have q333 : x5_1 < (l0.length : Int) := od_
          obtain ⟨ad333, e333, hx333_0⟩ := Kd.at_int HR0.1 x5_1 p333 q333
          cases e333
          replace p333 := eq_true p333
          replace q333 := eq_true q333
          go_wp2
          go_ret
          exact ⟨by rfl, by repeat (first | exact Drawn0.refl _ | apply Drawn0.step)⟩
        rw [if_neg c5] at H
        have c5b0 : ((rd l0 x5_1) == a1) = false := beq_eq_false_iff_ne.mpr c5
        have c5b1 : ((rd l0 x5_1) != a1) = true := bne_iff_ne.mpr c5
        have H' := ak H
        clear H
        have p333 : 0 ≤ (x5_1 : Int) := od_
        have q333 : x5_1 < (l0.length : Int) := od_
        obtain ⟨ad333, e333, hx333_0⟩ := Kd.at_int HR0.1 x5_1 p333 q333
        cases e333
        replace p333 := eq_true p333
        replace q333 := eq_true q333
        go_wp2
        go_roundg k1
        case measure => have := HK1.1; omega
        case rel => exact ⟨(wrap64 (x5_1 + 1)), (by rfl), H', ⟨by have := HK1.1; omega⟩, by repeat (first | exact Drawn0.refl _ | apply Drawn0.step)⟩
      rw [if_neg c4] at H
      exact absurd H (by simp)
    rw [if_neg c3] at H
    have c3b0 : decide (x5_1 < (l0.length : Int)) = false := decide_eq_false c3
    clear c3
    obtain rfl := Option.some.inj H
    go_wp2
    go_ret
    exact ⟨by rfl, by repeat (first | exact Drawn0.refl _ | apply Drawn0.step)⟩

end Go.Proofs.Ytecbmcheojolnaa.XA
