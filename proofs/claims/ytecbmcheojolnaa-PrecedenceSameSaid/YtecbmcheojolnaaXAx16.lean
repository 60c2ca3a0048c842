-- written by xprint.py, this project's own program (wip/), over the words of print.sh
import Derived.Test.YtecbmcheojolnaaXAx0
namespace Go.Proofs.Ytecbmcheojolnaa.XA
open Go.RowKit Go.Proofs.Ytecbmcheojolnaa.Opens Go.Proofs.YtecbmcheojolnaaW.PrintWords Go.Proofs.YtecbmcheojolnaaW.PrintLast Go.Proofs.YtecbmcheojolnaaW.PrintMore
attribute [local go_sem] max2_int min2_int max_two min_two max_three min_three max_four min_four cell_some cell_same   -- for this text's walks alone
set_option linter.unusedVariables false
set_option linter.unusedSimpArgs false

/-! ### precedence_Reduce_1: function 36 -/
def precedence_Reduce_1.f (a0 : Int) (s8_0 : List (List Bool)) (s16_0 : Int) (s16_1 : Int) : Option (Bool) := if 0 ≤ a0 then (if a0 < (s8_0.length : Int) then (if 0 ≤ s16_0 then (if s16_0 < ((rd_L4 s8_0 a0).length : Int) then (some (rdOf false (rd_L4 s8_0 a0) s16_0)) else (none)) else (none)) else (none)) else (none)
set_option maxHeartbeats 8000000 in
set_option maxRecDepth 100000 in
theorem precedence_Reduce_1.calls (a0 : Int) (g8 : Nat) (A8_0 : Option Addr) (c8_0 : Nat) (s8_0 : List (List Bool)) (g16 : Nat) (s16_0 : Int) (s16_1 : Int) (r : Bool) (w : World) (hb8 : w.heap[g8]? = some (.cells #[.slice A8_0 s8_0.length c8_0] 57 (0, 0))) (hr8_0 : Kd.C (Kd.slice 4 Kd.bool) w A8_0 s8_0.length s8_0) (hc8_0 : s8_0.length ≤ c8_0) (hb16 : w.heap[g16]? = some (.cells #[.int .i64 s16_0, .int .i64 s16_1] 47 (0, 0))) (h : precedence_Reduce_1.f a0 s8_0 s16_0 s16_1 = some r) :
    Calls Try.prog 36 #[.int .i64 a0, .pointer (some ⟨g8, 0, none⟩), .pointer (some ⟨g16, 0, none⟩)] w fun e w' => e = .returned (.bool r) ∧ Drawn0 w w' := by
  have hu47 := Try.underlying47
  have BK8 := ak hb8
  clear hb8
  have HR8_0 := ak hr8_0
  have HC8_0 := ak hc8_0
  clear hr8_0 hc8_0
  have BK16 := ak hb16
  clear hb16
  have H : (if 0 ≤ a0 then (if a0 < (s8_0.length : Int) then (if 0 ≤ s16_0 then (if s16_0 < ((rd_L4 s8_0 a0).length : Int) then (some (rdOf false (rd_L4 s8_0 a0) s16_0)) else (none)) else (none)) else (none)) else (none)) = some r := h
  clear h
  by_cases c4 : 0 ≤ a0
  · rw [if_pos c4] at H
    have c4b0 : decide (0 ≤ a0) = true := decide_eq_true c4
    clear c4
    by_cases c5 : a0 < (s8_0.length : Int)
    · rw [if_pos c5] at H
      have c5b0 : decide (a0 < (s8_0.length : Int)) = true := decide_eq_true c5
      clear c5
      by_cases c6 : 0 ≤ s16_0
      · rw [if_pos c6] at H
        have c6b0 : decide (0 ≤ s16_0) = true := decide_eq_true c6
        clear c6
        by_cases c7 : s16_0 < ((rd_L4 s8_0 a0).length : Int)
        · rw [if_pos c7] at H
          have c7b0 : decide (s16_0 < ((rd_L4 s8_0 a0).length : Int)) = true := decide_eq_true c7
          clear c7
          obtain rfl := Option.some.inj H
          have hcz8_0 : w.cell? ⟨g8, 0, none⟩ = some (.slice A8_0 s8_0.length c8_0) := (blk_cell BK8.1 0).trans rfl
          have hfz8_0 := blk_frozen BK8.1 0
          have p212 : 0 ≤ (a0 : Int) := od_
          have q212 : a0 < (s8_0.length : Int) := od_
          obtain ⟨ad212, A212_0, c212_0, e212, hx212_0, hl212_0, hi212_0⟩ := at_L4 HR8_0.1 a0 p212 q212
          cases e212
          have HR212_0 := ak hi212_0
          have HC212_0 := ak hl212_0
          clear hi212_0 hl212_0
          replace p212 := eq_true p212
          replace q212 := eq_true q212
          have hcz9_0 : w.cell? ⟨g16, 0, none⟩ = some (.int .i64 s16_0) := (blk_cell BK16.1 0).trans rfl
          have hcz9_1 : w.cell? ⟨g16, 1, none⟩ = some (.int .i64 s16_1) := (blk_cell BK16.1 1).trans rfl
          have hfz9_0 := blk_frozen BK16.1 0
          have hfz9_1 := blk_frozen BK16.1 1
          have p213 : 0 ≤ (s16_0 : Int) := od_
          have q213 : s16_0 < ((rd_L4 s8_0 a0).length : Int) := od_
          obtain ⟨ad213, e213, hx213_0⟩ := Kd.at_bool HR212_0.1 s16_0 p213 q213
          cases e213
          replace p213 := eq_true p213
          replace q213 := eq_true q213
          go_enter Try.func36, Try.ntmps36
          go_wp2
          repeat (go_quiet (fail); try go_wp2)
          go_ret
          exact ⟨by rfl, by repeat (first | exact Drawn0.refl _ | apply Drawn0.step)⟩
        rw [if_neg c7] at H
        exact absurd H (by simp)
      rw [if_neg c6] at H
      exact absurd H (by simp)
    rw [if_neg c5] at H
    exact absurd H (by simp)
  rw [if_neg c4] at H
  exact absurd H (by simp)

end Go.Proofs.Ytecbmcheojolnaa.XA
