-- written by xprint.py, this project's own program (wip/), over the words of print.sh
import Derived.Test.YtecbmcheojolnaaXAx0
import Derived.Test.YtecbmcheojolnaaXAx16
namespace Go.Proofs.Ytecbmcheojolnaa.XA
open Go.RowKit Go.Proofs.Ytecbmcheojolnaa.Opens Go.Proofs.YtecbmcheojolnaaW.PrintWords Go.Proofs.YtecbmcheojolnaaW.PrintLast Go.Proofs.YtecbmcheojolnaaW.PrintMore
attribute [local go_sem] max2_int min2_int max_two min_two max_three min_three max_four min_four cell_some cell_same   -- for this text's walks alone
set_option linter.unusedVariables false
set_option linter.unusedSimpArgs false

/-! ### slices_IndexFunc_int_int_by_precedence_Reduce_1: function 43 -/
def slices_IndexFunc_int_int_by_precedence_Reduce_1.l0 : Nat → List Int → Int → Int → List (List Bool) → Int → Int → Option (Int)
  | 0, _, _, _, _, _, _ => none
  | k + 1, x0, x7, x8, x9000, x10000, x10001 => if x8 < x7 then (if 0 ≤ x8 then (if x8 < (x0.length : Int) then ((precedence_Reduce_1.f (rd x0 x8) x9000 x10000 x10001).bind fun t215 => (if t215 = true then (some x8) else (slices_IndexFunc_int_int_by_precedence_Reduce_1.l0 k x0 x7 (wrap64 (x8 + 1)) x9000 x10000 x10001))) else (none)) else (none)) else (some (-1))
def slices_IndexFunc_int_int_by_precedence_Reduce_1.f (k : Nat) (l0 : List Int) (s8_0 : List (List Bool)) (s9_0 : Int) (s9_1 : Int) : Option (Int) := slices_IndexFunc_int_int_by_precedence_Reduce_1.l0 k l0 (l0.length : Int) 0 s8_0 s9_0 s9_1
theorem slices_IndexFunc_int_int_by_precedence_Reduce_1.mono_l : ∀ k, (∀ y0 y1 y2 y3 y4 y5, LeO (slices_IndexFunc_int_int_by_precedence_Reduce_1.l0 k y0 y1 y2 y3 y4 y5) (slices_IndexFunc_int_int_by_precedence_Reduce_1.l0 (k + 1) y0 y1 y2 y3 y4 y5))
  | 0 => fun _ _ _ _ _ _ r h => by simp [slices_IndexFunc_int_int_by_precedence_Reduce_1.l0] at h
  | k + 1 => by
    have ih0 := slices_IndexFunc_int_int_by_precedence_Reduce_1.mono_l k
    intro y0 y1 y2 y3 y4 y5
    unfold slices_IndexFunc_int_int_by_precedence_Reduce_1.l0
    repeat' first
    | (with_reducible exact ih0 _ _ _ _ _ _)
    | (with_reducible exact LeO.refl _)
    | (with_reducible refine LeO.ite ?_ ?_)
    | (with_reducible refine LeO.bind ?_ (fun _ => ?_))
      
theorem slices_IndexFunc_int_int_by_precedence_Reduce_1.mono : ∀ a0 a1 a2 a3 k, LeO (slices_IndexFunc_int_int_by_precedence_Reduce_1.f k a0 a1 a2 a3) (slices_IndexFunc_int_int_by_precedence_Reduce_1.f (k + 1) a0 a1 a2 a3) := by
  intro a0 a1 a2 a3 k
  have ih0 := slices_IndexFunc_int_int_by_precedence_Reduce_1.mono_l k
  unfold slices_IndexFunc_int_int_by_precedence_Reduce_1.f
  repeat' (with_reducible exact ih0 _ _ _ _ _ _)
set_option maxHeartbeats 8000000 in
set_option maxRecDepth 100000 in
theorem slices_IndexFunc_int_int_by_precedence_Reduce_1.calls (k : Nat) (A0 : Option Addr) (c0 : Nat) (l0 : List Int) (g8 : Nat) (A8_0 : Option Addr) (c8_0 : Nat) (s8_0 : List (List Bool)) (g9 : Nat) (s9_0 : Int) (s9_1 : Int) (r : Int) (w : World) (hr0 : Kd.C (Kd.int .i64) w A0 l0.length l0) (hc0 : l0.length ≤ c0) (hb8 : w.heap[g8]? = some (.cells #[.slice A8_0 s8_0.length c8_0] 57 (0, 0))) (hr8_0 : Kd.C (Kd.slice 4 Kd.bool) w A8_0 s8_0.length s8_0) (hc8_0 : s8_0.length ≤ c8_0) (hb9 : w.heap[g9]? = some (.cells #[.int .i64 s9_0, .int .i64 s9_1] 47 (0, 0))) (h : slices_IndexFunc_int_int_by_precedence_Reduce_1.f k l0 s8_0 s9_0 s9_1 = some r) :
    Calls Try.prog 43 #[.slice A0 l0.length c0, .func (.func 36) #[] #[.pointer (some ⟨g8, 0, none⟩), .pointer (some ⟨g9, 0, none⟩)]] w fun e w' => e = .returned (.int .i64 r) ∧ Drawn0 w w' := by
  have HR0 := ak hr0
  have HC0 := ak hc0
  clear hr0 hc0
  have BK8 := ak hb8
  clear hb8
  have HR8_0 := ak hr8_0
  have HC8_0 := ak hc8_0
  clear hr8_0 hc8_0
  have BK9 := ak hb9
  clear hb9
  have H : (slices_IndexFunc_int_int_by_precedence_Reduce_1.l0 k l0 (l0.length : Int) 0 s8_0 s9_0 s9_1) = some r := h
  clear h
  have H' := ak H
  clear H
  go_enter Try.func43, Try.ntmps43
  go_wp2
  go_loopg [8] k (fun kq v8 w' => ∃ (x8_1 : Int), v8 = .int .i64 x8_1 ∧ Aside0 (slices_IndexFunc_int_int_by_precedence_Reduce_1.l0 kq l0 (l0.length : Int) x8_1 s8_0 s9_0 s9_1 = some r) ∧ Aside0 (kq ≤ k) ∧ Aside0 (w'.heap[g8]? = some (.cells #[(.slice A8_0 s8_0.length c8_0)] 57 (0, 0))) ∧ Aside0 (w'.heap[g9]? = some (.cells #[.int .i64 s9_0, .int .i64 s9_1] 47 (0, 0))) ∧ Drawn0 w w')
  case atStart => exact ⟨(0), (by rfl), H', ⟨Nat.le_refl _⟩, ⟨by exact BK8.1⟩, ⟨by exact BK9.1⟩, by exact Drawn0.refl _⟩
  clear H'
  obtain ⟨x8_1, rfl, HA, HK1, BK8, BK9, ⟨m1, rfl⟩⟩ := hrel
  cases gk with
  | zero => exact absurd HA.1 (by simp [slices_IndexFunc_int_int_by_precedence_Reduce_1.l0])
  | succ k1 =>
    have H := HA.1
    clear HA
    simp only [slices_IndexFunc_int_int_by_precedence_Reduce_1.l0] at H
    by_cases c3 : x8_1 < (l0.length : Int)
    · rw [if_pos c3] at H
      have c3b0 : decide (x8_1 < (l0.length : Int)) = true := decide_eq_true c3
      clear c3
      by_cases c4 : 0 ≤ x8_1
      · rw [if_pos c4] at H
        have c4b0 : decide (0 ≤ x8_1) = true := decide_eq_true c4
        clear c4
        by_cases c5 : x8_1 < (l0.length : Int)
        · rw [if_pos c5] at H
          have c5b0 : decide (x8_1 < (l0.length : Int)) = true := decide_eq_true c5
          clear c5
          replace H := Option.bind_eq_some_iff.mp H
          obtain ⟨t215, A60, H⟩ := H
          replace H : (if t215 = true then (some x8_1) else (slices_IndexFunc_int_int_by_precedence_Reduce_1.l0 k1 l0 (l0.length : Int) (wrap64 (x8_1 + 1)) s8_0 s9_0 s9_1)) = some r := H
          have A6 := ak A60
          clear A60
          by_cases c7 : t215 = true
          · subst c7
            have H1 : (some x8_1) = some r := by rw [if_pos rfl] at H; exact H
            clear H
            have H := H1
            clear H1
            obtain rfl := Option.some.inj H
            have p214 : 0 ≤ (x8_1 : Int) := od_
            have q214 : x8_1 < (l0.length : Int) := od_
            obtain ⟨ad214, e214, hx214_0⟩ := Kd.at_int HR0.1 x8_1 p214 q214
            cases e214
            replace p214 := eq_true p214
            replace q214 := eq_true q214
            go_wp2_with (first | (go_at_call 36; (with_reducible refine (precedence_Reduce_1.calls (rd l0 x8_1) g8 A8_0 c8_0 s8_0 g9 s9_0 s9_1 true _ ?side1 ?side2 ?side3 ?side4 A6.1).mono ?_); (case side1 => exact (by (with_reducible repeat (refine blk_drewN ?_ _)); exact BK8.1)); (case side2 => exact HR8_0.1); (case side3 => exact HC8_0.1); (case side4 => exact (by (with_reducible repeat (refine blk_drewN ?_ _)); exact BK9.1)); rintro e w' ⟨rfl, ⟨nd, rfl⟩⟩))
            go_ret
            exact ⟨by rfl, by repeat (first | exact Drawn0.refl _ | apply Drawn0.step)⟩
          replace c7 := Bool.eq_false_iff.mpr c7
          subst c7
          have H1 : (slices_IndexFunc_int_int_by_precedence_Reduce_1.l0 k1 l0 (l0.length : Int) (wrap64 (x8_1 + 1)) s8_0 s9_0 s9_1) = some r := by rw [if_neg (show ¬ (false = true) by decide)] at H; exact H
          clear H
          have H := H1
          clear H1
          have H' := ak H
          clear H
          have p214 : 0 ≤ (x8_1 : Int) := od_
          have q214 : x8_1 < (l0.length : Int) := od_
          obtain ⟨ad214, e214, hx214_0⟩ := Kd.at_int HR0.1 x8_1 p214 q214
          cases e214
          replace p214 := eq_true p214
          replace q214 := eq_true q214
          go_wp2_with (first | (go_at_call 36; (with_reducible refine (precedence_Reduce_1.calls (rd l0 x8_1) g8 A8_0 c8_0 s8_0 g9 s9_0 s9_1 false _ ?side1 ?side2 ?side3 ?side4 A6.1).mono ?_); (case side1 => exact (by (with_reducible repeat (refine blk_drewN ?_ _)); exact BK8.1)); (case side2 => exact HR8_0.1); (case side3 => exact HC8_0.1); (case side4 => exact (by (with_reducible repeat (refine blk_drewN ?_ _)); exact BK9.1)); rintro e w' ⟨rfl, ⟨nd, rfl⟩⟩))
          go_roundg k1
          case measure => have := HK1.1; omega
          case rel => exact ⟨(wrap64 (x8_1 + 1)), (by rfl), H', ⟨by have := HK1.1; omega⟩, ⟨by (with_reducible repeat (refine blk_drewN ?_ _)); exact BK8.1⟩, ⟨by (with_reducible repeat (refine blk_drewN ?_ _)); exact BK9.1⟩, by repeat (first | exact Drawn0.refl _ | apply Drawn0.step)⟩
        rw [if_neg c5] at H
        exact absurd H (by simp)
      rw [if_neg c4] at H
      exact absurd H (by simp)
    rw [if_neg c3] at H
    have c3b0 : decide (x8_1 < (l0.length : Int)) = false := decide_eq_false c3
    clear c3
    obtain rfl := Option.some.inj H
    go_wp2
    go_ret
    exact ⟨by rfl, by repeat (first | exact Drawn0.refl _ | apply Drawn0.step)⟩

end Go.Proofs.Ytecbmcheojolnaa.XA
