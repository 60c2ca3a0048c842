import Derived.Test.YtgacodhpniehiaaXAx1
namespace Go.Proofs.Ytgacodhpniehiaa.XA
open Go.RowKit Opens YtgacodhpniehiaaW.PrintWords YtgacodhpniehiaaW.PrintLast YtgacodhpniehiaaW.PrintMore
attribute [local go_sem] max2_int min2_int max_two min_two max_three min_three max_four min_four cell_some cell_same
set_option linter.unusedVariables false
set_option linter.unusedSimpArgs false

attribute [local go_sem high] eqA61
def rf_Same.l0 : Nat → List (S61) → List (S61) → Int → Option (Bool)
  | 0, _, _, _ => none
  | k + 1, x0, x1, x5 => if x5 < (x0.length : Int) then (if 0 ≤ x5 then (if x5 < (x1.length : Int) then (if (!(((rd_T61 x0 x5).f0) == ((rd_T61 x1 x5).f0)) || (!((((rd_T61 x0 x5).f1).toList) == (((rd_T61 x1 x5).f1).toList)) || (!(((rd_T61 x0 x5).f2) == ((rd_T61 x1 x5).f2)) || (!(((rd_T61 x0 x5).f3) == ((rd_T61 x1 x5).f3)) || (!(((rd_T61 x0 x5).f4) == ((rd_T61 x1 x5).f4)) || (!(((rd_T61 x0 x5).f5) == ((rd_T61 x1 x5).f5)) || (!(((rd_T61 x0 x5).f6) == ((rd_T61 x1 x5).f6))))))))) = true then (some false) else (rf_Same.l0 k x0 x1 (wrap64 (x5 + 1)))) else (none)) else (none)) else (some true)
def rf_Same.f (k : Nat) (l0 : List (S61)) (l1 : List (S61)) : Option (Bool) := if (l0.length : Int) = (l1.length : Int) then (rf_Same.l0 k l0 l1 0) else (some false)
theorem rf_Same.mono_l : ∀ k, (∀ y0 y1 y2, LeO (rf_Same.l0 k y0 y1 y2) (rf_Same.l0 (k + 1) y0 y1 y2))
  | 0 => fun _ _ _ r h => by simp [rf_Same.l0] at h
  | k + 1 => by
    have ih0 := rf_Same.mono_l k
    intro y0 y1 y2
    unfold rf_Same.l0
    repeat' first
    | (with_reducible exact ih0 _ _ _)
    | (with_reducible exact LeO.refl _)
    | (with_reducible refine LeO.ite ?_ ?_)
theorem rf_Same.mono : ∀ a0 a1 k, LeO (rf_Same.f k a0 a1) (rf_Same.f (k + 1) a0 a1) := by
  intro a0 a1 k
  have ih0 := rf_Same.mono_l k
  unfold rf_Same.f
  repeat' first
      | (with_reducible exact ih0 _ _ _)
      | (with_reducible exact LeO.refl _)
      | (with_reducible refine LeO.ite ?_ ?_)
set_option maxHeartbeats 8000000 in
set_option maxRecDepth 100000 in
theorem rf_Same.calls (k : Nat) (A0 : Option Addr) (c0 : Nat) (l0 : List (S61)) (A1 : Option Addr) (c1 : Nat) (l1 : List (S61)) (r : Bool) (w : World) (hr0 : Kd.C k61 w A0 l0.length l0) (hc0 : l0.length ≤ c0) (hr1 : Kd.C k61 w A1 l1.length l1) (hc1 : l1.length ≤ c1) (h : rf_Same.f k l0 l1 = some r) :
    Calls Try.prog 19 #[.slice A0 l0.length c0, .slice A1 l1.length c1] w fun e w' => e = .returned (.bool r) ∧ Drawn0 w w' := by
  have hu61 := Try.underlying61
  have HR0 := ak hr0
  have HC0 := ak hc0
  clear hr0 hc0
  have HR1 := ak hr1
  have HC1 := ak hc1
  clear hr1 hc1
  have H : (if (l0.length : Int) = (l1.length : Int) then (rf_Same.l0 k l0 l1 0) else (some false)) = some r := h
  clear h
  by_cases c3 : (l0.length : Int) = (l1.length : Int)
  · rw [if_pos c3] at H
    have c3b0 : ((l0.length : Int) == (l1.length : Int)) = true := beq_iff_eq.mpr c3
    have c3b1 : ((l0.length : Int) != (l1.length : Int)) = false := bne_eq_false_iff_eq.mpr c3
    have c3b2 : (l0.length == l1.length) = true := by (simp at c3 ⊢; omega)
    clear c3
    have H' := ak H
    clear H
    go_enter Try.func19, Try.ntmps19
    go_wp2
    go_loopg [5] k (fun kq v5 w' => ∃ (x5_1 : Int), v5 = .int .i64 x5_1 ∧ Aside0 (rf_Same.l0 kq l0 l1 x5_1 = some r) ∧ Aside0 (kq ≤ k) ∧ Drawn0 w w')
    case atStart => exact ⟨(0), (by rfl), H', ⟨Nat.le_refl _⟩, by exact Drawn0.refl _⟩
    clear H'
    try clear c3b0
    try clear c3b1
    try clear c3b2
    obtain ⟨x5_1, rfl, HA, HK1, ⟨m1, rfl⟩⟩ := hrel
    cases gk with
    | zero => exact absurd HA.1 (by simp [rf_Same.l0])
    | succ k1 =>
      have H := HA.1
      clear HA
      simp only [rf_Same.l0] at H
      by_cases c4 : x5_1 < (l0.length : Int)
      · rw [if_pos c4] at H
        have c4b0 : decide (x5_1 < (l0.length : Int)) = true := decide_eq_true c4
        clear c4
        by_cases c5 : 0 ≤ x5_1
        · rw [if_pos c5] at H
          have c5b0 : decide (0 ≤ x5_1) = true := decide_eq_true c5
          clear c5
          by_cases c6 : x5_1 < (l1.length : Int)
          · rw [if_pos c6] at H
            have c6b0 : decide (x5_1 < (l1.length : Int)) = true := decide_eq_true c6
            clear c6
            by_cases c7 : (!(((rd_T61 l0 x5_1).f0) == ((rd_T61 l1 x5_1).f0)) || (!((((rd_T61 l0 x5_1).f1).toList) == (((rd_T61 l1 x5_1).f1).toList)) || (!(((rd_T61 l0 x5_1).f2) == ((rd_T61 l1 x5_1).f2)) || (!(((rd_T61 l0 x5_1).f3) == ((rd_T61 l1 x5_1).f3)) || (!(((rd_T61 l0 x5_1).f4) == ((rd_T61 l1 x5_1).f4)) || (!(((rd_T61 l0 x5_1).f5) == ((rd_T61 l1 x5_1).f5)) || (!(((rd_T61 l0 x5_1).f6) == ((rd_T61 l1 x5_1).f6))))))))) = true
            · rw [if_pos c7] at H
              have c7b0 : (!(((rd_T61 l0 x5_1).f0) == ((rd_T61 l1 x5_1).f0)) || (!((((rd_T61 l0 x5_1).f1).toList) == (((rd_T61 l1 x5_1).f1).toList)) || (!(((rd_T61 l0 x5_1).f2) == ((rd_T61 l1 x5_1).f2)) || (!(((rd_T61 l0 x5_1).f3) == ((rd_T61 l1 x5_1).f3)) || (!(((rd_T61 l0 x5_1).f4) == ((rd_T61 l1 x5_1).f4)) || (!(((rd_T61 l0 x5_1).f5) == ((rd_T61 l1 x5_1).f5)) || (!(((rd_T61 l0 x5_1).f6) == ((rd_T61 l1 x5_1).f6))))))))) = true := c7
              clear c7
              obtain rfl := Option.some.inj H
              have p534 : 0 ≤ (x5_1 : Int) := od_
              have q534 : x5_1 < (l0.length : Int) := od_
              obtain ⟨ad534, e534, hx534_0, hx534_1, hx534_2, hx534_3, hx534_4, hx534_5, hx534_6⟩ := at_T61 HR0.1 x5_1 p534 q534
              cases e534
              replace p534 := eq_true p534
              replace q534 := eq_true q534
              have p535 : 0 ≤ (x5_1 : Int) := od_
              have q535 : x5_1 < (l1.length : Int) := od_
              obtain ⟨ad535, e535, hx535_0, hx535_1, hx535_2, hx535_3, hx535_4, hx535_5, hx535_6⟩ := at_T61 HR1.1 x5_1 p535 q535
              cases e535
              replace p535 := eq_true p535
              replace q535 := eq_true q535
              go_wp2
              repeat (go_quiet (fail); try go_wp2)
              go_ret
              exact ⟨by rfl, by repeat (first | exact Drawn0.refl _ | apply Drawn0.step)⟩
            rw [if_neg c7] at H
            have c7b0 : (!(((rd_T61 l0 x5_1).f0) == ((rd_T61 l1 x5_1).f0)) || (!((((rd_T61 l0 x5_1).f1).toList) == (((rd_T61 l1 x5_1).f1).toList)) || (!(((rd_T61 l0 x5_1).f2) == ((rd_T61 l1 x5_1).f2)) || (!(((rd_T61 l0 x5_1).f3) == ((rd_T61 l1 x5_1).f3)) || (!(((rd_T61 l0 x5_1).f4) == ((rd_T61 l1 x5_1).f4)) || (!(((rd_T61 l0 x5_1).f5) == ((rd_T61 l1 x5_1).f5)) || (!(((rd_T61 l0 x5_1).f6) == ((rd_T61 l1 x5_1).f6))))))))) = false := by simpa using c7
            clear c7
            have H' := ak H
            clear H
            have p534 : 0 ≤ (x5_1 : Int) := od_
            have q534 : x5_1 < (l0.length : Int) := od_
            obtain ⟨ad534, e534, hx534_0, hx534_1, hx534_2, hx534_3, hx534_4, hx534_5, hx534_6⟩ := at_T61 HR0.1 x5_1 p534 q534
            cases e534
            replace p534 := eq_true p534
            replace q534 := eq_true q534
            have p535 : 0 ≤ (x5_1 : Int) := od_
            have q535 : x5_1 < (l1.length : Int) := od_
            obtain ⟨ad535, e535, hx535_0, hx535_1, hx535_2, hx535_3, hx535_4, hx535_5, hx535_6⟩ := at_T61 HR1.1 x5_1 p535 q535
            cases e535
            replace p535 := eq_true p535
            replace q535 := eq_true q535
            go_wp2
            repeat (go_quiet (fail); try go_wp2)
            go_roundg k1
            case measure => have := HK1.1; omega
            case rel => exact ⟨(wrap64 (x5_1 + 1)), (by rfl), H', ⟨by have := HK1.1; omega⟩, by repeat (first | exact Drawn0.refl _ | apply Drawn0.step)⟩
          rw [if_neg c6] at H
          exact absurd H (by simp)
        rw [if_neg c5] at H
        exact absurd H (by simp)
      rw [if_neg c4] at H
      have c4b0 : decide (x5_1 < (l0.length : Int)) = false := decide_eq_false c4
      clear c4
      obtain rfl := Option.some.inj H
      go_wp2
      go_ret
      exact ⟨by rfl, by repeat (first | exact Drawn0.refl _ | apply Drawn0.step)⟩
  rw [if_neg c3] at H
  have c3b0 : ((l0.length : Int) == (l1.length : Int)) = false := beq_eq_false_iff_ne.mpr c3
  have c3b1 : ((l0.length : Int) != (l1.length : Int)) = true := bne_iff_ne.mpr c3
  have c3b2 : (l0.length == l1.length) = false := by (simp at c3 ⊢; omega)
  obtain rfl := Option.some.inj H
  go_enter Try.func19, Try.ntmps19
  go_wp2
  go_ret
  exact ⟨by rfl, by exact Drawn0.refl _⟩

end Go.Proofs.Ytgacodhpniehiaa.XA
