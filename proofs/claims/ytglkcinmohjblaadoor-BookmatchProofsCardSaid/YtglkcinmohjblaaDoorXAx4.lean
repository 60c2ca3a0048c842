import Derived.Test.YtglkcinmohjblaaDoorXAx0
namespace Go.Proofs.YtglkcinmohjblaaDoor.XA
open Go.RowKit Opens YtglkcinmohjblaaDoorW.PrintWords YtglkcinmohjblaaDoorW.PrintLast YtglkcinmohjblaaDoorW.PrintMore
attribute [local go_sem] max2_int min2_int max_two min_two max_three min_three max_four min_four cell_some cell_same
set_option linter.unusedVariables false
set_option linter.unusedSimpArgs false

mutual
def rf_Few.j0 : Nat → List (S62) → Bool → Option (Bool)
  | 0, _, _ => none
  | k + 1, x0, x19 => if x19 = true then (some false) else (rf_Few.l0 k x0 0)
def rf_Few.l0 : Nat → List (S62) → Int → Option (Bool)
  | 0, _, _ => none
  | k + 1, x0, x5 => if x5 < (x0.length : Int) then (if 0 ≤ x5 then (if (((rd_T62 x0 x5).f5).length : Int) > 70 then (some false) else (if (((rd_T62 x0 x5).f6).length : Int) > 70 then (some false) else (rf_Few.l0 k x0 (wrap64 (x5 + 1))))) else (none)) else (some true)
end
def rf_Few.f (k : Nat) (l0 : List (S62)) (a1 : Int) : Option (Bool) := if (l0.length : Int) > a1 then (if (l0.length : Int) ≤ 64 then (rf_Few.j0 k l0 true) else (rf_Few.j0 k l0 (decide ((l0.length : Int) > 70)))) else (rf_Few.j0 k l0 (decide ((l0.length : Int) > 70)))
theorem rf_Few.mono_l : ∀ k, (∀ y0 y1, LeO (rf_Few.j0 k y0 y1) (rf_Few.j0 (k + 1) y0 y1)) ∧ (∀ y0 y1, LeO (rf_Few.l0 k y0 y1) (rf_Few.l0 (k + 1) y0 y1))
  | 0 => ⟨fun _ _ r h => by simp [rf_Few.j0] at h, fun _ _ r h => by simp [rf_Few.l0] at h⟩
  | k + 1 => by
    obtain ⟨ih0, ih1⟩ := rf_Few.mono_l k
    refine ⟨?_, ?_⟩
    intro y0 y1
    unfold rf_Few.j0
    repeat' first
    | (with_reducible exact ih1 _ _)
    | (with_reducible exact LeO.refl _)
    | (with_reducible refine LeO.ite ?_ ?_)
      
    intro y0 y1
    unfold rf_Few.l0
    repeat' first
    | (with_reducible exact ih1 _ _)
    | (with_reducible exact LeO.refl _)
    | (with_reducible refine LeO.ite ?_ ?_)
      
theorem rf_Few.mono : ∀ a0 a1 k, LeO (rf_Few.f k a0 a1) (rf_Few.f (k + 1) a0 a1) := by
  intro a0 a1 k
  obtain ⟨ih0, ih1⟩ := rf_Few.mono_l k
  unfold rf_Few.f
  repeat' first
      | (with_reducible exact ih0 _ _)
      | (with_reducible refine LeO.ite ?_ ?_)
      
set_option maxHeartbeats 8000000 in
set_option maxRecDepth 100000 in
theorem rf_Few.calls (k : Nat) (A0 : Option Addr) (c0 : Nat) (l0 : List (S62)) (a1 : Int) (r : Bool) (w : World) (hr0 : Kd.C k62 w A0 l0.length l0) (hc0 : l0.length ≤ c0) (h : rf_Few.f k l0 a1 = some r) :
    Calls Tryd.prog 11 #[.slice A0 l0.length c0, .int .i64 a1] w fun e w' => e = .returned (.bool r) ∧ Drawn0 w w' := by
  have HR0 := ak hr0
  have HC0 := ak hc0
  clear hr0 hc0
  have H : (if (l0.length : Int) > a1 then (if (l0.length : Int) ≤ 64 then (rf_Few.j0 k l0 true) else (rf_Few.j0 k l0 (decide ((l0.length : Int) > 70)))) else (rf_Few.j0 k l0 (decide ((l0.length : Int) > 70)))) = some r := h
  clear h
  have HC3 := ak H
  clear H
  go_enter Tryd.func11, Tryd.ntmps11
  go_upto_region 1 with (fail)
  go_cut [19] (fun v19 wc => ∃ (kq : Nat) (x19_2 : Bool), v19 = .bool x19_2 ∧ Aside0 (rf_Few.j0 kq l0 x19_2 = some r) ∧ Aside0 (kq ≤ k) ∧ Drawn0 w wc)
  case first =>
    have H := HC3.1
    clear HC3
    by_cases c4 : (l0.length : Int) > a1
    · rw [if_pos c4] at H
      have c4b0 : decide (a1 < (l0.length : Int)) = true := decide_eq_true c4
      clear c4
      by_cases c5 : (l0.length : Int) ≤ 64
      · rw [if_pos c5] at H
        have c5b0 : decide ((l0.length : Int) ≤ 64) = true := decide_eq_true c5
        have c5b1 : decide (l0.length ≤ 64) = true := decide_eq_true (by omega)
        clear c5
        have H' := ak H
        clear H
        go_wp2
        go_meet
        case rel => exact ⟨_, (true), (by rfl), H', ⟨by omega⟩, by exact Drawn0.refl _⟩
      rw [if_neg c5] at H
      have c5b0 : decide ((l0.length : Int) ≤ 64) = false := decide_eq_false c5
      have c5b1 : decide (l0.length ≤ 64) = false := decide_eq_false (by omega)
      clear c5
      have H' := ak H
      clear H
      go_wp2
      go_meet
      case rel => exact ⟨_, (decide ((l0.length : Int) > 70)), (by rfl), H', ⟨by omega⟩, by exact Drawn0.refl _⟩
    rw [if_neg c4] at H
    have c4b0 : decide (a1 < (l0.length : Int)) = false := decide_eq_false c4
    clear c4
    have H' := ak H
    clear H
    go_wp2
    go_meet
    case rel => exact ⟨_, (decide ((l0.length : Int) > 70)), (by rfl), H', ⟨by omega⟩, by exact Drawn0.refl _⟩
  clear HC3
  obtain ⟨kq, x19_2, rfl, HA, HJ2, ⟨mc2, rfl⟩⟩ := hcut
  cases kq with
  | zero => exact absurd HA.1 (by simp [rf_Few.j0])
  | succ kj2 =>
    have H := HA.1
    clear HA
    simp only [rf_Few.j0] at H
    by_cases c6 : x19_2 = true
    · subst c6
      have H1 : (some false) = some r := by rw [if_pos rfl] at H; exact H
      clear H
      have H := H1
      clear H1
      obtain rfl := Option.some.inj H
      go_wp2
      go_ret
      exact ⟨by rfl, by repeat (first | exact Drawn0.refl _ | apply Drawn0.step)⟩
    replace c6 := Bool.eq_false_iff.mpr c6
    subst c6
    have H1 : (rf_Few.l0 kj2 l0 0) = some r := by rw [if_neg (show ¬ (false = true) by decide)] at H; exact H
    clear H
    have H := H1
    clear H1
    have H' := ak H
    clear H
    go_wp2
    go_loopg [5] kj2 (fun kq v5 w' => ∃ (x5_2 : Int), v5 = .int .i64 x5_2 ∧ Aside0 (rf_Few.l0 kq l0 x5_2 = some r) ∧ Aside0 (kq ≤ kj2) ∧ Drawn0 w w')
    case atStart => exact ⟨(0), (by rfl), H', ⟨Nat.le_refl _⟩, by repeat (first | exact Drawn0.refl _ | apply Drawn0.step)⟩
    clear H'
    obtain ⟨x5_2, rfl, HA, HK2, ⟨m2, rfl⟩⟩ := hrel
    cases gk with
    | zero => exact absurd HA.1 (by simp [rf_Few.l0])
    | succ k2 =>
      have H := HA.1
      clear HA
      simp only [rf_Few.l0] at H
      by_cases c7 : x5_2 < (l0.length : Int)
      · rw [if_pos c7] at H
        have c7b0 : decide (x5_2 < (l0.length : Int)) = true := decide_eq_true c7
        clear c7
        by_cases c8 : 0 ≤ x5_2
        · rw [if_pos c8] at H
          have c8b0 : decide (0 ≤ x5_2) = true := decide_eq_true c8
          clear c8
          by_cases c9 : (((rd_T62 l0 x5_2).f5).length : Int) > 70
          · rw [if_pos c9] at H
            have c9b0 : decide (70 < (((rd_T62 l0 x5_2).f5).length : Int)) = true := decide_eq_true c9
            have c9b1 : decide (70 < ((rd_T62 l0 x5_2).f5).length) = true := decide_eq_true (by omega)
            clear c9
            obtain rfl := Option.some.inj H
            have p101 : 0 ≤ (x5_2 : Int) := od_
            have q101 : x5_2 < (l0.length : Int) := od_
            obtain ⟨ad101, A101_10, c101_10, A101_11, c101_11, e101, hx101_0, hx101_1, hx101_2, hx101_3, hx101_4, hx101_5, hx101_6, hx101_7, hx101_8, hx101_9, hx101_10, hx101_11, hl101_10, hi101_10, hl101_11, hi101_11⟩ := at_T62 HR0.1 x5_2 p101 q101
            cases e101
            have HR101_10 := ak hi101_10
            have HC101_10 := ak hl101_10
            clear hi101_10 hl101_10
            have HR101_11 := ak hi101_11
            have HC101_11 := ak hl101_11
            clear hi101_11 hl101_11
            replace p101 := eq_true p101
            replace q101 := eq_true q101
            go_wp2
            go_ret
            exact ⟨by rfl, by repeat (first | exact Drawn0.refl _ | apply Drawn0.step)⟩
          rw [if_neg c9] at H
          have c9b0 : decide (70 < (((rd_T62 l0 x5_2).f5).length : Int)) = false := decide_eq_false c9
          have c9b1 : decide (70 < ((rd_T62 l0 x5_2).f5).length) = false := decide_eq_false (by omega)
          clear c9
          by_cases c10 : (((rd_T62 l0 x5_2).f6).length : Int) > 70
          · rw [if_pos c10] at H
            have c10b0 : decide (70 < (((rd_T62 l0 x5_2).f6).length : Int)) = true := decide_eq_true c10
            have c10b1 : decide (70 < ((rd_T62 l0 x5_2).f6).length) = true := decide_eq_true (by omega)
            clear c10
            obtain rfl := Option.some.inj H
            have p101 : 0 ≤ (x5_2 : Int) := od_
            have q101 : x5_2 < (l0.length : Int) := od_
            obtain ⟨ad101, A101_10, c101_10, A101_11, c101_11, e101, hx101_0, hx101_1, hx101_2, hx101_3, hx101_4, hx101_5, hx101_6, hx101_7, hx101_8, hx101_9, hx101_10, hx101_11, hl101_10, hi101_10, hl101_11, hi101_11⟩ := at_T62 HR0.1 x5_2 p101 q101
            cases e101
            have HR101_10 := ak hi101_10
            have HC101_10 := ak hl101_10
            clear hi101_10 hl101_10
            have HR101_11 := ak hi101_11
            have HC101_11 := ak hl101_11
            clear hi101_11 hl101_11
            replace p101 := eq_true p101
            replace q101 := eq_true q101
            have p102 : 0 ≤ (x5_2 : Int) := od_
            have q102 : x5_2 < (l0.length : Int) := od_
            obtain ⟨ad102, A102_10, c102_10, A102_11, c102_11, e102, hx102_0, hx102_1, hx102_2, hx102_3, hx102_4, hx102_5, hx102_6, hx102_7, hx102_8, hx102_9, hx102_10, hx102_11, hl102_10, hi102_10, hl102_11, hi102_11⟩ := at_T62 HR0.1 x5_2 p102 q102
            obtain rfl : ad101 = ad102 := (by injection e102)
            have HR102_10 := ak hi102_10
            have HC102_10 := ak hl102_10
            clear hi102_10 hl102_10
            have HR102_11 := ak hi102_11
            have HC102_11 := ak hl102_11
            clear hi102_11 hl102_11
            replace p102 := eq_true p102
            replace q102 := eq_true q102
            have ea_ := Option.some.inj (hx101_10.symm.trans hx102_10)
            injection ea_ with ea_ en_ ec_
            subst ea_
            subst ec_
            clear en_
            have ea_ := Option.some.inj (hx101_11.symm.trans hx102_11)
            injection ea_ with ea_ en_ ec_
            subst ea_
            subst ec_
            clear en_
            go_wp2
            go_ret
            exact ⟨by rfl, by repeat (first | exact Drawn0.refl _ | apply Drawn0.step)⟩
          rw [if_neg c10] at H
          have c10b0 : decide (70 < (((rd_T62 l0 x5_2).f6).length : Int)) = false := decide_eq_false c10
          have c10b1 : decide (70 < ((rd_T62 l0 x5_2).f6).length) = false := decide_eq_false (by omega)
          clear c10
          have H' := ak H
          clear H
          have p101 : 0 ≤ (x5_2 : Int) := od_
          have q101 : x5_2 < (l0.length : Int) := od_
          obtain ⟨ad101, A101_10, c101_10, A101_11, c101_11, e101, hx101_0, hx101_1, hx101_2, hx101_3, hx101_4, hx101_5, hx101_6, hx101_7, hx101_8, hx101_9, hx101_10, hx101_11, hl101_10, hi101_10, hl101_11, hi101_11⟩ := at_T62 HR0.1 x5_2 p101 q101
          cases e101
          have HR101_10 := ak hi101_10
          have HC101_10 := ak hl101_10
          clear hi101_10 hl101_10
          have HR101_11 := ak hi101_11
          have HC101_11 := ak hl101_11
          clear hi101_11 hl101_11
          replace p101 := eq_true p101
          replace q101 := eq_true q101
          have p102 : 0 ≤ (x5_2 : Int) := od_
          have q102 : x5_2 < (l0.length : Int) := od_
          obtain ⟨ad102, A102_10, c102_10, A102_11, c102_11, e102, hx102_0, hx102_1, hx102_2, hx102_3, hx102_4, hx102_5, hx102_6, hx102_7, hx102_8, hx102_9, hx102_10, hx102_11, hl102_10, hi102_10, hl102_11, hi102_11⟩ := at_T62 HR0.1 x5_2 p102 q102
          obtain rfl : ad101 = ad102 := (by injection e102)
          have HR102_10 := ak hi102_10
          have HC102_10 := ak hl102_10
          clear hi102_10 hl102_10
          have HR102_11 := ak hi102_11
          have HC102_11 := ak hl102_11
          clear hi102_11 hl102_11
          replace p102 := eq_true p102
          replace q102 := eq_true q102
          have ea_ := Option.some.inj (hx101_10.symm.trans hx102_10)
          injection ea_ with ea_ en_ ec_
          subst ea_
          subst ec_
          clear en_
          have ea_ := Option.some.inj (hx101_11.symm.trans hx102_11)
          injection ea_ with ea_ en_ ec_
          subst ea_
          subst ec_
          clear en_
          go_wp2
          go_roundg k2
          case measure => have := HJ2.1; have := HK2.1; omega
          case rel => exact ⟨(wrap64 (x5_2 + 1)), (by rfl), H', ⟨by have := HJ2.1; have := HK2.1; omega⟩, by repeat (first | exact Drawn0.refl _ | apply Drawn0.step)⟩
        rw [if_neg c8] at H
        exact absurd H (by simp)
      rw [if_neg c7] at H
      have c7b0 : decide (x5_2 < (l0.length : Int)) = false := decide_eq_false c7
      clear c7
      obtain rfl := Option.some.inj H
      go_wp2
      go_ret
      exact ⟨by rfl, by repeat (first | exact Drawn0.refl _ | apply Drawn0.step)⟩

end Go.Proofs.YtglkcinmohjblaaDoor.XA
