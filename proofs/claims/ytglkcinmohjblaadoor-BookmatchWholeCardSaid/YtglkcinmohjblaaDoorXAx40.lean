import Derived.Test.YtglkcinmohjblaaDoorXAx0
namespace Go.Proofs.YtglkcinmohjblaaDoor.XA
open Go.RowKit Opens YtglkcinmohjblaaDoorW.PrintWords YtglkcinmohjblaaDoorW.PrintLast YtglkcinmohjblaaDoorW.PrintMore
attribute [local go_sem] max2_int min2_int max_two min_two max_three min_three max_four min_four cell_some cell_same
set_option linter.unusedVariables false
set_option linter.unusedSimpArgs false

mutual
def rf_Row.l0 : Nat → List (S62) → List (S68) → Int → Option (Bool)
  | 0, _, _, _ => none
  | k + 1, x0, x1, x5 => if x5 < (x1.length : Int) then (if 0 ≤ x5 then (if ((rd_T68 x1 x5).f0) < 0 then (rf_Row.j1 k x0 x1 x5 true) else (rf_Row.j1 k x0 x1 x5 (decide (((rd_T68 x1 x5).f0) ≥ (x0.length : Int))))) else (none)) else (some true)
def rf_Row.j1 : Nat → List (S62) → List (S68) → Int → Bool → Option (Bool)
  | 0, _, _, _, _ => none
  | k + 1, x0, x1, x5, x28 => if x28 = true then (some false) else (rf_Row.l1 k x0 x1 x5 0)
def rf_Row.l1 : Nat → List (S62) → List (S68) → Int → Int → Option (Bool)
  | 0, _, _, _, _ => none
  | k + 1, x0, x1, x5, x6 => if x6 < x5 then (if 0 ≤ x6 then (if x6 < (x1.length : Int) then (if 0 ≤ x5 then (if x5 < (x1.length : Int) then (if ((rd_T68 x1 x6).f0) = ((rd_T68 x1 x5).f0) then (some false) else (rf_Row.l1 k x0 x1 x5 (wrap64 (x6 + 1)))) else (none)) else (none)) else (none)) else (none)) else (rf_Row.l0 k x0 x1 (wrap64 (x5 + 1)))
end
def rf_Row.f (k : Nat) (l0 : List (S62)) (l1 : List (S68)) : Option (Bool) := rf_Row.l0 k l0 l1 0
theorem rf_Row.mono_l : ∀ k, (∀ y0 y1 y2, LeO (rf_Row.l0 k y0 y1 y2) (rf_Row.l0 (k + 1) y0 y1 y2)) ∧ (∀ y0 y1 y2 y3, LeO (rf_Row.j1 k y0 y1 y2 y3) (rf_Row.j1 (k + 1) y0 y1 y2 y3)) ∧ (∀ y0 y1 y2 y3, LeO (rf_Row.l1 k y0 y1 y2 y3) (rf_Row.l1 (k + 1) y0 y1 y2 y3))
  | 0 => ⟨fun _ _ _ r h => by simp [rf_Row.l0] at h, fun _ _ _ _ r h => by simp [rf_Row.j1] at h, fun _ _ _ _ r h => by simp [rf_Row.l1] at h⟩
  | k + 1 => by
    obtain ⟨ih0, ih1, ih2⟩ := rf_Row.mono_l k
    refine ⟨?_, ?_, ?_⟩
    intro y0 y1 y2
    unfold rf_Row.l0
    repeat' first
    | (with_reducible exact ih1 _ _ _ _)
    | (with_reducible exact LeO.refl _)
    | (with_reducible refine LeO.ite ?_ ?_)
      
    intro y0 y1 y2 y3
    unfold rf_Row.j1
    repeat' first
    | (with_reducible exact ih2 _ _ _ _)
    | (with_reducible exact LeO.refl _)
    | (with_reducible refine LeO.ite ?_ ?_)
      
    intro y0 y1 y2 y3
    unfold rf_Row.l1
    repeat' first
    | (with_reducible exact ih0 _ _ _)
    | (with_reducible exact ih2 _ _ _ _)
    | (with_reducible exact LeO.refl _)
    | (with_reducible refine LeO.ite ?_ ?_)
      
theorem rf_Row.mono : ∀ a0 a1 k, LeO (rf_Row.f k a0 a1) (rf_Row.f (k + 1) a0 a1) := by
  intro a0 a1 k
  obtain ⟨ih0, ih1, ih2⟩ := rf_Row.mono_l k
  unfold rf_Row.f
  repeat' (with_reducible exact ih0 _ _ _)
set_option maxHeartbeats 8000000 in
set_option maxRecDepth 100000 in
theorem rf_Row.calls (k : Nat) (A0 : Option Addr) (c0 : Nat) (l0 : List (S62)) (A1 : Option Addr) (c1 : Nat) (l1 : List (S68)) (r : Bool) (w : World) (hr0 : Kd.C k62 w A0 l0.length l0) (hc0 : l0.length ≤ c0) (hr1 : Kd.C k68 w A1 l1.length l1) (hc1 : l1.length ≤ c1) (h : rf_Row.f k l0 l1 = some r) :
    Calls Tryd.prog 32 #[.slice A0 l0.length c0, .slice A1 l1.length c1] w fun e w' => e = .returned (.bool r) ∧ Drawn0 w w' := by
  have HR0 := ak hr0
  have HC0 := ak hc0
  clear hr0 hc0
  have HR1 := ak hr1
  have HC1 := ak hc1
  clear hr1 hc1
  have H : (rf_Row.l0 k l0 l1 0) = some r := h
  clear h
  have H' := ak H
  clear H
  go_enter Tryd.func32, Tryd.ntmps32
  go_wp2
  go_loopg [5] k (fun kq v5 w' => ∃ (x5_1 : Int), v5 = .int .i64 x5_1 ∧ Aside0 (rf_Row.l0 kq l0 l1 x5_1 = some r) ∧ Aside0 (kq ≤ k) ∧ Drawn0 w w')
  case atStart => exact ⟨(0), (by rfl), H', ⟨Nat.le_refl _⟩, by exact Drawn0.refl _⟩
  clear H'
  obtain ⟨x5_1, rfl, HA, HK1, ⟨m1, rfl⟩⟩ := hrel
  cases gk with
  | zero => exact absurd HA.1 (by simp [rf_Row.l0])
  | succ k1 =>
    have H := HA.1
    clear HA
    simp only [rf_Row.l0] at H
    by_cases c3 : x5_1 < (l1.length : Int)
    · rw [if_pos c3] at H
      have c3b0 : decide (x5_1 < (l1.length : Int)) = true := decide_eq_true c3
      clear c3
      have HC4 := ak H
      clear H
      go_upto_region 4 with (fail)
      go_cut [28] (fun v28 wc => ∃ (kq : Nat) (x28_3 : Bool), v28 = .bool x28_3 ∧ Aside0 (rf_Row.j1 kq l0 l1 x5_1 x28_3 = some r) ∧ Aside0 (kq ≤ k1) ∧ Drawn0 w wc)
      case first =>
        have H := HC4.1
        clear HC4
        by_cases c5 : 0 ≤ x5_1
        · rw [if_pos c5] at H
          have c5b0 : decide (0 ≤ x5_1) = true := decide_eq_true c5
          clear c5
          by_cases c6 : ((rd_T68 l1 x5_1).f0) < 0
          · rw [if_pos c6] at H
            have c6b0 : decide (((rd_T68 l1 x5_1).f0) < 0) = true := decide_eq_true c6
            clear c6
            have H' := ak H
            clear H
            have p400 : 0 ≤ (x5_1 : Int) := od_
            have q400 : x5_1 < (l1.length : Int) := od_
            obtain ⟨ad400, e400, hx400_0, hx400_1⟩ := at_T68 HR1.1 x5_1 p400 q400
            cases e400
            replace p400 := eq_true p400
            replace q400 := eq_true q400
            go_wp2
            go_meet
            case rel => exact ⟨_, (true), (by rfl), H', ⟨by have := HK1.1; omega⟩, by repeat (first | exact Drawn0.refl _ | apply Drawn0.step)⟩
          rw [if_neg c6] at H
          have c6b0 : decide (((rd_T68 l1 x5_1).f0) < 0) = false := decide_eq_false c6
          clear c6
          have H' := ak H
          clear H
          have p400 : 0 ≤ (x5_1 : Int) := od_
          have q400 : x5_1 < (l1.length : Int) := od_
          obtain ⟨ad400, e400, hx400_0, hx400_1⟩ := at_T68 HR1.1 x5_1 p400 q400
          cases e400
          replace p400 := eq_true p400
          replace q400 := eq_true q400
          have p401 : 0 ≤ (x5_1 : Int) := od_
          have q401 : x5_1 < (l1.length : Int) := od_
          obtain ⟨ad401, e401, hx401_0, hx401_1⟩ := at_T68 HR1.1 x5_1 p401 q401
          obtain rfl : ad400 = ad401 := (by injection e401)
          replace p401 := eq_true p401
          replace q401 := eq_true q401
          go_wp2
          go_meet
          case rel => exact ⟨_, (decide (((rd_T68 l1 x5_1).f0) ≥ (l0.length : Int))), (by rfl), H', ⟨by have := HK1.1; omega⟩, by repeat (first | exact Drawn0.refl _ | apply Drawn0.step)⟩
        rw [if_neg c5] at H
        exact absurd H (by simp)
      clear HC4
      try clear c3b0
      obtain ⟨kq, x28_3, rfl, HA, HJ3, ⟨mc3, rfl⟩⟩ := hcut
      cases kq with
      | zero => exact absurd HA.1 (by simp [rf_Row.j1])
      | succ kj3 =>
        have H := HA.1
        clear HA
        simp only [rf_Row.j1] at H
        by_cases c7 : x28_3 = true
        · subst c7
          have H1 : (some false) = some r := by rw [if_pos rfl] at H; exact H
          clear H
          have H := H1
          clear H1
          obtain rfl := Option.some.inj H
          go_wp2
          go_ret
          exact ⟨by rfl, by repeat (first | exact Drawn0.refl _ | apply Drawn0.step)⟩
        replace c7 := Bool.eq_false_iff.mpr c7
        subst c7
        have H1 : (rf_Row.l1 kj3 l0 l1 x5_1 0) = some r := by rw [if_neg (show ¬ (false = true) by decide)] at H; exact H
        clear H
        have H := H1
        clear H1
        have H' := ak H
        clear H
        go_wp2
        go_loopg [6] kj3 (fun kq v6 w' => ∃ (x6_3 : Int), v6 = .int .i64 x6_3 ∧ Aside0 (rf_Row.l1 kq l0 l1 x5_1 x6_3 = some r) ∧ Aside0 (kq ≤ kj3) ∧ Drawn0 w w')
        case atStart => exact ⟨(0), (by rfl), H', ⟨Nat.le_refl _⟩, by repeat (first | exact Drawn0.refl _ | apply Drawn0.step)⟩
        clear H'
        obtain ⟨x6_3, rfl, HA, HK3, ⟨m3, rfl⟩⟩ := hrel
        cases gk with
        | zero => exact absurd HA.1 (by simp [rf_Row.l1])
        | succ k3 =>
          have H := HA.1
          clear HA
          simp only [rf_Row.l1] at H
          by_cases c8 : x6_3 < x5_1
          · rw [if_pos c8] at H
            have c8b0 : decide (x6_3 < x5_1) = true := decide_eq_true c8
            clear c8
            by_cases c9 : 0 ≤ x6_3
            · rw [if_pos c9] at H
              have c9b0 : decide (0 ≤ x6_3) = true := decide_eq_true c9
              clear c9
              by_cases c10 : x6_3 < (l1.length : Int)
              · rw [if_pos c10] at H
                have c10b0 : decide (x6_3 < (l1.length : Int)) = true := decide_eq_true c10
                clear c10
                by_cases c11 : 0 ≤ x5_1
                · rw [if_pos c11] at H
                  have c11b0 : decide (0 ≤ x5_1) = true := decide_eq_true c11
                  clear c11
                  by_cases c12 : x5_1 < (l1.length : Int)
                  · rw [if_pos c12] at H
                    have c12b0 : decide (x5_1 < (l1.length : Int)) = true := decide_eq_true c12
                    clear c12
                    by_cases c13 : ((rd_T68 l1 x6_3).f0) = ((rd_T68 l1 x5_1).f0)
                    · rw [if_pos c13] at H
                      have c13b0 : (((rd_T68 l1 x6_3).f0) == ((rd_T68 l1 x5_1).f0)) = true := beq_iff_eq.mpr c13
                      have c13b1 : (((rd_T68 l1 x6_3).f0) != ((rd_T68 l1 x5_1).f0)) = false := bne_eq_false_iff_eq.mpr c13
                      clear c13
                      obtain rfl := Option.some.inj H
                      have p402 : 0 ≤ (x6_3 : Int) := od_
                      have q402 : x6_3 < (l1.length : Int) := od_
                      obtain ⟨ad402, e402, hx402_0, hx402_1⟩ := at_T68 HR1.1 x6_3 p402 q402
                      cases e402
                      replace p402 := eq_true p402
                      replace q402 := eq_true q402
                      have p403 : 0 ≤ (x5_1 : Int) := od_
                      have q403 : x5_1 < (l1.length : Int) := od_
                      obtain ⟨ad403, e403, hx403_0, hx403_1⟩ := at_T68 HR1.1 x5_1 p403 q403
                      obtain rfl : ad402 = ad403 := (by injection e403)
                      replace p403 := eq_true p403
                      replace q403 := eq_true q403
                      go_wp2
                      repeat (go_quiet (fail); try go_wp2)
                      go_ret
                      exact ⟨by rfl, by repeat (first | exact Drawn0.refl _ | apply Drawn0.step)⟩
                    rw [if_neg c13] at H
                    have c13b0 : (((rd_T68 l1 x6_3).f0) == ((rd_T68 l1 x5_1).f0)) = false := beq_eq_false_iff_ne.mpr c13
                    have c13b1 : (((rd_T68 l1 x6_3).f0) != ((rd_T68 l1 x5_1).f0)) = true := bne_iff_ne.mpr c13
                    have H' := ak H
                    clear H
                    have p402 : 0 ≤ (x6_3 : Int) := od_
                    have q402 : x6_3 < (l1.length : Int) := od_
                    obtain ⟨ad402, e402, hx402_0, hx402_1⟩ := at_T68 HR1.1 x6_3 p402 q402
                    cases e402
                    replace p402 := eq_true p402
                    replace q402 := eq_true q402
                    have p403 : 0 ≤ (x5_1 : Int) := od_
                    have q403 : x5_1 < (l1.length : Int) := od_
                    obtain ⟨ad403, e403, hx403_0, hx403_1⟩ := at_T68 HR1.1 x5_1 p403 q403
                    obtain rfl : ad402 = ad403 := (by injection e403)
                    replace p403 := eq_true p403
                    replace q403 := eq_true q403
                    go_wp2
                    repeat (go_quiet (fail); try go_wp2)
                    go_roundg k3
                    case measure => have := HK1.1; have := HJ3.1; have := HK3.1; omega
                    case rel => exact ⟨(wrap64 (x6_3 + 1)), (by rfl), H', ⟨by have := HK1.1; have := HJ3.1; have := HK3.1; omega⟩, by repeat (first | exact Drawn0.refl _ | apply Drawn0.step)⟩
                  rw [if_neg c12] at H
                  exact absurd H (by simp)
                rw [if_neg c11] at H
                exact absurd H (by simp)
              rw [if_neg c10] at H
              exact absurd H (by simp)
            rw [if_neg c9] at H
            exact absurd H (by simp)
          rw [if_neg c8] at H
          have c8b0 : decide (x6_3 < x5_1) = false := decide_eq_false c8
          clear c8
          have H' := ak H
          clear H
          go_wp2
          go_roundg k3
          case measure => have := HK1.1; have := HJ3.1; have := HK3.1; omega
          case rel => exact ⟨(wrap64 (x5_1 + 1)), (by rfl), H', ⟨by have := HK1.1; have := HJ3.1; have := HK3.1; omega⟩, by repeat (first | exact Drawn0.refl _ | apply Drawn0.step)⟩
    rw [if_neg c3] at H
    have c3b0 : decide (x5_1 < (l1.length : Int)) = false := decide_eq_false c3
    clear c3
    obtain rfl := Option.some.inj H
    go_wp2
    go_ret
    exact ⟨by rfl, by repeat (first | exact Drawn0.refl _ | apply Drawn0.step)⟩

end Go.Proofs.YtglkcinmohjblaaDoor.XA
