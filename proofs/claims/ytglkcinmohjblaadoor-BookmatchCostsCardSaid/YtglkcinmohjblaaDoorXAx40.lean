import Derived.Test.YtglkcinmohjblaaDoorXAx0
namespace Go.Proofs.YtglkcinmohjblaaDoor.XA
open Go.RowKit Opens YtglkcinmohjblaaDoorW.PrintWords YtglkcinmohjblaaDoorW.PrintLast YtglkcinmohjblaaDoorW.PrintMore
attribute [local go_sem] max2_int min2_int max_two min_two max_three min_three max_four min_four cell_some cell_same
set_option linter.unusedVariables false
set_option linter.unusedSimpArgs false

mutual
def rf_Row.l0 : Nat → List (S62) → List (S68) → Int → Option (Bool)
  | 0, _, _, _ => none
  | k + 1, x0, x1, x5 => if x5 < (x1.length : Int) then (if 0 ≤ x5 then (if ((rd_T68 x1 x5).f0) < 0 then (rf_Row.j1 k x0 x1 x5 true) else (rf_Row.j1 k x0 x1 x5 (decide (((rd_T68 x1 x5).f0) ≥ (x0.length : Int))))) else (none)) else (some true)
def rf_Row.j1 : Nat → List (S62) → List (S68) → Int → Bool → Option (Bool)
  | 0, _, _, _, _ => none
  | k + 1, x0, x1, x5, x28 => if x28 = true then (some false) else (rf_Row.l1 k x0 x1 x5 0)
def rf_Row.l1 : Nat → List (S62) → List (S68) → Int → Int → Option (Bool)
  | 0, _, _, _, _ => none
  | k + 1, x0, x1, x5, x6 => if x6 < x5 then (if 0 ≤ x6 then (if x6 < (x1.length : Int) then (if 0 ≤ x5 then (if x5 < (x1.length : Int) then (if ((rd_T68 x1 x6).f0) = ((rd_T68 x1 x5).f0) then (some false) else (rf_Row.l1 k x0 x1 x5 (wrap64 (x6 + 1)))) else (none)) else (none)) else (none)) else (none)) else (rf_Row.l0 k x0 x1 (wrap64 (x5 + 1)))
end
def rf_Row.f (k : Nat) (l0 : List (S62)) (l1 : List (S68)) : Option (Bool) := rf_Row.l0 k l0 l1 0
theorem rf_Row.mono_l : ∀ k, (∀ y0 y1 y2, LeO (rf_Row.l0 k y0 y1 y2) (rf_Row.l0 (k + 1) y0 y1 y2)) ∧ (∀ y0 y1 y2 y3, LeO (rf_Row.j1 k y0 y1 y2 y3) (rf_Row.j1 (k + 1) y0 y1 y2 y3)) ∧ (∀ y0 y1 y2 y3, LeO (rf_Row.l1 k y0 y1 y2 y3) (rf_Row.l1 (k + 1) y0 y1 y2 y3))
  | 0 => ⟨fun _ _ _ r h => by simp [rf_Row.l0] at h, fun _ _ _ _ r h => by simp [rf_Row.j1] at h, fun _ _ _ _ r h => by simp [rf_Row.l1] at h⟩
  | k + 1 => by
    obtain ⟨ih0, ih1, ih2⟩ := rf_Row.mono_l k
    refine ⟨?_, ?_, ?_⟩
    · intro y0 y1 y2
      unfold rf_Row.l0
      repeat' first
      | (with_reducible exact ih0 _ _ _)
      | (with_reducible exact ih1 _ _ _ _)
      | (with_reducible exact ih2 _ _ _ _)
      | (with_reducible exact LeO.refl _)
      | (with_reducible exact LeO.none _)
      | (with_reducible refine LeO.ite ?_ ?_)
      | (with_reducible refine LeO.bind ?_ (fun _ => ?_))
      | exact ih0 _ _ _
      | exact ih1 _ _ _ _
      | exact ih2 _ _ _ _
      | exact LeO.none _
      | refine LeO.ite ?_ ?_
      | refine LeO.bind ?_ (fun _ => ?_)
    · intro y0 y1 y2 y3
      unfold rf_Row.j1
      repeat' first
      | (with_reducible exact ih0 _ _ _)
      | (with_reducible exact ih1 _ _ _ _)
      | (with_reducible exact ih2 _ _ _ _)
      | (with_reducible exact LeO.refl _)
      | (with_reducible exact LeO.none _)
      | (with_reducible refine LeO.ite ?_ ?_)
      | (with_reducible refine LeO.bind ?_ (fun _ => ?_))
      | exact ih0 _ _ _
      | exact ih1 _ _ _ _
      | exact ih2 _ _ _ _
      | exact LeO.none _
      | refine LeO.ite ?_ ?_
      | refine LeO.bind ?_ (fun _ => ?_)
    intro y0 y1 y2 y3
    unfold rf_Row.l1
    repeat' first
    | (with_reducible exact ih0 _ _ _)
    | (with_reducible exact ih1 _ _ _ _)
    | (with_reducible exact ih2 _ _ _ _)
    | (with_reducible exact LeO.refl _)
    | (with_reducible exact LeO.none _)
    | (with_reducible refine LeO.ite ?_ ?_)
    | (with_reducible refine LeO.bind ?_ (fun _ => ?_))
    | exact ih0 _ _ _
    | exact ih1 _ _ _ _
    | exact ih2 _ _ _ _
    | exact LeO.none _
    | refine LeO.ite ?_ ?_
    | refine LeO.bind ?_ (fun _ => ?_)
theorem rf_Row.mono : ∀ a0 a1 k, LeO (rf_Row.f k a0 a1) (rf_Row.f (k + 1) a0 a1) := by
  intro a0 a1 k
  obtain ⟨ih0, ih1, ih2⟩ := rf_Row.mono_l k
  unfold rf_Row.f
  repeat' first
      | (with_reducible exact ih0 _ _ _)
      | (with_reducible exact ih1 _ _ _ _)
      | (with_reducible exact ih2 _ _ _ _)
      | (with_reducible exact LeO.refl _)
      | (with_reducible exact LeO.none _)
      | (with_reducible refine LeO.ite ?_ ?_)
      | (with_reducible refine LeO.bind ?_ (fun _ => ?_))
      | exact ih0 _ _ _
      | exact ih1 _ _ _ _
      | exact ih2 _ _ _ _
      | exact LeO.none _
      | refine LeO.ite ?_ ?_
      | refine LeO.bind ?_ (fun _ => ?_)
set_option maxHeartbeats 8000000 in
set_option maxRecDepth 100000 in
theorem rf_Row.calls (k : Nat) (A0 : Option Addr) (c0 : Nat) (l0 : List (S62)) (A1 : Option Addr) (c1 : Nat) (l1 : List (S68)) (r : Bool) (w : World) (hr0 : Kd.C k62 w A0 l0.length l0) (hc0 : l0.length ≤ c0) (hr1 : Kd.C k68 w A1 l1.length l1) (hc1 : l1.length ≤ c1) (h : rf_Row.f k l0 l1 = some r) :
    Calls Tryd.prog 32 #[.slice A0 l0.length c0, .slice A1 l1.length c1] w fun e w' => e = .returned (.bool r) ∧ Drawn0 w w' := by
  have HR0 := ak hr0
  have HC0 := ak hc0
  clear hr0 hc0
  have HR1 := ak hr1
  have HC1 := ak hc1
  clear hr1 hc1
  have H : (rf_Row.l0 k l0 l1 0) = some r := h
  clear h
  have H' := ak H
  clear H
  go_enter Tryd.func32, Tryd.ntmps32
  go_wp2
  repeat (go_quiet (fail); try go_wp2)
  go_loopg [5] k (fun kq v5 w' => ∃ (x5_1 : Int), v5 = .int .i64 x5_1 ∧ Aside0 (rf_Row.l0 kq l0 l1 x5_1 = some r) ∧ Aside0 (kq ≤ k) ∧ Drawn0 w w')
  case atStart => exact ⟨(0), (by first | rfl | (simp; done) | (simp [*]; done)), H', ⟨Nat.le_refl _⟩, by repeat (first | exact Drawn0.refl _ | apply Drawn0.step)⟩
  clear H'
  try clear c1
  try clear p2
  obtain ⟨x5_1, rfl, HA, HK1, ⟨m1, rfl⟩⟩ := hrel
  cases gk with
  | zero => exact absurd HA.1 (by simp [rf_Row.l0])
  | succ k1 =>
    have H := HA.1
    clear HA
    simp only [rf_Row.l0] at H
    by_cases c3 : x5_1 < (l1.length : Int)
    · rw [if_pos c3] at H
      have c3b0 : decide (x5_1 < (l1.length : Int)) = true := decide_eq_true c3
      clear c3
      have HC4 := ak H
      clear H
      go_upto_region 4 with (fail)
      repeat (go_quiet (fail); go_upto_region 4 with (fail))
      go_cut [28] (fun v28 wc => ∃ (kq : Nat) (x28_3 : Bool), v28 = .bool x28_3 ∧ Aside0 (rf_Row.j1 kq l0 l1 x5_1 x28_3 = some r) ∧ Aside0 (kq ≤ k1) ∧ Drawn0 w wc)
      case first =>
        have H := HC4.1
        clear HC4
        by_cases c5 : 0 ≤ x5_1
        · rw [if_pos c5] at H
          have c5b0 : decide (0 ≤ x5_1) = true := decide_eq_true c5
          clear c5
          (first | rw [c5b0] | (simp only [i64_w, i32_w]; rw [c5b0]) | skip)
          by_cases c6 : ((rd_T68 l1 x5_1).f0) < 0
          · rw [if_pos c6] at H
            have c6b0 : decide (((rd_T68 l1 x5_1).f0) < 0) = true := decide_eq_true c6
            clear c6
            have H' := ak H
            clear H
            have p421 : 0 ≤ (x5_1 : Int) := of_decide_eq_true (by first | (with_reducible assumption) | assumption)
            have q421 : x5_1 < (l1.length : Int) := of_decide_eq_true (by first | (with_reducible assumption) | assumption)
            obtain ⟨ad421, e421, hx421_0, hx421_1⟩ := at_T68 HR1.1 x5_1 p421 q421
            cases e421
            replace p421 := eq_true p421
            replace q421 := eq_true q421
            go_wp2
            repeat (go_quiet (fail); try go_wp2)
            go_meet
            case rel => exact ⟨_, (true), (by first | rfl | (simp; done) | (simp [*]; done)), H', ⟨by have := HK1.1; first | omega | exact Nat.le_refl _⟩, by repeat (first | exact Drawn0.refl _ | apply Drawn0.step)⟩
          rw [if_neg c6] at H
          have c6b0 : decide (((rd_T68 l1 x5_1).f0) < 0) = false := decide_eq_false c6
          clear c6
          have H' := ak H
          clear H
          have p421 : 0 ≤ (x5_1 : Int) := of_decide_eq_true (by first | (with_reducible assumption) | assumption)
          have q421 : x5_1 < (l1.length : Int) := of_decide_eq_true (by first | (with_reducible assumption) | assumption)
          obtain ⟨ad421, e421, hx421_0, hx421_1⟩ := at_T68 HR1.1 x5_1 p421 q421
          cases e421
          replace p421 := eq_true p421
          replace q421 := eq_true q421
          have p422 : 0 ≤ (x5_1 : Int) := of_decide_eq_true (by first | (with_reducible assumption) | assumption)
          have q422 : x5_1 < (l1.length : Int) := of_decide_eq_true (by first | (with_reducible assumption) | assumption)
          obtain ⟨ad422, e422, hx422_0, hx422_1⟩ := at_T68 HR1.1 x5_1 p422 q422
          obtain rfl : ad421 = ad422 := (by injection e422)
          replace p422 := eq_true p422
          replace q422 := eq_true q422
          go_wp2
          repeat (go_quiet (fail); try go_wp2)
          go_meet
          case rel => exact ⟨_, (decide (((rd_T68 l1 x5_1).f0) ≥ (l0.length : Int))), (by first | rfl | (simp; done) | (simp [*]; done)), H', ⟨by have := HK1.1; first | omega | exact Nat.le_refl _⟩, by repeat (first | exact Drawn0.refl _ | apply Drawn0.step)⟩
        rw [if_neg c5] at H
        exact absurd H (by simp)
      clear HC4
      try clear c1
      try clear p2
      try clear c3
      try clear c3b0
      try clear p4
      try clear q4
      try clear hx4
      try clear c5
      try clear c5b0
      try clear c6
      try clear c6b0
      try clear hx421_0
      try clear hx421_1
      try clear hx422_0
      try clear hx422_1
      try clear p2
      try clear p421
      try clear p422
      try clear q421
      try clear q422
      obtain ⟨kq, x28_3, rfl, HA, HJ3, ⟨mc3, rfl⟩⟩ := hcut
      cases kq with
      | zero => exact absurd HA.1 (by simp [rf_Row.j1])
      | succ kj3 =>
        have H := HA.1
        clear HA
        simp only [rf_Row.j1] at H
        by_cases c7 : x28_3 = true
        · subst c7
          have H1 : (some false) = some r := by rw [if_pos rfl] at H; exact H
          clear H
          have H := H1
          clear H1
          obtain rfl := Option.some.inj H
          go_wp2
          repeat (go_quiet (fail); try go_wp2)
          go_ret
          exact ⟨by first | rfl | (simp; done) | (simp [*]; done), by repeat (first | exact Drawn0.refl _ | apply Drawn0.step)⟩
        replace c7 := Bool.eq_false_iff.mpr c7
        subst c7
        have H1 : (rf_Row.l1 kj3 l0 l1 x5_1 0) = some r := by rw [if_neg (show ¬ (false = true) by decide)] at H; exact H
        clear H
        have H := H1
        clear H1
        have H' := ak H
        clear H
        go_wp2
        repeat (go_quiet (fail); try go_wp2)
        go_loopg [6] kj3 (fun kq v6 w' => ∃ (x6_3 : Int), v6 = .int .i64 x6_3 ∧ Aside0 (rf_Row.l1 kq l0 l1 x5_1 x6_3 = some r) ∧ Aside0 (kq ≤ kj3) ∧ Drawn0 w w')
        case atStart => exact ⟨(0), (by first | rfl | (simp; done) | (simp [*]; done)), H', ⟨Nat.le_refl _⟩, by repeat (first | exact Drawn0.refl _ | apply Drawn0.step)⟩
        clear H'
        try clear c1
        try clear p2
        try clear c3
        try clear c3b0
        try clear p4
        try clear q4
        try clear hx4
        try clear c5
        try clear c5b0
        try clear c6
        try clear c6b0
        try clear c7
        try clear hx421_0
        try clear hx421_1
        try clear hx422_0
        try clear hx422_1
        try clear p2
        try clear p4
        try clear p421
        try clear p422
        try clear q4
        try clear q421
        try clear q422
        obtain ⟨x6_3, rfl, HA, HK3, ⟨m3, rfl⟩⟩ := hrel
        cases gk with
        | zero => exact absurd HA.1 (by simp [rf_Row.l1])
        | succ k3 =>
          have H := HA.1
          clear HA
          simp only [rf_Row.l1] at H
          by_cases c8 : x6_3 < x5_1
          · rw [if_pos c8] at H
            have c8b0 : decide (x6_3 < x5_1) = true := decide_eq_true c8
            clear c8
            by_cases c9 : 0 ≤ x6_3
            · rw [if_pos c9] at H
              have c9b0 : decide (0 ≤ x6_3) = true := decide_eq_true c9
              clear c9
              by_cases c10 : x6_3 < (l1.length : Int)
              · rw [if_pos c10] at H
                have c10b0 : decide (x6_3 < (l1.length : Int)) = true := decide_eq_true c10
                clear c10
                by_cases c11 : 0 ≤ x5_1
                · rw [if_pos c11] at H
                  have c11b0 : decide (0 ≤ x5_1) = true := decide_eq_true c11
                  clear c11
                  by_cases c12 : x5_1 < (l1.length : Int)
                  · rw [if_pos c12] at H
                    have c12b0 : decide (x5_1 < (l1.length : Int)) = true := decide_eq_true c12
                    clear c12
                    by_cases c13 : ((rd_T68 l1 x6_3).f0) = ((rd_T68 l1 x5_1).f0)
                    · rw [if_pos c13] at H
                      have c13b0 : (((rd_T68 l1 x6_3).f0) == ((rd_T68 l1 x5_1).f0)) = true := beq_iff_eq.mpr c13
                      have c13b1 : (((rd_T68 l1 x6_3).f0) != ((rd_T68 l1 x5_1).f0)) = false := bne_eq_false_iff_eq.mpr c13
                      clear c13
                      obtain rfl := Option.some.inj H
                      have p423 : 0 ≤ (x6_3 : Int) := of_decide_eq_true (by first | (with_reducible assumption) | assumption)
                      have q423 : x6_3 < (l1.length : Int) := of_decide_eq_true (by first | (with_reducible assumption) | assumption)
                      obtain ⟨ad423, e423, hx423_0, hx423_1⟩ := at_T68 HR1.1 x6_3 p423 q423
                      cases e423
                      replace p423 := eq_true p423
                      replace q423 := eq_true q423
                      have p424 : 0 ≤ (x5_1 : Int) := of_decide_eq_true (by first | (with_reducible assumption) | assumption)
                      have q424 : x5_1 < (l1.length : Int) := of_decide_eq_true (by first | (with_reducible assumption) | assumption)
                      obtain ⟨ad424, e424, hx424_0, hx424_1⟩ := at_T68 HR1.1 x5_1 p424 q424
                      obtain rfl : ad423 = ad424 := (by injection e424)
                      replace p424 := eq_true p424
                      replace q424 := eq_true q424
                      go_wp2
                      repeat (go_quiet (fail); try go_wp2)
                      go_ret
                      exact ⟨by first | rfl | (simp; done) | (simp [*]; done), by repeat (first | exact Drawn0.refl _ | apply Drawn0.step)⟩
                    rw [if_neg c13] at H
                    have c13b0 : (((rd_T68 l1 x6_3).f0) == ((rd_T68 l1 x5_1).f0)) = false := beq_eq_false_iff_ne.mpr c13
                    have c13b1 : (((rd_T68 l1 x6_3).f0) != ((rd_T68 l1 x5_1).f0)) = true := bne_iff_ne.mpr c13
                    have H' := ak H
                    clear H
                    have p423 : 0 ≤ (x6_3 : Int) := of_decide_eq_true (by first | (with_reducible assumption) | assumption)
                    have q423 : x6_3 < (l1.length : Int) := of_decide_eq_true (by first | (with_reducible assumption) | assumption)
                    obtain ⟨ad423, e423, hx423_0, hx423_1⟩ := at_T68 HR1.1 x6_3 p423 q423
                    cases e423
                    replace p423 := eq_true p423
                    replace q423 := eq_true q423
                    have p424 : 0 ≤ (x5_1 : Int) := of_decide_eq_true (by first | (with_reducible assumption) | assumption)
                    have q424 : x5_1 < (l1.length : Int) := of_decide_eq_true (by first | (with_reducible assumption) | assumption)
                    obtain ⟨ad424, e424, hx424_0, hx424_1⟩ := at_T68 HR1.1 x5_1 p424 q424
                    obtain rfl : ad423 = ad424 := (by injection e424)
                    replace p424 := eq_true p424
                    replace q424 := eq_true q424
                    go_wp2
                    repeat (go_quiet (fail); try go_wp2)
                    go_roundg k3
                    case measure => have := HK1.1; have := HJ3.1; have := HK3.1; omega
                    case rel => exact ⟨(wrap64 (x6_3 + 1)), (by first | rfl | (simp; done) | (simp [*]; done)), H', ⟨by have := HK1.1; have := HJ3.1; have := HK3.1; omega⟩, by repeat (first | exact Drawn0.refl _ | apply Drawn0.step)⟩
                  rw [if_neg c12] at H
                  exact absurd H (by simp)
                rw [if_neg c11] at H
                exact absurd H (by simp)
              rw [if_neg c10] at H
              exact absurd H (by simp)
            rw [if_neg c9] at H
            exact absurd H (by simp)
          rw [if_neg c8] at H
          have c8b0 : decide (x6_3 < x5_1) = false := decide_eq_false c8
          clear c8
          have H' := ak H
          clear H
          go_wp2
          repeat (go_quiet (fail); try go_wp2)
          go_roundg k3
          case measure => have := HK1.1; have := HJ3.1; have := HK3.1; omega
          case rel => exact ⟨(wrap64 (x5_1 + 1)), (by first | rfl | (simp; done) | (simp [*]; done)), H', ⟨by have := HK1.1; have := HJ3.1; have := HK3.1; omega⟩, by repeat (first | exact Drawn0.refl _ | apply Drawn0.step)⟩
    rw [if_neg c3] at H
    have c3b0 : decide (x5_1 < (l1.length : Int)) = false := decide_eq_false c3
    clear c3
    obtain rfl := Option.some.inj H
    go_wp2
    repeat (go_quiet (fail); try go_wp2)
    go_ret
    exact ⟨by first | rfl | (simp; done) | (simp [*]; done), by repeat (first | exact Drawn0.refl _ | apply Drawn0.step)⟩

end Go.Proofs.YtglkcinmohjblaaDoor.XA
