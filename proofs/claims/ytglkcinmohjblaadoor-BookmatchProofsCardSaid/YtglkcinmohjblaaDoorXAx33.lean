import Derived.Test.YtglkcinmohjblaaDoorXAx0
namespace Go.Proofs.YtglkcinmohjblaaDoor.XA
open Go.RowKit Opens YtglkcinmohjblaaDoorW.PrintWords YtglkcinmohjblaaDoorW.PrintLast YtglkcinmohjblaaDoorW.PrintMore
attribute [local go_sem] max2_int min2_int max_two min_two max_three min_three max_four min_four cell_some cell_same
set_option linter.unusedVariables false
set_option linter.unusedSimpArgs false

mutual
def rg_Check.j0 : Nat → List Int → Bool → Option (Int)
  | 0, _, _ => none
  | k + 1, x0, x11 => if x11 = true then (some 1) else (rg_Check.l0 k x0 0)
def rg_Check.l0 : Nat → List Int → Int → Option (Int)
  | 0, _, _ => none
  | k + 1, x0, x3 => if x3 < (x0.length : Int) then (if 0 ≤ x3 then (if (rd x0 x3) < 0 then (some 6) else (if (rd x0 x3) > 1000 then (some 6) else (rg_Check.l0 k x0 (wrap64 (x3 + 1))))) else (none)) else (some 0)
end
def rg_Check.f (k : Nat) (l0 : List Int) : Option (Int) := if (l0.length : Int) < 1 then (rg_Check.j0 k l0 true) else (rg_Check.j0 k l0 (decide ((l0.length : Int) > 64)))
theorem rg_Check.mono_l : ∀ k, (∀ y0 y1, LeO (rg_Check.j0 k y0 y1) (rg_Check.j0 (k + 1) y0 y1)) ∧ (∀ y0 y1, LeO (rg_Check.l0 k y0 y1) (rg_Check.l0 (k + 1) y0 y1))
  | 0 => ⟨fun _ _ r h => by simp [rg_Check.j0] at h, fun _ _ r h => by simp [rg_Check.l0] at h⟩
  | k + 1 => by
    obtain ⟨ih0, ih1⟩ := rg_Check.mono_l k
    refine ⟨?_, ?_⟩
    intro y0 y1
    unfold rg_Check.j0
    repeat' first
    | (with_reducible exact ih1 _ _)
    | (with_reducible exact LeO.refl _)
    | (with_reducible refine LeO.ite ?_ ?_)
      
    intro y0 y1
    unfold rg_Check.l0
    repeat' first
    | (with_reducible exact ih1 _ _)
    | (with_reducible exact LeO.refl _)
    | (with_reducible refine LeO.ite ?_ ?_)
      
theorem rg_Check.mono : ∀ a0 k, LeO (rg_Check.f k a0) (rg_Check.f (k + 1) a0) := by
  intro a0 k
  obtain ⟨ih0, ih1⟩ := rg_Check.mono_l k
  unfold rg_Check.f
  repeat' first
      | (with_reducible exact ih0 _ _)
      | (with_reducible refine LeO.ite ?_ ?_)
      
set_option maxHeartbeats 8000000 in
set_option maxRecDepth 100000 in
theorem rg_Check.calls (k : Nat) (A0 : Option Addr) (c0 : Nat) (l0 : List Int) (r : Int) (w : World) (hr0 : Kd.C (Kd.int .i64) w A0 l0.length l0) (hc0 : l0.length ≤ c0) (h : rg_Check.f k l0 = some r) :
    Calls Tryd.prog 36 #[.slice A0 l0.length c0] w fun e w' => e = .returned (.int .i64 r) ∧ Drawn0 w w' := by
  have HR0 := ak hr0
  have HC0 := ak hc0
  clear hr0 hc0
  have H : (if (l0.length : Int) < 1 then (rg_Check.j0 k l0 true) else (rg_Check.j0 k l0 (decide ((l0.length : Int) > 64)))) = some r := h
  clear h
  have HC2 := ak H
  clear H
  go_enter Tryd.func36, Tryd.ntmps36
  go_upto_region 1 with (fail)
  go_cut [11] (fun v11 wc => ∃ (kq : Nat) (x11_1 : Bool), v11 = .bool x11_1 ∧ Aside0 (rg_Check.j0 kq l0 x11_1 = some r) ∧ Aside0 (kq ≤ k) ∧ Drawn0 w wc)
  case first =>
    have H := HC2.1
    clear HC2
    by_cases c3 : (l0.length : Int) < 1
    · rw [if_pos c3] at H
      have c3b0 : decide ((l0.length : Int) < 1) = true := decide_eq_true c3
      have c3b1 : decide (l0.length < 1) = true := decide_eq_true (by omega)
      clear c3
      have H' := ak H
      clear H
      go_wp2
      go_meet
      case rel => exact ⟨_, (true), (by rfl), H', ⟨by omega⟩, by exact Drawn0.refl _⟩
    rw [if_neg c3] at H
    have c3b0 : decide ((l0.length : Int) < 1) = false := decide_eq_false c3
    have c3b1 : decide (l0.length < 1) = false := decide_eq_false (by omega)
    clear c3
    have H' := ak H
    clear H
    go_wp2
    go_meet
    case rel => exact ⟨_, (decide ((l0.length : Int) > 64)), (by rfl), H', ⟨by omega⟩, by exact Drawn0.refl _⟩
  clear HC2
  obtain ⟨kq, x11_1, rfl, HA, HJ1, ⟨mc1, rfl⟩⟩ := hcut
  cases kq with
  | zero => exact absurd HA.1 (by simp [rg_Check.j0])
  | succ kj1 =>
    have H := HA.1
    clear HA
    simp only [rg_Check.j0] at H
    by_cases c4 : x11_1 = true
    · subst c4
      have H1 : (some 1) = some r := by rw [if_pos rfl] at H; exact H
      clear H
      have H := H1
      clear H1
      obtain rfl := Option.some.inj H
      go_wp2
      go_ret
      exact ⟨by rfl, by repeat (first | exact Drawn0.refl _ | apply Drawn0.step)⟩
    replace c4 := Bool.eq_false_iff.mpr c4
    subst c4
    have H1 : (rg_Check.l0 kj1 l0 0) = some r := by rw [if_neg (show ¬ (false = true) by decide)] at H; exact H
    clear H
    have H := H1
    clear H1
    have H' := ak H
    clear H
    go_wp2
    go_loopg [3] kj1 (fun kq v3 w' => ∃ (x3_2 : Int), v3 = .int .i64 x3_2 ∧ Aside0 (rg_Check.l0 kq l0 x3_2 = some r) ∧ Aside0 (kq ≤ kj1) ∧ Drawn0 w w')
    case atStart => exact ⟨(0), (by rfl), H', ⟨Nat.le_refl _⟩, by repeat (first | exact Drawn0.refl _ | apply Drawn0.step)⟩
    clear H'
    obtain ⟨x3_2, rfl, HA, HK2, ⟨m2, rfl⟩⟩ := hrel
    cases gk with
    | zero => exact absurd HA.1 (by simp [rg_Check.l0])
    | succ k2 =>
      have H := HA.1
      clear HA
      simp only [rg_Check.l0] at H
      by_cases c5 : x3_2 < (l0.length : Int)
      · rw [if_pos c5] at H
        have c5b0 : decide (x3_2 < (l0.length : Int)) = true := decide_eq_true c5
        clear c5
        by_cases c6 : 0 ≤ x3_2
        · rw [if_pos c6] at H
          have c6b0 : decide (0 ≤ x3_2) = true := decide_eq_true c6
          clear c6
          by_cases c7 : (rd l0 x3_2) < 0
          · rw [if_pos c7] at H
            have c7b0 : decide ((rd l0 x3_2) < 0) = true := decide_eq_true c7
            clear c7
            obtain rfl := Option.some.inj H
            have p360 : 0 ≤ (x3_2 : Int) := od_
            have q360 : x3_2 < (l0.length : Int) := od_
            obtain ⟨ad360, e360, hx360_0⟩ := Kd.at_int HR0.1 x3_2 p360 q360
            cases e360
            replace p360 := eq_true p360
            replace q360 := eq_true q360
            go_wp2
            go_ret
            exact ⟨by rfl, by repeat (first | exact Drawn0.refl _ | apply Drawn0.step)⟩
          rw [if_neg c7] at H
          have c7b0 : decide ((rd l0 x3_2) < 0) = false := decide_eq_false c7
          clear c7
          by_cases c8 : (rd l0 x3_2) > 1000
          · rw [if_pos c8] at H
            have c8b0 : decide (1000 < (rd l0 x3_2)) = true := decide_eq_true c8
            clear c8
            obtain rfl := Option.some.inj H
            have p360 : 0 ≤ (x3_2 : Int) := od_
            have q360 : x3_2 < (l0.length : Int) := od_
            obtain ⟨ad360, e360, hx360_0⟩ := Kd.at_int HR0.1 x3_2 p360 q360
            cases e360
            replace p360 := eq_true p360
            replace q360 := eq_true q360
            have p361 : 0 ≤ (x3_2 : Int) := od_
            have q361 : x3_2 < (l0.length : Int) := od_
            obtain ⟨ad361, e361, hx361_0⟩ := Kd.at_int HR0.1 x3_2 p361 q361
            obtain rfl : ad360 = ad361 := (by injection e361)
            replace p361 := eq_true p361
            replace q361 := eq_true q361
            go_wp2
            go_ret
            exact ⟨by rfl, by repeat (first | exact Drawn0.refl _ | apply Drawn0.step)⟩
          rw [if_neg c8] at H
          have c8b0 : decide (1000 < (rd l0 x3_2)) = false := decide_eq_false c8
          clear c8
          have H' := ak H
          clear H
          have p360 : 0 ≤ (x3_2 : Int) := od_
          have q360 : x3_2 < (l0.length : Int) := od_
          obtain ⟨ad360, e360, hx360_0⟩ := Kd.at_int HR0.1 x3_2 p360 q360
          cases e360
          replace p360 := eq_true p360
          replace q360 := eq_true q360
          have p361 : 0 ≤ (x3_2 : Int) := od_
          have q361 : x3_2 < (l0.length : Int) := od_
          obtain ⟨ad361, e361, hx361_0⟩ := Kd.at_int HR0.1 x3_2 p361 q361
          obtain rfl : ad360 = ad361 := (by injection e361)
          replace p361 := eq_true p361
          replace q361 := eq_true q361
          go_wp2
          go_roundg k2
          case measure => have := HJ1.1; have := HK2.1; omega
          case rel => exact ⟨(wrap64 (x3_2 + 1)), (by rfl), H', ⟨by have := HJ1.1; have := HK2.1; omega⟩, by repeat (first | exact Drawn0.refl _ | apply Drawn0.step)⟩
        rw [if_neg c6] at H
        exact absurd H (by simp)
      rw [if_neg c5] at H
      have c5b0 : decide (x3_2 < (l0.length : Int)) = false := decide_eq_false c5
      clear c5
      obtain rfl := Option.some.inj H
      go_wp2
      go_ret
      exact ⟨by rfl, by repeat (first | exact Drawn0.refl _ | apply Drawn0.step)⟩

end Go.Proofs.YtglkcinmohjblaaDoor.XA
