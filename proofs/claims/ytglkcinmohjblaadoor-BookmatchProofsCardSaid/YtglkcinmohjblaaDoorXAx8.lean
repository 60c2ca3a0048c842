import Derived.Test.YtglkcinmohjblaaDoorXAx0
namespace Go.Proofs.YtglkcinmohjblaaDoor.XA
open Go.RowKit Opens YtglkcinmohjblaaDoorW.PrintWords YtglkcinmohjblaaDoorW.PrintLast YtglkcinmohjblaaDoorW.PrintMore
attribute [local go_sem] max2_int min2_int max_two min_two max_three min_three max_four min_four cell_some cell_same
set_option linter.unusedVariables false
set_option linter.unusedSimpArgs false

def slices_Max_int_int.l0 : Nat → List Int → Int → Int → Option (Int)
  | 0, _, _, _ => none
  | k + 1, x0, x3, x4 => if x4 < (x0.length : Int) then (if 0 ≤ x4 then (slices_Max_int_int.l0 k x0 (mx x3 (rd x0 x4)) (wrap64 (x4 + 1))) else (none)) else (some x3)
def slices_Max_int_int.f (k : Nat) (l0 : List Int) : Option (Int) := if (l0.length : Int) < 1 then (none) else (if 0 < (l0.length : Int) then (slices_Max_int_int.l0 k l0 (rd l0 0) 1) else (none))
theorem slices_Max_int_int.mono_l : ∀ k, (∀ y0 y1 y2, LeO (slices_Max_int_int.l0 k y0 y1 y2) (slices_Max_int_int.l0 (k + 1) y0 y1 y2))
  | 0 => fun _ _ _ r h => by simp [slices_Max_int_int.l0] at h
  | k + 1 => by
    have ih0 := slices_Max_int_int.mono_l k
    intro y0 y1 y2
    unfold slices_Max_int_int.l0
    repeat' first
    | (with_reducible exact ih0 _ _ _)
    | (with_reducible exact LeO.refl _)
    | (with_reducible refine LeO.ite ?_ ?_)
      
theorem slices_Max_int_int.mono : ∀ a0 k, LeO (slices_Max_int_int.f k a0) (slices_Max_int_int.f (k + 1) a0) := by
  intro a0 k
  have ih0 := slices_Max_int_int.mono_l k
  unfold slices_Max_int_int.f
  repeat' first
      | (with_reducible exact ih0 _ _ _)
      | (with_reducible exact LeO.refl _)
      | (with_reducible refine LeO.ite ?_ ?_)
      
set_option maxHeartbeats 8000000 in
set_option maxRecDepth 100000 in
theorem slices_Max_int_int.calls (k : Nat) (A0 : Option Addr) (c0 : Nat) (l0 : List Int) (r : Int) (w : World) (hr0 : Kd.C (Kd.int .i64) w A0 l0.length l0) (hc0 : l0.length ≤ c0) (h : slices_Max_int_int.f k l0 = some r) :
    Calls Tryd.prog 51 #[.slice A0 l0.length c0] w fun e w' => e = .returned (.int .i64 r) ∧ Below w.heap.size w w' := by
  have HR0 := ak hr0
  have HC0 := ak hc0
  clear hr0 hc0
  have HB := ak (Below.refl w.heap.size w)
  have H : (if (l0.length : Int) < 1 then (none) else (if 0 < (l0.length : Int) then (slices_Max_int_int.l0 k l0 (rd l0 0) 1) else (none))) = some r := h
  clear h
  by_cases c2 : (l0.length : Int) < 1
  · rw [if_pos c2] at H
    exact absurd H (by simp)
  rw [if_neg c2] at H
  have c2b0 : decide ((l0.length : Int) < 1) = false := decide_eq_false c2
  have c2b1 : decide (l0.length < 1) = false := decide_eq_false (by omega)
  clear c2
  by_cases c3 : 0 < (l0.length : Int)
  · rw [if_pos c3] at H
    have c3b0 : decide (0 < (l0.length : Int)) = true := decide_eq_true c3
    have c3b1 : decide (0 < l0.length) = true := decide_eq_true (by omega)
    clear c3
    have H' := ak H
    clear H
    have p114 : 0 ≤ (0 : Int) := (by omega)
    have q114 : 0 < (l0.length : Int) := od_
    obtain ⟨ad114, e114, hx114_0⟩ := Kd.at_int HR0.1 0 p114 q114
    cases e114
    have qi114 : (0 < l0.length) = True := eq_true (by omega)
    (try rw [show ((0 : Int)).toNat = 0 from rfl] at hx114_0)
    (try rw [Addr.add_zero'] at hx114_0)
    replace p114 := eq_true p114
    replace q114 := eq_true q114
    go_enter Tryd.func51, Tryd.ntmps51
    go_wp2
    go_loopg [3, 4] k (fun kq v3 v4 w' => ∃ (x3_1 : Int) (x4_1 : Int), v3 = .int .i64 x3_1 ∧ v4 = .int .i64 x4_1 ∧ Aside0 (slices_Max_int_int.l0 kq l0 x3_1 x4_1 = some r) ∧ Aside0 (kq ≤ k) ∧ Aside0 (Below w.heap.size w w'))
    case atStart => exact ⟨(rd l0 0), (1), (by rfl), (by rfl), H', ⟨Nat.le_refl _⟩, ⟨by repeat (with_reducible exact HB.1)⟩⟩
    clear H'
    try clear c2b0
    try clear c2b1
    try clear c3b0
    try clear c3b1
    try clear hx114_0
    try clear p114
    try clear q114
    obtain ⟨x3_1, x4_1, rfl, rfl, HA, HK1, HB⟩ := hrel
    cases gk with
    | zero => exact absurd HA.1 (by simp [slices_Max_int_int.l0])
    | succ k1 =>
      have H := HA.1
      clear HA
      simp only [slices_Max_int_int.l0] at H
      by_cases c4 : x4_1 < (l0.length : Int)
      · rw [if_pos c4] at H
        have c4b0 : decide (x4_1 < (l0.length : Int)) = true := decide_eq_true c4
        clear c4
        by_cases c5 : 0 ≤ x4_1
        · rw [if_pos c5] at H
          have c5b0 : decide (0 ≤ x4_1) = true := decide_eq_true c5
          clear c5
          obtain ⟨ji6, hji6⟩ : ∃ j_ : Int, (mx x3_1 (rd l0 x4_1)) = j_ := ⟨_, rfl⟩
          replace H : (slices_Max_int_int.l0 k1 l0 ji6 (wrap64 (x4_1 + 1))) = some r := by (rw [hji6] at H; exact H)
          have hji6_ : (if x3_1 < (rd l0 x4_1) then (rd l0 x4_1) else x3_1) = ji6 := hji6
          have H' := ak H
          clear H
          have p115 : 0 ≤ (x4_1 : Int) := od_
          have q115 : x4_1 < (l0.length : Int) := od_
          obtain ⟨ad115, e115, hx115_0⟩ := Kd.at_int HR0.1 x4_1 p115 q115
          obtain rfl : ad114 = ad115 := (by injection e115)
          replace hx115_0 := (hc_ HB hx115_0).trans hx115_0
          replace p115 := eq_true p115
          replace q115 := eq_true q115
          go_wp2
          go_roundg k1
          case measure => have := HK1.1; omega
          case rel => exact ⟨(ji6), (wrap64 (x4_1 + 1)), (by rfl), (by rfl), H', ⟨by have := HK1.1; omega⟩, ⟨by repeat (with_reducible exact HB.1)⟩⟩
        rw [if_neg c5] at H
        exact absurd H (by simp)
      rw [if_neg c4] at H
      have c4b0 : decide (x4_1 < (l0.length : Int)) = false := decide_eq_false c4
      clear c4
      obtain rfl := Option.some.inj H
      go_wp2
      go_ret
      exact ⟨by rfl, by repeat (with_reducible exact HB.1)⟩
  rw [if_neg c3] at H
  exact absurd H (by simp)

end Go.Proofs.YtglkcinmohjblaaDoor.XA
