import Derived.Test.YtgacodhpniehiaaXAx5
namespace Go.Proofs.Ytgacodhpniehiaa.XA
open Flat Go.RowKit Opens YtgacodhpniehiaaW.PrintWords YtgacodhpniehiaaW.PrintLast YtgacodhpniehiaaW.PrintMore
attribute [local go_sem] max2_int min2_int max_two min_two max_three min_three max_four min_four cell_some cell_same
set_option linter.unusedVariables false
set_option linter.unusedSimpArgs false

def slices_IndexFunc_int_int_by_boxpack_plan_1.l0 : Nat → List Int → Int → Int → Option (Int)
  | 0, _, _, _ => none
  | k + 1, x0, x7, x8 => if x8 < x7 then (if 0 ≤ x8 then (if x8 < (x0.length : Int) then ((boxpack_plan_1.f (rd x0 x8)).bind fun t126 => (if t126 = true then (some x8) else (slices_IndexFunc_int_int_by_boxpack_plan_1.l0 k x0 x7 (wrap64 (x8 + 1))))) else (none)) else (none)) else (some (-1))
def slices_IndexFunc_int_int_by_boxpack_plan_1.f (k : Nat) (l0 : List Int)  : Option (Int) := slices_IndexFunc_int_int_by_boxpack_plan_1.l0 k l0 (l0.length : Int) 0
theorem slices_IndexFunc_int_int_by_boxpack_plan_1.mono_l : ∀ k, (∀ y0 y1 y2, LeO (slices_IndexFunc_int_int_by_boxpack_plan_1.l0 k y0 y1 y2) (slices_IndexFunc_int_int_by_boxpack_plan_1.l0 (k + 1) y0 y1 y2))
  | 0 => fun _ _ _ r h => by simp [slices_IndexFunc_int_int_by_boxpack_plan_1.l0] at h
  | k + 1 => by
    have ih0 := slices_IndexFunc_int_int_by_boxpack_plan_1.mono_l k
    intro y0 y1 y2
    unfold slices_IndexFunc_int_int_by_boxpack_plan_1.l0
    repeat' first
    | (with_reducible exact ih0 _ _ _)
    | (with_reducible exact LeO.refl _)
    | (with_reducible refine LeO.ite ?_ ?_)
    | (with_reducible refine LeO.bind ?_ (fun _ => ?_))
theorem slices_IndexFunc_int_int_by_boxpack_plan_1.mono : ∀ a0 k, LeO (slices_IndexFunc_int_int_by_boxpack_plan_1.f k a0) (slices_IndexFunc_int_int_by_boxpack_plan_1.f (k + 1) a0) := by
  intro a0 k
  have ih0 := slices_IndexFunc_int_int_by_boxpack_plan_1.mono_l k
  unfold slices_IndexFunc_int_int_by_boxpack_plan_1.f
  repeat' (with_reducible exact ih0 _ _ _)
set_option maxHeartbeats 8000000 in
set_option maxRecDepth 100000 in
theorem slices_IndexFunc_int_int_by_boxpack_plan_1.calls (k : Nat) (A0 : Option Addr) (c0 : Nat) (l0 : List Int)  (r : Int) (w : World) (hr0 : Kd.C (Kd.int .i64) w A0 l0.length l0) (hc0 : l0.length ≤ c0) (h : slices_IndexFunc_int_int_by_boxpack_plan_1.f k l0 = some r) :
    Calls Try.prog 63 #[.slice A0 l0.length c0, .func (.func 60) #[] #[]] w fun e w' => e = .returned (.int .i64 r) ∧ Drawn0 w w' := by
  have HR0 := ak hr0
  have HC0 := ak hc0
  clear hr0 hc0
  have H : (slices_IndexFunc_int_int_by_boxpack_plan_1.l0 k l0 (l0.length : Int) 0) = some r := h
  clear h
  have H' := ak H
  clear H
  go_enter Try.func63, Try.ntmps63
  go_wp2
  go_loopg [8] k (fun kq v8 w' => ∃ (x8_1 : Int), v8 = .int .i64 x8_1 ∧ Aside0 (slices_IndexFunc_int_int_by_boxpack_plan_1.l0 kq l0 (l0.length : Int) x8_1 = some r) ∧ Aside0 (kq ≤ k) ∧ Drawn0 w w')
  case atStart => exact ⟨(0), (by rfl), H', ⟨Nat.le_refl _⟩, by exact Drawn0.refl _⟩
  clear H'
  obtain ⟨x8_1, rfl, HA, HK1, ⟨m1, rfl⟩⟩ := hrel
  cases gk with
  | zero => exact absurd HA.1 (by simp [slices_IndexFunc_int_int_by_boxpack_plan_1.l0])
  | succ k1 =>
    have H := HA.1
    clear HA
    simp only [slices_IndexFunc_int_int_by_boxpack_plan_1.l0] at H
    by_cases c3 : x8_1 < (l0.length : Int)
    · rw [if_pos c3] at H
      have c3b0 : decide (x8_1 < (l0.length : Int)) = true := decide_eq_true c3
      clear c3
      by_cases c4 : 0 ≤ x8_1
      · rw [if_pos c4] at H
        have c4b0 : decide (0 ≤ x8_1) = true := decide_eq_true c4
        clear c4
        by_cases c5 : x8_1 < (l0.length : Int)
        · rw [if_pos c5] at H
          have c5b0 : decide (x8_1 < (l0.length : Int)) = true := decide_eq_true c5
          clear c5
          replace H := Option.bind_eq_some_iff.mp H
          obtain ⟨t126, A60, H⟩ := H
          (try dsimp only at H)
          have A6 := ak A60
          clear A60
          by_cases c7 : t126 = true
          · subst c7
            have H1 : (some x8_1) = some r := by rw [if_pos rfl] at H; exact H
            clear H
            have H := H1
            clear H1
            obtain rfl := Option.some.inj H
            have p125 : 0 ≤ (x8_1 : Int) := od_
            have q125 : x8_1 < (l0.length : Int) := od_
            obtain ⟨ad125, e125, hx125_0⟩ := Kd.at_int HR0.1 x8_1 p125 q125
            cases e125
            replace p125 := eq_true p125
            replace q125 := eq_true q125
            go_wp2_with (first | (go_at_call 60; (with_reducible refine (boxpack_plan_1.calls (rd l0 x8_1) true _ A6.1).mono ?_); rintro e w' ⟨rfl, ⟨nd, rfl⟩⟩))
            go_ret
            exact ⟨by rfl, by repeat (first | exact Drawn0.refl _ | apply Drawn0.step)⟩
          replace c7 := Bool.eq_false_iff.mpr c7
          subst c7
          have H1 : (slices_IndexFunc_int_int_by_boxpack_plan_1.l0 k1 l0 (l0.length : Int) (wrap64 (x8_1 + 1))) = some r := by rw [if_neg (show ¬ (false = true) by decide)] at H; exact H
          clear H
          have H := H1
          clear H1
          have H' := ak H
          clear H
          have p125 : 0 ≤ (x8_1 : Int) := od_
          have q125 : x8_1 < (l0.length : Int) := od_
          obtain ⟨ad125, e125, hx125_0⟩ := Kd.at_int HR0.1 x8_1 p125 q125
          cases e125
          replace p125 := eq_true p125
          replace q125 := eq_true q125
          go_wp2_with (first | (go_at_call 60; (with_reducible refine (boxpack_plan_1.calls (rd l0 x8_1) false _ A6.1).mono ?_); rintro e w' ⟨rfl, ⟨nd, rfl⟩⟩))
          go_roundg k1
          case measure => have := HK1.1; omega
          case rel => exact ⟨(wrap64 (x8_1 + 1)), (by rfl), H', ⟨by have := HK1.1; omega⟩, by repeat (first | exact Drawn0.refl _ | apply Drawn0.step)⟩
        rw [if_neg c5] at H
        exact absurd H (by simp)
      rw [if_neg c4] at H
      exact absurd H (by simp)
    rw [if_neg c3] at H
    have c3b0 : decide (x8_1 < (l0.length : Int)) = false := decide_eq_false c3
    clear c3
    obtain rfl := Option.some.inj H
    go_wp2
    go_ret
    exact ⟨by rfl, by repeat (first | exact Drawn0.refl _ | apply Drawn0.step)⟩

def slices_ContainsFunc_int_int_by_boxpack_plan_1.f (k : Nat) (l0 : List Int)  : Option (Bool) := (slices_IndexFunc_int_int_by_boxpack_plan_1.f k l0).bind fun t127 => (some (decide (t127 ≥ 0)))
theorem slices_ContainsFunc_int_int_by_boxpack_plan_1.mono : ∀ a0 k, LeO (slices_ContainsFunc_int_int_by_boxpack_plan_1.f k a0) (slices_ContainsFunc_int_int_by_boxpack_plan_1.f (k + 1) a0) := by
  intro a0 k
  unfold slices_ContainsFunc_int_int_by_boxpack_plan_1.f
  repeat' first
      | (with_reducible exact slices_IndexFunc_int_int_by_boxpack_plan_1.mono _ _)
      | (with_reducible exact LeO.refl _)
      | (with_reducible refine LeO.bind ?_ (fun _ => ?_))
set_option maxHeartbeats 8000000 in
set_option maxRecDepth 100000 in
theorem slices_ContainsFunc_int_int_by_boxpack_plan_1.calls (k : Nat) (A0 : Option Addr) (c0 : Nat) (l0 : List Int)  (r : Bool) (w : World) (hr0 : Kd.C (Kd.int .i64) w A0 l0.length l0) (hc0 : l0.length ≤ c0) (h : slices_ContainsFunc_int_int_by_boxpack_plan_1.f k l0 = some r) :
    Calls Try.prog 59 #[.slice A0 l0.length c0, .func (.func 60) #[] #[]] w fun e w' => e = .returned (.bool r) ∧ Drawn0 w w' := by
  have HR0 := ak hr0
  have HC0 := ak hc0
  clear hr0 hc0
  have H : ((slices_IndexFunc_int_int_by_boxpack_plan_1.f k l0).bind fun t127 => (some (decide (t127 ≥ 0)))) = some r := h
  clear h
  replace H := Option.bind_eq_some_iff.mp H
  obtain ⟨t127, A30, H⟩ := H
  (try dsimp only at H)
  have A3 := ak A30
  clear A30
  obtain rfl := Option.some.inj H
  go_enter Try.func59, Try.ntmps59
  go_wp2_with (first | (go_at_call 63; (with_reducible refine (slices_IndexFunc_int_int_by_boxpack_plan_1.calls k _ _ l0  t127 _ ?side1 ?side2 A3.1).mono ?_); (case side1 => exact HR0.1); (case side2 => exact HC0.1); rintro e w' ⟨rfl, ⟨nd, rfl⟩⟩))
  go_ret
  exact ⟨by rfl, by repeat (first | exact Drawn0.refl _ | apply Drawn0.step)⟩

mutual
def boxpack_plan.l0 : Nat → List (S61) → List Int → List (S61) → Int → Int → Option (Bool)
 | 0, _, _, _, _, _ => none
 | k + 1, x0, x3, x11, x12, x13 => if x13 < x12 then (if 0 ≤ x13 then (if x13 < (x11.length : Int) then (if ((rd_T61 x11 x13).f0) = 0 then (boxpack_plan.j1 k x0 x3 x13 x11 x12 x13 ((rd_T61 x11 x13).f0) (((rd_T61 x11 x13).f0) == 0) ((rd_T61 x11 x13).f0) ((rd_T61 x11 x13).f1) ((rd_T61 x11 x13).f2) ((rd_T61 x11 x13).f3) ((rd_T61 x11 x13).f4) ((rd_T61 x11 x13).f5) ((rd_T61 x11 x13).f6)) else (if ((rd_T61 x11 x13).f0) = 1 then (boxpack_plan.j1 k x0 x3 x13 x11 x12 x13 ((rd_T61 x11 x13).f0) (((rd_T61 x11 x13).f0) == 1) ((rd_T61 x11 x13).f0) ((rd_T61 x11 x13).f1) ((rd_T61 x11 x13).f2) ((rd_T61 x11 x13).f3) ((rd_T61 x11 x13).f4) ((rd_T61 x11 x13).f5) ((rd_T61 x11 x13).f6)) else (boxpack_plan.j1 k x0 x3 x13 x11 x12 x13 ((rd_T61 x11 x13).f0) (((rd_T61 x11 x13).f0) == 2) ((rd_T61 x11 x13).f0) ((rd_T61 x11 x13).f1) ((rd_T61 x11 x13).f2) ((rd_T61 x11 x13).f3) ((rd_T61 x11 x13).f4) ((rd_T61 x11 x13).f5) ((rd_T61 x11 x13).f6)))) else (none)) else (none)) else (if (x0.length : Int) > 0 then (if 1 ≤ (x3.length : Int) then ((slices_ContainsFunc_int_int_by_boxpack_plan_1.f k (x3.drop 1)).bind fun t135 => (some (!t135))) else (none)) else (some false))
def boxpack_plan.j1 : Nat → List (S61) → List Int → Int → List (S61) → Int → Int → Int → Bool → Int → ByteArray → Int → Int → Int → Int → Int → Option (Bool)
 | 0, _, _, _, _, _, _, _, _, _, _, _, _, _, _, _ => none
 | k + 1, x0, x3, x4, x11, x12, x13, x19, x20, x138000, x138001, x138002, x138003, x138004, x138005, x138006 => if x20 = true then (if x138002 = 0 then (if x138003 = 0 then (if x138004 = 0 then (if x138005 = 0 then (if x138006 = 0 then (if x138000 = 0 then (if x138001.toList = ([] : List UInt8) then (boxpack_plan.l0 k x0 x3 x11 x12 (wrap64 (x13 + 1))) else (some false)) else (boxpack_plan.l0 k x0 x3 x11 x12 (wrap64 (x13 + 1)))) else (some false)) else (some false)) else (some false)) else (some false)) else (some false)) else (if x19 = 3 then (if x138002 < 0 then (boxpack_plan.j2 k x0 x3 x4 x11 x12 x13 true x138000 x138001 x138002 x138003 x138004 x138005 x138006) else (if x138002 > 2 then (boxpack_plan.j2 k x0 x3 x4 x11 x12 x13 true x138000 x138001 x138002 x138003 x138004 x138005 x138006) else (if x138001.toList = ([] : List UInt8) then (boxpack_plan.j2 k x0 x3 x4 x11 x12 x13 (x138005 == x138006) x138000 x138001 x138002 x138003 x138004 x138005 x138006) else (boxpack_plan.j2 k x0 x3 x4 x11 x12 x13 true x138000 x138001 x138002 x138003 x138004 x138005 x138006)))) else (some false))
def boxpack_plan.j2 : Nat → List (S61) → List Int → Int → List (S61) → Int → Int → Bool → Int → ByteArray → Int → Int → Int → Int → Int → Option (Bool)
 | 0, _, _, _, _, _, _, _, _, _, _, _, _, _, _ => none
 | k + 1, x0, x3, x4, x11, x12, x13, x78, x138000, x138001, x138002, x138003, x138004, x138005, x138006 => if x78 = true then (some false) else (boxpack_plan.l1 k x0 x3 x4 x11 x12 x13 0 x138005 x138006)
def boxpack_plan.l1 : Nat → List (S61) → List Int → Int → List (S61) → Int → Int → Int → Int → Int → Option (Bool)
 | 0, _, _, _, _, _, _, _, _, _ => none
 | k + 1, x0, x3, x4, x11, x12, x13, x84, x120, x121 => if x84 < 2 then (if x84 = 0 then (if x120 ≤ x4 then (some false) else (if x120 ≥ (x0.length : Int) then (some false) else (if 0 ≤ x120 then (if x120 < (x3.length : Int) then (boxpack_plan.l1 k x0 (x3.set (x120 : Int).toNat (wrap64 ((rd x3 x120) + 1))) x4 x11 x12 x13 (0 + 1) x120 x121) else (none)) else (none)))) else (if x84 = 1 then (if x121 ≤ x4 then (some false) else (if x121 ≥ (x0.length : Int) then (some false) else (if 0 ≤ x121 then (if x121 < (x3.length : Int) then (boxpack_plan.l1 k x0 (x3.set (x121 : Int).toNat (wrap64 ((rd x3 x121) + 1))) x4 x11 x12 x13 (1 + 1) x120 x121) else (none)) else (none)))) else (none))) else (boxpack_plan.l0 k x0 x3 x11 x12 (wrap64 (x13 + 1)))
end
def boxpack_plan.f (k : Nat) (l0 : List (S61)) : Option (Bool) := if 0 ≤ (l0.length : Int) then (if ((l0.length : Int) : Int).toNat ≤ 35184372088832 then (boxpack_plan.l0 k l0 (List.replicate ((l0.length : Int) : Int).toNat 0) l0 (l0.length : Int) 0) else (none)) else (none)
theorem boxpack_plan.mono_l : ∀ k, (∀ y0 y1 y2 y3 y4, LeO (boxpack_plan.l0 k y0 y1 y2 y3 y4) (boxpack_plan.l0 (k + 1) y0 y1 y2 y3 y4)) ∧ (∀ y0 y1 y2 y3 y4 y5 y6 y7 y8 y9 y10 y11 y12 y13 y14, LeO (boxpack_plan.j1 k y0 y1 y2 y3 y4 y5 y6 y7 y8 y9 y10 y11 y12 y13 y14) (boxpack_plan.j1 (k + 1) y0 y1 y2 y3 y4 y5 y6 y7 y8 y9 y10 y11 y12 y13 y14)) ∧ (∀ y0 y1 y2 y3 y4 y5 y6 y7 y8 y9 y10 y11 y12 y13, LeO (boxpack_plan.j2 k y0 y1 y2 y3 y4 y5 y6 y7 y8 y9 y10 y11 y12 y13) (boxpack_plan.j2 (k + 1) y0 y1 y2 y3 y4 y5 y6 y7 y8 y9 y10 y11 y12 y13)) ∧ (∀ y0 y1 y2 y3 y4 y5 y6 y7 y8, LeO (boxpack_plan.l1 k y0 y1 y2 y3 y4 y5 y6 y7 y8) (boxpack_plan.l1 (k + 1) y0 y1 y2 y3 y4 y5 y6 y7 y8))
 | 0 => ⟨fun _ _ _ _ _ r h => by simp [boxpack_plan.l0] at h, fun _ _ _ _ _ _ _ _ _ _ _ _ _ _ _ r h => by simp [boxpack_plan.j1] at h, fun _ _ _ _ _ _ _ _ _ _ _ _ _ _ r h => by simp [boxpack_plan.j2] at h, fun _ _ _ _ _ _ _ _ _ r h => by simp [boxpack_plan.l1] at h⟩
 | k + 1 => by
  obtain ⟨ih0, ih1, ih2, ih3⟩ := boxpack_plan.mono_l k; refine ⟨?_, ?_, ?_, ?_⟩; (all_goals (intros; (first | unfold boxpack_plan.l0 | unfold boxpack_plan.j1 | unfold boxpack_plan.j2 | unfold boxpack_plan.l1)))
  all_goals (repeat' first
   | (with_reducible exact ih0 _ _ _ _ _)
   | (with_reducible exact ih1 _ _ _ _ _ _ _ _ _ _ _ _ _ _ _)
   | (with_reducible exact ih2 _ _ _ _ _ _ _ _ _ _ _ _ _ _)
   | (with_reducible exact ih3 _ _ _ _ _ _ _ _ _)
   | (with_reducible exact slices_ContainsFunc_int_int_by_boxpack_plan_1.mono _ _)
   | (with_reducible exact LeO.refl _)
   | (with_reducible refine LeO.ite ?_ ?_)
   | (with_reducible refine LeO.bind ?_ (fun _ => ?_))
   )
theorem boxpack_plan.mono : ∀ a0 k, LeO (boxpack_plan.f k a0) (boxpack_plan.f (k + 1) a0) := by
 intro a0 k
 obtain ⟨ih0, ih1, ih2, ih3⟩ := boxpack_plan.mono_l k
 unfold boxpack_plan.f
 repeat' first
   | (with_reducible exact ih0 _ _ _ _ _)
   | (with_reducible exact LeO.refl _)
   | (with_reducible refine LeO.ite ?_ ?_)
theorem boxpack_plan.aix94 (a0_0 a1_0 : Value) (w : World) : (Instr.index 94 (.agg #[a0_0, a1_0]) (.int .i64 0)).run Try.prog w = .ok a0_0 w ∧ (Instr.index 94 (.agg #[a0_0, a1_0]) (.int .i64 1)).run Try.prog w = .ok a1_0 w := by
 refine ⟨by kernel_rfl, by kernel_rfl⟩

set_option maxHeartbeats 8000000 in
set_option maxRecDepth 100000 in
theorem boxpack_plan.calls (k : Nat) (A0 : Option Addr) (c0 : Nat) (l0 : List (S61)) (r : Bool) (w : World) (hr0 : Kd.C k61 w A0 l0.length l0) (hc0 : l0.length ≤ c0) (h : boxpack_plan.f k l0 = some r) :
  Calls Try.prog 28 #[.slice A0 l0.length c0] w fun e w' => e = .returned (.bool r) ∧ Below w.heap.size w w' := by
 have hu61 := Try.underlying61
 have hu94 := Try.underlying94
 have hix94 := boxpack_plan.aix94
 have HR0 := ak hr0
 have HC0 := ak hc0
 clear hr0 hc0
 have HB := ak (Below.refl w.heap.size w)
 have H : (if 0 ≤ (l0.length : Int) then (if ((l0.length : Int) : Int).toNat ≤ 35184372088832 then (boxpack_plan.l0 k l0 (List.replicate ((l0.length : Int) : Int).toNat 0) l0 (l0.length : Int) 0) else (none)) else (none)) = some r := h
 clear h
 by_cases c2 : 0 ≤ (l0.length : Int)
 ·rw [if_pos c2] at H
  have c2b0 := eq_true c2; have c2b1 := decide_eq_true c2; clear c2; (by_cases c3 : ((l0.length : Int) : Int).toNat ≤ 35184372088832)
  ·rw [if_pos c3] at H
   have c3b0 := eq_true c3; have c3b1 := decide_eq_true c3; clear c3; obtain ⟨y128, hy128⟩ : ∃ y_ : List Int, y_ = (List.replicate ((l0.length : Int) : Int).toNat 0) := ⟨_, rfl⟩; (replace H : (boxpack_plan.l0 k l0 y128 l0 (l0.length : Int) 0) = some r := by (rw [hy128]; with_reducible exact H)); have Ny128 := ak hy128; clear hy128; have H' := ak H; clear H; (go_enter Try.func28, Try.ntmps28); (go_wp2_with (first | ((with_reducible refine gate_dst (N := 10) rfl ?_); refine Kd.R_make (Kd.int .i64) _ 3 rfl (N := 10) rfl 93 _ _ rfl (l0.length : Int) rfl rfl Try.underlying93 (.int .i64 0) 8 info3 rfl (by decide) (by omega) 0 (ok := fun _ => True) (okp := fun _ => True) rfl (fun _ hk => hk) trivial (od_) (Nat.le_trans (Nat.mul_le_mul_right _ (od_ : (l0.length : Int).toNat ≤ 35184372088832)) (by omega)) (Below.refl _ _) (Nat.le_refl _) ?_; intro v129 w4 ho5 hb hg_ hnew_; clear hg_ hnew_; (rw [← Ny128.1] at ho5); have HO130 := ak (Kd.R_lower ho5 (below_size (hb_ HB))); replace HB := hs_ HB hb; clear hb ho5))); (go_loopg [13] k (fun kq v13 w' => ∃ (x3_1 : List Int) (x13_1 : Int), v13 = .int .i64 x13_1 ∧ Aside0 (boxpack_plan.l0 kq l0 x3_1 l0 (l0.length : Int) x13_1 = some r) ∧ Aside0 (kq ≤ k) ∧ Aside0 (Kd.R (Kd.int .i64) 3 w' w.heap.size (fun _ => True) v129 x3_1) ∧ Aside0 (Below w.heap.size w w')))
   case atStart => exact ⟨(y128), (0), (by rfl), H', ⟨Nat.le_refl _⟩, ⟨by exact HO130.1⟩, ⟨hb_ HB⟩⟩
   clear H'; (try clear c2b0); (try clear c2b1); (try clear c3b0); (try clear c3b1); obtain ⟨x3_1, x13_1, rfl, HA, HK1, HO_3, HB⟩ := hrel
   cases gk with
   | zero => exact absurd HA.1 (by simp [boxpack_plan.l0])
   | succ k1 =>
    have H := HA.1; clear HA; simp only [boxpack_plan.l0] at H; (by_cases c6 : x13_1 < (l0.length : Int))
    ·rw [if_pos c6] at H
     have c6b0 := decide_eq_true c6; clear c6; (by_cases c7 : 0 ≤ x13_1)
     ·rw [if_pos c7] at H
      have c7b0 := decide_eq_true c7; clear c7; (by_cases c8 : x13_1 < (l0.length : Int))
      ·rw [if_pos c8] at H
       have c8b0 := decide_eq_true c8; clear c8; have HC9 := ak H; clear H; have p136 : 0 ≤ (x13_1 : Int) := od_; have q136 : x13_1 < (l0.length : Int) := od_; obtain ⟨ad136, e136, hx136_0, hx136_1, hx136_2, hx136_3, hx136_4, hx136_5, hx136_6⟩ := at_T61 HR0.1 x13_1 p136 q136; (cases e136); replace hx136_0 := (hc_ HB hx136_0).trans hx136_0; replace hx136_1 := (hc_ HB hx136_1).trans hx136_1; replace hx136_2 := (hc_ HB hx136_2).trans hx136_2; replace hx136_3 := (hc_ HB hx136_3).trans hx136_3; replace hx136_4 := (hc_ HB hx136_4).trans hx136_4; replace hx136_5 := (hc_ HB hx136_5).trans hx136_5; replace hx136_6 := (hc_ HB hx136_6).trans hx136_6; replace p136 := eq_true p136; replace q136 := eq_true q136; (go_upto_if 20 with (first | ((with_reducible refine gate_dst (N := 5) rfl ?_); refine bx_ 5 #[.int .i64 0, .string (⟨#[]⟩ : ByteArray), .int .i64 0, .int .i64 0, .int .i64 0, .int .i64 0, .int .i64 0] 61 ?_; intro gb137 hg w10 hbox hb; replace HO_3 := rb_ HO_3 hb; have BK137 := ak (hbox); have GW137 := gw_ HB hg; have GE137 := gw_ HB hg; replace HB := hs_ HB hb; clear hb hbox hg; have hcz11_0 : w10.cell? ⟨gb137, 0, none⟩ = some (.int .i64 0) := bc_ BK137 0; have hcz11_1 : w10.cell? ⟨gb137, 1, none⟩ = some (.string (⟨#[]⟩ : ByteArray)) := bc_ BK137 1; have hcz11_2 : w10.cell? ⟨gb137, 2, none⟩ = some (.int .i64 0) := bc_ BK137 2; have hcz11_3 : w10.cell? ⟨gb137, 3, none⟩ = some (.int .i64 0) := bc_ BK137 3; have hcz11_4 : w10.cell? ⟨gb137, 4, none⟩ = some (.int .i64 0) := bc_ BK137 4; have hcz11_5 : w10.cell? ⟨gb137, 5, none⟩ = some (.int .i64 0) := bc_ BK137 5; have hcz11_6 : w10.cell? ⟨gb137, 6, none⟩ = some (.int .i64 0) := bc_ BK137 6; have hfz11_0 := blk_frozen BK137.1 0; have hfz11_1 := blk_frozen BK137.1 1; have hfz11_2 := blk_frozen BK137.1 2; have hfz11_3 := blk_frozen BK137.1 3; have hfz11_4 := blk_frozen BK137.1 4; have hfz11_5 := blk_frozen BK137.1 5; have hfz11_6 := blk_frozen BK137.1 6))); (go_cut [20] (fun v20 wc => ∃ (kq : Nat) (x20_8 : Bool), v20 = .bool x20_8 ∧ Aside0 (boxpack_plan.j1 kq l0 x3_1 x13_1 l0 (l0.length : Int) x13_1 ((rd_T61 l0 x13_1).f0) x20_8 ((rd_T61 l0 x13_1).f0) ((rd_T61 l0 x13_1).f1) ((rd_T61 l0 x13_1).f2) ((rd_T61 l0 x13_1).f3) ((rd_T61 l0 x13_1).f4) ((rd_T61 l0 x13_1).f5) ((rd_T61 l0 x13_1).f6) = some r) ∧ Aside0 (kq ≤ k1) ∧ Aside0 (Kd.R (Kd.int .i64) 3 wc w.heap.size (fun _ => True) v129 x3_1) ∧ Aside0 (wc.heap[gb137]? = some (.cells #[.int .i64 ((rd_T61 l0 x13_1).f0), .string ((rd_T61 l0 x13_1).f1), .int .i64 ((rd_T61 l0 x13_1).f2), .int .i64 ((rd_T61 l0 x13_1).f3), .int .i64 ((rd_T61 l0 x13_1).f4), .int .i64 ((rd_T61 l0 x13_1).f5), .int .i64 ((rd_T61 l0 x13_1).f6)] 61 (0, 0))) ∧ Aside0 (Below w.heap.size w wc)))
       case first =>
        have H := HC9.1; clear HC9; (by_cases c12 : ((rd_T61 l0 x13_1).f0) = 0)
        ·rw [if_pos c12] at H
         have c12b0 := beq_iff_eq.mpr c12; have c12b1 := bne_eq_false_iff_eq.mpr c12; clear c12; ((rw [c12b0])); have H' := ak H; clear H; (go_wp2); (go_meet)
         case rel => exact ⟨_, ((((rd_T61 l0 x13_1).f0) == 0)), (by (simp [*]; done)), H', ⟨by have := HK1.1; omega⟩, ⟨by exact Kd.R_mono (Kd.R_far (p := ⟨gb137, 6, none⟩) (Kd.R_far (p := ⟨gb137, 5, none⟩) (Kd.R_far (p := ⟨gb137, 4, none⟩) (Kd.R_far (p := ⟨gb137, 3, none⟩) (Kd.R_far (p := ⟨gb137, 2, none⟩) (Kd.R_far (p := ⟨gb137, 1, none⟩) (Kd.R_far (p := ⟨gb137, 0, none⟩) (Kd.R_types HO_3.1 BK137.1 (by decide)) (fun _ hk => hk.2) (.int .i64 ((rd_T61 l0 x13_1).f0))) (fun _ hk => hk.2) (.string ((rd_T61 l0 x13_1).f1))) (fun _ hk => hk.2) (.int .i64 ((rd_T61 l0 x13_1).f2))) (fun _ hk => hk.2) (.int .i64 ((rd_T61 l0 x13_1).f3))) (fun _ hk => hk.2) (.int .i64 ((rd_T61 l0 x13_1).f4))) (fun _ hk => hk.2) (.int .i64 ((rd_T61 l0 x13_1).f5))) (fun _ hk => hk.2) (.int .i64 ((rd_T61 l0 x13_1).f6))) (fun _ hk => trivial)⟩, ⟨by refine blk_put (cs := #[.int .i64 ((rd_T61 l0 x13_1).f0), .string ((rd_T61 l0 x13_1).f1), .int .i64 ((rd_T61 l0 x13_1).f2), .int .i64 ((rd_T61 l0 x13_1).f3), .int .i64 ((rd_T61 l0 x13_1).f4), .int .i64 ((rd_T61 l0 x13_1).f5), .int .i64 0]) ?_ 6 _ rfl; refine blk_put (cs := #[.int .i64 ((rd_T61 l0 x13_1).f0), .string ((rd_T61 l0 x13_1).f1), .int .i64 ((rd_T61 l0 x13_1).f2), .int .i64 ((rd_T61 l0 x13_1).f3), .int .i64 ((rd_T61 l0 x13_1).f4), .int .i64 0, .int .i64 0]) ?_ 5 _ rfl; refine blk_put (cs := #[.int .i64 ((rd_T61 l0 x13_1).f0), .string ((rd_T61 l0 x13_1).f1), .int .i64 ((rd_T61 l0 x13_1).f2), .int .i64 ((rd_T61 l0 x13_1).f3), .int .i64 0, .int .i64 0, .int .i64 0]) ?_ 4 _ rfl; refine blk_put (cs := #[.int .i64 ((rd_T61 l0 x13_1).f0), .string ((rd_T61 l0 x13_1).f1), .int .i64 ((rd_T61 l0 x13_1).f2), .int .i64 0, .int .i64 0, .int .i64 0, .int .i64 0]) ?_ 3 _ rfl; refine blk_put (cs := #[.int .i64 ((rd_T61 l0 x13_1).f0), .string ((rd_T61 l0 x13_1).f1), .int .i64 0, .int .i64 0, .int .i64 0, .int .i64 0, .int .i64 0]) ?_ 2 _ rfl; refine blk_put (cs := #[.int .i64 ((rd_T61 l0 x13_1).f0), .string (⟨#[]⟩ : ByteArray), .int .i64 0, .int .i64 0, .int .i64 0, .int .i64 0, .int .i64 0]) ?_ 1 _ rfl; refine blk_put (cs := #[.int .i64 0, .string (⟨#[]⟩ : ByteArray), .int .i64 0, .int .i64 0, .int .i64 0, .int .i64 0, .int .i64 0]) ?_ 0 _ rfl; exact BK137.1⟩, ⟨hb_ HB⟩⟩
        rw [if_neg c12] at H
        have c12b0 := beq_eq_false_iff_ne.mpr c12; have c12b1 := bne_iff_ne.mpr c12; ((rw [c12b0])); (by_cases c13 : ((rd_T61 l0 x13_1).f0) = 1)
        ·rw [if_pos c13] at H
         have c13b0 := beq_iff_eq.mpr c13; have c13b1 := bne_eq_false_iff_eq.mpr c13; clear c13; have H' := ak H; clear H; (go_wp2); (go_meet)
         case rel => exact ⟨_, ((((rd_T61 l0 x13_1).f0) == 1)), (by (simp [*]; done)), H', ⟨by have := HK1.1; omega⟩, ⟨by exact Kd.R_mono (Kd.R_far (p := ⟨gb137, 6, none⟩) (Kd.R_far (p := ⟨gb137, 5, none⟩) (Kd.R_far (p := ⟨gb137, 4, none⟩) (Kd.R_far (p := ⟨gb137, 3, none⟩) (Kd.R_far (p := ⟨gb137, 2, none⟩) (Kd.R_far (p := ⟨gb137, 1, none⟩) (Kd.R_far (p := ⟨gb137, 0, none⟩) (Kd.R_types HO_3.1 BK137.1 (by decide)) (fun _ hk => hk.2) (.int .i64 ((rd_T61 l0 x13_1).f0))) (fun _ hk => hk.2) (.string ((rd_T61 l0 x13_1).f1))) (fun _ hk => hk.2) (.int .i64 ((rd_T61 l0 x13_1).f2))) (fun _ hk => hk.2) (.int .i64 ((rd_T61 l0 x13_1).f3))) (fun _ hk => hk.2) (.int .i64 ((rd_T61 l0 x13_1).f4))) (fun _ hk => hk.2) (.int .i64 ((rd_T61 l0 x13_1).f5))) (fun _ hk => hk.2) (.int .i64 ((rd_T61 l0 x13_1).f6))) (fun _ hk => trivial)⟩, ⟨by refine blk_put (cs := #[.int .i64 ((rd_T61 l0 x13_1).f0), .string ((rd_T61 l0 x13_1).f1), .int .i64 ((rd_T61 l0 x13_1).f2), .int .i64 ((rd_T61 l0 x13_1).f3), .int .i64 ((rd_T61 l0 x13_1).f4), .int .i64 ((rd_T61 l0 x13_1).f5), .int .i64 0]) ?_ 6 _ rfl; refine blk_put (cs := #[.int .i64 ((rd_T61 l0 x13_1).f0), .string ((rd_T61 l0 x13_1).f1), .int .i64 ((rd_T61 l0 x13_1).f2), .int .i64 ((rd_T61 l0 x13_1).f3), .int .i64 ((rd_T61 l0 x13_1).f4), .int .i64 0, .int .i64 0]) ?_ 5 _ rfl; refine blk_put (cs := #[.int .i64 ((rd_T61 l0 x13_1).f0), .string ((rd_T61 l0 x13_1).f1), .int .i64 ((rd_T61 l0 x13_1).f2), .int .i64 ((rd_T61 l0 x13_1).f3), .int .i64 0, .int .i64 0, .int .i64 0]) ?_ 4 _ rfl; refine blk_put (cs := #[.int .i64 ((rd_T61 l0 x13_1).f0), .string ((rd_T61 l0 x13_1).f1), .int .i64 ((rd_T61 l0 x13_1).f2), .int .i64 0, .int .i64 0, .int .i64 0, .int .i64 0]) ?_ 3 _ rfl; refine blk_put (cs := #[.int .i64 ((rd_T61 l0 x13_1).f0), .string ((rd_T61 l0 x13_1).f1), .int .i64 0, .int .i64 0, .int .i64 0, .int .i64 0, .int .i64 0]) ?_ 2 _ rfl; refine blk_put (cs := #[.int .i64 ((rd_T61 l0 x13_1).f0), .string (⟨#[]⟩ : ByteArray), .int .i64 0, .int .i64 0, .int .i64 0, .int .i64 0, .int .i64 0]) ?_ 1 _ rfl; refine blk_put (cs := #[.int .i64 0, .string (⟨#[]⟩ : ByteArray), .int .i64 0, .int .i64 0, .int .i64 0, .int .i64 0, .int .i64 0]) ?_ 0 _ rfl; exact BK137.1⟩, ⟨hb_ HB⟩⟩
        rw [if_neg c13] at H
        have c13b0 := beq_eq_false_iff_ne.mpr c13; have c13b1 := bne_iff_ne.mpr c13; have H' := ak H; clear H; (go_wp2); (go_meet)
        case rel => exact ⟨_, ((((rd_T61 l0 x13_1).f0) == 2)), (by rfl), H', ⟨by have := HK1.1; omega⟩, ⟨by exact Kd.R_mono (Kd.R_far (p := ⟨gb137, 6, none⟩) (Kd.R_far (p := ⟨gb137, 5, none⟩) (Kd.R_far (p := ⟨gb137, 4, none⟩) (Kd.R_far (p := ⟨gb137, 3, none⟩) (Kd.R_far (p := ⟨gb137, 2, none⟩) (Kd.R_far (p := ⟨gb137, 1, none⟩) (Kd.R_far (p := ⟨gb137, 0, none⟩) (Kd.R_types HO_3.1 BK137.1 (by decide)) (fun _ hk => hk.2) (.int .i64 ((rd_T61 l0 x13_1).f0))) (fun _ hk => hk.2) (.string ((rd_T61 l0 x13_1).f1))) (fun _ hk => hk.2) (.int .i64 ((rd_T61 l0 x13_1).f2))) (fun _ hk => hk.2) (.int .i64 ((rd_T61 l0 x13_1).f3))) (fun _ hk => hk.2) (.int .i64 ((rd_T61 l0 x13_1).f4))) (fun _ hk => hk.2) (.int .i64 ((rd_T61 l0 x13_1).f5))) (fun _ hk => hk.2) (.int .i64 ((rd_T61 l0 x13_1).f6))) (fun _ hk => trivial)⟩, ⟨by refine blk_put (cs := #[.int .i64 ((rd_T61 l0 x13_1).f0), .string ((rd_T61 l0 x13_1).f1), .int .i64 ((rd_T61 l0 x13_1).f2), .int .i64 ((rd_T61 l0 x13_1).f3), .int .i64 ((rd_T61 l0 x13_1).f4), .int .i64 ((rd_T61 l0 x13_1).f5), .int .i64 0]) ?_ 6 _ rfl; refine blk_put (cs := #[.int .i64 ((rd_T61 l0 x13_1).f0), .string ((rd_T61 l0 x13_1).f1), .int .i64 ((rd_T61 l0 x13_1).f2), .int .i64 ((rd_T61 l0 x13_1).f3), .int .i64 ((rd_T61 l0 x13_1).f4), .int .i64 0, .int .i64 0]) ?_ 5 _ rfl; refine blk_put (cs := #[.int .i64 ((rd_T61 l0 x13_1).f0), .string ((rd_T61 l0 x13_1).f1), .int .i64 ((rd_T61 l0 x13_1).f2), .int .i64 ((rd_T61 l0 x13_1).f3), .int .i64 0, .int .i64 0, .int .i64 0]) ?_ 4 _ rfl; refine blk_put (cs := #[.int .i64 ((rd_T61 l0 x13_1).f0), .string ((rd_T61 l0 x13_1).f1), .int .i64 ((rd_T61 l0 x13_1).f2), .int .i64 0, .int .i64 0, .int .i64 0, .int .i64 0]) ?_ 3 _ rfl; refine blk_put (cs := #[.int .i64 ((rd_T61 l0 x13_1).f0), .string ((rd_T61 l0 x13_1).f1), .int .i64 0, .int .i64 0, .int .i64 0, .int .i64 0, .int .i64 0]) ?_ 2 _ rfl; refine blk_put (cs := #[.int .i64 ((rd_T61 l0 x13_1).f0), .string (⟨#[]⟩ : ByteArray), .int .i64 0, .int .i64 0, .int .i64 0, .int .i64 0, .int .i64 0]) ?_ 1 _ rfl; refine blk_put (cs := #[.int .i64 0, .string (⟨#[]⟩ : ByteArray), .int .i64 0, .int .i64 0, .int .i64 0, .int .i64 0, .int .i64 0]) ?_ 0 _ rfl; exact BK137.1⟩, ⟨hb_ HB⟩⟩
       clear HC9; (try clear c6b0); (try clear c7b0); (try clear c8b0); (try clear hcz11_0); (try clear hcz11_1); (try clear hcz11_2); (try clear hcz11_3); (try clear hcz11_4); (try clear hcz11_5); (try clear hcz11_6); (try clear hfz11_0); (try clear hfz11_1); (try clear hfz11_2); (try clear hfz11_3); (try clear hfz11_4); (try clear hfz11_5); (try clear hfz11_6); (try clear hx136_0); (try clear hx136_1); (try clear hx136_2); (try clear hx136_3); (try clear hx136_4); (try clear hx136_5); (try clear hx136_6); (try clear p136); (try clear q136); obtain ⟨kq, x20_8, rfl, HA, HJ8, HO_3, BK137, HB⟩ := hcut
       cases kq with
       | zero => exact absurd HA.1 (by simp [boxpack_plan.j1])
       | succ kj8 =>
        have H := HA.1; clear HA; simp only [boxpack_plan.j1] at H; (by_cases c14 : x20_8 = true)
        ·subst c14
         (replace H : (if ((rd_T61 l0 x13_1).f2) = 0 then (if ((rd_T61 l0 x13_1).f3) = 0 then (if ((rd_T61 l0 x13_1).f4) = 0 then (if ((rd_T61 l0 x13_1).f5) = 0 then (if ((rd_T61 l0 x13_1).f6) = 0 then (if ((rd_T61 l0 x13_1).f0) = 0 then (if ((rd_T61 l0 x13_1).f1).toList = ([] : List UInt8) then (boxpack_plan.l0 kj8 l0 x3_1 l0 (l0.length : Int) (wrap64 (x13_1 + 1))) else (some false)) else (boxpack_plan.l0 kj8 l0 x3_1 l0 (l0.length : Int) (wrap64 (x13_1 + 1)))) else (some false)) else (some false)) else (some false)) else (some false)) else (some false)) = some r := by rw [if_pos rfl] at H; exact H); (by_cases c15 : ((rd_T61 l0 x13_1).f2) = 0)
         ·rw [if_pos c15] at H
          have c15b0 := beq_iff_eq.mpr c15; have c15b1 := bne_eq_false_iff_eq.mpr c15; clear c15; (by_cases c16 : ((rd_T61 l0 x13_1).f3) = 0)
          ·rw [if_pos c16] at H
           have c16b0 := beq_iff_eq.mpr c16; have c16b1 := bne_eq_false_iff_eq.mpr c16; clear c16; (by_cases c17 : ((rd_T61 l0 x13_1).f4) = 0)
           ·rw [if_pos c17] at H
            have c17b0 := beq_iff_eq.mpr c17; have c17b1 := bne_eq_false_iff_eq.mpr c17; clear c17; (by_cases c18 : ((rd_T61 l0 x13_1).f5) = 0)
            ·rw [if_pos c18] at H
             have c18b0 := beq_iff_eq.mpr c18; have c18b1 := bne_eq_false_iff_eq.mpr c18; clear c18; (by_cases c19 : ((rd_T61 l0 x13_1).f6) = 0)
             ·rw [if_pos c19] at H
              have c19b0 := beq_iff_eq.mpr c19; have c19b1 := bne_eq_false_iff_eq.mpr c19; clear c19; (by_cases c20 : ((rd_T61 l0 x13_1).f0) = 0)
              ·rw [if_pos c20] at H
               have c20b0 := beq_iff_eq.mpr c20; have c20b1 := bne_eq_false_iff_eq.mpr c20; clear c20; (by_cases c21 : ((rd_T61 l0 x13_1).f1).toList = ([] : List UInt8))
               ·rw [if_pos c21] at H
                have c21b0 := beq_iff_eq.mpr c21; have c21b1 := bne_eq_false_iff_eq.mpr c21; clear c21; have H' := ak H; clear H; have hcz22_0 : wc.cell? ⟨gb137, 0, none⟩ = some (.int .i64 ((rd_T61 l0 x13_1).f0)) := bc_ BK137 0; have hcz22_1 : wc.cell? ⟨gb137, 1, none⟩ = some (.string ((rd_T61 l0 x13_1).f1)) := bc_ BK137 1; have hcz22_2 : wc.cell? ⟨gb137, 2, none⟩ = some (.int .i64 ((rd_T61 l0 x13_1).f2)) := bc_ BK137 2; have hcz22_3 : wc.cell? ⟨gb137, 3, none⟩ = some (.int .i64 ((rd_T61 l0 x13_1).f3)) := bc_ BK137 3; have hcz22_4 : wc.cell? ⟨gb137, 4, none⟩ = some (.int .i64 ((rd_T61 l0 x13_1).f4)) := bc_ BK137 4; have hcz22_5 : wc.cell? ⟨gb137, 5, none⟩ = some (.int .i64 ((rd_T61 l0 x13_1).f5)) := bc_ BK137 5; have hcz22_6 : wc.cell? ⟨gb137, 6, none⟩ = some (.int .i64 ((rd_T61 l0 x13_1).f6)) := bc_ BK137 6; have hfz22_0 := blk_frozen BK137.1 0; have hfz22_1 := blk_frozen BK137.1 1; have hfz22_2 := blk_frozen BK137.1 2; have hfz22_3 := blk_frozen BK137.1 3; have hfz22_4 := blk_frozen BK137.1 4; have hfz22_5 := blk_frozen BK137.1 5; have hfz22_6 := blk_frozen BK137.1 6; (go_wp2); (go_roundg kj8)
                case measure => have := HK1.1; have := HJ8.1; omega
                case rel => exact ⟨(x3_1), (wrap64 (x13_1 + 1)), (by rfl), H', ⟨by have := HK1.1; have := HJ8.1; omega⟩, ⟨by exact HO_3.1⟩, ⟨hb_ HB⟩⟩
               rw [if_neg c21] at H; have c21b0 := beq_eq_false_iff_ne.mpr c21; have c21b1 := bne_iff_ne.mpr c21; obtain rfl := Option.some.inj H; have hcz23_0 : wc.cell? ⟨gb137, 0, none⟩ = some (.int .i64 ((rd_T61 l0 x13_1).f0)) := bc_ BK137 0; have hcz23_1 : wc.cell? ⟨gb137, 1, none⟩ = some (.string ((rd_T61 l0 x13_1).f1)) := bc_ BK137 1; have hcz23_2 : wc.cell? ⟨gb137, 2, none⟩ = some (.int .i64 ((rd_T61 l0 x13_1).f2)) := bc_ BK137 2; have hcz23_3 : wc.cell? ⟨gb137, 3, none⟩ = some (.int .i64 ((rd_T61 l0 x13_1).f3)) := bc_ BK137 3; have hcz23_4 : wc.cell? ⟨gb137, 4, none⟩ = some (.int .i64 ((rd_T61 l0 x13_1).f4)) := bc_ BK137 4; have hcz23_5 : wc.cell? ⟨gb137, 5, none⟩ = some (.int .i64 ((rd_T61 l0 x13_1).f5)) := bc_ BK137 5; have hcz23_6 : wc.cell? ⟨gb137, 6, none⟩ = some (.int .i64 ((rd_T61 l0 x13_1).f6)) := bc_ BK137 6; have hfz23_0 := blk_frozen BK137.1 0; have hfz23_1 := blk_frozen BK137.1 1; have hfz23_2 := blk_frozen BK137.1 2; have hfz23_3 := blk_frozen BK137.1 3; have hfz23_4 := blk_frozen BK137.1 4; have hfz23_5 := blk_frozen BK137.1 5; have hfz23_6 := blk_frozen BK137.1 6; (go_wp2); (go_ret); (exact ⟨by rfl, hb_ HB⟩)
              rw [if_neg c20] at H
              have c20b0 := beq_eq_false_iff_ne.mpr c20; have c20b1 := bne_iff_ne.mpr c20; have H' := ak H; clear H; have hcz24_0 : wc.cell? ⟨gb137, 0, none⟩ = some (.int .i64 ((rd_T61 l0 x13_1).f0)) := bc_ BK137 0; have hcz24_1 : wc.cell? ⟨gb137, 1, none⟩ = some (.string ((rd_T61 l0 x13_1).f1)) := bc_ BK137 1; have hcz24_2 : wc.cell? ⟨gb137, 2, none⟩ = some (.int .i64 ((rd_T61 l0 x13_1).f2)) := bc_ BK137 2; have hcz24_3 : wc.cell? ⟨gb137, 3, none⟩ = some (.int .i64 ((rd_T61 l0 x13_1).f3)) := bc_ BK137 3; have hcz24_4 : wc.cell? ⟨gb137, 4, none⟩ = some (.int .i64 ((rd_T61 l0 x13_1).f4)) := bc_ BK137 4; have hcz24_5 : wc.cell? ⟨gb137, 5, none⟩ = some (.int .i64 ((rd_T61 l0 x13_1).f5)) := bc_ BK137 5; have hcz24_6 : wc.cell? ⟨gb137, 6, none⟩ = some (.int .i64 ((rd_T61 l0 x13_1).f6)) := bc_ BK137 6; have hfz24_0 := blk_frozen BK137.1 0; have hfz24_1 := blk_frozen BK137.1 1; have hfz24_2 := blk_frozen BK137.1 2; have hfz24_3 := blk_frozen BK137.1 3; have hfz24_4 := blk_frozen BK137.1 4; have hfz24_5 := blk_frozen BK137.1 5; have hfz24_6 := blk_frozen BK137.1 6; (go_wp2); (go_roundg kj8)
              case measure => have := HK1.1; have := HJ8.1; omega
              case rel => exact ⟨(x3_1), (wrap64 (x13_1 + 1)), (by rfl), H', ⟨by have := HK1.1; have := HJ8.1; omega⟩, ⟨by exact HO_3.1⟩, ⟨hb_ HB⟩⟩
             rw [if_neg c19] at H; have c19b0 := beq_eq_false_iff_ne.mpr c19; have c19b1 := bne_iff_ne.mpr c19; obtain rfl := Option.some.inj H; have hcz25_0 : wc.cell? ⟨gb137, 0, none⟩ = some (.int .i64 ((rd_T61 l0 x13_1).f0)) := bc_ BK137 0; have hcz25_1 : wc.cell? ⟨gb137, 1, none⟩ = some (.string ((rd_T61 l0 x13_1).f1)) := bc_ BK137 1; have hcz25_2 : wc.cell? ⟨gb137, 2, none⟩ = some (.int .i64 ((rd_T61 l0 x13_1).f2)) := bc_ BK137 2; have hcz25_3 : wc.cell? ⟨gb137, 3, none⟩ = some (.int .i64 ((rd_T61 l0 x13_1).f3)) := bc_ BK137 3; have hcz25_4 : wc.cell? ⟨gb137, 4, none⟩ = some (.int .i64 ((rd_T61 l0 x13_1).f4)) := bc_ BK137 4; have hcz25_5 : wc.cell? ⟨gb137, 5, none⟩ = some (.int .i64 ((rd_T61 l0 x13_1).f5)) := bc_ BK137 5; have hcz25_6 : wc.cell? ⟨gb137, 6, none⟩ = some (.int .i64 ((rd_T61 l0 x13_1).f6)) := bc_ BK137 6; have hfz25_0 := blk_frozen BK137.1 0; have hfz25_1 := blk_frozen BK137.1 1; have hfz25_2 := blk_frozen BK137.1 2; have hfz25_3 := blk_frozen BK137.1 3; have hfz25_4 := blk_frozen BK137.1 4; have hfz25_5 := blk_frozen BK137.1 5; have hfz25_6 := blk_frozen BK137.1 6; (go_wp2); (go_ret); (exact ⟨by rfl, hb_ HB⟩)
            rw [if_neg c18] at H; have c18b0 := beq_eq_false_iff_ne.mpr c18; have c18b1 := bne_iff_ne.mpr c18; obtain rfl := Option.some.inj H; have hcz26_0 : wc.cell? ⟨gb137, 0, none⟩ = some (.int .i64 ((rd_T61 l0 x13_1).f0)) := bc_ BK137 0; have hcz26_1 : wc.cell? ⟨gb137, 1, none⟩ = some (.string ((rd_T61 l0 x13_1).f1)) := bc_ BK137 1; have hcz26_2 : wc.cell? ⟨gb137, 2, none⟩ = some (.int .i64 ((rd_T61 l0 x13_1).f2)) := bc_ BK137 2; have hcz26_3 : wc.cell? ⟨gb137, 3, none⟩ = some (.int .i64 ((rd_T61 l0 x13_1).f3)) := bc_ BK137 3; have hcz26_4 : wc.cell? ⟨gb137, 4, none⟩ = some (.int .i64 ((rd_T61 l0 x13_1).f4)) := bc_ BK137 4; have hcz26_5 : wc.cell? ⟨gb137, 5, none⟩ = some (.int .i64 ((rd_T61 l0 x13_1).f5)) := bc_ BK137 5; have hcz26_6 : wc.cell? ⟨gb137, 6, none⟩ = some (.int .i64 ((rd_T61 l0 x13_1).f6)) := bc_ BK137 6; have hfz26_0 := blk_frozen BK137.1 0; have hfz26_1 := blk_frozen BK137.1 1; have hfz26_2 := blk_frozen BK137.1 2; have hfz26_3 := blk_frozen BK137.1 3; have hfz26_4 := blk_frozen BK137.1 4; have hfz26_5 := blk_frozen BK137.1 5; have hfz26_6 := blk_frozen BK137.1 6; (go_wp2); (go_ret); (exact ⟨by rfl, hb_ HB⟩)
           rw [if_neg c17] at H; have c17b0 := beq_eq_false_iff_ne.mpr c17; have c17b1 := bne_iff_ne.mpr c17; obtain rfl := Option.some.inj H; have hcz27_0 : wc.cell? ⟨gb137, 0, none⟩ = some (.int .i64 ((rd_T61 l0 x13_1).f0)) := bc_ BK137 0; have hcz27_1 : wc.cell? ⟨gb137, 1, none⟩ = some (.string ((rd_T61 l0 x13_1).f1)) := bc_ BK137 1; have hcz27_2 : wc.cell? ⟨gb137, 2, none⟩ = some (.int .i64 ((rd_T61 l0 x13_1).f2)) := bc_ BK137 2; have hcz27_3 : wc.cell? ⟨gb137, 3, none⟩ = some (.int .i64 ((rd_T61 l0 x13_1).f3)) := bc_ BK137 3; have hcz27_4 : wc.cell? ⟨gb137, 4, none⟩ = some (.int .i64 ((rd_T61 l0 x13_1).f4)) := bc_ BK137 4; have hcz27_5 : wc.cell? ⟨gb137, 5, none⟩ = some (.int .i64 ((rd_T61 l0 x13_1).f5)) := bc_ BK137 5; have hcz27_6 : wc.cell? ⟨gb137, 6, none⟩ = some (.int .i64 ((rd_T61 l0 x13_1).f6)) := bc_ BK137 6; have hfz27_0 := blk_frozen BK137.1 0; have hfz27_1 := blk_frozen BK137.1 1; have hfz27_2 := blk_frozen BK137.1 2; have hfz27_3 := blk_frozen BK137.1 3; have hfz27_4 := blk_frozen BK137.1 4; have hfz27_5 := blk_frozen BK137.1 5; have hfz27_6 := blk_frozen BK137.1 6; (go_wp2); (go_ret); (exact ⟨by rfl, hb_ HB⟩)
          rw [if_neg c16] at H; have c16b0 := beq_eq_false_iff_ne.mpr c16; have c16b1 := bne_iff_ne.mpr c16; obtain rfl := Option.some.inj H; have hcz28_0 : wc.cell? ⟨gb137, 0, none⟩ = some (.int .i64 ((rd_T61 l0 x13_1).f0)) := bc_ BK137 0; have hcz28_1 : wc.cell? ⟨gb137, 1, none⟩ = some (.string ((rd_T61 l0 x13_1).f1)) := bc_ BK137 1; have hcz28_2 : wc.cell? ⟨gb137, 2, none⟩ = some (.int .i64 ((rd_T61 l0 x13_1).f2)) := bc_ BK137 2; have hcz28_3 : wc.cell? ⟨gb137, 3, none⟩ = some (.int .i64 ((rd_T61 l0 x13_1).f3)) := bc_ BK137 3; have hcz28_4 : wc.cell? ⟨gb137, 4, none⟩ = some (.int .i64 ((rd_T61 l0 x13_1).f4)) := bc_ BK137 4; have hcz28_5 : wc.cell? ⟨gb137, 5, none⟩ = some (.int .i64 ((rd_T61 l0 x13_1).f5)) := bc_ BK137 5; have hcz28_6 : wc.cell? ⟨gb137, 6, none⟩ = some (.int .i64 ((rd_T61 l0 x13_1).f6)) := bc_ BK137 6; have hfz28_0 := blk_frozen BK137.1 0; have hfz28_1 := blk_frozen BK137.1 1; have hfz28_2 := blk_frozen BK137.1 2; have hfz28_3 := blk_frozen BK137.1 3; have hfz28_4 := blk_frozen BK137.1 4; have hfz28_5 := blk_frozen BK137.1 5; have hfz28_6 := blk_frozen BK137.1 6; (go_wp2); (go_ret); (exact ⟨by rfl, hb_ HB⟩)
         rw [if_neg c15] at H; have c15b0 := beq_eq_false_iff_ne.mpr c15; have c15b1 := bne_iff_ne.mpr c15; obtain rfl := Option.some.inj H; have hcz29_0 : wc.cell? ⟨gb137, 0, none⟩ = some (.int .i64 ((rd_T61 l0 x13_1).f0)) := bc_ BK137 0; have hcz29_1 : wc.cell? ⟨gb137, 1, none⟩ = some (.string ((rd_T61 l0 x13_1).f1)) := bc_ BK137 1; have hcz29_2 : wc.cell? ⟨gb137, 2, none⟩ = some (.int .i64 ((rd_T61 l0 x13_1).f2)) := bc_ BK137 2; have hcz29_3 : wc.cell? ⟨gb137, 3, none⟩ = some (.int .i64 ((rd_T61 l0 x13_1).f3)) := bc_ BK137 3; have hcz29_4 : wc.cell? ⟨gb137, 4, none⟩ = some (.int .i64 ((rd_T61 l0 x13_1).f4)) := bc_ BK137 4; have hcz29_5 : wc.cell? ⟨gb137, 5, none⟩ = some (.int .i64 ((rd_T61 l0 x13_1).f5)) := bc_ BK137 5; have hcz29_6 : wc.cell? ⟨gb137, 6, none⟩ = some (.int .i64 ((rd_T61 l0 x13_1).f6)) := bc_ BK137 6; have hfz29_0 := blk_frozen BK137.1 0; have hfz29_1 := blk_frozen BK137.1 1; have hfz29_2 := blk_frozen BK137.1 2; have hfz29_3 := blk_frozen BK137.1 3; have hfz29_4 := blk_frozen BK137.1 4; have hfz29_5 := blk_frozen BK137.1 5; have hfz29_6 := blk_frozen BK137.1 6; (go_wp2); (go_ret); (exact ⟨by rfl, hb_ HB⟩)
        replace c14 := Bool.eq_false_iff.mpr c14
        subst c14; (replace H : (if ((rd_T61 l0 x13_1).f0) = 3 then (if ((rd_T61 l0 x13_1).f2) < 0 then (boxpack_plan.j2 kj8 l0 x3_1 x13_1 l0 (l0.length : Int) x13_1 true ((rd_T61 l0 x13_1).f0) ((rd_T61 l0 x13_1).f1) ((rd_T61 l0 x13_1).f2) ((rd_T61 l0 x13_1).f3) ((rd_T61 l0 x13_1).f4) ((rd_T61 l0 x13_1).f5) ((rd_T61 l0 x13_1).f6)) else (if ((rd_T61 l0 x13_1).f2) > 2 then (boxpack_plan.j2 kj8 l0 x3_1 x13_1 l0 (l0.length : Int) x13_1 true ((rd_T61 l0 x13_1).f0) ((rd_T61 l0 x13_1).f1) ((rd_T61 l0 x13_1).f2) ((rd_T61 l0 x13_1).f3) ((rd_T61 l0 x13_1).f4) ((rd_T61 l0 x13_1).f5) ((rd_T61 l0 x13_1).f6)) else (if ((rd_T61 l0 x13_1).f1).toList = ([] : List UInt8) then (boxpack_plan.j2 kj8 l0 x3_1 x13_1 l0 (l0.length : Int) x13_1 (((rd_T61 l0 x13_1).f5) == ((rd_T61 l0 x13_1).f6)) ((rd_T61 l0 x13_1).f0) ((rd_T61 l0 x13_1).f1) ((rd_T61 l0 x13_1).f2) ((rd_T61 l0 x13_1).f3) ((rd_T61 l0 x13_1).f4) ((rd_T61 l0 x13_1).f5) ((rd_T61 l0 x13_1).f6)) else (boxpack_plan.j2 kj8 l0 x3_1 x13_1 l0 (l0.length : Int) x13_1 true ((rd_T61 l0 x13_1).f0) ((rd_T61 l0 x13_1).f1) ((rd_T61 l0 x13_1).f2) ((rd_T61 l0 x13_1).f3) ((rd_T61 l0 x13_1).f4) ((rd_T61 l0 x13_1).f5) ((rd_T61 l0 x13_1).f6))))) else (some false)) = some r := by rw [if_neg (show ¬ (false = true) by decide)] at H; exact H); (by_cases c30 : ((rd_T61 l0 x13_1).f0) = 3)
        ·rw [if_pos c30] at H
         have c30b0 := beq_iff_eq.mpr c30; have c30b1 := bne_eq_false_iff_eq.mpr c30; clear c30; have HC31 := ak H; clear H; (go_upto_region 13 with (fail)); (go_cut [78] (fun v78 wc => ∃ (kq : Nat) (x78_30 : Bool), v78 = .bool x78_30 ∧ Aside0 (boxpack_plan.j2 kq l0 x3_1 x13_1 l0 (l0.length : Int) x13_1 x78_30 ((rd_T61 l0 x13_1).f0) ((rd_T61 l0 x13_1).f1) ((rd_T61 l0 x13_1).f2) ((rd_T61 l0 x13_1).f3) ((rd_T61 l0 x13_1).f4) ((rd_T61 l0 x13_1).f5) ((rd_T61 l0 x13_1).f6) = some r) ∧ Aside0 (kq ≤ kj8) ∧ Aside0 (Kd.R (Kd.int .i64) 3 wc w.heap.size (fun _ => True) v129 x3_1) ∧ Aside0 (wc.heap[gb137]? = some (.cells #[.int .i64 ((rd_T61 l0 x13_1).f0), .string ((rd_T61 l0 x13_1).f1), .int .i64 ((rd_T61 l0 x13_1).f2), .int .i64 ((rd_T61 l0 x13_1).f3), .int .i64 ((rd_T61 l0 x13_1).f4), .int .i64 ((rd_T61 l0 x13_1).f5), .int .i64 ((rd_T61 l0 x13_1).f6)] 61 (0, 0))) ∧ Aside0 (Below w.heap.size w wc)))
         case first =>
          have H := HC31.1; clear HC31; (by_cases c32 : ((rd_T61 l0 x13_1).f2) < 0)
          ·rw [if_pos c32] at H
           have c32b0 := decide_eq_true c32; clear c32; have H' := ak H; clear H; have hcz33_0 : wc.cell? ⟨gb137, 0, none⟩ = some (.int .i64 ((rd_T61 l0 x13_1).f0)) := bc_ BK137 0; have hcz33_1 : wc.cell? ⟨gb137, 1, none⟩ = some (.string ((rd_T61 l0 x13_1).f1)) := bc_ BK137 1; have hcz33_2 : wc.cell? ⟨gb137, 2, none⟩ = some (.int .i64 ((rd_T61 l0 x13_1).f2)) := bc_ BK137 2; have hcz33_3 : wc.cell? ⟨gb137, 3, none⟩ = some (.int .i64 ((rd_T61 l0 x13_1).f3)) := bc_ BK137 3; have hcz33_4 : wc.cell? ⟨gb137, 4, none⟩ = some (.int .i64 ((rd_T61 l0 x13_1).f4)) := bc_ BK137 4; have hcz33_5 : wc.cell? ⟨gb137, 5, none⟩ = some (.int .i64 ((rd_T61 l0 x13_1).f5)) := bc_ BK137 5; have hcz33_6 : wc.cell? ⟨gb137, 6, none⟩ = some (.int .i64 ((rd_T61 l0 x13_1).f6)) := bc_ BK137 6; have hfz33_0 := blk_frozen BK137.1 0; have hfz33_1 := blk_frozen BK137.1 1; have hfz33_2 := blk_frozen BK137.1 2; have hfz33_3 := blk_frozen BK137.1 3; have hfz33_4 := blk_frozen BK137.1 4; have hfz33_5 := blk_frozen BK137.1 5; have hfz33_6 := blk_frozen BK137.1 6; (go_wp2); (go_meet)
           case rel => exact ⟨_, (true), (by rfl), H', ⟨by have := HK1.1; have := HJ8.1; omega⟩, ⟨by exact HO_3.1⟩, ⟨bk_ BK137⟩, ⟨hb_ HB⟩⟩
          rw [if_neg c32] at H
          have c32b0 := decide_eq_false c32; clear c32; (by_cases c34 : ((rd_T61 l0 x13_1).f2) > 2)
          ·rw [if_pos c34] at H
           have c34b0 := decide_eq_true c34; clear c34; have H' := ak H; clear H; have hcz35_0 : wc.cell? ⟨gb137, 0, none⟩ = some (.int .i64 ((rd_T61 l0 x13_1).f0)) := bc_ BK137 0; have hcz35_1 : wc.cell? ⟨gb137, 1, none⟩ = some (.string ((rd_T61 l0 x13_1).f1)) := bc_ BK137 1; have hcz35_2 : wc.cell? ⟨gb137, 2, none⟩ = some (.int .i64 ((rd_T61 l0 x13_1).f2)) := bc_ BK137 2; have hcz35_3 : wc.cell? ⟨gb137, 3, none⟩ = some (.int .i64 ((rd_T61 l0 x13_1).f3)) := bc_ BK137 3; have hcz35_4 : wc.cell? ⟨gb137, 4, none⟩ = some (.int .i64 ((rd_T61 l0 x13_1).f4)) := bc_ BK137 4; have hcz35_5 : wc.cell? ⟨gb137, 5, none⟩ = some (.int .i64 ((rd_T61 l0 x13_1).f5)) := bc_ BK137 5; have hcz35_6 : wc.cell? ⟨gb137, 6, none⟩ = some (.int .i64 ((rd_T61 l0 x13_1).f6)) := bc_ BK137 6; have hfz35_0 := blk_frozen BK137.1 0; have hfz35_1 := blk_frozen BK137.1 1; have hfz35_2 := blk_frozen BK137.1 2; have hfz35_3 := blk_frozen BK137.1 3; have hfz35_4 := blk_frozen BK137.1 4; have hfz35_5 := blk_frozen BK137.1 5; have hfz35_6 := blk_frozen BK137.1 6; (go_wp2); (go_meet)
           case rel => exact ⟨_, (true), (by rfl), H', ⟨by have := HK1.1; have := HJ8.1; omega⟩, ⟨by exact HO_3.1⟩, ⟨bk_ BK137⟩, ⟨hb_ HB⟩⟩
          rw [if_neg c34] at H
          have c34b0 := decide_eq_false c34; clear c34; (by_cases c36 : ((rd_T61 l0 x13_1).f1).toList = ([] : List UInt8))
          ·rw [if_pos c36] at H
           have c36b0 := beq_iff_eq.mpr c36; have c36b1 := bne_eq_false_iff_eq.mpr c36; clear c36; have H' := ak H; clear H; have hcz37_0 : wc.cell? ⟨gb137, 0, none⟩ = some (.int .i64 ((rd_T61 l0 x13_1).f0)) := bc_ BK137 0; have hcz37_1 : wc.cell? ⟨gb137, 1, none⟩ = some (.string ((rd_T61 l0 x13_1).f1)) := bc_ BK137 1; have hcz37_2 : wc.cell? ⟨gb137, 2, none⟩ = some (.int .i64 ((rd_T61 l0 x13_1).f2)) := bc_ BK137 2; have hcz37_3 : wc.cell? ⟨gb137, 3, none⟩ = some (.int .i64 ((rd_T61 l0 x13_1).f3)) := bc_ BK137 3; have hcz37_4 : wc.cell? ⟨gb137, 4, none⟩ = some (.int .i64 ((rd_T61 l0 x13_1).f4)) := bc_ BK137 4; have hcz37_5 : wc.cell? ⟨gb137, 5, none⟩ = some (.int .i64 ((rd_T61 l0 x13_1).f5)) := bc_ BK137 5; have hcz37_6 : wc.cell? ⟨gb137, 6, none⟩ = some (.int .i64 ((rd_T61 l0 x13_1).f6)) := bc_ BK137 6; have hfz37_0 := blk_frozen BK137.1 0; have hfz37_1 := blk_frozen BK137.1 1; have hfz37_2 := blk_frozen BK137.1 2; have hfz37_3 := blk_frozen BK137.1 3; have hfz37_4 := blk_frozen BK137.1 4; have hfz37_5 := blk_frozen BK137.1 5; have hfz37_6 := blk_frozen BK137.1 6; (go_wp2); (go_meet)
           case rel => exact ⟨_, ((((rd_T61 l0 x13_1).f5) == ((rd_T61 l0 x13_1).f6))), (by rfl), H', ⟨by have := HK1.1; have := HJ8.1; omega⟩, ⟨by exact HO_3.1⟩, ⟨bk_ BK137⟩, ⟨hb_ HB⟩⟩
          rw [if_neg c36] at H
          have c36b0 := beq_eq_false_iff_ne.mpr c36; have c36b1 := bne_iff_ne.mpr c36; have H' := ak H; clear H; have hcz38_0 : wc.cell? ⟨gb137, 0, none⟩ = some (.int .i64 ((rd_T61 l0 x13_1).f0)) := bc_ BK137 0; have hcz38_1 : wc.cell? ⟨gb137, 1, none⟩ = some (.string ((rd_T61 l0 x13_1).f1)) := bc_ BK137 1; have hcz38_2 : wc.cell? ⟨gb137, 2, none⟩ = some (.int .i64 ((rd_T61 l0 x13_1).f2)) := bc_ BK137 2; have hcz38_3 : wc.cell? ⟨gb137, 3, none⟩ = some (.int .i64 ((rd_T61 l0 x13_1).f3)) := bc_ BK137 3; have hcz38_4 : wc.cell? ⟨gb137, 4, none⟩ = some (.int .i64 ((rd_T61 l0 x13_1).f4)) := bc_ BK137 4; have hcz38_5 : wc.cell? ⟨gb137, 5, none⟩ = some (.int .i64 ((rd_T61 l0 x13_1).f5)) := bc_ BK137 5; have hcz38_6 : wc.cell? ⟨gb137, 6, none⟩ = some (.int .i64 ((rd_T61 l0 x13_1).f6)) := bc_ BK137 6; have hfz38_0 := blk_frozen BK137.1 0; have hfz38_1 := blk_frozen BK137.1 1; have hfz38_2 := blk_frozen BK137.1 2; have hfz38_3 := blk_frozen BK137.1 3; have hfz38_4 := blk_frozen BK137.1 4; have hfz38_5 := blk_frozen BK137.1 5; have hfz38_6 := blk_frozen BK137.1 6; (go_wp2); (go_meet)
          case rel => exact ⟨_, (true), (by rfl), H', ⟨by have := HK1.1; have := HJ8.1; omega⟩, ⟨by exact HO_3.1⟩, ⟨bk_ BK137⟩, ⟨hb_ HB⟩⟩
         clear HC31; (try clear c30b0); (try clear c30b1)
         obtain ⟨kq, x78_30, rfl, HA, HJ30, HO_3, BK137, HB⟩ := hcut
         cases kq with
         | zero => exact absurd HA.1 (by simp [boxpack_plan.j2])
         | succ kj30 =>
          have H := HA.1; clear HA; simp only [boxpack_plan.j2] at H; (by_cases c39 : x78_30 = true)
          ·subst c39; (replace H : (some false) = some r := by rw [if_pos rfl] at H; exact H); obtain rfl := Option.some.inj H; (go_wp2); (go_ret); (exact ⟨by rfl, hb_ HB⟩)
          replace c39 := Bool.eq_false_iff.mpr c39
          subst c39; (replace H : (boxpack_plan.l1 kj30 l0 x3_1 x13_1 l0 (l0.length : Int) x13_1 0 ((rd_T61 l0 x13_1).f5) ((rd_T61 l0 x13_1).f6)) = some r := by rw [if_neg (show ¬ (false = true) by decide)] at H; exact H); have H' := ak H; clear H; have hcz40_0 : wc.cell? ⟨gb137, 0, none⟩ = some (.int .i64 ((rd_T61 l0 x13_1).f0)) := bc_ BK137 0; have hcz40_1 : wc.cell? ⟨gb137, 1, none⟩ = some (.string ((rd_T61 l0 x13_1).f1)) := bc_ BK137 1; have hcz40_2 : wc.cell? ⟨gb137, 2, none⟩ = some (.int .i64 ((rd_T61 l0 x13_1).f2)) := bc_ BK137 2; have hcz40_3 : wc.cell? ⟨gb137, 3, none⟩ = some (.int .i64 ((rd_T61 l0 x13_1).f3)) := bc_ BK137 3; have hcz40_4 : wc.cell? ⟨gb137, 4, none⟩ = some (.int .i64 ((rd_T61 l0 x13_1).f4)) := bc_ BK137 4; have hcz40_5 : wc.cell? ⟨gb137, 5, none⟩ = some (.int .i64 ((rd_T61 l0 x13_1).f5)) := bc_ BK137 5; have hcz40_6 : wc.cell? ⟨gb137, 6, none⟩ = some (.int .i64 ((rd_T61 l0 x13_1).f6)) := bc_ BK137 6; have hfz40_0 := blk_frozen BK137.1 0; have hfz40_1 := blk_frozen BK137.1 1; have hfz40_2 := blk_frozen BK137.1 2; have hfz40_3 := blk_frozen BK137.1 3; have hfz40_4 := blk_frozen BK137.1 4; have hfz40_5 := blk_frozen BK137.1 5; have hfz40_6 := blk_frozen BK137.1 6; (go_wp2); (go_loopg [84] kj30 (fun kq v84 w' => ∃ (x3_4 : List Int) (x84_4 : Int), v84 = .int .i64 x84_4 ∧ Aside0 (boxpack_plan.l1 kq l0 x3_4 x13_1 l0 (l0.length : Int) x13_1 x84_4 ((rd_T61 l0 x13_1).f5) ((rd_T61 l0 x13_1).f6) = some r) ∧ Aside0 (kq ≤ kj30) ∧ Aside0 (Kd.R (Kd.int .i64) 3 w' w.heap.size (fun _ => True) v129 x3_4) ∧ Aside0 (w'.heap[gb137]? = some (.cells #[.int .i64 ((rd_T61 l0 x13_1).f0), .string ((rd_T61 l0 x13_1).f1), .int .i64 ((rd_T61 l0 x13_1).f2), .int .i64 ((rd_T61 l0 x13_1).f3), .int .i64 ((rd_T61 l0 x13_1).f4), .int .i64 ((rd_T61 l0 x13_1).f5), .int .i64 ((rd_T61 l0 x13_1).f6)] 61 (0, 0))) ∧ Aside0 (Below w.heap.size w w')))
          case atStart => exact ⟨(x3_1), (0), (by rfl), H', ⟨Nat.le_refl _⟩, ⟨by exact HO_3.1⟩, ⟨bk_ BK137⟩, ⟨hb_ HB⟩⟩
          clear H'; (try clear hcz40_0); (try clear hcz40_1); (try clear hcz40_2); (try clear hcz40_3); (try clear hcz40_4); (try clear hcz40_5); (try clear hcz40_6)
          (try clear hfz40_0); (try clear hfz40_1); (try clear hfz40_2); (try clear hfz40_3); (try clear hfz40_4); (try clear hfz40_5); (try clear hfz40_6); obtain ⟨x3_4, x84_4, rfl, HA, HK4, HO_3, BK137, HB⟩ := hrel
          cases gk with
          | zero => exact absurd HA.1 (by simp [boxpack_plan.l1])
          | succ k4 =>
           have H := HA.1; clear HA; simp only [boxpack_plan.l1] at H; (by_cases c41 : x84_4 < 2)
           ·rw [if_pos c41] at H
            have c41b0 := decide_eq_true c41; clear c41; (by_cases c42 : x84_4 = 0)
            ·subst c42
             (replace H : (if ((rd_T61 l0 x13_1).f5) ≤ x13_1 then (some false) else (if ((rd_T61 l0 x13_1).f5) ≥ (l0.length : Int) then (some false) else (if 0 ≤ ((rd_T61 l0 x13_1).f5) then (if ((rd_T61 l0 x13_1).f5) < (x3_4.length : Int) then (boxpack_plan.l1 k4 l0 (x3_4.set (((rd_T61 l0 x13_1).f5) : Int).toNat (wrap64 ((rd x3_4 ((rd_T61 l0 x13_1).f5)) + 1))) x13_1 l0 (l0.length : Int) x13_1 (0 + 1) ((rd_T61 l0 x13_1).f5) ((rd_T61 l0 x13_1).f6)) else (none)) else (none)))) = some r := by rw [if_pos rfl] at H; exact H); (by_cases c43 : ((rd_T61 l0 x13_1).f5) ≤ x13_1)
             ·rw [if_pos c43] at H; have c43b0 := decide_eq_true c43; clear c43; obtain rfl := Option.some.inj H; (go_wp2); (go_ret); (exact ⟨by rfl, hb_ HB⟩)
             rw [if_neg c43] at H
             have c43b0 := decide_eq_false c43; clear c43; (by_cases c44 : ((rd_T61 l0 x13_1).f5) ≥ (l0.length : Int))
             ·rw [if_pos c44] at H; have c44b0 := decide_eq_true c44; clear c44; obtain rfl := Option.some.inj H; (go_wp2); (go_ret); (exact ⟨by rfl, hb_ HB⟩)
             rw [if_neg c44] at H
             have c44b0 := decide_eq_false c44; clear c44; (by_cases c45 : 0 ≤ ((rd_T61 l0 x13_1).f5))
             ·rw [if_pos c45] at H
              have c45b0 := decide_eq_true c45; clear c45; (by_cases c46 : ((rd_T61 l0 x13_1).f5) < (x3_4.length : Int))
              ·rw [if_pos c46] at H
               have c46b0 := decide_eq_true c46; clear c46; obtain ⟨y139, hy139⟩ : ∃ y_ : List Int, y_ = (x3_4.set (((rd_T61 l0 x13_1).f5) : Int).toNat (wrap64 ((rd x3_4 ((rd_T61 l0 x13_1).f5)) + 1))) := ⟨_, rfl⟩; (replace H : (boxpack_plan.l1 k4 l0 y139 x13_1 l0 (l0.length : Int) x13_1 (0 + 1) ((rd_T61 l0 x13_1).f5) ((rd_T61 l0 x13_1).f6)) = some r := by (rw [hy139]; with_reducible exact H)); have Ny139 := ak hy139; clear hy139; have H' := ak H; clear H; obtain ⟨Ao48, co48, eo48⟩ := Kd.R_slice HO_3.1; subst eo48; have p138 : 0 ≤ (((rd_T61 l0 x13_1).f5) : Int) := od_; have q138 : ((rd_T61 l0 x13_1).f5) < (x3_4.length : Int) := od_; obtain ⟨ad138, e138, hx138_0⟩ := Kd.at_int (Kd.R_reads' HO_3.1).2.2 ((rd_T61 l0 x13_1).f5) p138 q138; (cases e138); replace p138 := eq_true p138; replace q138 := eq_true q138; have p47 : 0 ≤ (((rd_T61 l0 x13_1).f5) : Int) := od_; have q47 : (((rd_T61 l0 x13_1).f5) : Int) < ((x3_4.length : Int) : Int) := od_; (obtain ⟨go47, co47, eo47, gb47, gl47, cl47, HG47⟩ := Kd.R_form HO_3.1 (by omega)); ((cases eo47)); have GB47 := ak gb47; have GG47 := ak HG47; clear gb47 gl47 HG47; ((simp only [add_plain] at hx138_0)); obtain ⟨hx47_0, hf47_0⟩ := Kd.R_celln 0 HO_3.1 (((rd_T61 l0 x13_1).f5) : Int) p47 q47; replace p47 := eq_true p47; replace q47 := eq_true q47; have HP49 := Kd.R_putg HO_3.1 (((rd_T61 l0 x13_1).f5) : Int) (wrap64 ((rd x3_4 ((rd_T61 l0 x13_1).f5)) + 1)); (go_wp2_with (first | ((with_reducible refine gate_store (t := 3) (p := 101) rfl ?_); refine store_event (t := 3) (p := 101) (v := ?vo_w50) (w1 := (wr.setCell ⟨go47, (((rd_T61 l0 x13_1).f5) : Int).toNat, none⟩ (.int .i64 (wrap64 ((rd x3_4 ((rd_T61 l0 x13_1).f5)) + 1))))) ?hg ?ho ?hn ?hr ?_; (case ho => rfl); (case hg => rfl); (case hn => rfl); (case hr => (go_simp; done)); intro w50 hw; have hg : wr.grownBy w50 (some go47) := (by rw [hw]; exact HP49.2); have hp_ : Kd.R (Kd.int .i64) 3 w50 w.heap.size (fun _ => True) (.slice (some ⟨go47, 0, none⟩) x3_4.length co48) y139 := (by rw [hw, Ny139.1]; exact HP49.1); clear HP49; replace BK137 := ak (blk_grown (bk_ BK137) hg (Kd.R_ne HO_3.1 BK137.1 (by decide))); replace HO_3 := ak (hp_); replace HB := ak ((by rw [hw]; exact below_set (HB.1) GB47.1 : Below w.heap.size w w50)); clear hg hw hp_))); (go_roundg k4)
               case measure => have := HK1.1; have := HJ8.1; have := HJ30.1; have := HK4.1; omega
               case rel => exact ⟨(y139), (0 + 1), (by rfl), H', ⟨by have := HK1.1; have := HJ8.1; have := HJ30.1; have := HK4.1; omega⟩, ⟨by exact HO_3.1⟩, ⟨bk_ BK137⟩, ⟨hb_ HB⟩⟩
              rw [if_neg c46] at H; (exact absurd H (by simp))
             rw [if_neg c45] at H; (exact absurd H (by simp))
            rw [if_neg c42] at H
            by_cases c51 : x84_4 = 1
            ·subst c51
             (replace H : (if ((rd_T61 l0 x13_1).f6) ≤ x13_1 then (some false) else (if ((rd_T61 l0 x13_1).f6) ≥ (l0.length : Int) then (some false) else (if 0 ≤ ((rd_T61 l0 x13_1).f6) then (if ((rd_T61 l0 x13_1).f6) < (x3_4.length : Int) then (boxpack_plan.l1 k4 l0 (x3_4.set (((rd_T61 l0 x13_1).f6) : Int).toNat (wrap64 ((rd x3_4 ((rd_T61 l0 x13_1).f6)) + 1))) x13_1 l0 (l0.length : Int) x13_1 (1 + 1) ((rd_T61 l0 x13_1).f5) ((rd_T61 l0 x13_1).f6)) else (none)) else (none)))) = some r := by rw [if_pos rfl] at H; exact H); (by_cases c52 : ((rd_T61 l0 x13_1).f6) ≤ x13_1)
             ·rw [if_pos c52] at H; have c52b0 := decide_eq_true c52; clear c52; obtain rfl := Option.some.inj H; (go_wp2); (go_ret); (exact ⟨by rfl, hb_ HB⟩)
             rw [if_neg c52] at H
             have c52b0 := decide_eq_false c52; clear c52; (by_cases c53 : ((rd_T61 l0 x13_1).f6) ≥ (l0.length : Int))
             ·rw [if_pos c53] at H; have c53b0 := decide_eq_true c53; clear c53; obtain rfl := Option.some.inj H; (go_wp2); (go_ret); (exact ⟨by rfl, hb_ HB⟩)
             rw [if_neg c53] at H
             have c53b0 := decide_eq_false c53; clear c53; (by_cases c54 : 0 ≤ ((rd_T61 l0 x13_1).f6))
             ·rw [if_pos c54] at H
              have c54b0 := decide_eq_true c54; clear c54; (by_cases c55 : ((rd_T61 l0 x13_1).f6) < (x3_4.length : Int))
              ·rw [if_pos c55] at H
               have c55b0 := decide_eq_true c55; clear c55; obtain ⟨y141, hy141⟩ : ∃ y_ : List Int, y_ = (x3_4.set (((rd_T61 l0 x13_1).f6) : Int).toNat (wrap64 ((rd x3_4 ((rd_T61 l0 x13_1).f6)) + 1))) := ⟨_, rfl⟩; (replace H : (boxpack_plan.l1 k4 l0 y141 x13_1 l0 (l0.length : Int) x13_1 (1 + 1) ((rd_T61 l0 x13_1).f5) ((rd_T61 l0 x13_1).f6)) = some r := by (rw [hy141]; with_reducible exact H)); have Ny141 := ak hy141; clear hy141; have H' := ak H; clear H; obtain ⟨Ao57, co57, eo57⟩ := Kd.R_slice HO_3.1; subst eo57; have p140 : 0 ≤ (((rd_T61 l0 x13_1).f6) : Int) := od_; have q140 : ((rd_T61 l0 x13_1).f6) < (x3_4.length : Int) := od_; obtain ⟨ad140, e140, hx140_0⟩ := Kd.at_int (Kd.R_reads' HO_3.1).2.2 ((rd_T61 l0 x13_1).f6) p140 q140; (cases e140); replace p140 := eq_true p140; replace q140 := eq_true q140; have p56 : 0 ≤ (((rd_T61 l0 x13_1).f6) : Int) := od_; have q56 : (((rd_T61 l0 x13_1).f6) : Int) < ((x3_4.length : Int) : Int) := od_; (obtain ⟨go56, co56, eo56, gb56, gl56, cl56, HG56⟩ := Kd.R_form HO_3.1 (by omega)); ((cases eo56)); have GB56 := ak gb56; have GG56 := ak HG56; clear gb56 gl56 HG56; ((simp only [add_plain] at hx140_0)); obtain ⟨hx56_0, hf56_0⟩ := Kd.R_celln 0 HO_3.1 (((rd_T61 l0 x13_1).f6) : Int) p56 q56; replace p56 := eq_true p56; replace q56 := eq_true q56; have HP58 := Kd.R_putg HO_3.1 (((rd_T61 l0 x13_1).f6) : Int) (wrap64 ((rd x3_4 ((rd_T61 l0 x13_1).f6)) + 1)); (go_wp2_with (first | ((with_reducible refine gate_store (t := 3) (p := 101) rfl ?_); refine store_event (t := 3) (p := 101) (v := ?vo_w59) (w1 := (wr.setCell ⟨go56, (((rd_T61 l0 x13_1).f6) : Int).toNat, none⟩ (.int .i64 (wrap64 ((rd x3_4 ((rd_T61 l0 x13_1).f6)) + 1))))) ?hg ?ho ?hn ?hr ?_; (case ho => rfl); (case hg => rfl); (case hn => rfl); (case hr => (go_simp; done)); intro w59 hw; have hg : wr.grownBy w59 (some go56) := (by rw [hw]; exact HP58.2); have hp_ : Kd.R (Kd.int .i64) 3 w59 w.heap.size (fun _ => True) (.slice (some ⟨go56, 0, none⟩) x3_4.length co57) y141 := (by rw [hw, Ny141.1]; exact HP58.1); clear HP58; replace BK137 := ak (blk_grown (bk_ BK137) hg (Kd.R_ne HO_3.1 BK137.1 (by decide))); replace HO_3 := ak (hp_); replace HB := ak ((by rw [hw]; exact below_set (HB.1) GB56.1 : Below w.heap.size w w59)); clear hg hw hp_))); (go_roundg k4)
               case measure => have := HK1.1; have := HJ8.1; have := HJ30.1; have := HK4.1; omega
               case rel => exact ⟨(y141), (1 + 1), (by rfl), H', ⟨by have := HK1.1; have := HJ8.1; have := HJ30.1; have := HK4.1; omega⟩, ⟨by exact HO_3.1⟩, ⟨bk_ BK137⟩, ⟨hb_ HB⟩⟩
              rw [if_neg c55] at H; (exact absurd H (by simp))
             rw [if_neg c54] at H; (exact absurd H (by simp))
            rw [if_neg c51] at H; (exact absurd H (by simp))
           rw [if_neg c41] at H
           have c41b0 := decide_eq_false c41; clear c41; have H' := ak H; clear H; (go_wp2); (go_roundg k4)
           case measure => have := HK1.1; have := HJ8.1; have := HJ30.1; have := HK4.1; omega
           case rel => exact ⟨(x3_4), (wrap64 (x13_1 + 1)), (by rfl), H', ⟨by have := HK1.1; have := HJ8.1; have := HJ30.1; have := HK4.1; omega⟩, ⟨by exact HO_3.1⟩, ⟨hb_ HB⟩⟩
        rw [if_neg c30] at H; have c30b0 := beq_eq_false_iff_ne.mpr c30; have c30b1 := bne_iff_ne.mpr c30; obtain rfl := Option.some.inj H; (go_wp2); (go_ret); (exact ⟨by rfl, hb_ HB⟩)
      rw [if_neg c8] at H; (exact absurd H (by simp))
     rw [if_neg c7] at H; (exact absurd H (by simp))
    rw [if_neg c6] at H
    have c6b0 := decide_eq_false c6; clear c6; (by_cases c60 : (l0.length : Int) > 0)
    ·rw [if_pos c60] at H
     have c60b0 := decide_eq_true c60; (have c60b1 : decide (0 < l0.length) = true := decide_eq_true (by omega)); clear c60; (by_cases c61 : 1 ≤ (x3_1.length : Int))
     ·rw [if_pos c61] at H
      have c61b0 := eq_true c61; have c61b1 := decide_eq_true c61; clear c61; obtain ⟨y131, hy131⟩ : ∃ y_ : List Int, y_ = (x3_1.drop 1) := ⟨_, rfl⟩; (replace H : ((slices_ContainsFunc_int_int_by_boxpack_plan_1.f k1 y131).bind fun t135 => (some (!t135))) = some r := by (rw [hy131]; with_reducible exact H)); have Ny131 := ak hy131; clear hy131; obtain ⟨t135, A620, H⟩ := obs_ H; (try dsimp only at H); have A62 := ak A620; clear A620; obtain rfl := Option.some.inj H; obtain ⟨Ao64, co64, eo64⟩ := Kd.R_slice HO_3.1; subst eo64; have q63 : (1 : Int) ≤ ((x3_1.length : Int) : Int) := od_; obtain ⟨i063, hi063, _, hsz63, _⟩ := info_parts info3; have hroom63 : x3_1.length ≤ co64 := (Kd.R_reads' HO_3.1).2.1; have hC63 : Kd.C (Kd.int .i64) _ Ao64 x3_1.length x3_1 := (Kd.R_reads' HO_3.1).2.2; (have hcut63 := cut_from (P := Try.prog) 93 3 .i64 Try.underlying93 hi063 1 hsz63 Ao64 x3_1.length co64 1 (by omega) q63); (have hr63 := Kd.C_drop (m := (1 : Int).toNat) (c := co64) hC63 (by omega) hroom63); (obtain ⟨A63, hA63⟩ : ∃ A1, A1 = (if co64 = (1 : Int).toNat then Ao64 else (Ao64 : Option Addr).map (·.add ((1 : Int).toNat * 1))) := ⟨_, rfl⟩); obtain ⟨c63, hc63⟩ : ∃ c1, c1 = co64 - (1 : Int).toNat := ⟨_, rfl⟩; (have hy63 : y131.length = x3_1.length - (1 : Int).toNat := (by rw [Ny131.1, List.length_drop] <;> omega)); (rw [show (x3_1).drop (1 : Int).toNat = y131 from Ny131.1.symm] at hr63); (replace hr63 : Kd.C (Kd.int .i64) _ A63 y131.length y131 := (by rw [hA63]; exact hr63)); rw [← hy63, ← hA63, ← hc63] at hcut63; have HR134 := ak hr63; (have HC134 := ak (show y131.length ≤ c63 from by rw [hy63, hc63]; exact Nat.sub_le_sub_right hroom63 _)); clear hr63 hC63 hroom63 hi063 hsz63 hc63; have KY63 := ak hy63; have KA63 := ak hA63; clear hy63 hA63; (have KL63 := ak (show 1 ≤ x3_1.length from by omega)); replace q63 := eq_true q63; (go_wp2_with (first | (go_at_call 59; (with_reducible refine (slices_ContainsFunc_int_int_by_boxpack_plan_1.calls k1 _ _ y131  t135 _ ?side1 ?side2 A62.1).mono ?_); (case side1 => exact (by repeat (with_reducible exact HR134.1))); (case side2 => exact HC134.1); rintro e w' ⟨rfl, ⟨nd, rfl⟩⟩))); (go_ret); (exact ⟨by rfl, hb_ HB⟩)
     rw [if_neg c61] at H; (exact absurd H (by simp))
    rw [if_neg c60] at H; have c60b0 := decide_eq_false c60; (have c60b1 : decide (0 < l0.length) = false := decide_eq_false (by omega)); clear c60; obtain rfl := Option.some.inj H; (go_wp2); (go_ret); (exact ⟨by rfl, hb_ HB⟩)
  rw [if_neg c3] at H; (exact absurd H (by simp))
 rw [if_neg c2] at H
 exact absurd H (by simp)

end Go.Proofs.Ytgacodhpniehiaa.XA
