-- written by xprint.py, this project's own program (wip/), over the words of print.sh
import Derived.Test.YtjlljjnkjhdljaaXAx0
import Derived.Test.YtjlljjnkjhdljaaXAx3
import Derived.Test.YtjlljjnkjhdljaaXAx4
namespace Go.Proofs.Ytjlljjnkjhdljaa.XA
open Go.RowKit Go.Proofs.Ytjlljjnkjhdljaa.Opens Go.Proofs.YtjlljjnkjhdljaaW.PrintWords Go.Proofs.YtjlljjnkjhdljaaW.PrintLast Go.Proofs.YtjlljjnkjhdljaaW.PrintMore
attribute [local go_sem] max2_int min2_int max_two min_two max_three min_three max_four min_four cell_some cell_same   -- for this text's walks alone
set_option linter.unusedVariables false
set_option linter.unusedSimpArgs false

/-! ### api_Polygon_50_by_arch_Check_1: function 50 -/
def api_Polygon_50_by_arch_Check_1.l0 : Nat → List (List (S46)) → Int → Int → Option (Int)
  | 0, _, _, _ => none
  | k + 1, x0, x7, x8 => if x8 < x7 then (if 0 ≤ x8 then (if x8 < (x0.length : Int) then ((arch_Check_1.f (rd_L2 x0 x8)).bind fun t124 => (if t124 = true then (some x8) else (api_Polygon_50_by_arch_Check_1.l0 k x0 x7 (wrap64 (x8 + 1))))) else (none)) else (none)) else (some (-1))
def api_Polygon_50_by_arch_Check_1.f (k : Nat) (l0 : List (List (S46)))  : Option (Int) := api_Polygon_50_by_arch_Check_1.l0 k l0 (l0.length : Int) 0
theorem api_Polygon_50_by_arch_Check_1.mono_l : ∀ k, (∀ y0 y1 y2, LeO (api_Polygon_50_by_arch_Check_1.l0 k y0 y1 y2) (api_Polygon_50_by_arch_Check_1.l0 (k + 1) y0 y1 y2))
  | 0 => fun _ _ _ r h => by simp [api_Polygon_50_by_arch_Check_1.l0] at h
  | k + 1 => by
    have ih0 := api_Polygon_50_by_arch_Check_1.mono_l k
    · intro y0 y1 y2
      unfold api_Polygon_50_by_arch_Check_1.l0
      repeat' first
      | (with_reducible exact ih0 _ _ _)
      | (with_reducible exact LeO.refl _)
      | (with_reducible exact LeO.none _)
      | (with_reducible refine LeO.ite ?_ ?_)
      | (with_reducible refine LeO.bind ?_ (fun _ => ?_))
      | exact ih0 _ _ _
      | exact LeO.none _
      | refine LeO.ite ?_ ?_
      | refine LeO.bind ?_ (fun _ => ?_)
theorem api_Polygon_50_by_arch_Check_1.mono : ∀ a0 k, LeO (api_Polygon_50_by_arch_Check_1.f k a0) (api_Polygon_50_by_arch_Check_1.f (k + 1) a0) := by
  intro a0 k
  have ih0 := api_Polygon_50_by_arch_Check_1.mono_l k
  unfold api_Polygon_50_by_arch_Check_1.f
  repeat' first
      | (with_reducible exact ih0 _ _ _)
      | (with_reducible exact LeO.refl _)
      | (with_reducible exact LeO.none _)
      | (with_reducible refine LeO.ite ?_ ?_)
      | (with_reducible refine LeO.bind ?_ (fun _ => ?_))
      | exact ih0 _ _ _
      | exact LeO.none _
      | refine LeO.ite ?_ ?_
      | refine LeO.bind ?_ (fun _ => ?_)
set_option maxHeartbeats 8000000 in
set_option maxRecDepth 100000 in
theorem api_Polygon_50_by_arch_Check_1.calls (k : Nat) (A0 : Option Addr) (c0 : Nat) (l0 : List (List (S46)))  (r : Int) (w : World) (hr0 : Kd.C (Kd.slice 46 k46) w A0 l0.length l0) (hc0 : l0.length ≤ c0) (h : api_Polygon_50_by_arch_Check_1.f k l0 = some r) :
    Calls Try.prog 50 #[.slice A0 l0.length c0, .func (.func 59) #[] #[]] w fun e w' => e = .returned (.int .i64 r) ∧ Drawn0 w w' := by
  have HR0 := Aside0.mk hr0
  have HC0 := Aside0.mk hc0
  clear hr0 hc0
  have H : (api_Polygon_50_by_arch_Check_1.l0 k l0 (l0.length : Int) 0) = some r := h
  clear h
  have H' := Aside0.mk H
  clear H
  go_enter Try.func50, Try.ntmps50
  go_wp2
  go_loopg [8] k (fun kq v8 w' => ∃ (x8_1 : Int), v8 = .int .i64 x8_1 ∧ Aside0 (api_Polygon_50_by_arch_Check_1.l0 kq l0 (l0.length : Int) x8_1 = some r) ∧ Aside0 (kq ≤ k) ∧ Drawn0 w w')
  case atStart => exact ⟨(0), (by first | rfl | (simp; done) | (simp [*]; done)), H', ⟨Nat.le_refl _⟩, by repeat (first | exact Drawn0.refl _ | apply Drawn0.step)⟩
  case round =>
    clear H'
    try clear p2
    obtain ⟨x8_1, rfl, HA, HK1, ⟨m1, rfl⟩⟩ := hrel
    cases gk with
    | zero => exact absurd HA.out (by simp [api_Polygon_50_by_arch_Check_1.l0])
    | succ k1 =>
      have H := HA.out
      clear HA
      simp only [api_Polygon_50_by_arch_Check_1.l0] at H
      by_cases c3 : x8_1 < (l0.length : Int)
      · rw [if_pos c3] at H
        have c3b0 : decide (x8_1 < (l0.length : Int)) = true := decide_eq_true c3
        clear c3
        by_cases c4 : 0 ≤ x8_1
        · rw [if_pos c4] at H
          have c4b0 : decide (0 ≤ x8_1) = true := decide_eq_true c4
          clear c4
          by_cases c5 : x8_1 < (l0.length : Int)
          · rw [if_pos c5] at H
            have c5b0 : decide (x8_1 < (l0.length : Int)) = true := decide_eq_true c5
            clear c5
            replace H := Option.bind_eq_some_iff.mp H
            obtain ⟨t124, A60, H⟩ := H
            replace H : (if t124 = true then (some x8_1) else (api_Polygon_50_by_arch_Check_1.l0 k1 l0 (l0.length : Int) (wrap64 (x8_1 + 1)))) = some r := H
            have A6 := Aside0.mk A60
            clear A60
            by_cases c7 : t124 = true
            · subst c7
              have H1 : (some x8_1) = some r := by rw [if_pos rfl] at H; exact H
              clear H
              have H := H1
              clear H1
              obtain rfl := Option.some.inj H
              have p123 : 0 ≤ (x8_1 : Int) := of_decide_eq_true (by first | (with_reducible assumption) | assumption)
              have q123 : x8_1 < (l0.length : Int) := of_decide_eq_true (by first | (with_reducible assumption) | assumption)
              obtain ⟨ad123, A123_0, c123_0, e123, hx123_0, hl123_0, hi123_0⟩ := at_L2 HR0.out x8_1 p123 q123
              cases e123
              have HR123_0 := Aside0.mk hi123_0
              have HC123_0 := Aside0.mk hl123_0
              clear hi123_0 hl123_0
              replace p123 := eq_true p123
              replace q123 := eq_true q123
              go_wp2_with (first | (go_at_call 59; (with_reducible refine (arch_Check_1.calls _ _ (rd_L2 l0 x8_1) true _ ?side1 ?side2 A6.out).mono ?_); (case side1 => repeat (first | exact HR123_0.out | (with_reducible refine Kd.C_alloc ?_ _) | (with_reducible refine Kd.C_drewN ?_ _) | (with_reducible refine Kd.C_drew ?_))); (case side2 => exact HC123_0.out); rintro e w' ⟨rfl, ⟨nd, rfl⟩⟩))
              go_ret
              exact ⟨by first | rfl | (simp; done) | (simp [*]; done), by repeat (first | exact Drawn0.refl _ | apply Drawn0.step)⟩
            · replace c7 := Bool.eq_false_iff.mpr c7
              subst c7
              have H1 : (api_Polygon_50_by_arch_Check_1.l0 k1 l0 (l0.length : Int) (wrap64 (x8_1 + 1))) = some r := by rw [if_neg (show ¬ (false = true) by decide)] at H; exact H
              clear H
              have H := H1
              clear H1
              have H' := Aside0.mk H
              clear H
              have p123 : 0 ≤ (x8_1 : Int) := of_decide_eq_true (by first | (with_reducible assumption) | assumption)
              have q123 : x8_1 < (l0.length : Int) := of_decide_eq_true (by first | (with_reducible assumption) | assumption)
              obtain ⟨ad123, A123_0, c123_0, e123, hx123_0, hl123_0, hi123_0⟩ := at_L2 HR0.out x8_1 p123 q123
              cases e123
              have HR123_0 := Aside0.mk hi123_0
              have HC123_0 := Aside0.mk hl123_0
              clear hi123_0 hl123_0
              replace p123 := eq_true p123
              replace q123 := eq_true q123
              go_wp2_with (first | (go_at_call 59; (with_reducible refine (arch_Check_1.calls _ _ (rd_L2 l0 x8_1) false _ ?side1 ?side2 A6.out).mono ?_); (case side1 => repeat (first | exact HR123_0.out | (with_reducible refine Kd.C_alloc ?_ _) | (with_reducible refine Kd.C_drewN ?_ _) | (with_reducible refine Kd.C_drew ?_))); (case side2 => exact HC123_0.out); rintro e w' ⟨rfl, ⟨nd, rfl⟩⟩))
              go_roundg k1
              case measure => have := HK1.out; omega
              case rel => exact ⟨(wrap64 (x8_1 + 1)), (by first | rfl | (simp; done) | (simp [*]; done)), H', ⟨by have := HK1.out; omega⟩, by repeat (first | exact Drawn0.refl _ | apply Drawn0.step)⟩
          · rw [if_neg c5] at H
            exact absurd H (by simp)
        · rw [if_neg c4] at H
          exact absurd H (by simp)
      · rw [if_neg c3] at H
        have c3b0 : decide (x8_1 < (l0.length : Int)) = false := decide_eq_false c3
        clear c3
        obtain rfl := Option.some.inj H
        go_wp2
        go_ret
        exact ⟨by first | rfl | (simp; done) | (simp [*]; done), by repeat (first | exact Drawn0.refl _ | apply Drawn0.step)⟩

/-! ### api_Polygon_53_by_arch_Check_1: function 53 -/
def api_Polygon_53_by_arch_Check_1.f (k : Nat) (l0 : List (List (S46)))  : Option (Bool) := (api_Polygon_50_by_arch_Check_1.f k l0).bind fun t125 => (some (decide (t125 ≥ 0)))
theorem api_Polygon_53_by_arch_Check_1.mono : ∀ a0 k, LeO (api_Polygon_53_by_arch_Check_1.f k a0) (api_Polygon_53_by_arch_Check_1.f (k + 1) a0) := by
  intro a0 k
  unfold api_Polygon_53_by_arch_Check_1.f
  repeat' first
      | (with_reducible exact api_Polygon_50_by_arch_Check_1.mono _ _)
      | (with_reducible exact LeO.refl _)
      | (with_reducible exact LeO.none _)
      | (with_reducible refine LeO.ite ?_ ?_)
      | (with_reducible refine LeO.bind ?_ (fun _ => ?_))
      | exact api_Polygon_50_by_arch_Check_1.mono _ _
      | exact LeO.none _
      | refine LeO.ite ?_ ?_
      | refine LeO.bind ?_ (fun _ => ?_)
set_option maxHeartbeats 8000000 in
set_option maxRecDepth 100000 in
theorem api_Polygon_53_by_arch_Check_1.calls (k : Nat) (A0 : Option Addr) (c0 : Nat) (l0 : List (List (S46)))  (r : Bool) (w : World) (hr0 : Kd.C (Kd.slice 46 k46) w A0 l0.length l0) (hc0 : l0.length ≤ c0) (h : api_Polygon_53_by_arch_Check_1.f k l0 = some r) :
    Calls Try.prog 53 #[.slice A0 l0.length c0, .func (.func 59) #[] #[]] w fun e w' => e = .returned (.bool r) ∧ Drawn0 w w' := by
  have HR0 := Aside0.mk hr0
  have HC0 := Aside0.mk hc0
  clear hr0 hc0
  have H : ((api_Polygon_50_by_arch_Check_1.f k l0).bind fun t125 => (some (decide (t125 ≥ 0)))) = some r := h
  clear h
  replace H := Option.bind_eq_some_iff.mp H
  obtain ⟨t125, A30, H⟩ := H
  replace H : (some (decide (t125 ≥ 0))) = some r := H
  have A3 := Aside0.mk A30
  clear A30
  obtain rfl := Option.some.inj H
  go_enter Try.func53, Try.ntmps53
  go_wp2_with (first | (go_at_call 50; (with_reducible refine (api_Polygon_50_by_arch_Check_1.calls k _ _ l0  t125 _ ?side1 ?side2 A3.out).mono ?_); (case side1 => repeat (first | exact HR0.out | (with_reducible refine Kd.C_alloc ?_ _) | (with_reducible refine Kd.C_drewN ?_ _) | (with_reducible refine Kd.C_drew ?_))); (case side2 => exact HC0.out); rintro e w' ⟨rfl, ⟨nd, rfl⟩⟩))
  go_ret
  exact ⟨by first | rfl | (simp; done) | (simp [*]; done), by repeat (first | exact Drawn0.refl _ | apply Drawn0.step)⟩

/-! ### api_Polygon_50_by_arch_Check_2: function 50 -/
def api_Polygon_50_by_arch_Check_2.l0 : Nat → List (List (S46)) → Int → Int → Option (Int)
  | 0, _, _, _ => none
  | k + 1, x0, x7, x8 => if x8 < x7 then (if 0 ≤ x8 then (if x8 < (x0.length : Int) then ((arch_Check_2.f k (rd_L2 x0 x8)).bind fun t124 => (if t124 = true then (some x8) else (api_Polygon_50_by_arch_Check_2.l0 k x0 x7 (wrap64 (x8 + 1))))) else (none)) else (none)) else (some (-1))
def api_Polygon_50_by_arch_Check_2.f (k : Nat) (l0 : List (List (S46)))  : Option (Int) := api_Polygon_50_by_arch_Check_2.l0 k l0 (l0.length : Int) 0
theorem api_Polygon_50_by_arch_Check_2.mono_l : ∀ k, (∀ y0 y1 y2, LeO (api_Polygon_50_by_arch_Check_2.l0 k y0 y1 y2) (api_Polygon_50_by_arch_Check_2.l0 (k + 1) y0 y1 y2))
  | 0 => fun _ _ _ r h => by simp [api_Polygon_50_by_arch_Check_2.l0] at h
  | k + 1 => by
    have ih0 := api_Polygon_50_by_arch_Check_2.mono_l k
    · intro y0 y1 y2
      unfold api_Polygon_50_by_arch_Check_2.l0
      repeat' first
      | (with_reducible exact ih0 _ _ _)
      | (with_reducible exact arch_Check_2.mono _ _)
      | (with_reducible exact LeO.refl _)
      | (with_reducible exact LeO.none _)
      | (with_reducible refine LeO.ite ?_ ?_)
      | (with_reducible refine LeO.bind ?_ (fun _ => ?_))
      | exact ih0 _ _ _
      | exact arch_Check_2.mono _ _
      | exact LeO.none _
      | refine LeO.ite ?_ ?_
      | refine LeO.bind ?_ (fun _ => ?_)
theorem api_Polygon_50_by_arch_Check_2.mono : ∀ a0 k, LeO (api_Polygon_50_by_arch_Check_2.f k a0) (api_Polygon_50_by_arch_Check_2.f (k + 1) a0) := by
  intro a0 k
  have ih0 := api_Polygon_50_by_arch_Check_2.mono_l k
  unfold api_Polygon_50_by_arch_Check_2.f
  repeat' first
      | (with_reducible exact ih0 _ _ _)
      | (with_reducible exact arch_Check_2.mono _ _)
      | (with_reducible exact LeO.refl _)
      | (with_reducible exact LeO.none _)
      | (with_reducible refine LeO.ite ?_ ?_)
      | (with_reducible refine LeO.bind ?_ (fun _ => ?_))
      | exact ih0 _ _ _
      | exact arch_Check_2.mono _ _
      | exact LeO.none _
      | refine LeO.ite ?_ ?_
      | refine LeO.bind ?_ (fun _ => ?_)
set_option maxHeartbeats 8000000 in
set_option maxRecDepth 100000 in
theorem api_Polygon_50_by_arch_Check_2.calls (k : Nat) (A0 : Option Addr) (c0 : Nat) (l0 : List (List (S46)))  (r : Int) (w : World) (hr0 : Kd.C (Kd.slice 46 k46) w A0 l0.length l0) (hc0 : l0.length ≤ c0) (h : api_Polygon_50_by_arch_Check_2.f k l0 = some r) :
    Calls Try.prog 50 #[.slice A0 l0.length c0, .func (.func 60) #[] #[]] w fun e w' => e = .returned (.int .i64 r) ∧ Below w.heap.size w w' := by
  have HR0 := Aside0.mk hr0
  have HC0 := Aside0.mk hc0
  clear hr0 hc0
  have HB := Aside0.mk (Below.refl w.heap.size w)
  have H : (api_Polygon_50_by_arch_Check_2.l0 k l0 (l0.length : Int) 0) = some r := h
  clear h
  have H' := Aside0.mk H
  clear H
  go_enter Try.func50, Try.ntmps50
  go_wp2
  go_loopg [8] k (fun kq v8 w' => ∃ (x8_1 : Int), v8 = .int .i64 x8_1 ∧ Aside0 (api_Polygon_50_by_arch_Check_2.l0 kq l0 (l0.length : Int) x8_1 = some r) ∧ Aside0 (kq ≤ k) ∧ Aside0 (Below w.heap.size w w'))
  case atStart => exact ⟨(0), (by first | rfl | (simp; done) | (simp [*]; done)), H', ⟨Nat.le_refl _⟩, ⟨by repeat (first | (with_reducible first | exact HB.out | apply below_alloc | apply pw_below_drewN | apply below_drew1) | exact HB.out)⟩⟩
  case round =>
    clear H'
    try clear p2
    obtain ⟨x8_1, rfl, HA, HK1, HB⟩ := hrel
    cases gk with
    | zero => exact absurd HA.out (by simp [api_Polygon_50_by_arch_Check_2.l0])
    | succ k1 =>
      have H := HA.out
      clear HA
      simp only [api_Polygon_50_by_arch_Check_2.l0] at H
      by_cases c3 : x8_1 < (l0.length : Int)
      · rw [if_pos c3] at H
        have c3b0 : decide (x8_1 < (l0.length : Int)) = true := decide_eq_true c3
        clear c3
        by_cases c4 : 0 ≤ x8_1
        · rw [if_pos c4] at H
          have c4b0 : decide (0 ≤ x8_1) = true := decide_eq_true c4
          clear c4
          by_cases c5 : x8_1 < (l0.length : Int)
          · rw [if_pos c5] at H
            have c5b0 : decide (x8_1 < (l0.length : Int)) = true := decide_eq_true c5
            clear c5
            replace H := Option.bind_eq_some_iff.mp H
            obtain ⟨t124, A60, H⟩ := H
            replace H : (if t124 = true then (some x8_1) else (api_Polygon_50_by_arch_Check_2.l0 k1 l0 (l0.length : Int) (wrap64 (x8_1 + 1)))) = some r := H
            have A6 := Aside0.mk A60
            clear A60
            by_cases c7 : t124 = true
            · subst c7
              have H1 : (some x8_1) = some r := by rw [if_pos rfl] at H; exact H
              clear H
              have H := H1
              clear H1
              obtain rfl := Option.some.inj H
              have p123 : 0 ≤ (x8_1 : Int) := of_decide_eq_true (by first | (with_reducible assumption) | assumption)
              have q123 : x8_1 < (l0.length : Int) := of_decide_eq_true (by first | (with_reducible assumption) | assumption)
              obtain ⟨ad123, A123_0, c123_0, e123, hx123_0, hl123_0, hi123_0⟩ := at_L2 HR0.out x8_1 p123 q123
              cases e123
              replace hx123_0 := (HB.out.cell (World.block_lt_of_cell? w _ hx123_0)).trans hx123_0
              have HR123_0 := Aside0.mk hi123_0
              have HC123_0 := Aside0.mk hl123_0
              clear hi123_0 hl123_0
              replace p123 := eq_true p123
              replace q123 := eq_true q123
              go_wp2_with (first | (go_at_call 60; (with_reducible refine (arch_Check_2.calls k1 _ _ (rd_L2 l0 x8_1) true _ ?side1 ?side2 A6.out).mono ?_); (case side1 => repeat (first | exact (Kd.C_below HR123_0.out HB.out) | (with_reducible refine Kd.C_alloc ?_ _) | (with_reducible refine Kd.C_drewN ?_ _) | (with_reducible refine Kd.C_drew ?_))); (case side2 => exact HC123_0.out); rintro e w8 ⟨rfl, hb⟩; have n0_ := Aside0.mk (below_step (by repeat (first | (with_reducible first | exact HB.out | apply below_alloc | apply pw_below_drewN | apply below_drew1) | exact HB.out)) hb); clear HB; have HB := n0_; clear n0_; (try clear hb); (try clear hb2); (try clear hk); (try clear hi)))
              go_ret
              exact ⟨by first | rfl | (simp [errW_none, errW_some] <;> rfl) | (simp [*, errW_none, errW_some] <;> rfl), by repeat (first | (with_reducible first | exact HB.out | apply below_alloc | apply pw_below_drewN | apply below_drew1) | exact HB.out)⟩
            · replace c7 := Bool.eq_false_iff.mpr c7
              subst c7
              have H1 : (api_Polygon_50_by_arch_Check_2.l0 k1 l0 (l0.length : Int) (wrap64 (x8_1 + 1))) = some r := by rw [if_neg (show ¬ (false = true) by decide)] at H; exact H
              clear H
              have H := H1
              clear H1
              have H' := Aside0.mk H
              clear H
              have p123 : 0 ≤ (x8_1 : Int) := of_decide_eq_true (by first | (with_reducible assumption) | assumption)
              have q123 : x8_1 < (l0.length : Int) := of_decide_eq_true (by first | (with_reducible assumption) | assumption)
              obtain ⟨ad123, A123_0, c123_0, e123, hx123_0, hl123_0, hi123_0⟩ := at_L2 HR0.out x8_1 p123 q123
              cases e123
              replace hx123_0 := (HB.out.cell (World.block_lt_of_cell? w _ hx123_0)).trans hx123_0
              have HR123_0 := Aside0.mk hi123_0
              have HC123_0 := Aside0.mk hl123_0
              clear hi123_0 hl123_0
              replace p123 := eq_true p123
              replace q123 := eq_true q123
              go_wp2_with (first | (go_at_call 60; (with_reducible refine (arch_Check_2.calls k1 _ _ (rd_L2 l0 x8_1) false _ ?side1 ?side2 A6.out).mono ?_); (case side1 => repeat (first | exact (Kd.C_below HR123_0.out HB.out) | (with_reducible refine Kd.C_alloc ?_ _) | (with_reducible refine Kd.C_drewN ?_ _) | (with_reducible refine Kd.C_drew ?_))); (case side2 => exact HC123_0.out); rintro e w9 ⟨rfl, hb⟩; have n0_ := Aside0.mk (below_step (by repeat (first | (with_reducible first | exact HB.out | apply below_alloc | apply pw_below_drewN | apply below_drew1) | exact HB.out)) hb); clear HB; have HB := n0_; clear n0_; (try clear hb); (try clear hb2); (try clear hk); (try clear hi)))
              go_roundg k1
              case measure => have := HK1.out; omega
              case rel => exact ⟨(wrap64 (x8_1 + 1)), (by first | rfl | (simp; done) | (simp [*]; done)), H', ⟨by have := HK1.out; omega⟩, ⟨by repeat (first | (with_reducible first | exact HB.out | apply below_alloc | apply pw_below_drewN | apply below_drew1) | exact HB.out)⟩⟩
          · rw [if_neg c5] at H
            exact absurd H (by simp)
        · rw [if_neg c4] at H
          exact absurd H (by simp)
      · rw [if_neg c3] at H
        have c3b0 : decide (x8_1 < (l0.length : Int)) = false := decide_eq_false c3
        clear c3
        obtain rfl := Option.some.inj H
        go_wp2
        go_ret
        exact ⟨by first | rfl | (simp [errW_none, errW_some] <;> rfl) | (simp [*, errW_none, errW_some] <;> rfl), by repeat (first | (with_reducible first | exact HB.out | apply below_alloc | apply pw_below_drewN | apply below_drew1) | exact HB.out)⟩

/-! ### api_Polygon_53_by_arch_Check_2: function 53 -/
def api_Polygon_53_by_arch_Check_2.f (k : Nat) (l0 : List (List (S46)))  : Option (Bool) := (api_Polygon_50_by_arch_Check_2.f k l0).bind fun t125 => (some (decide (t125 ≥ 0)))
theorem api_Polygon_53_by_arch_Check_2.mono : ∀ a0 k, LeO (api_Polygon_53_by_arch_Check_2.f k a0) (api_Polygon_53_by_arch_Check_2.f (k + 1) a0) := by
  intro a0 k
  unfold api_Polygon_53_by_arch_Check_2.f
  repeat' first
      | (with_reducible exact api_Polygon_50_by_arch_Check_2.mono _ _)
      | (with_reducible exact LeO.refl _)
      | (with_reducible exact LeO.none _)
      | (with_reducible refine LeO.ite ?_ ?_)
      | (with_reducible refine LeO.bind ?_ (fun _ => ?_))
      | exact api_Polygon_50_by_arch_Check_2.mono _ _
      | exact LeO.none _
      | refine LeO.ite ?_ ?_
      | refine LeO.bind ?_ (fun _ => ?_)
set_option maxHeartbeats 8000000 in
set_option maxRecDepth 100000 in
theorem api_Polygon_53_by_arch_Check_2.calls (k : Nat) (A0 : Option Addr) (c0 : Nat) (l0 : List (List (S46)))  (r : Bool) (w : World) (hr0 : Kd.C (Kd.slice 46 k46) w A0 l0.length l0) (hc0 : l0.length ≤ c0) (h : api_Polygon_53_by_arch_Check_2.f k l0 = some r) :
    Calls Try.prog 53 #[.slice A0 l0.length c0, .func (.func 60) #[] #[]] w fun e w' => e = .returned (.bool r) ∧ Below w.heap.size w w' := by
  have HR0 := Aside0.mk hr0
  have HC0 := Aside0.mk hc0
  clear hr0 hc0
  have HB := Aside0.mk (Below.refl w.heap.size w)
  have H : ((api_Polygon_50_by_arch_Check_2.f k l0).bind fun t125 => (some (decide (t125 ≥ 0)))) = some r := h
  clear h
  replace H := Option.bind_eq_some_iff.mp H
  obtain ⟨t125, A30, H⟩ := H
  replace H : (some (decide (t125 ≥ 0))) = some r := H
  have A3 := Aside0.mk A30
  clear A30
  obtain rfl := Option.some.inj H
  go_enter Try.func53, Try.ntmps53
  go_wp2_with (first | (go_at_call 50; (with_reducible refine (api_Polygon_50_by_arch_Check_2.calls k _ _ l0  t125 _ ?side1 ?side2 A3.out).mono ?_); (case side1 => repeat (first | exact HR0.out | (with_reducible refine Kd.C_alloc ?_ _) | (with_reducible refine Kd.C_drewN ?_ _) | (with_reducible refine Kd.C_drew ?_))); (case side2 => exact HC0.out); rintro e w4 ⟨rfl, hb⟩; have n0_ := Aside0.mk (below_step (by repeat (first | (with_reducible first | exact HB.out | apply below_alloc | apply pw_below_drewN | apply below_drew1) | exact HB.out)) hb); clear HB; have HB := n0_; clear n0_; (try clear hb); (try clear hb2); (try clear hk); (try clear hi)))
  go_ret
  exact ⟨by first | rfl | (simp [errW_none, errW_some] <;> rfl) | (simp [*, errW_none, errW_some] <;> rfl), by repeat (first | (with_reducible first | exact HB.out | apply below_alloc | apply pw_below_drewN | apply below_drew1) | exact HB.out)⟩

end Go.Proofs.Ytjlljjnkjhdljaa.XA
