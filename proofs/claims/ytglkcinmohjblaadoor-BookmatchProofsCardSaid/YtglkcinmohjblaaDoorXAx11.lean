import Derived.Test.YtglkcinmohjblaaDoorXAx10
namespace Go.Proofs.YtglkcinmohjblaaDoor.XA
open Go.RowKit Opens YtglkcinmohjblaaDoorW.PrintWords YtglkcinmohjblaaDoorW.PrintLast YtglkcinmohjblaaDoorW.PrintMore
attribute [local go_sem] max2_int min2_int max_two min_two max_three min_three max_four min_four cell_some cell_same
set_option linter.unusedVariables false
set_option linter.unusedSimpArgs false

def s_52_by_bookmatch_check_1.l0 : Nat → List (S62) → Int → Int → Int → Option (Int)
  | 0, _, _, _, _ => none
  | k + 1, x0, x7, x8, x9000 => if x8 < x7 then (if 0 ≤ x8 then (if x8 < (x0.length : Int) then ((m_check_1.f ((rd_T62 x0 x8).f0) ((rd_T62 x0 x8).f1) ((rd_T62 x0 x8).f2) ((rd_T62 x0 x8).f3.f0.f0) ((rd_T62 x0 x8).f3.f0.f1) ((rd_T62 x0 x8).f3.f0.f2) ((rd_T62 x0 x8).f3.f1.f0) ((rd_T62 x0 x8).f3.f1.f1) ((rd_T62 x0 x8).f3.f1.f2) ((rd_T62 x0 x8).f4) ((rd_T62 x0 x8).f5) ((rd_T62 x0 x8).f6) x9000).bind fun t120 => (if t120 = true then (some x8) else (s_52_by_bookmatch_check_1.l0 k x0 x7 (wrap64 (x8 + 1)) x9000))) else (none)) else (none)) else (some (-1))
def s_52_by_bookmatch_check_1.f (k : Nat) (l0 : List (S62)) (s8_0 : Int) : Option (Int) := s_52_by_bookmatch_check_1.l0 k l0 (l0.length : Int) 0 s8_0
theorem s_52_by_bookmatch_check_1.mono_l : ∀ k, (∀ y0 y1 y2 y3, LeO (s_52_by_bookmatch_check_1.l0 k y0 y1 y2 y3) (s_52_by_bookmatch_check_1.l0 (k + 1) y0 y1 y2 y3))
  | 0 => fun _ _ _ _ r h => by simp [s_52_by_bookmatch_check_1.l0] at h
  | k + 1 => by
    have ih0 := s_52_by_bookmatch_check_1.mono_l k
    intro y0 y1 y2 y3
    unfold s_52_by_bookmatch_check_1.l0
    repeat' first
    | (with_reducible exact ih0 _ _ _ _)
    | (with_reducible exact LeO.refl _)
    | (with_reducible refine LeO.ite ?_ ?_)
    | (with_reducible refine LeO.bind ?_ (fun _ => ?_))
      
theorem s_52_by_bookmatch_check_1.mono : ∀ a0 a1 k, LeO (s_52_by_bookmatch_check_1.f k a0 a1) (s_52_by_bookmatch_check_1.f (k + 1) a0 a1) := by
  intro a0 a1 k
  have ih0 := s_52_by_bookmatch_check_1.mono_l k
  unfold s_52_by_bookmatch_check_1.f
  repeat' (with_reducible exact ih0 _ _ _ _)
set_option maxHeartbeats 8000000 in
set_option maxRecDepth 100000 in
theorem s_52_by_bookmatch_check_1.calls (k : Nat) (A0 : Option Addr) (c0 : Nat) (l0 : List (S62)) (g8 : Nat) (s8_0 : Int) (r : Int) (w : World) (hr0 : Kd.C k62 w A0 l0.length l0) (hc0 : l0.length ≤ c0) (hb8 : w.heap[g8]? = some (.cells #[.int .i64 s8_0] 3 (0, 0))) (h : s_52_by_bookmatch_check_1.f k l0 s8_0 = some r) :
    Calls Tryd.prog 52 #[.slice A0 l0.length c0, .func (.func 47) #[] #[.pointer (some ⟨g8, 0, none⟩)]] w fun e w' => e = .returned (.int .i64 r) ∧ Below w.heap.size w w' := by
  have hu62 := Tryd.underlying62
  have HR0 := ak hr0
  have HC0 := ak hc0
  clear hr0 hc0
  have BK8 := ak hb8
  clear hb8
  have HB := ak (Below.refl w.heap.size w)
  have H : (s_52_by_bookmatch_check_1.l0 k l0 (l0.length : Int) 0 s8_0) = some r := h
  clear h
  have H' := ak H
  clear H
  go_enter Tryd.func52, Tryd.ntmps52
  go_wp2
  go_loopg [8] k (fun kq v8 w' => ∃ (x8_1 : Int), v8 = .int .i64 x8_1 ∧ Aside0 (s_52_by_bookmatch_check_1.l0 kq l0 (l0.length : Int) x8_1 s8_0 = some r) ∧ Aside0 (kq ≤ k) ∧ Aside0 (w'.heap[g8]? = some (.cells #[.int .i64 s8_0] 3 (0, 0))) ∧ Aside0 (Below w.heap.size w w'))
  case atStart => exact ⟨(0), (by rfl), H', ⟨Nat.le_refl _⟩, ⟨by exact BK8.1⟩, ⟨by repeat (with_reducible exact HB.1)⟩⟩
  clear H'
  obtain ⟨x8_1, rfl, HA, HK1, BK8, HB⟩ := hrel
  cases gk with
  | zero => exact absurd HA.1 (by simp [s_52_by_bookmatch_check_1.l0])
  | succ k1 =>
    have H := HA.1
    clear HA
    simp only [s_52_by_bookmatch_check_1.l0] at H
    by_cases c3 : x8_1 < (l0.length : Int)
    · rw [if_pos c3] at H
      have c3b0 : decide (x8_1 < (l0.length : Int)) = true := decide_eq_true c3
      clear c3
      by_cases c4 : 0 ≤ x8_1
      · rw [if_pos c4] at H
        have c4b0 : decide (0 ≤ x8_1) = true := decide_eq_true c4
        clear c4
        by_cases c5 : x8_1 < (l0.length : Int)
        · rw [if_pos c5] at H
          have c5b0 : decide (x8_1 < (l0.length : Int)) = true := decide_eq_true c5
          clear c5
          replace H := Option.bind_eq_some_iff.mp H
          obtain ⟨t120, A60, H⟩ := H
          replace H : (if t120 = true then (some x8_1) else (s_52_by_bookmatch_check_1.l0 k1 l0 (l0.length : Int) (wrap64 (x8_1 + 1)) s8_0)) = some r := H
          have A6 := ak A60
          clear A60
          by_cases c7 : t120 = true
          · subst c7
            have H1 : (some x8_1) = some r := by rw [if_pos rfl] at H; exact H
            clear H
            have H := H1
            clear H1
            obtain rfl := Option.some.inj H
            have p119 : 0 ≤ (x8_1 : Int) := od_
            have q119 : x8_1 < (l0.length : Int) := od_
            obtain ⟨ad119, A119_10, c119_10, A119_11, c119_11, e119, hx119_0, hx119_1, hx119_2, hx119_3, hx119_4, hx119_5, hx119_6, hx119_7, hx119_8, hx119_9, hx119_10, hx119_11, hl119_10, hi119_10, hl119_11, hi119_11⟩ := at_T62 HR0.1 x8_1 p119 q119
            cases e119
            replace hx119_0 := (hc_ HB hx119_0).trans hx119_0
            replace hx119_1 := (hc_ HB hx119_1).trans hx119_1
            replace hx119_2 := (hc_ HB hx119_2).trans hx119_2
            replace hx119_3 := (hc_ HB hx119_3).trans hx119_3
            replace hx119_4 := (hc_ HB hx119_4).trans hx119_4
            replace hx119_5 := (hc_ HB hx119_5).trans hx119_5
            replace hx119_6 := (hc_ HB hx119_6).trans hx119_6
            replace hx119_7 := (hc_ HB hx119_7).trans hx119_7
            replace hx119_8 := (hc_ HB hx119_8).trans hx119_8
            replace hx119_9 := (hc_ HB hx119_9).trans hx119_9
            replace hx119_10 := (hc_ HB hx119_10).trans hx119_10
            replace hx119_11 := (hc_ HB hx119_11).trans hx119_11
            have HR119_10 := ak hi119_10
            have HC119_10 := ak hl119_10
            clear hi119_10 hl119_10
            have HR119_11 := ak hi119_11
            have HC119_11 := ak hl119_11
            clear hi119_11 hl119_11
            replace p119 := eq_true p119
            replace q119 := eq_true q119
            go_wp2_with (first | (go_at_call 47; (with_reducible refine (m_check_1.calls ((rd_T62 l0 x8_1).f0) ((rd_T62 l0 x8_1).f1) ((rd_T62 l0 x8_1).f2) ((rd_T62 l0 x8_1).f3.f0.f0) ((rd_T62 l0 x8_1).f3.f0.f1) ((rd_T62 l0 x8_1).f3.f0.f2) ((rd_T62 l0 x8_1).f3.f1.f0) ((rd_T62 l0 x8_1).f3.f1.f1) ((rd_T62 l0 x8_1).f3.f1.f2) ((rd_T62 l0 x8_1).f4) _ _ ((rd_T62 l0 x8_1).f5) _ _ ((rd_T62 l0 x8_1).f6) g8 s8_0 true _ ?side1 ?side2 ?side3 ?side4 ?side5 A6.1).mono ?_); (case side1 => exact (Kd.C_below HR119_10.1 HB.1)); (case side2 => exact HC119_10.1); (case side3 => exact (Kd.C_below HR119_11.1 HB.1)); (case side4 => exact HC119_11.1); (case side5 => exact (by exact BK8.1)); rintro e w8 ⟨rfl, hb⟩; have n0_ := ak (blk_below (g := g8) (o := .cells #[.int .i64 s8_0] 3 (0, 0)) (by exact BK8.1) hb); have n1_ := ak (below_step HB.1 hb); clear BK8; clear HB; have BK8 := n0_; have HB := n1_; clear n0_ n1_; (try clear hb)))
            go_ret
            exact ⟨by rfl, by repeat (with_reducible exact HB.1)⟩
          replace c7 := Bool.eq_false_iff.mpr c7
          subst c7
          have H1 : (s_52_by_bookmatch_check_1.l0 k1 l0 (l0.length : Int) (wrap64 (x8_1 + 1)) s8_0) = some r := by rw [if_neg (show ¬ (false = true) by decide)] at H; exact H
          clear H
          have H := H1
          clear H1
          have H' := ak H
          clear H
          have p119 : 0 ≤ (x8_1 : Int) := od_
          have q119 : x8_1 < (l0.length : Int) := od_
          obtain ⟨ad119, A119_10, c119_10, A119_11, c119_11, e119, hx119_0, hx119_1, hx119_2, hx119_3, hx119_4, hx119_5, hx119_6, hx119_7, hx119_8, hx119_9, hx119_10, hx119_11, hl119_10, hi119_10, hl119_11, hi119_11⟩ := at_T62 HR0.1 x8_1 p119 q119
          cases e119
          replace hx119_0 := (hc_ HB hx119_0).trans hx119_0
          replace hx119_1 := (hc_ HB hx119_1).trans hx119_1
          replace hx119_2 := (hc_ HB hx119_2).trans hx119_2
          replace hx119_3 := (hc_ HB hx119_3).trans hx119_3
          replace hx119_4 := (hc_ HB hx119_4).trans hx119_4
          replace hx119_5 := (hc_ HB hx119_5).trans hx119_5
          replace hx119_6 := (hc_ HB hx119_6).trans hx119_6
          replace hx119_7 := (hc_ HB hx119_7).trans hx119_7
          replace hx119_8 := (hc_ HB hx119_8).trans hx119_8
          replace hx119_9 := (hc_ HB hx119_9).trans hx119_9
          replace hx119_10 := (hc_ HB hx119_10).trans hx119_10
          replace hx119_11 := (hc_ HB hx119_11).trans hx119_11
          have HR119_10 := ak hi119_10
          have HC119_10 := ak hl119_10
          clear hi119_10 hl119_10
          have HR119_11 := ak hi119_11
          have HC119_11 := ak hl119_11
          clear hi119_11 hl119_11
          replace p119 := eq_true p119
          replace q119 := eq_true q119
          go_wp2_with (first | (go_at_call 47; (with_reducible refine (m_check_1.calls ((rd_T62 l0 x8_1).f0) ((rd_T62 l0 x8_1).f1) ((rd_T62 l0 x8_1).f2) ((rd_T62 l0 x8_1).f3.f0.f0) ((rd_T62 l0 x8_1).f3.f0.f1) ((rd_T62 l0 x8_1).f3.f0.f2) ((rd_T62 l0 x8_1).f3.f1.f0) ((rd_T62 l0 x8_1).f3.f1.f1) ((rd_T62 l0 x8_1).f3.f1.f2) ((rd_T62 l0 x8_1).f4) _ _ ((rd_T62 l0 x8_1).f5) _ _ ((rd_T62 l0 x8_1).f6) g8 s8_0 false _ ?side1 ?side2 ?side3 ?side4 ?side5 A6.1).mono ?_); (case side1 => exact (Kd.C_below HR119_10.1 HB.1)); (case side2 => exact HC119_10.1); (case side3 => exact (Kd.C_below HR119_11.1 HB.1)); (case side4 => exact HC119_11.1); (case side5 => exact (by exact BK8.1)); rintro e w9 ⟨rfl, hb⟩; have n0_ := ak (blk_below (g := g8) (o := .cells #[.int .i64 s8_0] 3 (0, 0)) (by exact BK8.1) hb); have n1_ := ak (below_step HB.1 hb); clear BK8; clear HB; have BK8 := n0_; have HB := n1_; clear n0_ n1_; (try clear hb)))
          go_roundg k1
          case measure => have := HK1.1; omega
          case rel => exact ⟨(wrap64 (x8_1 + 1)), (by rfl), H', ⟨by have := HK1.1; omega⟩, ⟨by exact BK8.1⟩, ⟨by repeat (with_reducible exact HB.1)⟩⟩
        rw [if_neg c5] at H
        exact absurd H (by simp)
      rw [if_neg c4] at H
      exact absurd H (by simp)
    rw [if_neg c3] at H
    have c3b0 : decide (x8_1 < (l0.length : Int)) = false := decide_eq_false c3
    clear c3
    obtain rfl := Option.some.inj H
    go_wp2
    go_ret
    exact ⟨by rfl, by repeat (with_reducible exact HB.1)⟩

end Go.Proofs.YtglkcinmohjblaaDoor.XA
