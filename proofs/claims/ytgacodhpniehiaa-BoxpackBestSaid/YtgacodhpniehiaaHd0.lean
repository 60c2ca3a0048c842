import Derived.Test.YtgacodhpniehiaaXAx0
import Derived.Test.YtgacodhpniehiaaXAx7
import Derived.Test.YtgacodhpniehiaaFlat
namespace Go.Proofs.Ytgacodhpniehiaa.XA
open Go.RowKit Go.Proofs.Ytgacodhpniehiaa.Opens Go.Proofs.Ytgacodhpniehiaa.Flat Go.Proofs.YtgacodhpniehiaaW.PrintWords Go.Proofs.YtgacodhpniehiaaW.PrintLast Go.Proofs.YtgacodhpniehiaaW.PrintMore
attribute [local go_sem] max2_int min2_int max_two min_two max_three min_three max_four min_four cell_some cell_same
set_option linter.unusedVariables false
set_option linter.unusedSimpArgs false

/-! ### api_Item_30_by_boxpack_Value_1: function 30 -/
def api_Item_30_by_boxpack_Value_1.l0 : Nat → List (S56) → Int → Int → Int → ByteArray → Int → Int → Int → Int → Int → Option (Int)
  | 0, _, _, _, _, _, _, _, _, _, _ => none
  | k + 1, x0, x7, x8, x9000, x9001, x9002, x9003, x9004, x9005, x9006 => if x8 < x7 then (if 0 ≤ x8 then (if x8 < (x0.length : Int) then ((boxpack_Value_1.f ((rd_T56 x0 x8).f0) ((rd_T56 x0 x8).f1.f0) ((rd_T56 x0 x8).f1.f1) ((rd_T56 x0 x8).f1.f2) ((rd_T56 x0 x8).f2) ((rd_T56 x0 x8).f3) ((rd_T56 x0 x8).f4) x9000 x9001 x9002 x9003 x9004 x9005 x9006).bind fun t146 => (if t146 = true then (some x8) else (api_Item_30_by_boxpack_Value_1.l0 k x0 x7 (wrap64 (x8 + 1)) x9000 x9001 x9002 x9003 x9004 x9005 x9006))) else (none)) else (none)) else (some (-1))
def api_Item_30_by_boxpack_Value_1.f (k : Nat) (l0 : List (S56)) (s8_0 : Int) (s8_1 : ByteArray) (s8_2 : Int) (s8_3 : Int) (s8_4 : Int) (s8_5 : Int) (s8_6 : Int) : Option (Int) := api_Item_30_by_boxpack_Value_1.l0 k l0 (l0.length : Int) 0 s8_0 s8_1 s8_2 s8_3 s8_4 s8_5 s8_6
theorem api_Item_30_by_boxpack_Value_1.mono_l : ∀ k, (∀ y0 y1 y2 y3 y4 y5 y6 y7 y8 y9, LeO (api_Item_30_by_boxpack_Value_1.l0 k y0 y1 y2 y3 y4 y5 y6 y7 y8 y9) (api_Item_30_by_boxpack_Value_1.l0 (k + 1) y0 y1 y2 y3 y4 y5 y6 y7 y8 y9))
  | 0 => fun _ _ _ _ _ _ _ _ _ _ r h => by simp [api_Item_30_by_boxpack_Value_1.l0] at h
  | k + 1 => by
    have ih0 := api_Item_30_by_boxpack_Value_1.mono_l k
    intro y0 y1 y2 y3 y4 y5 y6 y7 y8 y9
    unfold api_Item_30_by_boxpack_Value_1.l0
    repeat' first
    | (with_reducible exact ih0 _ _ _ _ _ _ _ _ _ _)
    | (with_reducible exact LeO.refl _)
    | (with_reducible refine LeO.ite ?_ ?_)
    | (with_reducible refine LeO.bind ?_ (fun _ => ?_))
theorem api_Item_30_by_boxpack_Value_1.mono : ∀ a0 a1 a2 a3 a4 a5 a6 a7 k, LeO (api_Item_30_by_boxpack_Value_1.f k a0 a1 a2 a3 a4 a5 a6 a7) (api_Item_30_by_boxpack_Value_1.f (k + 1) a0 a1 a2 a3 a4 a5 a6 a7) := by
  intro a0 a1 a2 a3 a4 a5 a6 a7 k
  have ih0 := api_Item_30_by_boxpack_Value_1.mono_l k
  unfold api_Item_30_by_boxpack_Value_1.f
  repeat' (with_reducible exact ih0 _ _ _ _ _ _ _ _ _ _)
set_option maxHeartbeats 8000000 in
set_option maxRecDepth 100000 in
theorem api_Item_30_by_boxpack_Value_1.calls (k : Nat) (A0 : Option Addr) (c0 : Nat) (l0 : List (S56)) (g8 : Nat) (s8_0 : Int) (s8_1 : ByteArray) (s8_2 : Int) (s8_3 : Int) (s8_4 : Int) (s8_5 : Int) (s8_6 : Int) (r : Int) (w : World) (hr0 : Kd.C k56 w A0 l0.length l0) (hc0 : l0.length ≤ c0) (hb8 : w.heap[g8]? = some (.cells #[.int .i64 s8_0, .string s8_1, .int .i64 s8_2, .int .i64 s8_3, .int .i64 s8_4, .int .i64 s8_5, .int .i64 s8_6] 61 (0, 0))) (h : api_Item_30_by_boxpack_Value_1.f k l0 s8_0 s8_1 s8_2 s8_3 s8_4 s8_5 s8_6 = some r) :
    Calls Try.prog 30 #[.slice A0 l0.length c0, .func (.func 31) #[] #[.pointer (some ⟨g8, 0, none⟩)]] w fun e w' => e = .returned (.int .i64 r) ∧ Below w.heap.size w w' := by
  have hu56 := Try.underlying56
  have HR0 := ak hr0
  have HC0 := ak hc0
  clear hr0 hc0
  have BK8 := ak hb8
  clear hb8
  have HB := ak (Below.refl w.heap.size w)
  have H : (api_Item_30_by_boxpack_Value_1.l0 k l0 (l0.length : Int) 0 s8_0 s8_1 s8_2 s8_3 s8_4 s8_5 s8_6) = some r := h
  clear h
  have H' := ak H
  clear H
  go_enter Try.func30, Try.ntmps30
  go_wp2
  go_loopg [8] k (fun kq v8 w' => ∃ (x8_1 : Int), v8 = .int .i64 x8_1 ∧ Aside0 (api_Item_30_by_boxpack_Value_1.l0 kq l0 (l0.length : Int) x8_1 s8_0 s8_1 s8_2 s8_3 s8_4 s8_5 s8_6 = some r) ∧ Aside0 (kq ≤ k) ∧ Aside0 (w'.heap[g8]? = some (.cells #[.int .i64 s8_0, .string s8_1, .int .i64 s8_2, .int .i64 s8_3, .int .i64 s8_4, .int .i64 s8_5, .int .i64 s8_6] 61 (0, 0))) ∧ Aside0 (Below w.heap.size w w'))
  case atStart => exact ⟨(0), (by rfl), H', ⟨Nat.le_refl _⟩, ⟨by exact BK8.1⟩, ⟨by repeat (with_reducible exact HB.1)⟩⟩
  clear H'
  obtain ⟨x8_1, rfl, HA, HK1, BK8, HB⟩ := hrel
  cases gk with
  | zero => exact absurd HA.1 (by simp [api_Item_30_by_boxpack_Value_1.l0])
  | succ k1 =>
    have H := HA.1
    clear HA
    simp only [api_Item_30_by_boxpack_Value_1.l0] at H
    by_cases c3 : x8_1 < (l0.length : Int)
    · rw [if_pos c3] at H
      have c3b0 : decide (x8_1 < (l0.length : Int)) = true := decide_eq_true c3
      clear c3
      by_cases c4 : 0 ≤ x8_1
      · rw [if_pos c4] at H
        have c4b0 : decide (0 ≤ x8_1) = true := decide_eq_true c4
        clear c4
        by_cases c5 : x8_1 < (l0.length : Int)
        · rw [if_pos c5] at H
          have c5b0 : decide (x8_1 < (l0.length : Int)) = true := decide_eq_true c5
          clear c5
          replace H := Option.bind_eq_some_iff.mp H
          obtain ⟨t146, A60, H⟩ := H
          (try dsimp only at H)
          have A6 := ak A60
          clear A60
          by_cases c7 : t146 = true
          · subst c7
            have H1 : (some x8_1) = some r := by rw [if_pos rfl] at H; exact H
            clear H
            have H := H1
            clear H1
            obtain rfl := Option.some.inj H
            have p145 : 0 ≤ (x8_1 : Int) := od_
            have q145 : x8_1 < (l0.length : Int) := od_
            obtain ⟨ad145, e145, hx145_0, hx145_1, hx145_2, hx145_3, hx145_4, hx145_5, hx145_6⟩ := at_T56 HR0.1 x8_1 p145 q145
            cases e145
            replace hx145_0 := (hc_ HB hx145_0).trans hx145_0
            replace hx145_1 := (hc_ HB hx145_1).trans hx145_1
            replace hx145_2 := (hc_ HB hx145_2).trans hx145_2
            replace hx145_3 := (hc_ HB hx145_3).trans hx145_3
            replace hx145_4 := (hc_ HB hx145_4).trans hx145_4
            replace hx145_5 := (hc_ HB hx145_5).trans hx145_5
            replace hx145_6 := (hc_ HB hx145_6).trans hx145_6
            replace p145 := eq_true p145
            replace q145 := eq_true q145
            go_wp2_with (first | (go_at_call 31; (with_reducible refine (boxpack_Value_1.calls ((rd_T56 l0 x8_1).f0) ((rd_T56 l0 x8_1).f1.f0) ((rd_T56 l0 x8_1).f1.f1) ((rd_T56 l0 x8_1).f1.f2) ((rd_T56 l0 x8_1).f2) ((rd_T56 l0 x8_1).f3) ((rd_T56 l0 x8_1).f4) g8 s8_0 s8_1 s8_2 s8_3 s8_4 s8_5 s8_6 true _ ?side1 A6.1).mono ?_); (case side1 => exact (by exact BK8.1)); rintro e w8 ⟨rfl, hb⟩; have n0_ := ak (blk_below (g := g8) (o := .cells #[.int .i64 s8_0, .string s8_1, .int .i64 s8_2, .int .i64 s8_3, .int .i64 s8_4, .int .i64 s8_5, .int .i64 s8_6] 61 (0, 0)) (by exact BK8.1) hb); have n1_ := ak (below_step HB.1 hb); clear BK8; clear HB; have BK8 := n0_; have HB := n1_; clear n0_ n1_; (try clear hb)))
            go_ret
            exact ⟨by rfl, by repeat (with_reducible exact HB.1)⟩
          replace c7 := Bool.eq_false_iff.mpr c7
          subst c7
          have H1 : (api_Item_30_by_boxpack_Value_1.l0 k1 l0 (l0.length : Int) (wrap64 (x8_1 + 1)) s8_0 s8_1 s8_2 s8_3 s8_4 s8_5 s8_6) = some r := by rw [if_neg (show ¬ (false = true) by decide)] at H; exact H
          clear H
          have H := H1
          clear H1
          have H' := ak H
          clear H
          have p145 : 0 ≤ (x8_1 : Int) := od_
          have q145 : x8_1 < (l0.length : Int) := od_
          obtain ⟨ad145, e145, hx145_0, hx145_1, hx145_2, hx145_3, hx145_4, hx145_5, hx145_6⟩ := at_T56 HR0.1 x8_1 p145 q145
          cases e145
          replace hx145_0 := (hc_ HB hx145_0).trans hx145_0
          replace hx145_1 := (hc_ HB hx145_1).trans hx145_1
          replace hx145_2 := (hc_ HB hx145_2).trans hx145_2
          replace hx145_3 := (hc_ HB hx145_3).trans hx145_3
          replace hx145_4 := (hc_ HB hx145_4).trans hx145_4
          replace hx145_5 := (hc_ HB hx145_5).trans hx145_5
          replace hx145_6 := (hc_ HB hx145_6).trans hx145_6
          replace p145 := eq_true p145
          replace q145 := eq_true q145
          go_wp2_with (first | (go_at_call 31; (with_reducible refine (boxpack_Value_1.calls ((rd_T56 l0 x8_1).f0) ((rd_T56 l0 x8_1).f1.f0) ((rd_T56 l0 x8_1).f1.f1) ((rd_T56 l0 x8_1).f1.f2) ((rd_T56 l0 x8_1).f2) ((rd_T56 l0 x8_1).f3) ((rd_T56 l0 x8_1).f4) g8 s8_0 s8_1 s8_2 s8_3 s8_4 s8_5 s8_6 false _ ?side1 A6.1).mono ?_); (case side1 => exact (by exact BK8.1)); rintro e w9 ⟨rfl, hb⟩; have n0_ := ak (blk_below (g := g8) (o := .cells #[.int .i64 s8_0, .string s8_1, .int .i64 s8_2, .int .i64 s8_3, .int .i64 s8_4, .int .i64 s8_5, .int .i64 s8_6] 61 (0, 0)) (by exact BK8.1) hb); have n1_ := ak (below_step HB.1 hb); clear BK8; clear HB; have BK8 := n0_; have HB := n1_; clear n0_ n1_; (try clear hb)))
          go_roundg k1
          case measure => have := HK1.1; omega
          case rel => exact ⟨(wrap64 (x8_1 + 1)), (by rfl), H', ⟨by have := HK1.1; omega⟩, ⟨by exact BK8.1⟩, ⟨by repeat (with_reducible exact HB.1)⟩⟩
        rw [if_neg c5] at H
        exact absurd H (by simp)
      rw [if_neg c4] at H
      exact absurd H (by simp)
    rw [if_neg c3] at H
    have c3b0 : decide (x8_1 < (l0.length : Int)) = false := decide_eq_false c3
    clear c3
    obtain rfl := Option.some.inj H
    go_wp2
    go_ret
    exact ⟨by rfl, by repeat (with_reducible exact HB.1)⟩


end Go.Proofs.Ytgacodhpniehiaa.XA
