-- written by xprint.py, this project's own program (wip/), over the words of print.sh
import Derived.Test.YtecbmcheojolnaaXAx0
import Derived.Test.YtecbmcheojolnaaXAx28
namespace Go.Proofs.Ytecbmcheojolnaa.XA
open Go.RowKit Go.Proofs.Ytecbmcheojolnaa.Opens Go.Proofs.YtecbmcheojolnaaW.PrintWords Go.Proofs.YtecbmcheojolnaaW.PrintLast Go.Proofs.YtecbmcheojolnaaW.PrintMore
attribute [local go_sem] max2_int min2_int max_two min_two max_three min_three max_four min_four cell_some cell_same   -- for this text's walks alone
set_option linter.unusedVariables false
set_option linter.unusedSimpArgs false

/-! ### slices_IndexFunc_2_int_2_int_by_precedence_Is_1: function 44 -/
def slices_IndexFunc_2_int_2_int_by_precedence_Is_1.l0 : Nat → List (S47) → Int → Int → List Int → Option (Int)
  | 0, _, _, _, _ => none
  | k + 1, x0, x7, x8, x9000 => if x8 < x7 then (if 0 ≤ x8 then (if x8 < (x0.length : Int) then ((precedence_Is_1.f ((rd_T47 x0 x8).f0) ((rd_T47 x0 x8).f1) x9000).bind fun t351 => (if t351 = true then (some x8) else (slices_IndexFunc_2_int_2_int_by_precedence_Is_1.l0 k x0 x7 (wrap64 (x8 + 1)) x9000))) else (none)) else (none)) else (some (-1))
def slices_IndexFunc_2_int_2_int_by_precedence_Is_1.f (k : Nat) (l0 : List (S47)) (s8_0 : List Int) : Option (Int) := slices_IndexFunc_2_int_2_int_by_precedence_Is_1.l0 k l0 (l0.length : Int) 0 s8_0
theorem slices_IndexFunc_2_int_2_int_by_precedence_Is_1.mono_l : ∀ k, (∀ y0 y1 y2 y3, LeO (slices_IndexFunc_2_int_2_int_by_precedence_Is_1.l0 k y0 y1 y2 y3) (slices_IndexFunc_2_int_2_int_by_precedence_Is_1.l0 (k + 1) y0 y1 y2 y3))
  | 0 => fun _ _ _ _ r h => by simp [slices_IndexFunc_2_int_2_int_by_precedence_Is_1.l0] at h
  | k + 1 => by
    have ih0 := slices_IndexFunc_2_int_2_int_by_precedence_Is_1.mono_l k
    intro y0 y1 y2 y3
    unfold slices_IndexFunc_2_int_2_int_by_precedence_Is_1.l0
    repeat' first
    | (with_reducible exact ih0 _ _ _ _)
    | (with_reducible exact LeO.refl _)
    | (with_reducible refine LeO.ite ?_ ?_)
    | (with_reducible refine LeO.bind ?_ (fun _ => ?_))
      
theorem slices_IndexFunc_2_int_2_int_by_precedence_Is_1.mono : ∀ a0 a1 k, LeO (slices_IndexFunc_2_int_2_int_by_precedence_Is_1.f k a0 a1) (slices_IndexFunc_2_int_2_int_by_precedence_Is_1.f (k + 1) a0 a1) := by
  intro a0 a1 k
  have ih0 := slices_IndexFunc_2_int_2_int_by_precedence_Is_1.mono_l k
  unfold slices_IndexFunc_2_int_2_int_by_precedence_Is_1.f
  repeat' (with_reducible exact ih0 _ _ _ _)
set_option maxHeartbeats 8000000 in
set_option maxRecDepth 100000 in
theorem slices_IndexFunc_2_int_2_int_by_precedence_Is_1.calls (k : Nat) (A0 : Option Addr) (c0 : Nat) (l0 : List (S47)) (g8 : Nat) (A8_0 : Option Addr) (c8_0 : Nat) (s8_0 : List Int) (r : Int) (w : World) (hr0 : Kd.C k47 w A0 l0.length l0) (hc0 : l0.length ≤ c0) (hb8 : w.heap[g8]? = some (.cells #[.slice A8_0 s8_0.length c8_0] 27 (0, 0))) (hr8_0 : Kd.C (Kd.int .i64) w A8_0 s8_0.length s8_0) (hc8_0 : s8_0.length ≤ c8_0) (h : slices_IndexFunc_2_int_2_int_by_precedence_Is_1.f k l0 s8_0 = some r) :
    Calls Try.prog 44 #[.slice A0 l0.length c0, .func (.func 41) #[] #[.pointer (some ⟨g8, 0, none⟩)]] w fun e w' => e = .returned (.int .i64 r) ∧ Below w.heap.size w w' := by
  have hu47 := Try.underlying47
  have HR0 := ak hr0
  have HC0 := ak hc0
  clear hr0 hc0
  have BK8 := ak hb8
  clear hb8
  have HR8_0 := ak hr8_0
  have HC8_0 := ak hc8_0
  clear hr8_0 hc8_0
  have HB := ak (Below.refl w.heap.size w)
  have H : (slices_IndexFunc_2_int_2_int_by_precedence_Is_1.l0 k l0 (l0.length : Int) 0 s8_0) = some r := h
  clear h
  have H' := ak H
  clear H
  go_enter Try.func44, Try.ntmps44
  go_wp2
  go_loopg [8] k (fun kq v8 w' => ∃ (x8_1 : Int), v8 = .int .i64 x8_1 ∧ Aside0 (slices_IndexFunc_2_int_2_int_by_precedence_Is_1.l0 kq l0 (l0.length : Int) x8_1 s8_0 = some r) ∧ Aside0 (kq ≤ k) ∧ Aside0 (w'.heap[g8]? = some (.cells #[(.slice A8_0 s8_0.length c8_0)] 27 (0, 0))) ∧ Aside0 (Below w.heap.size w w'))
  case atStart => exact ⟨(0), (by rfl), H', ⟨Nat.le_refl _⟩, ⟨by exact BK8.1⟩, ⟨by repeat (with_reducible exact HB.1)⟩⟩
  clear H'
  obtain ⟨x8_1, rfl, HA, HK1, BK8, HB⟩ := hrel
  cases gk with
  | zero => exact absurd HA.1 (by simp [slices_IndexFunc_2_int_2_int_by_precedence_Is_1.l0])
  | succ k1 =>
    have H := HA.1
    clear HA
    simp only [slices_IndexFunc_2_int_2_int_by_precedence_Is_1.l0] at H
    by_cases c3 : x8_1 < (l0.length : Int)
    · rw [if_pos c3] at H
      have c3b0 : decide (x8_1 < (l0.length : Int)) = true := decide_eq_true c3
      clear c3
      by_cases c4 : 0 ≤ x8_1
      · rw [if_pos c4] at H
        have c4b0 : decide (0 ≤ x8_1) = true := decide_eq_true c4
        clear c4
        by_cases c5 : x8_1 < (l0.length : Int)
        · rw [if_pos c5] at H
          have c5b0 : decide (x8_1 < (l0.length : Int)) = true := decide_eq_true c5
          clear c5
          replace H := Option.bind_eq_some_iff.mp H
          obtain ⟨t351, A60, H⟩ := H
          replace H : (if t351 = true then (some x8_1) else (slices_IndexFunc_2_int_2_int_by_precedence_Is_1.l0 k1 l0 (l0.length : Int) (wrap64 (x8_1 + 1)) s8_0)) = some r := H
          have A6 := ak A60
          clear A60
          by_cases c7 : t351 = true
          · subst c7
            have H1 : (some x8_1) = some r := by rw [if_pos rfl] at H; exact H
            clear H
            have H := H1
            clear H1
            obtain rfl := Option.some.inj H
            have p350 : 0 ≤ (x8_1 : Int) := od_
            have q350 : x8_1 < (l0.length : Int) := od_
            obtain ⟨ad350, e350, hx350_0, hx350_1⟩ := at_T47 HR0.1 x8_1 p350 q350
            cases e350
            replace hx350_0 := (hc_ HB hx350_0).trans hx350_0
            replace hx350_1 := (hc_ HB hx350_1).trans hx350_1
            replace p350 := eq_true p350
            replace q350 := eq_true q350
            go_wp2_with (first | (go_at_call 41; (with_reducible refine (precedence_Is_1.calls ((rd_T47 l0 x8_1).f0) ((rd_T47 l0 x8_1).f1) g8 A8_0 c8_0 s8_0 true _ ?side1 ?side2 ?side3 A6.1).mono ?_); (case side1 => exact (by exact BK8.1)); (case side2 => exact (Kd.C_below HR8_0.1 HB.1)); (case side3 => exact HC8_0.1); rintro e w8 ⟨rfl, hb⟩; have n0_ := ak (blk_below (g := g8) (o := .cells #[.slice A8_0 s8_0.length c8_0] 27 (0, 0)) (by exact BK8.1) hb); have n1_ := ak (below_step HB.1 hb); clear BK8; clear HB; have BK8 := n0_; have HB := n1_; clear n0_ n1_; (try clear hb)))
            go_ret
            exact ⟨by rfl, by repeat (with_reducible exact HB.1)⟩
          replace c7 := Bool.eq_false_iff.mpr c7
          subst c7
          have H1 : (slices_IndexFunc_2_int_2_int_by_precedence_Is_1.l0 k1 l0 (l0.length : Int) (wrap64 (x8_1 + 1)) s8_0) = some r := by rw [if_neg (show ¬ (false = true) by decide)] at H; exact H
          clear H
          have H := H1
          clear H1
          have H' := ak H
          clear H
          have p350 : 0 ≤ (x8_1 : Int) := od_
          have q350 : x8_1 < (l0.length : Int) := od_
          obtain ⟨ad350, e350, hx350_0, hx350_1⟩ := at_T47 HR0.1 x8_1 p350 q350
          cases e350
          replace hx350_0 := (hc_ HB hx350_0).trans hx350_0
          replace hx350_1 := (hc_ HB hx350_1).trans hx350_1
          replace p350 := eq_true p350
          replace q350 := eq_true q350
          go_wp2_with (first | (go_at_call 41; (with_reducible refine (precedence_Is_1.calls ((rd_T47 l0 x8_1).f0) ((rd_T47 l0 x8_1).f1) g8 A8_0 c8_0 s8_0 false _ ?side1 ?side2 ?side3 A6.1).mono ?_); (case side1 => exact (by exact BK8.1)); (case side2 => exact (Kd.C_below HR8_0.1 HB.1)); (case side3 => exact HC8_0.1); rintro e w9 ⟨rfl, hb⟩; have n0_ := ak (blk_below (g := g8) (o := .cells #[.slice A8_0 s8_0.length c8_0] 27 (0, 0)) (by exact BK8.1) hb); have n1_ := ak (below_step HB.1 hb); clear BK8; clear HB; have BK8 := n0_; have HB := n1_; clear n0_ n1_; (try clear hb)))
          go_roundg k1
          case measure => have := HK1.1; omega
          case rel => exact ⟨(wrap64 (x8_1 + 1)), (by rfl), H', ⟨by have := HK1.1; omega⟩, ⟨by exact BK8.1⟩, ⟨by repeat (with_reducible exact HB.1)⟩⟩
        rw [if_neg c5] at H
        exact absurd H (by simp)
      rw [if_neg c4] at H
      exact absurd H (by simp)
    rw [if_neg c3] at H
    have c3b0 : decide (x8_1 < (l0.length : Int)) = false := decide_eq_false c3
    clear c3
    obtain rfl := Option.some.inj H
    go_wp2
    go_ret
    exact ⟨by rfl, by repeat (with_reducible exact HB.1)⟩

end Go.Proofs.Ytecbmcheojolnaa.XA
