-- written by xprint.py, this project's own program (wip/), over the words of print.sh
import Derived.Test.YtecbmcheojolnaaXAx0
import Derived.Test.YtecbmcheojolnaaXAx3
namespace Go.Proofs.Ytecbmcheojolnaa.XA
open Go.RowKit Go.Proofs.Ytecbmcheojolnaa.Opens Go.Proofs.YtecbmcheojolnaaW.PrintWords Go.Proofs.YtecbmcheojolnaaW.PrintLast Go.Proofs.YtecbmcheojolnaaW.PrintMore
attribute [local go_sem] max2_int min2_int max_two min_two max_three min_three max_four min_four cell_some cell_same   -- for this text's walks alone
set_option linter.unusedVariables false
set_option linter.unusedSimpArgs false

/-! ### slices_IndexFunc_2_int_2_int_by_precedence_Check_2: function 44 -/
def slices_IndexFunc_2_int_2_int_by_precedence_Check_2.l0 : Nat → List (S47) → Int → Int → Int → List (S47) → Option (Int)
  | 0, _, _, _, _, _ => none
  | k + 1, x0, x7, x8, x10000, x10001 => if x8 < x7 then (if 0 ≤ x8 then (if x8 < (x0.length : Int) then ((precedence_Check_2.f ((rd_T47 x0 x8).f0) ((rd_T47 x0 x8).f1) x10000 x10001).bind fun t103 => (if t103 = true then (some x8) else (slices_IndexFunc_2_int_2_int_by_precedence_Check_2.l0 k x0 x7 (wrap64 (x8 + 1)) x10000 x10001))) else (none)) else (none)) else (some (-1))
def slices_IndexFunc_2_int_2_int_by_precedence_Check_2.f (k : Nat) (l0 : List (S47)) (s9_0 : Int) (s9_1 : List (S47)) : Option (Int) := slices_IndexFunc_2_int_2_int_by_precedence_Check_2.l0 k l0 (l0.length : Int) 0 s9_0 s9_1
theorem slices_IndexFunc_2_int_2_int_by_precedence_Check_2.mono_l : ∀ k, (∀ y0 y1 y2 y3 y4, LeO (slices_IndexFunc_2_int_2_int_by_precedence_Check_2.l0 k y0 y1 y2 y3 y4) (slices_IndexFunc_2_int_2_int_by_precedence_Check_2.l0 (k + 1) y0 y1 y2 y3 y4))
  | 0 => fun _ _ _ _ _ r h => by simp [slices_IndexFunc_2_int_2_int_by_precedence_Check_2.l0] at h
  | k + 1 => by
    have ih0 := slices_IndexFunc_2_int_2_int_by_precedence_Check_2.mono_l k
    intro y0 y1 y2 y3 y4
    unfold slices_IndexFunc_2_int_2_int_by_precedence_Check_2.l0
    repeat' first
    | (with_reducible exact ih0 _ _ _ _ _)
    | (with_reducible exact LeO.refl _)
    | (with_reducible refine LeO.ite ?_ ?_)
    | (with_reducible refine LeO.bind ?_ (fun _ => ?_))
      
theorem slices_IndexFunc_2_int_2_int_by_precedence_Check_2.mono : ∀ a0 a1 a2 k, LeO (slices_IndexFunc_2_int_2_int_by_precedence_Check_2.f k a0 a1 a2) (slices_IndexFunc_2_int_2_int_by_precedence_Check_2.f (k + 1) a0 a1 a2) := by
  intro a0 a1 a2 k
  have ih0 := slices_IndexFunc_2_int_2_int_by_precedence_Check_2.mono_l k
  unfold slices_IndexFunc_2_int_2_int_by_precedence_Check_2.f
  repeat' (with_reducible exact ih0 _ _ _ _ _)
set_option maxHeartbeats 8000000 in
set_option maxRecDepth 100000 in
theorem slices_IndexFunc_2_int_2_int_by_precedence_Check_2.calls (k : Nat) (A0 : Option Addr) (c0 : Nat) (l0 : List (S47)) (g8 : Nat) (g9 : Nat) (s9_0 : Int) (A9_1 : Option Addr) (c9_1 : Nat) (s9_1 : List (S47)) (r : Int) (w : World) (hr0 : Kd.C k47 w A0 l0.length l0) (hc0 : l0.length ≤ c0) (hb8 : w.heap[g8]? = some (.cells #[.func (.func 38) #[] #[.pointer (some ⟨g9, 0, none⟩)]] 59 (0, 0))) (hb9 : w.heap[g9]? = some (.cells #[.int .i64 s9_0, .slice A9_1 s9_1.length c9_1] 31 (0, 0))) (hr9_1 : Kd.C k47 w A9_1 s9_1.length s9_1) (hc9_1 : s9_1.length ≤ c9_1) (h : slices_IndexFunc_2_int_2_int_by_precedence_Check_2.f k l0 s9_0 s9_1 = some r) :
    Calls Try.prog 44 #[.slice A0 l0.length c0, .func (.func 40) #[] #[.pointer (some ⟨g8, 0, none⟩)]] w fun e w' => e = .returned (.int .i64 r) ∧ Below w.heap.size w w' := by
  have hu47 := Try.underlying47
  have HR0 := ak hr0
  have HC0 := ak hc0
  clear hr0 hc0
  have BK8 := ak hb8
  clear hb8
  have BK9 := ak hb9
  clear hb9
  have HR9_1 := ak hr9_1
  have HC9_1 := ak hc9_1
  clear hr9_1 hc9_1
  have HB := ak (Below.refl w.heap.size w)
  have H : (slices_IndexFunc_2_int_2_int_by_precedence_Check_2.l0 k l0 (l0.length : Int) 0 s9_0 s9_1) = some r := h
  clear h
  have H' := ak H
  clear H
  go_enter Try.func44, Try.ntmps44
  go_wp2
  go_loopg [8] k (fun kq v8 w' => ∃ (x8_1 : Int), v8 = .int .i64 x8_1 ∧ Aside0 (slices_IndexFunc_2_int_2_int_by_precedence_Check_2.l0 kq l0 (l0.length : Int) x8_1 s9_0 s9_1 = some r) ∧ Aside0 (kq ≤ k) ∧ Aside0 (w'.heap[g8]? = some (.cells #[.func (.func 38) #[] #[.pointer (some ⟨g9, 0, none⟩)]] 59 (0, 0))) ∧ Aside0 (w'.heap[g9]? = some (.cells #[.int .i64 s9_0, (.slice A9_1 s9_1.length c9_1)] 31 (0, 0))) ∧ Aside0 (Below w.heap.size w w'))
  case atStart => exact ⟨(0), (by rfl), H', ⟨Nat.le_refl _⟩, ⟨by exact BK8.1⟩, ⟨by exact BK9.1⟩, ⟨by repeat (with_reducible exact HB.1)⟩⟩
  clear H'
  obtain ⟨x8_1, rfl, HA, HK1, BK8, BK9, HB⟩ := hrel
  cases gk with
  | zero => exact absurd HA.1 (by simp [slices_IndexFunc_2_int_2_int_by_precedence_Check_2.l0])
  | succ k1 =>
    have H := HA.1
    clear HA
    simp only [slices_IndexFunc_2_int_2_int_by_precedence_Check_2.l0] at H
    by_cases c3 : x8_1 < (l0.length : Int)
    · rw [if_pos c3] at H
      have c3b0 : decide (x8_1 < (l0.length : Int)) = true := decide_eq_true c3
      clear c3
      by_cases c4 : 0 ≤ x8_1
      · rw [if_pos c4] at H
        have c4b0 : decide (0 ≤ x8_1) = true := decide_eq_true c4
        clear c4
        by_cases c5 : x8_1 < (l0.length : Int)
        · rw [if_pos c5] at H
          have c5b0 : decide (x8_1 < (l0.length : Int)) = true := decide_eq_true c5
          clear c5
          replace H := Option.bind_eq_some_iff.mp H
          obtain ⟨t103, A60, H⟩ := H
          replace H : (if t103 = true then (some x8_1) else (slices_IndexFunc_2_int_2_int_by_precedence_Check_2.l0 k1 l0 (l0.length : Int) (wrap64 (x8_1 + 1)) s9_0 s9_1)) = some r := H
          have A6 := ak A60
          clear A60
          by_cases c7 : t103 = true
          · subst c7
            have H1 : (some x8_1) = some r := by rw [if_pos rfl] at H; exact H
            clear H
            have H := H1
            clear H1
            obtain rfl := Option.some.inj H
            have p102 : 0 ≤ (x8_1 : Int) := od_
            have q102 : x8_1 < (l0.length : Int) := od_
            obtain ⟨ad102, e102, hx102_0, hx102_1⟩ := at_T47 HR0.1 x8_1 p102 q102
            cases e102
            replace hx102_0 := (hc_ HB hx102_0).trans hx102_0
            replace hx102_1 := (hc_ HB hx102_1).trans hx102_1
            replace p102 := eq_true p102
            replace q102 := eq_true q102
            go_wp2_with (first | (go_at_call 40; (with_reducible refine (precedence_Check_2.calls ((rd_T47 l0 x8_1).f0) ((rd_T47 l0 x8_1).f1) g8 g9 s9_0 A9_1 c9_1 s9_1 true _ ?side1 ?side2 ?side3 ?side4 A6.1).mono ?_); (case side1 => exact (by exact BK8.1)); (case side2 => exact (by exact BK9.1)); (case side3 => exact (Kd.C_below HR9_1.1 HB.1)); (case side4 => exact HC9_1.1); rintro e w8 ⟨rfl, hb⟩; have n0_ := ak (blk_below (g := g8) (o := .cells #[.func (.func 38) #[] #[.pointer (some ⟨g9, 0, none⟩)]] 59 (0, 0)) (by exact BK8.1) hb); have n1_ := ak (blk_below (g := g9) (o := .cells #[.int .i64 s9_0, .slice A9_1 s9_1.length c9_1] 31 (0, 0)) (by exact BK9.1) hb); have n2_ := ak (below_step HB.1 hb); clear BK8; clear BK9; clear HB; have BK8 := n0_; have BK9 := n1_; have HB := n2_; clear n0_ n1_ n2_; (try clear hb)))
            go_ret
            exact ⟨by rfl, by repeat (with_reducible exact HB.1)⟩
          replace c7 := Bool.eq_false_iff.mpr c7
          subst c7
          have H1 : (slices_IndexFunc_2_int_2_int_by_precedence_Check_2.l0 k1 l0 (l0.length : Int) (wrap64 (x8_1 + 1)) s9_0 s9_1) = some r := by rw [if_neg (show ¬ (false = true) by decide)] at H; exact H
          clear H
          have H := H1
          clear H1
          have H' := ak H
          clear H
          have p102 : 0 ≤ (x8_1 : Int) := od_
          have q102 : x8_1 < (l0.length : Int) := od_
          obtain ⟨ad102, e102, hx102_0, hx102_1⟩ := at_T47 HR0.1 x8_1 p102 q102
          cases e102
          replace hx102_0 := (hc_ HB hx102_0).trans hx102_0
          replace hx102_1 := (hc_ HB hx102_1).trans hx102_1
          replace p102 := eq_true p102
          replace q102 := eq_true q102
          go_wp2_with (first | (go_at_call 40; (with_reducible refine (precedence_Check_2.calls ((rd_T47 l0 x8_1).f0) ((rd_T47 l0 x8_1).f1) g8 g9 s9_0 A9_1 c9_1 s9_1 false _ ?side1 ?side2 ?side3 ?side4 A6.1).mono ?_); (case side1 => exact (by exact BK8.1)); (case side2 => exact (by exact BK9.1)); (case side3 => exact (Kd.C_below HR9_1.1 HB.1)); (case side4 => exact HC9_1.1); rintro e w9 ⟨rfl, hb⟩; have n0_ := ak (blk_below (g := g8) (o := .cells #[.func (.func 38) #[] #[.pointer (some ⟨g9, 0, none⟩)]] 59 (0, 0)) (by exact BK8.1) hb); have n1_ := ak (blk_below (g := g9) (o := .cells #[.int .i64 s9_0, .slice A9_1 s9_1.length c9_1] 31 (0, 0)) (by exact BK9.1) hb); have n2_ := ak (below_step HB.1 hb); clear BK8; clear BK9; clear HB; have BK8 := n0_; have BK9 := n1_; have HB := n2_; clear n0_ n1_ n2_; (try clear hb)))
          go_roundg k1
          case measure => have := HK1.1; omega
          case rel => exact ⟨(wrap64 (x8_1 + 1)), (by rfl), H', ⟨by have := HK1.1; omega⟩, ⟨by exact BK8.1⟩, ⟨by exact BK9.1⟩, ⟨by repeat (with_reducible exact HB.1)⟩⟩
        rw [if_neg c5] at H
        exact absurd H (by simp)
      rw [if_neg c4] at H
      exact absurd H (by simp)
    rw [if_neg c3] at H
    have c3b0 : decide (x8_1 < (l0.length : Int)) = false := decide_eq_false c3
    clear c3
    obtain rfl := Option.some.inj H
    go_wp2
    go_ret
    exact ⟨by rfl, by repeat (with_reducible exact HB.1)⟩

end Go.Proofs.Ytecbmcheojolnaa.XA
