-- written by xprint.py, this project's own program (wip/), over the words of print.sh
import Derived.Test.YtmmmmgdafifpiaaXAx0
namespace Go.Proofs.Ytmmmmgdafifpiaa.XA
open Go.RowKit Go.Proofs.Ytmmmmgdafifpiaa.Opens Go.Proofs.YtmmmmgdafifpiaaW.PrintWords Go.Proofs.YtmmmmgdafifpiaaW.PrintLast Go.Proofs.YtmmmmgdafifpiaaW.PrintMore
attribute [local go_sem] max2_int min2_int max_two min_two max_three min_three max_four min_four cell_some cell_same   -- for this text's walks alone
set_option linter.unusedVariables false
set_option linter.unusedSimpArgs false

/-! ### anchor_row_1: function 43 -/
def anchor_row_1.f (a0 : Int) (s8_0 : Int) (s16_0 : Int) (s24_0 : Int) (s32_0 : Int) : Option (Int) := if s8_0 = 1 then (some (wrap64 (Int.tdiv s16_0 2))) else (if (wrap64 (s8_0 - 1)) = 0 then (none) else (if (Int.tmod (wrap64 ((wrap64 (s24_0 - s32_0)) * a0)) (wrap64 (s8_0 - 1))) < 0 then (some (wrap64 (s32_0 + (wrap64 ((wrap64 (Int.tdiv (wrap64 ((wrap64 (s24_0 - s32_0)) * a0)) (wrap64 (s8_0 - 1)))) - 1))))) else (some (wrap64 (s32_0 + (wrap64 (Int.tdiv (wrap64 ((wrap64 (s24_0 - s32_0)) * a0)) (wrap64 (s8_0 - 1)))))))))
set_option maxHeartbeats 8000000 in
set_option maxRecDepth 100000 in
theorem anchor_row_1.calls (a0 : Int) (g8 : Nat) (s8_0 : Int) (g16 : Nat) (s16_0 : Int) (g24 : Nat) (s24_0 : Int) (g32 : Nat) (s32_0 : Int) (r : Int) (w : World) (hb8 : w.heap[g8]? = some (.cells #[.int .i64 s8_0] 3 (0, 0))) (hb16 : w.heap[g16]? = some (.cells #[.int .i64 s16_0] 3 (0, 0))) (hb24 : w.heap[g24]? = some (.cells #[.int .i64 s24_0] 3 (0, 0))) (hb32 : w.heap[g32]? = some (.cells #[.int .i64 s32_0] 3 (0, 0))) (h : anchor_row_1.f a0 s8_0 s16_0 s24_0 s32_0 = some r) :
    Calls Try.prog 43 #[.int .i64 a0, .pointer (some ⟨g8, 0, none⟩), .pointer (some ⟨g16, 0, none⟩), .pointer (some ⟨g24, 0, none⟩), .pointer (some ⟨g32, 0, none⟩)] w fun e w' => e = .returned (.int .i64 r) ∧ Drawn0 w w' := by
  have BK8 := Aside0.mk hb8
  clear hb8
  have BK16 := Aside0.mk hb16
  clear hb16
  have BK24 := Aside0.mk hb24
  clear hb24
  have BK32 := Aside0.mk hb32
  clear hb32
  have H : (if s8_0 = 1 then (some (wrap64 (Int.tdiv s16_0 2))) else (if (wrap64 (s8_0 - 1)) = 0 then (none) else (if (Int.tmod (wrap64 ((wrap64 (s24_0 - s32_0)) * a0)) (wrap64 (s8_0 - 1))) < 0 then (some (wrap64 (s32_0 + (wrap64 ((wrap64 (Int.tdiv (wrap64 ((wrap64 (s24_0 - s32_0)) * a0)) (wrap64 (s8_0 - 1)))) - 1))))) else (some (wrap64 (s32_0 + (wrap64 (Int.tdiv (wrap64 ((wrap64 (s24_0 - s32_0)) * a0)) (wrap64 (s8_0 - 1)))))))))) = some r := h
  clear h
  by_cases c6 : s8_0 = 1
  · rw [if_pos c6] at H
    have c6b0 : (s8_0 == 1) = true := beq_iff_eq.mpr c6
    have c6b1 : (s8_0 != 1) = false := bne_eq_false_iff_eq.mpr c6
    clear c6
    obtain rfl := Option.some.inj H
    have hcz7_0 : w.cell? ⟨g8, 0, none⟩ = some (.int .i64 s8_0) := (blk_cell BK8.out 0).trans rfl
    have hfz7_0 := blk_frozen BK8.out 0
    have hcz8_0 : w.cell? ⟨g16, 0, none⟩ = some (.int .i64 s16_0) := (blk_cell BK16.out 0).trans rfl
    have hfz8_0 := blk_frozen BK16.out 0
    go_enter Try.func43, Try.ntmps43
    go_wp2
    repeat (go_quiet (fail); try go_wp2)
    go_ret
    exact ⟨by first | rfl | (simp; done) | (simp [*]; done), by repeat (first | exact Drawn0.refl _ | apply Drawn0.step)⟩
  · rw [if_neg c6] at H
    have c6b0 : (s8_0 == 1) = false := beq_eq_false_iff_ne.mpr c6
    have c6b1 : (s8_0 != 1) = true := bne_iff_ne.mpr c6
    by_cases c9 : (wrap64 (s8_0 - 1)) = 0
    · rw [if_pos c9] at H
      exact absurd H (by simp)
    · rw [if_neg c9] at H
      have c9b0 : ((wrap64 (s8_0 - 1)) == 0) = false := beq_eq_false_iff_ne.mpr c9
      have c9b1 : ((wrap64 (s8_0 - 1)) != 0) = true := bne_iff_ne.mpr c9
      by_cases c10 : (Int.tmod (wrap64 ((wrap64 (s24_0 - s32_0)) * a0)) (wrap64 (s8_0 - 1))) < 0
      · rw [if_pos c10] at H
        have c10b0 : decide ((Int.tmod (wrap64 ((wrap64 (s24_0 - s32_0)) * a0)) (wrap64 (s8_0 - 1))) < 0) = true := decide_eq_true c10
        clear c10
        obtain rfl := Option.some.inj H
        have hcz11_0 : w.cell? ⟨g8, 0, none⟩ = some (.int .i64 s8_0) := (blk_cell BK8.out 0).trans rfl
        have hfz11_0 := blk_frozen BK8.out 0
        have hcz12_0 : w.cell? ⟨g24, 0, none⟩ = some (.int .i64 s24_0) := (blk_cell BK24.out 0).trans rfl
        have hfz12_0 := blk_frozen BK24.out 0
        have hcz13_0 : w.cell? ⟨g32, 0, none⟩ = some (.int .i64 s32_0) := (blk_cell BK32.out 0).trans rfl
        have hfz13_0 := blk_frozen BK32.out 0
        go_enter Try.func43, Try.ntmps43
        go_wp2
        repeat (go_quiet (fail); try go_wp2)
        go_ret
        exact ⟨by first | rfl | (simp; done) | (simp [*]; done), by repeat (first | exact Drawn0.refl _ | apply Drawn0.step)⟩
      · rw [if_neg c10] at H
        have c10b0 : decide ((Int.tmod (wrap64 ((wrap64 (s24_0 - s32_0)) * a0)) (wrap64 (s8_0 - 1))) < 0) = false := decide_eq_false c10
        clear c10
        obtain rfl := Option.some.inj H
        have hcz14_0 : w.cell? ⟨g8, 0, none⟩ = some (.int .i64 s8_0) := (blk_cell BK8.out 0).trans rfl
        have hfz14_0 := blk_frozen BK8.out 0
        have hcz15_0 : w.cell? ⟨g24, 0, none⟩ = some (.int .i64 s24_0) := (blk_cell BK24.out 0).trans rfl
        have hfz15_0 := blk_frozen BK24.out 0
        have hcz16_0 : w.cell? ⟨g32, 0, none⟩ = some (.int .i64 s32_0) := (blk_cell BK32.out 0).trans rfl
        have hfz16_0 := blk_frozen BK32.out 0
        go_enter Try.func43, Try.ntmps43
        go_wp2
        repeat (go_quiet (fail); try go_wp2)
        go_ret
        exact ⟨by first | rfl | (simp; done) | (simp [*]; done), by repeat (first | exact Drawn0.refl _ | apply Drawn0.step)⟩

end Go.Proofs.Ytmmmmgdafifpiaa.XA
