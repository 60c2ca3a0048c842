-- written by xprint.py, this project's own program (wip/), over the words of print.sh
import Derived.Test.YtecbmcheojolnaaXAx0
namespace Go.Proofs.Ytecbmcheojolnaa.XA
open Go.RowKit Go.Proofs.Ytecbmcheojolnaa.Opens Go.Proofs.YtecbmcheojolnaaW.PrintWords Go.Proofs.YtecbmcheojolnaaW.PrintLast Go.Proofs.YtecbmcheojolnaaW.PrintMore
attribute [local go_sem] max2_int min2_int max_two min_two max_three min_three max_four min_four cell_some cell_same   -- for this text's walks alone
set_option linter.unusedVariables false
set_option linter.unusedSimpArgs false

/-! ### precedence_Is_1: function 41 -/
def precedence_Is_1.f (a0_0 : Int) (a0_1 : Int) (s8_0 : List Int) : Option (Bool) := if 0 ≤ a0_0 then (if a0_0 < (s8_0.length : Int) then (if 0 ≤ a0_1 then (if a0_1 < (s8_0.length : Int) then (some (decide ((rd s8_0 a0_0) ≥ (rd s8_0 a0_1)))) else (none)) else (none)) else (none)) else (none)
set_option maxHeartbeats 8000000 in
set_option maxRecDepth 100000 in
theorem precedence_Is_1.calls (a0_0 : Int) (a0_1 : Int) (g8 : Nat) (A8_0 : Option Addr) (c8_0 : Nat) (s8_0 : List Int) (r : Bool) (w : World) (hb8 : w.heap[g8]? = some (.cells #[.slice A8_0 s8_0.length c8_0] 27 (0, 0))) (hr8_0 : Kd.C (Kd.int .i64) w A8_0 s8_0.length s8_0) (hc8_0 : s8_0.length ≤ c8_0) (h : precedence_Is_1.f a0_0 a0_1 s8_0 = some r) :
    Calls Try.prog 41 #[.agg #[.int .i64 a0_0, .int .i64 a0_1], .pointer (some ⟨g8, 0, none⟩)] w fun e w' => e = .returned (.bool r) ∧ Below w.heap.size w w' := by
  have hu47 := Try.underlying47
  have BK8 := ak hb8
  clear hb8
  have HR8_0 := ak hr8_0
  have HC8_0 := ak hc8_0
  clear hr8_0 hc8_0
  have HB := ak (Below.refl w.heap.size w)
  have H : (if 0 ≤ a0_0 then (if a0_0 < (s8_0.length : Int) then (if 0 ≤ a0_1 then (if a0_1 < (s8_0.length : Int) then (some (decide ((rd s8_0 a0_0) ≥ (rd s8_0 a0_1)))) else (none)) else (none)) else (none)) else (none)) = some r := h
  clear h
  by_cases c3 : 0 ≤ a0_0
  · rw [if_pos c3] at H
    have c3b0 : decide (0 ≤ a0_0) = true := decide_eq_true c3
    clear c3
    by_cases c4 : a0_0 < (s8_0.length : Int)
    · rw [if_pos c4] at H
      have c4b0 : decide (a0_0 < (s8_0.length : Int)) = true := decide_eq_true c4
      clear c4
      by_cases c5 : 0 ≤ a0_1
      · rw [if_pos c5] at H
        have c5b0 : decide (0 ≤ a0_1) = true := decide_eq_true c5
        clear c5
        by_cases c6 : a0_1 < (s8_0.length : Int)
        · rw [if_pos c6] at H
          have c6b0 : decide (a0_1 < (s8_0.length : Int)) = true := decide_eq_true c6
          clear c6
          obtain rfl := Option.some.inj H
          go_enter Try.func41, Try.ntmps41
          iterate 2 ((try go_quiet (fail)); go_wp2_with (first | ((with_reducible refine gate_dst (N := 2) rfl ?_); refine box_event ?hg (N := 2) ?hd (cs := #[.int .i64 a0_0, .int .i64 a0_1]) (t := 47) ?hr ?_; (case hd => rfl); (case hg => rfl); (case hr => (go_simp; done)); intro gb347 hg w7 hbox hb; have n0_ := ak (blk_below (g := g8) (o := .cells #[.slice A8_0 s8_0.length c8_0] 27 (0, 0)) (by exact BK8.1) hb); have n1_ := ak (below_step HB.1 hb); have n2_ := ak (hbox); have n3_ := ak ((by rw [hg]; exact (below_size HB.1) : w.heap.size ≤ gb347)); have n4_ := ak ((by rw [hg]; exact (below_size HB.1) : w.heap.size ≤ gb347)); have n5_ := ak ((by rw [hg]; exact Nat.ne_of_lt (blk_lt (g := g8) (o := .cells #[.slice A8_0 s8_0.length c8_0] 27 (0, 0)) (by exact BK8.1)) : g8 ≠ gb347)); have n6_ := ak ((by rw [hg]; exact Nat.ne_of_gt (blk_lt (g := g8) (o := .cells #[.slice A8_0 s8_0.length c8_0] 27 (0, 0)) (by exact BK8.1)) : gb347 ≠ g8)); clear BK8; clear HB; have BK8 := n0_; have HB := n1_; have BK347 := n2_; have GW347 := n3_; have GE347 := n4_; have NB8_347 := n5_; have NB347_8 := n6_; clear n0_ n1_ n2_ n3_ n4_ n5_ n6_; clear hb hbox hg; have hnb8 := NB8_347.1; have hnc8 := NB347_8.1; have hcz9_0 : w7.cell? ⟨g8, 0, none⟩ = some (.slice A8_0 s8_0.length c8_0) := (blk_cell BK8.1 0).trans rfl; have hfz9_0 := blk_frozen BK8.1 0; have hcz10_0 : w7.cell? ⟨gb347, 0, none⟩ = some (.int .i64 a0_0) := (blk_cell BK347.1 0).trans rfl; have hcz10_1 : w7.cell? ⟨gb347, 1, none⟩ = some (.int .i64 a0_1) := (blk_cell BK347.1 1).trans rfl; have hfz10_0 := blk_frozen BK347.1 0; have hfz10_1 := blk_frozen BK347.1 1; have p348 : 0 ≤ (a0_0 : Int) := od_; have q348 : a0_0 < (s8_0.length : Int) := od_; obtain ⟨ad348, e348, hx348_0⟩ := Kd.at_int HR8_0.1 a0_0 p348 q348; cases e348; replace hx348_0 := (hc_ HB hx348_0).trans hx348_0; replace p348 := eq_true p348; replace q348 := eq_true q348; have p349 : 0 ≤ (a0_1 : Int) := od_; have q349 : a0_1 < (s8_0.length : Int) := od_; obtain ⟨ad349, e349, hx349_0⟩ := Kd.at_int HR8_0.1 a0_1 p349 q349; obtain rfl : ad348 = ad349 := (by injection e349); replace hx349_0 := (hc_ HB hx349_0).trans hx349_0; replace p349 := eq_true p349; replace q349 := eq_true q349)))
          go_ret
          exact ⟨by rfl, by repeat (with_reducible first | exact HB.1 | apply pw_below_drewN )⟩
        rw [if_neg c6] at H
        exact absurd H (by simp)
      rw [if_neg c5] at H
      exact absurd H (by simp)
    rw [if_neg c4] at H
    exact absurd H (by simp)
  rw [if_neg c3] at H
  exact absurd H (by simp)

end Go.Proofs.Ytecbmcheojolnaa.XA
