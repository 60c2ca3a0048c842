import Derived.Test.YtgacodhpniehiaaXAx0
namespace Go.Proofs.Ytgacodhpniehiaa.XA
open Go.RowKit Opens YtgacodhpniehiaaW.PrintWords YtgacodhpniehiaaW.PrintLast YtgacodhpniehiaaW.PrintMore
attribute [local go_sem] max2_int min2_int max_two min_two max_three min_three max_four min_four cell_some cell_same
set_option linter.unusedVariables false
set_option linter.unusedSimpArgs false

def rf_Fits.f (a0_0 : Int) (a0_1 : Int) (a0_2 : Int) (a1_0 : Int) (a1_1 : Int) (a1_2 : Int) : Option (Bool) := if a0_0 ≤ a1_0 then (if a0_1 ≤ a1_1 then (some (decide (a0_2 ≤ a1_2))) else (some false)) else (some false)
set_option maxHeartbeats 8000000 in
set_option maxRecDepth 100000 in
theorem rf_Fits.calls (a0_0 : Int) (a0_1 : Int) (a0_2 : Int) (a1_0 : Int) (a1_1 : Int) (a1_2 : Int) (r : Bool) (w : World) (h : rf_Fits.f a0_0 a0_1 a0_2 a1_0 a1_1 a1_2 = some r) :
    Calls Try.prog 41 #[.agg #[.int .i64 a0_0, .int .i64 a0_1, .int .i64 a0_2], .agg #[.int .i64 a1_0, .int .i64 a1_1, .int .i64 a1_2]] w fun e w' => e = .returned (.bool r) ∧ Below w.heap.size w w' := by
  have hu23 := Try.underlying23
  have HB := ak (Below.refl w.heap.size w)
  have H : (if a0_0 ≤ a1_0 then (if a0_1 ≤ a1_1 then (some (decide (a0_2 ≤ a1_2))) else (some false)) else (some false)) = some r := h
  clear h
  by_cases c3 : a0_0 ≤ a1_0
  · rw [if_pos c3] at H
    have c3b0 : decide (a0_0 ≤ a1_0) = true := decide_eq_true c3
    clear c3
    by_cases c4 : a0_1 ≤ a1_1
    · rw [if_pos c4] at H
      have c4b0 : decide (a0_1 ≤ a1_1) = true := decide_eq_true c4
      clear c4
      obtain rfl := Option.some.inj H
      go_enter Try.func41, Try.ntmps41
      go_wp2_with (first | ((with_reducible refine gate_dst (N := 2) rfl ?_); refine bx_ 2 #[.int .i64 a0_0, .int .i64 a0_1, .int .i64 a0_2] 23 ?_; intro gb276 hg w5 hbox hb; have n0_ := ak (below_step HB.1 hb); have n1_ := ak (hbox); have n2_ := ak ((by rw [hg]; exact (below_size HB.1) : w.heap.size ≤ gb276)); have n3_ := ak ((by rw [hg]; exact (below_size HB.1) : w.heap.size ≤ gb276)); clear HB; have HB := n0_; have BK276 := n1_; have GW276 := n2_; have GE276 := n3_; clear n0_ n1_ n2_ n3_; clear hb hbox hg) | ((with_reducible refine gate_dst (N := 3) rfl ?_); refine bx_ 3 #[.int .i64 a1_0, .int .i64 a1_1, .int .i64 a1_2] 23 ?_; intro gb277 hg w6 hbox hb; have n0_ := ak (blk_below (g := gb276) (o := .cells #[.int .i64 a0_0, .int .i64 a0_1, .int .i64 a0_2] 23 (0, 0)) (by exact BK276.1) hb); have n1_ := ak (below_step HB.1 hb); have n2_ := ak (hbox); have n3_ := ak ((by rw [hg]; exact (below_size HB.1) : w.heap.size ≤ gb277)); have n4_ := ak ((by rw [hg]; exact (below_size HB.1) : w.heap.size ≤ gb277)); have n5_ := ak ((by rw [hg]; exact Nat.ne_of_lt (blk_lt (g := gb276) (o := .cells #[.int .i64 a0_0, .int .i64 a0_1, .int .i64 a0_2] 23 (0, 0)) (by exact BK276.1)) : gb276 ≠ gb277)); have n6_ := ak ((by rw [hg]; exact Nat.ne_of_gt (blk_lt (g := gb276) (o := .cells #[.int .i64 a0_0, .int .i64 a0_1, .int .i64 a0_2] 23 (0, 0)) (by exact BK276.1)) : gb277 ≠ gb276)); clear BK276; clear HB; have BK276 := n0_; have HB := n1_; have BK277 := n2_; have GW277 := n3_; have GE277 := n4_; have NB276_277 := n5_; have NB277_276 := n6_; clear n0_ n1_ n2_ n3_ n4_ n5_ n6_; clear hb hbox hg; have hnb7 := NB276_277.1; have hnc7 := NB277_276.1; have hcz8_0 : w6.cell? ⟨gb276, 0, none⟩ = some (.int .i64 a0_0) := bc_ BK276 0; have hcz8_1 : w6.cell? ⟨gb276, 1, none⟩ = some (.int .i64 a0_1) := bc_ BK276 1; have hcz8_2 : w6.cell? ⟨gb276, 2, none⟩ = some (.int .i64 a0_2) := bc_ BK276 2; have hfz8_0 := blk_frozen BK276.1 0; have hfz8_1 := blk_frozen BK276.1 1; have hfz8_2 := blk_frozen BK276.1 2; have hcz9_0 : w6.cell? ⟨gb277, 0, none⟩ = some (.int .i64 a1_0) := bc_ BK277 0; have hcz9_1 : w6.cell? ⟨gb277, 1, none⟩ = some (.int .i64 a1_1) := bc_ BK277 1; have hcz9_2 : w6.cell? ⟨gb277, 2, none⟩ = some (.int .i64 a1_2) := bc_ BK277 2; have hfz9_0 := blk_frozen BK277.1 0; have hfz9_1 := blk_frozen BK277.1 1; have hfz9_2 := blk_frozen BK277.1 2))
      go_ret
      exact ⟨by rfl, by repeat (with_reducible exact HB.1)⟩
    rw [if_neg c4] at H
    have c4b0 : decide (a0_1 ≤ a1_1) = false := decide_eq_false c4
    clear c4
    obtain rfl := Option.some.inj H
    go_enter Try.func41, Try.ntmps41
    go_wp2_with (first | ((with_reducible refine gate_dst (N := 2) rfl ?_); refine bx_ 2 #[.int .i64 a0_0, .int .i64 a0_1, .int .i64 a0_2] 23 ?_; intro gb276 hg w10 hbox hb; have n0_ := ak (below_step HB.1 hb); have n1_ := ak (hbox); have n2_ := ak ((by rw [hg]; exact (below_size HB.1) : w.heap.size ≤ gb276)); have n3_ := ak ((by rw [hg]; exact (below_size HB.1) : w.heap.size ≤ gb276)); clear HB; have HB := n0_; have BK276 := n1_; have GW276 := n2_; have GE276 := n3_; clear n0_ n1_ n2_ n3_; clear hb hbox hg) | ((with_reducible refine gate_dst (N := 3) rfl ?_); refine bx_ 3 #[.int .i64 a1_0, .int .i64 a1_1, .int .i64 a1_2] 23 ?_; intro gb277 hg w11 hbox hb; have n0_ := ak (blk_below (g := gb276) (o := .cells #[.int .i64 a0_0, .int .i64 a0_1, .int .i64 a0_2] 23 (0, 0)) (by exact BK276.1) hb); have n1_ := ak (below_step HB.1 hb); have n2_ := ak (hbox); have n3_ := ak ((by rw [hg]; exact (below_size HB.1) : w.heap.size ≤ gb277)); have n4_ := ak ((by rw [hg]; exact (below_size HB.1) : w.heap.size ≤ gb277)); have n5_ := ak ((by rw [hg]; exact Nat.ne_of_lt (blk_lt (g := gb276) (o := .cells #[.int .i64 a0_0, .int .i64 a0_1, .int .i64 a0_2] 23 (0, 0)) (by exact BK276.1)) : gb276 ≠ gb277)); have n6_ := ak ((by rw [hg]; exact Nat.ne_of_gt (blk_lt (g := gb276) (o := .cells #[.int .i64 a0_0, .int .i64 a0_1, .int .i64 a0_2] 23 (0, 0)) (by exact BK276.1)) : gb277 ≠ gb276)); clear BK276; clear HB; have BK276 := n0_; have HB := n1_; have BK277 := n2_; have GW277 := n3_; have GE277 := n4_; have NB276_277 := n5_; have NB277_276 := n6_; clear n0_ n1_ n2_ n3_ n4_ n5_ n6_; clear hb hbox hg; have hnb12 := NB276_277.1; have hnc12 := NB277_276.1; have hcz13_0 : w11.cell? ⟨gb276, 0, none⟩ = some (.int .i64 a0_0) := bc_ BK276 0; have hcz13_1 : w11.cell? ⟨gb276, 1, none⟩ = some (.int .i64 a0_1) := bc_ BK276 1; have hcz13_2 : w11.cell? ⟨gb276, 2, none⟩ = some (.int .i64 a0_2) := bc_ BK276 2; have hfz13_0 := blk_frozen BK276.1 0; have hfz13_1 := blk_frozen BK276.1 1; have hfz13_2 := blk_frozen BK276.1 2; have hcz14_0 : w11.cell? ⟨gb277, 0, none⟩ = some (.int .i64 a1_0) := bc_ BK277 0; have hcz14_1 : w11.cell? ⟨gb277, 1, none⟩ = some (.int .i64 a1_1) := bc_ BK277 1; have hcz14_2 : w11.cell? ⟨gb277, 2, none⟩ = some (.int .i64 a1_2) := bc_ BK277 2; have hfz14_0 := blk_frozen BK277.1 0; have hfz14_1 := blk_frozen BK277.1 1; have hfz14_2 := blk_frozen BK277.1 2))
    go_ret
    exact ⟨by rfl, by repeat (with_reducible exact HB.1)⟩
  rw [if_neg c3] at H
  have c3b0 : decide (a0_0 ≤ a1_0) = false := decide_eq_false c3
  clear c3
  obtain rfl := Option.some.inj H
  go_enter Try.func41, Try.ntmps41
  go_wp2_with (first | ((with_reducible refine gate_dst (N := 2) rfl ?_); refine bx_ 2 #[.int .i64 a0_0, .int .i64 a0_1, .int .i64 a0_2] 23 ?_; intro gb276 hg w15 hbox hb; have n0_ := ak (below_step HB.1 hb); have n1_ := ak (hbox); have n2_ := ak ((by rw [hg]; exact (below_size HB.1) : w.heap.size ≤ gb276)); have n3_ := ak ((by rw [hg]; exact (below_size HB.1) : w.heap.size ≤ gb276)); clear HB; have HB := n0_; have BK276 := n1_; have GW276 := n2_; have GE276 := n3_; clear n0_ n1_ n2_ n3_; clear hb hbox hg) | ((with_reducible refine gate_dst (N := 3) rfl ?_); refine bx_ 3 #[.int .i64 a1_0, .int .i64 a1_1, .int .i64 a1_2] 23 ?_; intro gb277 hg w16 hbox hb; have n0_ := ak (blk_below (g := gb276) (o := .cells #[.int .i64 a0_0, .int .i64 a0_1, .int .i64 a0_2] 23 (0, 0)) (by exact BK276.1) hb); have n1_ := ak (below_step HB.1 hb); have n2_ := ak (hbox); have n3_ := ak ((by rw [hg]; exact (below_size HB.1) : w.heap.size ≤ gb277)); have n4_ := ak ((by rw [hg]; exact (below_size HB.1) : w.heap.size ≤ gb277)); have n5_ := ak ((by rw [hg]; exact Nat.ne_of_lt (blk_lt (g := gb276) (o := .cells #[.int .i64 a0_0, .int .i64 a0_1, .int .i64 a0_2] 23 (0, 0)) (by exact BK276.1)) : gb276 ≠ gb277)); have n6_ := ak ((by rw [hg]; exact Nat.ne_of_gt (blk_lt (g := gb276) (o := .cells #[.int .i64 a0_0, .int .i64 a0_1, .int .i64 a0_2] 23 (0, 0)) (by exact BK276.1)) : gb277 ≠ gb276)); clear BK276; clear HB; have BK276 := n0_; have HB := n1_; have BK277 := n2_; have GW277 := n3_; have GE277 := n4_; have NB276_277 := n5_; have NB277_276 := n6_; clear n0_ n1_ n2_ n3_ n4_ n5_ n6_; clear hb hbox hg; have hnb17 := NB276_277.1; have hnc17 := NB277_276.1; have hcz18_0 : w16.cell? ⟨gb276, 0, none⟩ = some (.int .i64 a0_0) := bc_ BK276 0; have hcz18_1 : w16.cell? ⟨gb276, 1, none⟩ = some (.int .i64 a0_1) := bc_ BK276 1; have hcz18_2 : w16.cell? ⟨gb276, 2, none⟩ = some (.int .i64 a0_2) := bc_ BK276 2; have hfz18_0 := blk_frozen BK276.1 0; have hfz18_1 := blk_frozen BK276.1 1; have hfz18_2 := blk_frozen BK276.1 2; have hcz19_0 : w16.cell? ⟨gb277, 0, none⟩ = some (.int .i64 a1_0) := bc_ BK277 0; have hcz19_1 : w16.cell? ⟨gb277, 1, none⟩ = some (.int .i64 a1_1) := bc_ BK277 1; have hcz19_2 : w16.cell? ⟨gb277, 2, none⟩ = some (.int .i64 a1_2) := bc_ BK277 2; have hfz19_0 := blk_frozen BK277.1 0; have hfz19_1 := blk_frozen BK277.1 1; have hfz19_2 := blk_frozen BK277.1 2))
  go_ret
  exact ⟨by rfl, by repeat (with_reducible exact HB.1)⟩

end Go.Proofs.Ytgacodhpniehiaa.XA
