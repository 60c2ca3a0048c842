import Derived.Test.YtgacodhpniehiaaXAx0
namespace Go.Proofs.Ytgacodhpniehiaa.XA
open Go.RowKit Opens YtgacodhpniehiaaW.PrintWords YtgacodhpniehiaaW.PrintLast YtgacodhpniehiaaW.PrintMore
attribute [local go_sem] max2_int min2_int max_two min_two max_three min_three max_four min_four cell_some cell_same
set_option linter.unusedVariables false
set_option linter.unusedSimpArgs false

def boxpack_Problem_count.f (a0_0 : Int) (a0_1 : Int) (a0_2 : Int) (a0_3 : Int) (l0_4 : List (S56)) : Option (Int) := some (wrap64 ((wrap64 (a0_0 * a0_1)) * a0_2))
set_option maxHeartbeats 8000000 in
set_option maxRecDepth 100000 in
theorem boxpack_Problem_count.calls (a0_0 : Int) (a0_1 : Int) (a0_2 : Int) (a0_3 : Int) (A0_4 : Option Addr) (c0_4 : Nat) (l0_4 : List (S56)) (r : Int) (w : World) (hr0_4 : Kd.C k56 w A0_4 l0_4.length l0_4) (hc0_4 : l0_4.length ≤ c0_4) (h : boxpack_Problem_count.f a0_0 a0_1 a0_2 a0_3 l0_4 = some r) :
    Calls Try.prog 54 #[.agg #[.int .i64 a0_0, .int .i64 a0_1, .int .i64 a0_2, .int .i64 a0_3, .slice A0_4 l0_4.length c0_4]] w fun e w' => e = .returned (.int .i64 r) ∧ Below w.heap.size w w' := by
  have hu33 := Try.underlying33
  have HR0_4 := ak hr0_4
  have HC0_4 := ak hc0_4
  clear hr0_4 hc0_4
  have HB := ak (Below.refl w.heap.size w)
  have H : (some (wrap64 ((wrap64 (a0_0 * a0_1)) * a0_2))) = some r := h
  clear h
  obtain rfl := Option.some.inj H
  go_enter Try.func54, Try.ntmps54
  go_wp2_with (first | ((with_reducible refine gate_dst (N := 1) rfl ?_); refine bx_ 1 #[.int .i64 a0_0, .int .i64 a0_1, .int .i64 a0_2, .int .i64 a0_3, .slice A0_4 l0_4.length c0_4] 33 ?_; intro gb145 hg w2 hbox hb; have n0_ := ak (below_step HB.1 hb); have n1_ := ak (hbox); have n2_ := ak ((by rw [hg]; exact (below_size HB.1) : w.heap.size ≤ gb145)); have n3_ := ak ((by rw [hg]; exact (below_size HB.1) : w.heap.size ≤ gb145)); clear HB; have HB := n0_; have BK145 := n1_; have GW145 := n2_; have GE145 := n3_; clear n0_ n1_ n2_ n3_; clear hb hbox hg; have hcz3_0 : w2.cell? ⟨gb145, 0, none⟩ = some (.int .i64 a0_0) := bc_ BK145 0; have hcz3_1 : w2.cell? ⟨gb145, 1, none⟩ = some (.int .i64 a0_1) := bc_ BK145 1; have hcz3_2 : w2.cell? ⟨gb145, 2, none⟩ = some (.int .i64 a0_2) := bc_ BK145 2; have hcz3_3 : w2.cell? ⟨gb145, 3, none⟩ = some (.int .i64 a0_3) := bc_ BK145 3; have hcz3_4 : w2.cell? ⟨gb145, 4, none⟩ = some (.slice A0_4 l0_4.length c0_4) := bc_ BK145 4; have hfz3_0 := blk_frozen BK145.1 0; have hfz3_1 := blk_frozen BK145.1 1; have hfz3_2 := blk_frozen BK145.1 2; have hfz3_3 := blk_frozen BK145.1 3; have hfz3_4 := blk_frozen BK145.1 4))
  go_ret
  exact ⟨by rfl, by repeat (with_reducible exact HB.1)⟩

-- NOT PRINTED: function 48 (boxpack_Problem_cuts)

def boxpack_Problem_index.f (a0_0 : Int) (a0_1 : Int) (a0_2 : Int) (a0_3 : Int) (l0_4 : List (S56)) (a1_0 : Int) (a1_1 : Int) (a1_2 : Int) : Option (Int) := some (wrap64 ((wrap64 ((wrap64 ((wrap64 ((wrap64 ((wrap64 ((wrap64 (a1_2 - 1)) * a0_1)) + a1_1)) - 1)) * a0_0)) + a1_0)) - 1))
set_option maxHeartbeats 8000000 in
set_option maxRecDepth 100000 in
theorem boxpack_Problem_index.calls (a0_0 : Int) (a0_1 : Int) (a0_2 : Int) (a0_3 : Int) (A0_4 : Option Addr) (c0_4 : Nat) (l0_4 : List (S56)) (a1_0 : Int) (a1_1 : Int) (a1_2 : Int) (r : Int) (w : World) (hr0_4 : Kd.C k56 w A0_4 l0_4.length l0_4) (hc0_4 : l0_4.length ≤ c0_4) (h : boxpack_Problem_index.f a0_0 a0_1 a0_2 a0_3 l0_4 a1_0 a1_1 a1_2 = some r) :
    Calls Try.prog 47 #[.agg #[.int .i64 a0_0, .int .i64 a0_1, .int .i64 a0_2, .int .i64 a0_3, .slice A0_4 l0_4.length c0_4], .agg #[.int .i64 a1_0, .int .i64 a1_1, .int .i64 a1_2]] w fun e w' => e = .returned (.int .i64 r) ∧ Below w.heap.size w w' := by
  have hu33 := Try.underlying33
  have hu64 := Try.underlying64
  have HR0_4 := ak hr0_4
  have HC0_4 := ak hc0_4
  clear hr0_4 hc0_4
  have HB := ak (Below.refl w.heap.size w)
  have H : (some (wrap64 ((wrap64 ((wrap64 ((wrap64 ((wrap64 ((wrap64 ((wrap64 (a1_2 - 1)) * a0_1)) + a1_1)) - 1)) * a0_0)) + a1_0)) - 1))) = some r := h
  clear h
  obtain rfl := Option.some.inj H
  go_enter Try.func47, Try.ntmps47
  go_wp2_with (first | ((with_reducible refine gate_dst (N := 2) rfl ?_); refine bx_ 2 #[.int .i64 a0_0, .int .i64 a0_1, .int .i64 a0_2, .int .i64 a0_3, .slice A0_4 l0_4.length c0_4] 33 ?_; intro gb146 hg w3 hbox hb; have n0_ := ak (below_step HB.1 hb); have n1_ := ak (hbox); have n2_ := ak ((by rw [hg]; exact (below_size HB.1) : w.heap.size ≤ gb146)); have n3_ := ak ((by rw [hg]; exact (below_size HB.1) : w.heap.size ≤ gb146)); clear HB; have HB := n0_; have BK146 := n1_; have GW146 := n2_; have GE146 := n3_; clear n0_ n1_ n2_ n3_; clear hb hbox hg) | ((with_reducible refine gate_dst (N := 3) rfl ?_); refine bx_ 3 #[.int .i64 a1_0, .int .i64 a1_1, .int .i64 a1_2] 64 ?_; intro gb147 hg w4 hbox hb; have n0_ := ak (blk_below (g := gb146) (o := .cells #[.int .i64 a0_0, .int .i64 a0_1, .int .i64 a0_2, .int .i64 a0_3, .slice A0_4 l0_4.length c0_4] 33 (0, 0)) (by exact BK146.1) hb); have n1_ := ak (below_step HB.1 hb); have n2_ := ak (hbox); have n3_ := ak ((by rw [hg]; exact (below_size HB.1) : w.heap.size ≤ gb147)); have n4_ := ak ((by rw [hg]; exact (below_size HB.1) : w.heap.size ≤ gb147)); have n5_ := ak ((by rw [hg]; exact Nat.ne_of_lt (blk_lt (g := gb146) (o := .cells #[.int .i64 a0_0, .int .i64 a0_1, .int .i64 a0_2, .int .i64 a0_3, .slice A0_4 l0_4.length c0_4] 33 (0, 0)) (by exact BK146.1)) : gb146 ≠ gb147)); have n6_ := ak ((by rw [hg]; exact Nat.ne_of_gt (blk_lt (g := gb146) (o := .cells #[.int .i64 a0_0, .int .i64 a0_1, .int .i64 a0_2, .int .i64 a0_3, .slice A0_4 l0_4.length c0_4] 33 (0, 0)) (by exact BK146.1)) : gb147 ≠ gb146)); clear BK146; clear HB; have BK146 := n0_; have HB := n1_; have BK147 := n2_; have GW147 := n3_; have GE147 := n4_; have NB146_147 := n5_; have NB147_146 := n6_; clear n0_ n1_ n2_ n3_ n4_ n5_ n6_; clear hb hbox hg; have hnb5 := NB147_146.1; have hnc5 := NB146_147.1; have hcz6_0 : w4.cell? ⟨gb147, 0, none⟩ = some (.int .i64 a1_0) := bc_ BK147 0; have hcz6_1 : w4.cell? ⟨gb147, 1, none⟩ = some (.int .i64 a1_1) := bc_ BK147 1; have hcz6_2 : w4.cell? ⟨gb147, 2, none⟩ = some (.int .i64 a1_2) := bc_ BK147 2; have hfz6_0 := blk_frozen BK147.1 0; have hfz6_1 := blk_frozen BK147.1 1; have hfz6_2 := blk_frozen BK147.1 2; have hcz7_0 : w4.cell? ⟨gb146, 0, none⟩ = some (.int .i64 a0_0) := bc_ BK146 0; have hcz7_1 : w4.cell? ⟨gb146, 1, none⟩ = some (.int .i64 a0_1) := bc_ BK146 1; have hcz7_2 : w4.cell? ⟨gb146, 2, none⟩ = some (.int .i64 a0_2) := bc_ BK146 2; have hcz7_3 : w4.cell? ⟨gb146, 3, none⟩ = some (.int .i64 a0_3) := bc_ BK146 3; have hcz7_4 : w4.cell? ⟨gb146, 4, none⟩ = some (.slice A0_4 l0_4.length c0_4) := bc_ BK146 4; have hfz7_0 := blk_frozen BK146.1 0; have hfz7_1 := blk_frozen BK146.1 1; have hfz7_2 := blk_frozen BK146.1 2; have hfz7_3 := blk_frozen BK146.1 3; have hfz7_4 := blk_frozen BK146.1 4))
  go_ret
  exact ⟨by rfl, by repeat (with_reducible exact HB.1)⟩

-- NOT PRINTED: function 62 (boxpack_Problem_least_1)

end Go.Proofs.Ytgacodhpniehiaa.XA
