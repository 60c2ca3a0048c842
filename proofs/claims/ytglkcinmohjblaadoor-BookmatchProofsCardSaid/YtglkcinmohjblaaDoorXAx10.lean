import Derived.Test.YtglkcinmohjblaaDoorXAx0
namespace Go.Proofs.YtglkcinmohjblaaDoor.XA
open Go.RowKit Opens YtglkcinmohjblaaDoorW.PrintWords YtglkcinmohjblaaDoorW.PrintLast YtglkcinmohjblaaDoorW.PrintMore
attribute [local go_sem] max2_int min2_int max_two min_two max_three min_three max_four min_four cell_some cell_same
set_option linter.unusedVariables false
set_option linter.unusedSimpArgs false

-- NOT PRINTED: function 52 (s_52)

-- NOT PRINTED: function 46 (s_46)

def m_check_1.f (a0_0 : ByteArray) (a0_1 : ByteArray) (a0_2 : Int) (a0_3 : Int) (a0_4 : Int) (a0_5 : Int) (a0_6 : Int) (a0_7 : Int) (a0_8 : Int) (a0_9 : Int) (l0_10 : List Int) (l0_11 : List Int) (s8_0 : Int) : Option (Bool) := if (l0_10.length : Int) = s8_0 then (some ((l0_11.length : Int) != s8_0)) else (some true)
set_option maxHeartbeats 8000000 in
set_option maxRecDepth 100000 in
theorem m_check_1.calls (a0_0 : ByteArray) (a0_1 : ByteArray) (a0_2 : Int) (a0_3 : Int) (a0_4 : Int) (a0_5 : Int) (a0_6 : Int) (a0_7 : Int) (a0_8 : Int) (a0_9 : Int) (A0_10 : Option Addr) (c0_10 : Nat) (l0_10 : List Int) (A0_11 : Option Addr) (c0_11 : Nat) (l0_11 : List Int) (g8 : Nat) (s8_0 : Int) (r : Bool) (w : World) (hr0_10 : Kd.C (Kd.int .i64) w A0_10 l0_10.length l0_10) (hc0_10 : l0_10.length ≤ c0_10) (hr0_11 : Kd.C (Kd.int .i64) w A0_11 l0_11.length l0_11) (hc0_11 : l0_11.length ≤ c0_11) (hb8 : w.heap[g8]? = some (.cells #[.int .i64 s8_0] 3 (0, 0))) (h : m_check_1.f a0_0 a0_1 a0_2 a0_3 a0_4 a0_5 a0_6 a0_7 a0_8 a0_9 l0_10 l0_11 s8_0 = some r) :
    Calls Tryd.prog 47 #[.agg #[.string a0_0, .string a0_1, .int .i64 a0_2, .int .i64 a0_3, .int .i64 a0_4, .int .i64 a0_5, .int .i64 a0_6, .int .i64 a0_7, .int .i64 a0_8, .int .i64 a0_9, .slice A0_10 l0_10.length c0_10, .slice A0_11 l0_11.length c0_11], .pointer (some ⟨g8, 0, none⟩)] w fun e w' => e = .returned (.bool r) ∧ Below w.heap.size w w' := by
  have hu62 := Tryd.underlying62
  have HR0_10 := ak hr0_10
  have HC0_10 := ak hc0_10
  clear hr0_10 hc0_10
  have HR0_11 := ak hr0_11
  have HC0_11 := ak hc0_11
  clear hr0_11 hc0_11
  have BK8 := ak hb8
  clear hb8
  have HB := ak (Below.refl w.heap.size w)
  have H : (if (l0_10.length : Int) = s8_0 then (some ((l0_11.length : Int) != s8_0)) else (some true)) = some r := h
  clear h
  by_cases c3 : (l0_10.length : Int) = s8_0
  · rw [if_pos c3] at H
    have c3b0 : ((l0_10.length : Int) == s8_0) = true := beq_iff_eq.mpr c3
    have c3b1 : ((l0_10.length : Int) != s8_0) = false := bne_eq_false_iff_eq.mpr c3
    clear c3
    obtain rfl := Option.some.inj H
    go_enter Tryd.func47, Tryd.ntmps47
    go_wp2_with (first | ((with_reducible refine gate_dst (N := 2) rfl ?_); refine box_event ?hg (N := 2) ?hd (cs := #[.string a0_0, .string a0_1, .int .i64 a0_2, .int .i64 a0_3, .int .i64 a0_4, .int .i64 a0_5, .int .i64 a0_6, .int .i64 a0_7, .int .i64 a0_8, .int .i64 a0_9, .slice A0_10 l0_10.length c0_10, .slice A0_11 l0_11.length c0_11]) (t := 62) ?hr ?_; (case hd => rfl); (case hg => rfl); (case hr => (go_simp; done)); intro gb118 hg w4 hbox hb; have n0_ := ak (blk_below (g := g8) (o := .cells #[.int .i64 s8_0] 3 (0, 0)) (by exact BK8.1) hb); have n1_ := ak (below_step HB.1 hb); have n2_ := ak (hbox); have n3_ := ak ((by rw [hg]; exact (below_size HB.1) : w.heap.size ≤ gb118)); have n4_ := ak ((by rw [hg]; exact (below_size HB.1) : w.heap.size ≤ gb118)); have n5_ := ak ((by rw [hg]; exact Nat.ne_of_lt (blk_lt (g := g8) (o := .cells #[.int .i64 s8_0] 3 (0, 0)) (by exact BK8.1)) : g8 ≠ gb118)); have n6_ := ak ((by rw [hg]; exact Nat.ne_of_gt (blk_lt (g := g8) (o := .cells #[.int .i64 s8_0] 3 (0, 0)) (by exact BK8.1)) : gb118 ≠ g8)); clear BK8; clear HB; have BK8 := n0_; have HB := n1_; have BK118 := n2_; have GW118 := n3_; have GE118 := n4_; have NB8_118 := n5_; have NB118_8 := n6_; clear n0_ n1_ n2_ n3_ n4_ n5_ n6_; clear hb hbox hg; have hnb5 := NB118_8.1; have hnc5 := NB8_118.1; have hcz6_0 : w4.cell? ⟨gb118, 0, none⟩ = some (.string a0_0) := (blk_cell BK118.1 0).trans rfl; have hcz6_1 : w4.cell? ⟨gb118, 1, none⟩ = some (.string a0_1) := (blk_cell BK118.1 1).trans rfl; have hcz6_2 : w4.cell? ⟨gb118, 2, none⟩ = some (.int .i64 a0_2) := (blk_cell BK118.1 2).trans rfl; have hcz6_3 : w4.cell? ⟨gb118, 3, none⟩ = some (.int .i64 a0_3) := (blk_cell BK118.1 3).trans rfl; have hcz6_4 : w4.cell? ⟨gb118, 4, none⟩ = some (.int .i64 a0_4) := (blk_cell BK118.1 4).trans rfl; have hcz6_5 : w4.cell? ⟨gb118, 5, none⟩ = some (.int .i64 a0_5) := (blk_cell BK118.1 5).trans rfl; have hcz6_6 : w4.cell? ⟨gb118, 6, none⟩ = some (.int .i64 a0_6) := (blk_cell BK118.1 6).trans rfl; have hcz6_7 : w4.cell? ⟨gb118, 7, none⟩ = some (.int .i64 a0_7) := (blk_cell BK118.1 7).trans rfl; have hcz6_8 : w4.cell? ⟨gb118, 8, none⟩ = some (.int .i64 a0_8) := (blk_cell BK118.1 8).trans rfl; have hcz6_9 : w4.cell? ⟨gb118, 9, none⟩ = some (.int .i64 a0_9) := (blk_cell BK118.1 9).trans rfl; have hcz6_10 : w4.cell? ⟨gb118, 10, none⟩ = some (.slice A0_10 l0_10.length c0_10) := (blk_cell BK118.1 10).trans rfl; have hcz6_11 : w4.cell? ⟨gb118, 11, none⟩ = some (.slice A0_11 l0_11.length c0_11) := (blk_cell BK118.1 11).trans rfl; have hfz6_0 := blk_frozen BK118.1 0; have hfz6_1 := blk_frozen BK118.1 1; have hfz6_2 := blk_frozen BK118.1 2; have hfz6_3 := blk_frozen BK118.1 3; have hfz6_4 := blk_frozen BK118.1 4; have hfz6_5 := blk_frozen BK118.1 5; have hfz6_6 := blk_frozen BK118.1 6; have hfz6_7 := blk_frozen BK118.1 7; have hfz6_8 := blk_frozen BK118.1 8; have hfz6_9 := blk_frozen BK118.1 9; have hfz6_10 := blk_frozen BK118.1 10; have hfz6_11 := blk_frozen BK118.1 11; have hcz7_0 : w4.cell? ⟨g8, 0, none⟩ = some (.int .i64 s8_0) := (blk_cell BK8.1 0).trans rfl; have hfz7_0 := blk_frozen BK8.1 0))
    go_ret
    exact ⟨by rfl, by repeat (with_reducible exact HB.1)⟩
  rw [if_neg c3] at H
  have c3b0 : ((l0_10.length : Int) == s8_0) = false := beq_eq_false_iff_ne.mpr c3
  have c3b1 : ((l0_10.length : Int) != s8_0) = true := bne_iff_ne.mpr c3
  obtain rfl := Option.some.inj H
  go_enter Tryd.func47, Tryd.ntmps47
  go_wp2_with (first | ((with_reducible refine gate_dst (N := 2) rfl ?_); refine box_event ?hg (N := 2) ?hd (cs := #[.string a0_0, .string a0_1, .int .i64 a0_2, .int .i64 a0_3, .int .i64 a0_4, .int .i64 a0_5, .int .i64 a0_6, .int .i64 a0_7, .int .i64 a0_8, .int .i64 a0_9, .slice A0_10 l0_10.length c0_10, .slice A0_11 l0_11.length c0_11]) (t := 62) ?hr ?_; (case hd => rfl); (case hg => rfl); (case hr => (go_simp; done)); intro gb118 hg w8 hbox hb; have n0_ := ak (blk_below (g := g8) (o := .cells #[.int .i64 s8_0] 3 (0, 0)) (by exact BK8.1) hb); have n1_ := ak (below_step HB.1 hb); have n2_ := ak (hbox); have n3_ := ak ((by rw [hg]; exact (below_size HB.1) : w.heap.size ≤ gb118)); have n4_ := ak ((by rw [hg]; exact (below_size HB.1) : w.heap.size ≤ gb118)); have n5_ := ak ((by rw [hg]; exact Nat.ne_of_lt (blk_lt (g := g8) (o := .cells #[.int .i64 s8_0] 3 (0, 0)) (by exact BK8.1)) : g8 ≠ gb118)); have n6_ := ak ((by rw [hg]; exact Nat.ne_of_gt (blk_lt (g := g8) (o := .cells #[.int .i64 s8_0] 3 (0, 0)) (by exact BK8.1)) : gb118 ≠ g8)); clear BK8; clear HB; have BK8 := n0_; have HB := n1_; have BK118 := n2_; have GW118 := n3_; have GE118 := n4_; have NB8_118 := n5_; have NB118_8 := n6_; clear n0_ n1_ n2_ n3_ n4_ n5_ n6_; clear hb hbox hg; have hnb9 := NB118_8.1; have hnc9 := NB8_118.1; have hcz10_0 : w8.cell? ⟨gb118, 0, none⟩ = some (.string a0_0) := (blk_cell BK118.1 0).trans rfl; have hcz10_1 : w8.cell? ⟨gb118, 1, none⟩ = some (.string a0_1) := (blk_cell BK118.1 1).trans rfl; have hcz10_2 : w8.cell? ⟨gb118, 2, none⟩ = some (.int .i64 a0_2) := (blk_cell BK118.1 2).trans rfl; have hcz10_3 : w8.cell? ⟨gb118, 3, none⟩ = some (.int .i64 a0_3) := (blk_cell BK118.1 3).trans rfl; have hcz10_4 : w8.cell? ⟨gb118, 4, none⟩ = some (.int .i64 a0_4) := (blk_cell BK118.1 4).trans rfl; have hcz10_5 : w8.cell? ⟨gb118, 5, none⟩ = some (.int .i64 a0_5) := (blk_cell BK118.1 5).trans rfl; have hcz10_6 : w8.cell? ⟨gb118, 6, none⟩ = some (.int .i64 a0_6) := (blk_cell BK118.1 6).trans rfl; have hcz10_7 : w8.cell? ⟨gb118, 7, none⟩ = some (.int .i64 a0_7) := (blk_cell BK118.1 7).trans rfl; have hcz10_8 : w8.cell? ⟨gb118, 8, none⟩ = some (.int .i64 a0_8) := (blk_cell BK118.1 8).trans rfl; have hcz10_9 : w8.cell? ⟨gb118, 9, none⟩ = some (.int .i64 a0_9) := (blk_cell BK118.1 9).trans rfl; have hcz10_10 : w8.cell? ⟨gb118, 10, none⟩ = some (.slice A0_10 l0_10.length c0_10) := (blk_cell BK118.1 10).trans rfl; have hcz10_11 : w8.cell? ⟨gb118, 11, none⟩ = some (.slice A0_11 l0_11.length c0_11) := (blk_cell BK118.1 11).trans rfl; have hfz10_0 := blk_frozen BK118.1 0; have hfz10_1 := blk_frozen BK118.1 1; have hfz10_2 := blk_frozen BK118.1 2; have hfz10_3 := blk_frozen BK118.1 3; have hfz10_4 := blk_frozen BK118.1 4; have hfz10_5 := blk_frozen BK118.1 5; have hfz10_6 := blk_frozen BK118.1 6; have hfz10_7 := blk_frozen BK118.1 7; have hfz10_8 := blk_frozen BK118.1 8; have hfz10_9 := blk_frozen BK118.1 9; have hfz10_10 := blk_frozen BK118.1 10; have hfz10_11 := blk_frozen BK118.1 11; have hcz11_0 : w8.cell? ⟨g8, 0, none⟩ = some (.int .i64 s8_0) := (blk_cell BK8.1 0).trans rfl; have hfz11_0 := blk_frozen BK8.1 0))
  go_ret
  exact ⟨by rfl, by repeat (with_reducible exact HB.1)⟩

end Go.Proofs.YtglkcinmohjblaaDoor.XA
