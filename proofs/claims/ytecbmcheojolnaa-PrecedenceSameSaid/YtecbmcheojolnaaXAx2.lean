-- written by xprint.py, this project's own program (wip/), over the words of print.sh
import Derived.Test.YtecbmcheojolnaaXAx0
namespace Go.Proofs.Ytecbmcheojolnaa.XA
open Go.RowKit Go.Proofs.Ytecbmcheojolnaa.Opens Go.Proofs.YtecbmcheojolnaaW.PrintWords Go.Proofs.YtecbmcheojolnaaW.PrintLast Go.Proofs.YtecbmcheojolnaaW.PrintMore
attribute [local go_sem] max2_int min2_int max_two min_two max_three min_three max_four min_four cell_some cell_same   -- for this text's walks alone
set_option linter.unusedVariables false
set_option linter.unusedSimpArgs false

/-! ### lw_few: function 8 -/
def lw_few.f (a0_0 : Int) (l0_1 : List (S47)) : Option (Bool) := if a0_0 ≤ 12 then (some (decide ((l0_1.length : Int) ≤ 60))) else (if a0_0 > 256 then (some (decide ((l0_1.length : Int) ≤ 60))) else (some false))
set_option maxHeartbeats 8000000 in
set_option maxRecDepth 100000 in
theorem lw_few.calls (a0_0 : Int) (A0_1 : Option Addr) (c0_1 : Nat) (l0_1 : List (S47)) (r : Bool) (w : World) (hr0_1 : Kd.C k47 w A0_1 l0_1.length l0_1) (hc0_1 : l0_1.length ≤ c0_1) (h : lw_few.f a0_0 l0_1 = some r) :
    Calls Try.prog 8 #[.agg #[.int .i64 a0_0, .slice A0_1 l0_1.length c0_1]] w fun e w' => e = .returned (.bool r) ∧ Below w.heap.size w w' := by
  have hu24 := Try.underlying24
  have HR0_1 := ak hr0_1
  have HC0_1 := ak hc0_1
  clear hr0_1 hc0_1
  have HB := ak (Below.refl w.heap.size w)
  have H : (if a0_0 ≤ 12 then (some (decide ((l0_1.length : Int) ≤ 60))) else (if a0_0 > 256 then (some (decide ((l0_1.length : Int) ≤ 60))) else (some false))) = some r := h
  clear h
  by_cases c2 : a0_0 ≤ 12
  · rw [if_pos c2] at H
    have c2b0 : decide (a0_0 ≤ 12) = true := decide_eq_true c2
    clear c2
    obtain rfl := Option.some.inj H
    go_enter Try.func8, Try.ntmps8
    go_wp2_with (first | ((with_reducible refine gate_dst (N := 1) rfl ?_); refine box_event ?hg (N := 1) ?hd (cs := #[.int .i64 a0_0, .slice A0_1 l0_1.length c0_1]) (t := 24) ?hr ?_; (case hd => rfl); (case hg => rfl); (case hr => (go_simp; done)); intro gb101 hg w3 hbox hb; have n0_ := ak (below_step HB.1 hb); have n1_ := ak (hbox); have n2_ := ak ((by rw [hg]; exact (below_size HB.1) : w.heap.size ≤ gb101)); have n3_ := ak ((by rw [hg]; exact (below_size HB.1) : w.heap.size ≤ gb101)); clear HB; have HB := n0_; have BK101 := n1_; have GW101 := n2_; have GE101 := n3_; clear n0_ n1_ n2_ n3_; clear hb hbox hg; have hcz4_0 : w3.cell? ⟨gb101, 0, none⟩ = some (.int .i64 a0_0) := (blk_cell BK101.1 0).trans rfl; have hcz4_1 : w3.cell? ⟨gb101, 1, none⟩ = some (.slice A0_1 l0_1.length c0_1) := (blk_cell BK101.1 1).trans rfl; have hfz4_0 := blk_frozen BK101.1 0; have hfz4_1 := blk_frozen BK101.1 1))
    go_ret
    exact ⟨by rfl, by repeat (with_reducible exact HB.1)⟩
  rw [if_neg c2] at H
  have c2b0 : decide (a0_0 ≤ 12) = false := decide_eq_false c2
  clear c2
  by_cases c5 : a0_0 > 256
  · rw [if_pos c5] at H
    have c5b0 : decide (256 < a0_0) = true := decide_eq_true c5
    clear c5
    obtain rfl := Option.some.inj H
    go_enter Try.func8, Try.ntmps8
    go_wp2_with (first | ((with_reducible refine gate_dst (N := 1) rfl ?_); refine box_event ?hg (N := 1) ?hd (cs := #[.int .i64 a0_0, .slice A0_1 l0_1.length c0_1]) (t := 24) ?hr ?_; (case hd => rfl); (case hg => rfl); (case hr => (go_simp; done)); intro gb101 hg w6 hbox hb; have n0_ := ak (below_step HB.1 hb); have n1_ := ak (hbox); have n2_ := ak ((by rw [hg]; exact (below_size HB.1) : w.heap.size ≤ gb101)); have n3_ := ak ((by rw [hg]; exact (below_size HB.1) : w.heap.size ≤ gb101)); clear HB; have HB := n0_; have BK101 := n1_; have GW101 := n2_; have GE101 := n3_; clear n0_ n1_ n2_ n3_; clear hb hbox hg; have hcz7_0 : w6.cell? ⟨gb101, 0, none⟩ = some (.int .i64 a0_0) := (blk_cell BK101.1 0).trans rfl; have hcz7_1 : w6.cell? ⟨gb101, 1, none⟩ = some (.slice A0_1 l0_1.length c0_1) := (blk_cell BK101.1 1).trans rfl; have hfz7_0 := blk_frozen BK101.1 0; have hfz7_1 := blk_frozen BK101.1 1))
    go_ret
    exact ⟨by rfl, by repeat (with_reducible exact HB.1)⟩
  rw [if_neg c5] at H
  have c5b0 : decide (256 < a0_0) = false := decide_eq_false c5
  clear c5
  obtain rfl := Option.some.inj H
  go_enter Try.func8, Try.ntmps8
  go_wp2_with (first | ((with_reducible refine gate_dst (N := 1) rfl ?_); refine box_event ?hg (N := 1) ?hd (cs := #[.int .i64 a0_0, .slice A0_1 l0_1.length c0_1]) (t := 24) ?hr ?_; (case hd => rfl); (case hg => rfl); (case hr => (go_simp; done)); intro gb101 hg w8 hbox hb; have n0_ := ak (below_step HB.1 hb); have n1_ := ak (hbox); have n2_ := ak ((by rw [hg]; exact (below_size HB.1) : w.heap.size ≤ gb101)); have n3_ := ak ((by rw [hg]; exact (below_size HB.1) : w.heap.size ≤ gb101)); clear HB; have HB := n0_; have BK101 := n1_; have GW101 := n2_; have GE101 := n3_; clear n0_ n1_ n2_ n3_; clear hb hbox hg; have hcz9_0 : w8.cell? ⟨gb101, 0, none⟩ = some (.int .i64 a0_0) := (blk_cell BK101.1 0).trans rfl; have hcz9_1 : w8.cell? ⟨gb101, 1, none⟩ = some (.slice A0_1 l0_1.length c0_1) := (blk_cell BK101.1 1).trans rfl; have hfz9_0 := blk_frozen BK101.1 0; have hfz9_1 := blk_frozen BK101.1 1))
  go_ret
  exact ⟨by rfl, by repeat (with_reducible exact HB.1)⟩

/-! ### precedence_Check_1: function 38 -/
def precedence_Check_1.f (a0 : Int) (s8_0 : Int) (s8_1 : List (S47)) : Option (Bool) := if a0 ≥ 0 then (some (decide (a0 < s8_0))) else (some false)
set_option maxHeartbeats 8000000 in
set_option maxRecDepth 100000 in
theorem precedence_Check_1.calls (a0 : Int) (g8 : Nat) (s8_0 : Int) (A8_1 : Option Addr) (c8_1 : Nat) (s8_1 : List (S47)) (r : Bool) (w : World) (hb8 : w.heap[g8]? = some (.cells #[.int .i64 s8_0, .slice A8_1 s8_1.length c8_1] 31 (0, 0))) (hr8_1 : Kd.C k47 w A8_1 s8_1.length s8_1) (hc8_1 : s8_1.length ≤ c8_1) (h : precedence_Check_1.f a0 s8_0 s8_1 = some r) :
    Calls Try.prog 38 #[.int .i64 a0, .pointer (some ⟨g8, 0, none⟩)] w fun e w' => e = .returned (.bool r) ∧ Drawn0 w w' := by
  have BK8 := ak hb8
  clear hb8
  have HR8_1 := ak hr8_1
  have HC8_1 := ak hc8_1
  clear hr8_1 hc8_1
  have H : (if a0 ≥ 0 then (some (decide (a0 < s8_0))) else (some false)) = some r := h
  clear h
  by_cases c3 : a0 ≥ 0
  · rw [if_pos c3] at H
    have c3b0 : decide (0 ≤ a0) = true := decide_eq_true c3
    clear c3
    obtain rfl := Option.some.inj H
    have hcz4_0 : w.cell? ⟨g8, 0, none⟩ = some (.int .i64 s8_0) := (blk_cell BK8.1 0).trans rfl
    have hcz4_1 : w.cell? ⟨g8, 1, none⟩ = some (.slice A8_1 s8_1.length c8_1) := (blk_cell BK8.1 1).trans rfl
    have hfz4_0 := blk_frozen BK8.1 0
    have hfz4_1 := blk_frozen BK8.1 1
    go_enter Try.func38, Try.ntmps38
    go_wp2
    go_ret
    exact ⟨by rfl, by exact Drawn0.refl _⟩
  rw [if_neg c3] at H
  have c3b0 : decide (0 ≤ a0) = false := decide_eq_false c3
  clear c3
  obtain rfl := Option.some.inj H
  go_enter Try.func38, Try.ntmps38
  go_wp2
  go_ret
  exact ⟨by rfl, by exact Drawn0.refl _⟩

-- NOT PRINTED: function 44 (slices_IndexFunc_2_int_2_int)

-- NOT PRINTED: function 39 (slices_ContainsFunc_2_int_2_int)

-- NOT PRINTED: function 40 (precedence_Check_2)

end Go.Proofs.Ytecbmcheojolnaa.XA
