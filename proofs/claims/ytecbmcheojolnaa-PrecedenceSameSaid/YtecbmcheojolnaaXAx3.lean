-- written by xprint.py, this project's own program (wip/), over the words of print.sh
import Derived.Test.YtecbmcheojolnaaXAx0
import Derived.Test.YtecbmcheojolnaaXAx2
namespace Go.Proofs.Ytecbmcheojolnaa.XA
open Go.RowKit Go.Proofs.Ytecbmcheojolnaa.Opens Go.Proofs.YtecbmcheojolnaaW.PrintWords Go.Proofs.YtecbmcheojolnaaW.PrintLast Go.Proofs.YtecbmcheojolnaaW.PrintMore
attribute [local go_sem] max2_int min2_int max_two min_two max_three min_three max_four min_four cell_some cell_same   -- for this text's walks alone
set_option linter.unusedVariables false
set_option linter.unusedSimpArgs false

/-! ### precedence_Check_2: function 40 -/
def precedence_Check_2.f (a0_0 : Int) (a0_1 : Int) (s9_0 : Int) (s9_1 : List (S47)) : Option (Bool) := (precedence_Check_1.f a0_0 s9_0 s9_1).bind fun t103 => (if t103 = true then ((precedence_Check_1.f a0_1 s9_0 s9_1).bind fun t104 => (some (!t104))) else (some true))
set_option maxHeartbeats 8000000 in
set_option maxRecDepth 100000 in
theorem precedence_Check_2.calls (a0_0 : Int) (a0_1 : Int) (g8 : Nat) (g9 : Nat) (s9_0 : Int) (A9_1 : Option Addr) (c9_1 : Nat) (s9_1 : List (S47)) (r : Bool) (w : World) (hb8 : w.heap[g8]? = some (.cells #[.func (.func 38) #[] #[.pointer (some ⟨g9, 0, none⟩)]] 59 (0, 0))) (hb9 : w.heap[g9]? = some (.cells #[.int .i64 s9_0, .slice A9_1 s9_1.length c9_1] 31 (0, 0))) (hr9_1 : Kd.C k47 w A9_1 s9_1.length s9_1) (hc9_1 : s9_1.length ≤ c9_1) (h : precedence_Check_2.f a0_0 a0_1 s9_0 s9_1 = some r) :
    Calls Try.prog 40 #[.agg #[.int .i64 a0_0, .int .i64 a0_1], .pointer (some ⟨g8, 0, none⟩)] w fun e w' => e = .returned (.bool r) ∧ Below w.heap.size w w' := by
  have hu47 := Try.underlying47
  have BK8 := ak hb8
  clear hb8
  have BK9 := ak hb9
  clear hb9
  have HR9_1 := ak hr9_1
  have HC9_1 := ak hc9_1
  clear hr9_1 hc9_1
  have HB := ak (Below.refl w.heap.size w)
  have H : ((precedence_Check_1.f a0_0 s9_0 s9_1).bind fun t103 => (if t103 = true then ((precedence_Check_1.f a0_1 s9_0 s9_1).bind fun t104 => (some (!t104))) else (some true))) = some r := h
  clear h
  replace H := Option.bind_eq_some_iff.mp H
  obtain ⟨t103, A30, H⟩ := H
  replace H : (if t103 = true then ((precedence_Check_1.f a0_1 s9_0 s9_1).bind fun t104 => (some (!t104))) else (some true)) = some r := H
  have A3 := ak A30
  clear A30
  by_cases c4 : t103 = true
  · subst c4
    have H1 : ((precedence_Check_1.f a0_1 s9_0 s9_1).bind fun t104 => (some (!t104))) = some r := by rw [if_pos rfl] at H; exact H
    clear H
    have H := H1
    clear H1
    replace H := Option.bind_eq_some_iff.mp H
    obtain ⟨t104, A50, H⟩ := H
    replace H : (some (!t104)) = some r := H
    have A5 := ak A50
    clear A50
    obtain rfl := Option.some.inj H
    go_enter Try.func40, Try.ntmps40
    go_wp2_with (first | ((with_reducible refine gate_dst (N := 2) rfl ?_); refine box_event ?hg (N := 2) ?hd (cs := #[.int .i64 a0_0, .int .i64 a0_1]) (t := 47) ?hr ?_; (case hd => rfl); (case hg => rfl); (case hr => (go_simp; done)); intro gb102 hg w6 hbox hb; have n0_ := ak (blk_below (g := g8) (o := .cells #[.func (.func 38) #[] #[.pointer (some ⟨g9, 0, none⟩)]] 59 (0, 0)) (by exact BK8.1) hb); have n1_ := ak (blk_below (g := g9) (o := .cells #[.int .i64 s9_0, .slice A9_1 s9_1.length c9_1] 31 (0, 0)) (by exact BK9.1) hb); have n2_ := ak (below_step HB.1 hb); have n3_ := ak (hbox); have n4_ := ak ((by rw [hg]; exact (below_size HB.1) : w.heap.size ≤ gb102)); have n5_ := ak ((by rw [hg]; exact (below_size HB.1) : w.heap.size ≤ gb102)); have n6_ := ak ((by rw [hg]; exact Nat.ne_of_lt (blk_lt (g := g8) (o := .cells #[.func (.func 38) #[] #[.pointer (some ⟨g9, 0, none⟩)]] 59 (0, 0)) (by exact BK8.1)) : g8 ≠ gb102)); have n7_ := ak ((by rw [hg]; exact Nat.ne_of_gt (blk_lt (g := g8) (o := .cells #[.func (.func 38) #[] #[.pointer (some ⟨g9, 0, none⟩)]] 59 (0, 0)) (by exact BK8.1)) : gb102 ≠ g8)); have n8_ := ak ((by rw [hg]; exact Nat.ne_of_lt (blk_lt (g := g9) (o := .cells #[.int .i64 s9_0, .slice A9_1 s9_1.length c9_1] 31 (0, 0)) (by exact BK9.1)) : g9 ≠ gb102)); have n9_ := ak ((by rw [hg]; exact Nat.ne_of_gt (blk_lt (g := g9) (o := .cells #[.int .i64 s9_0, .slice A9_1 s9_1.length c9_1] 31 (0, 0)) (by exact BK9.1)) : gb102 ≠ g9)); clear BK8; clear BK9; clear HB; have BK8 := n0_; have BK9 := n1_; have HB := n2_; have BK102 := n3_; have GW102 := n4_; have GE102 := n5_; have NB8_102 := n6_; have NB102_8 := n7_; have NB9_102 := n8_; have NB102_9 := n9_; clear n0_ n1_ n2_ n3_ n4_ n5_ n6_ n7_ n8_ n9_; clear hb hbox hg; have hnb7 := NB8_102.1; have hnc7 := NB102_8.1; have hcz8_0 : w6.cell? ⟨g8, 0, none⟩ = some (.func (.func 38) #[] #[.pointer (some ⟨g9, 0, none⟩)]) := (blk_cell BK8.1 0).trans rfl; have hfz8_0 := blk_frozen BK8.1 0; have hnb9 := NB102_9.1; have hnc9 := NB9_102.1; have hcz10_0 : w6.cell? ⟨gb102, 0, none⟩ = some (.int .i64 a0_0) := (blk_cell BK102.1 0).trans rfl; have hcz10_1 : w6.cell? ⟨gb102, 1, none⟩ = some (.int .i64 a0_1) := (blk_cell BK102.1 1).trans rfl; have hfz10_0 := blk_frozen BK102.1 0; have hfz10_1 := blk_frozen BK102.1 1) | (go_at_call 38; (with_reducible refine (precedence_Check_1.calls a0_0 g9 s9_0 A9_1 c9_1 s9_1 true _ ?side1 ?side2 ?side3 A3.1).mono ?_); (case side1 => exact (by exact BK9.1)); (case side2 => exact (Kd.C_below HR9_1.1 HB.1)); (case side3 => exact HC9_1.1); rintro e w' ⟨rfl, ⟨nd, rfl⟩⟩) | (go_at_call 38; (with_reducible refine (precedence_Check_1.calls a0_1 g9 s9_0 A9_1 c9_1 s9_1 t104 _ ?side1 ?side2 ?side3 A5.1).mono ?_); (case side1 => exact (by (with_reducible repeat (refine blk_drewN ?_ _)); exact BK9.1)); (case side2 => repeat (exact (Kd.C_below HR9_1.1 (by repeat (with_reducible first | exact HB.1 | apply pw_below_drewN ))))); (case side3 => exact HC9_1.1); rintro e w' ⟨rfl, ⟨nd, rfl⟩⟩))
    go_ret
    exact ⟨by rfl, by repeat (with_reducible first | exact HB.1 | apply pw_below_drewN )⟩
  replace c4 := Bool.eq_false_iff.mpr c4
  subst c4
  have H1 : (some true) = some r := by rw [if_neg (show ¬ (false = true) by decide)] at H; exact H
  clear H
  have H := H1
  clear H1
  obtain rfl := Option.some.inj H
  go_enter Try.func40, Try.ntmps40
  go_wp2_with (first | ((with_reducible refine gate_dst (N := 2) rfl ?_); refine box_event ?hg (N := 2) ?hd (cs := #[.int .i64 a0_0, .int .i64 a0_1]) (t := 47) ?hr ?_; (case hd => rfl); (case hg => rfl); (case hr => (go_simp; done)); intro gb102 hg w11 hbox hb; have n0_ := ak (blk_below (g := g8) (o := .cells #[.func (.func 38) #[] #[.pointer (some ⟨g9, 0, none⟩)]] 59 (0, 0)) (by exact BK8.1) hb); have n1_ := ak (blk_below (g := g9) (o := .cells #[.int .i64 s9_0, .slice A9_1 s9_1.length c9_1] 31 (0, 0)) (by exact BK9.1) hb); have n2_ := ak (below_step HB.1 hb); have n3_ := ak (hbox); have n4_ := ak ((by rw [hg]; exact (below_size HB.1) : w.heap.size ≤ gb102)); have n5_ := ak ((by rw [hg]; exact (below_size HB.1) : w.heap.size ≤ gb102)); have n6_ := ak ((by rw [hg]; exact Nat.ne_of_lt (blk_lt (g := g8) (o := .cells #[.func (.func 38) #[] #[.pointer (some ⟨g9, 0, none⟩)]] 59 (0, 0)) (by exact BK8.1)) : g8 ≠ gb102)); have n7_ := ak ((by rw [hg]; exact Nat.ne_of_gt (blk_lt (g := g8) (o := .cells #[.func (.func 38) #[] #[.pointer (some ⟨g9, 0, none⟩)]] 59 (0, 0)) (by exact BK8.1)) : gb102 ≠ g8)); have n8_ := ak ((by rw [hg]; exact Nat.ne_of_lt (blk_lt (g := g9) (o := .cells #[.int .i64 s9_0, .slice A9_1 s9_1.length c9_1] 31 (0, 0)) (by exact BK9.1)) : g9 ≠ gb102)); have n9_ := ak ((by rw [hg]; exact Nat.ne_of_gt (blk_lt (g := g9) (o := .cells #[.int .i64 s9_0, .slice A9_1 s9_1.length c9_1] 31 (0, 0)) (by exact BK9.1)) : gb102 ≠ g9)); clear BK8; clear BK9; clear HB; have BK8 := n0_; have BK9 := n1_; have HB := n2_; have BK102 := n3_; have GW102 := n4_; have GE102 := n5_; have NB8_102 := n6_; have NB102_8 := n7_; have NB9_102 := n8_; have NB102_9 := n9_; clear n0_ n1_ n2_ n3_ n4_ n5_ n6_ n7_ n8_ n9_; clear hb hbox hg; have hnb12 := NB8_102.1; have hnc12 := NB102_8.1; have hcz13_0 : w11.cell? ⟨g8, 0, none⟩ = some (.func (.func 38) #[] #[.pointer (some ⟨g9, 0, none⟩)]) := (blk_cell BK8.1 0).trans rfl; have hfz13_0 := blk_frozen BK8.1 0; have hnb14 := NB102_9.1; have hnc14 := NB9_102.1; have hcz15_0 : w11.cell? ⟨gb102, 0, none⟩ = some (.int .i64 a0_0) := (blk_cell BK102.1 0).trans rfl; have hcz15_1 : w11.cell? ⟨gb102, 1, none⟩ = some (.int .i64 a0_1) := (blk_cell BK102.1 1).trans rfl; have hfz15_0 := blk_frozen BK102.1 0; have hfz15_1 := blk_frozen BK102.1 1) | (go_at_call 38; (with_reducible refine (precedence_Check_1.calls a0_0 g9 s9_0 A9_1 c9_1 s9_1 false _ ?side1 ?side2 ?side3 A3.1).mono ?_); (case side1 => exact (by exact BK9.1)); (case side2 => exact (Kd.C_below HR9_1.1 HB.1)); (case side3 => exact HC9_1.1); rintro e w' ⟨rfl, ⟨nd, rfl⟩⟩))
  go_ret
  exact ⟨by rfl, by repeat (with_reducible first | exact HB.1 | apply pw_below_drewN )⟩

end Go.Proofs.Ytecbmcheojolnaa.XA
