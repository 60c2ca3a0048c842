-- written by xprint.py, this project's own program (wip/), over the words of print.sh
import Derived.Test.YtecbmcheojolnaaXAx0
import Derived.Test.YtecbmcheojolnaaXAx6
import Derived.Test.YtecbmcheojolnaaXAx14
namespace Go.Proofs.Ytecbmcheojolnaa.XA
open Go.RowKit Go.Proofs.Ytecbmcheojolnaa.Opens Go.Proofs.YtecbmcheojolnaaW.PrintWords Go.Proofs.YtecbmcheojolnaaW.PrintLast Go.Proofs.YtecbmcheojolnaaW.PrintMore
attribute [local go_sem] max2_int min2_int max_two min_two max_three min_three max_four min_four cell_some cell_same   -- for this text's walks alone
set_option linter.unusedVariables false
set_option linter.unusedSimpArgs false

/-! ### precedence_sorted: function 34 -/
def precedence_sorted.f (k : Nat) (a0_0 : Int) (l0_1 : List (S47)) : Option (List Int × Int) := (precedence_Check.f k a0_0 l0_1).bind fun t208 => (if t208 = 0 then ((precedence_order.f k a0_0 l0_1).bind fun t209 => (if (t209.length : Int) < a0_0 then (some (([] : List Int), 13)) else (some (t209, 0)))) else (some (([] : List Int), t208)))
theorem precedence_sorted.mono : ∀ a0 a1 k, LeO (precedence_sorted.f k a0 a1) (precedence_sorted.f (k + 1) a0 a1) := by
  intro a0 a1 k
  unfold precedence_sorted.f
  repeat' first
      | (with_reducible exact precedence_Check.mono _ _ _)
      | (with_reducible exact precedence_order.mono _ _ _)
      | (with_reducible exact LeO.refl _)
      | (with_reducible refine LeO.ite ?_ ?_)
      | (with_reducible refine LeO.bind ?_ (fun _ => ?_))
      
set_option maxHeartbeats 8000000 in
set_option maxRecDepth 100000 in
theorem precedence_sorted.calls (k : Nat) (a0_0 : Int) (A0_1 : Option Addr) (c0_1 : Nat) (l0_1 : List (S47)) (r1 : List Int) (r2 : Int) (w : World) (hr0_1 : Kd.C k47 w A0_1 l0_1.length l0_1) (hc0_1 : l0_1.length ≤ c0_1) (h : precedence_sorted.f k a0_0 l0_1 = some (r1, r2)) :
    Calls Try.prog 34 #[.agg #[.int .i64 a0_0, .slice A0_1 l0_1.length c0_1]] w fun e w' => ∃ v0_ : Value, e = .returned (.tuple #[v0_, .int .i64 r2]) ∧ Kd.R (Kd.int .i64) 3 w' w.heap.size (fun _ => True) v0_ r1 ∧ Below w.heap.size w w' := by
  have hu31 := Try.underlying31
  have HR0_1 := ak hr0_1
  have HC0_1 := ak hc0_1
  clear hr0_1 hc0_1
  have HB := ak (Below.refl w.heap.size w)
  have H : ((precedence_Check.f k a0_0 l0_1).bind fun t208 => (if t208 = 0 then ((precedence_order.f k a0_0 l0_1).bind fun t209 => (if (t209.length : Int) < a0_0 then (some (([] : List Int), 13)) else (some (t209, 0)))) else (some (([] : List Int), t208)))) = some (r1, r2) := h
  clear h
  replace H := Option.bind_eq_some_iff.mp H
  obtain ⟨t208, A20, H⟩ := H
  replace H : (if t208 = 0 then ((precedence_order.f k a0_0 l0_1).bind fun t209 => (if (t209.length : Int) < a0_0 then (some (([] : List Int), 13)) else (some (t209, 0)))) else (some (([] : List Int), t208))) = some (r1, r2) := H
  have A2 := ak A20
  clear A20
  by_cases c3 : t208 = 0
  · rw [if_pos c3] at H
    have c3b0 : (t208 == 0) = true := beq_iff_eq.mpr c3
    have c3b1 : (t208 != 0) = false := bne_eq_false_iff_eq.mpr c3
    clear c3
    replace H := Option.bind_eq_some_iff.mp H
    obtain ⟨t209, A40, H⟩ := H
    replace H : (if (t209.length : Int) < a0_0 then (some (([] : List Int), 13)) else (some (t209, 0))) = some (r1, r2) := H
    have A4 := ak A40
    clear A40
    by_cases c5 : (t209.length : Int) < a0_0
    · rw [if_pos c5] at H
      have c5b0 : decide ((t209.length : Int) < a0_0) = true := decide_eq_true c5
      clear c5
      simp only [Option.some.injEq, Prod.mk.injEq] at H
      obtain ⟨rfl, rfl⟩ := H
      go_enter Try.func34, Try.ntmps34
      go_wp2_with (first | ((with_reducible refine gate_dst (N := 1) rfl ?_); refine box_event ?hg (N := 1) ?hd (cs := #[.int .i64 a0_0, .slice A0_1 l0_1.length c0_1]) (t := 31) ?hr ?_; (case hd => rfl); (case hg => rfl); (case hr => (go_simp; done)); intro gb207 hg w6 hbox hb; have n0_ := ak (below_step HB.1 hb); have n1_ := ak (hbox); have n2_ := ak ((by rw [hg]; exact (below_size HB.1) : w.heap.size ≤ gb207)); have n3_ := ak ((by rw [hg]; exact (below_size HB.1) : w.heap.size ≤ gb207)); clear HB; have HB := n0_; have BK207 := n1_; have GW207 := n2_; have GE207 := n3_; clear n0_ n1_ n2_ n3_; clear hb hbox hg; have hcz7_0 : w6.cell? ⟨gb207, 0, none⟩ = some (.int .i64 a0_0) := (blk_cell BK207.1 0).trans rfl; have hcz7_1 : w6.cell? ⟨gb207, 1, none⟩ = some (.slice A0_1 l0_1.length c0_1) := (blk_cell BK207.1 1).trans rfl; have hfz7_0 := blk_frozen BK207.1 0; have hfz7_1 := blk_frozen BK207.1 1) | ((with_reducible refine gate_callee (f := 24) rfl ?_); refine goesL_ (some 7) rfl rfl Try.func24 (by kernel_rfl) rfl #[.agg #[.int .i64 a0_0, .slice A0_1 l0_1.length c0_1]] rfl am_ ?_; (with_reducible refine (precedence_Check.calls k a0_0 _ _ l0_1 t208 _ ?side1 ?side2 A2.1).mono ?_); (case side1 => exact (Kd.C_below HR0_1.1 HB.1)); (case side2 => exact HC0_1.1); rintro e w8 ⟨rfl, hb⟩; refine ⟨_, rfl, ?_⟩; have n0_ := ak (blk_below (g := gb207) (o := .cells #[.int .i64 a0_0, .slice A0_1 l0_1.length c0_1] 31 (0, 0)) (by exact BK207.1) hb); have n1_ := ak (below_step HB.1 hb); clear BK207; clear HB; have BK207 := n0_; have HB := n1_; clear n0_ n1_; (try clear hb); have hcz9_0 : w8.cell? ⟨gb207, 0, none⟩ = some (.int .i64 a0_0) := (blk_cell BK207.1 0).trans rfl; have hcz9_1 : w8.cell? ⟨gb207, 1, none⟩ = some (.slice A0_1 l0_1.length c0_1) := (blk_cell BK207.1 1).trans rfl; have hfz9_0 := blk_frozen BK207.1 0; have hfz9_1 := blk_frozen BK207.1 1) | ((with_reducible refine gate_callee (f := 42) rfl ?_); refine goesL_ (some 12) rfl rfl Try.func42 (by kernel_rfl) rfl #[.agg #[.int .i64 a0_0, .slice A0_1 l0_1.length c0_1]] rfl am_ ?_; (with_reducible refine (precedence_order.calls k a0_0 _ _ l0_1 t209 _ ?side1 ?side2 A4.1).mono ?_); (case side1 => exact (Kd.C_below HR0_1.1 HB.1)); (case side2 => exact HC0_1.1); rintro e w10 ⟨v210, rfl, ho0, hb⟩; refine ⟨_, rfl, ?_⟩; have n0_ := ak (Kd.R_lower ho0 (below_size HB.1)); have n1_ := ak (blk_below (g := gb207) (o := .cells #[.int .i64 a0_0, .slice A0_1 l0_1.length c0_1] 31 (0, 0)) (by exact BK207.1) hb); have n2_ := ak (below_step HB.1 hb); clear BK207; clear HB; have HO211 := n0_; have BK207 := n1_; have HB := n2_; clear n0_ n1_ n2_; (try clear hb); (try clear ho0); obtain ⟨Ao11, co11, eo11⟩ := Kd.R_slice HO211.1; subst eo11; have hcz12_0 : w10.cell? ⟨gb207, 0, none⟩ = some (.int .i64 a0_0) := (blk_cell BK207.1 0).trans rfl; have hcz12_1 : w10.cell? ⟨gb207, 1, none⟩ = some (.slice A0_1 l0_1.length c0_1) := (blk_cell BK207.1 1).trans rfl; have hfz12_0 := blk_frozen BK207.1 0; have hfz12_1 := blk_frozen BK207.1 1))
      go_ret2
      exact ⟨_, by rfl, by exact Kd.R_nil _ _ _ _ _, by repeat (with_reducible exact HB.1)⟩
    rw [if_neg c5] at H
    have c5b0 : decide ((t209.length : Int) < a0_0) = false := decide_eq_false c5
    clear c5
    simp only [Option.some.injEq, Prod.mk.injEq] at H
    obtain ⟨rfl, rfl⟩ := H
    go_enter Try.func34, Try.ntmps34
    go_wp2_with (first | ((with_reducible refine gate_dst (N := 1) rfl ?_); refine box_event ?hg (N := 1) ?hd (cs := #[.int .i64 a0_0, .slice A0_1 l0_1.length c0_1]) (t := 31) ?hr ?_; (case hd => rfl); (case hg => rfl); (case hr => (go_simp; done)); intro gb207 hg w13 hbox hb; have n0_ := ak (below_step HB.1 hb); have n1_ := ak (hbox); have n2_ := ak ((by rw [hg]; exact (below_size HB.1) : w.heap.size ≤ gb207)); have n3_ := ak ((by rw [hg]; exact (below_size HB.1) : w.heap.size ≤ gb207)); clear HB; have HB := n0_; have BK207 := n1_; have GW207 := n2_; have GE207 := n3_; clear n0_ n1_ n2_ n3_; clear hb hbox hg; have hcz14_0 : w13.cell? ⟨gb207, 0, none⟩ = some (.int .i64 a0_0) := (blk_cell BK207.1 0).trans rfl; have hcz14_1 : w13.cell? ⟨gb207, 1, none⟩ = some (.slice A0_1 l0_1.length c0_1) := (blk_cell BK207.1 1).trans rfl; have hfz14_0 := blk_frozen BK207.1 0; have hfz14_1 := blk_frozen BK207.1 1) | ((with_reducible refine gate_callee (f := 24) rfl ?_); refine goesL_ (some 7) rfl rfl Try.func24 (by kernel_rfl) rfl #[.agg #[.int .i64 a0_0, .slice A0_1 l0_1.length c0_1]] rfl am_ ?_; (with_reducible refine (precedence_Check.calls k a0_0 _ _ l0_1 t208 _ ?side1 ?side2 A2.1).mono ?_); (case side1 => exact (Kd.C_below HR0_1.1 HB.1)); (case side2 => exact HC0_1.1); rintro e w15 ⟨rfl, hb⟩; refine ⟨_, rfl, ?_⟩; have n0_ := ak (blk_below (g := gb207) (o := .cells #[.int .i64 a0_0, .slice A0_1 l0_1.length c0_1] 31 (0, 0)) (by exact BK207.1) hb); have n1_ := ak (below_step HB.1 hb); clear BK207; clear HB; have BK207 := n0_; have HB := n1_; clear n0_ n1_; (try clear hb); have hcz16_0 : w15.cell? ⟨gb207, 0, none⟩ = some (.int .i64 a0_0) := (blk_cell BK207.1 0).trans rfl; have hcz16_1 : w15.cell? ⟨gb207, 1, none⟩ = some (.slice A0_1 l0_1.length c0_1) := (blk_cell BK207.1 1).trans rfl; have hfz16_0 := blk_frozen BK207.1 0; have hfz16_1 := blk_frozen BK207.1 1) | ((with_reducible refine gate_callee (f := 42) rfl ?_); refine goesL_ (some 12) rfl rfl Try.func42 (by kernel_rfl) rfl #[.agg #[.int .i64 a0_0, .slice A0_1 l0_1.length c0_1]] rfl am_ ?_; (with_reducible refine (precedence_order.calls k a0_0 _ _ l0_1 t209 _ ?side1 ?side2 A4.1).mono ?_); (case side1 => exact (Kd.C_below HR0_1.1 HB.1)); (case side2 => exact HC0_1.1); rintro e w17 ⟨v210, rfl, ho0, hb⟩; refine ⟨_, rfl, ?_⟩; have n0_ := ak (Kd.R_lower ho0 (below_size HB.1)); have n1_ := ak (blk_below (g := gb207) (o := .cells #[.int .i64 a0_0, .slice A0_1 l0_1.length c0_1] 31 (0, 0)) (by exact BK207.1) hb); have n2_ := ak (below_step HB.1 hb); clear BK207; clear HB; have HO211 := n0_; have BK207 := n1_; have HB := n2_; clear n0_ n1_ n2_; (try clear hb); (try clear ho0); obtain ⟨Ao18, co18, eo18⟩ := Kd.R_slice HO211.1; subst eo18; have hcz19_0 : w17.cell? ⟨gb207, 0, none⟩ = some (.int .i64 a0_0) := (blk_cell BK207.1 0).trans rfl; have hcz19_1 : w17.cell? ⟨gb207, 1, none⟩ = some (.slice A0_1 l0_1.length c0_1) := (blk_cell BK207.1 1).trans rfl; have hfz19_0 := blk_frozen BK207.1 0; have hfz19_1 := blk_frozen BK207.1 1))
    go_ret2
    exact ⟨_, by rfl, by exact HO211.1, by repeat (with_reducible exact HB.1)⟩
  rw [if_neg c3] at H
  have c3b0 : (t208 == 0) = false := beq_eq_false_iff_ne.mpr c3
  have c3b1 : (t208 != 0) = true := bne_iff_ne.mpr c3
  simp only [Option.some.injEq, Prod.mk.injEq] at H
  obtain ⟨rfl, rfl⟩ := H
  go_enter Try.func34, Try.ntmps34
  go_wp2_with (first | ((with_reducible refine gate_dst (N := 1) rfl ?_); refine box_event ?hg (N := 1) ?hd (cs := #[.int .i64 a0_0, .slice A0_1 l0_1.length c0_1]) (t := 31) ?hr ?_; (case hd => rfl); (case hg => rfl); (case hr => (go_simp; done)); intro gb207 hg w20 hbox hb; have n0_ := ak (below_step HB.1 hb); have n1_ := ak (hbox); have n2_ := ak ((by rw [hg]; exact (below_size HB.1) : w.heap.size ≤ gb207)); have n3_ := ak ((by rw [hg]; exact (below_size HB.1) : w.heap.size ≤ gb207)); clear HB; have HB := n0_; have BK207 := n1_; have GW207 := n2_; have GE207 := n3_; clear n0_ n1_ n2_ n3_; clear hb hbox hg; have hcz21_0 : w20.cell? ⟨gb207, 0, none⟩ = some (.int .i64 a0_0) := (blk_cell BK207.1 0).trans rfl; have hcz21_1 : w20.cell? ⟨gb207, 1, none⟩ = some (.slice A0_1 l0_1.length c0_1) := (blk_cell BK207.1 1).trans rfl; have hfz21_0 := blk_frozen BK207.1 0; have hfz21_1 := blk_frozen BK207.1 1) | ((with_reducible refine gate_callee (f := 24) rfl ?_); refine goesL_ (some 7) rfl rfl Try.func24 (by kernel_rfl) rfl #[.agg #[.int .i64 a0_0, .slice A0_1 l0_1.length c0_1]] rfl am_ ?_; (with_reducible refine (precedence_Check.calls k a0_0 _ _ l0_1 t208 _ ?side1 ?side2 A2.1).mono ?_); (case side1 => exact (Kd.C_below HR0_1.1 HB.1)); (case side2 => exact HC0_1.1); rintro e w22 ⟨rfl, hb⟩; refine ⟨_, rfl, ?_⟩; have n0_ := ak (blk_below (g := gb207) (o := .cells #[.int .i64 a0_0, .slice A0_1 l0_1.length c0_1] 31 (0, 0)) (by exact BK207.1) hb); have n1_ := ak (below_step HB.1 hb); clear BK207; clear HB; have BK207 := n0_; have HB := n1_; clear n0_ n1_; (try clear hb)))
  go_ret2
  exact ⟨_, by rfl, by exact Kd.R_nil _ _ _ _ _, by repeat (with_reducible exact HB.1)⟩

-- NOT PRINTED: function 43 (slices_IndexFunc_int_int)

-- NOT PRINTED: function 35 (slices_ContainsFunc_int_int)

end Go.Proofs.Ytecbmcheojolnaa.XA
