-- written by xprint.py, this project's own program (wip/), over the words of print.sh
import Derived.Test.YtglkcinmohjblaaDoorXAx0
import Derived.Test.YtglkcinmohjblaaDoorXAx9
import Derived.Test.YtglkcinmohjblaaDoorXAx14
import Derived.Test.YtglkcinmohjblaaDoorXAx16
namespace Go.Proofs.YtglkcinmohjblaaDoor.XA
open Go.RowKit Go.Proofs.YtglkcinmohjblaaDoor.Opens Go.Proofs.YtglkcinmohjblaaDoorW.PrintWords Go.Proofs.YtglkcinmohjblaaDoorW.PrintLast Go.Proofs.YtglkcinmohjblaaDoorW.PrintMore
attribute [local go_sem] max2_int min2_int max_two min_two max_three min_three max_four min_four cell_some cell_same   -- for this text's walks alone
set_option linter.unusedVariables false
set_option linter.unusedSimpArgs false

/-! ### colour_Face: function 53 -/
def colour_Face.f (k : Nat) (a0_0 : ByteArray) (a0_1 : ByteArray) (a0_2 : Int) (a0_3 : Int) (a0_4 : Int) (a0_5 : Int) (a0_6 : Int) (a0_7 : Int) (a0_8 : Int) (a0_9 : Int) (l0_10 : List Int) (l0_11 : List Int) (a1 : Bool) : Option (List Int × Int) := if a1 = true then ((colour_Mirror.f k l0_11).bind fun bt148 => (some (bt148.1, bt148.2))) else ((colour_Check.f k l0_10).bind fun t152 => (if t152 = 0 then ((slices_Clone_int_int.f l0_10).bind fun t153 => (some (t153, 0))) else (some (([] : List Int), t152))))
theorem colour_Face.mono : ∀ a0 a1 a2 a3 a4 a5 a6 a7 a8 a9 a10 a11 a12 k, LeO (colour_Face.f k a0 a1 a2 a3 a4 a5 a6 a7 a8 a9 a10 a11 a12) (colour_Face.f (k + 1) a0 a1 a2 a3 a4 a5 a6 a7 a8 a9 a10 a11 a12) := by
  intro a0 a1 a2 a3 a4 a5 a6 a7 a8 a9 a10 a11 a12 k
  unfold colour_Face.f
  repeat' first
      | (with_reducible exact colour_Check.mono _ _)
      | (with_reducible exact colour_Mirror.mono _ _)
      | (with_reducible exact LeO.refl _)
      | (with_reducible refine LeO.ite ?_ ?_)
      | (with_reducible refine LeO.bind ?_ (fun _ => ?_))
      
set_option maxHeartbeats 8000000 in
set_option maxRecDepth 100000 in
theorem colour_Face.calls (k : Nat) (a0_0 : ByteArray) (a0_1 : ByteArray) (a0_2 : Int) (a0_3 : Int) (a0_4 : Int) (a0_5 : Int) (a0_6 : Int) (a0_7 : Int) (a0_8 : Int) (a0_9 : Int) (A0_10 : Option Addr) (c0_10 : Nat) (l0_10 : List Int) (A0_11 : Option Addr) (c0_11 : Nat) (l0_11 : List Int) (a1 : Bool) (r1 : List Int) (r2 : Int) (w : World) (hr0_10 : Kd.C (Kd.int .i64) w A0_10 l0_10.length l0_10) (hc0_10 : l0_10.length ≤ c0_10) (hr0_11 : Kd.C (Kd.int .i64) w A0_11 l0_11.length l0_11) (hc0_11 : l0_11.length ≤ c0_11) (h : colour_Face.f k a0_0 a0_1 a0_2 a0_3 a0_4 a0_5 a0_6 a0_7 a0_8 a0_9 l0_10 l0_11 a1 = some (r1, r2)) :
    Calls Tryd.prog 53 #[.agg #[.string a0_0, .string a0_1, .int .i64 a0_2, .int .i64 a0_3, .int .i64 a0_4, .int .i64 a0_5, .int .i64 a0_6, .int .i64 a0_7, .int .i64 a0_8, .int .i64 a0_9, .slice A0_10 l0_10.length c0_10, .slice A0_11 l0_11.length c0_11], .bool a1] w fun e w' => ∃ v0_ : Value, e = .returned (.tuple #[v0_, .int .i64 r2]) ∧ Kd.R (Kd.int .i64) 3 w' w.heap.size (fun _ => True) v0_ r1 ∧ Below w.heap.size w w' := by
  have hu62 := Tryd.underlying62
  have HR0_10 := ak hr0_10
  have HC0_10 := ak hc0_10
  clear hr0_10 hc0_10
  have HR0_11 := ak hr0_11
  have HC0_11 := ak hc0_11
  clear hr0_11 hc0_11
  have HB := ak (Below.refl w.heap.size w)
  have H : (if a1 = true then ((colour_Mirror.f k l0_11).bind fun bt148 => (some (bt148.1, bt148.2))) else ((colour_Check.f k l0_10).bind fun t152 => (if t152 = 0 then ((slices_Clone_int_int.f l0_10).bind fun t153 => (some (t153, 0))) else (some (([] : List Int), t152))))) = some (r1, r2) := h
  clear h
  by_cases c3 : a1 = true
  · subst c3
    have H1 : ((colour_Mirror.f k l0_11).bind fun bt148 => (some (bt148.1, bt148.2))) = some (r1, r2) := by rw [if_pos rfl] at H; exact H
    clear H
    have H := H1
    clear H1
    replace H := Option.bind_eq_some_iff.mp H
    obtain ⟨⟨t148, t149⟩, A40, H⟩ := H
    replace H : (some (t148, t149)) = some (r1, r2) := H
    have A4 := ak A40
    clear A40
    simp only [Option.some.injEq, Prod.mk.injEq] at H
    obtain ⟨rfl, rfl⟩ := H
    go_enter Tryd.func53, Tryd.ntmps53
    go_wp2_with (first | ((with_reducible refine gate_dst (N := 2) rfl ?_); refine box_event ?hg (N := 2) ?hd (cs := #[.string a0_0, .string a0_1, .int .i64 a0_2, .int .i64 a0_3, .int .i64 a0_4, .int .i64 a0_5, .int .i64 a0_6, .int .i64 a0_7, .int .i64 a0_8, .int .i64 a0_9, .slice A0_10 l0_10.length c0_10, .slice A0_11 l0_11.length c0_11]) (t := 62) ?hr ?_; (case hd => rfl); (case hg => rfl); (case hr => (go_simp; done)); intro gb147 hg w5 hbox hb; have n0_ := ak (below_step HB.1 hb); have n1_ := ak (hbox); have n2_ := ak ((by rw [hg]; exact (below_size HB.1) : w.heap.size ≤ gb147)); have n3_ := ak ((by rw [hg]; exact (below_size HB.1) : w.heap.size ≤ gb147)); clear HB; have HB := n0_; have BK147 := n1_; have GW147 := n2_; have GE147 := n3_; clear n0_ n1_ n2_ n3_; clear hb hbox hg; have hcz6_0 : w5.cell? ⟨gb147, 0, none⟩ = some (.string a0_0) := (blk_cell BK147.1 0).trans rfl; have hcz6_1 : w5.cell? ⟨gb147, 1, none⟩ = some (.string a0_1) := (blk_cell BK147.1 1).trans rfl; have hcz6_2 : w5.cell? ⟨gb147, 2, none⟩ = some (.int .i64 a0_2) := (blk_cell BK147.1 2).trans rfl; have hcz6_3 : w5.cell? ⟨gb147, 3, none⟩ = some (.int .i64 a0_3) := (blk_cell BK147.1 3).trans rfl; have hcz6_4 : w5.cell? ⟨gb147, 4, none⟩ = some (.int .i64 a0_4) := (blk_cell BK147.1 4).trans rfl; have hcz6_5 : w5.cell? ⟨gb147, 5, none⟩ = some (.int .i64 a0_5) := (blk_cell BK147.1 5).trans rfl; have hcz6_6 : w5.cell? ⟨gb147, 6, none⟩ = some (.int .i64 a0_6) := (blk_cell BK147.1 6).trans rfl; have hcz6_7 : w5.cell? ⟨gb147, 7, none⟩ = some (.int .i64 a0_7) := (blk_cell BK147.1 7).trans rfl; have hcz6_8 : w5.cell? ⟨gb147, 8, none⟩ = some (.int .i64 a0_8) := (blk_cell BK147.1 8).trans rfl; have hcz6_9 : w5.cell? ⟨gb147, 9, none⟩ = some (.int .i64 a0_9) := (blk_cell BK147.1 9).trans rfl; have hcz6_10 : w5.cell? ⟨gb147, 10, none⟩ = some (.slice A0_10 l0_10.length c0_10) := (blk_cell BK147.1 10).trans rfl; have hcz6_11 : w5.cell? ⟨gb147, 11, none⟩ = some (.slice A0_11 l0_11.length c0_11) := (blk_cell BK147.1 11).trans rfl; have hfz6_0 := blk_frozen BK147.1 0; have hfz6_1 := blk_frozen BK147.1 1; have hfz6_2 := blk_frozen BK147.1 2; have hfz6_3 := blk_frozen BK147.1 3; have hfz6_4 := blk_frozen BK147.1 4; have hfz6_5 := blk_frozen BK147.1 5; have hfz6_6 := blk_frozen BK147.1 6; have hfz6_7 := blk_frozen BK147.1 7; have hfz6_8 := blk_frozen BK147.1 8; have hfz6_9 := blk_frozen BK147.1 9; have hfz6_10 := blk_frozen BK147.1 10; have hfz6_11 := blk_frozen BK147.1 11) | ((with_reducible refine gate_callee (f := 55) rfl ?_); refine goesL_ (some 10) rfl rfl Tryd.func55 (by kernel_rfl) rfl #[.slice A0_11 l0_11.length c0_11] rfl am_ ?_; (with_reducible refine (colour_Mirror.calls k _ _ l0_11 t148 t149 _ ?side1 ?side2 A4.1).mono ?_); (case side1 => exact (Kd.C_below HR0_11.1 HB.1)); (case side2 => exact HC0_11.1); rintro e w7 ⟨v150, rfl, ho0, hb⟩; refine ⟨_, rfl, ?_⟩; have n0_ := ak (Kd.R_lower ho0 (below_size HB.1)); have n1_ := ak (blk_below (g := gb147) (o := .cells #[.string a0_0, .string a0_1, .int .i64 a0_2, .int .i64 a0_3, .int .i64 a0_4, .int .i64 a0_5, .int .i64 a0_6, .int .i64 a0_7, .int .i64 a0_8, .int .i64 a0_9, .slice A0_10 l0_10.length c0_10, .slice A0_11 l0_11.length c0_11] 62 (0, 0)) (by exact BK147.1) hb); have n2_ := ak (below_step HB.1 hb); clear BK147; clear HB; have HO151 := n0_; have BK147 := n1_; have HB := n2_; clear n0_ n1_ n2_; (try clear hb); (try clear ho0)))
    go_ret2
    exact ⟨_, by rfl, by exact HO151.1, by repeat (with_reducible exact HB.1)⟩
  replace c3 := Bool.eq_false_iff.mpr c3
  subst c3
  have H1 : ((colour_Check.f k l0_10).bind fun t152 => (if t152 = 0 then ((slices_Clone_int_int.f l0_10).bind fun t153 => (some (t153, 0))) else (some (([] : List Int), t152)))) = some (r1, r2) := by rw [if_neg (show ¬ (false = true) by decide)] at H; exact H
  clear H
  have H := H1
  clear H1
  replace H := Option.bind_eq_some_iff.mp H
  obtain ⟨t152, A80, H⟩ := H
  replace H : (if t152 = 0 then ((slices_Clone_int_int.f l0_10).bind fun t153 => (some (t153, 0))) else (some (([] : List Int), t152))) = some (r1, r2) := H
  have A8 := ak A80
  clear A80
  by_cases c9 : t152 = 0
  · rw [if_pos c9] at H
    have c9b0 : (t152 == 0) = true := beq_iff_eq.mpr c9
    have c9b1 : (t152 != 0) = false := bne_eq_false_iff_eq.mpr c9
    clear c9
    replace H := Option.bind_eq_some_iff.mp H
    obtain ⟨t153, A100, H⟩ := H
    replace H : (some (t153, 0)) = some (r1, r2) := H
    have A10 := ak A100
    clear A100
    simp only [Option.some.injEq, Prod.mk.injEq] at H
    obtain ⟨rfl, rfl⟩ := H
    go_enter Tryd.func53, Tryd.ntmps53
    go_wp2_with (first | ((with_reducible refine gate_dst (N := 2) rfl ?_); refine box_event ?hg (N := 2) ?hd (cs := #[.string a0_0, .string a0_1, .int .i64 a0_2, .int .i64 a0_3, .int .i64 a0_4, .int .i64 a0_5, .int .i64 a0_6, .int .i64 a0_7, .int .i64 a0_8, .int .i64 a0_9, .slice A0_10 l0_10.length c0_10, .slice A0_11 l0_11.length c0_11]) (t := 62) ?hr ?_; (case hd => rfl); (case hg => rfl); (case hr => (go_simp; done)); intro gb147 hg w11 hbox hb; have n0_ := ak (below_step HB.1 hb); have n1_ := ak (hbox); have n2_ := ak ((by rw [hg]; exact (below_size HB.1) : w.heap.size ≤ gb147)); have n3_ := ak ((by rw [hg]; exact (below_size HB.1) : w.heap.size ≤ gb147)); clear HB; have HB := n0_; have BK147 := n1_; have GW147 := n2_; have GE147 := n3_; clear n0_ n1_ n2_ n3_; clear hb hbox hg; have hcz12_0 : w11.cell? ⟨gb147, 0, none⟩ = some (.string a0_0) := (blk_cell BK147.1 0).trans rfl; have hcz12_1 : w11.cell? ⟨gb147, 1, none⟩ = some (.string a0_1) := (blk_cell BK147.1 1).trans rfl; have hcz12_2 : w11.cell? ⟨gb147, 2, none⟩ = some (.int .i64 a0_2) := (blk_cell BK147.1 2).trans rfl; have hcz12_3 : w11.cell? ⟨gb147, 3, none⟩ = some (.int .i64 a0_3) := (blk_cell BK147.1 3).trans rfl; have hcz12_4 : w11.cell? ⟨gb147, 4, none⟩ = some (.int .i64 a0_4) := (blk_cell BK147.1 4).trans rfl; have hcz12_5 : w11.cell? ⟨gb147, 5, none⟩ = some (.int .i64 a0_5) := (blk_cell BK147.1 5).trans rfl; have hcz12_6 : w11.cell? ⟨gb147, 6, none⟩ = some (.int .i64 a0_6) := (blk_cell BK147.1 6).trans rfl; have hcz12_7 : w11.cell? ⟨gb147, 7, none⟩ = some (.int .i64 a0_7) := (blk_cell BK147.1 7).trans rfl; have hcz12_8 : w11.cell? ⟨gb147, 8, none⟩ = some (.int .i64 a0_8) := (blk_cell BK147.1 8).trans rfl; have hcz12_9 : w11.cell? ⟨gb147, 9, none⟩ = some (.int .i64 a0_9) := (blk_cell BK147.1 9).trans rfl; have hcz12_10 : w11.cell? ⟨gb147, 10, none⟩ = some (.slice A0_10 l0_10.length c0_10) := (blk_cell BK147.1 10).trans rfl; have hcz12_11 : w11.cell? ⟨gb147, 11, none⟩ = some (.slice A0_11 l0_11.length c0_11) := (blk_cell BK147.1 11).trans rfl; have hfz12_0 := blk_frozen BK147.1 0; have hfz12_1 := blk_frozen BK147.1 1; have hfz12_2 := blk_frozen BK147.1 2; have hfz12_3 := blk_frozen BK147.1 3; have hfz12_4 := blk_frozen BK147.1 4; have hfz12_5 := blk_frozen BK147.1 5; have hfz12_6 := blk_frozen BK147.1 6; have hfz12_7 := blk_frozen BK147.1 7; have hfz12_8 := blk_frozen BK147.1 8; have hfz12_9 := blk_frozen BK147.1 9; have hfz12_10 := blk_frozen BK147.1 10; have hfz12_11 := blk_frozen BK147.1 11) | ((with_reducible refine gate_callee (f := 45) rfl ?_); refine goesL_ (some 15) rfl rfl Tryd.func45 (by kernel_rfl) rfl #[.slice A0_10 l0_10.length c0_10] rfl am_ ?_; (with_reducible refine (colour_Check.calls k _ _ l0_10 t152 _ ?side1 ?side2 A8.1).mono ?_); (case side1 => exact (Kd.C_below HR0_10.1 HB.1)); (case side2 => exact HC0_10.1); rintro e w13 ⟨rfl, hb⟩; refine ⟨_, rfl, ?_⟩; have n0_ := ak (blk_below (g := gb147) (o := .cells #[.string a0_0, .string a0_1, .int .i64 a0_2, .int .i64 a0_3, .int .i64 a0_4, .int .i64 a0_5, .int .i64 a0_6, .int .i64 a0_7, .int .i64 a0_8, .int .i64 a0_9, .slice A0_10 l0_10.length c0_10, .slice A0_11 l0_11.length c0_11] 62 (0, 0)) (by exact BK147.1) hb); have n1_ := ak (below_step HB.1 hb); clear BK147; clear HB; have BK147 := n0_; have HB := n1_; clear n0_ n1_; (try clear hb); have hcz14_0 : w13.cell? ⟨gb147, 0, none⟩ = some (.string a0_0) := (blk_cell BK147.1 0).trans rfl; have hcz14_1 : w13.cell? ⟨gb147, 1, none⟩ = some (.string a0_1) := (blk_cell BK147.1 1).trans rfl; have hcz14_2 : w13.cell? ⟨gb147, 2, none⟩ = some (.int .i64 a0_2) := (blk_cell BK147.1 2).trans rfl; have hcz14_3 : w13.cell? ⟨gb147, 3, none⟩ = some (.int .i64 a0_3) := (blk_cell BK147.1 3).trans rfl; have hcz14_4 : w13.cell? ⟨gb147, 4, none⟩ = some (.int .i64 a0_4) := (blk_cell BK147.1 4).trans rfl; have hcz14_5 : w13.cell? ⟨gb147, 5, none⟩ = some (.int .i64 a0_5) := (blk_cell BK147.1 5).trans rfl; have hcz14_6 : w13.cell? ⟨gb147, 6, none⟩ = some (.int .i64 a0_6) := (blk_cell BK147.1 6).trans rfl; have hcz14_7 : w13.cell? ⟨gb147, 7, none⟩ = some (.int .i64 a0_7) := (blk_cell BK147.1 7).trans rfl; have hcz14_8 : w13.cell? ⟨gb147, 8, none⟩ = some (.int .i64 a0_8) := (blk_cell BK147.1 8).trans rfl; have hcz14_9 : w13.cell? ⟨gb147, 9, none⟩ = some (.int .i64 a0_9) := (blk_cell BK147.1 9).trans rfl; have hcz14_10 : w13.cell? ⟨gb147, 10, none⟩ = some (.slice A0_10 l0_10.length c0_10) := (blk_cell BK147.1 10).trans rfl; have hcz14_11 : w13.cell? ⟨gb147, 11, none⟩ = some (.slice A0_11 l0_11.length c0_11) := (blk_cell BK147.1 11).trans rfl; have hfz14_0 := blk_frozen BK147.1 0; have hfz14_1 := blk_frozen BK147.1 1; have hfz14_2 := blk_frozen BK147.1 2; have hfz14_3 := blk_frozen BK147.1 3; have hfz14_4 := blk_frozen BK147.1 4; have hfz14_5 := blk_frozen BK147.1 5; have hfz14_6 := blk_frozen BK147.1 6; have hfz14_7 := blk_frozen BK147.1 7; have hfz14_8 := blk_frozen BK147.1 8; have hfz14_9 := blk_frozen BK147.1 9; have hfz14_10 := blk_frozen BK147.1 10; have hfz14_11 := blk_frozen BK147.1 11) | ((with_reducible refine gate_callee (f := 56) rfl ?_); refine goesL_ (some 21) rfl rfl Tryd.func56 (by kernel_rfl) rfl #[.slice A0_10 l0_10.length c0_10] rfl am_ ?_; (with_reducible refine (slices_Clone_int_int.calls _ _ l0_10 t153 _ ?side1 ?side2 A10.1).mono ?_); (case side1 => exact (Kd.C_below HR0_10.1 HB.1)); (case side2 => exact HC0_10.1); rintro e w15 ⟨v154, rfl, ho0, hb⟩; refine ⟨_, rfl, ?_⟩; have n0_ := ak (Kd.R_lower ho0 (below_size HB.1)); have n1_ := ak (blk_below (g := gb147) (o := .cells #[.string a0_0, .string a0_1, .int .i64 a0_2, .int .i64 a0_3, .int .i64 a0_4, .int .i64 a0_5, .int .i64 a0_6, .int .i64 a0_7, .int .i64 a0_8, .int .i64 a0_9, .slice A0_10 l0_10.length c0_10, .slice A0_11 l0_11.length c0_11] 62 (0, 0)) (by exact BK147.1) hb); have n2_ := ak (below_step HB.1 hb); clear BK147; clear HB; have HO155 := n0_; have BK147 := n1_; have HB := n2_; clear n0_ n1_ n2_; (try clear hb); (try clear ho0)))
    go_ret2
    exact ⟨_, by rfl, by exact HO155.1, by repeat (with_reducible exact HB.1)⟩
  rw [if_neg c9] at H
  have c9b0 : (t152 == 0) = false := beq_eq_false_iff_ne.mpr c9
  have c9b1 : (t152 != 0) = true := bne_iff_ne.mpr c9
  simp only [Option.some.injEq, Prod.mk.injEq] at H
  obtain ⟨rfl, rfl⟩ := H
  go_enter Tryd.func53, Tryd.ntmps53
  go_wp2_with (first | ((with_reducible refine gate_dst (N := 2) rfl ?_); refine box_event ?hg (N := 2) ?hd (cs := #[.string a0_0, .string a0_1, .int .i64 a0_2, .int .i64 a0_3, .int .i64 a0_4, .int .i64 a0_5, .int .i64 a0_6, .int .i64 a0_7, .int .i64 a0_8, .int .i64 a0_9, .slice A0_10 l0_10.length c0_10, .slice A0_11 l0_11.length c0_11]) (t := 62) ?hr ?_; (case hd => rfl); (case hg => rfl); (case hr => (go_simp; done)); intro gb147 hg w16 hbox hb; have n0_ := ak (below_step HB.1 hb); have n1_ := ak (hbox); have n2_ := ak ((by rw [hg]; exact (below_size HB.1) : w.heap.size ≤ gb147)); have n3_ := ak ((by rw [hg]; exact (below_size HB.1) : w.heap.size ≤ gb147)); clear HB; have HB := n0_; have BK147 := n1_; have GW147 := n2_; have GE147 := n3_; clear n0_ n1_ n2_ n3_; clear hb hbox hg; have hcz17_0 : w16.cell? ⟨gb147, 0, none⟩ = some (.string a0_0) := (blk_cell BK147.1 0).trans rfl; have hcz17_1 : w16.cell? ⟨gb147, 1, none⟩ = some (.string a0_1) := (blk_cell BK147.1 1).trans rfl; have hcz17_2 : w16.cell? ⟨gb147, 2, none⟩ = some (.int .i64 a0_2) := (blk_cell BK147.1 2).trans rfl; have hcz17_3 : w16.cell? ⟨gb147, 3, none⟩ = some (.int .i64 a0_3) := (blk_cell BK147.1 3).trans rfl; have hcz17_4 : w16.cell? ⟨gb147, 4, none⟩ = some (.int .i64 a0_4) := (blk_cell BK147.1 4).trans rfl; have hcz17_5 : w16.cell? ⟨gb147, 5, none⟩ = some (.int .i64 a0_5) := (blk_cell BK147.1 5).trans rfl; have hcz17_6 : w16.cell? ⟨gb147, 6, none⟩ = some (.int .i64 a0_6) := (blk_cell BK147.1 6).trans rfl; have hcz17_7 : w16.cell? ⟨gb147, 7, none⟩ = some (.int .i64 a0_7) := (blk_cell BK147.1 7).trans rfl; have hcz17_8 : w16.cell? ⟨gb147, 8, none⟩ = some (.int .i64 a0_8) := (blk_cell BK147.1 8).trans rfl; have hcz17_9 : w16.cell? ⟨gb147, 9, none⟩ = some (.int .i64 a0_9) := (blk_cell BK147.1 9).trans rfl; have hcz17_10 : w16.cell? ⟨gb147, 10, none⟩ = some (.slice A0_10 l0_10.length c0_10) := (blk_cell BK147.1 10).trans rfl; have hcz17_11 : w16.cell? ⟨gb147, 11, none⟩ = some (.slice A0_11 l0_11.length c0_11) := (blk_cell BK147.1 11).trans rfl; have hfz17_0 := blk_frozen BK147.1 0; have hfz17_1 := blk_frozen BK147.1 1; have hfz17_2 := blk_frozen BK147.1 2; have hfz17_3 := blk_frozen BK147.1 3; have hfz17_4 := blk_frozen BK147.1 4; have hfz17_5 := blk_frozen BK147.1 5; have hfz17_6 := blk_frozen BK147.1 6; have hfz17_7 := blk_frozen BK147.1 7; have hfz17_8 := blk_frozen BK147.1 8; have hfz17_9 := blk_frozen BK147.1 9; have hfz17_10 := blk_frozen BK147.1 10; have hfz17_11 := blk_frozen BK147.1 11) | ((with_reducible refine gate_callee (f := 45) rfl ?_); refine goesL_ (some 15) rfl rfl Tryd.func45 (by kernel_rfl) rfl #[.slice A0_10 l0_10.length c0_10] rfl am_ ?_; (with_reducible refine (colour_Check.calls k _ _ l0_10 t152 _ ?side1 ?side2 A8.1).mono ?_); (case side1 => exact (Kd.C_below HR0_10.1 HB.1)); (case side2 => exact HC0_10.1); rintro e w18 ⟨rfl, hb⟩; refine ⟨_, rfl, ?_⟩; have n0_ := ak (blk_below (g := gb147) (o := .cells #[.string a0_0, .string a0_1, .int .i64 a0_2, .int .i64 a0_3, .int .i64 a0_4, .int .i64 a0_5, .int .i64 a0_6, .int .i64 a0_7, .int .i64 a0_8, .int .i64 a0_9, .slice A0_10 l0_10.length c0_10, .slice A0_11 l0_11.length c0_11] 62 (0, 0)) (by exact BK147.1) hb); have n1_ := ak (below_step HB.1 hb); clear BK147; clear HB; have BK147 := n0_; have HB := n1_; clear n0_ n1_; (try clear hb)))
  go_ret2
  exact ⟨_, by rfl, by exact Kd.R_nil _ _ _ _ _, by repeat (with_reducible exact HB.1)⟩

end Go.Proofs.YtglkcinmohjblaaDoor.XA
