-- written by xprint.py, this project's own program (wip/), over the words of print.sh
import Derived.Test.YtecbmcheojolnaaXAx0
import Derived.Test.YtecbmcheojolnaaXAx6
import Derived.Test.YtecbmcheojolnaaXAx10
import Derived.Test.YtecbmcheojolnaaXAx11
import Derived.Test.YtecbmcheojolnaaXAx7
namespace Go.Proofs.Ytecbmcheojolnaa.XA
open Go.RowKit Go.Proofs.Ytecbmcheojolnaa.Opens Go.Proofs.YtecbmcheojolnaaW.PrintWords Go.Proofs.YtecbmcheojolnaaW.PrintLast Go.Proofs.YtecbmcheojolnaaW.PrintMore
attribute [local go_sem] max2_int min2_int max_two min_two max_three min_three max_four min_four cell_some cell_same   -- for this text's walks alone
set_option linter.unusedVariables false
set_option linter.unusedSimpArgs false

/-! ### precedence_Needs: function 12 -/
def precedence_Needs.j0 : Nat → Int → Bool → Int → List (S47) → Option (List Int × Int)
  | 0, _, _, _, _ => none
  | k + 1, x1, x19, x166000, x166001 => if x19 = true then (some (([] : List Int), 6)) else ((precedence_listsOf.f k x166000 x166001).bind fun bt167 => ((precedence_needs.f k bt167.1 bt167.2 x1).bind fun t173 => ((precedence_indices.f k t173).bind fun t176 => (some (t176, 0)))))
def precedence_Needs.f (k : Nat) (a0_0 : Int) (l0_1 : List (S47)) (a1 : Int) : Option (List Int × Int) := (precedence_Check.f k a0_0 l0_1).bind fun t166 => (if t166 = 0 then (if a1 < 0 then (precedence_Needs.j0 k a1 true a0_0 l0_1) else (precedence_Needs.j0 k a1 (decide (a1 ≥ a0_0)) a0_0 l0_1)) else (some (([] : List Int), t166)))
theorem precedence_Needs.mono_l : ∀ k, (∀ y0 y1 y2 y3, LeO (precedence_Needs.j0 k y0 y1 y2 y3) (precedence_Needs.j0 (k + 1) y0 y1 y2 y3))
  | 0 => fun _ _ _ _ r h => by simp [precedence_Needs.j0] at h
  | k + 1 => by
    have ih0 := precedence_Needs.mono_l k
    intro y0 y1 y2 y3
    unfold precedence_Needs.j0
    repeat' first
    | (with_reducible exact precedence_indices.mono _ _)
    | (with_reducible exact precedence_listsOf.mono _ _ _)
    | (with_reducible exact precedence_needs.mono _ _ _ _)
    | (with_reducible exact LeO.refl _)
    | (with_reducible refine LeO.ite ?_ ?_)
    | (with_reducible refine LeO.bind ?_ (fun _ => ?_))
      
theorem precedence_Needs.mono : ∀ a0 a1 a2 k, LeO (precedence_Needs.f k a0 a1 a2) (precedence_Needs.f (k + 1) a0 a1 a2) := by
  intro a0 a1 a2 k
  have ih0 := precedence_Needs.mono_l k
  unfold precedence_Needs.f
  repeat' first
      | (with_reducible exact ih0 _ _ _ _)
      | (with_reducible exact precedence_Check.mono _ _ _)
      | (with_reducible exact LeO.refl _)
      | (with_reducible refine LeO.ite ?_ ?_)
      | (with_reducible refine LeO.bind ?_ (fun _ => ?_))
      
set_option maxHeartbeats 8000000 in
set_option maxRecDepth 100000 in
theorem precedence_Needs.calls (k : Nat) (a0_0 : Int) (A0_1 : Option Addr) (c0_1 : Nat) (l0_1 : List (S47)) (a1 : Int) (r1 : List Int) (r2 : Int) (w : World) (hr0_1 : Kd.C k47 w A0_1 l0_1.length l0_1) (hc0_1 : l0_1.length ≤ c0_1) (h : precedence_Needs.f k a0_0 l0_1 a1 = some (r1, r2)) :
    Calls Try.prog 12 #[.agg #[.int .i64 a0_0, .slice A0_1 l0_1.length c0_1], .int .i64 a1] w fun e w' => ∃ v0_ : Value, e = .returned (.tuple #[v0_, .int .i64 r2]) ∧ Kd.R (Kd.int .i64) 3 w' w.heap.size (fun _ => True) v0_ r1 ∧ Below w.heap.size w w' := by
  have hu31 := Try.underlying31
  have HR0_1 := ak hr0_1
  have HC0_1 := ak hc0_1
  clear hr0_1 hc0_1
  have HB := ak (Below.refl w.heap.size w)
  have H : ((precedence_Check.f k a0_0 l0_1).bind fun t166 => (if t166 = 0 then (if a1 < 0 then (precedence_Needs.j0 k a1 true a0_0 l0_1) else (precedence_Needs.j0 k a1 (decide (a1 ≥ a0_0)) a0_0 l0_1)) else (some (([] : List Int), t166)))) = some (r1, r2) := h
  clear h
  replace H := Option.bind_eq_some_iff.mp H
  obtain ⟨t166, A30, H⟩ := H
  replace H : (if t166 = 0 then (if a1 < 0 then (precedence_Needs.j0 k a1 true a0_0 l0_1) else (precedence_Needs.j0 k a1 (decide (a1 ≥ a0_0)) a0_0 l0_1)) else (some (([] : List Int), t166))) = some (r1, r2) := H
  have A3 := ak A30
  clear A30
  by_cases c4 : t166 = 0
  · rw [if_pos c4] at H
    have c4b0 : (t166 == 0) = true := beq_iff_eq.mpr c4
    have c4b1 : (t166 != 0) = false := bne_eq_false_iff_eq.mpr c4
    clear c4
    have HC5 := ak H
    clear H
    go_enter Try.func12, Try.ntmps12
    go_upto_region 4 with (first | ((with_reducible refine gate_dst (N := 2) rfl ?_); refine box_event ?hg (N := 2) ?hd (cs := #[.int .i64 a0_0, .slice A0_1 l0_1.length c0_1]) (t := 31) ?hr ?_; (case hd => rfl); (case hg => rfl); (case hr => (go_simp; done)); intro gb165 hg w6 hbox hb; have n0_ := ak (below_step HB.1 hb); have n1_ := ak (hbox); have n2_ := ak ((by rw [hg]; exact (below_size HB.1) : w.heap.size ≤ gb165)); have n3_ := ak ((by rw [hg]; exact (below_size HB.1) : w.heap.size ≤ gb165)); clear HB; have HB := n0_; have BK165 := n1_; have GW165 := n2_; have GE165 := n3_; clear n0_ n1_ n2_ n3_; clear hb hbox hg; have hcz7_0 : w6.cell? ⟨gb165, 0, none⟩ = some (.int .i64 a0_0) := (blk_cell BK165.1 0).trans rfl; have hcz7_1 : w6.cell? ⟨gb165, 1, none⟩ = some (.slice A0_1 l0_1.length c0_1) := (blk_cell BK165.1 1).trans rfl; have hfz7_0 := blk_frozen BK165.1 0; have hfz7_1 := blk_frozen BK165.1 1) | ((with_reducible refine gate_callee (f := 24) rfl ?_); refine goesL_ (some 8) rfl rfl Try.func24 (by kernel_rfl) rfl #[.agg #[.int .i64 a0_0, .slice A0_1 l0_1.length c0_1]] rfl am_ ?_; (with_reducible refine (precedence_Check.calls k a0_0 _ _ l0_1 t166 _ ?side1 ?side2 A3.1).mono ?_); (case side1 => exact (Kd.C_below HR0_1.1 HB.1)); (case side2 => exact HC0_1.1); rintro e w8 ⟨rfl, hb⟩; refine ⟨_, rfl, ?_⟩; have n0_ := ak (blk_below (g := gb165) (o := .cells #[.int .i64 a0_0, .slice A0_1 l0_1.length c0_1] 31 (0, 0)) (by exact BK165.1) hb); have n1_ := ak (below_step HB.1 hb); clear BK165; clear HB; have BK165 := n0_; have HB := n1_; clear n0_ n1_; (try clear hb)))
    go_cut [19] (fun v19 wc => ∃ (kq : Nat) (x19_4 : Bool), v19 = .bool x19_4 ∧ Aside0 (precedence_Needs.j0 kq a1 x19_4 a0_0 l0_1 = some (r1, r2)) ∧ Aside0 (kq ≤ k) ∧ Aside0 (wc.heap[gb165]? = some (.cells #[.int .i64 a0_0, (.slice A0_1 l0_1.length c0_1)] 31 (0, 0))) ∧ Aside0 (Below w.heap.size w wc))
    case first =>
      have H := HC5.1
      clear HC5
      by_cases c9 : a1 < 0
      · rw [if_pos c9] at H
        have c9b0 : decide (a1 < 0) = true := decide_eq_true c9
        clear c9
        have H' := ak H
        clear H
        go_wp2
        go_meet
        case rel => exact ⟨_, (true), (by rfl), H', ⟨by omega⟩, ⟨by exact BK165.1⟩, ⟨by repeat (with_reducible exact HB.1)⟩⟩
      rw [if_neg c9] at H
      have c9b0 : decide (a1 < 0) = false := decide_eq_false c9
      clear c9
      have H' := ak H
      clear H
      have hcz10_0 : w8.cell? ⟨gb165, 0, none⟩ = some (.int .i64 a0_0) := (blk_cell BK165.1 0).trans rfl
      have hcz10_1 : w8.cell? ⟨gb165, 1, none⟩ = some (.slice A0_1 l0_1.length c0_1) := (blk_cell BK165.1 1).trans rfl
      have hfz10_0 := blk_frozen BK165.1 0
      have hfz10_1 := blk_frozen BK165.1 1
      go_wp2
      go_meet
      case rel => exact ⟨_, (decide (a1 ≥ a0_0)), (by rfl), H', ⟨by omega⟩, ⟨by exact BK165.1⟩, ⟨by repeat (with_reducible exact HB.1)⟩⟩
    clear HC5
    try clear c4b0
    try clear c4b1
    try clear hcz7_0
    try clear hcz7_1
    try clear hfz7_0
    try clear hfz7_1
    obtain ⟨kq, x19_4, rfl, HA, HJ4, BK165, HB⟩ := hcut
    cases kq with
    | zero => exact absurd HA.1 (by simp [precedence_Needs.j0])
    | succ kj4 =>
      have H := HA.1
      clear HA
      simp only [precedence_Needs.j0] at H
      by_cases c11 : x19_4 = true
      · subst c11
        have H1 : (some (([] : List Int), 6)) = some (r1, r2) := by rw [if_pos rfl] at H; exact H
        clear H
        have H := H1
        clear H1
        simp only [Option.some.injEq, Prod.mk.injEq] at H
        obtain ⟨rfl, rfl⟩ := H
        go_wp2
        go_ret2
        exact ⟨_, by rfl, by exact Kd.R_nil _ _ _ _ _, by repeat (with_reducible exact HB.1)⟩
      replace c11 := Bool.eq_false_iff.mpr c11
      subst c11
      have H1 : ((precedence_listsOf.f kj4 a0_0 l0_1).bind fun bt167 => ((precedence_needs.f kj4 bt167.1 bt167.2 a1).bind fun t173 => ((precedence_indices.f kj4 t173).bind fun t176 => (some (t176, 0))))) = some (r1, r2) := by rw [if_neg (show ¬ (false = true) by decide)] at H; exact H
      clear H
      have H := H1
      clear H1
      replace H := Option.bind_eq_some_iff.mp H
      obtain ⟨⟨t167, t170⟩, A120, H⟩ := H
      replace H : ((precedence_needs.f kj4 t167 t170 a1).bind fun t173 => ((precedence_indices.f kj4 t173).bind fun t176 => (some (t176, 0)))) = some (r1, r2) := H
      have A12 := ak A120
      clear A120
      replace H := Option.bind_eq_some_iff.mp H
      obtain ⟨t173, A130, H⟩ := H
      replace H : ((precedence_indices.f kj4 t173).bind fun t176 => (some (t176, 0))) = some (r1, r2) := H
      have A13 := ak A130
      clear A130
      replace H := Option.bind_eq_some_iff.mp H
      obtain ⟨t176, A140, H⟩ := H
      replace H : (some (t176, 0)) = some (r1, r2) := H
      have A14 := ak A140
      clear A140
      simp only [Option.some.injEq, Prod.mk.injEq] at H
      obtain ⟨rfl, rfl⟩ := H
      have hcz15_0 : wc.cell? ⟨gb165, 0, none⟩ = some (.int .i64 a0_0) := (blk_cell BK165.1 0).trans rfl
      have hcz15_1 : wc.cell? ⟨gb165, 1, none⟩ = some (.slice A0_1 l0_1.length c0_1) := (blk_cell BK165.1 1).trans rfl
      have hfz15_0 := blk_frozen BK165.1 0
      have hfz15_1 := blk_frozen BK165.1 1
      go_wp2_with (first | ((with_reducible refine gate_callee (f := 28) rfl ?_); refine goesL_ (some 21) rfl rfl Try.func28 (by kernel_rfl) rfl #[.agg #[.int .i64 a0_0, .slice A0_1 l0_1.length c0_1]] rfl am_ ?_; (with_reducible refine (precedence_listsOf.calls kj4 a0_0 _ _ l0_1 t167 t170 _ ?side1 ?side2 A12.1).mono ?_); (case side1 => exact (Kd.C_below HR0_1.1 HB.1)); (case side2 => exact HC0_1.1); rintro e w16 ⟨v168, v171, rfl, ho0, ho1, hb⟩; refine ⟨_, rfl, ?_⟩; have n0_ := ak (Kd.S_lower ho0 (below_size HB.1)); have n1_ := ak (Kd.S_lower ho1 (below_size HB.1)); have n2_ := ak (blk_below (g := gb165) (o := .cells #[.int .i64 a0_0, .slice A0_1 l0_1.length c0_1] 31 (0, 0)) (by exact BK165.1) hb); have n3_ := ak (below_step HB.1 hb); clear BK165; clear HB; have HO169 := n0_; have HO172 := n1_; have BK165 := n2_; have HB := n3_; clear n0_ n1_ n2_ n3_; (try clear hb); (try clear ho0); (try clear ho1); obtain ⟨Ao17, co17, eo17⟩ := Kd.S_slice HO169.1; subst eo17; obtain ⟨Ao18, co18, eo18⟩ := Kd.S_slice HO172.1; subst eo18) | ((with_reducible refine gate_callee (f := 31) rfl ?_); refine goesL_ (some 23) rfl rfl Try.func31 (by kernel_rfl) rfl #[.agg #[.slice Ao17 t167.length co17, .slice Ao18 t170.length co18], .int .i64 a1] rfl am_ ?_; (with_reducible refine (precedence_needs.calls kj4 _ _ t167 _ _ t170 a1 t173 _ ?side1 ?side2 ?side3 ?side4 A13.1).mono ?_); (case side1 => exact (Kd.S_reads' HO169.1).2.2); (case side2 => exact (Kd.S_reads' HO169.1).2.1); (case side3 => exact (Kd.S_reads' HO172.1).2.2); (case side4 => exact (Kd.S_reads' HO172.1).2.1); rintro e w19 ⟨v174, rfl, ho0, hb⟩; refine ⟨_, rfl, ?_⟩; have n0_ := ak (Kd.S_below (by exact HO169.1) hb); have n1_ := ak (Kd.S_below (by exact HO172.1) hb); have n2_ := ak (Kd.R_lower ho0 (below_size HB.1)); have n3_ := ak (blk_below (g := gb165) (o := .cells #[.int .i64 a0_0, .slice A0_1 l0_1.length c0_1] 31 (0, 0)) (by exact BK165.1) hb); have n4_ := ak (below_step HB.1 hb); clear HO169; clear HO172; clear BK165; clear HB; have HO169 := n0_; have HO172 := n1_; have HO175 := n2_; have BK165 := n3_; have HB := n4_; clear n0_ n1_ n2_ n3_ n4_; (try clear hb); (try clear ho0); obtain ⟨Ao20, co20, eo20⟩ := Kd.R_slice HO175.1; subst eo20) | ((with_reducible refine gate_callee (f := 30) rfl ?_); refine goesL_ (some 24) rfl rfl Try.func30 (by kernel_rfl) rfl #[.slice Ao20 t173.length co20] rfl am_ ?_; (with_reducible refine (precedence_indices.calls kj4 _ _ t173 t176 _ ?side1 ?side2 A14.1).mono ?_); (case side1 => exact (Kd.R_reads' HO175.1).2.2); (case side2 => exact (Kd.R_reads' HO175.1).2.1); rintro e w21 ⟨v177, rfl, ho0, hb⟩; refine ⟨_, rfl, ?_⟩; have n0_ := ak (Kd.S_elder' (by exact HO169.1) (Kd.R_base ho0) hb); have n1_ := ak (Kd.S_elder' (by exact HO172.1) (Kd.R_base ho0) hb); have n2_ := ak (Kd.R_below (by exact HO175.1) hb); have n3_ := ak (Kd.R_lower ho0 (below_size HB.1)); have n4_ := ak (blk_below (g := gb165) (o := .cells #[.int .i64 a0_0, .slice A0_1 l0_1.length c0_1] 31 (0, 0)) (by exact BK165.1) hb); have n5_ := ak (below_step HB.1 hb); clear HO169; clear HO172; clear HO175; clear BK165; clear HB; have HO169 := n0_; have HO172 := n1_; have HO175 := n2_; have HO178 := n3_; have BK165 := n4_; have HB := n5_; clear n0_ n1_ n2_ n3_ n4_ n5_; (try clear hb); (try clear ho0)))
      go_ret2
      exact ⟨_, by rfl, by exact HO178.1, by repeat (with_reducible exact HB.1)⟩
  rw [if_neg c4] at H
  have c4b0 : (t166 == 0) = false := beq_eq_false_iff_ne.mpr c4
  have c4b1 : (t166 != 0) = true := bne_iff_ne.mpr c4
  simp only [Option.some.injEq, Prod.mk.injEq] at H
  obtain ⟨rfl, rfl⟩ := H
  go_enter Try.func12, Try.ntmps12
  go_wp2_with (first | ((with_reducible refine gate_dst (N := 2) rfl ?_); refine box_event ?hg (N := 2) ?hd (cs := #[.int .i64 a0_0, .slice A0_1 l0_1.length c0_1]) (t := 31) ?hr ?_; (case hd => rfl); (case hg => rfl); (case hr => (go_simp; done)); intro gb165 hg w22 hbox hb; have n0_ := ak (below_step HB.1 hb); have n1_ := ak (hbox); have n2_ := ak ((by rw [hg]; exact (below_size HB.1) : w.heap.size ≤ gb165)); have n3_ := ak ((by rw [hg]; exact (below_size HB.1) : w.heap.size ≤ gb165)); clear HB; have HB := n0_; have BK165 := n1_; have GW165 := n2_; have GE165 := n3_; clear n0_ n1_ n2_ n3_; clear hb hbox hg; have hcz23_0 : w22.cell? ⟨gb165, 0, none⟩ = some (.int .i64 a0_0) := (blk_cell BK165.1 0).trans rfl; have hcz23_1 : w22.cell? ⟨gb165, 1, none⟩ = some (.slice A0_1 l0_1.length c0_1) := (blk_cell BK165.1 1).trans rfl; have hfz23_0 := blk_frozen BK165.1 0; have hfz23_1 := blk_frozen BK165.1 1) | ((with_reducible refine gate_callee (f := 24) rfl ?_); refine goesL_ (some 8) rfl rfl Try.func24 (by kernel_rfl) rfl #[.agg #[.int .i64 a0_0, .slice A0_1 l0_1.length c0_1]] rfl am_ ?_; (with_reducible refine (precedence_Check.calls k a0_0 _ _ l0_1 t166 _ ?side1 ?side2 A3.1).mono ?_); (case side1 => exact (Kd.C_below HR0_1.1 HB.1)); (case side2 => exact HC0_1.1); rintro e w24 ⟨rfl, hb⟩; refine ⟨_, rfl, ?_⟩; have n0_ := ak (blk_below (g := gb165) (o := .cells #[.int .i64 a0_0, .slice A0_1 l0_1.length c0_1] 31 (0, 0)) (by exact BK165.1) hb); have n1_ := ak (below_step HB.1 hb); clear BK165; clear HB; have BK165 := n0_; have HB := n1_; clear n0_ n1_; (try clear hb)))
  go_ret2
  exact ⟨_, by rfl, by exact Kd.R_nil _ _ _ _ _, by repeat (with_reducible exact HB.1)⟩

end Go.Proofs.Ytecbmcheojolnaa.XA
