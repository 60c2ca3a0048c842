import Derived.Test.YtgacodhpniehiaaXAx14
namespace Go.Proofs.Ytgacodhpniehiaa.XA
open Go.RowKit Opens YtgacodhpniehiaaW.PrintWords YtgacodhpniehiaaW.PrintLast YtgacodhpniehiaaW.PrintMore
attribute [local go_sem] max2_int min2_int max_two min_two max_three min_three max_four min_four cell_some cell_same
set_option linter.unusedVariables false
set_option linter.unusedSimpArgs false

def lw_grows.f (k : Nat) (l0 : List Int) (a1_0 : Int) (a1_1 : Int) (a1_2 : Int) (a1_3 : Int) (l1_4 : List (S56)) : Option (Bool) := (boxpack_Table.f k a1_0 a1_1 a1_2 a1_3 l1_4).bind fun bt451 => (if bt451.2 = 0 then (if (bt451.1.length : Int) > 0 then (if (l0.length : Int) > 0 then (if 0 ≤ (wrap64 ((bt451.1.length : Int) - 1)) then (if (wrap64 ((bt451.1.length : Int) - 1)) < (bt451.1.length : Int) then (if 0 ≤ (wrap64 ((l0.length : Int) - 1)) then (if (wrap64 ((l0.length : Int) - 1)) < (l0.length : Int) then (some (decide ((rd bt451.1 (wrap64 ((bt451.1.length : Int) - 1))) ≥ (rd l0 (wrap64 ((l0.length : Int) - 1)))))) else (none)) else (none)) else (none)) else (none)) else (some false)) else (some false)) else (some true))
theorem lw_grows.mono : ∀ a0 a1 a2 a3 a4 a5 k, LeO (lw_grows.f k a0 a1 a2 a3 a4 a5) (lw_grows.f (k + 1) a0 a1 a2 a3 a4 a5) := by
  intro a0 a1 a2 a3 a4 a5 k
  unfold lw_grows.f
  repeat' first
      | (with_reducible exact boxpack_Table.mono _ _ _ _ _ _)
      | (with_reducible exact LeO.refl _)
      | (with_reducible refine LeO.bind ?_ (fun _ => ?_))
      
set_option maxHeartbeats 8000000 in
set_option maxRecDepth 100000 in
theorem lw_grows.calls (k : Nat) (A0 : Option Addr) (c0 : Nat) (l0 : List Int) (a1_0 : Int) (a1_1 : Int) (a1_2 : Int) (a1_3 : Int) (A1_4 : Option Addr) (c1_4 : Nat) (l1_4 : List (S56)) (r : Bool) (w : World) (hr0 : Kd.C (Kd.int .i64) w A0 l0.length l0) (hc0 : l0.length ≤ c0) (hr1_4 : Kd.C k56 w A1_4 l1_4.length l1_4) (hc1_4 : l1_4.length ≤ c1_4) (h : lw_grows.f k l0 a1_0 a1_1 a1_2 a1_3 l1_4 = some r) :
    Calls Try.prog 26 #[.slice A0 l0.length c0, .agg #[.int .i64 a1_0, .int .i64 a1_1, .int .i64 a1_2, .int .i64 a1_3, .slice A1_4 l1_4.length c1_4]] w fun e w' => e = .returned (.bool r) ∧ Below w.heap.size w w' := by
  have hu33 := Try.underlying33
  have HR0 := ak hr0
  have HC0 := ak hc0
  clear hr0 hc0
  have HR1_4 := ak hr1_4
  have HC1_4 := ak hc1_4
  clear hr1_4 hc1_4
  have HB := ak (Below.refl w.heap.size w)
  have H : ((boxpack_Table.f k a1_0 a1_1 a1_2 a1_3 l1_4).bind fun bt451 => (if bt451.2 = 0 then (if (bt451.1.length : Int) > 0 then (if (l0.length : Int) > 0 then (if 0 ≤ (wrap64 ((bt451.1.length : Int) - 1)) then (if (wrap64 ((bt451.1.length : Int) - 1)) < (bt451.1.length : Int) then (if 0 ≤ (wrap64 ((l0.length : Int) - 1)) then (if (wrap64 ((l0.length : Int) - 1)) < (l0.length : Int) then (some (decide ((rd bt451.1 (wrap64 ((bt451.1.length : Int) - 1))) ≥ (rd l0 (wrap64 ((l0.length : Int) - 1)))))) else (none)) else (none)) else (none)) else (none)) else (some false)) else (some false)) else (some true))) = some r := h
  clear h
  replace H := Option.bind_eq_some_iff.mp H
  obtain ⟨⟨t451, t454⟩, A30, H⟩ := H
  replace H : (if t454 = 0 then (if (t451.length : Int) > 0 then (if (l0.length : Int) > 0 then (if 0 ≤ (wrap64 ((t451.length : Int) - 1)) then (if (wrap64 ((t451.length : Int) - 1)) < (t451.length : Int) then (if 0 ≤ (wrap64 ((l0.length : Int) - 1)) then (if (wrap64 ((l0.length : Int) - 1)) < (l0.length : Int) then (some (decide ((rd t451 (wrap64 ((t451.length : Int) - 1))) ≥ (rd l0 (wrap64 ((l0.length : Int) - 1)))))) else (none)) else (none)) else (none)) else (none)) else (some false)) else (some false)) else (some true)) = some r := H
  have A3 := ak A30
  clear A30
  by_cases c4 : t454 = 0
  · rw [if_pos c4] at H
    have c4b0 : (t454 == 0) = true := beq_iff_eq.mpr c4
    have c4b1 : (t454 != 0) = false := bne_eq_false_iff_eq.mpr c4
    clear c4
    by_cases c5 : (t451.length : Int) > 0
    · rw [if_pos c5] at H
      have c5b0 : decide (0 < (t451.length : Int)) = true := decide_eq_true c5
      have c5b1 : decide (0 < t451.length) = true := decide_eq_true (by omega)
      clear c5
      by_cases c6 : (l0.length : Int) > 0
      · rw [if_pos c6] at H
        have c6b0 : decide (0 < (l0.length : Int)) = true := decide_eq_true c6
        have c6b1 : decide (0 < l0.length) = true := decide_eq_true (by omega)
        clear c6
        obtain ⟨ji7, hji7⟩ : ∃ j_ : Int, (wrap64 ((t451.length : Int) - 1)) = j_ := ⟨_, rfl⟩
        replace H : (if 0 ≤ (ji7) then (if (ji7) < (t451.length : Int) then (if 0 ≤ (wrap64 ((l0.length : Int) - 1)) then (if (wrap64 ((l0.length : Int) - 1)) < (l0.length : Int) then (some (decide ((rd t451 (ji7)) ≥ (rd l0 (wrap64 ((l0.length : Int) - 1)))))) else (none)) else (none)) else (none)) else (none)) = some r := by (rw [hji7] at H; exact H)
        have hji7w : (IntKind.i64.wrap ((t451.length : Int) - 1)) = ji7 := (i64_w _).trans hji7
        by_cases c8 : 0 ≤ (ji7)
        · rw [if_pos c8] at H
          have c8b0 : decide (0 ≤ (ji7)) = true := decide_eq_true c8
          clear c8
          by_cases c9 : (ji7) < (t451.length : Int)
          · rw [if_pos c9] at H
            have c9b0 : decide ((ji7) < (t451.length : Int)) = true := decide_eq_true c9
            clear c9
            obtain ⟨ji10, hji10⟩ : ∃ j_ : Int, (wrap64 ((l0.length : Int) - 1)) = j_ := ⟨_, rfl⟩
            replace H : (if 0 ≤ (ji10) then (if (ji10) < (l0.length : Int) then (some (decide ((rd t451 (ji7)) ≥ (rd l0 (ji10))))) else (none)) else (none)) = some r := by (rw [hji10] at H; exact H)
            have hji10w : (IntKind.i64.wrap ((l0.length : Int) - 1)) = ji10 := (i64_w _).trans hji10
            by_cases c11 : 0 ≤ (ji10)
            · rw [if_pos c11] at H
              have c11b0 : decide (0 ≤ (ji10)) = true := decide_eq_true c11
              clear c11
              by_cases c12 : (ji10) < (l0.length : Int)
              · rw [if_pos c12] at H
                have c12b0 : decide ((ji10) < (l0.length : Int)) = true := decide_eq_true c12
                clear c12
                obtain rfl := Option.some.inj H
                go_enter Try.func26, Try.ntmps26
                iterate 2 ((try go_quiet (first | (go_at_call 20; (with_reducible refine (boxpack_Table.calls k a1_0 a1_1 a1_2 a1_3 _ _ l1_4 t451 t454 _ ?side1 ?side2 A3.1).mono ?_); (case side1 => repeat (first | exact (Kd.C_below HR1_4.1 HB.1) | (with_reducible refine Kd.C_alloc ?_ _) | (with_reducible refine Kd.C_drewN ?_ _) | (with_reducible refine Kd.C_drew ?_))); (case side2 => exact HC1_4.1); rintro e w15 ⟨v452, rfl, ho0, hb⟩; have n0_ := ak (Kd.R_lower ho0 (below_size (by repeat (first | (with_reducible first | exact HB.1 | apply below_alloc | apply pw_below_drewN | apply below_drew1 | refine below_set ?_ GE450.1) | exact HB.1)))); have n1_ := ak (blk_below (g := gb450) (o := .cells #[.int .i64 a1_0, .int .i64 a1_1, .int .i64 a1_2, .int .i64 a1_3, .slice A1_4 l1_4.length c1_4] 33 (0, 0)) (by (with_reducible repeat (first | refine blk_drewN ?_ _ | refine blk_drew ?_ | refine blk_alloc ?_ _)); exact BK450.1) hb); have n2_ := ak (below_step (by repeat (first | (with_reducible first | exact HB.1 | apply below_alloc | apply pw_below_drewN | apply below_drew1 | refine below_set ?_ GE450.1) | exact HB.1)) hb); clear BK450; clear HB; have HO453 := n0_; have BK450 := n1_; have HB := n2_; clear n0_ n1_ n2_; (try clear hb); (try clear hb2); (try clear hk); (try clear hi); (try clear ho0); obtain ⟨Ao16, co16, eo16⟩ := Kd.R_slice HO453.1; subst eo16; have p455 : 0 ≤ ((ji7) : Int) := of_decide_eq_true (by first | (with_reducible assumption) | assumption); have q455 : (ji7) < (t451.length : Int) := of_decide_eq_true (by first | (with_reducible assumption) | assumption); obtain ⟨ad455, e455, hx455_0⟩ := Kd.at_int (Kd.R_reads' HO453.1).2.2 (ji7) p455 q455; cases e455; replace p455 := eq_true p455; replace q455 := eq_true q455; have p456 : 0 ≤ ((ji10) : Int) := of_decide_eq_true (by first | (with_reducible assumption) | assumption); have q456 : (ji10) < (l0.length : Int) := of_decide_eq_true (by first | (with_reducible assumption) | assumption); obtain ⟨ad456, e456, hx456_0⟩ := Kd.at_int HR0.1 (ji10) p456 q456; cases e456; replace hx456_0 := (hc_ HB hx456_0).trans hx456_0; replace p456 := eq_true p456; replace q456 := eq_true q456))); go_wp2_with (first | ((with_reducible refine gate_dst (N := 3) rfl ?_); refine box_event ?hg (N := 3) ?hd (cs := #[.int .i64 a1_0, .int .i64 a1_1, .int .i64 a1_2, .int .i64 a1_3, .slice A1_4 l1_4.length c1_4]) (t := 33) ?hr ?_; (case hd => rfl); (case hg => rfl); (case hr => (go_simp; done)); intro gb450 hg w13 hbox hb; have n0_ := ak (below_step HB.1 hb); have n1_ := ak (hbox); have n2_ := ak ((by rw [hg]; exact (below_size HB.1) : w.heap.size ≤ gb450)); have n3_ := ak ((by rw [hg]; exact (below_size HB.1) : w.heap.size ≤ gb450)); clear HB; have HB := n0_; have BK450 := n1_; have GW450 := n2_; have GE450 := n3_; clear n0_ n1_ n2_ n3_; clear hb hbox hg; have hcz14_0 : w13.cell? ⟨gb450, 0, none⟩ = some (.int .i64 a1_0) := (blk_cell BK450.1 0).trans rfl; have hcz14_1 : w13.cell? ⟨gb450, 1, none⟩ = some (.int .i64 a1_1) := (blk_cell BK450.1 1).trans rfl; have hcz14_2 : w13.cell? ⟨gb450, 2, none⟩ = some (.int .i64 a1_2) := (blk_cell BK450.1 2).trans rfl; have hcz14_3 : w13.cell? ⟨gb450, 3, none⟩ = some (.int .i64 a1_3) := (blk_cell BK450.1 3).trans rfl; have hcz14_4 : w13.cell? ⟨gb450, 4, none⟩ = some (.slice A1_4 l1_4.length c1_4) := (blk_cell BK450.1 4).trans rfl; have hfz14_0 := blk_frozen BK450.1 0; have hfz14_1 := blk_frozen BK450.1 1; have hfz14_2 := blk_frozen BK450.1 2; have hfz14_3 := blk_frozen BK450.1 3; have hfz14_4 := blk_frozen BK450.1 4) | (go_at_call 20; (with_reducible refine (boxpack_Table.calls k a1_0 a1_1 a1_2 a1_3 _ _ l1_4 t451 t454 _ ?side1 ?side2 A3.1).mono ?_); (case side1 => exact (Kd.C_below HR1_4.1 HB.1)); (case side2 => exact HC1_4.1); rintro e w15 ⟨v452, rfl, ho0, hb⟩; have n0_ := ak (Kd.R_lower ho0 (below_size HB.1)); have n1_ := ak (blk_below (g := gb450) (o := .cells #[.int .i64 a1_0, .int .i64 a1_1, .int .i64 a1_2, .int .i64 a1_3, .slice A1_4 l1_4.length c1_4] 33 (0, 0)) (by exact BK450.1) hb); have n2_ := ak (below_step HB.1 hb); clear BK450; clear HB; have HO453 := n0_; have BK450 := n1_; have HB := n2_; clear n0_ n1_ n2_; (try clear hb); (try clear ho0); obtain ⟨Ao16, co16, eo16⟩ := Kd.R_slice HO453.1; subst eo16; have p455 : 0 ≤ ((ji7) : Int) := od_; have q455 : (ji7) < (t451.length : Int) := od_; obtain ⟨ad455, e455, hx455_0⟩ := Kd.at_int (Kd.R_reads' HO453.1).2.2 (ji7) p455 q455; cases e455; replace p455 := eq_true p455; replace q455 := eq_true q455; have p456 : 0 ≤ ((ji10) : Int) := od_; have q456 : (ji10) < (l0.length : Int) := od_; obtain ⟨ad456, e456, hx456_0⟩ := Kd.at_int HR0.1 (ji10) p456 q456; cases e456; replace hx456_0 := (hc_ HB hx456_0).trans hx456_0; replace p456 := eq_true p456; replace q456 := eq_true q456)))
                go_ret
                exact ⟨by rfl, by repeat (with_reducible first | exact HB.1 | apply pw_below_drewN )⟩
              rw [if_neg c12] at H
              exact absurd H (by simp)
            rw [if_neg c11] at H
            exact absurd H (by simp)
          rw [if_neg c9] at H
          exact absurd H (by simp)
        rw [if_neg c8] at H
        exact absurd H (by simp)
      rw [if_neg c6] at H
      have c6b0 : decide (0 < (l0.length : Int)) = false := decide_eq_false c6
      have c6b1 : decide (0 < l0.length) = false := decide_eq_false (by omega)
      clear c6
      obtain rfl := Option.some.inj H
      go_enter Try.func26, Try.ntmps26
      iterate 2 ((try go_quiet (first | (go_at_call 20; (with_reducible refine (boxpack_Table.calls k a1_0 a1_1 a1_2 a1_3 _ _ l1_4 t451 t454 _ ?side1 ?side2 A3.1).mono ?_); (case side1 => repeat (first | exact (Kd.C_below HR1_4.1 HB.1) | (with_reducible refine Kd.C_alloc ?_ _) | (with_reducible refine Kd.C_drewN ?_ _) | (with_reducible refine Kd.C_drew ?_))); (case side2 => exact HC1_4.1); rintro e w19 ⟨v452, rfl, ho0, hb⟩; have n0_ := ak (Kd.R_lower ho0 (below_size (by repeat (first | (with_reducible first | exact HB.1 | apply below_alloc | apply pw_below_drewN | apply below_drew1 | refine below_set ?_ GE450.1) | exact HB.1)))); have n1_ := ak (blk_below (g := gb450) (o := .cells #[.int .i64 a1_0, .int .i64 a1_1, .int .i64 a1_2, .int .i64 a1_3, .slice A1_4 l1_4.length c1_4] 33 (0, 0)) (by (with_reducible repeat (first | refine blk_drewN ?_ _ | refine blk_drew ?_ | refine blk_alloc ?_ _)); exact BK450.1) hb); have n2_ := ak (below_step (by repeat (first | (with_reducible first | exact HB.1 | apply below_alloc | apply pw_below_drewN | apply below_drew1 | refine below_set ?_ GE450.1) | exact HB.1)) hb); clear BK450; clear HB; have HO453 := n0_; have BK450 := n1_; have HB := n2_; clear n0_ n1_ n2_; (try clear hb); (try clear hb2); (try clear hk); (try clear hi); (try clear ho0); obtain ⟨Ao20, co20, eo20⟩ := Kd.R_slice HO453.1; subst eo20))); go_wp2_with (first | ((with_reducible refine gate_dst (N := 3) rfl ?_); refine box_event ?hg (N := 3) ?hd (cs := #[.int .i64 a1_0, .int .i64 a1_1, .int .i64 a1_2, .int .i64 a1_3, .slice A1_4 l1_4.length c1_4]) (t := 33) ?hr ?_; (case hd => rfl); (case hg => rfl); (case hr => (go_simp; done)); intro gb450 hg w17 hbox hb; have n0_ := ak (below_step HB.1 hb); have n1_ := ak (hbox); have n2_ := ak ((by rw [hg]; exact (below_size HB.1) : w.heap.size ≤ gb450)); have n3_ := ak ((by rw [hg]; exact (below_size HB.1) : w.heap.size ≤ gb450)); clear HB; have HB := n0_; have BK450 := n1_; have GW450 := n2_; have GE450 := n3_; clear n0_ n1_ n2_ n3_; clear hb hbox hg; have hcz18_0 : w17.cell? ⟨gb450, 0, none⟩ = some (.int .i64 a1_0) := (blk_cell BK450.1 0).trans rfl; have hcz18_1 : w17.cell? ⟨gb450, 1, none⟩ = some (.int .i64 a1_1) := (blk_cell BK450.1 1).trans rfl; have hcz18_2 : w17.cell? ⟨gb450, 2, none⟩ = some (.int .i64 a1_2) := (blk_cell BK450.1 2).trans rfl; have hcz18_3 : w17.cell? ⟨gb450, 3, none⟩ = some (.int .i64 a1_3) := (blk_cell BK450.1 3).trans rfl; have hcz18_4 : w17.cell? ⟨gb450, 4, none⟩ = some (.slice A1_4 l1_4.length c1_4) := (blk_cell BK450.1 4).trans rfl; have hfz18_0 := blk_frozen BK450.1 0; have hfz18_1 := blk_frozen BK450.1 1; have hfz18_2 := blk_frozen BK450.1 2; have hfz18_3 := blk_frozen BK450.1 3; have hfz18_4 := blk_frozen BK450.1 4) | (go_at_call 20; (with_reducible refine (boxpack_Table.calls k a1_0 a1_1 a1_2 a1_3 _ _ l1_4 t451 t454 _ ?side1 ?side2 A3.1).mono ?_); (case side1 => exact (Kd.C_below HR1_4.1 HB.1)); (case side2 => exact HC1_4.1); rintro e w19 ⟨v452, rfl, ho0, hb⟩; have n0_ := ak (Kd.R_lower ho0 (below_size HB.1)); have n1_ := ak (blk_below (g := gb450) (o := .cells #[.int .i64 a1_0, .int .i64 a1_1, .int .i64 a1_2, .int .i64 a1_3, .slice A1_4 l1_4.length c1_4] 33 (0, 0)) (by exact BK450.1) hb); have n2_ := ak (below_step HB.1 hb); clear BK450; clear HB; have HO453 := n0_; have BK450 := n1_; have HB := n2_; clear n0_ n1_ n2_; (try clear hb); (try clear ho0); obtain ⟨Ao20, co20, eo20⟩ := Kd.R_slice HO453.1; subst eo20)))
      go_ret
      exact ⟨by rfl, by repeat (with_reducible first | exact HB.1 | apply pw_below_drewN )⟩
    rw [if_neg c5] at H
    have c5b0 : decide (0 < (t451.length : Int)) = false := decide_eq_false c5
    have c5b1 : decide (0 < t451.length) = false := decide_eq_false (by omega)
    clear c5
    obtain rfl := Option.some.inj H
    go_enter Try.func26, Try.ntmps26
    iterate 2 ((try go_quiet (first | (go_at_call 20; (with_reducible refine (boxpack_Table.calls k a1_0 a1_1 a1_2 a1_3 _ _ l1_4 t451 t454 _ ?side1 ?side2 A3.1).mono ?_); (case side1 => repeat (first | exact (Kd.C_below HR1_4.1 HB.1) | (with_reducible refine Kd.C_alloc ?_ _) | (with_reducible refine Kd.C_drewN ?_ _) | (with_reducible refine Kd.C_drew ?_))); (case side2 => exact HC1_4.1); rintro e w23 ⟨v452, rfl, ho0, hb⟩; have n0_ := ak (Kd.R_lower ho0 (below_size (by repeat (first | (with_reducible first | exact HB.1 | apply below_alloc | apply pw_below_drewN | apply below_drew1 | refine below_set ?_ GE450.1) | exact HB.1)))); have n1_ := ak (blk_below (g := gb450) (o := .cells #[.int .i64 a1_0, .int .i64 a1_1, .int .i64 a1_2, .int .i64 a1_3, .slice A1_4 l1_4.length c1_4] 33 (0, 0)) (by (with_reducible repeat (first | refine blk_drewN ?_ _ | refine blk_drew ?_ | refine blk_alloc ?_ _)); exact BK450.1) hb); have n2_ := ak (below_step (by repeat (first | (with_reducible first | exact HB.1 | apply below_alloc | apply pw_below_drewN | apply below_drew1 | refine below_set ?_ GE450.1) | exact HB.1)) hb); clear BK450; clear HB; have HO453 := n0_; have BK450 := n1_; have HB := n2_; clear n0_ n1_ n2_; (try clear hb); (try clear hb2); (try clear hk); (try clear hi); (try clear ho0); obtain ⟨Ao24, co24, eo24⟩ := Kd.R_slice HO453.1; subst eo24))); go_wp2_with (first | ((with_reducible refine gate_dst (N := 3) rfl ?_); refine box_event ?hg (N := 3) ?hd (cs := #[.int .i64 a1_0, .int .i64 a1_1, .int .i64 a1_2, .int .i64 a1_3, .slice A1_4 l1_4.length c1_4]) (t := 33) ?hr ?_; (case hd => rfl); (case hg => rfl); (case hr => (go_simp; done)); intro gb450 hg w21 hbox hb; have n0_ := ak (below_step HB.1 hb); have n1_ := ak (hbox); have n2_ := ak ((by rw [hg]; exact (below_size HB.1) : w.heap.size ≤ gb450)); have n3_ := ak ((by rw [hg]; exact (below_size HB.1) : w.heap.size ≤ gb450)); clear HB; have HB := n0_; have BK450 := n1_; have GW450 := n2_; have GE450 := n3_; clear n0_ n1_ n2_ n3_; clear hb hbox hg; have hcz22_0 : w21.cell? ⟨gb450, 0, none⟩ = some (.int .i64 a1_0) := (blk_cell BK450.1 0).trans rfl; have hcz22_1 : w21.cell? ⟨gb450, 1, none⟩ = some (.int .i64 a1_1) := (blk_cell BK450.1 1).trans rfl; have hcz22_2 : w21.cell? ⟨gb450, 2, none⟩ = some (.int .i64 a1_2) := (blk_cell BK450.1 2).trans rfl; have hcz22_3 : w21.cell? ⟨gb450, 3, none⟩ = some (.int .i64 a1_3) := (blk_cell BK450.1 3).trans rfl; have hcz22_4 : w21.cell? ⟨gb450, 4, none⟩ = some (.slice A1_4 l1_4.length c1_4) := (blk_cell BK450.1 4).trans rfl; have hfz22_0 := blk_frozen BK450.1 0; have hfz22_1 := blk_frozen BK450.1 1; have hfz22_2 := blk_frozen BK450.1 2; have hfz22_3 := blk_frozen BK450.1 3; have hfz22_4 := blk_frozen BK450.1 4) | (go_at_call 20; (with_reducible refine (boxpack_Table.calls k a1_0 a1_1 a1_2 a1_3 _ _ l1_4 t451 t454 _ ?side1 ?side2 A3.1).mono ?_); (case side1 => exact (Kd.C_below HR1_4.1 HB.1)); (case side2 => exact HC1_4.1); rintro e w23 ⟨v452, rfl, ho0, hb⟩; have n0_ := ak (Kd.R_lower ho0 (below_size HB.1)); have n1_ := ak (blk_below (g := gb450) (o := .cells #[.int .i64 a1_0, .int .i64 a1_1, .int .i64 a1_2, .int .i64 a1_3, .slice A1_4 l1_4.length c1_4] 33 (0, 0)) (by exact BK450.1) hb); have n2_ := ak (below_step HB.1 hb); clear BK450; clear HB; have HO453 := n0_; have BK450 := n1_; have HB := n2_; clear n0_ n1_ n2_; (try clear hb); (try clear ho0); obtain ⟨Ao24, co24, eo24⟩ := Kd.R_slice HO453.1; subst eo24)))
    go_ret
    exact ⟨by rfl, by repeat (with_reducible first | exact HB.1 | apply pw_below_drewN )⟩
  rw [if_neg c4] at H
  have c4b0 : (t454 == 0) = false := beq_eq_false_iff_ne.mpr c4
  have c4b1 : (t454 != 0) = true := bne_iff_ne.mpr c4
  obtain rfl := Option.some.inj H
  go_enter Try.func26, Try.ntmps26
  iterate 2 (go_wp2_with (first | ((with_reducible refine gate_dst (N := 3) rfl ?_); refine box_event ?hg (N := 3) ?hd (cs := #[.int .i64 a1_0, .int .i64 a1_1, .int .i64 a1_2, .int .i64 a1_3, .slice A1_4 l1_4.length c1_4]) (t := 33) ?hr ?_; (case hd => rfl); (case hg => rfl); (case hr => (go_simp; done)); intro gb450 hg w25 hbox hb; have n0_ := ak (below_step HB.1 hb); have n1_ := ak (hbox); have n2_ := ak ((by rw [hg]; exact (below_size HB.1) : w.heap.size ≤ gb450)); have n3_ := ak ((by rw [hg]; exact (below_size HB.1) : w.heap.size ≤ gb450)); clear HB; have HB := n0_; have BK450 := n1_; have GW450 := n2_; have GE450 := n3_; clear n0_ n1_ n2_ n3_; clear hb hbox hg; have hcz26_0 : w25.cell? ⟨gb450, 0, none⟩ = some (.int .i64 a1_0) := (blk_cell BK450.1 0).trans rfl; have hcz26_1 : w25.cell? ⟨gb450, 1, none⟩ = some (.int .i64 a1_1) := (blk_cell BK450.1 1).trans rfl; have hcz26_2 : w25.cell? ⟨gb450, 2, none⟩ = some (.int .i64 a1_2) := (blk_cell BK450.1 2).trans rfl; have hcz26_3 : w25.cell? ⟨gb450, 3, none⟩ = some (.int .i64 a1_3) := (blk_cell BK450.1 3).trans rfl; have hcz26_4 : w25.cell? ⟨gb450, 4, none⟩ = some (.slice A1_4 l1_4.length c1_4) := (blk_cell BK450.1 4).trans rfl; have hfz26_0 := blk_frozen BK450.1 0; have hfz26_1 := blk_frozen BK450.1 1; have hfz26_2 := blk_frozen BK450.1 2; have hfz26_3 := blk_frozen BK450.1 3; have hfz26_4 := blk_frozen BK450.1 4) | (go_at_call 20; (with_reducible refine (boxpack_Table.calls k a1_0 a1_1 a1_2 a1_3 _ _ l1_4 t451 t454 _ ?side1 ?side2 A3.1).mono ?_); (case side1 => exact (Kd.C_below HR1_4.1 HB.1)); (case side2 => exact HC1_4.1); rintro e w27 ⟨v452, rfl, ho0, hb⟩; have n0_ := ak (Kd.R_lower ho0 (below_size HB.1)); have n1_ := ak (blk_below (g := gb450) (o := .cells #[.int .i64 a1_0, .int .i64 a1_1, .int .i64 a1_2, .int .i64 a1_3, .slice A1_4 l1_4.length c1_4] 33 (0, 0)) (by exact BK450.1) hb); have n2_ := ak (below_step HB.1 hb); clear BK450; clear HB; have HO453 := n0_; have BK450 := n1_; have HB := n2_; clear n0_ n1_ n2_; (try clear hb); (try clear ho0))))
  go_ret
  exact ⟨by rfl, by repeat (with_reducible exact HB.1)⟩

end Go.Proofs.Ytgacodhpniehiaa.XA
