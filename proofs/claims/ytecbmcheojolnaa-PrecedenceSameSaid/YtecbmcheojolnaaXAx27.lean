-- written by xprint.py, this project's own program (wip/), over the words of print.sh
import Derived.Test.YtecbmcheojolnaaXAx0
import Derived.Test.YtecbmcheojolnaaXAx25
import Derived.Test.YtecbmcheojolnaaXAx26
namespace Go.Proofs.Ytecbmcheojolnaa.XA
open Go.RowKit Go.Proofs.Ytecbmcheojolnaa.Opens Go.Proofs.YtecbmcheojolnaaW.PrintWords Go.Proofs.YtecbmcheojolnaaW.PrintLast Go.Proofs.YtecbmcheojolnaaW.PrintMore
attribute [local go_sem] max2_int min2_int max_two min_two max_three min_three max_four min_four cell_some cell_same   -- for this text's walks alone
set_option linter.unusedVariables false
set_option linter.unusedSimpArgs false

/-! ### rf_Order: function 19 -/
mutual
def rf_Order.l0 : Nat → List Int → Int → Int → List (S47) → Option (List Int)
  | 0, _, _, _, _ => none
  | k + 1, x3, x4, x339000, x339001 => if x4 < x339000 then (rf_Order.l1 k x3 x4 0 x339000 x339001) else (some x3)
def rf_Order.l1 : Nat → List Int → Int → Int → Int → List (S47) → Option (List Int)
  | 0, _, _, _, _, _ => none
  | k + 1, x3, x4, x5, x339000, x339001 => if x5 < x339000 then ((rf_has.f k x3 x5).bind fun t342 => (if t342 = true then (rf_Order.l1 k x3 x4 (wrap64 (x5 + 1)) x339000 x339001) else ((rf_ready.f k x339000 x339001 x3 x5).bind fun t343 => (if t343 = true then (if x3.length < 17592186044416 then (rf_Order.l0 k (x3 ++ [x5]) (wrap64 (x4 + 1)) x339000 x339001) else (none)) else (rf_Order.l1 k x3 x4 (wrap64 (x5 + 1)) x339000 x339001))))) else (rf_Order.l0 k x3 (wrap64 (x4 + 1)) x339000 x339001)
end
def rf_Order.f (k : Nat) (a0_0 : Int) (l0_1 : List (S47)) : Option (List Int) := rf_Order.l0 k (([] : List Int)) 0 a0_0 l0_1
theorem rf_Order.mono_l : ∀ k, (∀ y0 y1 y2 y3, LeO (rf_Order.l0 k y0 y1 y2 y3) (rf_Order.l0 (k + 1) y0 y1 y2 y3)) ∧ (∀ y0 y1 y2 y3 y4, LeO (rf_Order.l1 k y0 y1 y2 y3 y4) (rf_Order.l1 (k + 1) y0 y1 y2 y3 y4))
  | 0 => ⟨fun _ _ _ _ r h => by simp [rf_Order.l0] at h, fun _ _ _ _ _ r h => by simp [rf_Order.l1] at h⟩
  | k + 1 => by
    obtain ⟨ih0, ih1⟩ := rf_Order.mono_l k
    refine ⟨?_, ?_⟩
    intro y0 y1 y2 y3
    unfold rf_Order.l0
    repeat' first
    | (with_reducible exact ih1 _ _ _ _ _)
    | (with_reducible exact LeO.refl _)
    | (with_reducible refine LeO.ite ?_ ?_)
      
    intro y0 y1 y2 y3 y4
    unfold rf_Order.l1
    repeat' first
    | (with_reducible exact ih0 _ _ _ _)
    | (with_reducible exact ih1 _ _ _ _ _)
    | (with_reducible exact rf_has.mono _ _ _)
    | (with_reducible exact rf_ready.mono _ _ _ _ _)
    | (with_reducible exact LeO.refl _)
    | (with_reducible refine LeO.ite ?_ ?_)
    | (with_reducible refine LeO.bind ?_ (fun _ => ?_))
      
theorem rf_Order.mono : ∀ a0 a1 k, LeO (rf_Order.f k a0 a1) (rf_Order.f (k + 1) a0 a1) := by
  intro a0 a1 k
  obtain ⟨ih0, ih1⟩ := rf_Order.mono_l k
  unfold rf_Order.f
  repeat' (with_reducible exact ih0 _ _ _ _)
set_option maxHeartbeats 8000000 in
set_option maxRecDepth 100000 in
theorem rf_Order.calls (k : Nat) (a0_0 : Int) (A0_1 : Option Addr) (c0_1 : Nat) (l0_1 : List (S47)) (r : List Int) (w : World) (hr0_1 : Kd.C k47 w A0_1 l0_1.length l0_1) (hc0_1 : l0_1.length ≤ c0_1) (h : rf_Order.f k a0_0 l0_1 = some r) :
    Calls Try.prog 19 #[.agg #[.int .i64 a0_0, .slice A0_1 l0_1.length c0_1]] w fun e w' => ∃ v0_ : Value, e = .returned (v0_) ∧ Kd.R (Kd.int .i64) 3 w' w.heap.size (fun _ => True) v0_ r ∧ Below w.heap.size w w' := by
  have hu24 := Try.underlying24
  have HR0_1 := ak hr0_1
  have HC0_1 := ak hc0_1
  clear hr0_1 hc0_1
  have HB := ak (Below.refl w.heap.size w)
  have H : (rf_Order.l0 k (([] : List Int)) 0 a0_0 l0_1) = some r := h
  clear h
  obtain ⟨y339, hy339⟩ : ∃ y_ : List Int, y_ = (([] : List Int)) := ⟨_, rfl⟩
  replace H : (rf_Order.l0 k y339 0 a0_0 l0_1) = some r := by (rw [hy339]; with_reducible exact H)
  have Ny339 := ak hy339
  clear hy339
  have H' := ak H
  clear H
  go_enter Try.func19, Try.ntmps19
  go_wp2_with (first | ((with_reducible refine gate_dst (N := 1) rfl ?_); refine box_event ?hg (N := 1) ?hd (cs := #[.int .i64 a0_0, .slice A0_1 l0_1.length c0_1]) (t := 24) ?hr ?_; (case hd => rfl); (case hg => rfl); (case hr => (go_simp; done)); intro gb338 hg w2 hbox hb; have n0_ := ak (below_step HB.1 hb); have n1_ := ak (hbox); have n2_ := ak ((by rw [hg]; exact (below_size HB.1) : w.heap.size ≤ gb338)); have n3_ := ak ((by rw [hg]; exact (below_size HB.1) : w.heap.size ≤ gb338)); clear HB; have HB := n0_; have BK338 := n1_; have GW338 := n2_; have GE338 := n3_; clear n0_ n1_ n2_ n3_; clear hb hbox hg) | ((with_reducible refine gate_dst (N := 6) rfl ?_); refine Kd.R_lit (Kd.int .i64) _ 3 ?hg (N := 6) ?hd (xs := ([] : List Int)) (inner := []) (ok := fun _ => True) (okp := fun _ => True) ?hr ?hp (fun _ hk => hk) trivial (Below.refl _ _) (Nat.le_refl _) (by simp) ?_; (case hd => rfl); (case hg => rfl); (case hr => (go_simp; done)); (case hp => exact (Reps.none _ _)); intro v340 w3 ho4 hb hg_ hnew_; clear hg_ hnew_; (rw [← Ny339.1] at ho4); have n0_ := ak (Kd.R_lower ho4 (below_size HB.1)); have n1_ := ak (blk_below (g := gb338) (o := .cells #[.int .i64 a0_0, .slice A0_1 l0_1.length c0_1] 24 (0, 0)) (by exact BK338.1) hb); have n2_ := ak (below_step HB.1 hb); clear BK338; clear HB; have HO341 := n0_; have BK338 := n1_; have HB := n2_; clear n0_ n1_ n2_; clear hb ho4))
  go_loopg [3, 4] k (fun kq v3 v4 w' => ∃ (x3_1 : List Int) (x4_1 : Int), v4 = .int .i64 x4_1 ∧ Aside0 (rf_Order.l0 kq x3_1 x4_1 a0_0 l0_1 = some r) ∧ Aside0 (kq ≤ k) ∧ Aside0 (Kd.R (Kd.int .i64) 3 w' w.heap.size (fun _ => True) v3 x3_1) ∧ Aside0 (w'.heap[gb338]? = some (.cells #[.int .i64 a0_0, (.slice A0_1 l0_1.length c0_1)] 24 (0, 0))) ∧ Aside0 (Below w.heap.size w w'))
  case atStart => exact ⟨(y339), (0), (by rfl), H', ⟨Nat.le_refl _⟩, ⟨by exact HO341.1⟩, ⟨by exact BK338.1⟩, ⟨by repeat (with_reducible exact HB.1)⟩⟩
  clear H'
  obtain ⟨x3_1, x4_1, rfl, HA, HK1, HO_3, BK338, HB⟩ := hrel
  cases gk with
  | zero => exact absurd HA.1 (by simp [rf_Order.l0])
  | succ k1 =>
    have H := HA.1
    clear HA
    simp only [rf_Order.l0] at H
    by_cases c5 : x4_1 < a0_0
    · rw [if_pos c5] at H
      have c5b0 : decide (x4_1 < a0_0) = true := decide_eq_true c5
      clear c5
      have H' := ak H
      clear H
      have hcz6_0 : wr.cell? ⟨gb338, 0, none⟩ = some (.int .i64 a0_0) := (blk_cell BK338.1 0).trans rfl
      have hcz6_1 : wr.cell? ⟨gb338, 1, none⟩ = some (.slice A0_1 l0_1.length c0_1) := (blk_cell BK338.1 1).trans rfl
      have hfz6_0 := blk_frozen BK338.1 0
      have hfz6_1 := blk_frozen BK338.1 1
      go_wp2
      go_loopg [3, 5] k1 (fun kq v3 v5 w' => ∃ (x3_2 : List Int) (x5_2 : Int), v5 = .int .i64 x5_2 ∧ Aside0 (rf_Order.l1 kq x3_2 x4_1 x5_2 a0_0 l0_1 = some r) ∧ Aside0 (kq ≤ k1) ∧ Aside0 (Kd.R (Kd.int .i64) 3 w' w.heap.size (fun _ => True) v3 x3_2) ∧ Aside0 (w'.heap[gb338]? = some (.cells #[.int .i64 a0_0, (.slice A0_1 l0_1.length c0_1)] 24 (0, 0))) ∧ Aside0 (Below w.heap.size w w'))
      case atStart => exact ⟨(x3_1), (0), (by rfl), H', ⟨Nat.le_refl _⟩, ⟨by exact HO_3.1⟩, ⟨by exact BK338.1⟩, ⟨by repeat (with_reducible exact HB.1)⟩⟩
      clear H'
      try clear c5b0
      try clear hcz6_0
      try clear hcz6_1
      try clear hfz6_0
      try clear hfz6_1
      obtain ⟨x3_2, x5_2, rfl, HA, HK2, HO_3, BK338, HB⟩ := hrel
      cases gk with
      | zero => exact absurd HA.1 (by simp [rf_Order.l1])
      | succ k2 =>
        have H := HA.1
        clear HA
        simp only [rf_Order.l1] at H
        by_cases c7 : x5_2 < a0_0
        · rw [if_pos c7] at H
          have c7b0 : decide (x5_2 < a0_0) = true := decide_eq_true c7
          clear c7
          replace H := Option.bind_eq_some_iff.mp H
          obtain ⟨t342, A80, H⟩ := H
          replace H : (if t342 = true then (rf_Order.l1 k2 x3_2 x4_1 (wrap64 (x5_2 + 1)) a0_0 l0_1) else ((rf_ready.f k2 a0_0 l0_1 x3_2 x5_2).bind fun t343 => (if t343 = true then (if x3_2.length < 17592186044416 then (rf_Order.l0 k2 (x3_2 ++ [x5_2]) (wrap64 (x4_1 + 1)) a0_0 l0_1) else (none)) else (rf_Order.l1 k2 x3_2 x4_1 (wrap64 (x5_2 + 1)) a0_0 l0_1)))) = some r := H
          have A8 := ak A80
          clear A80
          by_cases c9 : t342 = true
          · subst c9
            have H1 : (rf_Order.l1 k2 x3_2 x4_1 (wrap64 (x5_2 + 1)) a0_0 l0_1) = some r := by rw [if_pos rfl] at H; exact H
            clear H
            have H := H1
            clear H1
            have H' := ak H
            clear H
            have hcz10_0 : wr.cell? ⟨gb338, 0, none⟩ = some (.int .i64 a0_0) := (blk_cell BK338.1 0).trans rfl
            have hcz10_1 : wr.cell? ⟨gb338, 1, none⟩ = some (.slice A0_1 l0_1.length c0_1) := (blk_cell BK338.1 1).trans rfl
            have hfz10_0 := blk_frozen BK338.1 0
            have hfz10_1 := blk_frozen BK338.1 1
            obtain ⟨Ao11, co11, eo11⟩ := Kd.R_slice HO_3.1
            subst eo11
            go_wp2_with (first | ((with_reducible refine gate_callee (f := 33) rfl ?_); refine goesL_ (some 21) rfl rfl Try.func33 (by kernel_rfl) rfl #[.slice Ao11 x3_2.length co11, .int .i64 x5_2] rfl am_ ?_; (with_reducible refine (rf_has.calls k2 _ _ x3_2 x5_2 true _ ?side1 ?side2 A8.1).mono ?_); (case side1 => exact (Kd.R_reads' HO_3.1).2.2); (case side2 => exact (Kd.R_reads' HO_3.1).2.1); rintro e w' ⟨rfl, ⟨nd, rfl⟩⟩; refine ⟨_, rfl, ?_⟩))
            go_roundg k2
            case measure => have := HK1.1; have := HK2.1; omega
            case rel => exact ⟨(x3_2), (wrap64 (x5_2 + 1)), (by rfl), H', ⟨by have := HK1.1; have := HK2.1; omega⟩, ⟨by (with_reducible repeat (apply Kd.R_drewN)); exact HO_3.1⟩, ⟨by (with_reducible repeat (refine blk_drewN ?_ _)); exact BK338.1⟩, ⟨by repeat (with_reducible first | exact HB.1 | apply pw_below_drewN )⟩⟩
          replace c9 := Bool.eq_false_iff.mpr c9
          subst c9
          have H1 : ((rf_ready.f k2 a0_0 l0_1 x3_2 x5_2).bind fun t343 => (if t343 = true then (if x3_2.length < 17592186044416 then (rf_Order.l0 k2 (x3_2 ++ [x5_2]) (wrap64 (x4_1 + 1)) a0_0 l0_1) else (none)) else (rf_Order.l1 k2 x3_2 x4_1 (wrap64 (x5_2 + 1)) a0_0 l0_1))) = some r := by rw [if_neg (show ¬ (false = true) by decide)] at H; exact H
          clear H
          have H := H1
          clear H1
          replace H := Option.bind_eq_some_iff.mp H
          obtain ⟨t343, A120, H⟩ := H
          replace H : (if t343 = true then (if x3_2.length < 17592186044416 then (rf_Order.l0 k2 (x3_2 ++ [x5_2]) (wrap64 (x4_1 + 1)) a0_0 l0_1) else (none)) else (rf_Order.l1 k2 x3_2 x4_1 (wrap64 (x5_2 + 1)) a0_0 l0_1)) = some r := H
          have A12 := ak A120
          clear A120
          by_cases c13 : t343 = true
          · subst c13
            have H1 : (if x3_2.length < 17592186044416 then (rf_Order.l0 k2 (x3_2 ++ [x5_2]) (wrap64 (x4_1 + 1)) a0_0 l0_1) else (none)) = some r := by rw [if_pos rfl] at H; exact H
            clear H
            have H := H1
            clear H1
            by_cases c14 : x3_2.length < 17592186044416
            · rw [if_pos c14] at H
              have LMc14 := ak c14
              clear c14
              obtain ⟨y344, hy344⟩ : ∃ y_ : List Int, y_ = (x3_2 ++ [x5_2]) := ⟨_, rfl⟩
              replace H : (rf_Order.l0 k2 y344 (wrap64 (x4_1 + 1)) a0_0 l0_1) = some r := by (rw [hy344]; with_reducible exact H)
              have Ny344 := ak hy344
              clear hy344
              have H' := ak H
              clear H
              have hcz15_0 : wr.cell? ⟨gb338, 0, none⟩ = some (.int .i64 a0_0) := (blk_cell BK338.1 0).trans rfl
              have hcz15_1 : wr.cell? ⟨gb338, 1, none⟩ = some (.slice A0_1 l0_1.length c0_1) := (blk_cell BK338.1 1).trans rfl
              have hfz15_0 := blk_frozen BK338.1 0
              have hfz15_1 := blk_frozen BK338.1 1
              obtain ⟨Ao16, co16, eo16⟩ := Kd.R_slice HO_3.1
              subst eo16
              go_wp2_with (first | ((with_reducible refine gate_callee (f := 33) rfl ?_); refine goesL_ (some 21) rfl rfl Try.func33 (by kernel_rfl) rfl #[.slice Ao16 x3_2.length co16, .int .i64 x5_2] rfl am_ ?_; (with_reducible refine (rf_has.calls k2 _ _ x3_2 x5_2 false _ ?side1 ?side2 A8.1).mono ?_); (case side1 => exact (Kd.R_reads' HO_3.1).2.2); (case side2 => exact (Kd.R_reads' HO_3.1).2.1); rintro e w' ⟨rfl, ⟨nd, rfl⟩⟩; refine ⟨_, rfl, ?_⟩) | (go_at_call 37; (with_reducible refine (rf_ready.calls k2 a0_0 _ _ l0_1 _ _ x3_2 x5_2 true _ ?side1 ?side2 ?side3 ?side4 A12.1).mono ?_); (case side1 => repeat (exact (Kd.C_below HR0_1.1 (by repeat (with_reducible first | exact HB.1 | apply pw_below_drewN ))))); (case side2 => exact HC0_1.1); (case side3 => exact (Kd.R_reads' HO_3.1).2.2); (case side4 => exact (Kd.R_reads' HO_3.1).2.1); rintro e w17 ⟨rfl, hb⟩; have n0_ := ak (Kd.R_below (by (with_reducible repeat (apply Kd.R_drewN)); exact HO_3.1) hb); have n1_ := ak (blk_below (g := gb338) (o := .cells #[.int .i64 a0_0, .slice A0_1 l0_1.length c0_1] 24 (0, 0)) (by (with_reducible repeat (refine blk_drewN ?_ _)); exact BK338.1) hb); have n2_ := ak (below_step (by repeat (with_reducible first | exact HB.1 | apply pw_below_drewN )) hb); clear HO_3; clear BK338; clear HB; have HO_3 := n0_; have BK338 := n1_; have HB := n2_; clear n0_ n1_ n2_; (try clear hb)) | ((with_reducible refine gate_builtin (b := .append) (xs := #[.tmp 29, .tmp 31]) rfl ?_); at_builtin; refine Kd.R_append (Kd.int .i64) (w0 := w) w.heap.size rfl (.tmp 29) (.tmp 31) 27 3 (.int .i64 0) 8 rfl Try.underlying27 info3 rfl (by decide) (by omega) (.slice Ao16 x3_2.length co16) x3_2 x5_2 [.int .i64 x5_2] (fun _ => True) (fun _ => False) rfl rfl ?aP (fun _ hk => hk.elim) ?aF ?aO ?aB ?aS ?aL ?_; (case aP => exact rfl); (case aB => exact HB.1); (case aF => exact (fun _ _ => trivial)); (case aO => exact (by exact HO_3.1)); (case aS => exact (below_size HB.1)); (case aL => have := LMc14.1; omega); intro v345 w18 ho hb hg hat; rw [← Ny344.1] at ho; have n0_ := ak (blk_grown (g := gb338) (o := .cells #[.int .i64 a0_0, .slice A0_1 l0_1.length c0_1] 24 (0, 0)) (by exact BK338.1) hg (Kd.R_ne HO_3.1 BK338.1 (by decide))); have n1_ := ak (hb); have n2_ := ak (ho); clear BK338; clear HB; clear HO_3; have BK338 := n0_; have HB := n1_; have HO346 := n2_; clear n0_ n1_ n2_; clear ho hb hg hat))
              go_roundg k2
              case measure => have := HK1.1; have := HK2.1; omega
              case rel => exact ⟨(y344), (wrap64 (x4_1 + 1)), (by rfl), H', ⟨by have := HK1.1; have := HK2.1; omega⟩, ⟨by exact HO346.1⟩, ⟨by exact BK338.1⟩, ⟨by repeat (with_reducible exact HB.1)⟩⟩
            rw [if_neg c14] at H
            exact absurd H (by simp)
          replace c13 := Bool.eq_false_iff.mpr c13
          subst c13
          have H1 : (rf_Order.l1 k2 x3_2 x4_1 (wrap64 (x5_2 + 1)) a0_0 l0_1) = some r := by rw [if_neg (show ¬ (false = true) by decide)] at H; exact H
          clear H
          have H := H1
          clear H1
          have H' := ak H
          clear H
          have hcz19_0 : wr.cell? ⟨gb338, 0, none⟩ = some (.int .i64 a0_0) := (blk_cell BK338.1 0).trans rfl
          have hcz19_1 : wr.cell? ⟨gb338, 1, none⟩ = some (.slice A0_1 l0_1.length c0_1) := (blk_cell BK338.1 1).trans rfl
          have hfz19_0 := blk_frozen BK338.1 0
          have hfz19_1 := blk_frozen BK338.1 1
          obtain ⟨Ao20, co20, eo20⟩ := Kd.R_slice HO_3.1
          subst eo20
          go_wp2_with (first | ((with_reducible refine gate_callee (f := 33) rfl ?_); refine goesL_ (some 21) rfl rfl Try.func33 (by kernel_rfl) rfl #[.slice Ao20 x3_2.length co20, .int .i64 x5_2] rfl am_ ?_; (with_reducible refine (rf_has.calls k2 _ _ x3_2 x5_2 false _ ?side1 ?side2 A8.1).mono ?_); (case side1 => exact (Kd.R_reads' HO_3.1).2.2); (case side2 => exact (Kd.R_reads' HO_3.1).2.1); rintro e w' ⟨rfl, ⟨nd, rfl⟩⟩; refine ⟨_, rfl, ?_⟩) | (go_at_call 37; (with_reducible refine (rf_ready.calls k2 a0_0 _ _ l0_1 _ _ x3_2 x5_2 false _ ?side1 ?side2 ?side3 ?side4 A12.1).mono ?_); (case side1 => repeat (exact (Kd.C_below HR0_1.1 (by repeat (with_reducible first | exact HB.1 | apply pw_below_drewN ))))); (case side2 => exact HC0_1.1); (case side3 => exact (Kd.R_reads' HO_3.1).2.2); (case side4 => exact (Kd.R_reads' HO_3.1).2.1); rintro e w21 ⟨rfl, hb⟩; have n0_ := ak (Kd.R_below (by (with_reducible repeat (apply Kd.R_drewN)); exact HO_3.1) hb); have n1_ := ak (blk_below (g := gb338) (o := .cells #[.int .i64 a0_0, .slice A0_1 l0_1.length c0_1] 24 (0, 0)) (by (with_reducible repeat (refine blk_drewN ?_ _)); exact BK338.1) hb); have n2_ := ak (below_step (by repeat (with_reducible first | exact HB.1 | apply pw_below_drewN )) hb); clear HO_3; clear BK338; clear HB; have HO_3 := n0_; have BK338 := n1_; have HB := n2_; clear n0_ n1_ n2_; (try clear hb)))
          go_roundg k2
          case measure => have := HK1.1; have := HK2.1; omega
          case rel => exact ⟨(x3_2), (wrap64 (x5_2 + 1)), (by rfl), H', ⟨by have := HK1.1; have := HK2.1; omega⟩, ⟨by exact HO_3.1⟩, ⟨by exact BK338.1⟩, ⟨by repeat (with_reducible exact HB.1)⟩⟩
        rw [if_neg c7] at H
        have c7b0 : decide (x5_2 < a0_0) = false := decide_eq_false c7
        clear c7
        have H' := ak H
        clear H
        have hcz22_0 : wr.cell? ⟨gb338, 0, none⟩ = some (.int .i64 a0_0) := (blk_cell BK338.1 0).trans rfl
        have hcz22_1 : wr.cell? ⟨gb338, 1, none⟩ = some (.slice A0_1 l0_1.length c0_1) := (blk_cell BK338.1 1).trans rfl
        have hfz22_0 := blk_frozen BK338.1 0
        have hfz22_1 := blk_frozen BK338.1 1
        go_wp2
        go_roundg k2
        case measure => have := HK1.1; have := HK2.1; omega
        case rel => exact ⟨(x3_2), (wrap64 (x4_1 + 1)), (by rfl), H', ⟨by have := HK1.1; have := HK2.1; omega⟩, ⟨by exact HO_3.1⟩, ⟨by exact BK338.1⟩, ⟨by repeat (with_reducible exact HB.1)⟩⟩
    rw [if_neg c5] at H
    have c5b0 : decide (x4_1 < a0_0) = false := decide_eq_false c5
    clear c5
    obtain rfl := Option.some.inj H
    have hcz23_0 : wr.cell? ⟨gb338, 0, none⟩ = some (.int .i64 a0_0) := (blk_cell BK338.1 0).trans rfl
    have hcz23_1 : wr.cell? ⟨gb338, 1, none⟩ = some (.slice A0_1 l0_1.length c0_1) := (blk_cell BK338.1 1).trans rfl
    have hfz23_0 := blk_frozen BK338.1 0
    have hfz23_1 := blk_frozen BK338.1 1
    go_wp2
    go_ret
    exact ⟨_, by rfl, by exact HO_3.1, by repeat (with_reducible exact HB.1)⟩

end Go.Proofs.Ytecbmcheojolnaa.XA
