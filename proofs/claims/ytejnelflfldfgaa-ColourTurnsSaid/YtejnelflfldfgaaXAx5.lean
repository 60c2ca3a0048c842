-- written by xprint.py, this project's own program (wip/), over the words of print.sh
import Derived.Test.YtejnelflfldfgaaXAx0
import Derived.Test.YtejnelflfldfgaaXAx2
import Derived.Test.YtejnelflfldfgaaXAx3
namespace Go.Proofs.Ytejnelflfldfgaa.XA
open Go.RowKit Go.Proofs.Ytejnelflfldfgaa.Opens Go.Proofs.YtejnelflfldfgaaW.PrintWords Go.Proofs.YtejnelflfldfgaaW.PrintLast Go.Proofs.YtejnelflfldfgaaW.PrintMore
attribute [local go_sem] max2_int min2_int max_two min_two max_three min_three max_four min_four   -- for this text's walks alone
set_option linter.unusedVariables false
set_option linter.unusedSimpArgs false

/-! ### colour_Nearest: function 31 -/
mutual
def colour_Nearest.l0 : Nat → List Int → Int → List (S47) → List (S47) → Int → Int → Option (Int × Int)
  | 0, _, _, _, _, _, _ => none
  | k + 1, x0, x1, x2, x26, x27, x28 => if x28 < x27 then (if 0 ≤ x28 then (if x28 < (x26.length : Int) then (if ((rd_T47 x26 x28).f4) = x1 then ((colour_Check.f k ((rd_T47 x26 x28).f5)).bind fun t173 => (if t173 = 0 then (colour_Nearest.l0 k x0 x1 x2 x26 x27 (wrap64 (x28 + 1))) else (some (0, t173)))) else (colour_Nearest.l0 k x0 x1 x2 x26 x27 (wrap64 (x28 + 1)))) else (none)) else (none)) else (colour_Nearest.l1 k x0 x1 (-1) 0 x2 (x2.length : Int) 0)
def colour_Nearest.l1 : Nat → List Int → Int → Int → Int → List (S47) → Int → Int → Option (Int × Int)
  | 0, _, _, _, _, _, _, _ => none
  | k + 1, x0, x1, x12, x13, x43, x44, x45 => if x45 < x44 then (if 0 ≤ x45 then (if x45 < (x43.length : Int) then (if ((rd_T47 x43 x45).f4) = x1 then ((colour_Mismatch.f k x0 ((rd_T47 x43 x45).f5)).bind fun bt176 => (if bt176.2 = 0 then (if x12 < 0 then (colour_Nearest.l1 k x0 x1 x45 bt176.1 x43 x44 (wrap64 (x45 + 1))) else (if bt176.1 < x13 then (colour_Nearest.l1 k x0 x1 x45 bt176.1 x43 x44 (wrap64 (x45 + 1))) else (colour_Nearest.l1 k x0 x1 x12 x13 x43 x44 (wrap64 (x45 + 1))))) else (some (0, bt176.2)))) else (colour_Nearest.l1 k x0 x1 x12 x13 x43 x44 (wrap64 (x45 + 1)))) else (none)) else (none)) else (if x12 < 0 then (some (0, 9)) else (some (x12, 0)))
end
def colour_Nearest.f (k : Nat) (l0 : List Int) (a1 : Int) (l2 : List (S47)) : Option (Int × Int) := if (l2.length : Int) > 256 then (some (0, 7)) else ((colour_Check.f k l0).bind fun t170 => (if t170 = 0 then (colour_Nearest.l0 k l0 a1 l2 l2 (l2.length : Int) 0) else (some (0, t170))))
theorem colour_Nearest.mono_l : ∀ k, (∀ y0 y1 y2 y3 y4 y5, LeO (colour_Nearest.l0 k y0 y1 y2 y3 y4 y5) (colour_Nearest.l0 (k + 1) y0 y1 y2 y3 y4 y5)) ∧ (∀ y0 y1 y2 y3 y4 y5 y6, LeO (colour_Nearest.l1 k y0 y1 y2 y3 y4 y5 y6) (colour_Nearest.l1 (k + 1) y0 y1 y2 y3 y4 y5 y6))
  | 0 => ⟨fun _ _ _ _ _ _ r h => by simp [colour_Nearest.l0] at h, fun _ _ _ _ _ _ _ r h => by simp [colour_Nearest.l1] at h⟩
  | k + 1 => by
    obtain ⟨ih0, ih1⟩ := colour_Nearest.mono_l k
    refine ⟨?_, ?_⟩
    · intro y0 y1 y2 y3 y4 y5
      unfold colour_Nearest.l0
      repeat' first
      | (with_reducible exact ih0 _ _ _ _ _ _)
      | (with_reducible exact ih1 _ _ _ _ _ _ _)
      | (with_reducible exact colour_Check.mono _ _)
      | (with_reducible exact colour_Mismatch.mono _ _ _)
      | (with_reducible exact LeO.refl _)
      | (with_reducible exact LeO.none _)
      | (with_reducible refine LeO.ite ?_ ?_)
      | (with_reducible refine LeO.bind ?_ (fun _ => ?_))
      | exact ih0 _ _ _ _ _ _
      | exact ih1 _ _ _ _ _ _ _
      | exact colour_Check.mono _ _
      | exact colour_Mismatch.mono _ _ _
      | exact LeO.none _
      | refine LeO.ite ?_ ?_
      | refine LeO.bind ?_ (fun _ => ?_)
    · intro y0 y1 y2 y3 y4 y5 y6
      unfold colour_Nearest.l1
      repeat' first
      | (with_reducible exact ih0 _ _ _ _ _ _)
      | (with_reducible exact ih1 _ _ _ _ _ _ _)
      | (with_reducible exact colour_Check.mono _ _)
      | (with_reducible exact colour_Mismatch.mono _ _ _)
      | (with_reducible exact LeO.refl _)
      | (with_reducible exact LeO.none _)
      | (with_reducible refine LeO.ite ?_ ?_)
      | (with_reducible refine LeO.bind ?_ (fun _ => ?_))
      | exact ih0 _ _ _ _ _ _
      | exact ih1 _ _ _ _ _ _ _
      | exact colour_Check.mono _ _
      | exact colour_Mismatch.mono _ _ _
      | exact LeO.none _
      | refine LeO.ite ?_ ?_
      | refine LeO.bind ?_ (fun _ => ?_)
theorem colour_Nearest.mono : ∀ a0 a1 a2 k, LeO (colour_Nearest.f k a0 a1 a2) (colour_Nearest.f (k + 1) a0 a1 a2) := by
  intro a0 a1 a2 k
  obtain ⟨ih0, ih1⟩ := colour_Nearest.mono_l k
  unfold colour_Nearest.f
  repeat' first
      | (with_reducible exact ih0 _ _ _ _ _ _)
      | (with_reducible exact ih1 _ _ _ _ _ _ _)
      | (with_reducible exact colour_Check.mono _ _)
      | (with_reducible exact colour_Mismatch.mono _ _ _)
      | (with_reducible exact LeO.refl _)
      | (with_reducible exact LeO.none _)
      | (with_reducible refine LeO.ite ?_ ?_)
      | (with_reducible refine LeO.bind ?_ (fun _ => ?_))
      | exact ih0 _ _ _ _ _ _
      | exact ih1 _ _ _ _ _ _ _
      | exact colour_Check.mono _ _
      | exact colour_Mismatch.mono _ _ _
      | exact LeO.none _
      | refine LeO.ite ?_ ?_
      | refine LeO.bind ?_ (fun _ => ?_)
set_option maxHeartbeats 8000000 in
set_option maxRecDepth 100000 in
theorem colour_Nearest.calls (k : Nat) (A0 : Option Addr) (c0 : Nat) (l0 : List Int) (a1 : Int) (A2 : Option Addr) (c2 : Nat) (l2 : List (S47)) (r1 : Int) (r2 : Int) (w : World) (hr0 : Kd.C (Kd.int .i64) w A0 l0.length l0) (hc0 : l0.length ≤ c0) (hr2 : Kd.C k47 w A2 l2.length l2) (hc2 : l2.length ≤ c2) (h : colour_Nearest.f k l0 a1 l2 = some (r1, r2)) :
    Calls Try.prog 31 #[.slice A0 l0.length c0, .int .i64 a1, .slice A2 l2.length c2] w fun e w' => e = .returned (.tuple #[.int .i64 r1, .int .i64 r2]) ∧ Below w.heap.size w w' := by
  have hu47 := Try.underlying47
  have HR0 := Aside0.mk hr0
  have HC0 := Aside0.mk hc0
  clear hr0 hc0
  have HR2 := Aside0.mk hr2
  have HC2 := Aside0.mk hc2
  clear hr2 hc2
  have HB := Aside0.mk (Below.refl w.heap.size w)
  have H : (if (l2.length : Int) > 256 then (some (0, 7)) else ((colour_Check.f k l0).bind fun t170 => (if t170 = 0 then (colour_Nearest.l0 k l0 a1 l2 l2 (l2.length : Int) 0) else (some (0, t170))))) = some (r1, r2) := h
  clear h
  by_cases c4 : (l2.length : Int) > 256
  · rw [if_pos c4] at H
    have c4b0 : decide (256 < (l2.length : Int)) = true := decide_eq_true c4
    have c4b1 : decide (256 < l2.length) = true := decide_eq_true (by omega)
    clear c4
    simp only [Option.some.injEq, Prod.mk.injEq] at H
    obtain ⟨rfl, rfl⟩ := H
    go_enter Try.func31, Try.ntmps31
    go_wp2
    go_ret2
    exact ⟨by first | rfl | (simp [errW_none, errW_some] <;> rfl) | (simp [*, errW_none, errW_some] <;> rfl), by repeat (first | (with_reducible first | exact HB.out | apply below_alloc | apply pw_below_drewN | apply below_drew1) | exact HB.out)⟩
  · rw [if_neg c4] at H
    have c4b0 : decide (256 < (l2.length : Int)) = false := decide_eq_false c4
    have c4b1 : decide (256 < l2.length) = false := decide_eq_false (by omega)
    clear c4
    replace H := Option.bind_eq_some_iff.mp H
    obtain ⟨t170, A50, H⟩ := H
    replace H : (if t170 = 0 then (colour_Nearest.l0 k l0 a1 l2 l2 (l2.length : Int) 0) else (some (0, t170))) = some (r1, r2) := H
    have A5 := Aside0.mk A50
    clear A50
    by_cases c6 : t170 = 0
    · rw [if_pos c6] at H
      have c6b0 : (t170 == 0) = true := beq_iff_eq.mpr c6
      have c6b1 : (t170 != 0) = false := bne_eq_false_iff_eq.mpr c6
      clear c6
      have H' := Aside0.mk H
      clear H
      go_enter Try.func31, Try.ntmps31
      go_wp2_with (first | ((with_reducible refine gate_callee (f := 16) rfl ?_); refine goesL_ (some 22) rfl rfl Try.func16 (by kernel_rfl) rfl #[.slice A0 l0.length c0] rfl (by (try simp only [List.map_toArray, List.map_cons, List.map_nil]); first | done | rfl | (simp only [List.length_drop, List.length_take]; rfl)) ?_; (with_reducible refine (colour_Check.calls k _ _ l0 t170 _ ?side1 ?side2 A5.out).mono ?_); (case side1 => repeat (first | exact HR0.out | (with_reducible refine Kd.C_alloc ?_ _) | (with_reducible refine Kd.C_drewN ?_ _) | (with_reducible refine Kd.C_drew ?_))); (case side2 => exact HC0.out); rintro e w7 ⟨rfl, hb⟩; refine ⟨_, rfl, ?_⟩; have n0_ := Aside0.mk (below_step (by repeat (first | (with_reducible first | exact HB.out | apply below_alloc | apply pw_below_drewN | apply below_drew1) | exact HB.out)) hb); clear HB; have HB := n0_; clear n0_; (try clear hb); (try clear hb2); (try clear hk); (try clear hi)))
      go_loopg [28] k (fun kq v28 w' => ∃ (x28_1 : Int), v28 = .int .i64 x28_1 ∧ Aside0 (colour_Nearest.l0 kq l0 a1 l2 l2 (l2.length : Int) x28_1 = some (r1, r2)) ∧ Aside0 (kq ≤ k) ∧ Aside0 (Below w.heap.size w w'))
      case atStart => exact ⟨(0), (by first | rfl | (simp; done) | (simp [*]; done)), H', ⟨Nat.le_refl _⟩, ⟨by repeat (first | (with_reducible first | exact HB.out | apply below_alloc | apply pw_below_drewN | apply below_drew1) | exact HB.out)⟩⟩
      case round =>
        clear H'
        try clear c1
        try clear c2
        try clear p2
        try clear c3
        try clear c4
        try clear c4b0
        try clear c4b1
        try clear c6
        try clear c6b0
        try clear c6b1
        obtain ⟨x28_1, rfl, HA, HK1, HB⟩ := hrel
        cases gk with
        | zero => exact absurd HA.out (by simp [colour_Nearest.l0])
        | succ k1 =>
          have H := HA.out
          clear HA
          simp only [colour_Nearest.l0] at H
          by_cases c8 : x28_1 < (l2.length : Int)
          · rw [if_pos c8] at H
            have c8b0 : decide (x28_1 < (l2.length : Int)) = true := decide_eq_true c8
            clear c8
            by_cases c9 : 0 ≤ x28_1
            · rw [if_pos c9] at H
              have c9b0 : decide (0 ≤ x28_1) = true := decide_eq_true c9
              clear c9
              by_cases c10 : x28_1 < (l2.length : Int)
              · rw [if_pos c10] at H
                have c10b0 : decide (x28_1 < (l2.length : Int)) = true := decide_eq_true c10
                clear c10
                by_cases c11 : ((rd_T47 l2 x28_1).f4) = a1
                · rw [if_pos c11] at H
                  have c11b0 : (((rd_T47 l2 x28_1).f4) == a1) = true := beq_iff_eq.mpr c11
                  have c11b1 : (((rd_T47 l2 x28_1).f4) != a1) = false := bne_eq_false_iff_eq.mpr c11
                  clear c11
                  replace H := Option.bind_eq_some_iff.mp H
                  obtain ⟨t173, A120, H⟩ := H
                  replace H : (if t173 = 0 then (colour_Nearest.l0 k1 l0 a1 l2 l2 (l2.length : Int) (wrap64 (x28_1 + 1))) else (some (0, t173))) = some (r1, r2) := H
                  have A12 := Aside0.mk A120
                  clear A120
                  by_cases c13 : t173 = 0
                  · rw [if_pos c13] at H
                    have c13b0 : (t173 == 0) = true := beq_iff_eq.mpr c13
                    have c13b1 : (t173 != 0) = false := bne_eq_false_iff_eq.mpr c13
                    clear c13
                    have H' := Aside0.mk H
                    clear H
                    have p171 : 0 ≤ (x28_1 : Int) := of_decide_eq_true (by first | (with_reducible assumption) | assumption)
                    have q171 : x28_1 < (l2.length : Int) := of_decide_eq_true (by first | (with_reducible assumption) | assumption)
                    obtain ⟨ad171, A171_10, c171_10, A171_11, c171_11, e171, hx171_0, hx171_1, hx171_2, hx171_3, hx171_4, hx171_5, hx171_6, hx171_7, hx171_8, hx171_9, hx171_10, hx171_11, hl171_10, hi171_10, hl171_11, hi171_11⟩ := at_T47 HR2.out x28_1 p171 q171
                    cases e171
                    replace hx171_0 := (HB.out.cell (World.block_lt_of_cell? w _ hx171_0)).trans hx171_0
                    replace hx171_1 := (HB.out.cell (World.block_lt_of_cell? w _ hx171_1)).trans hx171_1
                    replace hx171_2 := (HB.out.cell (World.block_lt_of_cell? w _ hx171_2)).trans hx171_2
                    replace hx171_3 := (HB.out.cell (World.block_lt_of_cell? w _ hx171_3)).trans hx171_3
                    replace hx171_4 := (HB.out.cell (World.block_lt_of_cell? w _ hx171_4)).trans hx171_4
                    replace hx171_5 := (HB.out.cell (World.block_lt_of_cell? w _ hx171_5)).trans hx171_5
                    replace hx171_6 := (HB.out.cell (World.block_lt_of_cell? w _ hx171_6)).trans hx171_6
                    replace hx171_7 := (HB.out.cell (World.block_lt_of_cell? w _ hx171_7)).trans hx171_7
                    replace hx171_8 := (HB.out.cell (World.block_lt_of_cell? w _ hx171_8)).trans hx171_8
                    replace hx171_9 := (HB.out.cell (World.block_lt_of_cell? w _ hx171_9)).trans hx171_9
                    replace hx171_10 := (HB.out.cell (World.block_lt_of_cell? w _ hx171_10)).trans hx171_10
                    replace hx171_11 := (HB.out.cell (World.block_lt_of_cell? w _ hx171_11)).trans hx171_11
                    have HR171_10 := Aside0.mk hi171_10
                    have HC171_10 := Aside0.mk hl171_10
                    clear hi171_10 hl171_10
                    have HR171_11 := Aside0.mk hi171_11
                    have HC171_11 := Aside0.mk hl171_11
                    clear hi171_11 hl171_11
                    replace p171 := eq_true p171
                    replace q171 := eq_true q171
                    go_wp2_with (first | ((with_reducible refine gate_dst (N := 10) rfl ?_); refine box_event ?hg (N := 10) ?hd (cs := #[.string (⟨#[]⟩ : ByteArray), .string (⟨#[]⟩ : ByteArray), .int .i64 0, .int .i64 0, .int .i64 0, .int .i64 0, .int .i64 0, .int .i64 0, .int .i64 0, .int .i64 0, .slice none 0 0, .slice none 0 0]) (t := 47) ?hr ?_; (case hd => rfl); (case hg => first | rfl | (go_simp; done)); (case hr => first | (go_simp; done) | (go_simp; rfl)); intro gb172 hg w14 hbox hb; have n0_ := Aside0.mk (below_step (by repeat (first | (with_reducible first | exact HB.out | apply below_alloc | apply pw_below_drewN | apply below_drew1) | exact HB.out)) hb); have n1_ := Aside0.mk (hbox); have n2_ := Aside0.mk ((by rw [hg]; exact (below_size (by repeat (first | (with_reducible first | exact HB.out | apply below_alloc | apply pw_below_drewN | apply below_drew1) | exact HB.out))) : w.heap.size ≤ gb172)); have n3_ := Aside0.mk ((by rw [hg]; exact (below_size (by repeat (first | (with_reducible first | exact HB.out | apply below_alloc | apply pw_below_drewN | apply below_drew1) | exact HB.out))) : w.heap.size ≤ gb172)); clear HB; have HB := n0_; have BK172 := n1_; have GW172 := n2_; have GE172 := n3_; clear n0_ n1_ n2_ n3_; clear hb hbox hg; have hcz15_0 : w14.cell? ⟨gb172, 0, none⟩ = some (.string (⟨#[]⟩ : ByteArray)) := (blk_cell BK172.out 0).trans rfl; have hcz15_1 : w14.cell? ⟨gb172, 1, none⟩ = some (.string (⟨#[]⟩ : ByteArray)) := (blk_cell BK172.out 1).trans rfl; have hcz15_2 : w14.cell? ⟨gb172, 2, none⟩ = some (.int .i64 0) := (blk_cell BK172.out 2).trans rfl; have hcz15_3 : w14.cell? ⟨gb172, 3, none⟩ = some (.int .i64 0) := (blk_cell BK172.out 3).trans rfl; have hcz15_4 : w14.cell? ⟨gb172, 4, none⟩ = some (.int .i64 0) := (blk_cell BK172.out 4).trans rfl; have hcz15_5 : w14.cell? ⟨gb172, 5, none⟩ = some (.int .i64 0) := (blk_cell BK172.out 5).trans rfl; have hcz15_6 : w14.cell? ⟨gb172, 6, none⟩ = some (.int .i64 0) := (blk_cell BK172.out 6).trans rfl; have hcz15_7 : w14.cell? ⟨gb172, 7, none⟩ = some (.int .i64 0) := (blk_cell BK172.out 7).trans rfl; have hcz15_8 : w14.cell? ⟨gb172, 8, none⟩ = some (.int .i64 0) := (blk_cell BK172.out 8).trans rfl; have hcz15_9 : w14.cell? ⟨gb172, 9, none⟩ = some (.int .i64 0) := (blk_cell BK172.out 9).trans rfl; have hcz15_10 : w14.cell? ⟨gb172, 10, none⟩ = some (.slice none 0 0) := (blk_cell BK172.out 10).trans rfl; have hcz15_11 : w14.cell? ⟨gb172, 11, none⟩ = some (.slice none 0 0) := (blk_cell BK172.out 11).trans rfl; have hfz15_0 := blk_frozen BK172.out 0; have hfz15_1 := blk_frozen BK172.out 1; have hfz15_2 := blk_frozen BK172.out 2; have hfz15_3 := blk_frozen BK172.out 3; have hfz15_4 := blk_frozen BK172.out 4; have hfz15_5 := blk_frozen BK172.out 5; have hfz15_6 := blk_frozen BK172.out 6; have hfz15_7 := blk_frozen BK172.out 7; have hfz15_8 := blk_frozen BK172.out 8; have hfz15_9 := blk_frozen BK172.out 9; have hfz15_10 := blk_frozen BK172.out 10; have hfz15_11 := blk_frozen BK172.out 11) | ((with_reducible refine gate_callee (f := 16) rfl ?_); refine goesL_ (some 38) rfl rfl Try.func16 (by kernel_rfl) rfl #[.slice A171_10 ((rd_T47 l2 x28_1).f5).length c171_10] rfl (by (try simp only [List.map_toArray, List.map_cons, List.map_nil]); first | done | rfl | (simp only [List.length_drop, List.length_take]; rfl)) ?_; (with_reducible refine (colour_Check.calls k1 _ _ ((rd_T47 l2 x28_1).f5) t173 _ ?side1 ?side2 A12.out).mono ?_); (case side1 => exact Kd.C_below HR171_10.out (by repeat (first | (with_reducible first | exact HB.out | apply below_alloc | apply pw_below_drewN | apply below_drew1 | refine below_set ?_ GE172.out) | exact HB.out))); (case side2 => exact HC171_10.out); rintro e w16 ⟨rfl, hb⟩; refine ⟨_, rfl, ?_⟩; have n0_ := Aside0.mk (blk_below (g := gb172) (o := .cells #[.string ((rd_T47 l2 x28_1).f0), .string ((rd_T47 l2 x28_1).f1), .int .i64 ((rd_T47 l2 x28_1).f2), .int .i64 ((rd_T47 l2 x28_1).f3.f0.f0), .int .i64 ((rd_T47 l2 x28_1).f3.f0.f1), .int .i64 ((rd_T47 l2 x28_1).f3.f0.f2), .int .i64 ((rd_T47 l2 x28_1).f3.f1.f0), .int .i64 ((rd_T47 l2 x28_1).f3.f1.f1), .int .i64 ((rd_T47 l2 x28_1).f3.f1.f2), .int .i64 ((rd_T47 l2 x28_1).f4), .slice A171_10 ((rd_T47 l2 x28_1).f5).length c171_10, .slice A171_11 ((rd_T47 l2 x28_1).f6).length c171_11] 47 (0, 0)) (by (with_reducible repeat (first | refine blk_drewN ?_ _ | refine blk_drew ?_ | refine blk_alloc ?_ _)); refine blk_put (cs := #[.string ((rd_T47 l2 x28_1).f0), .string ((rd_T47 l2 x28_1).f1), .int .i64 ((rd_T47 l2 x28_1).f2), .int .i64 ((rd_T47 l2 x28_1).f3.f0.f0), .int .i64 ((rd_T47 l2 x28_1).f3.f0.f1), .int .i64 ((rd_T47 l2 x28_1).f3.f0.f2), .int .i64 ((rd_T47 l2 x28_1).f3.f1.f0), .int .i64 ((rd_T47 l2 x28_1).f3.f1.f1), .int .i64 ((rd_T47 l2 x28_1).f3.f1.f2), .int .i64 ((rd_T47 l2 x28_1).f4), .slice A171_10 ((rd_T47 l2 x28_1).f5).length c171_10, .slice none 0 0]) ?_ 11 _ rfl; (with_reducible repeat (first | refine blk_drewN ?_ _ | refine blk_drew ?_ | refine blk_alloc ?_ _)); refine blk_put (cs := #[.string ((rd_T47 l2 x28_1).f0), .string ((rd_T47 l2 x28_1).f1), .int .i64 ((rd_T47 l2 x28_1).f2), .int .i64 ((rd_T47 l2 x28_1).f3.f0.f0), .int .i64 ((rd_T47 l2 x28_1).f3.f0.f1), .int .i64 ((rd_T47 l2 x28_1).f3.f0.f2), .int .i64 ((rd_T47 l2 x28_1).f3.f1.f0), .int .i64 ((rd_T47 l2 x28_1).f3.f1.f1), .int .i64 ((rd_T47 l2 x28_1).f3.f1.f2), .int .i64 ((rd_T47 l2 x28_1).f4), .slice none 0 0, .slice none 0 0]) ?_ 10 _ rfl; (with_reducible repeat (first | refine blk_drewN ?_ _ | refine blk_drew ?_ | refine blk_alloc ?_ _)); refine blk_put (cs := #[.string ((rd_T47 l2 x28_1).f0), .string ((rd_T47 l2 x28_1).f1), .int .i64 ((rd_T47 l2 x28_1).f2), .int .i64 ((rd_T47 l2 x28_1).f3.f0.f0), .int .i64 ((rd_T47 l2 x28_1).f3.f0.f1), .int .i64 ((rd_T47 l2 x28_1).f3.f0.f2), .int .i64 ((rd_T47 l2 x28_1).f3.f1.f0), .int .i64 ((rd_T47 l2 x28_1).f3.f1.f1), .int .i64 ((rd_T47 l2 x28_1).f3.f1.f2), .int .i64 0, .slice none 0 0, .slice none 0 0]) ?_ 9 _ rfl; (with_reducible repeat (first | refine blk_drewN ?_ _ | refine blk_drew ?_ | refine blk_alloc ?_ _)); refine blk_put (cs := #[.string ((rd_T47 l2 x28_1).f0), .string ((rd_T47 l2 x28_1).f1), .int .i64 ((rd_T47 l2 x28_1).f2), .int .i64 ((rd_T47 l2 x28_1).f3.f0.f0), .int .i64 ((rd_T47 l2 x28_1).f3.f0.f1), .int .i64 ((rd_T47 l2 x28_1).f3.f0.f2), .int .i64 ((rd_T47 l2 x28_1).f3.f1.f0), .int .i64 ((rd_T47 l2 x28_1).f3.f1.f1), .int .i64 0, .int .i64 0, .slice none 0 0, .slice none 0 0]) ?_ 8 _ rfl; (with_reducible repeat (first | refine blk_drewN ?_ _ | refine blk_drew ?_ | refine blk_alloc ?_ _)); refine blk_put (cs := #[.string ((rd_T47 l2 x28_1).f0), .string ((rd_T47 l2 x28_1).f1), .int .i64 ((rd_T47 l2 x28_1).f2), .int .i64 ((rd_T47 l2 x28_1).f3.f0.f0), .int .i64 ((rd_T47 l2 x28_1).f3.f0.f1), .int .i64 ((rd_T47 l2 x28_1).f3.f0.f2), .int .i64 ((rd_T47 l2 x28_1).f3.f1.f0), .int .i64 0, .int .i64 0, .int .i64 0, .slice none 0 0, .slice none 0 0]) ?_ 7 _ rfl; (with_reducible repeat (first | refine blk_drewN ?_ _ | refine blk_drew ?_ | refine blk_alloc ?_ _)); refine blk_put (cs := #[.string ((rd_T47 l2 x28_1).f0), .string ((rd_T47 l2 x28_1).f1), .int .i64 ((rd_T47 l2 x28_1).f2), .int .i64 ((rd_T47 l2 x28_1).f3.f0.f0), .int .i64 ((rd_T47 l2 x28_1).f3.f0.f1), .int .i64 ((rd_T47 l2 x28_1).f3.f0.f2), .int .i64 0, .int .i64 0, .int .i64 0, .int .i64 0, .slice none 0 0, .slice none 0 0]) ?_ 6 _ rfl; (with_reducible repeat (first | refine blk_drewN ?_ _ | refine blk_drew ?_ | refine blk_alloc ?_ _)); refine blk_put (cs := #[.string ((rd_T47 l2 x28_1).f0), .string ((rd_T47 l2 x28_1).f1), .int .i64 ((rd_T47 l2 x28_1).f2), .int .i64 ((rd_T47 l2 x28_1).f3.f0.f0), .int .i64 ((rd_T47 l2 x28_1).f3.f0.f1), .int .i64 0, .int .i64 0, .int .i64 0, .int .i64 0, .int .i64 0, .slice none 0 0, .slice none 0 0]) ?_ 5 _ rfl; (with_reducible repeat (first | refine blk_drewN ?_ _ | refine blk_drew ?_ | refine blk_alloc ?_ _)); refine blk_put (cs := #[.string ((rd_T47 l2 x28_1).f0), .string ((rd_T47 l2 x28_1).f1), .int .i64 ((rd_T47 l2 x28_1).f2), .int .i64 ((rd_T47 l2 x28_1).f3.f0.f0), .int .i64 0, .int .i64 0, .int .i64 0, .int .i64 0, .int .i64 0, .int .i64 0, .slice none 0 0, .slice none 0 0]) ?_ 4 _ rfl; (with_reducible repeat (first | refine blk_drewN ?_ _ | refine blk_drew ?_ | refine blk_alloc ?_ _)); refine blk_put (cs := #[.string ((rd_T47 l2 x28_1).f0), .string ((rd_T47 l2 x28_1).f1), .int .i64 ((rd_T47 l2 x28_1).f2), .int .i64 0, .int .i64 0, .int .i64 0, .int .i64 0, .int .i64 0, .int .i64 0, .int .i64 0, .slice none 0 0, .slice none 0 0]) ?_ 3 _ rfl; (with_reducible repeat (first | refine blk_drewN ?_ _ | refine blk_drew ?_ | refine blk_alloc ?_ _)); refine blk_put (cs := #[.string ((rd_T47 l2 x28_1).f0), .string ((rd_T47 l2 x28_1).f1), .int .i64 0, .int .i64 0, .int .i64 0, .int .i64 0, .int .i64 0, .int .i64 0, .int .i64 0, .int .i64 0, .slice none 0 0, .slice none 0 0]) ?_ 2 _ rfl; (with_reducible repeat (first | refine blk_drewN ?_ _ | refine blk_drew ?_ | refine blk_alloc ?_ _)); refine blk_put (cs := #[.string ((rd_T47 l2 x28_1).f0), .string (⟨#[]⟩ : ByteArray), .int .i64 0, .int .i64 0, .int .i64 0, .int .i64 0, .int .i64 0, .int .i64 0, .int .i64 0, .int .i64 0, .slice none 0 0, .slice none 0 0]) ?_ 1 _ rfl; (with_reducible repeat (first | refine blk_drewN ?_ _ | refine blk_drew ?_ | refine blk_alloc ?_ _)); refine blk_put (cs := #[.string (⟨#[]⟩ : ByteArray), .string (⟨#[]⟩ : ByteArray), .int .i64 0, .int .i64 0, .int .i64 0, .int .i64 0, .int .i64 0, .int .i64 0, .int .i64 0, .int .i64 0, .slice none 0 0, .slice none 0 0]) ?_ 0 _ rfl; (with_reducible repeat (first | refine blk_drewN ?_ _ | refine blk_drew ?_ | refine blk_alloc ?_ _)); exact BK172.out) hb); have n1_ := Aside0.mk (below_step (by repeat (first | (with_reducible first | exact HB.out | apply below_alloc | apply pw_below_drewN | apply below_drew1 | refine below_set ?_ GE172.out) | exact HB.out)) hb); clear BK172; clear HB; have BK172 := n0_; have HB := n1_; clear n0_ n1_; (try clear hb); (try clear hb2); (try clear hk); (try clear hi)))
                    go_roundg k1
                    case measure => have := HK1.out; omega
                    case rel => exact ⟨(wrap64 (x28_1 + 1)), (by first | rfl | (simp; done) | (simp [*]; done)), H', ⟨by have := HK1.out; omega⟩, ⟨by repeat (first | (with_reducible first | exact HB.out | apply below_alloc | apply pw_below_drewN | apply below_drew1 | refine below_set ?_ GE172.out) | exact HB.out)⟩⟩
                  · rw [if_neg c13] at H
                    have c13b0 : (t173 == 0) = false := beq_eq_false_iff_ne.mpr c13
                    have c13b1 : (t173 != 0) = true := bne_iff_ne.mpr c13
                    simp only [Option.some.injEq, Prod.mk.injEq] at H
                    obtain ⟨rfl, rfl⟩ := H
                    have p171 : 0 ≤ (x28_1 : Int) := of_decide_eq_true (by first | (with_reducible assumption) | assumption)
                    have q171 : x28_1 < (l2.length : Int) := of_decide_eq_true (by first | (with_reducible assumption) | assumption)
                    obtain ⟨ad171, A171_10, c171_10, A171_11, c171_11, e171, hx171_0, hx171_1, hx171_2, hx171_3, hx171_4, hx171_5, hx171_6, hx171_7, hx171_8, hx171_9, hx171_10, hx171_11, hl171_10, hi171_10, hl171_11, hi171_11⟩ := at_T47 HR2.out x28_1 p171 q171
                    cases e171
                    replace hx171_0 := (HB.out.cell (World.block_lt_of_cell? w _ hx171_0)).trans hx171_0
                    replace hx171_1 := (HB.out.cell (World.block_lt_of_cell? w _ hx171_1)).trans hx171_1
                    replace hx171_2 := (HB.out.cell (World.block_lt_of_cell? w _ hx171_2)).trans hx171_2
                    replace hx171_3 := (HB.out.cell (World.block_lt_of_cell? w _ hx171_3)).trans hx171_3
                    replace hx171_4 := (HB.out.cell (World.block_lt_of_cell? w _ hx171_4)).trans hx171_4
                    replace hx171_5 := (HB.out.cell (World.block_lt_of_cell? w _ hx171_5)).trans hx171_5
                    replace hx171_6 := (HB.out.cell (World.block_lt_of_cell? w _ hx171_6)).trans hx171_6
                    replace hx171_7 := (HB.out.cell (World.block_lt_of_cell? w _ hx171_7)).trans hx171_7
                    replace hx171_8 := (HB.out.cell (World.block_lt_of_cell? w _ hx171_8)).trans hx171_8
                    replace hx171_9 := (HB.out.cell (World.block_lt_of_cell? w _ hx171_9)).trans hx171_9
                    replace hx171_10 := (HB.out.cell (World.block_lt_of_cell? w _ hx171_10)).trans hx171_10
                    replace hx171_11 := (HB.out.cell (World.block_lt_of_cell? w _ hx171_11)).trans hx171_11
                    have HR171_10 := Aside0.mk hi171_10
                    have HC171_10 := Aside0.mk hl171_10
                    clear hi171_10 hl171_10
                    have HR171_11 := Aside0.mk hi171_11
                    have HC171_11 := Aside0.mk hl171_11
                    clear hi171_11 hl171_11
                    replace p171 := eq_true p171
                    replace q171 := eq_true q171
                    go_wp2_with (first | ((with_reducible refine gate_dst (N := 10) rfl ?_); refine box_event ?hg (N := 10) ?hd (cs := #[.string (⟨#[]⟩ : ByteArray), .string (⟨#[]⟩ : ByteArray), .int .i64 0, .int .i64 0, .int .i64 0, .int .i64 0, .int .i64 0, .int .i64 0, .int .i64 0, .int .i64 0, .slice none 0 0, .slice none 0 0]) (t := 47) ?hr ?_; (case hd => rfl); (case hg => first | rfl | (go_simp; done)); (case hr => first | (go_simp; done) | (go_simp; rfl)); intro gb172 hg w17 hbox hb; have n0_ := Aside0.mk (below_step (by repeat (first | (with_reducible first | exact HB.out | apply below_alloc | apply pw_below_drewN | apply below_drew1) | exact HB.out)) hb); have n1_ := Aside0.mk (hbox); have n2_ := Aside0.mk ((by rw [hg]; exact (below_size (by repeat (first | (with_reducible first | exact HB.out | apply below_alloc | apply pw_below_drewN | apply below_drew1) | exact HB.out))) : w.heap.size ≤ gb172)); have n3_ := Aside0.mk ((by rw [hg]; exact (below_size (by repeat (first | (with_reducible first | exact HB.out | apply below_alloc | apply pw_below_drewN | apply below_drew1) | exact HB.out))) : w.heap.size ≤ gb172)); clear HB; have HB := n0_; have BK172 := n1_; have GW172 := n2_; have GE172 := n3_; clear n0_ n1_ n2_ n3_; clear hb hbox hg; have hcz18_0 : w17.cell? ⟨gb172, 0, none⟩ = some (.string (⟨#[]⟩ : ByteArray)) := (blk_cell BK172.out 0).trans rfl; have hcz18_1 : w17.cell? ⟨gb172, 1, none⟩ = some (.string (⟨#[]⟩ : ByteArray)) := (blk_cell BK172.out 1).trans rfl; have hcz18_2 : w17.cell? ⟨gb172, 2, none⟩ = some (.int .i64 0) := (blk_cell BK172.out 2).trans rfl; have hcz18_3 : w17.cell? ⟨gb172, 3, none⟩ = some (.int .i64 0) := (blk_cell BK172.out 3).trans rfl; have hcz18_4 : w17.cell? ⟨gb172, 4, none⟩ = some (.int .i64 0) := (blk_cell BK172.out 4).trans rfl; have hcz18_5 : w17.cell? ⟨gb172, 5, none⟩ = some (.int .i64 0) := (blk_cell BK172.out 5).trans rfl; have hcz18_6 : w17.cell? ⟨gb172, 6, none⟩ = some (.int .i64 0) := (blk_cell BK172.out 6).trans rfl; have hcz18_7 : w17.cell? ⟨gb172, 7, none⟩ = some (.int .i64 0) := (blk_cell BK172.out 7).trans rfl; have hcz18_8 : w17.cell? ⟨gb172, 8, none⟩ = some (.int .i64 0) := (blk_cell BK172.out 8).trans rfl; have hcz18_9 : w17.cell? ⟨gb172, 9, none⟩ = some (.int .i64 0) := (blk_cell BK172.out 9).trans rfl; have hcz18_10 : w17.cell? ⟨gb172, 10, none⟩ = some (.slice none 0 0) := (blk_cell BK172.out 10).trans rfl; have hcz18_11 : w17.cell? ⟨gb172, 11, none⟩ = some (.slice none 0 0) := (blk_cell BK172.out 11).trans rfl; have hfz18_0 := blk_frozen BK172.out 0; have hfz18_1 := blk_frozen BK172.out 1; have hfz18_2 := blk_frozen BK172.out 2; have hfz18_3 := blk_frozen BK172.out 3; have hfz18_4 := blk_frozen BK172.out 4; have hfz18_5 := blk_frozen BK172.out 5; have hfz18_6 := blk_frozen BK172.out 6; have hfz18_7 := blk_frozen BK172.out 7; have hfz18_8 := blk_frozen BK172.out 8; have hfz18_9 := blk_frozen BK172.out 9; have hfz18_10 := blk_frozen BK172.out 10; have hfz18_11 := blk_frozen BK172.out 11) | ((with_reducible refine gate_callee (f := 16) rfl ?_); refine goesL_ (some 38) rfl rfl Try.func16 (by kernel_rfl) rfl #[.slice A171_10 ((rd_T47 l2 x28_1).f5).length c171_10] rfl (by (try simp only [List.map_toArray, List.map_cons, List.map_nil]); first | done | rfl | (simp only [List.length_drop, List.length_take]; rfl)) ?_; (with_reducible refine (colour_Check.calls k1 _ _ ((rd_T47 l2 x28_1).f5) t173 _ ?side1 ?side2 A12.out).mono ?_); (case side1 => exact Kd.C_below HR171_10.out (by repeat (first | (with_reducible first | exact HB.out | apply below_alloc | apply pw_below_drewN | apply below_drew1 | refine below_set ?_ GE172.out) | exact HB.out))); (case side2 => exact HC171_10.out); rintro e w19 ⟨rfl, hb⟩; refine ⟨_, rfl, ?_⟩; have n0_ := Aside0.mk (blk_below (g := gb172) (o := .cells #[.string ((rd_T47 l2 x28_1).f0), .string ((rd_T47 l2 x28_1).f1), .int .i64 ((rd_T47 l2 x28_1).f2), .int .i64 ((rd_T47 l2 x28_1).f3.f0.f0), .int .i64 ((rd_T47 l2 x28_1).f3.f0.f1), .int .i64 ((rd_T47 l2 x28_1).f3.f0.f2), .int .i64 ((rd_T47 l2 x28_1).f3.f1.f0), .int .i64 ((rd_T47 l2 x28_1).f3.f1.f1), .int .i64 ((rd_T47 l2 x28_1).f3.f1.f2), .int .i64 ((rd_T47 l2 x28_1).f4), .slice A171_10 ((rd_T47 l2 x28_1).f5).length c171_10, .slice A171_11 ((rd_T47 l2 x28_1).f6).length c171_11] 47 (0, 0)) (by (with_reducible repeat (first | refine blk_drewN ?_ _ | refine blk_drew ?_ | refine blk_alloc ?_ _)); refine blk_put (cs := #[.string ((rd_T47 l2 x28_1).f0), .string ((rd_T47 l2 x28_1).f1), .int .i64 ((rd_T47 l2 x28_1).f2), .int .i64 ((rd_T47 l2 x28_1).f3.f0.f0), .int .i64 ((rd_T47 l2 x28_1).f3.f0.f1), .int .i64 ((rd_T47 l2 x28_1).f3.f0.f2), .int .i64 ((rd_T47 l2 x28_1).f3.f1.f0), .int .i64 ((rd_T47 l2 x28_1).f3.f1.f1), .int .i64 ((rd_T47 l2 x28_1).f3.f1.f2), .int .i64 ((rd_T47 l2 x28_1).f4), .slice A171_10 ((rd_T47 l2 x28_1).f5).length c171_10, .slice none 0 0]) ?_ 11 _ rfl; (with_reducible repeat (first | refine blk_drewN ?_ _ | refine blk_drew ?_ | refine blk_alloc ?_ _)); refine blk_put (cs := #[.string ((rd_T47 l2 x28_1).f0), .string ((rd_T47 l2 x28_1).f1), .int .i64 ((rd_T47 l2 x28_1).f2), .int .i64 ((rd_T47 l2 x28_1).f3.f0.f0), .int .i64 ((rd_T47 l2 x28_1).f3.f0.f1), .int .i64 ((rd_T47 l2 x28_1).f3.f0.f2), .int .i64 ((rd_T47 l2 x28_1).f3.f1.f0), .int .i64 ((rd_T47 l2 x28_1).f3.f1.f1), .int .i64 ((rd_T47 l2 x28_1).f3.f1.f2), .int .i64 ((rd_T47 l2 x28_1).f4), .slice none 0 0, .slice none 0 0]) ?_ 10 _ rfl; (with_reducible repeat (first | refine blk_drewN ?_ _ | refine blk_drew ?_ | refine blk_alloc ?_ _)); refine blk_put (cs := #[.string ((rd_T47 l2 x28_1).f0), .string ((rd_T47 l2 x28_1).f1), .int .i64 ((rd_T47 l2 x28_1).f2), .int .i64 ((rd_T47 l2 x28_1).f3.f0.f0), .int .i64 ((rd_T47 l2 x28_1).f3.f0.f1), .int .i64 ((rd_T47 l2 x28_1).f3.f0.f2), .int .i64 ((rd_T47 l2 x28_1).f3.f1.f0), .int .i64 ((rd_T47 l2 x28_1).f3.f1.f1), .int .i64 ((rd_T47 l2 x28_1).f3.f1.f2), .int .i64 0, .slice none 0 0, .slice none 0 0]) ?_ 9 _ rfl; (with_reducible repeat (first | refine blk_drewN ?_ _ | refine blk_drew ?_ | refine blk_alloc ?_ _)); refine blk_put (cs := #[.string ((rd_T47 l2 x28_1).f0), .string ((rd_T47 l2 x28_1).f1), .int .i64 ((rd_T47 l2 x28_1).f2), .int .i64 ((rd_T47 l2 x28_1).f3.f0.f0), .int .i64 ((rd_T47 l2 x28_1).f3.f0.f1), .int .i64 ((rd_T47 l2 x28_1).f3.f0.f2), .int .i64 ((rd_T47 l2 x28_1).f3.f1.f0), .int .i64 ((rd_T47 l2 x28_1).f3.f1.f1), .int .i64 0, .int .i64 0, .slice none 0 0, .slice none 0 0]) ?_ 8 _ rfl; (with_reducible repeat (first | refine blk_drewN ?_ _ | refine blk_drew ?_ | refine blk_alloc ?_ _)); refine blk_put (cs := #[.string ((rd_T47 l2 x28_1).f0), .string ((rd_T47 l2 x28_1).f1), .int .i64 ((rd_T47 l2 x28_1).f2), .int .i64 ((rd_T47 l2 x28_1).f3.f0.f0), .int .i64 ((rd_T47 l2 x28_1).f3.f0.f1), .int .i64 ((rd_T47 l2 x28_1).f3.f0.f2), .int .i64 ((rd_T47 l2 x28_1).f3.f1.f0), .int .i64 0, .int .i64 0, .int .i64 0, .slice none 0 0, .slice none 0 0]) ?_ 7 _ rfl; (with_reducible repeat (first | refine blk_drewN ?_ _ | refine blk_drew ?_ | refine blk_alloc ?_ _)); refine blk_put (cs := #[.string ((rd_T47 l2 x28_1).f0), .string ((rd_T47 l2 x28_1).f1), .int .i64 ((rd_T47 l2 x28_1).f2), .int .i64 ((rd_T47 l2 x28_1).f3.f0.f0), .int .i64 ((rd_T47 l2 x28_1).f3.f0.f1), .int .i64 ((rd_T47 l2 x28_1).f3.f0.f2), .int .i64 0, .int .i64 0, .int .i64 0, .int .i64 0, .slice none 0 0, .slice none 0 0]) ?_ 6 _ rfl; (with_reducible repeat (first | refine blk_drewN ?_ _ | refine blk_drew ?_ | refine blk_alloc ?_ _)); refine blk_put (cs := #[.string ((rd_T47 l2 x28_1).f0), .string ((rd_T47 l2 x28_1).f1), .int .i64 ((rd_T47 l2 x28_1).f2), .int .i64 ((rd_T47 l2 x28_1).f3.f0.f0), .int .i64 ((rd_T47 l2 x28_1).f3.f0.f1), .int .i64 0, .int .i64 0, .int .i64 0, .int .i64 0, .int .i64 0, .slice none 0 0, .slice none 0 0]) ?_ 5 _ rfl; (with_reducible repeat (first | refine blk_drewN ?_ _ | refine blk_drew ?_ | refine blk_alloc ?_ _)); refine blk_put (cs := #[.string ((rd_T47 l2 x28_1).f0), .string ((rd_T47 l2 x28_1).f1), .int .i64 ((rd_T47 l2 x28_1).f2), .int .i64 ((rd_T47 l2 x28_1).f3.f0.f0), .int .i64 0, .int .i64 0, .int .i64 0, .int .i64 0, .int .i64 0, .int .i64 0, .slice none 0 0, .slice none 0 0]) ?_ 4 _ rfl; (with_reducible repeat (first | refine blk_drewN ?_ _ | refine blk_drew ?_ | refine blk_alloc ?_ _)); refine blk_put (cs := #[.string ((rd_T47 l2 x28_1).f0), .string ((rd_T47 l2 x28_1).f1), .int .i64 ((rd_T47 l2 x28_1).f2), .int .i64 0, .int .i64 0, .int .i64 0, .int .i64 0, .int .i64 0, .int .i64 0, .int .i64 0, .slice none 0 0, .slice none 0 0]) ?_ 3 _ rfl; (with_reducible repeat (first | refine blk_drewN ?_ _ | refine blk_drew ?_ | refine blk_alloc ?_ _)); refine blk_put (cs := #[.string ((rd_T47 l2 x28_1).f0), .string ((rd_T47 l2 x28_1).f1), .int .i64 0, .int .i64 0, .int .i64 0, .int .i64 0, .int .i64 0, .int .i64 0, .int .i64 0, .int .i64 0, .slice none 0 0, .slice none 0 0]) ?_ 2 _ rfl; (with_reducible repeat (first | refine blk_drewN ?_ _ | refine blk_drew ?_ | refine blk_alloc ?_ _)); refine blk_put (cs := #[.string ((rd_T47 l2 x28_1).f0), .string (⟨#[]⟩ : ByteArray), .int .i64 0, .int .i64 0, .int .i64 0, .int .i64 0, .int .i64 0, .int .i64 0, .int .i64 0, .int .i64 0, .slice none 0 0, .slice none 0 0]) ?_ 1 _ rfl; (with_reducible repeat (first | refine blk_drewN ?_ _ | refine blk_drew ?_ | refine blk_alloc ?_ _)); refine blk_put (cs := #[.string (⟨#[]⟩ : ByteArray), .string (⟨#[]⟩ : ByteArray), .int .i64 0, .int .i64 0, .int .i64 0, .int .i64 0, .int .i64 0, .int .i64 0, .int .i64 0, .int .i64 0, .slice none 0 0, .slice none 0 0]) ?_ 0 _ rfl; (with_reducible repeat (first | refine blk_drewN ?_ _ | refine blk_drew ?_ | refine blk_alloc ?_ _)); exact BK172.out) hb); have n1_ := Aside0.mk (below_step (by repeat (first | (with_reducible first | exact HB.out | apply below_alloc | apply pw_below_drewN | apply below_drew1 | refine below_set ?_ GE172.out) | exact HB.out)) hb); clear BK172; clear HB; have BK172 := n0_; have HB := n1_; clear n0_ n1_; (try clear hb); (try clear hb2); (try clear hk); (try clear hi)))
                    go_ret2
                    exact ⟨by first | rfl | (simp [errW_none, errW_some] <;> rfl) | (simp [*, errW_none, errW_some] <;> rfl), by repeat (first | (with_reducible first | exact HB.out | apply below_alloc | apply pw_below_drewN | apply below_drew1 | refine below_set ?_ GE172.out) | exact HB.out)⟩
                · rw [if_neg c11] at H
                  have c11b0 : (((rd_T47 l2 x28_1).f4) == a1) = false := beq_eq_false_iff_ne.mpr c11
                  have c11b1 : (((rd_T47 l2 x28_1).f4) != a1) = true := bne_iff_ne.mpr c11
                  have H' := Aside0.mk H
                  clear H
                  have p171 : 0 ≤ (x28_1 : Int) := of_decide_eq_true (by first | (with_reducible assumption) | assumption)
                  have q171 : x28_1 < (l2.length : Int) := of_decide_eq_true (by first | (with_reducible assumption) | assumption)
                  obtain ⟨ad171, A171_10, c171_10, A171_11, c171_11, e171, hx171_0, hx171_1, hx171_2, hx171_3, hx171_4, hx171_5, hx171_6, hx171_7, hx171_8, hx171_9, hx171_10, hx171_11, hl171_10, hi171_10, hl171_11, hi171_11⟩ := at_T47 HR2.out x28_1 p171 q171
                  cases e171
                  replace hx171_0 := (HB.out.cell (World.block_lt_of_cell? w _ hx171_0)).trans hx171_0
                  replace hx171_1 := (HB.out.cell (World.block_lt_of_cell? w _ hx171_1)).trans hx171_1
                  replace hx171_2 := (HB.out.cell (World.block_lt_of_cell? w _ hx171_2)).trans hx171_2
                  replace hx171_3 := (HB.out.cell (World.block_lt_of_cell? w _ hx171_3)).trans hx171_3
                  replace hx171_4 := (HB.out.cell (World.block_lt_of_cell? w _ hx171_4)).trans hx171_4
                  replace hx171_5 := (HB.out.cell (World.block_lt_of_cell? w _ hx171_5)).trans hx171_5
                  replace hx171_6 := (HB.out.cell (World.block_lt_of_cell? w _ hx171_6)).trans hx171_6
                  replace hx171_7 := (HB.out.cell (World.block_lt_of_cell? w _ hx171_7)).trans hx171_7
                  replace hx171_8 := (HB.out.cell (World.block_lt_of_cell? w _ hx171_8)).trans hx171_8
                  replace hx171_9 := (HB.out.cell (World.block_lt_of_cell? w _ hx171_9)).trans hx171_9
                  replace hx171_10 := (HB.out.cell (World.block_lt_of_cell? w _ hx171_10)).trans hx171_10
                  replace hx171_11 := (HB.out.cell (World.block_lt_of_cell? w _ hx171_11)).trans hx171_11
                  have HR171_10 := Aside0.mk hi171_10
                  have HC171_10 := Aside0.mk hl171_10
                  clear hi171_10 hl171_10
                  have HR171_11 := Aside0.mk hi171_11
                  have HC171_11 := Aside0.mk hl171_11
                  clear hi171_11 hl171_11
                  replace p171 := eq_true p171
                  replace q171 := eq_true q171
                  go_wp2_with (first | ((with_reducible refine gate_dst (N := 10) rfl ?_); refine box_event ?hg (N := 10) ?hd (cs := #[.string (⟨#[]⟩ : ByteArray), .string (⟨#[]⟩ : ByteArray), .int .i64 0, .int .i64 0, .int .i64 0, .int .i64 0, .int .i64 0, .int .i64 0, .int .i64 0, .int .i64 0, .slice none 0 0, .slice none 0 0]) (t := 47) ?hr ?_; (case hd => rfl); (case hg => first | rfl | (go_simp; done)); (case hr => first | (go_simp; done) | (go_simp; rfl)); intro gb172 hg w20 hbox hb; have n0_ := Aside0.mk (below_step (by repeat (first | (with_reducible first | exact HB.out | apply below_alloc | apply pw_below_drewN | apply below_drew1) | exact HB.out)) hb); have n1_ := Aside0.mk (hbox); have n2_ := Aside0.mk ((by rw [hg]; exact (below_size (by repeat (first | (with_reducible first | exact HB.out | apply below_alloc | apply pw_below_drewN | apply below_drew1) | exact HB.out))) : w.heap.size ≤ gb172)); have n3_ := Aside0.mk ((by rw [hg]; exact (below_size (by repeat (first | (with_reducible first | exact HB.out | apply below_alloc | apply pw_below_drewN | apply below_drew1) | exact HB.out))) : w.heap.size ≤ gb172)); clear HB; have HB := n0_; have BK172 := n1_; have GW172 := n2_; have GE172 := n3_; clear n0_ n1_ n2_ n3_; clear hb hbox hg; have hcz21_0 : w20.cell? ⟨gb172, 0, none⟩ = some (.string (⟨#[]⟩ : ByteArray)) := (blk_cell BK172.out 0).trans rfl; have hcz21_1 : w20.cell? ⟨gb172, 1, none⟩ = some (.string (⟨#[]⟩ : ByteArray)) := (blk_cell BK172.out 1).trans rfl; have hcz21_2 : w20.cell? ⟨gb172, 2, none⟩ = some (.int .i64 0) := (blk_cell BK172.out 2).trans rfl; have hcz21_3 : w20.cell? ⟨gb172, 3, none⟩ = some (.int .i64 0) := (blk_cell BK172.out 3).trans rfl; have hcz21_4 : w20.cell? ⟨gb172, 4, none⟩ = some (.int .i64 0) := (blk_cell BK172.out 4).trans rfl; have hcz21_5 : w20.cell? ⟨gb172, 5, none⟩ = some (.int .i64 0) := (blk_cell BK172.out 5).trans rfl; have hcz21_6 : w20.cell? ⟨gb172, 6, none⟩ = some (.int .i64 0) := (blk_cell BK172.out 6).trans rfl; have hcz21_7 : w20.cell? ⟨gb172, 7, none⟩ = some (.int .i64 0) := (blk_cell BK172.out 7).trans rfl; have hcz21_8 : w20.cell? ⟨gb172, 8, none⟩ = some (.int .i64 0) := (blk_cell BK172.out 8).trans rfl; have hcz21_9 : w20.cell? ⟨gb172, 9, none⟩ = some (.int .i64 0) := (blk_cell BK172.out 9).trans rfl; have hcz21_10 : w20.cell? ⟨gb172, 10, none⟩ = some (.slice none 0 0) := (blk_cell BK172.out 10).trans rfl; have hcz21_11 : w20.cell? ⟨gb172, 11, none⟩ = some (.slice none 0 0) := (blk_cell BK172.out 11).trans rfl; have hfz21_0 := blk_frozen BK172.out 0; have hfz21_1 := blk_frozen BK172.out 1; have hfz21_2 := blk_frozen BK172.out 2; have hfz21_3 := blk_frozen BK172.out 3; have hfz21_4 := blk_frozen BK172.out 4; have hfz21_5 := blk_frozen BK172.out 5; have hfz21_6 := blk_frozen BK172.out 6; have hfz21_7 := blk_frozen BK172.out 7; have hfz21_8 := blk_frozen BK172.out 8; have hfz21_9 := blk_frozen BK172.out 9; have hfz21_10 := blk_frozen BK172.out 10; have hfz21_11 := blk_frozen BK172.out 11))
                  go_roundg k1
                  case measure => have := HK1.out; omega
                  case rel => exact ⟨(wrap64 (x28_1 + 1)), (by first | rfl | (simp; done) | (simp [*]; done)), H', ⟨by have := HK1.out; omega⟩, ⟨by repeat (first | (with_reducible first | exact HB.out | apply below_alloc | apply pw_below_drewN | apply below_drew1 | refine below_set ?_ GE172.out) | exact HB.out)⟩⟩
              · rw [if_neg c10] at H
                exact absurd H (by simp)
            · rw [if_neg c9] at H
              exact absurd H (by simp)
          · rw [if_neg c8] at H
            have c8b0 : decide (x28_1 < (l2.length : Int)) = false := decide_eq_false c8
            clear c8
            have H' := Aside0.mk H
            clear H
            go_wp2
            go_loopg [12, 13, 45] k1 (fun kq v12 v13 v45 w' => ∃ (x12_2 : Int) (x13_2 : Int) (x45_2 : Int), v12 = .int .i64 x12_2 ∧ v13 = .int .i64 x13_2 ∧ v45 = .int .i64 x45_2 ∧ Aside0 (colour_Nearest.l1 kq l0 a1 x12_2 x13_2 l2 (l2.length : Int) x45_2 = some (r1, r2)) ∧ Aside0 (kq ≤ k1) ∧ Aside0 (Below w.heap.size w w'))
            case atStart => exact ⟨((-1)), (0), (0), (by first | rfl | (simp; done) | (simp [*]; done)), (by first | rfl | (simp; done) | (simp [*]; done)), (by first | rfl | (simp; done) | (simp [*]; done)), H', ⟨Nat.le_refl _⟩, ⟨by repeat (first | (with_reducible first | exact HB.out | apply below_alloc | apply pw_below_drewN | apply below_drew1) | exact HB.out)⟩⟩
            case round =>
              clear H'
              try clear c1
              try clear p1
              try clear q1
              try clear hx1
              try clear c2
              try clear p2
              try clear c3
              try clear c4
              try clear c4b0
              try clear c4b1
              try clear c6
              try clear c6b0
              try clear c6b1
              try clear p6
              try clear c8
              try clear c8b0
              try clear c9
              try clear c9b0
              try clear c10
              try clear c10b0
              try clear c11
              try clear c11b0
              try clear c11b1
              try clear c13
              try clear c13b0
              try clear c13b1
              try clear c16
              try clear c17
              try clear p17
              try clear q17
              try clear hx17
              try clear hcz15_0
              try clear hcz15_1
              try clear hcz15_10
              try clear hcz15_11
              try clear hcz15_2
              try clear hcz15_3
              try clear hcz15_4
              try clear hcz15_5
              try clear hcz15_6
              try clear hcz15_7
              try clear hcz15_8
              try clear hcz15_9
              try clear hcz18_0
              try clear hcz18_1
              try clear hcz18_10
              try clear hcz18_11
              try clear hcz18_2
              try clear hcz18_3
              try clear hcz18_4
              try clear hcz18_5
              try clear hcz18_6
              try clear hcz18_7
              try clear hcz18_8
              try clear hcz18_9
              try clear hcz21_0
              try clear hcz21_1
              try clear hcz21_10
              try clear hcz21_11
              try clear hcz21_2
              try clear hcz21_3
              try clear hcz21_4
              try clear hcz21_5
              try clear hcz21_6
              try clear hcz21_7
              try clear hcz21_8
              try clear hcz21_9
              try clear hfz15_0
              try clear hfz15_1
              try clear hfz15_10
              try clear hfz15_11
              try clear hfz15_2
              try clear hfz15_3
              try clear hfz15_4
              try clear hfz15_5
              try clear hfz15_6
              try clear hfz15_7
              try clear hfz15_8
              try clear hfz15_9
              try clear hfz18_0
              try clear hfz18_1
              try clear hfz18_10
              try clear hfz18_11
              try clear hfz18_2
              try clear hfz18_3
              try clear hfz18_4
              try clear hfz18_5
              try clear hfz18_6
              try clear hfz18_7
              try clear hfz18_8
              try clear hfz18_9
              try clear hfz21_0
              try clear hfz21_1
              try clear hfz21_10
              try clear hfz21_11
              try clear hfz21_2
              try clear hfz21_3
              try clear hfz21_4
              try clear hfz21_5
              try clear hfz21_6
              try clear hfz21_7
              try clear hfz21_8
              try clear hfz21_9
              try clear hx171_0
              try clear hx171_1
              try clear hx171_10
              try clear hx171_11
              try clear hx171_2
              try clear hx171_3
              try clear hx171_4
              try clear hx171_5
              try clear hx171_6
              try clear hx171_7
              try clear hx171_8
              try clear hx171_9
              try clear p171
              try clear p2
              try clear q171
              obtain ⟨x12_2, x13_2, x45_2, rfl, rfl, rfl, HA, HK2, HB⟩ := hrel
              cases gk with
              | zero => exact absurd HA.out (by simp [colour_Nearest.l1])
              | succ k2 =>
                have H := HA.out
                clear HA
                simp only [colour_Nearest.l1] at H
                by_cases c22 : x45_2 < (l2.length : Int)
                · rw [if_pos c22] at H
                  have c22b0 : decide (x45_2 < (l2.length : Int)) = true := decide_eq_true c22
                  clear c22
                  by_cases c23 : 0 ≤ x45_2
                  · rw [if_pos c23] at H
                    have c23b0 : decide (0 ≤ x45_2) = true := decide_eq_true c23
                    clear c23
                    by_cases c24 : x45_2 < (l2.length : Int)
                    · rw [if_pos c24] at H
                      have c24b0 : decide (x45_2 < (l2.length : Int)) = true := decide_eq_true c24
                      clear c24
                      by_cases c25 : ((rd_T47 l2 x45_2).f4) = a1
                      · rw [if_pos c25] at H
                        have c25b0 : (((rd_T47 l2 x45_2).f4) == a1) = true := beq_iff_eq.mpr c25
                        have c25b1 : (((rd_T47 l2 x45_2).f4) != a1) = false := bne_eq_false_iff_eq.mpr c25
                        clear c25
                        replace H := Option.bind_eq_some_iff.mp H
                        obtain ⟨⟨t176, t177⟩, A260, H⟩ := H
                        replace H : (if t177 = 0 then (if x12_2 < 0 then (colour_Nearest.l1 k2 l0 a1 x45_2 t176 l2 (l2.length : Int) (wrap64 (x45_2 + 1))) else (if t176 < x13_2 then (colour_Nearest.l1 k2 l0 a1 x45_2 t176 l2 (l2.length : Int) (wrap64 (x45_2 + 1))) else (colour_Nearest.l1 k2 l0 a1 x12_2 x13_2 l2 (l2.length : Int) (wrap64 (x45_2 + 1))))) else (some (0, t177))) = some (r1, r2) := H
                        have A26 := Aside0.mk A260
                        clear A260
                        by_cases c27 : t177 = 0
                        · rw [if_pos c27] at H
                          have c27b0 : (t177 == 0) = true := beq_iff_eq.mpr c27
                          have c27b1 : (t177 != 0) = false := bne_eq_false_iff_eq.mpr c27
                          clear c27
                          by_cases c28 : x12_2 < 0
                          · rw [if_pos c28] at H
                            have c28b0 : decide (x12_2 < 0) = true := decide_eq_true c28
                            clear c28
                            have H' := Aside0.mk H
                            clear H
                            have p174 : 0 ≤ (x45_2 : Int) := of_decide_eq_true (by first | (with_reducible assumption) | assumption)
                            have q174 : x45_2 < (l2.length : Int) := of_decide_eq_true (by first | (with_reducible assumption) | assumption)
                            obtain ⟨ad174, A174_10, c174_10, A174_11, c174_11, e174, hx174_0, hx174_1, hx174_2, hx174_3, hx174_4, hx174_5, hx174_6, hx174_7, hx174_8, hx174_9, hx174_10, hx174_11, hl174_10, hi174_10, hl174_11, hi174_11⟩ := at_T47 HR2.out x45_2 p174 q174
                            cases e174
                            replace hx174_0 := (HB.out.cell (World.block_lt_of_cell? w _ hx174_0)).trans hx174_0
                            replace hx174_1 := (HB.out.cell (World.block_lt_of_cell? w _ hx174_1)).trans hx174_1
                            replace hx174_2 := (HB.out.cell (World.block_lt_of_cell? w _ hx174_2)).trans hx174_2
                            replace hx174_3 := (HB.out.cell (World.block_lt_of_cell? w _ hx174_3)).trans hx174_3
                            replace hx174_4 := (HB.out.cell (World.block_lt_of_cell? w _ hx174_4)).trans hx174_4
                            replace hx174_5 := (HB.out.cell (World.block_lt_of_cell? w _ hx174_5)).trans hx174_5
                            replace hx174_6 := (HB.out.cell (World.block_lt_of_cell? w _ hx174_6)).trans hx174_6
                            replace hx174_7 := (HB.out.cell (World.block_lt_of_cell? w _ hx174_7)).trans hx174_7
                            replace hx174_8 := (HB.out.cell (World.block_lt_of_cell? w _ hx174_8)).trans hx174_8
                            replace hx174_9 := (HB.out.cell (World.block_lt_of_cell? w _ hx174_9)).trans hx174_9
                            replace hx174_10 := (HB.out.cell (World.block_lt_of_cell? w _ hx174_10)).trans hx174_10
                            replace hx174_11 := (HB.out.cell (World.block_lt_of_cell? w _ hx174_11)).trans hx174_11
                            have HR174_10 := Aside0.mk hi174_10
                            have HC174_10 := Aside0.mk hl174_10
                            clear hi174_10 hl174_10
                            have HR174_11 := Aside0.mk hi174_11
                            have HC174_11 := Aside0.mk hl174_11
                            clear hi174_11 hl174_11
                            replace p174 := eq_true p174
                            replace q174 := eq_true q174
                            go_wp2_with (first | ((with_reducible refine gate_dst (N := 15) rfl ?_); refine box_event ?hg (N := 15) ?hd (cs := #[.string (⟨#[]⟩ : ByteArray), .string (⟨#[]⟩ : ByteArray), .int .i64 0, .int .i64 0, .int .i64 0, .int .i64 0, .int .i64 0, .int .i64 0, .int .i64 0, .int .i64 0, .slice none 0 0, .slice none 0 0]) (t := 47) ?hr ?_; (case hd => rfl); (case hg => first | rfl | (go_simp; done)); (case hr => first | (go_simp; done) | (go_simp; rfl)); intro gb175 hg w29 hbox hb; have n0_ := Aside0.mk (below_step (by repeat (first | (with_reducible first | exact HB.out | apply below_alloc | apply pw_below_drewN | apply below_drew1) | exact HB.out)) hb); have n1_ := Aside0.mk (hbox); have n2_ := Aside0.mk ((by rw [hg]; exact (below_size (by repeat (first | (with_reducible first | exact HB.out | apply below_alloc | apply pw_below_drewN | apply below_drew1) | exact HB.out))) : w.heap.size ≤ gb175)); have n3_ := Aside0.mk ((by rw [hg]; exact (below_size (by repeat (first | (with_reducible first | exact HB.out | apply below_alloc | apply pw_below_drewN | apply below_drew1) | exact HB.out))) : w.heap.size ≤ gb175)); clear HB; have HB := n0_; have BK175 := n1_; have GW175 := n2_; have GE175 := n3_; clear n0_ n1_ n2_ n3_; clear hb hbox hg; have hcz30_0 : w29.cell? ⟨gb175, 0, none⟩ = some (.string (⟨#[]⟩ : ByteArray)) := (blk_cell BK175.out 0).trans rfl; have hcz30_1 : w29.cell? ⟨gb175, 1, none⟩ = some (.string (⟨#[]⟩ : ByteArray)) := (blk_cell BK175.out 1).trans rfl; have hcz30_2 : w29.cell? ⟨gb175, 2, none⟩ = some (.int .i64 0) := (blk_cell BK175.out 2).trans rfl; have hcz30_3 : w29.cell? ⟨gb175, 3, none⟩ = some (.int .i64 0) := (blk_cell BK175.out 3).trans rfl; have hcz30_4 : w29.cell? ⟨gb175, 4, none⟩ = some (.int .i64 0) := (blk_cell BK175.out 4).trans rfl; have hcz30_5 : w29.cell? ⟨gb175, 5, none⟩ = some (.int .i64 0) := (blk_cell BK175.out 5).trans rfl; have hcz30_6 : w29.cell? ⟨gb175, 6, none⟩ = some (.int .i64 0) := (blk_cell BK175.out 6).trans rfl; have hcz30_7 : w29.cell? ⟨gb175, 7, none⟩ = some (.int .i64 0) := (blk_cell BK175.out 7).trans rfl; have hcz30_8 : w29.cell? ⟨gb175, 8, none⟩ = some (.int .i64 0) := (blk_cell BK175.out 8).trans rfl; have hcz30_9 : w29.cell? ⟨gb175, 9, none⟩ = some (.int .i64 0) := (blk_cell BK175.out 9).trans rfl; have hcz30_10 : w29.cell? ⟨gb175, 10, none⟩ = some (.slice none 0 0) := (blk_cell BK175.out 10).trans rfl; have hcz30_11 : w29.cell? ⟨gb175, 11, none⟩ = some (.slice none 0 0) := (blk_cell BK175.out 11).trans rfl; have hfz30_0 := blk_frozen BK175.out 0; have hfz30_1 := blk_frozen BK175.out 1; have hfz30_2 := blk_frozen BK175.out 2; have hfz30_3 := blk_frozen BK175.out 3; have hfz30_4 := blk_frozen BK175.out 4; have hfz30_5 := blk_frozen BK175.out 5; have hfz30_6 := blk_frozen BK175.out 6; have hfz30_7 := blk_frozen BK175.out 7; have hfz30_8 := blk_frozen BK175.out 8; have hfz30_9 := blk_frozen BK175.out 9; have hfz30_10 := blk_frozen BK175.out 10; have hfz30_11 := blk_frozen BK175.out 11) | ((with_reducible refine gate_callee (f := 20) rfl ?_); refine goesL_ (some 58) rfl rfl Try.func20 (by kernel_rfl) rfl #[.slice A0 l0.length c0, .slice A174_10 ((rd_T47 l2 x45_2).f5).length c174_10] rfl (by (try simp only [List.map_toArray, List.map_cons, List.map_nil]); first | done | rfl | (simp only [List.length_drop, List.length_take]; rfl)) ?_; (with_reducible refine (colour_Mismatch.calls k2 _ _ l0 _ _ ((rd_T47 l2 x45_2).f5) t176 t177 _ ?side1 ?side2 ?side3 ?side4 A26.out).mono ?_); (case side1 => exact Kd.C_below HR0.out (by repeat (first | (with_reducible first | exact HB.out | apply below_alloc | apply pw_below_drewN | apply below_drew1 | refine below_set ?_ GE175.out) | exact HB.out))); (case side2 => exact HC0.out); (case side3 => exact Kd.C_below HR174_10.out (by repeat (first | (with_reducible first | exact HB.out | apply below_alloc | apply pw_below_drewN | apply below_drew1 | refine below_set ?_ GE175.out) | exact HB.out))); (case side4 => exact HC174_10.out); rintro e w31 ⟨rfl, hb⟩; refine ⟨_, rfl, ?_⟩; have n0_ := Aside0.mk (blk_below (g := gb175) (o := .cells #[.string ((rd_T47 l2 x45_2).f0), .string ((rd_T47 l2 x45_2).f1), .int .i64 ((rd_T47 l2 x45_2).f2), .int .i64 ((rd_T47 l2 x45_2).f3.f0.f0), .int .i64 ((rd_T47 l2 x45_2).f3.f0.f1), .int .i64 ((rd_T47 l2 x45_2).f3.f0.f2), .int .i64 ((rd_T47 l2 x45_2).f3.f1.f0), .int .i64 ((rd_T47 l2 x45_2).f3.f1.f1), .int .i64 ((rd_T47 l2 x45_2).f3.f1.f2), .int .i64 ((rd_T47 l2 x45_2).f4), .slice A174_10 ((rd_T47 l2 x45_2).f5).length c174_10, .slice A174_11 ((rd_T47 l2 x45_2).f6).length c174_11] 47 (0, 0)) (by (with_reducible repeat (first | refine blk_drewN ?_ _ | refine blk_drew ?_ | refine blk_alloc ?_ _)); refine blk_put (cs := #[.string ((rd_T47 l2 x45_2).f0), .string ((rd_T47 l2 x45_2).f1), .int .i64 ((rd_T47 l2 x45_2).f2), .int .i64 ((rd_T47 l2 x45_2).f3.f0.f0), .int .i64 ((rd_T47 l2 x45_2).f3.f0.f1), .int .i64 ((rd_T47 l2 x45_2).f3.f0.f2), .int .i64 ((rd_T47 l2 x45_2).f3.f1.f0), .int .i64 ((rd_T47 l2 x45_2).f3.f1.f1), .int .i64 ((rd_T47 l2 x45_2).f3.f1.f2), .int .i64 ((rd_T47 l2 x45_2).f4), .slice A174_10 ((rd_T47 l2 x45_2).f5).length c174_10, .slice none 0 0]) ?_ 11 _ rfl; (with_reducible repeat (first | refine blk_drewN ?_ _ | refine blk_drew ?_ | refine blk_alloc ?_ _)); refine blk_put (cs := #[.string ((rd_T47 l2 x45_2).f0), .string ((rd_T47 l2 x45_2).f1), .int .i64 ((rd_T47 l2 x45_2).f2), .int .i64 ((rd_T47 l2 x45_2).f3.f0.f0), .int .i64 ((rd_T47 l2 x45_2).f3.f0.f1), .int .i64 ((rd_T47 l2 x45_2).f3.f0.f2), .int .i64 ((rd_T47 l2 x45_2).f3.f1.f0), .int .i64 ((rd_T47 l2 x45_2).f3.f1.f1), .int .i64 ((rd_T47 l2 x45_2).f3.f1.f2), .int .i64 ((rd_T47 l2 x45_2).f4), .slice none 0 0, .slice none 0 0]) ?_ 10 _ rfl; (with_reducible repeat (first | refine blk_drewN ?_ _ | refine blk_drew ?_ | refine blk_alloc ?_ _)); refine blk_put (cs := #[.string ((rd_T47 l2 x45_2).f0), .string ((rd_T47 l2 x45_2).f1), .int .i64 ((rd_T47 l2 x45_2).f2), .int .i64 ((rd_T47 l2 x45_2).f3.f0.f0), .int .i64 ((rd_T47 l2 x45_2).f3.f0.f1), .int .i64 ((rd_T47 l2 x45_2).f3.f0.f2), .int .i64 ((rd_T47 l2 x45_2).f3.f1.f0), .int .i64 ((rd_T47 l2 x45_2).f3.f1.f1), .int .i64 ((rd_T47 l2 x45_2).f3.f1.f2), .int .i64 0, .slice none 0 0, .slice none 0 0]) ?_ 9 _ rfl; (with_reducible repeat (first | refine blk_drewN ?_ _ | refine blk_drew ?_ | refine blk_alloc ?_ _)); refine blk_put (cs := #[.string ((rd_T47 l2 x45_2).f0), .string ((rd_T47 l2 x45_2).f1), .int .i64 ((rd_T47 l2 x45_2).f2), .int .i64 ((rd_T47 l2 x45_2).f3.f0.f0), .int .i64 ((rd_T47 l2 x45_2).f3.f0.f1), .int .i64 ((rd_T47 l2 x45_2).f3.f0.f2), .int .i64 ((rd_T47 l2 x45_2).f3.f1.f0), .int .i64 ((rd_T47 l2 x45_2).f3.f1.f1), .int .i64 0, .int .i64 0, .slice none 0 0, .slice none 0 0]) ?_ 8 _ rfl; (with_reducible repeat (first | refine blk_drewN ?_ _ | refine blk_drew ?_ | refine blk_alloc ?_ _)); refine blk_put (cs := #[.string ((rd_T47 l2 x45_2).f0), .string ((rd_T47 l2 x45_2).f1), .int .i64 ((rd_T47 l2 x45_2).f2), .int .i64 ((rd_T47 l2 x45_2).f3.f0.f0), .int .i64 ((rd_T47 l2 x45_2).f3.f0.f1), .int .i64 ((rd_T47 l2 x45_2).f3.f0.f2), .int .i64 ((rd_T47 l2 x45_2).f3.f1.f0), .int .i64 0, .int .i64 0, .int .i64 0, .slice none 0 0, .slice none 0 0]) ?_ 7 _ rfl; (with_reducible repeat (first | refine blk_drewN ?_ _ | refine blk_drew ?_ | refine blk_alloc ?_ _)); refine blk_put (cs := #[.string ((rd_T47 l2 x45_2).f0), .string ((rd_T47 l2 x45_2).f1), .int .i64 ((rd_T47 l2 x45_2).f2), .int .i64 ((rd_T47 l2 x45_2).f3.f0.f0), .int .i64 ((rd_T47 l2 x45_2).f3.f0.f1), .int .i64 ((rd_T47 l2 x45_2).f3.f0.f2), .int .i64 0, .int .i64 0, .int .i64 0, .int .i64 0, .slice none 0 0, .slice none 0 0]) ?_ 6 _ rfl; (with_reducible repeat (first | refine blk_drewN ?_ _ | refine blk_drew ?_ | refine blk_alloc ?_ _)); refine blk_put (cs := #[.string ((rd_T47 l2 x45_2).f0), .string ((rd_T47 l2 x45_2).f1), .int .i64 ((rd_T47 l2 x45_2).f2), .int .i64 ((rd_T47 l2 x45_2).f3.f0.f0), .int .i64 ((rd_T47 l2 x45_2).f3.f0.f1), .int .i64 0, .int .i64 0, .int .i64 0, .int .i64 0, .int .i64 0, .slice none 0 0, .slice none 0 0]) ?_ 5 _ rfl; (with_reducible repeat (first | refine blk_drewN ?_ _ | refine blk_drew ?_ | refine blk_alloc ?_ _)); refine blk_put (cs := #[.string ((rd_T47 l2 x45_2).f0), .string ((rd_T47 l2 x45_2).f1), .int .i64 ((rd_T47 l2 x45_2).f2), .int .i64 ((rd_T47 l2 x45_2).f3.f0.f0), .int .i64 0, .int .i64 0, .int .i64 0, .int .i64 0, .int .i64 0, .int .i64 0, .slice none 0 0, .slice none 0 0]) ?_ 4 _ rfl; (with_reducible repeat (first | refine blk_drewN ?_ _ | refine blk_drew ?_ | refine blk_alloc ?_ _)); refine blk_put (cs := #[.string ((rd_T47 l2 x45_2).f0), .string ((rd_T47 l2 x45_2).f1), .int .i64 ((rd_T47 l2 x45_2).f2), .int .i64 0, .int .i64 0, .int .i64 0, .int .i64 0, .int .i64 0, .int .i64 0, .int .i64 0, .slice none 0 0, .slice none 0 0]) ?_ 3 _ rfl; (with_reducible repeat (first | refine blk_drewN ?_ _ | refine blk_drew ?_ | refine blk_alloc ?_ _)); refine blk_put (cs := #[.string ((rd_T47 l2 x45_2).f0), .string ((rd_T47 l2 x45_2).f1), .int .i64 0, .int .i64 0, .int .i64 0, .int .i64 0, .int .i64 0, .int .i64 0, .int .i64 0, .int .i64 0, .slice none 0 0, .slice none 0 0]) ?_ 2 _ rfl; (with_reducible repeat (first | refine blk_drewN ?_ _ | refine blk_drew ?_ | refine blk_alloc ?_ _)); refine blk_put (cs := #[.string ((rd_T47 l2 x45_2).f0), .string (⟨#[]⟩ : ByteArray), .int .i64 0, .int .i64 0, .int .i64 0, .int .i64 0, .int .i64 0, .int .i64 0, .int .i64 0, .int .i64 0, .slice none 0 0, .slice none 0 0]) ?_ 1 _ rfl; (with_reducible repeat (first | refine blk_drewN ?_ _ | refine blk_drew ?_ | refine blk_alloc ?_ _)); refine blk_put (cs := #[.string (⟨#[]⟩ : ByteArray), .string (⟨#[]⟩ : ByteArray), .int .i64 0, .int .i64 0, .int .i64 0, .int .i64 0, .int .i64 0, .int .i64 0, .int .i64 0, .int .i64 0, .slice none 0 0, .slice none 0 0]) ?_ 0 _ rfl; (with_reducible repeat (first | refine blk_drewN ?_ _ | refine blk_drew ?_ | refine blk_alloc ?_ _)); exact BK175.out) hb); have n1_ := Aside0.mk (below_step (by repeat (first | (with_reducible first | exact HB.out | apply below_alloc | apply pw_below_drewN | apply below_drew1 | refine below_set ?_ GE175.out) | exact HB.out)) hb); clear BK175; clear HB; have BK175 := n0_; have HB := n1_; clear n0_ n1_; (try clear hb); (try clear hb2); (try clear hk); (try clear hi)))
                            go_roundg k2
                            case measure => have := HK1.out; have := HK2.out; omega
                            case rel => exact ⟨(x45_2), (t176), (wrap64 (x45_2 + 1)), (by first | rfl | (simp; done) | (simp [*]; done)), (by first | rfl | (simp; done) | (simp [*]; done)), (by first | rfl | (simp; done) | (simp [*]; done)), H', ⟨by have := HK1.out; have := HK2.out; omega⟩, ⟨by repeat (first | (with_reducible first | exact HB.out | apply below_alloc | apply pw_below_drewN | apply below_drew1 | refine below_set ?_ GE175.out) | exact HB.out)⟩⟩
                          · rw [if_neg c28] at H
                            have c28b0 : decide (x12_2 < 0) = false := decide_eq_false c28
                            clear c28
                            by_cases c32 : t176 < x13_2
                            · rw [if_pos c32] at H
                              have c32b0 : decide (t176 < x13_2) = true := decide_eq_true c32
                              clear c32
                              have H' := Aside0.mk H
                              clear H
                              have p174 : 0 ≤ (x45_2 : Int) := of_decide_eq_true (by first | (with_reducible assumption) | assumption)
                              have q174 : x45_2 < (l2.length : Int) := of_decide_eq_true (by first | (with_reducible assumption) | assumption)
                              obtain ⟨ad174, A174_10, c174_10, A174_11, c174_11, e174, hx174_0, hx174_1, hx174_2, hx174_3, hx174_4, hx174_5, hx174_6, hx174_7, hx174_8, hx174_9, hx174_10, hx174_11, hl174_10, hi174_10, hl174_11, hi174_11⟩ := at_T47 HR2.out x45_2 p174 q174
                              cases e174
                              replace hx174_0 := (HB.out.cell (World.block_lt_of_cell? w _ hx174_0)).trans hx174_0
                              replace hx174_1 := (HB.out.cell (World.block_lt_of_cell? w _ hx174_1)).trans hx174_1
                              replace hx174_2 := (HB.out.cell (World.block_lt_of_cell? w _ hx174_2)).trans hx174_2
                              replace hx174_3 := (HB.out.cell (World.block_lt_of_cell? w _ hx174_3)).trans hx174_3
                              replace hx174_4 := (HB.out.cell (World.block_lt_of_cell? w _ hx174_4)).trans hx174_4
                              replace hx174_5 := (HB.out.cell (World.block_lt_of_cell? w _ hx174_5)).trans hx174_5
                              replace hx174_6 := (HB.out.cell (World.block_lt_of_cell? w _ hx174_6)).trans hx174_6
                              replace hx174_7 := (HB.out.cell (World.block_lt_of_cell? w _ hx174_7)).trans hx174_7
                              replace hx174_8 := (HB.out.cell (World.block_lt_of_cell? w _ hx174_8)).trans hx174_8
                              replace hx174_9 := (HB.out.cell (World.block_lt_of_cell? w _ hx174_9)).trans hx174_9
                              replace hx174_10 := (HB.out.cell (World.block_lt_of_cell? w _ hx174_10)).trans hx174_10
                              replace hx174_11 := (HB.out.cell (World.block_lt_of_cell? w _ hx174_11)).trans hx174_11
                              have HR174_10 := Aside0.mk hi174_10
                              have HC174_10 := Aside0.mk hl174_10
                              clear hi174_10 hl174_10
                              have HR174_11 := Aside0.mk hi174_11
                              have HC174_11 := Aside0.mk hl174_11
                              clear hi174_11 hl174_11
                              replace p174 := eq_true p174
                              replace q174 := eq_true q174
                              go_wp2_with (first | ((with_reducible refine gate_dst (N := 15) rfl ?_); refine box_event ?hg (N := 15) ?hd (cs := #[.string (⟨#[]⟩ : ByteArray), .string (⟨#[]⟩ : ByteArray), .int .i64 0, .int .i64 0, .int .i64 0, .int .i64 0, .int .i64 0, .int .i64 0, .int .i64 0, .int .i64 0, .slice none 0 0, .slice none 0 0]) (t := 47) ?hr ?_; (case hd => rfl); (case hg => first | rfl | (go_simp; done)); (case hr => first | (go_simp; done) | (go_simp; rfl)); intro gb175 hg w33 hbox hb; have n0_ := Aside0.mk (below_step (by repeat (first | (with_reducible first | exact HB.out | apply below_alloc | apply pw_below_drewN | apply below_drew1) | exact HB.out)) hb); have n1_ := Aside0.mk (hbox); have n2_ := Aside0.mk ((by rw [hg]; exact (below_size (by repeat (first | (with_reducible first | exact HB.out | apply below_alloc | apply pw_below_drewN | apply below_drew1) | exact HB.out))) : w.heap.size ≤ gb175)); have n3_ := Aside0.mk ((by rw [hg]; exact (below_size (by repeat (first | (with_reducible first | exact HB.out | apply below_alloc | apply pw_below_drewN | apply below_drew1) | exact HB.out))) : w.heap.size ≤ gb175)); clear HB; have HB := n0_; have BK175 := n1_; have GW175 := n2_; have GE175 := n3_; clear n0_ n1_ n2_ n3_; clear hb hbox hg; have hcz34_0 : w33.cell? ⟨gb175, 0, none⟩ = some (.string (⟨#[]⟩ : ByteArray)) := (blk_cell BK175.out 0).trans rfl; have hcz34_1 : w33.cell? ⟨gb175, 1, none⟩ = some (.string (⟨#[]⟩ : ByteArray)) := (blk_cell BK175.out 1).trans rfl; have hcz34_2 : w33.cell? ⟨gb175, 2, none⟩ = some (.int .i64 0) := (blk_cell BK175.out 2).trans rfl; have hcz34_3 : w33.cell? ⟨gb175, 3, none⟩ = some (.int .i64 0) := (blk_cell BK175.out 3).trans rfl; have hcz34_4 : w33.cell? ⟨gb175, 4, none⟩ = some (.int .i64 0) := (blk_cell BK175.out 4).trans rfl; have hcz34_5 : w33.cell? ⟨gb175, 5, none⟩ = some (.int .i64 0) := (blk_cell BK175.out 5).trans rfl; have hcz34_6 : w33.cell? ⟨gb175, 6, none⟩ = some (.int .i64 0) := (blk_cell BK175.out 6).trans rfl; have hcz34_7 : w33.cell? ⟨gb175, 7, none⟩ = some (.int .i64 0) := (blk_cell BK175.out 7).trans rfl; have hcz34_8 : w33.cell? ⟨gb175, 8, none⟩ = some (.int .i64 0) := (blk_cell BK175.out 8).trans rfl; have hcz34_9 : w33.cell? ⟨gb175, 9, none⟩ = some (.int .i64 0) := (blk_cell BK175.out 9).trans rfl; have hcz34_10 : w33.cell? ⟨gb175, 10, none⟩ = some (.slice none 0 0) := (blk_cell BK175.out 10).trans rfl; have hcz34_11 : w33.cell? ⟨gb175, 11, none⟩ = some (.slice none 0 0) := (blk_cell BK175.out 11).trans rfl; have hfz34_0 := blk_frozen BK175.out 0; have hfz34_1 := blk_frozen BK175.out 1; have hfz34_2 := blk_frozen BK175.out 2; have hfz34_3 := blk_frozen BK175.out 3; have hfz34_4 := blk_frozen BK175.out 4; have hfz34_5 := blk_frozen BK175.out 5; have hfz34_6 := blk_frozen BK175.out 6; have hfz34_7 := blk_frozen BK175.out 7; have hfz34_8 := blk_frozen BK175.out 8; have hfz34_9 := blk_frozen BK175.out 9; have hfz34_10 := blk_frozen BK175.out 10; have hfz34_11 := blk_frozen BK175.out 11) | ((with_reducible refine gate_callee (f := 20) rfl ?_); refine goesL_ (some 58) rfl rfl Try.func20 (by kernel_rfl) rfl #[.slice A0 l0.length c0, .slice A174_10 ((rd_T47 l2 x45_2).f5).length c174_10] rfl (by (try simp only [List.map_toArray, List.map_cons, List.map_nil]); first | done | rfl | (simp only [List.length_drop, List.length_take]; rfl)) ?_; (with_reducible refine (colour_Mismatch.calls k2 _ _ l0 _ _ ((rd_T47 l2 x45_2).f5) t176 t177 _ ?side1 ?side2 ?side3 ?side4 A26.out).mono ?_); (case side1 => exact Kd.C_below HR0.out (by repeat (first | (with_reducible first | exact HB.out | apply below_alloc | apply pw_below_drewN | apply below_drew1 | refine below_set ?_ GE175.out) | exact HB.out))); (case side2 => exact HC0.out); (case side3 => exact Kd.C_below HR174_10.out (by repeat (first | (with_reducible first | exact HB.out | apply below_alloc | apply pw_below_drewN | apply below_drew1 | refine below_set ?_ GE175.out) | exact HB.out))); (case side4 => exact HC174_10.out); rintro e w35 ⟨rfl, hb⟩; refine ⟨_, rfl, ?_⟩; have n0_ := Aside0.mk (blk_below (g := gb175) (o := .cells #[.string ((rd_T47 l2 x45_2).f0), .string ((rd_T47 l2 x45_2).f1), .int .i64 ((rd_T47 l2 x45_2).f2), .int .i64 ((rd_T47 l2 x45_2).f3.f0.f0), .int .i64 ((rd_T47 l2 x45_2).f3.f0.f1), .int .i64 ((rd_T47 l2 x45_2).f3.f0.f2), .int .i64 ((rd_T47 l2 x45_2).f3.f1.f0), .int .i64 ((rd_T47 l2 x45_2).f3.f1.f1), .int .i64 ((rd_T47 l2 x45_2).f3.f1.f2), .int .i64 ((rd_T47 l2 x45_2).f4), .slice A174_10 ((rd_T47 l2 x45_2).f5).length c174_10, .slice A174_11 ((rd_T47 l2 x45_2).f6).length c174_11] 47 (0, 0)) (by (with_reducible repeat (first | refine blk_drewN ?_ _ | refine blk_drew ?_ | refine blk_alloc ?_ _)); refine blk_put (cs := #[.string ((rd_T47 l2 x45_2).f0), .string ((rd_T47 l2 x45_2).f1), .int .i64 ((rd_T47 l2 x45_2).f2), .int .i64 ((rd_T47 l2 x45_2).f3.f0.f0), .int .i64 ((rd_T47 l2 x45_2).f3.f0.f1), .int .i64 ((rd_T47 l2 x45_2).f3.f0.f2), .int .i64 ((rd_T47 l2 x45_2).f3.f1.f0), .int .i64 ((rd_T47 l2 x45_2).f3.f1.f1), .int .i64 ((rd_T47 l2 x45_2).f3.f1.f2), .int .i64 ((rd_T47 l2 x45_2).f4), .slice A174_10 ((rd_T47 l2 x45_2).f5).length c174_10, .slice none 0 0]) ?_ 11 _ rfl; (with_reducible repeat (first | refine blk_drewN ?_ _ | refine blk_drew ?_ | refine blk_alloc ?_ _)); refine blk_put (cs := #[.string ((rd_T47 l2 x45_2).f0), .string ((rd_T47 l2 x45_2).f1), .int .i64 ((rd_T47 l2 x45_2).f2), .int .i64 ((rd_T47 l2 x45_2).f3.f0.f0), .int .i64 ((rd_T47 l2 x45_2).f3.f0.f1), .int .i64 ((rd_T47 l2 x45_2).f3.f0.f2), .int .i64 ((rd_T47 l2 x45_2).f3.f1.f0), .int .i64 ((rd_T47 l2 x45_2).f3.f1.f1), .int .i64 ((rd_T47 l2 x45_2).f3.f1.f2), .int .i64 ((rd_T47 l2 x45_2).f4), .slice none 0 0, .slice none 0 0]) ?_ 10 _ rfl; (with_reducible repeat (first | refine blk_drewN ?_ _ | refine blk_drew ?_ | refine blk_alloc ?_ _)); refine blk_put (cs := #[.string ((rd_T47 l2 x45_2).f0), .string ((rd_T47 l2 x45_2).f1), .int .i64 ((rd_T47 l2 x45_2).f2), .int .i64 ((rd_T47 l2 x45_2).f3.f0.f0), .int .i64 ((rd_T47 l2 x45_2).f3.f0.f1), .int .i64 ((rd_T47 l2 x45_2).f3.f0.f2), .int .i64 ((rd_T47 l2 x45_2).f3.f1.f0), .int .i64 ((rd_T47 l2 x45_2).f3.f1.f1), .int .i64 ((rd_T47 l2 x45_2).f3.f1.f2), .int .i64 0, .slice none 0 0, .slice none 0 0]) ?_ 9 _ rfl; (with_reducible repeat (first | refine blk_drewN ?_ _ | refine blk_drew ?_ | refine blk_alloc ?_ _)); refine blk_put (cs := #[.string ((rd_T47 l2 x45_2).f0), .string ((rd_T47 l2 x45_2).f1), .int .i64 ((rd_T47 l2 x45_2).f2), .int .i64 ((rd_T47 l2 x45_2).f3.f0.f0), .int .i64 ((rd_T47 l2 x45_2).f3.f0.f1), .int .i64 ((rd_T47 l2 x45_2).f3.f0.f2), .int .i64 ((rd_T47 l2 x45_2).f3.f1.f0), .int .i64 ((rd_T47 l2 x45_2).f3.f1.f1), .int .i64 0, .int .i64 0, .slice none 0 0, .slice none 0 0]) ?_ 8 _ rfl; (with_reducible repeat (first | refine blk_drewN ?_ _ | refine blk_drew ?_ | refine blk_alloc ?_ _)); refine blk_put (cs := #[.string ((rd_T47 l2 x45_2).f0), .string ((rd_T47 l2 x45_2).f1), .int .i64 ((rd_T47 l2 x45_2).f2), .int .i64 ((rd_T47 l2 x45_2).f3.f0.f0), .int .i64 ((rd_T47 l2 x45_2).f3.f0.f1), .int .i64 ((rd_T47 l2 x45_2).f3.f0.f2), .int .i64 ((rd_T47 l2 x45_2).f3.f1.f0), .int .i64 0, .int .i64 0, .int .i64 0, .slice none 0 0, .slice none 0 0]) ?_ 7 _ rfl; (with_reducible repeat (first | refine blk_drewN ?_ _ | refine blk_drew ?_ | refine blk_alloc ?_ _)); refine blk_put (cs := #[.string ((rd_T47 l2 x45_2).f0), .string ((rd_T47 l2 x45_2).f1), .int .i64 ((rd_T47 l2 x45_2).f2), .int .i64 ((rd_T47 l2 x45_2).f3.f0.f0), .int .i64 ((rd_T47 l2 x45_2).f3.f0.f1), .int .i64 ((rd_T47 l2 x45_2).f3.f0.f2), .int .i64 0, .int .i64 0, .int .i64 0, .int .i64 0, .slice none 0 0, .slice none 0 0]) ?_ 6 _ rfl; (with_reducible repeat (first | refine blk_drewN ?_ _ | refine blk_drew ?_ | refine blk_alloc ?_ _)); refine blk_put (cs := #[.string ((rd_T47 l2 x45_2).f0), .string ((rd_T47 l2 x45_2).f1), .int .i64 ((rd_T47 l2 x45_2).f2), .int .i64 ((rd_T47 l2 x45_2).f3.f0.f0), .int .i64 ((rd_T47 l2 x45_2).f3.f0.f1), .int .i64 0, .int .i64 0, .int .i64 0, .int .i64 0, .int .i64 0, .slice none 0 0, .slice none 0 0]) ?_ 5 _ rfl; (with_reducible repeat (first | refine blk_drewN ?_ _ | refine blk_drew ?_ | refine blk_alloc ?_ _)); refine blk_put (cs := #[.string ((rd_T47 l2 x45_2).f0), .string ((rd_T47 l2 x45_2).f1), .int .i64 ((rd_T47 l2 x45_2).f2), .int .i64 ((rd_T47 l2 x45_2).f3.f0.f0), .int .i64 0, .int .i64 0, .int .i64 0, .int .i64 0, .int .i64 0, .int .i64 0, .slice none 0 0, .slice none 0 0]) ?_ 4 _ rfl; (with_reducible repeat (first | refine blk_drewN ?_ _ | refine blk_drew ?_ | refine blk_alloc ?_ _)); refine blk_put (cs := #[.string ((rd_T47 l2 x45_2).f0), .string ((rd_T47 l2 x45_2).f1), .int .i64 ((rd_T47 l2 x45_2).f2), .int .i64 0, .int .i64 0, .int .i64 0, .int .i64 0, .int .i64 0, .int .i64 0, .int .i64 0, .slice none 0 0, .slice none 0 0]) ?_ 3 _ rfl; (with_reducible repeat (first | refine blk_drewN ?_ _ | refine blk_drew ?_ | refine blk_alloc ?_ _)); refine blk_put (cs := #[.string ((rd_T47 l2 x45_2).f0), .string ((rd_T47 l2 x45_2).f1), .int .i64 0, .int .i64 0, .int .i64 0, .int .i64 0, .int .i64 0, .int .i64 0, .int .i64 0, .int .i64 0, .slice none 0 0, .slice none 0 0]) ?_ 2 _ rfl; (with_reducible repeat (first | refine blk_drewN ?_ _ | refine blk_drew ?_ | refine blk_alloc ?_ _)); refine blk_put (cs := #[.string ((rd_T47 l2 x45_2).f0), .string (⟨#[]⟩ : ByteArray), .int .i64 0, .int .i64 0, .int .i64 0, .int .i64 0, .int .i64 0, .int .i64 0, .int .i64 0, .int .i64 0, .slice none 0 0, .slice none 0 0]) ?_ 1 _ rfl; (with_reducible repeat (first | refine blk_drewN ?_ _ | refine blk_drew ?_ | refine blk_alloc ?_ _)); refine blk_put (cs := #[.string (⟨#[]⟩ : ByteArray), .string (⟨#[]⟩ : ByteArray), .int .i64 0, .int .i64 0, .int .i64 0, .int .i64 0, .int .i64 0, .int .i64 0, .int .i64 0, .int .i64 0, .slice none 0 0, .slice none 0 0]) ?_ 0 _ rfl; (with_reducible repeat (first | refine blk_drewN ?_ _ | refine blk_drew ?_ | refine blk_alloc ?_ _)); exact BK175.out) hb); have n1_ := Aside0.mk (below_step (by repeat (first | (with_reducible first | exact HB.out | apply below_alloc | apply pw_below_drewN | apply below_drew1 | refine below_set ?_ GE175.out) | exact HB.out)) hb); clear BK175; clear HB; have BK175 := n0_; have HB := n1_; clear n0_ n1_; (try clear hb); (try clear hb2); (try clear hk); (try clear hi)))
                              go_roundg k2
                              case measure => have := HK1.out; have := HK2.out; omega
                              case rel => exact ⟨(x45_2), (t176), (wrap64 (x45_2 + 1)), (by first | rfl | (simp; done) | (simp [*]; done)), (by first | rfl | (simp; done) | (simp [*]; done)), (by first | rfl | (simp; done) | (simp [*]; done)), H', ⟨by have := HK1.out; have := HK2.out; omega⟩, ⟨by repeat (first | (with_reducible first | exact HB.out | apply below_alloc | apply pw_below_drewN | apply below_drew1 | refine below_set ?_ GE175.out) | exact HB.out)⟩⟩
                            · rw [if_neg c32] at H
                              have c32b0 : decide (t176 < x13_2) = false := decide_eq_false c32
                              clear c32
                              have H' := Aside0.mk H
                              clear H
                              have p174 : 0 ≤ (x45_2 : Int) := of_decide_eq_true (by first | (with_reducible assumption) | assumption)
                              have q174 : x45_2 < (l2.length : Int) := of_decide_eq_true (by first | (with_reducible assumption) | assumption)
                              obtain ⟨ad174, A174_10, c174_10, A174_11, c174_11, e174, hx174_0, hx174_1, hx174_2, hx174_3, hx174_4, hx174_5, hx174_6, hx174_7, hx174_8, hx174_9, hx174_10, hx174_11, hl174_10, hi174_10, hl174_11, hi174_11⟩ := at_T47 HR2.out x45_2 p174 q174
                              cases e174
                              replace hx174_0 := (HB.out.cell (World.block_lt_of_cell? w _ hx174_0)).trans hx174_0
                              replace hx174_1 := (HB.out.cell (World.block_lt_of_cell? w _ hx174_1)).trans hx174_1
                              replace hx174_2 := (HB.out.cell (World.block_lt_of_cell? w _ hx174_2)).trans hx174_2
                              replace hx174_3 := (HB.out.cell (World.block_lt_of_cell? w _ hx174_3)).trans hx174_3
                              replace hx174_4 := (HB.out.cell (World.block_lt_of_cell? w _ hx174_4)).trans hx174_4
                              replace hx174_5 := (HB.out.cell (World.block_lt_of_cell? w _ hx174_5)).trans hx174_5
                              replace hx174_6 := (HB.out.cell (World.block_lt_of_cell? w _ hx174_6)).trans hx174_6
                              replace hx174_7 := (HB.out.cell (World.block_lt_of_cell? w _ hx174_7)).trans hx174_7
                              replace hx174_8 := (HB.out.cell (World.block_lt_of_cell? w _ hx174_8)).trans hx174_8
                              replace hx174_9 := (HB.out.cell (World.block_lt_of_cell? w _ hx174_9)).trans hx174_9
                              replace hx174_10 := (HB.out.cell (World.block_lt_of_cell? w _ hx174_10)).trans hx174_10
                              replace hx174_11 := (HB.out.cell (World.block_lt_of_cell? w _ hx174_11)).trans hx174_11
                              have HR174_10 := Aside0.mk hi174_10
                              have HC174_10 := Aside0.mk hl174_10
                              clear hi174_10 hl174_10
                              have HR174_11 := Aside0.mk hi174_11
                              have HC174_11 := Aside0.mk hl174_11
                              clear hi174_11 hl174_11
                              replace p174 := eq_true p174
                              replace q174 := eq_true q174
                              go_wp2_with (first | ((with_reducible refine gate_dst (N := 15) rfl ?_); refine box_event ?hg (N := 15) ?hd (cs := #[.string (⟨#[]⟩ : ByteArray), .string (⟨#[]⟩ : ByteArray), .int .i64 0, .int .i64 0, .int .i64 0, .int .i64 0, .int .i64 0, .int .i64 0, .int .i64 0, .int .i64 0, .slice none 0 0, .slice none 0 0]) (t := 47) ?hr ?_; (case hd => rfl); (case hg => first | rfl | (go_simp; done)); (case hr => first | (go_simp; done) | (go_simp; rfl)); intro gb175 hg w36 hbox hb; have n0_ := Aside0.mk (below_step (by repeat (first | (with_reducible first | exact HB.out | apply below_alloc | apply pw_below_drewN | apply below_drew1) | exact HB.out)) hb); have n1_ := Aside0.mk (hbox); have n2_ := Aside0.mk ((by rw [hg]; exact (below_size (by repeat (first | (with_reducible first | exact HB.out | apply below_alloc | apply pw_below_drewN | apply below_drew1) | exact HB.out))) : w.heap.size ≤ gb175)); have n3_ := Aside0.mk ((by rw [hg]; exact (below_size (by repeat (first | (with_reducible first | exact HB.out | apply below_alloc | apply pw_below_drewN | apply below_drew1) | exact HB.out))) : w.heap.size ≤ gb175)); clear HB; have HB := n0_; have BK175 := n1_; have GW175 := n2_; have GE175 := n3_; clear n0_ n1_ n2_ n3_; clear hb hbox hg; have hcz37_0 : w36.cell? ⟨gb175, 0, none⟩ = some (.string (⟨#[]⟩ : ByteArray)) := (blk_cell BK175.out 0).trans rfl; have hcz37_1 : w36.cell? ⟨gb175, 1, none⟩ = some (.string (⟨#[]⟩ : ByteArray)) := (blk_cell BK175.out 1).trans rfl; have hcz37_2 : w36.cell? ⟨gb175, 2, none⟩ = some (.int .i64 0) := (blk_cell BK175.out 2).trans rfl; have hcz37_3 : w36.cell? ⟨gb175, 3, none⟩ = some (.int .i64 0) := (blk_cell BK175.out 3).trans rfl; have hcz37_4 : w36.cell? ⟨gb175, 4, none⟩ = some (.int .i64 0) := (blk_cell BK175.out 4).trans rfl; have hcz37_5 : w36.cell? ⟨gb175, 5, none⟩ = some (.int .i64 0) := (blk_cell BK175.out 5).trans rfl; have hcz37_6 : w36.cell? ⟨gb175, 6, none⟩ = some (.int .i64 0) := (blk_cell BK175.out 6).trans rfl; have hcz37_7 : w36.cell? ⟨gb175, 7, none⟩ = some (.int .i64 0) := (blk_cell BK175.out 7).trans rfl; have hcz37_8 : w36.cell? ⟨gb175, 8, none⟩ = some (.int .i64 0) := (blk_cell BK175.out 8).trans rfl; have hcz37_9 : w36.cell? ⟨gb175, 9, none⟩ = some (.int .i64 0) := (blk_cell BK175.out 9).trans rfl; have hcz37_10 : w36.cell? ⟨gb175, 10, none⟩ = some (.slice none 0 0) := (blk_cell BK175.out 10).trans rfl; have hcz37_11 : w36.cell? ⟨gb175, 11, none⟩ = some (.slice none 0 0) := (blk_cell BK175.out 11).trans rfl; have hfz37_0 := blk_frozen BK175.out 0; have hfz37_1 := blk_frozen BK175.out 1; have hfz37_2 := blk_frozen BK175.out 2; have hfz37_3 := blk_frozen BK175.out 3; have hfz37_4 := blk_frozen BK175.out 4; have hfz37_5 := blk_frozen BK175.out 5; have hfz37_6 := blk_frozen BK175.out 6; have hfz37_7 := blk_frozen BK175.out 7; have hfz37_8 := blk_frozen BK175.out 8; have hfz37_9 := blk_frozen BK175.out 9; have hfz37_10 := blk_frozen BK175.out 10; have hfz37_11 := blk_frozen BK175.out 11) | ((with_reducible refine gate_callee (f := 20) rfl ?_); refine goesL_ (some 58) rfl rfl Try.func20 (by kernel_rfl) rfl #[.slice A0 l0.length c0, .slice A174_10 ((rd_T47 l2 x45_2).f5).length c174_10] rfl (by (try simp only [List.map_toArray, List.map_cons, List.map_nil]); first | done | rfl | (simp only [List.length_drop, List.length_take]; rfl)) ?_; (with_reducible refine (colour_Mismatch.calls k2 _ _ l0 _ _ ((rd_T47 l2 x45_2).f5) t176 t177 _ ?side1 ?side2 ?side3 ?side4 A26.out).mono ?_); (case side1 => exact Kd.C_below HR0.out (by repeat (first | (with_reducible first | exact HB.out | apply below_alloc | apply pw_below_drewN | apply below_drew1 | refine below_set ?_ GE175.out) | exact HB.out))); (case side2 => exact HC0.out); (case side3 => exact Kd.C_below HR174_10.out (by repeat (first | (with_reducible first | exact HB.out | apply below_alloc | apply pw_below_drewN | apply below_drew1 | refine below_set ?_ GE175.out) | exact HB.out))); (case side4 => exact HC174_10.out); rintro e w38 ⟨rfl, hb⟩; refine ⟨_, rfl, ?_⟩; have n0_ := Aside0.mk (blk_below (g := gb175) (o := .cells #[.string ((rd_T47 l2 x45_2).f0), .string ((rd_T47 l2 x45_2).f1), .int .i64 ((rd_T47 l2 x45_2).f2), .int .i64 ((rd_T47 l2 x45_2).f3.f0.f0), .int .i64 ((rd_T47 l2 x45_2).f3.f0.f1), .int .i64 ((rd_T47 l2 x45_2).f3.f0.f2), .int .i64 ((rd_T47 l2 x45_2).f3.f1.f0), .int .i64 ((rd_T47 l2 x45_2).f3.f1.f1), .int .i64 ((rd_T47 l2 x45_2).f3.f1.f2), .int .i64 ((rd_T47 l2 x45_2).f4), .slice A174_10 ((rd_T47 l2 x45_2).f5).length c174_10, .slice A174_11 ((rd_T47 l2 x45_2).f6).length c174_11] 47 (0, 0)) (by (with_reducible repeat (first | refine blk_drewN ?_ _ | refine blk_drew ?_ | refine blk_alloc ?_ _)); refine blk_put (cs := #[.string ((rd_T47 l2 x45_2).f0), .string ((rd_T47 l2 x45_2).f1), .int .i64 ((rd_T47 l2 x45_2).f2), .int .i64 ((rd_T47 l2 x45_2).f3.f0.f0), .int .i64 ((rd_T47 l2 x45_2).f3.f0.f1), .int .i64 ((rd_T47 l2 x45_2).f3.f0.f2), .int .i64 ((rd_T47 l2 x45_2).f3.f1.f0), .int .i64 ((rd_T47 l2 x45_2).f3.f1.f1), .int .i64 ((rd_T47 l2 x45_2).f3.f1.f2), .int .i64 ((rd_T47 l2 x45_2).f4), .slice A174_10 ((rd_T47 l2 x45_2).f5).length c174_10, .slice none 0 0]) ?_ 11 _ rfl; (with_reducible repeat (first | refine blk_drewN ?_ _ | refine blk_drew ?_ | refine blk_alloc ?_ _)); refine blk_put (cs := #[.string ((rd_T47 l2 x45_2).f0), .string ((rd_T47 l2 x45_2).f1), .int .i64 ((rd_T47 l2 x45_2).f2), .int .i64 ((rd_T47 l2 x45_2).f3.f0.f0), .int .i64 ((rd_T47 l2 x45_2).f3.f0.f1), .int .i64 ((rd_T47 l2 x45_2).f3.f0.f2), .int .i64 ((rd_T47 l2 x45_2).f3.f1.f0), .int .i64 ((rd_T47 l2 x45_2).f3.f1.f1), .int .i64 ((rd_T47 l2 x45_2).f3.f1.f2), .int .i64 ((rd_T47 l2 x45_2).f4), .slice none 0 0, .slice none 0 0]) ?_ 10 _ rfl; (with_reducible repeat (first | refine blk_drewN ?_ _ | refine blk_drew ?_ | refine blk_alloc ?_ _)); refine blk_put (cs := #[.string ((rd_T47 l2 x45_2).f0), .string ((rd_T47 l2 x45_2).f1), .int .i64 ((rd_T47 l2 x45_2).f2), .int .i64 ((rd_T47 l2 x45_2).f3.f0.f0), .int .i64 ((rd_T47 l2 x45_2).f3.f0.f1), .int .i64 ((rd_T47 l2 x45_2).f3.f0.f2), .int .i64 ((rd_T47 l2 x45_2).f3.f1.f0), .int .i64 ((rd_T47 l2 x45_2).f3.f1.f1), .int .i64 ((rd_T47 l2 x45_2).f3.f1.f2), .int .i64 0, .slice none 0 0, .slice none 0 0]) ?_ 9 _ rfl; (with_reducible repeat (first | refine blk_drewN ?_ _ | refine blk_drew ?_ | refine blk_alloc ?_ _)); refine blk_put (cs := #[.string ((rd_T47 l2 x45_2).f0), .string ((rd_T47 l2 x45_2).f1), .int .i64 ((rd_T47 l2 x45_2).f2), .int .i64 ((rd_T47 l2 x45_2).f3.f0.f0), .int .i64 ((rd_T47 l2 x45_2).f3.f0.f1), .int .i64 ((rd_T47 l2 x45_2).f3.f0.f2), .int .i64 ((rd_T47 l2 x45_2).f3.f1.f0), .int .i64 ((rd_T47 l2 x45_2).f3.f1.f1), .int .i64 0, .int .i64 0, .slice none 0 0, .slice none 0 0]) ?_ 8 _ rfl; (with_reducible repeat (first | refine blk_drewN ?_ _ | refine blk_drew ?_ | refine blk_alloc ?_ _)); refine blk_put (cs := #[.string ((rd_T47 l2 x45_2).f0), .string ((rd_T47 l2 x45_2).f1), .int .i64 ((rd_T47 l2 x45_2).f2), .int .i64 ((rd_T47 l2 x45_2).f3.f0.f0), .int .i64 ((rd_T47 l2 x45_2).f3.f0.f1), .int .i64 ((rd_T47 l2 x45_2).f3.f0.f2), .int .i64 ((rd_T47 l2 x45_2).f3.f1.f0), .int .i64 0, .int .i64 0, .int .i64 0, .slice none 0 0, .slice none 0 0]) ?_ 7 _ rfl; (with_reducible repeat (first | refine blk_drewN ?_ _ | refine blk_drew ?_ | refine blk_alloc ?_ _)); refine blk_put (cs := #[.string ((rd_T47 l2 x45_2).f0), .string ((rd_T47 l2 x45_2).f1), .int .i64 ((rd_T47 l2 x45_2).f2), .int .i64 ((rd_T47 l2 x45_2).f3.f0.f0), .int .i64 ((rd_T47 l2 x45_2).f3.f0.f1), .int .i64 ((rd_T47 l2 x45_2).f3.f0.f2), .int .i64 0, .int .i64 0, .int .i64 0, .int .i64 0, .slice none 0 0, .slice none 0 0]) ?_ 6 _ rfl; (with_reducible repeat (first | refine blk_drewN ?_ _ | refine blk_drew ?_ | refine blk_alloc ?_ _)); refine blk_put (cs := #[.string ((rd_T47 l2 x45_2).f0), .string ((rd_T47 l2 x45_2).f1), .int .i64 ((rd_T47 l2 x45_2).f2), .int .i64 ((rd_T47 l2 x45_2).f3.f0.f0), .int .i64 ((rd_T47 l2 x45_2).f3.f0.f1), .int .i64 0, .int .i64 0, .int .i64 0, .int .i64 0, .int .i64 0, .slice none 0 0, .slice none 0 0]) ?_ 5 _ rfl; (with_reducible repeat (first | refine blk_drewN ?_ _ | refine blk_drew ?_ | refine blk_alloc ?_ _)); refine blk_put (cs := #[.string ((rd_T47 l2 x45_2).f0), .string ((rd_T47 l2 x45_2).f1), .int .i64 ((rd_T47 l2 x45_2).f2), .int .i64 ((rd_T47 l2 x45_2).f3.f0.f0), .int .i64 0, .int .i64 0, .int .i64 0, .int .i64 0, .int .i64 0, .int .i64 0, .slice none 0 0, .slice none 0 0]) ?_ 4 _ rfl; (with_reducible repeat (first | refine blk_drewN ?_ _ | refine blk_drew ?_ | refine blk_alloc ?_ _)); refine blk_put (cs := #[.string ((rd_T47 l2 x45_2).f0), .string ((rd_T47 l2 x45_2).f1), .int .i64 ((rd_T47 l2 x45_2).f2), .int .i64 0, .int .i64 0, .int .i64 0, .int .i64 0, .int .i64 0, .int .i64 0, .int .i64 0, .slice none 0 0, .slice none 0 0]) ?_ 3 _ rfl; (with_reducible repeat (first | refine blk_drewN ?_ _ | refine blk_drew ?_ | refine blk_alloc ?_ _)); refine blk_put (cs := #[.string ((rd_T47 l2 x45_2).f0), .string ((rd_T47 l2 x45_2).f1), .int .i64 0, .int .i64 0, .int .i64 0, .int .i64 0, .int .i64 0, .int .i64 0, .int .i64 0, .int .i64 0, .slice none 0 0, .slice none 0 0]) ?_ 2 _ rfl; (with_reducible repeat (first | refine blk_drewN ?_ _ | refine blk_drew ?_ | refine blk_alloc ?_ _)); refine blk_put (cs := #[.string ((rd_T47 l2 x45_2).f0), .string (⟨#[]⟩ : ByteArray), .int .i64 0, .int .i64 0, .int .i64 0, .int .i64 0, .int .i64 0, .int .i64 0, .int .i64 0, .int .i64 0, .slice none 0 0, .slice none 0 0]) ?_ 1 _ rfl; (with_reducible repeat (first | refine blk_drewN ?_ _ | refine blk_drew ?_ | refine blk_alloc ?_ _)); refine blk_put (cs := #[.string (⟨#[]⟩ : ByteArray), .string (⟨#[]⟩ : ByteArray), .int .i64 0, .int .i64 0, .int .i64 0, .int .i64 0, .int .i64 0, .int .i64 0, .int .i64 0, .int .i64 0, .slice none 0 0, .slice none 0 0]) ?_ 0 _ rfl; (with_reducible repeat (first | refine blk_drewN ?_ _ | refine blk_drew ?_ | refine blk_alloc ?_ _)); exact BK175.out) hb); have n1_ := Aside0.mk (below_step (by repeat (first | (with_reducible first | exact HB.out | apply below_alloc | apply pw_below_drewN | apply below_drew1 | refine below_set ?_ GE175.out) | exact HB.out)) hb); clear BK175; clear HB; have BK175 := n0_; have HB := n1_; clear n0_ n1_; (try clear hb); (try clear hb2); (try clear hk); (try clear hi)))
                              go_roundg k2
                              case measure => have := HK1.out; have := HK2.out; omega
                              case rel => exact ⟨(x12_2), (x13_2), (wrap64 (x45_2 + 1)), (by first | rfl | (simp; done) | (simp [*]; done)), (by first | rfl | (simp; done) | (simp [*]; done)), (by first | rfl | (simp; done) | (simp [*]; done)), H', ⟨by have := HK1.out; have := HK2.out; omega⟩, ⟨by repeat (first | (with_reducible first | exact HB.out | apply below_alloc | apply pw_below_drewN | apply below_drew1 | refine below_set ?_ GE175.out) | exact HB.out)⟩⟩
                        · rw [if_neg c27] at H
                          have c27b0 : (t177 == 0) = false := beq_eq_false_iff_ne.mpr c27
                          have c27b1 : (t177 != 0) = true := bne_iff_ne.mpr c27
                          simp only [Option.some.injEq, Prod.mk.injEq] at H
                          obtain ⟨rfl, rfl⟩ := H
                          have p174 : 0 ≤ (x45_2 : Int) := of_decide_eq_true (by first | (with_reducible assumption) | assumption)
                          have q174 : x45_2 < (l2.length : Int) := of_decide_eq_true (by first | (with_reducible assumption) | assumption)
                          obtain ⟨ad174, A174_10, c174_10, A174_11, c174_11, e174, hx174_0, hx174_1, hx174_2, hx174_3, hx174_4, hx174_5, hx174_6, hx174_7, hx174_8, hx174_9, hx174_10, hx174_11, hl174_10, hi174_10, hl174_11, hi174_11⟩ := at_T47 HR2.out x45_2 p174 q174
                          cases e174
                          replace hx174_0 := (HB.out.cell (World.block_lt_of_cell? w _ hx174_0)).trans hx174_0
                          replace hx174_1 := (HB.out.cell (World.block_lt_of_cell? w _ hx174_1)).trans hx174_1
                          replace hx174_2 := (HB.out.cell (World.block_lt_of_cell? w _ hx174_2)).trans hx174_2
                          replace hx174_3 := (HB.out.cell (World.block_lt_of_cell? w _ hx174_3)).trans hx174_3
                          replace hx174_4 := (HB.out.cell (World.block_lt_of_cell? w _ hx174_4)).trans hx174_4
                          replace hx174_5 := (HB.out.cell (World.block_lt_of_cell? w _ hx174_5)).trans hx174_5
                          replace hx174_6 := (HB.out.cell (World.block_lt_of_cell? w _ hx174_6)).trans hx174_6
                          replace hx174_7 := (HB.out.cell (World.block_lt_of_cell? w _ hx174_7)).trans hx174_7
                          replace hx174_8 := (HB.out.cell (World.block_lt_of_cell? w _ hx174_8)).trans hx174_8
                          replace hx174_9 := (HB.out.cell (World.block_lt_of_cell? w _ hx174_9)).trans hx174_9
                          replace hx174_10 := (HB.out.cell (World.block_lt_of_cell? w _ hx174_10)).trans hx174_10
                          replace hx174_11 := (HB.out.cell (World.block_lt_of_cell? w _ hx174_11)).trans hx174_11
                          have HR174_10 := Aside0.mk hi174_10
                          have HC174_10 := Aside0.mk hl174_10
                          clear hi174_10 hl174_10
                          have HR174_11 := Aside0.mk hi174_11
                          have HC174_11 := Aside0.mk hl174_11
                          clear hi174_11 hl174_11
                          replace p174 := eq_true p174
                          replace q174 := eq_true q174
                          go_wp2_with (first | ((with_reducible refine gate_dst (N := 15) rfl ?_); refine box_event ?hg (N := 15) ?hd (cs := #[.string (⟨#[]⟩ : ByteArray), .string (⟨#[]⟩ : ByteArray), .int .i64 0, .int .i64 0, .int .i64 0, .int .i64 0, .int .i64 0, .int .i64 0, .int .i64 0, .int .i64 0, .slice none 0 0, .slice none 0 0]) (t := 47) ?hr ?_; (case hd => rfl); (case hg => first | rfl | (go_simp; done)); (case hr => first | (go_simp; done) | (go_simp; rfl)); intro gb175 hg w39 hbox hb; have n0_ := Aside0.mk (below_step (by repeat (first | (with_reducible first | exact HB.out | apply below_alloc | apply pw_below_drewN | apply below_drew1) | exact HB.out)) hb); have n1_ := Aside0.mk (hbox); have n2_ := Aside0.mk ((by rw [hg]; exact (below_size (by repeat (first | (with_reducible first | exact HB.out | apply below_alloc | apply pw_below_drewN | apply below_drew1) | exact HB.out))) : w.heap.size ≤ gb175)); have n3_ := Aside0.mk ((by rw [hg]; exact (below_size (by repeat (first | (with_reducible first | exact HB.out | apply below_alloc | apply pw_below_drewN | apply below_drew1) | exact HB.out))) : w.heap.size ≤ gb175)); clear HB; have HB := n0_; have BK175 := n1_; have GW175 := n2_; have GE175 := n3_; clear n0_ n1_ n2_ n3_; clear hb hbox hg; have hcz40_0 : w39.cell? ⟨gb175, 0, none⟩ = some (.string (⟨#[]⟩ : ByteArray)) := (blk_cell BK175.out 0).trans rfl; have hcz40_1 : w39.cell? ⟨gb175, 1, none⟩ = some (.string (⟨#[]⟩ : ByteArray)) := (blk_cell BK175.out 1).trans rfl; have hcz40_2 : w39.cell? ⟨gb175, 2, none⟩ = some (.int .i64 0) := (blk_cell BK175.out 2).trans rfl; have hcz40_3 : w39.cell? ⟨gb175, 3, none⟩ = some (.int .i64 0) := (blk_cell BK175.out 3).trans rfl; have hcz40_4 : w39.cell? ⟨gb175, 4, none⟩ = some (.int .i64 0) := (blk_cell BK175.out 4).trans rfl; have hcz40_5 : w39.cell? ⟨gb175, 5, none⟩ = some (.int .i64 0) := (blk_cell BK175.out 5).trans rfl; have hcz40_6 : w39.cell? ⟨gb175, 6, none⟩ = some (.int .i64 0) := (blk_cell BK175.out 6).trans rfl; have hcz40_7 : w39.cell? ⟨gb175, 7, none⟩ = some (.int .i64 0) := (blk_cell BK175.out 7).trans rfl; have hcz40_8 : w39.cell? ⟨gb175, 8, none⟩ = some (.int .i64 0) := (blk_cell BK175.out 8).trans rfl; have hcz40_9 : w39.cell? ⟨gb175, 9, none⟩ = some (.int .i64 0) := (blk_cell BK175.out 9).trans rfl; have hcz40_10 : w39.cell? ⟨gb175, 10, none⟩ = some (.slice none 0 0) := (blk_cell BK175.out 10).trans rfl; have hcz40_11 : w39.cell? ⟨gb175, 11, none⟩ = some (.slice none 0 0) := (blk_cell BK175.out 11).trans rfl; have hfz40_0 := blk_frozen BK175.out 0; have hfz40_1 := blk_frozen BK175.out 1; have hfz40_2 := blk_frozen BK175.out 2; have hfz40_3 := blk_frozen BK175.out 3; have hfz40_4 := blk_frozen BK175.out 4; have hfz40_5 := blk_frozen BK175.out 5; have hfz40_6 := blk_frozen BK175.out 6; have hfz40_7 := blk_frozen BK175.out 7; have hfz40_8 := blk_frozen BK175.out 8; have hfz40_9 := blk_frozen BK175.out 9; have hfz40_10 := blk_frozen BK175.out 10; have hfz40_11 := blk_frozen BK175.out 11) | ((with_reducible refine gate_callee (f := 20) rfl ?_); refine goesL_ (some 58) rfl rfl Try.func20 (by kernel_rfl) rfl #[.slice A0 l0.length c0, .slice A174_10 ((rd_T47 l2 x45_2).f5).length c174_10] rfl (by (try simp only [List.map_toArray, List.map_cons, List.map_nil]); first | done | rfl | (simp only [List.length_drop, List.length_take]; rfl)) ?_; (with_reducible refine (colour_Mismatch.calls k2 _ _ l0 _ _ ((rd_T47 l2 x45_2).f5) t176 t177 _ ?side1 ?side2 ?side3 ?side4 A26.out).mono ?_); (case side1 => exact Kd.C_below HR0.out (by repeat (first | (with_reducible first | exact HB.out | apply below_alloc | apply pw_below_drewN | apply below_drew1 | refine below_set ?_ GE175.out) | exact HB.out))); (case side2 => exact HC0.out); (case side3 => exact Kd.C_below HR174_10.out (by repeat (first | (with_reducible first | exact HB.out | apply below_alloc | apply pw_below_drewN | apply below_drew1 | refine below_set ?_ GE175.out) | exact HB.out))); (case side4 => exact HC174_10.out); rintro e w41 ⟨rfl, hb⟩; refine ⟨_, rfl, ?_⟩; have n0_ := Aside0.mk (blk_below (g := gb175) (o := .cells #[.string ((rd_T47 l2 x45_2).f0), .string ((rd_T47 l2 x45_2).f1), .int .i64 ((rd_T47 l2 x45_2).f2), .int .i64 ((rd_T47 l2 x45_2).f3.f0.f0), .int .i64 ((rd_T47 l2 x45_2).f3.f0.f1), .int .i64 ((rd_T47 l2 x45_2).f3.f0.f2), .int .i64 ((rd_T47 l2 x45_2).f3.f1.f0), .int .i64 ((rd_T47 l2 x45_2).f3.f1.f1), .int .i64 ((rd_T47 l2 x45_2).f3.f1.f2), .int .i64 ((rd_T47 l2 x45_2).f4), .slice A174_10 ((rd_T47 l2 x45_2).f5).length c174_10, .slice A174_11 ((rd_T47 l2 x45_2).f6).length c174_11] 47 (0, 0)) (by (with_reducible repeat (first | refine blk_drewN ?_ _ | refine blk_drew ?_ | refine blk_alloc ?_ _)); refine blk_put (cs := #[.string ((rd_T47 l2 x45_2).f0), .string ((rd_T47 l2 x45_2).f1), .int .i64 ((rd_T47 l2 x45_2).f2), .int .i64 ((rd_T47 l2 x45_2).f3.f0.f0), .int .i64 ((rd_T47 l2 x45_2).f3.f0.f1), .int .i64 ((rd_T47 l2 x45_2).f3.f0.f2), .int .i64 ((rd_T47 l2 x45_2).f3.f1.f0), .int .i64 ((rd_T47 l2 x45_2).f3.f1.f1), .int .i64 ((rd_T47 l2 x45_2).f3.f1.f2), .int .i64 ((rd_T47 l2 x45_2).f4), .slice A174_10 ((rd_T47 l2 x45_2).f5).length c174_10, .slice none 0 0]) ?_ 11 _ rfl; (with_reducible repeat (first | refine blk_drewN ?_ _ | refine blk_drew ?_ | refine blk_alloc ?_ _)); refine blk_put (cs := #[.string ((rd_T47 l2 x45_2).f0), .string ((rd_T47 l2 x45_2).f1), .int .i64 ((rd_T47 l2 x45_2).f2), .int .i64 ((rd_T47 l2 x45_2).f3.f0.f0), .int .i64 ((rd_T47 l2 x45_2).f3.f0.f1), .int .i64 ((rd_T47 l2 x45_2).f3.f0.f2), .int .i64 ((rd_T47 l2 x45_2).f3.f1.f0), .int .i64 ((rd_T47 l2 x45_2).f3.f1.f1), .int .i64 ((rd_T47 l2 x45_2).f3.f1.f2), .int .i64 ((rd_T47 l2 x45_2).f4), .slice none 0 0, .slice none 0 0]) ?_ 10 _ rfl; (with_reducible repeat (first | refine blk_drewN ?_ _ | refine blk_drew ?_ | refine blk_alloc ?_ _)); refine blk_put (cs := #[.string ((rd_T47 l2 x45_2).f0), .string ((rd_T47 l2 x45_2).f1), .int .i64 ((rd_T47 l2 x45_2).f2), .int .i64 ((rd_T47 l2 x45_2).f3.f0.f0), .int .i64 ((rd_T47 l2 x45_2).f3.f0.f1), .int .i64 ((rd_T47 l2 x45_2).f3.f0.f2), .int .i64 ((rd_T47 l2 x45_2).f3.f1.f0), .int .i64 ((rd_T47 l2 x45_2).f3.f1.f1), .int .i64 ((rd_T47 l2 x45_2).f3.f1.f2), .int .i64 0, .slice none 0 0, .slice none 0 0]) ?_ 9 _ rfl; (with_reducible repeat (first | refine blk_drewN ?_ _ | refine blk_drew ?_ | refine blk_alloc ?_ _)); refine blk_put (cs := #[.string ((rd_T47 l2 x45_2).f0), .string ((rd_T47 l2 x45_2).f1), .int .i64 ((rd_T47 l2 x45_2).f2), .int .i64 ((rd_T47 l2 x45_2).f3.f0.f0), .int .i64 ((rd_T47 l2 x45_2).f3.f0.f1), .int .i64 ((rd_T47 l2 x45_2).f3.f0.f2), .int .i64 ((rd_T47 l2 x45_2).f3.f1.f0), .int .i64 ((rd_T47 l2 x45_2).f3.f1.f1), .int .i64 0, .int .i64 0, .slice none 0 0, .slice none 0 0]) ?_ 8 _ rfl; (with_reducible repeat (first | refine blk_drewN ?_ _ | refine blk_drew ?_ | refine blk_alloc ?_ _)); refine blk_put (cs := #[.string ((rd_T47 l2 x45_2).f0), .string ((rd_T47 l2 x45_2).f1), .int .i64 ((rd_T47 l2 x45_2).f2), .int .i64 ((rd_T47 l2 x45_2).f3.f0.f0), .int .i64 ((rd_T47 l2 x45_2).f3.f0.f1), .int .i64 ((rd_T47 l2 x45_2).f3.f0.f2), .int .i64 ((rd_T47 l2 x45_2).f3.f1.f0), .int .i64 0, .int .i64 0, .int .i64 0, .slice none 0 0, .slice none 0 0]) ?_ 7 _ rfl; (with_reducible repeat (first | refine blk_drewN ?_ _ | refine blk_drew ?_ | refine blk_alloc ?_ _)); refine blk_put (cs := #[.string ((rd_T47 l2 x45_2).f0), .string ((rd_T47 l2 x45_2).f1), .int .i64 ((rd_T47 l2 x45_2).f2), .int .i64 ((rd_T47 l2 x45_2).f3.f0.f0), .int .i64 ((rd_T47 l2 x45_2).f3.f0.f1), .int .i64 ((rd_T47 l2 x45_2).f3.f0.f2), .int .i64 0, .int .i64 0, .int .i64 0, .int .i64 0, .slice none 0 0, .slice none 0 0]) ?_ 6 _ rfl; (with_reducible repeat (first | refine blk_drewN ?_ _ | refine blk_drew ?_ | refine blk_alloc ?_ _)); refine blk_put (cs := #[.string ((rd_T47 l2 x45_2).f0), .string ((rd_T47 l2 x45_2).f1), .int .i64 ((rd_T47 l2 x45_2).f2), .int .i64 ((rd_T47 l2 x45_2).f3.f0.f0), .int .i64 ((rd_T47 l2 x45_2).f3.f0.f1), .int .i64 0, .int .i64 0, .int .i64 0, .int .i64 0, .int .i64 0, .slice none 0 0, .slice none 0 0]) ?_ 5 _ rfl; (with_reducible repeat (first | refine blk_drewN ?_ _ | refine blk_drew ?_ | refine blk_alloc ?_ _)); refine blk_put (cs := #[.string ((rd_T47 l2 x45_2).f0), .string ((rd_T47 l2 x45_2).f1), .int .i64 ((rd_T47 l2 x45_2).f2), .int .i64 ((rd_T47 l2 x45_2).f3.f0.f0), .int .i64 0, .int .i64 0, .int .i64 0, .int .i64 0, .int .i64 0, .int .i64 0, .slice none 0 0, .slice none 0 0]) ?_ 4 _ rfl; (with_reducible repeat (first | refine blk_drewN ?_ _ | refine blk_drew ?_ | refine blk_alloc ?_ _)); refine blk_put (cs := #[.string ((rd_T47 l2 x45_2).f0), .string ((rd_T47 l2 x45_2).f1), .int .i64 ((rd_T47 l2 x45_2).f2), .int .i64 0, .int .i64 0, .int .i64 0, .int .i64 0, .int .i64 0, .int .i64 0, .int .i64 0, .slice none 0 0, .slice none 0 0]) ?_ 3 _ rfl; (with_reducible repeat (first | refine blk_drewN ?_ _ | refine blk_drew ?_ | refine blk_alloc ?_ _)); refine blk_put (cs := #[.string ((rd_T47 l2 x45_2).f0), .string ((rd_T47 l2 x45_2).f1), .int .i64 0, .int .i64 0, .int .i64 0, .int .i64 0, .int .i64 0, .int .i64 0, .int .i64 0, .int .i64 0, .slice none 0 0, .slice none 0 0]) ?_ 2 _ rfl; (with_reducible repeat (first | refine blk_drewN ?_ _ | refine blk_drew ?_ | refine blk_alloc ?_ _)); refine blk_put (cs := #[.string ((rd_T47 l2 x45_2).f0), .string (⟨#[]⟩ : ByteArray), .int .i64 0, .int .i64 0, .int .i64 0, .int .i64 0, .int .i64 0, .int .i64 0, .int .i64 0, .int .i64 0, .slice none 0 0, .slice none 0 0]) ?_ 1 _ rfl; (with_reducible repeat (first | refine blk_drewN ?_ _ | refine blk_drew ?_ | refine blk_alloc ?_ _)); refine blk_put (cs := #[.string (⟨#[]⟩ : ByteArray), .string (⟨#[]⟩ : ByteArray), .int .i64 0, .int .i64 0, .int .i64 0, .int .i64 0, .int .i64 0, .int .i64 0, .int .i64 0, .int .i64 0, .slice none 0 0, .slice none 0 0]) ?_ 0 _ rfl; (with_reducible repeat (first | refine blk_drewN ?_ _ | refine blk_drew ?_ | refine blk_alloc ?_ _)); exact BK175.out) hb); have n1_ := Aside0.mk (below_step (by repeat (first | (with_reducible first | exact HB.out | apply below_alloc | apply pw_below_drewN | apply below_drew1 | refine below_set ?_ GE175.out) | exact HB.out)) hb); clear BK175; clear HB; have BK175 := n0_; have HB := n1_; clear n0_ n1_; (try clear hb); (try clear hb2); (try clear hk); (try clear hi)))
                          go_ret2
                          exact ⟨by first | rfl | (simp [errW_none, errW_some] <;> rfl) | (simp [*, errW_none, errW_some] <;> rfl), by repeat (first | (with_reducible first | exact HB.out | apply below_alloc | apply pw_below_drewN | apply below_drew1 | refine below_set ?_ GE175.out) | exact HB.out)⟩
                      · rw [if_neg c25] at H
                        have c25b0 : (((rd_T47 l2 x45_2).f4) == a1) = false := beq_eq_false_iff_ne.mpr c25
                        have c25b1 : (((rd_T47 l2 x45_2).f4) != a1) = true := bne_iff_ne.mpr c25
                        have H' := Aside0.mk H
                        clear H
                        have p174 : 0 ≤ (x45_2 : Int) := of_decide_eq_true (by first | (with_reducible assumption) | assumption)
                        have q174 : x45_2 < (l2.length : Int) := of_decide_eq_true (by first | (with_reducible assumption) | assumption)
                        obtain ⟨ad174, A174_10, c174_10, A174_11, c174_11, e174, hx174_0, hx174_1, hx174_2, hx174_3, hx174_4, hx174_5, hx174_6, hx174_7, hx174_8, hx174_9, hx174_10, hx174_11, hl174_10, hi174_10, hl174_11, hi174_11⟩ := at_T47 HR2.out x45_2 p174 q174
                        cases e174
                        replace hx174_0 := (HB.out.cell (World.block_lt_of_cell? w _ hx174_0)).trans hx174_0
                        replace hx174_1 := (HB.out.cell (World.block_lt_of_cell? w _ hx174_1)).trans hx174_1
                        replace hx174_2 := (HB.out.cell (World.block_lt_of_cell? w _ hx174_2)).trans hx174_2
                        replace hx174_3 := (HB.out.cell (World.block_lt_of_cell? w _ hx174_3)).trans hx174_3
                        replace hx174_4 := (HB.out.cell (World.block_lt_of_cell? w _ hx174_4)).trans hx174_4
                        replace hx174_5 := (HB.out.cell (World.block_lt_of_cell? w _ hx174_5)).trans hx174_5
                        replace hx174_6 := (HB.out.cell (World.block_lt_of_cell? w _ hx174_6)).trans hx174_6
                        replace hx174_7 := (HB.out.cell (World.block_lt_of_cell? w _ hx174_7)).trans hx174_7
                        replace hx174_8 := (HB.out.cell (World.block_lt_of_cell? w _ hx174_8)).trans hx174_8
                        replace hx174_9 := (HB.out.cell (World.block_lt_of_cell? w _ hx174_9)).trans hx174_9
                        replace hx174_10 := (HB.out.cell (World.block_lt_of_cell? w _ hx174_10)).trans hx174_10
                        replace hx174_11 := (HB.out.cell (World.block_lt_of_cell? w _ hx174_11)).trans hx174_11
                        have HR174_10 := Aside0.mk hi174_10
                        have HC174_10 := Aside0.mk hl174_10
                        clear hi174_10 hl174_10
                        have HR174_11 := Aside0.mk hi174_11
                        have HC174_11 := Aside0.mk hl174_11
                        clear hi174_11 hl174_11
                        replace p174 := eq_true p174
                        replace q174 := eq_true q174
                        go_wp2_with (first | ((with_reducible refine gate_dst (N := 15) rfl ?_); refine box_event ?hg (N := 15) ?hd (cs := #[.string (⟨#[]⟩ : ByteArray), .string (⟨#[]⟩ : ByteArray), .int .i64 0, .int .i64 0, .int .i64 0, .int .i64 0, .int .i64 0, .int .i64 0, .int .i64 0, .int .i64 0, .slice none 0 0, .slice none 0 0]) (t := 47) ?hr ?_; (case hd => rfl); (case hg => first | rfl | (go_simp; done)); (case hr => first | (go_simp; done) | (go_simp; rfl)); intro gb175 hg w42 hbox hb; have n0_ := Aside0.mk (below_step (by repeat (first | (with_reducible first | exact HB.out | apply below_alloc | apply pw_below_drewN | apply below_drew1) | exact HB.out)) hb); have n1_ := Aside0.mk (hbox); have n2_ := Aside0.mk ((by rw [hg]; exact (below_size (by repeat (first | (with_reducible first | exact HB.out | apply below_alloc | apply pw_below_drewN | apply below_drew1) | exact HB.out))) : w.heap.size ≤ gb175)); have n3_ := Aside0.mk ((by rw [hg]; exact (below_size (by repeat (first | (with_reducible first | exact HB.out | apply below_alloc | apply pw_below_drewN | apply below_drew1) | exact HB.out))) : w.heap.size ≤ gb175)); clear HB; have HB := n0_; have BK175 := n1_; have GW175 := n2_; have GE175 := n3_; clear n0_ n1_ n2_ n3_; clear hb hbox hg; have hcz43_0 : w42.cell? ⟨gb175, 0, none⟩ = some (.string (⟨#[]⟩ : ByteArray)) := (blk_cell BK175.out 0).trans rfl; have hcz43_1 : w42.cell? ⟨gb175, 1, none⟩ = some (.string (⟨#[]⟩ : ByteArray)) := (blk_cell BK175.out 1).trans rfl; have hcz43_2 : w42.cell? ⟨gb175, 2, none⟩ = some (.int .i64 0) := (blk_cell BK175.out 2).trans rfl; have hcz43_3 : w42.cell? ⟨gb175, 3, none⟩ = some (.int .i64 0) := (blk_cell BK175.out 3).trans rfl; have hcz43_4 : w42.cell? ⟨gb175, 4, none⟩ = some (.int .i64 0) := (blk_cell BK175.out 4).trans rfl; have hcz43_5 : w42.cell? ⟨gb175, 5, none⟩ = some (.int .i64 0) := (blk_cell BK175.out 5).trans rfl; have hcz43_6 : w42.cell? ⟨gb175, 6, none⟩ = some (.int .i64 0) := (blk_cell BK175.out 6).trans rfl; have hcz43_7 : w42.cell? ⟨gb175, 7, none⟩ = some (.int .i64 0) := (blk_cell BK175.out 7).trans rfl; have hcz43_8 : w42.cell? ⟨gb175, 8, none⟩ = some (.int .i64 0) := (blk_cell BK175.out 8).trans rfl; have hcz43_9 : w42.cell? ⟨gb175, 9, none⟩ = some (.int .i64 0) := (blk_cell BK175.out 9).trans rfl; have hcz43_10 : w42.cell? ⟨gb175, 10, none⟩ = some (.slice none 0 0) := (blk_cell BK175.out 10).trans rfl; have hcz43_11 : w42.cell? ⟨gb175, 11, none⟩ = some (.slice none 0 0) := (blk_cell BK175.out 11).trans rfl; have hfz43_0 := blk_frozen BK175.out 0; have hfz43_1 := blk_frozen BK175.out 1; have hfz43_2 := blk_frozen BK175.out 2; have hfz43_3 := blk_frozen BK175.out 3; have hfz43_4 := blk_frozen BK175.out 4; have hfz43_5 := blk_frozen BK175.out 5; have hfz43_6 := blk_frozen BK175.out 6; have hfz43_7 := blk_frozen BK175.out 7; have hfz43_8 := blk_frozen BK175.out 8; have hfz43_9 := blk_frozen BK175.out 9; have hfz43_10 := blk_frozen BK175.out 10; have hfz43_11 := blk_frozen BK175.out 11))
                        go_roundg k2
                        case measure => have := HK1.out; have := HK2.out; omega
                        case rel => exact ⟨(x12_2), (x13_2), (wrap64 (x45_2 + 1)), (by first | rfl | (simp; done) | (simp [*]; done)), (by first | rfl | (simp; done) | (simp [*]; done)), (by first | rfl | (simp; done) | (simp [*]; done)), H', ⟨by have := HK1.out; have := HK2.out; omega⟩, ⟨by repeat (first | (with_reducible first | exact HB.out | apply below_alloc | apply pw_below_drewN | apply below_drew1 | refine below_set ?_ GE175.out) | exact HB.out)⟩⟩
                    · rw [if_neg c24] at H
                      exact absurd H (by simp)
                  · rw [if_neg c23] at H
                    exact absurd H (by simp)
                · rw [if_neg c22] at H
                  have c22b0 : decide (x45_2 < (l2.length : Int)) = false := decide_eq_false c22
                  clear c22
                  by_cases c44 : x12_2 < 0
                  · rw [if_pos c44] at H
                    have c44b0 : decide (x12_2 < 0) = true := decide_eq_true c44
                    clear c44
                    simp only [Option.some.injEq, Prod.mk.injEq] at H
                    obtain ⟨rfl, rfl⟩ := H
                    go_wp2
                    go_ret2
                    exact ⟨by first | rfl | (simp [errW_none, errW_some] <;> rfl) | (simp [*, errW_none, errW_some] <;> rfl), by repeat (first | (with_reducible first | exact HB.out | apply below_alloc | apply pw_below_drewN | apply below_drew1) | exact HB.out)⟩
                  · rw [if_neg c44] at H
                    have c44b0 : decide (x12_2 < 0) = false := decide_eq_false c44
                    clear c44
                    simp only [Option.some.injEq, Prod.mk.injEq] at H
                    obtain ⟨rfl, rfl⟩ := H
                    go_wp2
                    go_ret2
                    exact ⟨by first | rfl | (simp [errW_none, errW_some] <;> rfl) | (simp [*, errW_none, errW_some] <;> rfl), by repeat (first | (with_reducible first | exact HB.out | apply below_alloc | apply pw_below_drewN | apply below_drew1) | exact HB.out)⟩
    · rw [if_neg c6] at H
      have c6b0 : (t170 == 0) = false := beq_eq_false_iff_ne.mpr c6
      have c6b1 : (t170 != 0) = true := bne_iff_ne.mpr c6
      simp only [Option.some.injEq, Prod.mk.injEq] at H
      obtain ⟨rfl, rfl⟩ := H
      go_enter Try.func31, Try.ntmps31
      go_wp2_with (first | ((with_reducible refine gate_callee (f := 16) rfl ?_); refine goesL_ (some 22) rfl rfl Try.func16 (by kernel_rfl) rfl #[.slice A0 l0.length c0] rfl (by (try simp only [List.map_toArray, List.map_cons, List.map_nil]); first | done | rfl | (simp only [List.length_drop, List.length_take]; rfl)) ?_; (with_reducible refine (colour_Check.calls k _ _ l0 t170 _ ?side1 ?side2 A5.out).mono ?_); (case side1 => repeat (first | exact HR0.out | (with_reducible refine Kd.C_alloc ?_ _) | (with_reducible refine Kd.C_drewN ?_ _) | (with_reducible refine Kd.C_drew ?_))); (case side2 => exact HC0.out); rintro e w45 ⟨rfl, hb⟩; refine ⟨_, rfl, ?_⟩; have n0_ := Aside0.mk (below_step (by repeat (first | (with_reducible first | exact HB.out | apply below_alloc | apply pw_below_drewN | apply below_drew1) | exact HB.out)) hb); clear HB; have HB := n0_; clear n0_; (try clear hb); (try clear hb2); (try clear hk); (try clear hi)))
      go_ret2
      exact ⟨by first | rfl | (simp [errW_none, errW_some] <;> rfl) | (simp [*, errW_none, errW_some] <;> rfl), by repeat (first | (with_reducible first | exact HB.out | apply below_alloc | apply pw_below_drewN | apply below_drew1) | exact HB.out)⟩

end Go.Proofs.Ytejnelflfldfgaa.XA
