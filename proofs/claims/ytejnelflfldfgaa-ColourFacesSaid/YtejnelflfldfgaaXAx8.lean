-- written by xprint.py, this project's own program (wip/), over the words of print.sh
import Derived.Test.YtejnelflfldfgaaXAx0
import Derived.Test.YtejnelflfldfgaaXAx4
namespace Go.Proofs.Ytejnelflfldfgaa.XA
open Go.RowKit Go.Proofs.Ytejnelflfldfgaa.Opens Go.Proofs.YtejnelflfldfgaaW.PrintWords Go.Proofs.YtejnelflfldfgaaW.PrintLast Go.Proofs.YtejnelflfldfgaaW.PrintMore
attribute [local go_sem] max2_int min2_int max_two min_two max_three min_three max_four min_four cell_some cell_same   -- for this text's walks alone
set_option linter.unusedVariables false
set_option linter.unusedSimpArgs false

/-! ### colour_Smooth: function 15 -/
mutual
def colour_Smooth.l0 : Nat → List Int → List Int → Int → Int → Option (List Int × Int)
  | 0, _, _, _, _ => none
  | k + 1, x0, x5, x17, x18 => if x18 < x17 then (if 0 ≤ (mx 0 (wrap64 (x18 - 1))) then (if (mx 0 (wrap64 (x18 - 1))) ≤ (mn (x0.length : Int) (wrap64 (x18 + 2))) then (if (mn (x0.length : Int) (wrap64 (x18 + 2))) ≤ (x0.length : Int) then (colour_Smooth.l1 k x0 x5 0 0 x17 x18 ((x0.take ((mn (x0.length : Int) (wrap64 (x18 + 2))) : Int).toNat).drop ((mx 0 (wrap64 (x18 - 1))) : Int).toNat) (((x0.take ((mn (x0.length : Int) (wrap64 (x18 + 2))) : Int).toNat).drop ((mx 0 (wrap64 (x18 - 1))) : Int).toNat).length : Int) 0) else (none)) else (none)) else (none)) else (some (x5, 0))
def colour_Smooth.l1 : Nat → List Int → List Int → Int → Int → Int → Int → List Int → Int → Int → Option (List Int × Int)
  | 0, _, _, _, _, _, _, _, _, _ => none
  | k + 1, x0, x5, x7, x8, x17, x18, x30, x31, x32 => if x32 < x31 then (if 0 ≤ x32 then (if x32 < (x30.length : Int) then (colour_Smooth.l1 k x0 x5 (wrap64 (x7 + (rd x30 x32))) (wrap64 (x8 + 1)) x17 x18 x30 x31 (wrap64 (x32 + 1))) else (none)) else (none)) else (if (wrap64 (2 * x8)) = 0 then (none) else (if x5.length < 17592186044416 then (colour_Smooth.l0 k x0 (x5 ++ [wrap64 (Int.tdiv (wrap64 ((wrap64 (2 * x7)) + x8)) (wrap64 (2 * x8)))]) x17 (wrap64 (x18 + 1))) else (none)))
end
def colour_Smooth.f (k : Nat) (l0 : List Int) : Option (List Int × Int) := (colour_Check.f k l0).bind fun t125 => (if t125 = 0 then (colour_Smooth.l0 k l0 ([] : List Int) (l0.length : Int) 0) else (some (([] : List Int), t125)))
theorem colour_Smooth.mono_l : ∀ k, (∀ y0 y1 y2 y3, LeO (colour_Smooth.l0 k y0 y1 y2 y3) (colour_Smooth.l0 (k + 1) y0 y1 y2 y3)) ∧ (∀ y0 y1 y2 y3 y4 y5 y6 y7 y8, LeO (colour_Smooth.l1 k y0 y1 y2 y3 y4 y5 y6 y7 y8) (colour_Smooth.l1 (k + 1) y0 y1 y2 y3 y4 y5 y6 y7 y8))
  | 0 => ⟨fun _ _ _ _ r h => by simp [colour_Smooth.l0] at h, fun _ _ _ _ _ _ _ _ _ r h => by simp [colour_Smooth.l1] at h⟩
  | k + 1 => by
    obtain ⟨ih0, ih1⟩ := colour_Smooth.mono_l k
    refine ⟨?_, ?_⟩
    · intro y0 y1 y2 y3
      unfold colour_Smooth.l0
      repeat' first
      | (with_reducible exact ih0 _ _ _ _)
      | (with_reducible exact ih1 _ _ _ _ _ _ _ _ _)
      | (with_reducible exact colour_Check.mono _ _)
      | (with_reducible exact LeO.refl _)
      | (with_reducible exact LeO.none _)
      | (with_reducible refine LeO.ite ?_ ?_)
      | (with_reducible refine LeO.bind ?_ (fun _ => ?_))
      | exact ih0 _ _ _ _
      | exact ih1 _ _ _ _ _ _ _ _ _
      | exact colour_Check.mono _ _
      | exact LeO.none _
      | refine LeO.ite ?_ ?_
      | refine LeO.bind ?_ (fun _ => ?_)
    · intro y0 y1 y2 y3 y4 y5 y6 y7 y8
      unfold colour_Smooth.l1
      repeat' first
      | (with_reducible exact ih0 _ _ _ _)
      | (with_reducible exact ih1 _ _ _ _ _ _ _ _ _)
      | (with_reducible exact colour_Check.mono _ _)
      | (with_reducible exact LeO.refl _)
      | (with_reducible exact LeO.none _)
      | (with_reducible refine LeO.ite ?_ ?_)
      | (with_reducible refine LeO.bind ?_ (fun _ => ?_))
      | exact ih0 _ _ _ _
      | exact ih1 _ _ _ _ _ _ _ _ _
      | exact colour_Check.mono _ _
      | exact LeO.none _
      | refine LeO.ite ?_ ?_
      | refine LeO.bind ?_ (fun _ => ?_)
theorem colour_Smooth.mono : ∀ a0 k, LeO (colour_Smooth.f k a0) (colour_Smooth.f (k + 1) a0) := by
  intro a0 k
  obtain ⟨ih0, ih1⟩ := colour_Smooth.mono_l k
  unfold colour_Smooth.f
  repeat' first
      | (with_reducible exact ih0 _ _ _ _)
      | (with_reducible exact ih1 _ _ _ _ _ _ _ _ _)
      | (with_reducible exact colour_Check.mono _ _)
      | (with_reducible exact LeO.refl _)
      | (with_reducible exact LeO.none _)
      | (with_reducible refine LeO.ite ?_ ?_)
      | (with_reducible refine LeO.bind ?_ (fun _ => ?_))
      | exact ih0 _ _ _ _
      | exact ih1 _ _ _ _ _ _ _ _ _
      | exact colour_Check.mono _ _
      | exact LeO.none _
      | refine LeO.ite ?_ ?_
      | refine LeO.bind ?_ (fun _ => ?_)
set_option maxHeartbeats 8000000 in
set_option maxRecDepth 100000 in
theorem colour_Smooth.calls (k : Nat) (A0 : Option Addr) (c0 : Nat) (l0 : List Int) (r1 : List Int) (r2 : Int) (w : World) (hr0 : Kd.C (Kd.int .i64) w A0 l0.length l0) (hc0 : l0.length ≤ c0) (h : colour_Smooth.f k l0 = some (r1, r2)) :
    Calls Try.prog 15 #[.slice A0 l0.length c0] w fun e w' => ∃ v0_ : Value, e = .returned (.tuple #[v0_, .int .i64 r2]) ∧ Kd.R (Kd.int .i64) 3 w' w.heap.size (fun _ => True) v0_ r1 ∧ Below w.heap.size w w' := by
  have HR0 := Aside0.mk hr0
  have HC0 := Aside0.mk hc0
  clear hr0 hc0
  have HB := Aside0.mk (Below.refl w.heap.size w)
  have H : ((colour_Check.f k l0).bind fun t125 => (if t125 = 0 then (colour_Smooth.l0 k l0 ([] : List Int) (l0.length : Int) 0) else (some (([] : List Int), t125)))) = some (r1, r2) := h
  clear h
  replace H := Option.bind_eq_some_iff.mp H
  obtain ⟨t125, A20, H⟩ := H
  replace H : (if t125 = 0 then (colour_Smooth.l0 k l0 ([] : List Int) (l0.length : Int) 0) else (some (([] : List Int), t125))) = some (r1, r2) := H
  have A2 := Aside0.mk A20
  clear A20
  by_cases c3 : t125 = 0
  · rw [if_pos c3] at H
    have c3b0 : (t125 == 0) = true := beq_iff_eq.mpr c3
    have c3b1 : (t125 != 0) = false := bne_eq_false_iff_eq.mpr c3
    clear c3
    have H' := Aside0.mk H
    clear H
    go_enter Try.func15, Try.ntmps15
    go_wp2_with (first | ((with_reducible refine gate_callee (f := 16) rfl ?_); refine goesL_ (some 12) rfl rfl Try.func16 (by kernel_rfl) rfl #[.slice A0 l0.length c0] rfl (by (try simp only [List.map_toArray, List.map_cons, List.map_nil]); first | done | rfl | (simp only [List.length_drop, List.length_take]; rfl)) ?_; (with_reducible refine (colour_Check.calls k _ _ l0 t125 _ ?side1 ?side2 A2.out).mono ?_); (case side1 => repeat (first | exact HR0.out | (with_reducible refine Kd.C_alloc ?_ _) | (with_reducible refine Kd.C_drewN ?_ _) | (with_reducible refine Kd.C_drew ?_))); (case side2 => exact HC0.out); rintro e w4 ⟨rfl, hb⟩; refine ⟨_, rfl, ?_⟩; have n0_ := Aside0.mk (below_step (by repeat (first | (with_reducible first | exact HB.out | apply below_alloc | apply pw_below_drewN | apply below_drew1) | exact HB.out)) hb); clear HB; have HB := n0_; clear n0_; (try clear hb); (try clear hb2); (try clear hk); (try clear hi)))
    go_loopg [5, 18] k (fun kq v5 v18 w' => ∃ (x5_1 : List Int) (x18_1 : Int), v18 = .int .i64 x18_1 ∧ Aside0 (colour_Smooth.l0 kq l0 x5_1 (l0.length : Int) x18_1 = some (r1, r2)) ∧ Aside0 (kq ≤ k) ∧ Aside0 (Kd.R (Kd.int .i64) 3 w' w.heap.size (fun _ => True) v5 x5_1) ∧ Aside0 (Below w.heap.size w w'))
    case atStart => exact ⟨(([] : List Int)), (0), (by first | rfl | (simp; done) | (simp [*]; done)), H', ⟨Nat.le_refl _⟩, ⟨by first | exact Kd.R_nil _ _ _ _ _ | exact Kd.N_nil _ _ _ _ _ | exact Kd.V_nil _ _ _ _ _ | exact Kd.Q_nil _ _ _ _ _ | exact Kd.S_nil _ _ _ _ _⟩, ⟨by repeat (first | (with_reducible first | exact HB.out | apply below_alloc | apply pw_below_drewN | apply below_drew1) | exact HB.out)⟩⟩
    case round =>
      clear H'
      try clear c1
      try clear p2
      try clear c3
      try clear c3b0
      try clear c3b1
      obtain ⟨x5_1, x18_1, rfl, HA, HK1, HO_5, HB⟩ := hrel
      cases gk with
      | zero => exact absurd HA.out (by simp [colour_Smooth.l0])
      | succ k1 =>
        have H := HA.out
        clear HA
        simp only [colour_Smooth.l0] at H
        by_cases c5 : x18_1 < (l0.length : Int)
        · rw [if_pos c5] at H
          have c5b0 : decide (x18_1 < (l0.length : Int)) = true := decide_eq_true c5
          clear c5
          obtain ⟨ji6, hji6⟩ : ∃ j_ : Int, (mx 0 (wrap64 (x18_1 - 1))) = j_ := ⟨_, rfl⟩
          replace H : (if 0 ≤ (ji6) then (if (ji6) ≤ (mn (l0.length : Int) (wrap64 (x18_1 + 2))) then (if (mn (l0.length : Int) (wrap64 (x18_1 + 2))) ≤ (l0.length : Int) then (colour_Smooth.l1 k1 l0 x5_1 0 0 (l0.length : Int) x18_1 ((l0.take ((mn (l0.length : Int) (wrap64 (x18_1 + 2))) : Int).toNat).drop ((ji6) : Int).toNat) (((l0.take ((mn (l0.length : Int) (wrap64 (x18_1 + 2))) : Int).toNat).drop ((ji6) : Int).toNat).length : Int) 0) else (none)) else (none)) else (none)) = some (r1, r2) := by first | (rw [hji6] at H; exact H) | (simp only [hji6] at H ⊢; exact H)
          have hji6_ : (if 0 < (wrap64 (x18_1 - 1)) then (wrap64 (x18_1 - 1)) else 0) = ji6 := hji6
          obtain ⟨ji7, hji7⟩ : ∃ j_ : Int, (mn (l0.length : Int) (wrap64 (x18_1 + 2))) = j_ := ⟨_, rfl⟩
          replace H : (if 0 ≤ (ji6) then (if (ji6) ≤ (ji7) then (if (ji7) ≤ (l0.length : Int) then (colour_Smooth.l1 k1 l0 x5_1 0 0 (l0.length : Int) x18_1 ((l0.take ((ji7) : Int).toNat).drop ((ji6) : Int).toNat) (((l0.take ((ji7) : Int).toNat).drop ((ji6) : Int).toNat).length : Int) 0) else (none)) else (none)) else (none)) = some (r1, r2) := by first | (rw [hji7] at H; exact H) | (simp only [hji7] at H ⊢; exact H)
          have hji7_ : (if (wrap64 (x18_1 + 2)) < (l0.length : Int) then (wrap64 (x18_1 + 2)) else (l0.length : Int)) = ji7 := hji7
          by_cases c8 : 0 ≤ (ji6)
          · rw [if_pos c8] at H
            have c8b0 := eq_true c8
            have c8b1 : decide (0 ≤ (ji6)) = true := decide_eq_true c8
            clear c8
            by_cases c9 : (ji6) ≤ (ji7)
            · rw [if_pos c9] at H
              have c9b0 := eq_true c9
              have c9b1 : decide ((ji6) ≤ (ji7)) = true := decide_eq_true c9
              clear c9
              by_cases c10 : (ji7) ≤ (l0.length : Int)
              · rw [if_pos c10] at H
                have c10b0 := eq_true c10
                have c10b1 : decide ((ji7) ≤ (l0.length : Int)) = true := decide_eq_true c10
                clear c10
                have H' := Aside0.mk H
                clear H
                have HLN := Aside0.mk (show ((l0.take ji7.toNat).drop ji6.toNat).length = ji7.toNat - ji6.toNat by rw [List.length_drop, List.length_take]; have := of_decide_eq_true c10b1; omega)
                obtain ⟨i011, hi011, _, hsz11, _⟩ := info_parts info3
                obtain ⟨A11, hcut11, hA11, hC11⟩ := print_mid_of (P := Try.prog) (Value.int .i64) 0 22 3 .i64 .i64 Try.underlying22 hi011 hsz11 A0 c0 l0 (ji6) (ji7) (of_decide_eq_true (by first | (with_reducible assumption) | assumption)) (by first | omega | exact of_decide_eq_true (by first | (with_reducible assumption) | assumption)) (of_decide_eq_true (by first | (with_reducible assumption) | assumption)) HC0.out
                have HR126 := Aside0.mk (Kd.C_of_reads (h1 := fun _ => rfl) (hA11 _ (Kd.reads_of_C HR0.out)))
                have HC126 := Aside0.mk hC11
                clear hA11 hC11 hi011 hsz11
                go_wp2
                go_loopg [7, 8, 32] k1 (fun kq v7 v8 v32 w' => ∃ (x7_2 : Int) (x8_2 : Int) (x32_2 : Int), v7 = .int .i64 x7_2 ∧ v8 = .int .i64 x8_2 ∧ v32 = .int .i64 x32_2 ∧ Aside0 (colour_Smooth.l1 kq l0 x5_1 x7_2 x8_2 (l0.length : Int) x18_1 ((l0.take ((ji7) : Int).toNat).drop ((ji6) : Int).toNat) (((l0.take ((ji7) : Int).toNat).drop ((ji6) : Int).toNat).length : Int) x32_2 = some (r1, r2)) ∧ Aside0 (kq ≤ k1) ∧ Aside0 (Kd.R (Kd.int .i64) 3 w' w.heap.size (fun _ => True) u5 x5_1) ∧ Aside0 (Below w.heap.size w w'))
                case atStart => exact ⟨(0), (0), (0), (by first | rfl | (simp; done) | (simp [*]; done)), (by first | rfl | (simp; done) | (simp [*]; done)), (by first | rfl | (simp; done) | (simp [*]; done)), H', ⟨Nat.le_refl _⟩, ⟨by (with_reducible repeat (first | apply Kd.R_alloc | apply Kd.R_drewN | apply Kd.R_drew)); exact HO_5.out⟩, ⟨by repeat (first | (with_reducible first | exact HB.out | apply below_alloc | apply pw_below_drewN | apply below_drew1) | exact HB.out)⟩⟩
                case round =>
                  clear H'
                  try clear c1
                  try clear p2
                  try clear c3
                  try clear c3b0
                  try clear c3b1
                  try clear c5
                  try clear c5b0
                  try clear p6
                  try clear c8
                  try clear c8b0
                  try clear c8b1
                  try clear c9
                  try clear c9b0
                  try clear c9b1
                  try clear c10
                  try clear c10b0
                  try clear c10b1
                  try clear p2
                  obtain ⟨x7_2, x8_2, x32_2, rfl, rfl, rfl, HA, HK2, HO_5, HB⟩ := hrel
                  cases gk with
                  | zero => exact absurd HA.out (by simp [colour_Smooth.l1])
                  | succ k2 =>
                    have H := HA.out
                    clear HA
                    simp only [colour_Smooth.l1] at H
                    by_cases c12 : x32_2 < (((l0.take ((ji7) : Int).toNat).drop ((ji6) : Int).toNat).length : Int)
                    · rw [if_pos c12] at H
                      have c12b0 : decide (x32_2 < (((l0.take ((ji7) : Int).toNat).drop ((ji6) : Int).toNat).length : Int)) = true := decide_eq_true c12
                      have c12b9 : decide (x32_2 < ((ji7.toNat - ji6.toNat : Nat) : Int)) = true := by rw [← HLN.out]; exact c12b0
                      clear c12
                      by_cases c13 : 0 ≤ x32_2
                      · rw [if_pos c13] at H
                        have c13b0 : decide (0 ≤ x32_2) = true := decide_eq_true c13
                        clear c13
                        by_cases c14 : x32_2 < (((l0.take ((ji7) : Int).toNat).drop ((ji6) : Int).toNat).length : Int)
                        · rw [if_pos c14] at H
                          have c14b0 : decide (x32_2 < (((l0.take ((ji7) : Int).toNat).drop ((ji6) : Int).toNat).length : Int)) = true := decide_eq_true c14
                          have c14b9 : decide (x32_2 < ((ji7.toNat - ji6.toNat : Nat) : Int)) = true := by rw [← HLN.out]; exact c14b0
                          clear c14
                          have H' := Aside0.mk H
                          clear H
                          have p127 : 0 ≤ (x32_2 : Int) := of_decide_eq_true (by first | (with_reducible assumption) | assumption)
                          have q127 : x32_2 < (((l0.take ((ji7) : Int).toNat).drop ((ji6) : Int).toNat).length : Int) := of_decide_eq_true (by first | (with_reducible assumption) | assumption)
                          obtain ⟨ad127, e127, hx127_0⟩ := Kd.at_int HR126.out x32_2 p127 q127
                          cases e127
                          replace hx127_0 := (HB.out.cell (World.block_lt_of_cell? w _ hx127_0)).trans hx127_0
                          replace p127 := eq_true p127
                          replace q127 := eq_true q127
                          have q127b := eq_true (of_decide_eq_true c14b9)
                          go_wp2
                          go_roundg k2
                          case measure => have := HK1.out; have := HK2.out; omega
                          case rel => exact ⟨(wrap64 (x7_2 + (rd ((l0.take ((ji7) : Int).toNat).drop ((ji6) : Int).toNat) x32_2))), (wrap64 (x8_2 + 1)), (wrap64 (x32_2 + 1)), (by first | rfl | (simp; done) | (simp only [← hji6, ← hji7] <;> (first | rfl | simp)) | (simp [*]; done)), (by first | rfl | (simp; done) | (simp [*]; done)), (by first | rfl | (simp; done) | (simp [*]; done)), H', ⟨by have := HK1.out; have := HK2.out; omega⟩, ⟨by (with_reducible repeat (first | apply Kd.R_alloc | apply Kd.R_drewN | apply Kd.R_drew)); exact HO_5.out⟩, ⟨by repeat (first | (with_reducible first | exact HB.out | apply below_alloc | apply pw_below_drewN | apply below_drew1) | exact HB.out)⟩⟩
                        · rw [if_neg c14] at H
                          exact absurd H (by simp)
                      · rw [if_neg c13] at H
                        exact absurd H (by simp)
                    · rw [if_neg c12] at H
                      have c12b0 : decide (x32_2 < (((l0.take ((ji7) : Int).toNat).drop ((ji6) : Int).toNat).length : Int)) = false := decide_eq_false c12
                      have c12b9 : decide (x32_2 < ((ji7.toNat - ji6.toNat : Nat) : Int)) = false := by rw [← HLN.out]; exact c12b0
                      clear c12
                      by_cases c15 : (wrap64 (2 * x8_2)) = 0
                      · rw [if_pos c15] at H
                        exact absurd H (by simp)
                      · rw [if_neg c15] at H
                        have c15b0 : ((wrap64 (2 * x8_2)) == 0) = false := beq_eq_false_iff_ne.mpr c15
                        have c15b1 : ((wrap64 (2 * x8_2)) != 0) = true := bne_iff_ne.mpr c15
                        by_cases c16 : x5_1.length < 17592186044416
                        · rw [if_pos c16] at H
                          have LMc16 := Aside0.mk c16
                          clear c16
                          obtain ⟨y128, hy128⟩ : ∃ y_ : List Int, y_ = (x5_1 ++ [wrap64 (Int.tdiv (wrap64 ((wrap64 (2 * x7_2)) + x8_2)) (wrap64 (2 * x8_2)))]) := ⟨_, rfl⟩
                          replace H : (colour_Smooth.l0 k2 l0 y128 (l0.length : Int) (wrap64 (x18_1 + 1))) = some (r1, r2) := by first | (rw [hy128]; with_reducible exact H) | (have H2_ := (Option.bind_some _ _).symm.trans H; rw [hy128]; with_reducible exact H2_) | (have H2_ := (Option.bind_some _ _).symm.trans H; with_reducible exact H2_) | with_reducible exact H | (rw [hy128]; exact H) | exact H
                          have Ny128 := Aside0.mk hy128
                          clear hy128
                          have H' := Aside0.mk H
                          clear H
                          go_wp2_with (first | ((with_reducible refine gate_builtin (b := .append) (xs := #[.tmp 42, .tmp 50]) rfl ?_); at_builtin; refine Kd.R_append (Kd.int .i64) (w0 := w) w.heap.size rfl (.tmp 42) (.tmp 50) 22 3 (.int .i64 0) 8 rfl Try.underlying22 info3 rfl (by decide) (by omega) u5 x5_1 (wrap64 (Int.tdiv (wrap64 ((wrap64 (2 * x7_2)) + x8_2)) (wrap64 (2 * x8_2)))) [.int .i64 (wrap64 (Int.tdiv (wrap64 ((wrap64 (2 * x7_2)) + x8_2)) (wrap64 (2 * x8_2))))] (fun _ => True) (fun _ => False) rfl rfl ?aP (fun _ hk => hk.elim) ?aF ?aO ?aB ?aS ?aL ?_; (case aP => exact rfl); (case aB => exact (by repeat (first | (with_reducible first | exact HB.out | apply below_alloc | apply pw_below_drewN | apply below_drew1) | exact HB.out))); (case aF => exact (fun _ _ => trivial)); (case aO => exact (by (with_reducible repeat (first | apply Kd.R_alloc | apply Kd.R_drewN | apply Kd.R_drew)); exact HO_5.out)); (case aS => exact (below_size (by repeat (first | (with_reducible first | exact HB.out | apply below_alloc | apply pw_below_drewN | apply below_drew1) | exact HB.out)))); (case aL => have := LMc16.out; omega); intro v129 w17 ho hb hg hat; rw [← Ny128.out] at ho; have n0_ := Aside0.mk (hb); have n1_ := Aside0.mk (ho); clear HB; clear HO_5; have HB := n0_; have HO130 := n1_; clear n0_ n1_; clear ho hb hg hat))
                          go_roundg k2
                          case measure => have := HK1.out; have := HK2.out; omega
                          case rel => exact ⟨(y128), (wrap64 (x18_1 + 1)), (by first | rfl | (simp; done) | (simp [*]; done)), H', ⟨by have := HK1.out; have := HK2.out; omega⟩, ⟨by (with_reducible repeat (first | apply Kd.R_alloc | apply Kd.R_drewN | apply Kd.R_drew)); exact HO130.out⟩, ⟨by repeat (first | (with_reducible first | exact HB.out | apply below_alloc | apply pw_below_drewN | apply below_drew1) | exact HB.out)⟩⟩
                        · rw [if_neg c16] at H
                          exact absurd H (by simp)
              · rw [if_neg c10] at H
                exact absurd H (by simp)
            · rw [if_neg c9] at H
              exact absurd H (by simp)
          · rw [if_neg c8] at H
            exact absurd H (by simp)
        · rw [if_neg c5] at H
          have c5b0 : decide (x18_1 < (l0.length : Int)) = false := decide_eq_false c5
          clear c5
          simp only [Option.some.injEq, Prod.mk.injEq] at H
          obtain ⟨rfl, rfl⟩ := H
          go_wp2
          go_ret2
          exact ⟨_, by first | rfl | (simp [errW_none, errW_some] <;> rfl) | (simp [*, errW_none, errW_some] <;> rfl), by (with_reducible repeat (first | apply Kd.R_alloc | apply Kd.R_drewN | apply Kd.R_drew)); exact HO_5.out, by repeat (first | (with_reducible first | exact HB.out | apply below_alloc | apply pw_below_drewN | apply below_drew1) | exact HB.out)⟩
  · rw [if_neg c3] at H
    have c3b0 : (t125 == 0) = false := beq_eq_false_iff_ne.mpr c3
    have c3b1 : (t125 != 0) = true := bne_iff_ne.mpr c3
    simp only [Option.some.injEq, Prod.mk.injEq] at H
    obtain ⟨rfl, rfl⟩ := H
    go_enter Try.func15, Try.ntmps15
    go_wp2_with (first | ((with_reducible refine gate_callee (f := 16) rfl ?_); refine goesL_ (some 12) rfl rfl Try.func16 (by kernel_rfl) rfl #[.slice A0 l0.length c0] rfl (by (try simp only [List.map_toArray, List.map_cons, List.map_nil]); first | done | rfl | (simp only [List.length_drop, List.length_take]; rfl)) ?_; (with_reducible refine (colour_Check.calls k _ _ l0 t125 _ ?side1 ?side2 A2.out).mono ?_); (case side1 => repeat (first | exact HR0.out | (with_reducible refine Kd.C_alloc ?_ _) | (with_reducible refine Kd.C_drewN ?_ _) | (with_reducible refine Kd.C_drew ?_))); (case side2 => exact HC0.out); rintro e w18 ⟨rfl, hb⟩; refine ⟨_, rfl, ?_⟩; have n0_ := Aside0.mk (below_step (by repeat (first | (with_reducible first | exact HB.out | apply below_alloc | apply pw_below_drewN | apply below_drew1) | exact HB.out)) hb); clear HB; have HB := n0_; clear n0_; (try clear hb); (try clear hb2); (try clear hk); (try clear hi)))
    go_ret2
    exact ⟨_, by first | rfl | (simp [errW_none, errW_some] <;> rfl) | (simp [*, errW_none, errW_some] <;> rfl), by first | exact Kd.R_nil _ _ _ _ _ | exact Kd.N_nil _ _ _ _ _ | exact Kd.V_nil _ _ _ _ _ | exact Kd.Q_nil _ _ _ _ _ | exact Kd.S_nil _ _ _ _ _, by repeat (first | (with_reducible first | exact HB.out | apply below_alloc | apply pw_below_drewN | apply below_drew1) | exact HB.out)⟩

end Go.Proofs.Ytejnelflfldfgaa.XA
