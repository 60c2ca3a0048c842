import Derived.Test.YtgacodhpniehiaaXAx11
import Derived.Test.YtgacodhpniehiaaXAx10
namespace Go.Proofs.Ytgacodhpniehiaa.XA
open Go.RowKit Opens YtgacodhpniehiaaW.PrintWords YtgacodhpniehiaaW.PrintLast YtgacodhpniehiaaW.PrintMore
attribute [local go_sem] max2_int min2_int max_two min_two max_three min_three max_four min_four cell_some cell_same
set_option linter.unusedVariables false
set_option linter.unusedSimpArgs false

def boxpack_Problem_table.l0 : Nat → List Int → Int → Int → Int → Int → Int → Int → List (S56) → Option (List Int)
  | 0, _, _, _, _, _, _, _, _ => none
  | k + 1, x3, x9, x10, x157000, x157001, x157002, x157003, x157004 => if x10 < x9 then ((boxpack_Problem_size.f x157000 x157001 x157002 x157003 x157004 x10).bind fun bt161 => ((boxpack_Problem_least.f k x157000 x157001 x157002 x157003 x157004 x3 bt161.1 bt161.2.1 bt161.2.2).bind fun t164 => (if 0 ≤ x10 then (if x10 < (x3.length : Int) then (boxpack_Problem_table.l0 k (x3.set (x10 : Int).toNat t164) x9 (wrap64 (x10 + 1)) x157000 x157001 x157002 x157003 x157004) else (none)) else (none)))) else (some x3)
def boxpack_Problem_table.f (k : Nat) (a0_0 : Int) (a0_1 : Int) (a0_2 : Int) (a0_3 : Int) (l0_4 : List (S56)) : Option (List Int) := (boxpack_Problem_count.f a0_0 a0_1 a0_2 a0_3 l0_4).bind fun t157 => (if 0 ≤ t157 then (if (t157 : Int).toNat ≤ 35184372088832 then ((some (List.replicate (t157 : Int).toNat 0 : List Int)).bind fun y158 => (boxpack_Problem_table.l0 k y158 (y158.length : Int) 0 a0_0 a0_1 a0_2 a0_3 l0_4)) else (none)) else (none))
theorem boxpack_Problem_table.mono_l : ∀ k, (∀ y0 y1 y2 y3 y4 y5 y6 y7, LeO (boxpack_Problem_table.l0 k y0 y1 y2 y3 y4 y5 y6 y7) (boxpack_Problem_table.l0 (k + 1) y0 y1 y2 y3 y4 y5 y6 y7))
  | 0 => fun _ _ _ _ _ _ _ _ r h => by simp [boxpack_Problem_table.l0] at h
  | k + 1 => by
    have ih0 := boxpack_Problem_table.mono_l k
    intro y0 y1 y2 y3 y4 y5 y6 y7
    unfold boxpack_Problem_table.l0
    repeat' first
    | (with_reducible exact ih0 _ _ _ _ _ _ _ _)
    | (with_reducible exact boxpack_Problem_least.mono _ _ _ _ _ _ _ _ _ _)
    | (with_reducible exact LeO.refl _)
    | (with_reducible refine LeO.ite ?_ ?_)
    | (with_reducible refine LeO.bind ?_ (fun _ => ?_))
theorem boxpack_Problem_table.mono : ∀ a0 a1 a2 a3 a4 k, LeO (boxpack_Problem_table.f k a0 a1 a2 a3 a4) (boxpack_Problem_table.f (k + 1) a0 a1 a2 a3 a4) := by
  intro a0 a1 a2 a3 a4 k
  have ih0 := boxpack_Problem_table.mono_l k
  unfold boxpack_Problem_table.f
  repeat' first
      | (with_reducible exact ih0 _ _ _ _ _ _ _ _)
      | (with_reducible exact LeO.refl _)
      | (with_reducible refine LeO.ite ?_ ?_)
      | (with_reducible refine LeO.bind ?_ (fun _ => ?_))
def boxpack_Problem_table.T5 : Bool × List (List Nat × List Nat) := (true, [([], []), ([], []), ([], []), ([], []), ([], []), ([], []), ([4, 5], [4, 5]), ([2, 3, 6, 6], [2, 3, 6]), ([0, 1, 0, 1, 2, 3, 4, 5, 6, 7], [0, 1]), ([8, 7, 7, 0, 1, 2, 3, 4, 5, 6, 7], [7, 8])])
def boxpack_Problem_table.B5 : List Nat := [0, 0, 0, 0, 0, 0, 48, 124, 255, 511]
theorem boxpack_Problem_table.tab5 : rtab .any (opsOf Try.f45 5) = boxpack_Problem_table.T5 := by kernel_rfl
theorem boxpack_Problem_table.bits5 : waitsOk boxpack_Problem_table.T5.2 boxpack_Problem_table.B5 = true := by kernel_rfl
set_option maxHeartbeats 8000000 in
set_option maxRecDepth 100000 in
theorem boxpack_Problem_table.calls (k : Nat) (a0_0 : Int) (a0_1 : Int) (a0_2 : Int) (a0_3 : Int) (A0_4 : Option Addr) (c0_4 : Nat) (l0_4 : List (S56)) (r : List Int) (w : World) (hr0_4 : Kd.C k56 w A0_4 l0_4.length l0_4) (hc0_4 : l0_4.length ≤ c0_4) (h : boxpack_Problem_table.f k a0_0 a0_1 a0_2 a0_3 l0_4 = some r) :
    Calls Try.prog 45 #[.agg #[.int .i64 a0_0, .int .i64 a0_1, .int .i64 a0_2, .int .i64 a0_3, .slice A0_4 l0_4.length c0_4]] w fun e w' => ∃ v0_ : Value, e = .returned (v0_) ∧ Kd.R (Kd.int .i64) 2 w' w.heap.size (fun _ => True) v0_ r ∧ Below w.heap.size w w' := by
  have hu33 := Try.underlying33
  have HR0_4 := ak hr0_4
  have HC0_4 := ak hc0_4
  clear hr0_4 hc0_4
  have HB := ak (Below.refl w.heap.size w)
  have H : ((boxpack_Problem_count.f a0_0 a0_1 a0_2 a0_3 l0_4).bind fun t157 => (if 0 ≤ t157 then (if (t157 : Int).toNat ≤ 35184372088832 then ((some (List.replicate (t157 : Int).toNat 0 : List Int)).bind fun y158 => (boxpack_Problem_table.l0 k y158 (y158.length : Int) 0 a0_0 a0_1 a0_2 a0_3 l0_4)) else (none)) else (none))) = some r := h
  clear h
  replace H := Option.bind_eq_some_iff.mp H
  obtain ⟨t157, A20, H⟩ := H
  (try dsimp only at H)
  have A2 := ak A20
  clear A20
  by_cases c3 : 0 ≤ t157
  · rw [if_pos c3] at H
    have c3b0 := eq_true c3
    have c3b1 : decide (0 ≤ t157) = true := decide_eq_true c3
    clear c3
    by_cases c4 : (t157 : Int).toNat ≤ 35184372088832
    · rw [if_pos c4] at H
      have c4b0 := eq_true c4
      have c4b1 : decide ((t157 : Int).toNat ≤ 35184372088832) = true := decide_eq_true c4
      clear c4
      obtain ⟨y158, hy158⟩ : ∃ y_ : List Int, y_ = (List.replicate (t157 : Int).toNat 0) := ⟨_, rfl⟩
      replace H : (boxpack_Problem_table.l0 k y158 (y158.length : Int) 0 a0_0 a0_1 a0_2 a0_3 l0_4) = some r := by (have H2_ := (Option.bind_some _ _).symm.trans H; rw [hy158]; with_reducible exact H2_)
      have Ny158 := ak hy158
      clear hy158
      have H' := ak H
      clear H
      go_enter Try.func45, Try.ntmps45
      go_wp2_with (first | ((with_reducible refine gate_dst (N := 1) rfl ?_); refine bx_ 1 #[.int .i64 a0_0, .int .i64 a0_1, .int .i64 a0_2, .int .i64 a0_3, .slice A0_4 l0_4.length c0_4] 33 ?_; intro gb156 hg w5 hbox hb; have n0_ := ak (below_step HB.1 hb); have n1_ := ak (hbox); have n2_ := ak ((by rw [hg]; exact (below_size HB.1) : w.heap.size ≤ gb156)); have n3_ := ak ((by rw [hg]; exact (below_size HB.1) : w.heap.size ≤ gb156)); clear HB; have HB := n0_; have BK156 := n1_; have GW156 := n2_; have GE156 := n3_; clear n0_ n1_ n2_ n3_; clear hb hbox hg; have hcz6_0 : w5.cell? ⟨gb156, 0, none⟩ = some (.int .i64 a0_0) := bc_ BK156 0; have hcz6_1 : w5.cell? ⟨gb156, 1, none⟩ = some (.int .i64 a0_1) := bc_ BK156 1; have hcz6_2 : w5.cell? ⟨gb156, 2, none⟩ = some (.int .i64 a0_2) := bc_ BK156 2; have hcz6_3 : w5.cell? ⟨gb156, 3, none⟩ = some (.int .i64 a0_3) := bc_ BK156 3; have hcz6_4 : w5.cell? ⟨gb156, 4, none⟩ = some (.slice A0_4 l0_4.length c0_4) := bc_ BK156 4; have hfz6_0 := blk_frozen BK156.1 0; have hfz6_1 := blk_frozen BK156.1 1; have hfz6_2 := blk_frozen BK156.1 2; have hfz6_3 := blk_frozen BK156.1 3; have hfz6_4 := blk_frozen BK156.1 4) | ((with_reducible refine gate_callee (f := 54) rfl ?_); refine gl_ 6 Try.func54 #[.agg #[.int .i64 a0_0, .int .i64 a0_1, .int .i64 a0_2, .int .i64 a0_3, .slice A0_4 l0_4.length c0_4]] ?_; (with_reducible refine (boxpack_Problem_count.calls a0_0 a0_1 a0_2 a0_3 _ _ l0_4 t157 _ ?side1 ?side2 A2.1).mono ?_); (case side1 => exact (Kd.C_below HR0_4.1 HB.1)); (case side2 => exact HC0_4.1); rintro e w7 ⟨rfl, hb⟩; refine ⟨_, rfl, ?_⟩; have n0_ := ak (blk_below (g := gb156) (o := .cells #[.int .i64 a0_0, .int .i64 a0_1, .int .i64 a0_2, .int .i64 a0_3, .slice A0_4 l0_4.length c0_4] 33 (0, 0)) (by exact BK156.1) hb); have n1_ := ak (below_step HB.1 hb); clear BK156; clear HB; have BK156 := n0_; have HB := n1_; clear n0_ n1_; (try clear hb)) | ((with_reducible refine gate_dst (N := 7) rfl ?_); refine Kd.R_make (Kd.int .i64) _ 2 rfl (N := 7) rfl 40 _ _ rfl t157 rfl rfl Try.underlying40 (.int .i64 0) 8 info2 rfl (by decide) (by omega) 0 (ok := fun _ => True) (okp := fun _ => True) rfl (fun _ hk => hk) trivial (od_) (Nat.le_trans (Nat.mul_le_mul_right _ (od_ : t157.toNat ≤ 35184372088832)) (by omega)) (Below.refl _ _) (Nat.le_refl _) ?_; intro v159 w8 ho9 hb hg_ hnew_; clear hg_ hnew_; (rw [← Ny158.1] at ho9); have n0_ := ak (Kd.R_lower ho9 (below_size HB.1)); have n1_ := ak (blk_below (g := gb156) (o := .cells #[.int .i64 a0_0, .int .i64 a0_1, .int .i64 a0_2, .int .i64 a0_3, .slice A0_4 l0_4.length c0_4] 33 (0, 0)) (by exact BK156.1) hb); have n2_ := ak (below_step HB.1 hb); clear BK156; clear HB; have HO160 := n0_; have BK156 := n1_; have HB := n2_; clear n0_ n1_ n2_; clear hb ho9; obtain ⟨Ao10, co10, eo10⟩ := Kd.R_slice HO160.1; subst eo10))
      go_loopg [10] k (fun kq v10 w' => ∃ (x3_1 : List Int) (x10_1 : Int), v10 = .int .i64 x10_1 ∧ Aside0 (boxpack_Problem_table.l0 kq x3_1 (y158.length : Int) x10_1 a0_0 a0_1 a0_2 a0_3 l0_4 = some r) ∧ Aside0 (kq ≤ k) ∧ Aside0 (Kd.R (Kd.int .i64) 2 w' w.heap.size (fun _ => True) (.slice Ao10 y158.length co10) x3_1) ∧ Aside0 (w'.heap[gb156]? = some (.cells #[.int .i64 a0_0, .int .i64 a0_1, .int .i64 a0_2, .int .i64 a0_3, (.slice A0_4 l0_4.length c0_4)] 33 (0, 0))) ∧ Aside0 (Below w.heap.size w w'))
      case atStart => exact ⟨(y158), (0), (by rfl), H', ⟨Nat.le_refl _⟩, ⟨by exact HO160.1⟩, ⟨by exact BK156.1⟩, ⟨by repeat (with_reducible exact HB.1)⟩⟩
      clear H'
      try clear c3b0
      try clear c3b1
      try clear c4b0
      try clear c4b1
      try clear hcz6_0
      try clear hcz6_1
      try clear hcz6_2
      try clear hcz6_3
      try clear hcz6_4
      try clear hfz6_0
      try clear hfz6_1
      try clear hfz6_2
      try clear hfz6_3
      try clear hfz6_4
      obtain ⟨x3_1, x10_1, rfl, HA, HK1, HO_3, BK156, HB⟩ := hrel
      have hl3_1 := (Kd.R_reads' HO_3.1).1
      rw [hl3_1] at HO_3
      (try simp only [hl3_1])
      cases gk with
      | zero => exact absurd HA.1 (by simp [boxpack_Problem_table.l0])
      | succ k1 =>
        have H := HA.1
        clear HA
        simp only [boxpack_Problem_table.l0] at H
        by_cases c11 : x10_1 < (y158.length : Int)
        · rw [if_pos c11] at H
          have c11b0 : decide (x10_1 < (y158.length : Int)) = true := decide_eq_true c11
          clear c11
          replace H := Option.bind_eq_some_iff.mp H
          obtain ⟨⟨t161, t162, t163⟩, A120, H⟩ := H
          (try dsimp only at H)
          have A12 := ak A120
          clear A120
          replace H := Option.bind_eq_some_iff.mp H
          obtain ⟨t164, A130, H⟩ := H
          (try dsimp only at H)
          have A13 := ak A130
          clear A130
          by_cases c14 : 0 ≤ x10_1
          · rw [if_pos c14] at H
            have c14b0 : decide (0 ≤ x10_1) = true := decide_eq_true c14
            clear c14
            by_cases c15 : x10_1 < (x3_1.length : Int)
            · rw [if_pos c15] at H
              have c15b0 : decide (x10_1 < (x3_1.length : Int)) = true := decide_eq_true c15
              clear c15
              obtain ⟨y165, hy165⟩ : ∃ y_ : List Int, y_ = (x3_1.set (x10_1 : Int).toNat t164) := ⟨_, rfl⟩
              replace H : (boxpack_Problem_table.l0 k1 y165 (y158.length : Int) (wrap64 (x10_1 + 1)) a0_0 a0_1 a0_2 a0_3 l0_4) = some r := by (rw [hy165]; with_reducible exact H)
              have Ny165 := ak hy165
              clear hy165
              have H' := ak H
              clear H
              try go_wp2
              have n0_ := ak (Kd.R_drew HO_3.1)
              have n1_ := bq_ BK156
              have n2_ := ak (below_drew1 HB.1)
              clear HO_3
              clear BK156
              clear HB
              have HO_3 := n0_
              have BK156 := n1_
              have HB := n2_
              clear n0_ n1_ n2_
              refine start_ (n := 10) (S := fun w' => w'.cell? ⟨gb156, 0, none⟩ = some (.int .i64 a0_0) ∧ w'.cell? ⟨gb156, 1, none⟩ = some (.int .i64 a0_1) ∧ w'.cell? ⟨gb156, 2, none⟩ = some (.int .i64 a0_2) ∧ w'.cell? ⟨gb156, 3, none⟩ = some (.int .i64 a0_3) ∧ w'.cell? ⟨gb156, 4, none⟩ = some (.slice A0_4 l0_4.length c0_4)) (ds := [9]) #[false, false, false, false, false, false, false, false, false, false] (by kernel_rfl) rfl rfl ⟨bc_ BK156 0, bc_ BK156 1, bc_ BK156 2, bc_ BK156 3, bc_ BK156 4⟩ (fun hHeld => ?_); refine with_tabW boxpack_Problem_table.tab5 boxpack_Problem_table.bits5 (fun HT_ HW_ => ?_)
              generalize wr.drew = w17 at HO_3 BK156 HB hHeld ⊢
              refine pr_ 0 HT_ ?_
              refine pr_ 1 HT_ ?_
              refine pr_ 3 HT_ ?_
              refine pr_ 5 HT_ ?_
              refine take_ (i := 2) (N := some 15) (v := ?_) (a' := ?_) #[true, true, true, true, false, true, false, false, false, false] rfl rfl (take_ofW HT_.1 HW_.1 (by kernel_rfl)) (fun _ _ _ h => h) (Or.inl ⟨by rfl, ?_⟩) hHeld ?_ ?_
              rotate_left
              · rintro w' ⟨s0, s1, s2, s3, s4⟩
                go_simp
                with_reducible rfl
              rotate_left
              · simp only [Act.put, List.setIfInBounds_toArray, List.set_cons_zero, List.set_cons_succ, i64_w, i32_w]
                rfl
              refine take_ (i := 4) (N := some 17) (v := ?_) (a' := ?_) #[true, true, true, true, true, true, false, false, false, false] rfl rfl (take_ofW HT_.1 HW_.1 (by kernel_rfl)) (fun _ _ _ h => h) (Or.inl ⟨by rfl, ?_⟩) hHeld ?_ ?_
              rotate_left
              · rintro w' ⟨s0, s1, s2, s3, s4⟩
                go_simp
                with_reducible rfl
              rotate_left
              · simp only [Act.put, List.setIfInBounds_toArray, List.set_cons_zero, List.set_cons_succ, i64_w, i32_w]
                rfl
              refine one_ (i := 6) (N := some 19) #[true, true, true, true, true, true, true, false, false, false] rfl rfl (one_of HT_.1 (by kernel_rfl)) (by decide) (fun K hK => ?_)
              refine goes_ Try.func58 (by kernel_rfl) rfl #[.agg #[.int .i64 a0_0, .int .i64 a0_1, .int .i64 a0_2, .int .i64 a0_3, .slice A0_4 l0_4.length c0_4], .int .i64 x10_1] (by rfl) rfl rfl am_ ?_
              with_reducible refine (boxpack_Problem_size.calls a0_0 a0_1 a0_2 a0_3 _ _ l0_4 x10_1 t161 t162 t163 _ ?side1 ?side2 A12.1).mono ?_
              (case side1 => exact (Kd.C_below HR0_4.1 HB.1))
              (case side2 => exact HC0_4.1)
              rintro e w18 ⟨rfl, hb⟩
              refine ⟨_, rfl, ?_⟩
              have n0_ := ak (Kd.R_below (by exact HO_3.1) hb)
              have n1_ := ak (blk_below (g := gb156) (o := .cells #[.int .i64 a0_0, .int .i64 a0_1, .int .i64 a0_2, .int .i64 a0_3, .slice A0_4 l0_4.length c0_4] 33 (0, 0)) (by exact BK156.1) hb)
              have n2_ := ak (below_step HB.1 hb)
              clear HO_3
              clear BK156
              clear HB
              have HO_3 := n0_
              have BK156 := n1_
              have HB := n2_
              clear n0_ n1_ n2_
              (try clear hb)
              refine hK.out _ _ ⟨bc_ BK156 0, bc_ BK156 1, bc_ BK156 2, bc_ BK156 3, bc_ BK156 4⟩ (fun hHeld => ?_)
              clear hK K
              refine norm_ (a' := ?_) ?_ ?_
              rotate_left
              · show Act.put _ (some 19) _ = _
                simp only [Act.put, List.setIfInBounds_toArray, List.set_cons_zero, List.set_cons_succ, i64_w, i32_w]
                rfl
              refine one_ (i := 7) (N := some 20) #[true, true, true, true, true, true, true, true, false, false] rfl rfl (one_of HT_.1 (by kernel_rfl)) (by decide) (fun K hK => ?_)
              refine goes_ Try.func57 (by kernel_rfl) rfl #[.agg #[.int .i64 a0_0, .int .i64 a0_1, .int .i64 a0_2, .int .i64 a0_3, .slice A0_4 l0_4.length c0_4], .slice Ao10 x3_1.length co10, .agg #[.int .i64 t161, .int .i64 t162, .int .i64 t163]] (by rfl) rfl rfl am_ ?_
              with_reducible refine (boxpack_Problem_least.calls k1 a0_0 a0_1 a0_2 a0_3 _ _ l0_4 _ _ x3_1 t161 t162 t163 t164 _ ?side1 ?side2 ?side3 ?side4 A13.1).mono ?_
              (case side1 => exact (Kd.C_below HR0_4.1 HB.1))
              (case side2 => exact HC0_4.1)
              (case side3 => exact (Kd.R_reads' HO_3.1).2.2)
              (case side4 => exact (Kd.R_reads' HO_3.1).2.1)
              rintro e w19 ⟨rfl, hb⟩
              refine ⟨_, rfl, ?_⟩
              have n0_ := ak (Kd.R_below (by exact HO_3.1) hb)
              have n1_ := ak (blk_below (g := gb156) (o := .cells #[.int .i64 a0_0, .int .i64 a0_1, .int .i64 a0_2, .int .i64 a0_3, .slice A0_4 l0_4.length c0_4] 33 (0, 0)) (by exact BK156.1) hb)
              have n2_ := ak (below_step HB.1 hb)
              clear HO_3
              clear BK156
              clear HB
              have HO_3 := n0_
              have BK156 := n1_
              have HB := n2_
              clear n0_ n1_ n2_
              (try clear hb)
              have p16 : 0 ≤ (x10_1 : Int) := od_
              have q16 : (x10_1 : Int) < ((x3_1.length : Int) : Int) := od_
              obtain ⟨go16, co16, eo16, gb16, gl16, cl16, HG16⟩ := Kd.R_form HO_3.1 (by omega)
              (cases eo16)
              have GB16 := ak gb16
              have GG16 := ak HG16
              clear gb16 gl16 HG16
              obtain ⟨hx16_0, hf16_0⟩ := Kd.R_celln 0 HO_3.1 (x10_1 : Int) p16 q16
              replace p16 := eq_true p16
              replace q16 := eq_true q16
              have HP20 := Kd.R_putn HO_3.1 (x10_1 : Int) t164
              rw [← Ny165.1] at HP20
              have HQ20 := ak HP20
              clear HP20
              refine hK.out _ _ ⟨bc_ BK156 0, bc_ BK156 1, bc_ BK156 2, bc_ BK156 3, bc_ BK156 4⟩ (fun hHeld => ?_)
              clear hK K
              refine norm_ (a' := ?_) ?_ ?_
              rotate_left
              · show Act.put _ (some 20) _ = _
                simp only [Act.put, List.setIfInBounds_toArray, List.set_cons_zero, List.set_cons_succ, i64_w, i32_w]
                rfl
              refine pr_ 8 HT_ ?_
              refine last_ (i := 9) (N := none) #[true, true, true, true, true, true, true, true, true, true] rfl rfl (one_of HT_.1 (by kernel_rfl)) (by decide) (fun K hK => ?_)
              refine skip_ (w1 := ?_) (by rfl) rfl ?_ ?_
              rotate_left
              · go_simp
                rfl
              refine hK.out _ _ ?_
              clear hK K
              refine done_ (done_of HT_.1 (by kernel_rfl)) ?_
              try go_wp2
              (try simp only [← hl3_1])
              go_roundg k1
              case measure => have := HK1.1; omega
              case rel => exact ⟨(y165), (wrap64 (x10_1 + 1)), (by rfl), H', ⟨by have := HK1.1; omega⟩, ⟨by (try simp only [hl3_1]); exact HQ20.1⟩, ⟨by refine blk_far ?_ (by have h_ := Kd.R_ne HO_3.1 BK156.1 (by decide); intro e_; exact h_ (by rw [e_]; rfl)) _; exact BK156.1⟩, ⟨by repeat (with_reducible first | exact HB.1 | refine below_set ?_ GB16.1)⟩⟩
            rw [if_neg c15] at H
            exact absurd H (by simp)
          rw [if_neg c14] at H
          exact absurd H (by simp)
        rw [if_neg c11] at H
        have c11b0 : decide (x10_1 < (y158.length : Int)) = false := decide_eq_false c11
        have c11b1 := c11b0
        simp only [hl3_1] at c11b1
        clear c11
        obtain rfl := Option.some.inj H
        go_wp2
        go_ret
        exact ⟨_, by rfl, by exact HO_3.1, by repeat (with_reducible exact HB.1)⟩
    rw [if_neg c4] at H
    exact absurd H (by simp)
  rw [if_neg c3] at H
  exact absurd H (by simp)

-- NOT PRINTED: function 49 (boxpack_Best_1_1)

-- NOT PRINTED: function 46 (boxpack_Best_1)

end Go.Proofs.Ytgacodhpniehiaa.XA
